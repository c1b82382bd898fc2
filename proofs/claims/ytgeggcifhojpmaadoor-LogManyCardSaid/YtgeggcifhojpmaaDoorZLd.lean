/- Texts of this claim, merged: LogTail, LogOpen. -/
import Derived.Test.YtgeggcifhojpmaaDoorZLc
import Derived.Deep.Cut
import Derived.Deep.CutRange
import Derived.Deep.CutBlock
import Derived.Deep.MidRow
/- Records, Last; Open of a dead disk, and of one that is too small. -/
namespace Go.Proofs.YtgeggcifhojpmaaDoor.PB
open Go.RowKit Go.Proofs.YtgeggcifhojpmaaDoorW.PrintWords Go.Proofs.YtgeggcifhojpmaaDoorW.PrintLast Go.Proofs.YtgeggcifhojpmaaDoorW.PrintMore
attribute [local go_sem] max2_mx min2_mn max_two min_two max_three min_three max_four min_four   -- for this text's walks alone
set_option linter.unusedVariables false
set_option linter.unusedSimpArgs false

set_option maxHeartbeats 4000000 in
set_option maxRecDepth 100000 in
theorem log_Records.calls {w : World} {g lb : Nat} {la : Option Addr} {ll lc : Nat} {has : Bool} {rc mk : Int} {sl : Nat} (hl : w.heap[lb]? = some (.cells #[.pointer (some ⟨g, 0, none⟩), .slice la ll lc, .bool has, .int .u64 rc, .int .u64 mk, .int .i64 (sl : Int)] 59 (0, 0))) (h0 : 0 ≤ rc) (h1 : rc < 9223372036854775808) : Calls Tryd.prog 21 #[.pointer (some ⟨lb, 0, none⟩)] w fun e w' => e = .returned (.int .i64 rc) ∧ Below w.heap.size w w' := by
  have l0 : w.cell? ⟨lb, 0, none⟩ = some (.pointer (some ⟨g, 0, none⟩)) := (blk_cell hl 0).trans rfl
  have l1 : w.cell? ⟨lb, 1, none⟩ = some (.slice la ll lc) := (blk_cell hl 1).trans rfl
  have l2 : w.cell? ⟨lb, 2, none⟩ = some (.bool has) := (blk_cell hl 2).trans rfl
  have l3 : w.cell? ⟨lb, 3, none⟩ = some (.int .u64 rc) := (blk_cell hl 3).trans rfl
  have l4 : w.cell? ⟨lb, 4, none⟩ = some (.int .u64 mk) := (blk_cell hl 4).trans rfl
  have l5 : w.cell? ⟨lb, 5, none⟩ = some (.int .i64 (sl : Int)) := (blk_cell hl 5).trans rfl
  have e1 := Aside0.mk (show wrap64 rc = rc by unfold wrap64; omega)
  clear hl h0 h1
  have e1_ := e1.out
  go_enter Tryd.func21, Tryd.ntmps21
  go_wp2
  go_ret
  exact ⟨by first | rfl | exact congrArg Ending.returned (congrArg (Value.int .i64) e1.out), by repeat (first | exact Below.refl _ _ | apply pw_below_drewN | apply below_drew1)⟩
set_option maxHeartbeats 4000000 in
set_option maxRecDepth 100000 in
theorem log_Last.calls {w : World} {g lb : Nat} {la : Option Addr} {ll lc : Nat} {has : Bool} {rc mk : Int} {sl : Nat} (hl : w.heap[lb]? = some (.cells #[.pointer (some ⟨g, 0, none⟩), .slice la ll lc, .bool has, .int .u64 rc, .int .u64 mk, .int .i64 (sl : Int)] 59 (0, 0))) {b0 : Nat} {d : List Int} (hd : w.ownsRow b0 5 1 (.slice la ll lc) ll (nums .u8 d)) (hdl : d.length = ll) (hs : ll ≤ 1000000) : Calls Tryd.prog 23 #[.pointer (some ⟨lb, 0, none⟩)] w fun e w' => ∃ v, e = .returned v ∧ w'.ownsRow w.heap.size 5 1 v d.length (nums .u8 d) ∧ Below w.heap.size w w' := by
  have l0 : w.cell? ⟨lb, 0, none⟩ = some (.pointer (some ⟨g, 0, none⟩)) := (blk_cell hl 0).trans rfl
  have l1 : w.cell? ⟨lb, 1, none⟩ = some (.slice la ll lc) := (blk_cell hl 1).trans rfl
  have l2 : w.cell? ⟨lb, 2, none⟩ = some (.bool has) := (blk_cell hl 2).trans rfl
  have l3 : w.cell? ⟨lb, 3, none⟩ = some (.int .u64 rc) := (blk_cell hl 3).trans rfl
  have l4 : w.cell? ⟨lb, 4, none⟩ = some (.int .u64 mk) := (blk_cell hl 4).trans rfl
  have l5 : w.cell? ⟨lb, 5, none⟩ = some (.int .i64 (sl : Int)) := (blk_cell hl 5).trans rfl
  have HR := Aside0.mk (own_reads' hd)
  have HS := Aside0.mk (And.intro hdl hs)
  clear hl hd hdl hs
  go_enter Tryd.func23, Tryd.ntmps23
  go_wp2_with ((refine print_append_row (w0 := w) w.heap.size rfl (.const (.slice none 0 0)) (.tmp 6) 22 5 .u8 1 rfl Tryd.underlying22 info5 (by decide) (.slice none 0 0) [] d la ll lc rfl rfl (own_nil _ _ _ _) HR.out (by repeat (first | exact Below.refl _ _ | apply pw_below_drewN | apply below_drew1)) (Nat.le_refl _) (by have := HS.out; simp; omega) ?_; intro v1 w1 hown hb1 hgr hat))
  rw [List.nil_append] at hown
  go_wp2
  go_ret
  exact ⟨_, rfl, hown, hb1⟩
section
variable {w : World} {base g q s : Nat} {hs : List Nat} {bs : List (List Int)} {cut pre : Int} {dead : Bool}
set_option maxHeartbeats 4000000 in
set_option maxRecDepth 100000 in
theorem log_Open.dead_ (hd : DK w base g q s hs bs cut pre true) : Calls Tryd.prog 15 #[.pointer (some ⟨g, 0, none⟩)] w fun e w' => e = .returned (.tuple #[.pointer none, .slice none 0 0, .int .i64 42]) ∧ Below w.heap.size w w' := by
  have HD := Aside0.mk hd
  clear hd
  go_enter Tryd.func15, Tryd.ntmps15
  go_wp2_with fail
  refine (disk_Dead.calls HD.out).mono ?_
  rintro e w5 ⟨rfl, ⟨nd, rfl⟩⟩
  (try dsimp only)
  go_wp2
  (try simp only [Exit.inBlock, Exit.then])
  first | go_ret | go_ret2 | go_ret3
  exact ⟨rfl, by repeat (first | exact Below.refl _ _ | apply pw_below_drewN | apply below_drew1)⟩
set_option maxHeartbeats 4000000 in
set_option maxRecDepth 100000 in
theorem log_Open.room (hd : DK w base g q s hs bs cut pre false) (hn : 0 < hs.length) (h4 : lgRight hs.length s = false) : Calls Tryd.prog 15 #[.pointer (some ⟨g, 0, none⟩)] w fun e w' => e = .returned (.tuple #[.pointer none, .slice none 0 0, .int .i64 50]) ∧ Below w.heap.size w w' := by
  have HD := Aside0.mk hd
  have HN := Aside0.mk (And.intro hn h4)
  clear hd hn h4
  go_enter Tryd.func15, Tryd.ntmps15
  go_wp2_with fail
  refine (disk_Dead.calls HD.out).mono ?_
  rintro e w5 ⟨rfl, ⟨nd, rfl⟩⟩
  (try dsimp only)
  go_wp2_with fail
  refine (log_right.calls (HD.out.drewN nd) HN.out.1).mono ?_
  rintro e w5 ⟨rfl, ⟨nd2, rfl⟩⟩
  rw [HN.out.2]
  (try dsimp only)
  go_wp2
  (try simp only [Exit.inBlock, Exit.then])
  first | go_ret | go_ret2 | go_ret3
  exact ⟨rfl, by repeat (first | exact Below.refl _ _ | apply pw_below_drewN | apply below_drew1)⟩
end
end Go.Proofs.YtgeggcifhojpmaaDoor.PB
/- What Open tells of a disk. -/
namespace Go.Proofs.YtgeggcifhojpmaaDoor.PB
open Go.RowKit Go.Proofs.YtgeggcifhojpmaaDoorW.PrintWords Go.Proofs.YtgeggcifhojpmaaDoorW.PrintLast Go.Proofs.YtgeggcifhojpmaaDoorW.PrintMore
attribute [local go_sem] max2_mx min2_mn max_two min_two max_three min_three max_four min_four   -- for this text's walks alone
set_option linter.unusedVariables false
set_option linter.unusedSimpArgs false

/-- The greatest mark of all blocks. -/
def lgMax (B : List (List Int)) : Int := B.foldl (fun a l => mx (mx a (un ((l.drop 0).take 8))) (un ((l.drop (l.length - 8)).take 8))) 0
theorem lgMax_snoc (B : List (List Int)) (l : List Int) : lgMax (B ++ [l]) = mx (mx (lgMax B) (un ((l.drop 0).take 8))) (un ((l.drop (l.length - 8)).take 8)) := by simp [lgMax]
theorem info22 : (Tryd.prog.info? 22).map (fun i => (i.zero, i.size, i.bytes)) = some (some (.slice none 0 0), 1, 24) := by kernel_rfl
theorem info65 : (Tryd.prog.info? 65).map (fun i => (i.zero, i.size, i.bytes)) = some (some (.agg #[.int .u64 0, .int .u64 0, .int .i64 0, .int .i64 0, .slice none 0 0]), 5, 56) := by kernel_rfl
/-- Slices of whole blocks. -/
def lgSl (s : Nat) (cs : List Nat) : List Value := cs.map fun c => .slice (some ⟨c, 0, none⟩) s s
theorem lgSl_length (s : Nat) (cs : List Nat) : (lgSl s cs).length = cs.length := by simp [lgSl]
abbrev Rc := Int × Int × List Int
/-- What Open makes of a slot's record: the records found, the slot of the last. -/
def lgStep (j : Nat) (o : Option Rc) (p : List Rc × Nat) : List Rc × Nat := match o with
  | none => p
  | some b => match p.1 with
    | [] => ([b], j)
    | a :: _ => if b.1 < a.1 then ([b, a], p.2) else (p.1 ++ [b], j)
def lgSt (o : Nat → Option Rc) : Nat → List Rc × Nat
  | 0 => ([], 0)
  | j + 1 => lgStep j (o j) (lgSt o j)
theorem lgSt_len (o : Nat → Option Rc) : ∀ j, (lgSt o j).1.length ≤ j + 2
  | 0 => by simp [lgSt]
  | j + 1 => by
    have ih := lgSt_len o j
    show (lgStep j (o j) (lgSt o j)).1.length ≤ _
    unfold lgStep
    cases o j with
    | none => simp only; omega
    | some b =>
      simp only
      cases h : (lgSt o j).1 with
      | nil => simp
      | cons a r =>
        simp only
        rw [h] at ih
        simp only [List.length_cons] at ih
        split
        · simp
        · simp; omega
/-- The cells of the records found. -/
def fsC (fs : List (Rc × Value)) : List Value := fs.flatMap fun x => [.int .u64 x.1.1, .int .u64 x.1.2.1, .int .i64 0, .int .i64 0, x.2]
theorem fsC_cons (x : Rc × Value) (fs : List (Rc × Value)) : fsC (x :: fs) = [.int .u64 x.1.1, .int .u64 x.1.2.1, .int .i64 0, .int .i64 0, x.2] ++ fsC fs := rfl
theorem fsC_snoc (x : Rc × Value) (fs : List (Rc × Value)) : fsC (fs ++ [x]) = fsC fs ++ [.int .u64 x.1.1, .int .u64 x.1.2.1, .int .i64 0, .int .i64 0, x.2] := by simp [fsC]
theorem RB.df {w w' : World} {S : Nat → Prop} {rb s : Nat} {cs : List Nat} {bs : List (List Int)} (h : RB w rb s cs bs) (hf : DF S w w') (h1 : ¬ S rb) (h2 : ∀ c ∈ cs, ¬ S c) : RB w' rb s cs bs :=
  ⟨fun j c hj => cell_keep (h.cell j c hj) hf h1, h.len, fun j c l hj hl => ⟨(h.each j c l hj hl).1, (h.each j c l hj hl).2.1, (hf.block c (blk_lt (h.each j c l hj hl).2.2) (h2 c (List.mem_of_getElem? hj))).trans (h.each j c l hj hl).2.2⟩⟩
theorem load_mid {P : Program} {o : Oper} {a : Act} {w : World} {b k : Nat} {ty : TypeId} {p : Operand} {cs : List Value} {d : TypeDesc} (ho : o.op = .load ty p) (hp : a.eval p = .pointer (some ⟨b, k, none⟩)) (hc : w.rangeAt b k cs) (hu : P.underlying ty = some d) (hd : d.isRow = true) (hi : (P.info? ty).map (·.size) = some cs.length) :
    (execOp a.eval o).run P w = .ok (.value (.agg cs.toArray)) w := by
  have h := run_loadAt_mid (P := P) w b k ty cs d hc hu hd hi
  unfold execOp
  simp only [ho, hp]
  simp [h, Sem.run_bind, Result.andThen]
/-- What the log keeps of the records found. -/
def lgLast (fs : List (Rc × Value)) : Value := (fs.getLast?.map fun x => x.2).getD (.slice none 0 0)
def lgHas (fs : List (Rc × Value)) : Bool := (fs.getLast?).isSome
def lgRcn (fs : List (Rc × Value)) : Int := (fs.getLast?.map fun x => x.1.2.1).getD 0
theorem kdInt {w : World} {base : Nat} {v : Value} {xs : List Int} (h : w.ownsRow base 5 1 v xs.length (nums .u8 xs)) : ∃ A c, v = .slice A xs.length c ∧ xs.length ≤ c ∧ Kd.C (Kd.int .u8) w A xs.length xs :=
  Kd.R_reads (d := Kd.int .u8) (ok := fun _ => True) (Kd.R_of_own h (fun _ _ => trivial))
theorem fsC_get : ∀ (fs : List (Rc × Value)) (i k : Nat) (x : Rc × Value), fs[i]? = some x → k < 5 → (fsC fs)[i * 5 + k]? = [Value.int .u64 x.1.1, .int .u64 x.1.2.1, .int .i64 0, .int .i64 0, x.2][k]?
  | [], i, k, x, h, _ => by simp at h
  | y :: fs, 0, k, x, h, hk => by
    obtain rfl : y = x := by simpa using h
    rw [fsC_cons, Nat.zero_mul, Nat.zero_add, List.getElem?_append_left (by simpa using hk)]
  | y :: fs, i + 1, k, x, h, hk => by
    rw [fsC_cons, List.getElem?_append_right (by simp; omega)]
    simp only [List.length_cons, List.length_nil]
    rw [show (i + 1) * 5 + k - (0 + 1 + 1 + 1 + 1 + 1) = i * 5 + k by omega]
    exact fsC_get fs i k x (by simpa using h) hk
theorem lg_snoc (fs : List (Rc × Value)) (x : Rc × Value) : lgLast (fs ++ [x]) = x.2 ∧ lgHas (fs ++ [x]) = true ∧ lgRcn (fs ++ [x]) = x.1.2.1 := by
  unfold lgLast lgHas lgRcn
  simp
/-- A log, opened: its cells, the bytes of its last record. -/
structure LogAt (w : World) (base g lb : Nat) (la : Option Addr) (ll lc : Nat) (has : Bool) (rc mk : Int) (sl : Nat) (d : List Int) : Prop where
  cells : w.heap[lb]? = some (.cells #[.pointer (some ⟨g, 0, none⟩), .slice la ll lc, .bool has, .int .u64 rc, .int .u64 mk, .int .i64 (sl : Int)] 59 (0, 0))
  len : d.length = ll
  own : w.ownsRow base 5 1 (.slice la ll lc) ll (nums .u8 d)
/-- A row of rows of bytes that is ours, each of its rows too. -/
structure RW (w : World) (b0 : Nat) (v : Value) (all : List (List Int)) : Prop where
  it : ∃ us : List Value, us.length = all.length ∧ w.ownsRow b0 22 1 v us.length us ∧ ∀ (k : Nat) (u : Value) (d : List Int), us[k]? = some u → all[k]? = some d → w.ownsRow b0 5 1 u d.length (nums .u8 d)
/-- What Open has told of a disk that has a log. -/
structure OpenP (w : World) (g : Nat) (M : Int) (st : List Rc × Nat) (e : Ending) (w' : World) : Prop where
  kept : Below w.heap.size w w'
  res : ∃ lb A oc la lc, e = .returned (.tuple #[.pointer (some ⟨lb, 0, none⟩), .slice A st.1.length oc, .int .i64 0]) ∧ w.heap.size ≤ lb ∧ st.1.length ≤ oc ∧ RW w' w.heap.size (.slice A st.1.length oc) (st.1.map (·.2.2)) ∧
    LogAt w' w.heap.size g lb la ((st.1.getLast?.map (·.2.2)).getD []).length lc (st.1.getLast?).isSome ((st.1.getLast?.map (·.2.1)).getD 0) M st.2 ((st.1.getLast?.map (·.2.2)).getD [])
theorem lgRecL_len {s : Nat} {B : List (List Int)} {first : Nat} {m : Int} (hB : ∀ l ∈ B, IsB l ∧ 36 ≤ l.length) : ∀ (fuel i : Nat) (ln : Int) (kb out d : List Int), ln < 4294967296 → lgRecL s B first m fuel i ln kb out = some (some d) → (d.length : Int) < 4294967296
  | 0, i, ln, kb, out, d, _, h => by unfold lgRecL at h; cases h
  | fuel + 1, i, ln, kb, out, d, hl, h => by
    unfold lgRecL at h
    split at h
    · cases h
    · split at h
      · rename_i h2
        obtain rfl := Option.some.inj (Option.some.inj h)
        rw [h2]
        exact hl
      · cases hb : B[first + i + 1]? with
        | none => rw [hb] at h; cases h
        | some l =>
          rw [hb] at h
          dsimp only at h
          have hm := hB l (List.mem_of_getElem? hb)
          cases hk : lgRead l with
          | none => rw [hk] at h; cases h
          | some k =>
            rw [hk] at h
            dsimp only at h
            split at h
            · cases h
            · obtain ⟨_, _, _, _, _, _, h5, _, _⟩ := lgRead_some hk hm.2 hm.1
              exact lgRecL_len hB fuel (i + 1) k.ln k.b _ d h5 h
theorem lgRec_len {s n : Nat} {B : List (List Int)} {slot : Nat} (hB : ∀ l ∈ B, IsB l ∧ 36 ≤ l.length) {m r : Int} {d : List Int} (h : lgRec s n B slot = some (some (m, r, d))) : d.length < 4294967296 := by
  unfold lgRec at h
  cases hb : B[slot * (n / 2)]? with
  | none => rw [hb] at h; cases h
  | some l =>
    rw [hb] at h
    dsimp only at h
    have hm := hB l (List.mem_of_getElem? hb)
    cases hk : lgRead l with
    | none => rw [hk] at h; cases h
    | some k =>
      rw [hk] at h
      dsimp only at h
      obtain ⟨_, _, _, _, _, _, h5, _, _⟩ := lgRead_some hk hm.2 hm.1
      split at h
      · cases h
      · obtain ⟨x, hx, hx2⟩ := Option.map_eq_some_iff.1 h
        cases x with
        | none => cases hx2
        | some d2 =>
          obtain ⟨_, _, rfl⟩ : k.m = m ∧ k.r = r ∧ d2 = d := by
            have := Option.some.inj hx2
            simp only [Prod.mk.injEq] at this
            exact this
          have := lgRecL_len hB _ _ _ _ _ _ h5 hx
          omega
theorem lgSt_mem (o : Nat → Option Rc) : ∀ (j : Nat) (x : Rc), x ∈ (lgSt o j).1 → ∃ k, k < j ∧ o k = some x
  | 0, x, h => by cases h
  | j + 1, x, h => by
    have h' : x ∈ (lgStep j (o j) (lgSt o j)).1 := h
    have ih := lgSt_mem o j x
    have up : x ∈ (lgSt o j).1 → ∃ k, k < j + 1 ∧ o k = some x := fun hx => by
      obtain ⟨k, hk, he⟩ := ih hx
      exact ⟨k, by omega, he⟩
    unfold lgStep at h'
    cases ho : o j with
    | none =>
      rw [ho] at h'
      exact up h'
    | some b =>
      rw [ho] at h'
      simp only at h'
      cases hq : (lgSt o j).1 with
      | nil =>
        rw [hq] at h'
        obtain rfl := List.mem_singleton.1 h'
        exact ⟨j, by omega, ho⟩
      | cons a r =>
        rw [hq] at h'
        simp only at h'
        split at h'
        · rcases List.mem_cons.1 h' with rfl | h2
          · exact ⟨j, by omega, ho⟩
          · obtain rfl := List.mem_singleton.1 h2
            exact up (by rw [hq]; exact List.mem_cons_self)
        · rcases List.mem_append.1 h' with h2 | h2
          · exact up (by rw [hq]; exact h2)
          · obtain rfl := List.mem_singleton.1 h2
            exact ⟨j, by omega, ho⟩
theorem own_frozen {w : World} {base n cap g : Nat} {e : TypeId} {size : Nat} {xs : List Value} (h : w.ownsRow base e size (.slice (some ⟨g, 0, none⟩) n cap) n xs) (i : Nat) : w.frozen? ⟨g, i, none⟩ = false := by
  rcases h.2 with ⟨h', _⟩ | ⟨g', cap', cur, h', _, hh, _⟩
  · cases h'
  · have : g = g' := by injection h' with h'; injection h' with h'; injection h' with h'
    subst this
    simp [World.frozen?, hh]
theorem own_max {w : World} {base n : Nat} {e : TypeId} {size : Nat} {v : Value} {xs : List Value} (h : w.ownsRow base e size v n xs) : n ≤ maxLen := by
  rcases h.2 with ⟨_, h'⟩ | ⟨g', cap', cur, h', _, _, h1, h2, _⟩
  · rw [h']; exact Nat.zero_le _
  · exact Nat.le_trans h1 h2
theorem lgLast_own {w : World} {base : Nat} (fs : List (Rc × Value)) (h : ∀ x ∈ fs, w.ownsRow base 5 1 x.2 x.1.2.2.length (nums .u8 x.1.2.2)) : ∃ la lc, lgLast fs = .slice la (((fs.map Prod.fst).getLast?.map (·.2.2)).getD []).length lc ∧ w.ownsRow base 5 1 (.slice la (((fs.map Prod.fst).getLast?.map (·.2.2)).getD []).length lc) (((fs.map Prod.fst).getLast?.map (·.2.2)).getD []).length (nums .u8 (((fs.map Prod.fst).getLast?.map (·.2.2)).getD [])) := by
  rw [List.getLast?_map]
  unfold lgLast
  cases hx : fs.getLast? with
  | none => exact ⟨none, 0, rfl, own_nil _ _ _ _⟩
  | some x =>
    have h1 := h x (List.mem_of_getLast? hx)
    obtain ⟨A, c, he⟩ := own_slice h1
    refine ⟨A, c, he, ?_⟩
    rw [he] at h1
    exact h1
theorem kdRow {w : World} {b base n oc : Nat} {A : Option Addr} {us : List Value} {ds : List (List Int)} (h : w.ownsRow base 22 1 (.slice A n oc) n us) (hn : ds.length = n) (hm : n ≤ 1000000) (he : ∀ (k : Nat) (u : Value) (d : List Int), us[k]? = some u → ds[k]? = some d → w.ownsRow b 5 1 u d.length (nums .u8 d)) : Kd.C (Kd.slice 5 (Kd.int .u8)) w A n ds := by
  refine ⟨hn, by omega, fun h0 => ?_⟩
  obtain ⟨ob, cap, hv, _, _⟩ := h.form h0
  injection hv with h1 h2 h3
  refine ⟨_, h1, fun j d hd => ?_⟩
  have hj : j < us.length := by
    have h2 := h.1
    have := (List.getElem?_eq_some_iff.1 hd).1
    omega
  have hu : us[j]? = some us[j] := List.getElem?_eq_getElem hj
  obtain ⟨uA, uc, hus, hle, hC⟩ := kdInt (he j _ d hu hd)
  refine ⟨[us[j]], rfl, ⟨uA, uc, by rw [hus], hle, hC⟩, fun i u hi => ?_⟩
  have hi0 : i = 0 := by
    rcases i with _ | i
    · rfl
    · cases hi
  subst hi0
  obtain rfl : us[j] = u := Option.some.inj hi
  have h4 := h.cells (g := ob) (by rw [h1]; rfl) j _ hu
  rw [show (Kd.slice 5 (Kd.int .u8)).sz = 1 from rfl, Nat.mul_one, Nat.add_zero]
  exact h4
section
variable {w : World} {base g q s : Nat} {hs : List Nat} {bs : List (List Int)} {cut pre : Int} {dead : Bool}
def log_Open.R14.T : Bool × List (List Nat × List Nat) := (true, [([], []), ([], []), ([1], [1]), ([2], [2]), ([3], [3]), ([], []), ([5], [5]), ([6], [6]), ([], []), ([], []), ([9], [9]), ([10], [10]), ([8, 11], [8, 11]), ([12, 7], [12]), ([4, 7, 13], [4, 7, 13]), ([0, 0, 1, 2, 3, 4, 5, 6, 7, 8, 9, 10, 11, 12, 13, 14], [0]), ([15, 0, 1, 2, 3, 4, 5, 6, 7, 8, 9, 10, 11, 12, 13, 14], [15]), ([16, 14, 13, 0, 1, 2, 3, 4, 5, 6, 7, 8, 9, 10, 11, 12, 13, 14], [14, 16])])
theorem log_Open.R14.tab : rtab .any (opsOf Tryd.f15 14) = log_Open.R14.T := by kernel_rfl
theorem log_Open.R14.bits : waitsOk log_Open.R14.T.2 [0, 0, 2, 6, 14, 0, 32, 96, 0, 0, 512, 1536, 3840, 8160, 16382, 32767, 65535, 131071] = true := by kernel_rfl
def log_Open.R22.T : Bool × List (List Nat × List Nat) := (true, [([], []), ([0], [0]), ([1], [1]), ([2], [2]), ([3], [3]), ([4, 3], [3, 4]), ([5, 3], [3, 5]), ([6, 3], [3, 6]), ([3], [3]), ([8, 3], [3, 8]), ([7, 9, 3], [3, 7, 9]), ([3, 10], [3, 10])])
theorem log_Open.R22.tab : rtab .any (opsOf Tryd.f15 22) = log_Open.R22.T := by kernel_rfl
theorem log_Open.R22.bits : waitsOk log_Open.R22.T.2 [0, 1, 3, 7, 15, 31, 63, 127, 15, 271, 1023, 2047] = true := by kernel_rfl
def log_Open.R23.T : Bool × List (List Nat × List Nat) := (true, [([], []), ([], []), ([1], [1]), ([2], [2]), ([0, 3], [0, 3]), ([4, 0, 1, 2, 3, 4], [1, 4])])
theorem log_Open.R23.tab : rtab .any (opsOf Tryd.f15 23) = log_Open.R23.T := by kernel_rfl
theorem log_Open.R23.bits : waitsOk log_Open.R23.T.2 [0, 0, 2, 6, 15, 31] = true := by kernel_rfl
def log_Open.R32.T : Bool × List (List Nat × List Nat) := (true, [([], []), ([], []), ([], []), ([], []), ([3], [3]), ([], []), ([5], [5]), ([0, 0, 3, 4], [0]), ([7, 0, 3, 4], [7]), ([8, 4, 0, 3, 4], [4, 8]), ([1, 0, 1, 3, 4, 5, 6, 7, 8, 9], [1]), ([10, 0, 1, 3, 4, 5, 6, 7, 8, 9], [10]), ([11, 6, 9, 0, 1, 3, 4, 5, 6, 7, 8, 9], [6, 11]), ([2, 0, 1, 2, 3, 4, 5, 6, 7, 8, 9, 10, 11, 12], [2]), ([13, 0, 1, 2, 3, 4, 5, 6, 7, 8, 9, 10, 11, 12], [13]), ([14, 12, 0, 1, 2, 3, 4, 5, 6, 7, 8, 9, 10, 11, 12], [14])])
theorem log_Open.R32.tab : rtab .any (opsOf Tryd.f15 32) = log_Open.R32.T := by kernel_rfl
theorem log_Open.R32.bits : waitsOk log_Open.R32.T.2 [0, 0, 0, 0, 8, 0, 32, 25, 153, 409, 1019, 2043, 4091, 8191, 16383, 32767] = true := by kernel_rfl
set_option maxHeartbeats 40000000 in
set_option maxRecDepth 100000 in
theorem log_Open.runs (hd : DK w base g q s hs bs cut pre false) (hn : 0 < hs.length) (h64 : hs.length ≤ 64) (hs6 : s ≤ 65536) (h4 : lgRight hs.length s = true) (hb : ∀ l ∈ bs, IsB l) (o : Nat → Option Rc) (ho : ∀ j, j ≤ 1 → lgRec s hs.length bs j = some (o j)) (ge : Addr) (hge : w.cell? ⟨0, 0, none⟩ = some (.iface 91 (.pointer (some ge)))) :
    Calls Tryd.prog 15 #[.pointer (some ⟨g, 0, none⟩)] w fun e w' => OpenP w g (lgMax bs) (lgSt o 2) e w' := by
  have hu65 := Tryd.underlying65
  have hu59 := Tryd.underlying59
  have HD0 := Aside0.mk hd
  have NN := Aside0.mk (And.intro hn (And.intro h64 hs6))
  have RG := Aside0.mk (show 4 ≤ hs.length ∧ 256 ≤ s by
    unfold lgRight at h4
    simpa using h4)
  have H4 := Aside0.mk h4
  have IB := Aside0.mk hb
  have HO := Aside0.mk ho
  have GE0 := Aside0.mk hge
  clear hd hn h64 hs6 h4 hb hge ho
  go_enter Tryd.func15, Tryd.ntmps15
  go_wp2_with fail
  refine (disk_Dead.calls HD0.out).mono ?_
  rintro e w5 ⟨rfl, ⟨nd, rfl⟩⟩
  (try dsimp only)
  go_wp2_with fail
  refine (log_right.calls (HD0.out.drewN nd) NN.out.1).mono ?_
  rintro e w5 ⟨rfl, ⟨nd2, rfl⟩⟩
  rw [H4.out]
  (try dsimp only)
  go_upto_region 7 with (fail)
  obtain ⟨lb, hlb⟩ : ∃ x_, x_ = (w.drewN (nd + nd2)).heap.size := ⟨_, rfl⟩
  have hlb2 : w.heap.size = lb := hlb.symm
  have HL : Aside0 (((w.drewN (nd + nd2)).alloc (.cells #[.pointer (some ⟨g, 0, none⟩), .slice none 0 0, .bool false, .int .u64 0, .int .u64 0, .int .i64 0] 59)).heap[lb]? = some (.cells #[.pointer (some ⟨g, 0, none⟩), .slice none 0 0, .bool false, .int .u64 0, .int .u64 (lgMax (bs.take 0)), .int .i64 0] 59 (0, 0))) := ⟨by rw [hlb]; exact blk_new _ _⟩
  have LBB := Aside0.mk (show w.heap.size ≤ lb by omega)
  have HB := Aside0.mk (below_alloc (pw_below_drewN (Below.refl w.heap.size w) (nd + nd2)) (.cells #[.pointer (some ⟨g, 0, none⟩), .slice none 0 0, .bool false, .int .u64 0, .int .u64 0, .int .i64 0] 59))
  rw [hlb2]
  clear hlb hlb2
  generalize (w.drewN (nd + nd2)).alloc (.cells #[.pointer (some ⟨g, 0, none⟩), .slice none 0 0, .bool false, .int .u64 0, .int .u64 0, .int .i64 0] 59) = w4 at HL HB ⊢
  go_wp2_with fail
  refine (disk_Blocks.calls (HD0.out.under HB.out)).mono ?_
  rintro e w5 ⟨rfl, ⟨nd3, rfl⟩⟩
  (try dsimp only)
  have hb_ := pw_below_drewN (Below.refl w4.heap.size w4) nd3
  have n_HL := Aside0.mk (blk_below HL.out hb_)
  have n_HB := Aside0.mk (below_step HB.out hb_)
  clear HL HB
  have HL := n_HL
  have HB := n_HB
  clear n_HL n_HB hb_
  generalize w4.drewN nd3 = w4 at HL HB ⊢
  have HV : Aside0 (w4.ownsRow w.heap.size 22 1 (.slice none 0 0) (lgSl s []).length (lgSl s [])) := ⟨own_nil _ _ _ _⟩
  have HCS : Aside0 (∀ (j c : Nat) (l : List Int), ([] : List Nat)[j]? = some c → bs[j]? = some l → w4.heap[c]? = some (.cells (dkB l) 5 (0, 0))) := ⟨fun j c l h _ => by simp at h⟩
  go_wp2_with fail
  go_loopg [28, 6] hs.length (fun kq v28 v6 w' => ∃ (i : Nat) (cs : List Nat) (v : Value), v28 = .int .i64 (i : Int) ∧ v = v6 ∧ Aside0 (i + kq = hs.length ∧ cs.length = i) ∧ Aside0 (w'.heap[lb]? = some (.cells #[.pointer (some ⟨g, 0, none⟩), .slice none 0 0, .bool false, .int .u64 0, .int .u64 (lgMax (bs.take i)), .int .i64 0] 59 (0, 0))) ∧ Aside0 (Below w.heap.size w w') ∧ Aside0 (w'.ownsRow w.heap.size 22 1 v (lgSl s cs).length (lgSl s cs)) ∧ Aside0 (∀ (j c : Nat) (l : List Int), cs[j]? = some c → bs[j]? = some l → w'.heap[c]? = some (.cells (dkB l) 5 (0, 0))))
  case atStart => exact ⟨0, [], _, rfl, rfl, ⟨by omega, rfl⟩, ⟨HL.out⟩, ⟨HB.out⟩, ⟨HV.out⟩, ⟨HCS.out⟩⟩
  case round =>
    clear HL HB HV HCS
    obtain ⟨i, cs, v, rfl, rfl, KQ, HL, HB, HV, HCS⟩ := hrel
    generalize wr = w4 at HL HB HV HCS ⊢
    by_cases c6 : i < hs.length
    · have c6b : decide ((i : Int) < (hs.length : Int)) = true := decide_eq_true (by omega)
      have c6c : decide (i < hs.length) = true := decide_eq_true c6
      have q1 : ((i : Int) < (hs.length : Int)) = True := eq_true (by omega)
      have H6 := Aside0.mk c6
      obtain ⟨l, hl⟩ : ∃ l, bs[i]? = some l := ⟨_, List.getElem?_eq_getElem (by rw [HD0.out.len]; exact c6)⟩
      obtain ⟨b_, l_, hz1, hz2, hz3, hz4⟩ := HD0.out.at c6
      obtain rfl : l_ = l := Option.some.inj (hz2.symm.trans hl)
      have LN := Aside0.mk (And.intro hl (And.intro hz3 (IB.out l_ (List.mem_of_getElem? hl))))
      clear hz1 hz2 hz4 hl hz3 c6
      go_wp2_with fail
      refine (disk_Read.ok (HD0.out.under HB.out) NN.out.2.2 i l_ H6.out LN.out.1 rfl).mono ?_
      rintro e w5 ⟨c, rfl, hc, hcw, hb⟩
      (try dsimp only)
      have HC := Aside0.mk hc
      have hb_ := hb
      have n_HL := Aside0.mk (blk_below HL.out hb_)
      have n_HB := Aside0.mk (below_step HB.out hb_)
      have n_HV := Aside0.mk (pw_own_below HV.out hb_)
      have n_HCS := Aside0.mk (fun j c l hc hl => blk_below (HCS.out j c l hc hl) hb_)
      clear HL HB HV HCS
      have HL := n_HL
      have HB := n_HB
      have HV := n_HV
      have HCS := n_HCS
      clear n_HL n_HB n_HV n_HCS hb_
      clear hb hc hcw
      generalize w5 = w4 at HL HB HV HCS HC ⊢
      go_upto_region 14 with ((refine print_append (w0 := w) w.heap.size rfl (.tmp 40) (.tmp 42) 33 22 (.slice none 0 0) 24 rfl Tryd.underlying33 info22 rfl (by decide) v (lgSl s cs) (.slice (some ⟨c, 0, none⟩) s s) rfl rfl rfl HV.out HB.out (below_size HB.out) (by rw [lgSl_length]; have := KQ.out; have := NN.out; omega) ?_; intro v1 w1 hown hb1 hgr hat))
      have n_HL := Aside0.mk ((hgr.block lb (blk_lt HL.out) (own_ne HV.out HL.out (by decide))).trans HL.out)
      have n_HC := Aside0.mk ((hgr.block c (blk_lt HC.out) (own_ne HV.out HC.out (by decide))).trans HC.out)
      have n_HCS : Aside0 (∀ (j k : Nat) (l : List Int), (cs ++ [c])[j]? = some k → bs[j]? = some l → w1.heap[k]? = some (.cells (dkB l) 5 (0, 0))) := ⟨fun j k l hk hl => by
        rcases Nat.lt_or_ge j cs.length with hj | hj
        · rw [List.getElem?_append_left hj] at hk
          exact (hgr.block k (blk_lt (HCS.out j k l hk hl)) (own_ne HV.out (HCS.out j k l hk hl) (by decide))).trans (HCS.out j k l hk hl)
        · have hj2 : j = cs.length := by
            have := (List.getElem?_eq_some_iff.1 hk).1
            rw [List.length_append, List.length_singleton] at this
            omega
          subst hj2
          obtain rfl : c = k := by simpa using hk
          rw [KQ.out.2, LN.out.1] at hl
          obtain rfl := Option.some.inj hl
          exact n_HC.out⟩
      have n_HV : Aside0 (w1.ownsRow w.heap.size 22 1 v1 (lgSl s (cs ++ [c])).length (lgSl s (cs ++ [c]))) := ⟨by
        rw [show lgSl s (cs ++ [c]) = lgSl s cs ++ [(.slice (some ⟨c, 0, none⟩) s s)] by simp [lgSl]]
        exact hown⟩
      clear HL HB HV HCS HC hgr hat hown
      have HL := n_HL
      have HC := n_HC
      have HCS := n_HCS
      have HV := n_HV
      have HB := Aside0.mk hb1
      clear n_HL n_HC n_HCS n_HV hb1
      generalize w1 = w4 at HL HC HCS HV HB ⊢
      obtain ⟨M, hM⟩ : ∃ M, M = lgMax (bs.take i) := ⟨_, rfl⟩
      obtain ⟨a1, ha1⟩ : ∃ a, un ((l_.drop 0).take 8) = a := ⟨_, rfl⟩
      obtain ⟨a2, ha2⟩ : ∃ a, un ((l_.drop (s - 8)).take 8) = a := ⟨_, rfl⟩
      have VA1 := Aside0.mk ha1
      have VA2 := Aside0.mk ha2
      have VM := Aside0.mk hM
      rw [← hM] at HL
      clear ha1 ha2 hM
      have l8a : (8 ≤ s) = True := eq_true (by have := RG.out; omega)
      have l8b : ((8 : Int) ≤ ((s : Nat) : Int)) = True := eq_true (by have := RG.out; omega)
      have l8c : (((s : Nat) : Int) < (8 : Int)) = False := eq_false (by have := RG.out; omega)
      have l8d : (s < 8) = False := eq_false (by have := RG.out; omega)
      have k8a : (s - 8 ≤ s) = True := eq_true (by omega)
      have k8b : (((s - 8 : Nat) : Int) ≤ ((s : Nat) : Int)) = True := eq_true (by omega)
      have k8c : (((s : Nat) : Int) < ((s - 8 : Nat) : Int)) = False := eq_false (by omega)
      have k8d : (s < s - 8) = False := eq_false (by omega)
      have n8 : (s = 8) = False := eq_false (by have := RG.out; omega)
      have m8 : (s = s - 8) = False := eq_false (by have := RG.out; omega)
      have z8 : s - (s - 8) = 8 := by have := RG.out; omega
      have X8 := Aside0.mk (show wrap64 ((s : Int) - 8) = ((s - 8 : Nat) : Int) by unfold wrap64; have := RG.out; have := NN.out; omega)
      refine start_ (n := 18) (S := fun w' => w'.cell? ⟨lb, 4, none⟩ = some (.int .u64 M)) (ds := [17]) #[false, false, false, false, false, false, false, false, false, false, false, false, false, false, false, false, false, false] (by kernel_rfl) rfl rfl ((blk_cell HL.out 4).trans rfl) (fun hHeld => ?_)
      refine with_tabW log_Open.R14.tab log_Open.R14.bits (fun HT_ HW_ => ?_)
      have hb_ := below_drew1 (Below.refl w4.heap.size w4)
      have n_HL := Aside0.mk (blk_below HL.out hb_)
      have n_HB := Aside0.mk (below_step HB.out hb_)
      have n_HV := Aside0.mk (pw_own_below HV.out hb_)
      have n_HCS := Aside0.mk (fun j c l hc hl => blk_below (HCS.out j c l hc hl) hb_)
      have n_HC := Aside0.mk (blk_below HC.out hb_)
      clear HL HB HV HCS HC
      have HL := n_HL
      have HB := n_HB
      have HV := n_HV
      have HCS := n_HCS
      have HC := n_HC
      clear n_HL n_HB n_HV n_HCS n_HC hb_
      generalize w4.drew = w4 at HL HB HV HCS HC hHeld ⊢
      refine pure_ (i := 0) (N := some 44) (v := ?_) (a' := ?_) #[true, false, false, false, false, false, false, false, false, false, false, false, false, false, false, false, false, false] rfl rfl (any_of HT_.out (by kernel_rfl)) (fun _ _ _ h => h) (Or.inl ⟨by rfl, ?_⟩) ?_ ?_
      rotate_left
      · intro w'
        go_simp
        with_reducible rfl
      rotate_left
      · simp only [Act.put, List.setIfInBounds_toArray, List.set_cons_zero, List.set_cons_succ, i64_w, i32_w]
        rfl
      refine pure_ (i := 1) (N := some 45) (v := ?_) (a' := ?_) #[true, true, false, false, false, false, false, false, false, false, false, false, false, false, false, false, false, false] rfl rfl (any_of HT_.out (by kernel_rfl)) (fun _ _ _ h => h) (Or.inl ⟨by rfl, ?_⟩) ?_ ?_
      rotate_left
      · intro w'
        go_simp
        with_reducible rfl
      rotate_left
      · simp only [Act.put, List.setIfInBounds_toArray, List.set_cons_zero, List.set_cons_succ, i64_w, i32_w]
        rfl
      refine pure_ (i := 2) (N := some 46) (v := ?_) (a' := ?_) #[true, true, true, false, false, false, false, false, false, false, false, false, false, false, false, false, false, false] rfl rfl (any_of HT_.out (by kernel_rfl)) (fun _ _ _ h => h) (Or.inl ⟨by rfl, ?_⟩) ?_ ?_
      rotate_left
      · intro w'
        go_simp
        with_reducible rfl
      rotate_left
      · simp only [Act.put, List.setIfInBounds_toArray, List.set_cons_zero, List.set_cons_succ, i64_w, i32_w]
        rfl
      refine pure_ (i := 3) (N := some 47) (v := ?_) (a' := ?_) #[true, true, true, true, false, false, false, false, false, false, false, false, false, false, false, false, false, false] rfl rfl (any_of HT_.out (by kernel_rfl)) (fun _ _ _ h => h) (Or.inl ⟨by rfl, ?_⟩) ?_ ?_
      rotate_left
      · intro w'
        go_simp
        with_reducible rfl
      rotate_left
      · simp only [Act.put, List.setIfInBounds_toArray, List.set_cons_zero, List.set_cons_succ, i64_w, i32_w]
        rfl
      refine pure_ (i := 5) (N := some 49) (v := ?_) (a' := ?_) #[true, true, true, true, false, true, false, false, false, false, false, false, false, false, false, false, false, false] rfl rfl (any_of HT_.out (by kernel_rfl)) (fun _ _ _ h => h) (Or.inl ⟨by rfl, ?_⟩) ?_ ?_
      rotate_left
      · intro w'
        go_simp
        with_reducible rfl
      rotate_left
      · simp only [Act.put, List.setIfInBounds_toArray, List.set_cons_zero, List.set_cons_succ, i64_w, i32_w]
        rfl
      refine pure_ (i := 6) (N := some 50) (v := ?_) (a' := ?_) #[true, true, true, true, false, true, true, false, false, false, false, false, false, false, false, false, false, false] rfl rfl (any_of HT_.out (by kernel_rfl)) (fun _ _ _ h => h) (Or.inl ⟨by rfl, ?_⟩) ?_ ?_
      rotate_left
      · intro w'
        go_simp
        with_reducible rfl
      rotate_left
      · simp only [Act.put, List.setIfInBounds_toArray, List.set_cons_zero, List.set_cons_succ, i64_w, i32_w]
        rfl
      refine pure_ (i := 8) (N := some 52) (v := ?_) (a' := ?_) #[true, true, true, true, false, true, true, false, true, false, false, false, false, false, false, false, false, false] rfl rfl (any_of HT_.out (by kernel_rfl)) (fun _ _ _ h => h) (Or.inl ⟨by rfl, ?_⟩) ?_ ?_
      rotate_left
      · intro w'
        go_simp
        with_reducible rfl
      rotate_left
      · simp only [Act.put, List.setIfInBounds_toArray, List.set_cons_zero, List.set_cons_succ, i64_w, i32_w]
        rfl
      refine pure_ (i := 9) (N := some 53) (v := ?_) (a' := ?_) #[true, true, true, true, false, true, true, false, true, true, false, false, false, false, false, false, false, false] rfl rfl (any_of HT_.out (by kernel_rfl)) (fun _ _ _ h => h) (Or.inl ⟨by rfl, ?_⟩) ?_ ?_
      rotate_left
      · intro w'
        go_simp
        with_reducible rfl
      rotate_left
      · simp only [Act.put, List.setIfInBounds_toArray, List.set_cons_zero, List.set_cons_succ, i64_w, i32_w]
        rfl
      refine pure_ (i := 10) (N := some 54) (v := ?_) (a' := ?_) #[true, true, true, true, false, true, true, false, true, true, true, false, false, false, false, false, false, false] rfl rfl (any_of HT_.out (by kernel_rfl)) (fun _ _ _ h => h) (Or.inl ⟨by rfl, ?_⟩) ?_ ?_
      rotate_left
      · intro w'
        go_simp
        with_reducible rfl
      rotate_left
      · simp only [Act.put, List.setIfInBounds_toArray, List.set_cons_zero, List.set_cons_succ, i64_w, i32_w]
        rfl
      refine pure_ (i := 11) (N := some 55) (v := ?_) (a' := ?_) #[true, true, true, true, false, true, true, false, true, true, true, true, false, false, false, false, false, false] rfl rfl (any_of HT_.out (by kernel_rfl)) (fun _ _ _ h => h) (Or.inl ⟨by rfl, ?_⟩) ?_ ?_
      rotate_left
      · intro w'
        have x8_ := X8.out
        go_simp
        with_reducible rfl
      rotate_left
      · simp only [Act.put, List.setIfInBounds_toArray, List.set_cons_zero, List.set_cons_succ, i64_w, i32_w]
        rfl
      refine pure_ (i := 12) (N := some 56) (v := ?_) (a' := ?_) #[true, true, true, true, false, true, true, false, true, true, true, true, true, false, false, false, false, false] rfl rfl (any_of HT_.out (by kernel_rfl)) (fun _ _ _ h => h) (Or.inl ⟨by rfl, ?_⟩) ?_ ?_
      rotate_left
      · intro w'
        have x8_ := X8.out
        go_simp
        with_reducible rfl
      rotate_left
      · simp only [Act.put, List.setIfInBounds_toArray, List.set_cons_zero, List.set_cons_succ, i64_w, i32_w]
        rfl
      refine take_ (i := 4) (N := some 48) (v := ?_) (a' := ?_) #[true, true, true, true, true, true, true, false, true, true, true, true, true, false, false, false, false, false] rfl rfl (take_ofW HT_.out HW_.out (by kernel_rfl)) (fun _ _ _ h => h) (Or.inl ⟨by rfl, ?_⟩) hHeld ?_ ?_
      rotate_left
      · intro w' s0
        go_simp
        with_reducible rfl
      rotate_left
      · simp only [Act.put, List.setIfInBounds_toArray, List.set_cons_zero, List.set_cons_succ, i64_w, i32_w]
        rfl
      refine one_ (i := 7) (N := some 51) #[true, true, true, true, true, true, true, true, true, true, true, true, true, false, false, false, false, false] rfl rfl (one_of HT_.out (by kernel_rfl)) (by decide) (fun K hK => ?_)
      refine goes_ Tryd.func31 (by kernel_rfl) rfl #[.slice (some ⟨c, 0, none⟩) 8 s] (by rfl) rfl rfl (by first | rfl | (go_simp; done)) ?_
      refine (lg_getv HC.out LN.out.2.2 (by have := LN.out; have := NN.out; omega) 0 8 s (by have := LN.out; have := RG.out; omega) (by decide) (by have := RG.out; omega) VA1.out).mono ?_
      rintro e w5 ⟨rfl, ⟨nd, rfl⟩⟩
      refine ⟨_, rfl, ?_⟩
      have hb_ := pw_below_drewN (Below.refl w4.heap.size w4) nd
      have n_HL := Aside0.mk (blk_below HL.out hb_)
      have n_HB := Aside0.mk (below_step HB.out hb_)
      have n_HV := Aside0.mk (pw_own_below HV.out hb_)
      have n_HCS := Aside0.mk (fun j c l hc hl => blk_below (HCS.out j c l hc hl) hb_)
      have n_HC := Aside0.mk (blk_below HC.out hb_)
      clear HL HB HV HCS HC
      have HL := n_HL
      have HB := n_HB
      have HV := n_HV
      have HCS := n_HCS
      have HC := n_HC
      clear n_HL n_HB n_HV n_HCS n_HC hb_
      generalize w4.drewN nd = w4 at HL HB HV HCS HC ⊢
      refine hK.out _ _ ((blk_cell HL.out 4).trans rfl) (fun hHeld => ?_)
      clear hK K
      refine norm_ (a' := ?_) ?_ ?_
      rotate_left
      · show Act.put _ (some 51) _ = _
        simp only [Act.put, List.setIfInBounds_toArray, List.set_cons_zero, List.set_cons_succ, i64_w, i32_w]
        rfl
      refine one_ (i := 13) (N := some 57) #[true, true, true, true, true, true, true, true, true, true, true, true, true, true, false, false, false, false] rfl rfl (one_of HT_.out (by kernel_rfl)) (by decide) (fun K hK => ?_)
      refine goes_ Tryd.func31 (by kernel_rfl) rfl #[.slice (some ⟨c, (s - 8), none⟩) 8 8] (by rfl) rfl rfl (by first | rfl | (go_simp; done)) ?_
      refine (lg_getv HC.out LN.out.2.2 (by have := LN.out; have := NN.out; omega) (s - 8) 8 8 (by have := LN.out; have := RG.out; omega) (by decide) (by have := RG.out; omega) VA2.out).mono ?_
      rintro e w5 ⟨rfl, ⟨nd, rfl⟩⟩
      refine ⟨_, rfl, ?_⟩
      have hb_ := pw_below_drewN (Below.refl w4.heap.size w4) nd
      have n_HL := Aside0.mk (blk_below HL.out hb_)
      have n_HB := Aside0.mk (below_step HB.out hb_)
      have n_HV := Aside0.mk (pw_own_below HV.out hb_)
      have n_HCS := Aside0.mk (fun j c l hc hl => blk_below (HCS.out j c l hc hl) hb_)
      have n_HC := Aside0.mk (blk_below HC.out hb_)
      clear HL HB HV HCS HC
      have HL := n_HL
      have HB := n_HB
      have HV := n_HV
      have HCS := n_HCS
      have HC := n_HC
      clear n_HL n_HB n_HV n_HCS n_HC hb_
      generalize w4.drewN nd = w4 at HL HB HV HCS HC ⊢
      refine hK.out _ _ ((blk_cell HL.out 4).trans rfl) (fun hHeld => ?_)
      clear hK K
      refine norm_ (a' := ?_) ?_ ?_
      rotate_left
      · show Act.put _ (some 57) _ = _
        simp only [Act.put, List.setIfInBounds_toArray, List.set_cons_zero, List.set_cons_succ, i64_w, i32_w]
        rfl
      refine pure_ (i := 14) (N := some 58) (v := ?_) (a' := ?_) #[true, true, true, true, true, true, true, true, true, true, true, true, true, true, true, false, false, false] rfl rfl (any_of HT_.out (by kernel_rfl)) (fun _ _ _ h => h) (Or.inl ⟨by rfl, ?_⟩) ?_ ?_
      rotate_left
      · intro w'
        go_simp
        with_reducible rfl
      rotate_left
      · simp only [Act.put, List.setIfInBounds_toArray, List.set_cons_zero, List.set_cons_succ, i64_w, i32_w]
        rfl
      refine pure_ (i := 15) (N := some 59) (v := ?_) (a' := ?_) #[true, true, true, true, true, true, true, true, true, true, true, true, true, true, true, true, false, false] rfl rfl (any_of HT_.out (by kernel_rfl)) (fun _ _ _ h => h) (Or.inl ⟨by rfl, ?_⟩) ?_ ?_
      rotate_left
      · intro w'
        go_simp
        with_reducible rfl
      rotate_left
      · simp only [Act.put, List.setIfInBounds_toArray, List.set_cons_zero, List.set_cons_succ, i64_w, i32_w]
        rfl
      refine pure_ (i := 16) (N := some 60) (v := ?_) (a' := ?_) #[true, true, true, true, true, true, true, true, true, true, true, true, true, true, true, true, true, false] rfl rfl (any_of HT_.out (by kernel_rfl)) (fun _ _ _ h => h) (Or.inl ⟨by rfl, ?_⟩) ?_ ?_
      rotate_left
      · intro w'
        go_simp
        with_reducible rfl
      rotate_left
      · simp only [Act.put, List.setIfInBounds_toArray, List.set_cons_zero, List.set_cons_succ, i64_w, i32_w]
        rfl
      refine last_ (i := 17) (N := none) #[true, true, true, true, true, true, true, true, true, true, true, true, true, true, true, true, true, true] rfl rfl (one_of HT_.out (by kernel_rfl)) (by decide) (fun K hK => ?_)
      have hs0 : w4.cell? ⟨lb, 4, none⟩ = some (.int .u64 M) := (blk_cell HL.out 4).trans rfl
      have hfs0 := blk_frozen HL.out 4
      refine skip_ (w1 := w4.setCell ⟨lb, 4, none⟩ (.int .u64 (mx (mx M a1) a2))) (by rfl) rfl (by go_simp) ?_
      have n_HL : Aside0 ((w4.setCell ⟨lb, 4, none⟩ (.int .u64 (mx (mx M a1) a2))).heap[lb]? = some (.cells #[.pointer (some ⟨g, 0, none⟩), .slice none 0 0, .bool false, .int .u64 0, .int .u64 (mx (mx M a1) a2), .int .i64 0] 59 (0, 0))) := ⟨blk_put HL.out 4 _ rfl⟩
      have n_HB := Aside0.mk (Below.setCell (p := ⟨lb, 4, none⟩) HB.out LBB.out (.int .u64 (mx (mx M a1) a2)))
      have n_HV := Aside0.mk (own_setCell HV.out (p := ⟨lb, 4, none⟩) (own_ne HV.out HL.out (by decide)) (.int .u64 (mx (mx M a1) a2)))
      have n_HCS : Aside0 (∀ (j k : Nat) (l : List Int), (cs ++ [c])[j]? = some k → bs[j]? = some l → (w4.setCell ⟨lb, 4, none⟩ (.int .u64 (mx (mx M a1) a2))).heap[k]? = some (.cells (dkB l) 5 (0, 0))) := ⟨fun j k l hc hl => blk_far (HCS.out j k l hc hl) (p := ⟨lb, 4, none⟩) (blk_ne (HCS.out j k l hc hl) HL.out (by decide)) _⟩
      clear HL HB HV HCS hs0 hfs0
      have HL := n_HL
      have HB := n_HB
      have HV := n_HV
      have HCS := n_HCS
      clear n_HL n_HB n_HV n_HCS
      generalize w4.setCell ⟨lb, 4, none⟩ (.int .u64 (mx (mx M a1) a2)) = w4 at HL HB HV HCS ⊢
      refine hK.out _ _ ?_
      clear hK K
      refine done_ (done_of HT_.out (by kernel_rfl)) ?_
      clear HT_ HW_ hHeld

      go_wp2
      have e3 : wrap64 ((i : Int) + 1) = (i : Int) + 1 := by unfold wrap64; have := H6.out; have := NN.out; omega
      go_roundg (gk - 1)
      case measure => have := KQ.out; have := H6.out; omega
      case rel =>
        refine ⟨i + 1, cs ++ [c], v1, by first | rfl | (simp [e3]; done) | (simp only [e3]; rfl) | (push_cast; rfl), rfl, ⟨by have := KQ.out; have := H6.out; omega, by rw [List.length_append, List.length_singleton, KQ.out.2]⟩, ⟨?_⟩, ⟨HB.out⟩, ⟨HV.out⟩, ⟨HCS.out⟩⟩
        have hlt : i < bs.length := by rw [HD0.out.len]; exact H6.out
        have h1 : bs.take (i + 1) = bs.take i ++ [l_] := by
          rw [List.take_add_one, LN.out.1]
          rfl
        rw [h1, lgMax_snoc, ← VM.out, LN.out.2.1, VA1.out, VA2.out]
        exact HL.out
    · have c6b : decide ((i : Int) < (hs.length : Int)) = false := decide_eq_false (by omega)
      have c6c : decide (i < hs.length) = false := decide_eq_false c6
      have q1 : ((i : Int) < (hs.length : Int)) = False := eq_false (by omega)
      have el : i = hs.length := by have := KQ.out; omega
      subst el
      clear c6
      rw [List.take_of_length_le (by rw [HD0.out.len]; exact Nat.le_refl _)] at HL
      obtain ⟨rb, cap, rfl, _, _⟩ := HV.out.form (by rw [lgSl_length, KQ.out.2]; exact NN.out.1)
      have CSL := Aside0.mk KQ.out.2
      have RB0 : Aside0 (RB w4 rb s cs bs) := ⟨⟨fun j c hj => by
        have h1 := HV.out.cells (g := rb) rfl j (.slice (some ⟨c, 0, none⟩) s s) (by simp [lgSl, hj])
        rwa [add_at] at h1, by rw [HD0.out.len, CSL.out], fun j c l hj hl => by
        have hjn : j < hs.length := by rw [← CSL.out]; exact (List.getElem?_eq_some_iff.1 hj).1
        obtain ⟨b_, l_, hz1, hz2, hz3, hz4⟩ := HD0.out.at hjn
        obtain rfl : l_ = l := Option.some.inj (hz2.symm.trans hl)
        exact ⟨hz3, IB.out l_ (List.mem_of_getElem? hl), HCS.out j c l_ hj hl⟩⟩⟩
      have LBN : Aside0 (¬ rb = lb ∧ ∀ c ∈ cs, ¬ c = lb) := ⟨by
        refine ⟨fun e => own_ne HV.out HL.out (by decide) (by rw [e]; rfl), fun c hc e => ?_⟩
        obtain ⟨j, hj, he⟩ := List.mem_iff_getElem.1 hc
        have hjl : j < bs.length := by rw [HD0.out.len, ← CSL.out]; exact hj
        exact blk_ne (HCS.out j c bs[j] (by rw [List.getElem?_eq_getElem hj, he]) (List.getElem?_eq_getElem hjl)) HL.out (by decide) e⟩
      rw [lgSl_length, CSL.out]
      clear KQ HV HCS
      obtain ⟨M, hM⟩ : ∃ M, M = lgMax bs := ⟨_, rfl⟩
      have VM := Aside0.mk hM
      rw [← hM] at HL
      clear hM
      obtain ⟨w0, hw0⟩ : ∃ x, x = w4 := ⟨_, rfl⟩
      have HB0 : Aside0 (Below w.heap.size w w0) := ⟨by rw [hw0]; exact HB.out⟩
      have n_RB0 : Aside0 (RB w0 rb s cs bs) := ⟨by rw [hw0]; exact RB0.out⟩
      have HF : Aside0 (DF (fun k => k = lb) w0 w4) := ⟨by rw [hw0]; exact DF.refl _ _⟩
      clear RB0 HB hw0
      have RB0 := n_RB0
      clear n_RB0
      go_wp2_with fail
      go_loopg [62, 10] 2 (fun kq v62 v10 w' => ∃ (j sl : Nat) (fs : List (Rc × Value)) (v : Value), v62 = .int .i64 (j : Int) ∧ v = v10 ∧ Aside0 (j + kq = 2) ∧ Aside0 (lgSt o j = (fs.map Prod.fst, sl)) ∧ Aside0 (w'.heap[lb]? = some (.cells #[.pointer (some ⟨g, 0, none⟩), .slice none 0 0, .bool false, .int .u64 0, .int .u64 M, .int .i64 (sl : Int)] 59 (0, 0))) ∧ Aside0 (DF (fun k => k = lb) w0 w') ∧ Aside0 (w'.ownsRow w0.heap.size 65 5 v fs.length (fsC fs)) ∧ Aside0 (∀ x ∈ fs, w'.ownsRow w0.heap.size 5 1 x.2 x.1.2.2.length (nums .u8 x.1.2.2)))
      case atStart => exact ⟨0, 0, [], _, rfl, rfl, ⟨rfl⟩, ⟨rfl⟩, ⟨HL.out⟩, ⟨HF.out⟩, ⟨own_nil _ _ _ _⟩, ⟨fun x hx => by cases hx⟩⟩
      case round =>
        clear HL HF
        obtain ⟨j, sl, fs, v, rfl, rfl, KQ, ST, HL, HF, HFR, HFS⟩ := hrel
        generalize wr = w4 at HL HF HFR HFS ⊢
        by_cases c6 : j < 2
        · have c6b : decide ((j : Int) < 2) = true := decide_eq_true (by omega)
          have q1 : ((j : Int) < 2) = True := eq_true (by omega)
          have H6 := Aside0.mk c6
          clear c6
          go_wp2_with fail
          have HSZ := Aside0.mk HF.out.size
          refine (log_record.calls (HD0.out.under (HF.out.below HB0.out (below_size HB0.out) (fun k hk => hk ▸ LBB.out))) NN.out.1 NN.out.2.1 (by have := RG.out; omega) NN.out.2.2 ge (cell_below GE0.out (HF.out.below HB0.out (below_size HB0.out) (fun k hk => hk ▸ LBB.out))) (RB0.out.df HF.out LBN.out.1 LBN.out.2) (n := hs.length) CSL.out rfl j (by have := H6.out; omega) (o j) (HO.out j (by have := H6.out; omega))).mono ?_
          rintro e w5 ⟨hb, hrec⟩
          (try dsimp only)
          have hb_ := hb
          have n_HL := Aside0.mk (blk_below HL.out hb_)
          have n_HF := Aside0.mk (HF.out.trans (DF.of_below hb_))
          have n_HFR := Aside0.mk (pw_own_below HFR.out hb_)
          have n_HFS := Aside0.mk (fun x hx => pw_own_below (HFS.out x hx) hb_)
          clear HL HF HFR HFS
          have HL := n_HL
          have HF := n_HF
          have HFR := n_HFR
          have HFS := n_HFS
          clear n_HL n_HF n_HFR n_HFS hb_
          cases ho : o j with
          | none =>
            rw [ho] at hrec
            have hrec2 : e = .returned (.tuple #[.agg #[.int .u64 0, .int .u64 0, .int .i64 0, .int .i64 0, .slice none 0 0], .iface 91 (.pointer (some ge))]) := hrec
            subst hrec2
            clear hrec hb
            generalize w5 = w4 at HL HF HFR HFS ⊢
            (try dsimp only)
            go_upto_region 21 with ((refine event_skip rfl rfl (store_new rfl rfl rfl info65s rfl (by simp [Value.oneCell'])) ?_))
            obtain ⟨xk, hxk⟩ : ∃ x_, x_ = w4.heap.size := ⟨_, rfl⟩
            have HK : Aside0 ((w4.alloc (.cells #[.int .u64 0, .int .u64 0, .int .i64 0, .int .i64 0, .slice none 0 0] 65)).heap[xk]? = some (.cells #[.int .u64 0, .int .u64 0, .int .i64 0, .int .i64 0, .slice none 0 0] 65 (0, 0))) := ⟨by rw [hxk]; exact blk_new _ _⟩

            try rw [← hxk]
            clear hxk
            have hb_ := below_alloc (Below.refl w4.heap.size w4) (.cells #[.int .u64 0, .int .u64 0, .int .i64 0, .int .i64 0, .slice none 0 0] 65)
            have n_HL := Aside0.mk (blk_below HL.out hb_)
            have n_HF := Aside0.mk (HF.out.trans (DF.of_below hb_))
            have n_HFR := Aside0.mk (pw_own_below HFR.out hb_)
            have n_HFS := Aside0.mk (fun x hx => pw_own_below (HFS.out x hx) hb_)
            clear HL HF HFR HFS
            have HL := n_HL
            have HF := n_HF
            have HFR := n_HFR
            have HFS := n_HFS
            clear n_HL n_HF n_HFR n_HFS hb_
            generalize w4.alloc (.cells #[.int .u64 0, .int .u64 0, .int .i64 0, .int .i64 0, .slice none 0 0] 65) = w4 at HK HL HF HFR HFS ⊢
            have c0 : w4.cell? ⟨0, 0, none⟩ = some (.iface 91 (.pointer (some ge))) := cell_below GE0.out (HF.out.below HB0.out (below_size HB0.out) (fun k hk => hk ▸ LBB.out))
            go_wp2_with fail
            refine (errors_Is.same ge _).mono ?_
            rintro e w5 ⟨rfl, hw5⟩
            rw [hw5]
            clear hw5
            (try dsimp only)
            clear c0
            go_wp2
            have e3 : wrap64 ((j : Int) + 1) = (j : Int) + 1 := by unfold wrap64; have := KQ.out; omega
            go_roundg (gk - 1)
            case measure => have := KQ.out; have := H6.out; omega
            case rel =>
              refine ⟨j + 1, sl, fs, _, by first | rfl | (simp [e3]; done) | (simp only [e3]; rfl) | (push_cast; rfl), rfl, ⟨by have := KQ.out; have := H6.out; omega⟩, ⟨by show lgStep j (o j) (lgSt o j) = _; rw [ho, ST.out]; rfl⟩, ⟨HL.out⟩, ⟨HF.out⟩, ⟨HFR.out⟩, ⟨HFS.out⟩⟩
          | some b =>
            obtain ⟨m, r, d⟩ := b
            rw [ho] at hrec
            obtain ⟨vv, rfl, hvv⟩ := hrec
            have HVV := Aside0.mk (own_less hvv HSZ.out)
            clear hvv hb
            generalize w5 = w4 at HL HF HFR HFS HVV ⊢
            obtain ⟨vA, vc, rfl⟩ := own_slice HVV.out
            obtain ⟨vv, hvv⟩ : ∃ x, x = Value.slice vA d.length vc := ⟨_, rfl⟩
            have VVS := Aside0.mk hvv
            rw [← hvv] at HVV ⊢
            have VVO : Aside0 (∀ u ∈ [Value.int .u64 m, .int .u64 r, .int .i64 0, .int .i64 0, vv], u.oneCell' = true) := ⟨fun u hu => by
              simp only [List.mem_cons, List.not_mem_nil, or_false] at hu
              rcases hu with rfl | rfl | rfl | rfl | rfl
              · rfl
              · rfl
              · rfl
              · rfl
              · rw [hvv]
                rfl⟩
            have hv1 : vv.oneCell' = true := by rw [hvv]; rfl
            clear hvv
            have FSL : Aside0 ((fs.length + 1) * 56 ≤ 140737488355328) := ⟨by
              have h1 := lgSt_len o j
              rw [ST.out, List.length_map] at h1
              have := H6.out
              omega⟩
            (try dsimp only)
            have K1 : (#[Value.int .u64 m, .int .u64 r, .int .i64 0, .int .i64 0, vv] : Array Value).all (·.oneCell') = true := by rw [VVS.out]; simp [Value.oneCell']
            go_upto_region 21 with ((refine event_skip rfl rfl (store_new rfl rfl rfl info65s rfl K1) ?_))
            obtain ⟨xk, hxk⟩ : ∃ x_, x_ = w4.heap.size := ⟨_, rfl⟩
            have HK : Aside0 ((w4.alloc (.cells #[.int .u64 m, .int .u64 r, .int .i64 0, .int .i64 0, vv] 65)).heap[xk]? = some (.cells #[.int .u64 m, .int .u64 r, .int .i64 0, .int .i64 0, vv] 65 (0, 0))) := ⟨by rw [hxk]; exact blk_new _ _⟩

            try rw [← hxk]
            clear hxk
            have hb_ := below_alloc (Below.refl w4.heap.size w4) (.cells #[.int .u64 m, .int .u64 r, .int .i64 0, .int .i64 0, vv] 65)
            have n_HL := Aside0.mk (blk_below HL.out hb_)
            have n_HF := Aside0.mk (HF.out.trans (DF.of_below hb_))
            have n_HFR := Aside0.mk (pw_own_below HFR.out hb_)
            have n_HFS := Aside0.mk (fun x hx => pw_own_below (HFS.out x hx) hb_)
            have n_HVV := Aside0.mk (pw_own_below HVV.out hb_)
            clear HL HF HFR HFS HVV
            have HL := n_HL
            have HF := n_HF
            have HFR := n_HFR
            have HFS := n_HFS
            have HVV := n_HVV
            clear n_HL n_HF n_HFR n_HFS n_HVV hb_
            generalize w4.alloc (.cells #[.int .u64 m, .int .u64 r, .int .i64 0, .int .i64 0, vv] 65) = w4 at HK HL HF HFR HFS HVV ⊢
            have c0 : w4.cell? ⟨0, 0, none⟩ = some (.iface 91 (.pointer (some ge))) := cell_below GE0.out (HF.out.below HB0.out (below_size HB0.out) (fun k hk => hk ▸ LBB.out))
            go_wp2_with fail
            refine (errors_Is.nil ge _).mono ?_
            rintro e w5 ⟨rfl, hw5⟩
            rw [hw5]
            clear hw5
            (try dsimp only)
            clear c0
            rcases Nat.eq_zero_or_pos fs.length with hz | hz
            · have hfs : fs = [] := List.eq_nil_of_length_eq_zero hz
              obtain ⟨A, cv, rfl⟩ := own_slice HFR.out
              have f1 : ((0 : Int) < (fs.length : Int)) = False := eq_false (by omega)
              have f2 : (0 < fs.length) = False := eq_false (by omega)
              have f3 : decide ((0 : Int) < (fs.length : Int)) = false := decide_eq_false (by omega)
              have HZ := Aside0.mk hfs
              clear hz hfs
              go_upto_region 22 with (fail)
              refine start_ (n := 12) (S := fun w' => w'.cell? ⟨xk, 0, none⟩ = some (.int .u64 m)) (ds := []) #[false, false, false, false, false, false, false, false, false, false, false, false] (by kernel_rfl) rfl rfl ((blk_cell HK.out 0).trans rfl) (fun hHeld => ?_)
              refine with_tabW log_Open.R22.tab log_Open.R22.bits (fun HT_ HW_ => ?_)
              have hb_ := below_drew1 (Below.refl w4.heap.size w4)
              have n_HL := Aside0.mk (blk_below HL.out hb_)
              have n_HF := Aside0.mk (HF.out.trans (DF.of_below hb_))
              have n_HFR := Aside0.mk (pw_own_below HFR.out hb_)
              have n_HFS := Aside0.mk (fun x hx => pw_own_below (HFS.out x hx) hb_)
              have n_HK := Aside0.mk (blk_below HK.out hb_)
              have n_HVV := Aside0.mk (pw_own_below HVV.out hb_)
              clear HL HF HFR HFS HK HVV
              have HL := n_HL
              have HF := n_HF
              have HFR := n_HFR
              have HFS := n_HFS
              have HK := n_HK
              have HVV := n_HVV
              clear n_HL n_HF n_HFR n_HFS n_HK n_HVV hb_
              generalize w4.drew = w4 at HL HF HFR HFS HK HVV hHeld ⊢
              refine pure_ (i := 0) (N := some 75) (v := ?_) (a' := ?_) #[true, false, false, false, false, false, false, false, false, false, false, false] rfl rfl (any_of HT_.out (by kernel_rfl)) (fun _ _ _ h => h) (Or.inl ⟨by rfl, ?_⟩) ?_ ?_
              rotate_left
              · intro w'
                go_simp
                with_reducible rfl
              rotate_left
              · simp only [Act.put, List.setIfInBounds_toArray, List.set_cons_zero, List.set_cons_succ, i64_w, i32_w]
                rfl
              refine pure_ (i := 1) (N := some 76) (v := ?_) (a' := ?_) #[true, true, false, false, false, false, false, false, false, false, false, false] rfl rfl (any_of HT_.out (by kernel_rfl)) (fun _ _ _ h => h) (Or.inl ⟨by rfl, ?_⟩) ?_ ?_
              rotate_left
              · intro w'
                go_simp
                with_reducible rfl
              rotate_left
              · simp only [Act.put, List.setIfInBounds_toArray, List.set_cons_zero, List.set_cons_succ, i64_w, i32_w]
                rfl
              refine pure_ (i := 2) (N := some 77) (v := ?_) (a' := ?_) #[true, true, true, false, false, false, false, false, false, false, false, false] rfl rfl (any_of HT_.out (by kernel_rfl)) (fun _ _ _ h => h) (Or.inl ⟨by rfl, ?_⟩) ?_ ?_
              rotate_left
              · intro w'
                go_simp
                with_reducible rfl
              rotate_left
              · simp only [Act.put, List.setIfInBounds_toArray, List.set_cons_zero, List.set_cons_succ, i64_w, i32_w]
                rfl
              refine pure_ (i := 3) (N := some 78) (v := ?_) (a' := ?_) #[true, true, true, true, false, false, false, false, false, false, false, false] rfl rfl (any_of HT_.out (by kernel_rfl)) (fun _ _ _ h => h) (Or.inl ⟨by rfl, ?_⟩) ?_ ?_
              rotate_left
              · intro w'
                go_simp
                with_reducible rfl
              rotate_left
              · simp only [Act.put, List.setIfInBounds_toArray, List.set_cons_zero, List.set_cons_succ, i64_w, i32_w]
                rfl
              refine pure_ (i := 4) (N := some 79) (v := undef) (a' := ?_) #[true, true, true, true, true, false, false, false, false, false, false, false] rfl rfl (any_of HT_.out (by kernel_rfl)) (fun _ _ _ h => h) (Or.inr ⟨by rfl, rfl⟩) ?_ ?_
              rotate_left
              · simp only [Act.put, List.setIfInBounds_toArray, List.set_cons_zero, List.set_cons_succ, i64_w, i32_w]
                rfl
              refine pure_ (i := 5) (N := some 80) (v := undef) (a' := ?_) #[true, true, true, true, true, true, false, false, false, false, false, false] rfl rfl (any_of HT_.out (by kernel_rfl)) (fun _ _ _ h => h) (Or.inr ⟨by rfl, rfl⟩) ?_ ?_
              rotate_left
              · simp only [Act.put, List.setIfInBounds_toArray, List.set_cons_zero, List.set_cons_succ, i64_w, i32_w]
                rfl
              refine pure_ (i := 6) (N := some 81) (v := undef) (a' := ?_) #[true, true, true, true, true, true, true, false, false, false, false, false] rfl rfl (any_of HT_.out (by kernel_rfl)) (fun _ _ _ h => h) (Or.inr ⟨by rfl, rfl⟩) ?_ ?_
              rotate_left
              · simp only [Act.put, List.setIfInBounds_toArray, List.set_cons_zero, List.set_cons_succ, i64_w, i32_w]
                rfl
              refine pure_ (i := 7) (N := some 82) (v := undef) (a' := ?_) #[true, true, true, true, true, true, true, true, false, false, false, false] rfl rfl (any_of HT_.out (by kernel_rfl)) (fun _ _ _ h => h) (Or.inr ⟨by rfl, rfl⟩) ?_ ?_
              rotate_left
              · simp only [Act.put, List.setIfInBounds_toArray, List.set_cons_zero, List.set_cons_succ, i64_w, i32_w]
                rfl
              refine pure_ (i := 8) (N := some 83) (v := undef) (a' := ?_) #[true, true, true, true, true, true, true, true, true, false, false, false] rfl rfl (any_of HT_.out (by kernel_rfl)) (fun _ _ _ h => h) (Or.inr ⟨by rfl, rfl⟩) ?_ ?_
              rotate_left
              · simp only [Act.put, List.setIfInBounds_toArray, List.set_cons_zero, List.set_cons_succ, i64_w, i32_w]
                rfl
              refine pure_ (i := 9) (N := some 84) (v := undef) (a' := ?_) #[true, true, true, true, true, true, true, true, true, true, false, false] rfl rfl (any_of HT_.out (by kernel_rfl)) (fun _ _ _ h => h) (Or.inr ⟨by rfl, rfl⟩) ?_ ?_
              rotate_left
              · simp only [Act.put, List.setIfInBounds_toArray, List.set_cons_zero, List.set_cons_succ, i64_w, i32_w]
                rfl
              refine pure_ (i := 10) (N := some 85) (v := undef) (a' := ?_) #[true, true, true, true, true, true, true, true, true, true, true, false] rfl rfl (any_of HT_.out (by kernel_rfl)) (fun _ _ _ h => h) (Or.inr ⟨by rfl, rfl⟩) ?_ ?_
              rotate_left
              · simp only [Act.put, List.setIfInBounds_toArray, List.set_cons_zero, List.set_cons_succ, i64_w, i32_w]
                rfl
              refine pure_ (i := 11) (N := some 86) (v := ?_) (a' := ?_) #[true, true, true, true, true, true, true, true, true, true, true, true] rfl rfl (any_of HT_.out (by kernel_rfl)) (fun _ _ _ h => h) (Or.inl ⟨by rfl, ?_⟩) ?_ ?_
              rotate_left
              · intro w'
                go_simp
                with_reducible rfl
              rotate_left
              · simp only [Act.put, List.setIfInBounds_toArray, List.set_cons_zero, List.set_cons_succ, i64_w, i32_w]
                rfl
              refine done_ (done_of HT_.out (by kernel_rfl)) ?_
              clear HT_ HW_ hHeld

              go_upto_region 25 with (first | ((with_reducible refine gate_dst (N := 93) rfl ?_); refine Kd.event_run rfl (load_row rfl rfl HK.out hu65 rfl info65s) ?_) | ((refine print_append_cells (w0 := w4) w0.heap.size rfl (.tmp 92) (.tmp 94) 63 65 (.agg #[.int .u64 0, .int .u64 0, .int .i64 0, .int .i64 0, .slice none 0 0]) 5 56 rfl Tryd.underlying63 info65 rfl (by decide) (by decide) (.slice A fs.length cv) fs.length (fsC fs) [.int .u64 m, .int .u64 r, .int .i64 0, .int .i64 0, vv] rfl rfl rfl VVO.out HFR.out (Below.refl _ _) HF.out.size FSL.out ?_; intro v1 w1 hown hb1 hgr hat)))
              have n_HL := Aside0.mk ((hgr.block lb (blk_lt HL.out) (own_ne HFR.out HL.out (by decide))).trans HL.out)
              have n_HF := Aside0.mk (DF.grown HF.out hgr (fun k hk e => by have := own_base HFR.out k e.symm; omega))
              have n_HFS : Aside0 (∀ x ∈ fs ++ [((m, r, d), vv)], w1.ownsRow w0.heap.size 5 1 x.2 x.1.2.2.length (nums .u8 x.1.2.2)) := ⟨fun x hx => by
                rcases List.mem_append.1 hx with hx | hx
                · exact own_other (HFS.out x hx) hgr (own_type_ne (HFS.out x hx) HFR.out (by decide))
                · obtain rfl := List.mem_singleton.1 hx
                  exact own_other HVV.out hgr (own_type_ne HVV.out HFR.out (by decide))⟩
              have n_HFR : Aside0 (w1.ownsRow w0.heap.size 65 5 v1 (fs ++ [((m, r, d), vv)]).length (fsC (fs ++ [((m, r, d), vv)]))) := ⟨by
                rw [fsC_snoc, List.length_append, List.length_singleton]
                exact hown⟩
              clear HL HF HFS HFR HVV HK hgr hat hown hb1
              have HL := n_HL
              have HF := n_HF
              have HFS := n_HFS
              have HFR := n_HFR
              clear n_HL n_HF n_HFS n_HFR
              generalize w1 = w4 at HL HF HFS HFR ⊢
              have l5 : w4.cell? ⟨lb, 5, none⟩ = some (.int .i64 (sl : Int)) := (blk_cell HL.out 5).trans rfl
              have z5 := blk_frozen HL.out 5
              go_wp2
              have n_HL : Aside0 ((w4.setCell ⟨lb, 5, none⟩ (.int .i64 (j : Int))).heap[lb]? = some (.cells #[.pointer (some ⟨g, 0, none⟩), .slice none 0 0, .bool false, .int .u64 0, .int .u64 M, .int .i64 (j : Int)] 59 (0, 0))) := ⟨blk_put HL.out 5 _ rfl⟩
              have n_HF := Aside0.mk (HF.out.set (p := ⟨lb, 5, none⟩) rfl (.int .i64 (j : Int)))
              have n_HFR := Aside0.mk (own_setCell HFR.out (p := ⟨lb, 5, none⟩) (own_ne HFR.out HL.out (by decide)) (.int .i64 (j : Int)))
              have n_HFS : Aside0 (∀ x ∈ fs ++ [((m, r, d), vv)], (w4.setCell ⟨lb, 5, none⟩ (.int .i64 (j : Int))).ownsRow w0.heap.size 5 1 x.2 x.1.2.2.length (nums .u8 x.1.2.2)) := ⟨fun x hx => own_setCell (HFS.out x hx) (p := ⟨lb, 5, none⟩) (own_ne (HFS.out x hx) HL.out (by decide)) _⟩
              clear HL HF HFR HFS l5 z5
              have HL := n_HL
              have HF := n_HF
              have HFR := n_HFR
              have HFS := n_HFS
              clear n_HL n_HF n_HFR n_HFS
              have e3 : wrap64 ((j : Int) + 1) = (j : Int) + 1 := by unfold wrap64; have := KQ.out; omega
              go_roundg (gk - 1)
              case measure => have := KQ.out; have := H6.out; omega
              case rel =>
                refine ⟨j + 1, j, fs ++ [((m, r, d), vv)], _, by first | rfl | (simp [e3]; done) | (simp only [e3]; rfl) | (push_cast; rfl), rfl, ⟨by have := KQ.out; have := H6.out; omega⟩, ⟨by show lgStep j (o j) (lgSt o j) = _; rw [ho, ST.out, HZ.out]; rfl⟩, ⟨HL.out⟩, ⟨HF.out⟩, ⟨HFR.out⟩, ⟨HFS.out⟩⟩

            · obtain ⟨fb, cv, rfl, _, _⟩ := HFR.out.form hz
              obtain ⟨x, rs, hfs⟩ : ∃ x rs, fs = x :: rs := by
                cases fs with
                | nil => cases hz
                | cons x rs => exact ⟨x, rs, rfl⟩
              obtain ⟨⟨am, ar, ad⟩, av⟩ := x
              have RNG : Aside0 (w4.rangeAt fb 0 [.int .u64 am, .int .u64 ar, .int .i64 0, .int .i64 0, av]) := ⟨fun j v hv => by
                have hj := (List.getElem?_eq_some_iff.1 hv).1
                have h1 := HFR.out.cells (g := fb) rfl j v (by rw [hfs, fsC_cons, List.getElem?_append_left hj]; exact hv)
                rw [add_at] at h1
                rw [Nat.zero_add]
                exact h1⟩
              have AM : Aside0 (w4.cell? ⟨fb, 0, none⟩ = some (.int .u64 am)) := ⟨RNG.out 0 _ rfl⟩
              have f1 : ((0 : Int) < (fs.length : Int)) = True := eq_true (by omega)
              have f2 : (0 < fs.length) = True := eq_true hz
              have f3 : decide ((0 : Int) < (fs.length : Int)) = true := decide_eq_true (by omega)
              have HZ := Aside0.mk hfs
              clear hz hfs
              by_cases hgt : m < am
              · have g1 : (m < am) = True := eq_true hgt
                have g2 : decide (m < am) = true := decide_eq_true hgt
                have HGT := Aside0.mk hgt
                clear hgt RNG
                go_upto_region 22 with (fail)
                refine start_ (n := 12) (S := fun w' => w'.cell? ⟨xk, 0, none⟩ = some (.int .u64 m) ∧ w'.cell? ⟨fb, 0, none⟩ = some (.int .u64 am)) (ds := []) #[false, false, false, false, false, false, false, false, false, false, false, false] (by kernel_rfl) rfl rfl ⟨(blk_cell HK.out 0).trans rfl, AM.out⟩ (fun hHeld => ?_)
                refine with_tabW log_Open.R22.tab log_Open.R22.bits (fun HT_ HW_ => ?_)
                have hb_ := below_drew1 (Below.refl w4.heap.size w4)
                have n_HL := Aside0.mk (blk_below HL.out hb_)
                have n_HF := Aside0.mk (HF.out.trans (DF.of_below hb_))
                have n_HFR := Aside0.mk (pw_own_below HFR.out hb_)
                have n_HFS := Aside0.mk (fun x hx => pw_own_below (HFS.out x hx) hb_)
                have n_HK := Aside0.mk (blk_below HK.out hb_)
                have n_HVV := Aside0.mk (pw_own_below HVV.out hb_)
                have n_AM := Aside0.mk (cell_below AM.out hb_)
                clear HL HF HFR HFS HK HVV AM
                have HL := n_HL
                have HF := n_HF
                have HFR := n_HFR
                have HFS := n_HFS
                have HK := n_HK
                have HVV := n_HVV
                have AM := n_AM
                clear n_HL n_HF n_HFR n_HFS n_HK n_HVV n_AM hb_
                generalize w4.drew = w4 at HL HF HFR HFS HK HVV AM hHeld ⊢
                refine pure_ (i := 0) (N := some 75) (v := ?_) (a' := ?_) #[true, false, false, false, false, false, false, false, false, false, false, false] rfl rfl (any_of HT_.out (by kernel_rfl)) (fun _ _ _ h => h) (Or.inl ⟨by rfl, ?_⟩) ?_ ?_
                rotate_left
                · intro w'
                  go_simp
                  with_reducible rfl
                rotate_left
                · simp only [Act.put, List.setIfInBounds_toArray, List.set_cons_zero, List.set_cons_succ, i64_w, i32_w]
                  rfl
                refine pure_ (i := 1) (N := some 76) (v := ?_) (a' := ?_) #[true, true, false, false, false, false, false, false, false, false, false, false] rfl rfl (any_of HT_.out (by kernel_rfl)) (fun _ _ _ h => h) (Or.inl ⟨by rfl, ?_⟩) ?_ ?_
                rotate_left
                · intro w'
                  go_simp
                  with_reducible rfl
                rotate_left
                · simp only [Act.put, List.setIfInBounds_toArray, List.set_cons_zero, List.set_cons_succ, i64_w, i32_w]
                  rfl
                refine pure_ (i := 2) (N := some 77) (v := ?_) (a' := ?_) #[true, true, true, false, false, false, false, false, false, false, false, false] rfl rfl (any_of HT_.out (by kernel_rfl)) (fun _ _ _ h => h) (Or.inl ⟨by rfl, ?_⟩) ?_ ?_
                rotate_left
                · intro w'
                  go_simp
                  with_reducible rfl
                rotate_left
                · simp only [Act.put, List.setIfInBounds_toArray, List.set_cons_zero, List.set_cons_succ, i64_w, i32_w]
                  rfl
                refine pure_ (i := 3) (N := some 78) (v := ?_) (a' := ?_) #[true, true, true, true, false, false, false, false, false, false, false, false] rfl rfl (any_of HT_.out (by kernel_rfl)) (fun _ _ _ h => h) (Or.inl ⟨by rfl, ?_⟩) ?_ ?_
                rotate_left
                · intro w'
                  go_simp
                  with_reducible rfl
                rotate_left
                · simp only [Act.put, List.setIfInBounds_toArray, List.set_cons_zero, List.set_cons_succ, i64_w, i32_w]
                  rfl
                refine pure_ (i := 4) (N := some 79) (v := ?_) (a' := ?_) #[true, true, true, true, true, false, false, false, false, false, false, false] rfl rfl (any_of HT_.out (by kernel_rfl)) (fun _ _ _ h => h) (Or.inl ⟨by rfl, ?_⟩) ?_ ?_
                rotate_left
                · intro w'
                  go_simp
                  with_reducible rfl
                rotate_left
                · simp only [Act.put, List.setIfInBounds_toArray, List.set_cons_zero, List.set_cons_succ, i64_w, i32_w]
                  rfl
                refine pure_ (i := 5) (N := some 80) (v := ?_) (a' := ?_) #[true, true, true, true, true, true, false, false, false, false, false, false] rfl rfl (any_of HT_.out (by kernel_rfl)) (fun _ _ _ h => h) (Or.inl ⟨by rfl, ?_⟩) ?_ ?_
                rotate_left
                · intro w'
                  go_simp
                  with_reducible rfl
                rotate_left
                · simp only [Act.put, List.setIfInBounds_toArray, List.set_cons_zero, List.set_cons_succ, i64_w, i32_w]
                  rfl
                refine pure_ (i := 6) (N := some 81) (v := ?_) (a' := ?_) #[true, true, true, true, true, true, true, false, false, false, false, false] rfl rfl (any_of HT_.out (by kernel_rfl)) (fun _ _ _ h => h) (Or.inl ⟨by rfl, ?_⟩) ?_ ?_
                rotate_left
                · intro w'
                  go_simp
                  with_reducible rfl
                rotate_left
                · simp only [Act.put, List.setIfInBounds_toArray, List.set_cons_zero, List.set_cons_succ, i64_w, i32_w]
                  rfl
                refine pure_ (i := 8) (N := some 83) (v := ?_) (a' := ?_) #[true, true, true, true, true, true, true, false, true, false, false, false] rfl rfl (any_of HT_.out (by kernel_rfl)) (fun _ _ _ h => h) (Or.inl ⟨by rfl, ?_⟩) ?_ ?_
                rotate_left
                · intro w'
                  go_simp
                  with_reducible rfl
                rotate_left
                · simp only [Act.put, List.setIfInBounds_toArray, List.set_cons_zero, List.set_cons_succ, i64_w, i32_w]
                  rfl
                refine take_ (i := 7) (N := some 82) (v := ?_) (a' := ?_) #[true, true, true, true, true, true, true, true, true, false, false, false] rfl rfl (take_ofW HT_.out HW_.out (by kernel_rfl)) (fun _ _ _ h => h) (Or.inl ⟨by rfl, ?_⟩) hHeld ?_ ?_
                rotate_left
                · intro w' s0
                  obtain ⟨s0, s1⟩ := s0
                  go_simp
                  with_reducible rfl
                rotate_left
                · simp only [Act.put, List.setIfInBounds_toArray, List.set_cons_zero, List.set_cons_succ, i64_w, i32_w]
                  rfl
                refine take_ (i := 9) (N := some 84) (v := ?_) (a' := ?_) #[true, true, true, true, true, true, true, true, true, true, false, false] rfl rfl (take_ofW HT_.out HW_.out (by kernel_rfl)) (fun _ _ _ h => h) (Or.inl ⟨by rfl, ?_⟩) hHeld ?_ ?_
                rotate_left
                · intro w' s0
                  obtain ⟨s0, s1⟩ := s0
                  go_simp
                  with_reducible rfl
                rotate_left
                · simp only [Act.put, List.setIfInBounds_toArray, List.set_cons_zero, List.set_cons_succ, i64_w, i32_w]
                  rfl
                refine pure_ (i := 10) (N := some 85) (v := ?_) (a' := ?_) #[true, true, true, true, true, true, true, true, true, true, true, false] rfl rfl (any_of HT_.out (by kernel_rfl)) (fun _ _ _ h => h) (Or.inl ⟨by rfl, ?_⟩) ?_ ?_
                rotate_left
                · intro w'
                  go_simp
                  with_reducible rfl
                rotate_left
                · simp only [Act.put, List.setIfInBounds_toArray, List.set_cons_zero, List.set_cons_succ, i64_w, i32_w]
                  rfl
                refine pure_ (i := 11) (N := some 86) (v := ?_) (a' := ?_) #[true, true, true, true, true, true, true, true, true, true, true, true] rfl rfl (any_of HT_.out (by kernel_rfl)) (fun _ _ _ h => h) (Or.inl ⟨by rfl, ?_⟩) ?_ ?_
                rotate_left
                · intro w'
                  go_simp
                  with_reducible rfl
                rotate_left
                · simp only [Act.put, List.setIfInBounds_toArray, List.set_cons_zero, List.set_cons_succ, i64_w, i32_w]
                  rfl
                refine done_ (done_of HT_.out (by kernel_rfl)) ?_
                clear HT_ HW_ hHeld

                have RNG : Aside0 (w4.rangeAt fb 0 [.int .u64 am, .int .u64 ar, .int .i64 0, .int .i64 0, av]) := ⟨fun j v hv => by
                  have hj := (List.getElem?_eq_some_iff.1 hv).1
                  have h1 := HFR.out.cells (g := fb) rfl j v (by rw [HZ.out, fsC_cons, List.getElem?_append_left hj]; exact hv)
                  rw [add_at] at h1
                  rw [Nat.zero_add]
                  exact h1⟩
                clear AM
                go_upto_region 23 with (fail)
                refine start_ (n := 6) (S := fun w' => w'.heap[xk]? = some (.cells #[.int .u64 m, .int .u64 r, .int .i64 0, .int .i64 0, vv] 65 (0, 0)) ∧ w'.rangeAt fb 0 [.int .u64 am, .int .u64 ar, .int .i64 0, .int .i64 0, av]) (ds := [4]) #[false, false, false, false, false, false] (by kernel_rfl) rfl rfl ⟨HK.out, RNG.out⟩ (fun hHeld => ?_)
                refine with_tabW log_Open.R23.tab log_Open.R23.bits (fun HT_ HW_ => ?_)
                have hb_ := below_drew1 (Below.refl w4.heap.size w4)
                have n_HL := Aside0.mk (blk_below HL.out hb_)
                have n_HF := Aside0.mk (HF.out.trans (DF.of_below hb_))
                have n_HFR := Aside0.mk (pw_own_below HFR.out hb_)
                have n_HFS := Aside0.mk (fun x hx => pw_own_below (HFS.out x hx) hb_)
                have n_HK := Aside0.mk (blk_below HK.out hb_)
                have n_HVV := Aside0.mk (pw_own_below HVV.out hb_)
                have n_RNG := Aside0.mk (fun j v hv => cell_below (RNG.out j v hv) hb_)
                clear HL HF HFR HFS HK HVV RNG
                have HL := n_HL
                have HF := n_HF
                have HFR := n_HFR
                have HFS := n_HFS
                have HK := n_HK
                have HVV := n_HVV
                have RNG := n_RNG
                clear n_HL n_HF n_HFR n_HFS n_HK n_HVV n_RNG hb_
                generalize w4.drew = w4 at HL HF HFR HFS HK HVV RNG hHeld ⊢
                refine pure_ (i := 1) (N := some 88) (v := ?_) (a' := ?_) #[false, true, false, false, false, false] rfl rfl (any_of HT_.out (by kernel_rfl)) (fun _ _ _ h => h) (Or.inl ⟨by rfl, ?_⟩) ?_ ?_
                rotate_left
                · intro w'
                  go_simp
                  with_reducible rfl
                rotate_left
                · simp only [Act.put, List.setIfInBounds_toArray, List.set_cons_zero, List.set_cons_succ, i64_w, i32_w]
                  rfl
                refine pure_ (i := 2) (N := some 89) (v := ?_) (a' := ?_) #[false, true, true, false, false, false] rfl rfl (any_of HT_.out (by kernel_rfl)) (fun _ _ _ h => h) (Or.inl ⟨by rfl, ?_⟩) ?_ ?_
                rotate_left
                · intro w'
                  go_simp
                  with_reducible rfl
                rotate_left
                · simp only [Act.put, List.setIfInBounds_toArray, List.set_cons_zero, List.set_cons_succ, i64_w, i32_w]
                  rfl
                refine take_ (i := 0) (N := some 87) (v := (.agg #[.int .u64 m, .int .u64 r, .int .i64 0, .int .i64 0, vv])) #[true, true, true, false, false, false] rfl rfl (take_ofW HT_.out HW_.out (by kernel_rfl)) (fun _ _ _ h => h) (Or.inl ⟨by rfl, fun w' s0 => ?_⟩) hHeld rfl ?_
                · obtain ⟨s0, s1⟩ := s0
                  exact load_row (p := .tmp 12) (ty := 65) (by rfl) (by rfl) s0 hu65 (by rfl) info65s
                refine norm_ (a' := ?_) ?_ ?_
                rotate_left
                · show Act.put _ (some 87) _ = _
                  simp only [Act.put, List.setIfInBounds_toArray, List.set_cons_zero, List.set_cons_succ, i64_w, i32_w]
                  rfl
                refine take_ (i := 3) (N := some 90) (v := (.agg #[.int .u64 am, .int .u64 ar, .int .i64 0, .int .i64 0, av])) #[true, true, true, true, false, false] rfl rfl (take_ofW HT_.out HW_.out (by kernel_rfl)) (fun _ _ _ h => h) (Or.inl ⟨by rfl, fun w' s0 => ?_⟩) hHeld rfl ?_
                · obtain ⟨s0, s1⟩ := s0
                  exact load_mid (p := .tmp 89) (ty := 65) (by rfl) (by rfl) s1 hu65 (by rfl) info65s
                refine norm_ (a' := ?_) ?_ ?_
                rotate_left
                · show Act.put _ (some 90) _ = _
                  simp only [Act.put, List.setIfInBounds_toArray, List.set_cons_zero, List.set_cons_succ, i64_w, i32_w]
                  rfl
                refine last_ (i := 4) (N := some 91) #[true, true, true, true, true, false] rfl rfl (one_of HT_.out (by kernel_rfl)) (by decide) (fun K hK => ?_)
                refine value_ (v := .slice (some ⟨w4.heap.size, 0, none⟩) 2 2) (w1 := w4.alloc (.cells #[.int .u64 m, .int .u64 r, .int .i64 0, .int .i64 0, vv, .int .u64 am, .int .u64 ar, .int .i64 0, .int .i64 0, av] 65)) (by rfl) rfl (by first | (go_simp; done) | (go_simp; rfl)) ?_
                have HFN : Aside0 ((w4.alloc (.cells #[.int .u64 m, .int .u64 r, .int .i64 0, .int .i64 0, vv, .int .u64 am, .int .u64 ar, .int .i64 0, .int .i64 0, av] 65)).ownsRow w0.heap.size 65 5 (.slice (some ⟨w4.heap.size, 0, none⟩) 2 2) 2 (fsC [((m, r, d), vv), ((am, ar, ad), av)])) := ⟨World.ownsRow_lit w4 #[.int .u64 m, .int .u64 r, .int .i64 0, .int .i64 0, vv, .int .u64 am, .int .u64 ar, .int .i64 0, .int .i64 0, av] 2 HF.out.size (by decide) rfl⟩
                obtain ⟨xf, hxf⟩ : ∃ x_, x_ = w4.heap.size := ⟨_, rfl⟩
                rw [← hxf] at HFN ⊢
                clear hxf
                have hb_ := below_alloc (Below.refl w4.heap.size w4) (.cells #[.int .u64 m, .int .u64 r, .int .i64 0, .int .i64 0, vv, .int .u64 am, .int .u64 ar, .int .i64 0, .int .i64 0, av] 65)
                have n_HL := Aside0.mk (blk_below HL.out hb_)
                have n_HF := Aside0.mk (HF.out.trans (DF.of_below hb_))
                have n_HFS := Aside0.mk (fun x hx => pw_own_below (HFS.out x hx) hb_)
                have n_HVV := Aside0.mk (pw_own_below HVV.out hb_)
                clear HL HF HFS HVV
                have HL := n_HL
                have HF := n_HF
                have HFS := n_HFS
                have HVV := n_HVV
                clear n_HL n_HF n_HFS n_HVV hb_
                clear HFR HK RNG
                generalize w4.alloc (.cells #[.int .u64 m, .int .u64 r, .int .i64 0, .int .i64 0, vv, .int .u64 am, .int .u64 ar, .int .i64 0, .int .i64 0, av] 65) = w4 at HFN HL HF HFS HVV ⊢
                refine hK.out _ _ ?_
                clear hK K
                refine norm_ (a' := ?_) ?_ ?_
                rotate_left
                · show Act.put _ (some 91) _ = _
                  simp only [Act.put, List.setIfInBounds_toArray, List.set_cons_zero, List.set_cons_succ, i64_w, i32_w]
                  rfl
                refine pure_ (i := 5) (N := some 10) (v := ?_) (a' := ?_) #[true, true, true, true, true, true] rfl rfl (any_of HT_.out (by kernel_rfl)) (fun _ _ _ h => h) (Or.inl ⟨by rfl, ?_⟩) ?_ ?_
                rotate_left
                · intro w'
                  go_simp
                  with_reducible rfl
                rotate_left
                · simp only [Act.put, List.setIfInBounds_toArray, List.set_cons_zero, List.set_cons_succ, i64_w, i32_w]
                  rfl
                refine done_ (done_of HT_.out (by kernel_rfl)) ?_
                clear HT_ HW_ hHeld

                have HFR : Aside0 (w4.ownsRow w0.heap.size 65 5 (.slice (some ⟨xf, 0, none⟩) 2 2) [(((m, r, d), vv) : Rc × Value), ((am, ar, ad), av)].length (fsC [((m, r, d), vv), ((am, ar, ad), av)])) := ⟨HFN.out⟩
                have n_HFS : Aside0 (∀ x ∈ [(((m, r, d), vv) : Rc × Value), ((am, ar, ad), av)], w4.ownsRow w0.heap.size 5 1 x.2 x.1.2.2.length (nums .u8 x.1.2.2)) := ⟨fun x hx => by
                  rcases List.mem_cons.1 hx with rfl | hx
                  · exact HVV.out
                  · obtain rfl := List.mem_singleton.1 hx
                    exact HFS.out _ (by rw [HZ.out]; exact List.mem_cons_self)⟩
                clear HFS HFN
                have HFS := n_HFS
                clear n_HFS
                go_wp2
                have e3 : wrap64 ((j : Int) + 1) = (j : Int) + 1 := by unfold wrap64; have := KQ.out; omega
                go_roundg (gk - 1)
                case measure => have := KQ.out; have := H6.out; omega
                case rel =>
                  refine ⟨j + 1, sl, [((m, r, d), vv), ((am, ar, ad), av)], _, by first | rfl | (simp [e3]; done) | (simp only [e3]; rfl) | (push_cast; rfl), rfl, ⟨by have := KQ.out; have := H6.out; omega⟩, ⟨by show lgStep j (o j) (lgSt o j) = _; rw [ho, ST.out, HZ.out]; show (if m < am then _ else _) = _; rw [if_pos HGT.out]; rfl⟩, ⟨HL.out⟩, ⟨HF.out⟩, ⟨HFR.out⟩, ⟨HFS.out⟩⟩

              · have g1 : (m < am) = False := eq_false hgt
                have g2 : decide (m < am) = false := decide_eq_false hgt
                have HGT := Aside0.mk hgt
                clear hgt RNG
                go_upto_region 22 with (fail)
                refine start_ (n := 12) (S := fun w' => w'.cell? ⟨xk, 0, none⟩ = some (.int .u64 m) ∧ w'.cell? ⟨fb, 0, none⟩ = some (.int .u64 am)) (ds := []) #[false, false, false, false, false, false, false, false, false, false, false, false] (by kernel_rfl) rfl rfl ⟨(blk_cell HK.out 0).trans rfl, AM.out⟩ (fun hHeld => ?_)
                refine with_tabW log_Open.R22.tab log_Open.R22.bits (fun HT_ HW_ => ?_)
                have hb_ := below_drew1 (Below.refl w4.heap.size w4)
                have n_HL := Aside0.mk (blk_below HL.out hb_)
                have n_HF := Aside0.mk (HF.out.trans (DF.of_below hb_))
                have n_HFR := Aside0.mk (pw_own_below HFR.out hb_)
                have n_HFS := Aside0.mk (fun x hx => pw_own_below (HFS.out x hx) hb_)
                have n_HK := Aside0.mk (blk_below HK.out hb_)
                have n_HVV := Aside0.mk (pw_own_below HVV.out hb_)
                have n_AM := Aside0.mk (cell_below AM.out hb_)
                clear HL HF HFR HFS HK HVV AM
                have HL := n_HL
                have HF := n_HF
                have HFR := n_HFR
                have HFS := n_HFS
                have HK := n_HK
                have HVV := n_HVV
                have AM := n_AM
                clear n_HL n_HF n_HFR n_HFS n_HK n_HVV n_AM hb_
                generalize w4.drew = w4 at HL HF HFR HFS HK HVV AM hHeld ⊢
                refine pure_ (i := 0) (N := some 75) (v := ?_) (a' := ?_) #[true, false, false, false, false, false, false, false, false, false, false, false] rfl rfl (any_of HT_.out (by kernel_rfl)) (fun _ _ _ h => h) (Or.inl ⟨by rfl, ?_⟩) ?_ ?_
                rotate_left
                · intro w'
                  go_simp
                  with_reducible rfl
                rotate_left
                · simp only [Act.put, List.setIfInBounds_toArray, List.set_cons_zero, List.set_cons_succ, i64_w, i32_w]
                  rfl
                refine pure_ (i := 1) (N := some 76) (v := ?_) (a' := ?_) #[true, true, false, false, false, false, false, false, false, false, false, false] rfl rfl (any_of HT_.out (by kernel_rfl)) (fun _ _ _ h => h) (Or.inl ⟨by rfl, ?_⟩) ?_ ?_
                rotate_left
                · intro w'
                  go_simp
                  with_reducible rfl
                rotate_left
                · simp only [Act.put, List.setIfInBounds_toArray, List.set_cons_zero, List.set_cons_succ, i64_w, i32_w]
                  rfl
                refine pure_ (i := 2) (N := some 77) (v := ?_) (a' := ?_) #[true, true, true, false, false, false, false, false, false, false, false, false] rfl rfl (any_of HT_.out (by kernel_rfl)) (fun _ _ _ h => h) (Or.inl ⟨by rfl, ?_⟩) ?_ ?_
                rotate_left
                · intro w'
                  go_simp
                  with_reducible rfl
                rotate_left
                · simp only [Act.put, List.setIfInBounds_toArray, List.set_cons_zero, List.set_cons_succ, i64_w, i32_w]
                  rfl
                refine pure_ (i := 3) (N := some 78) (v := ?_) (a' := ?_) #[true, true, true, true, false, false, false, false, false, false, false, false] rfl rfl (any_of HT_.out (by kernel_rfl)) (fun _ _ _ h => h) (Or.inl ⟨by rfl, ?_⟩) ?_ ?_
                rotate_left
                · intro w'
                  go_simp
                  with_reducible rfl
                rotate_left
                · simp only [Act.put, List.setIfInBounds_toArray, List.set_cons_zero, List.set_cons_succ, i64_w, i32_w]
                  rfl
                refine pure_ (i := 4) (N := some 79) (v := ?_) (a' := ?_) #[true, true, true, true, true, false, false, false, false, false, false, false] rfl rfl (any_of HT_.out (by kernel_rfl)) (fun _ _ _ h => h) (Or.inl ⟨by rfl, ?_⟩) ?_ ?_
                rotate_left
                · intro w'
                  go_simp
                  with_reducible rfl
                rotate_left
                · simp only [Act.put, List.setIfInBounds_toArray, List.set_cons_zero, List.set_cons_succ, i64_w, i32_w]
                  rfl
                refine pure_ (i := 5) (N := some 80) (v := ?_) (a' := ?_) #[true, true, true, true, true, true, false, false, false, false, false, false] rfl rfl (any_of HT_.out (by kernel_rfl)) (fun _ _ _ h => h) (Or.inl ⟨by rfl, ?_⟩) ?_ ?_
                rotate_left
                · intro w'
                  go_simp
                  with_reducible rfl
                rotate_left
                · simp only [Act.put, List.setIfInBounds_toArray, List.set_cons_zero, List.set_cons_succ, i64_w, i32_w]
                  rfl
                refine pure_ (i := 6) (N := some 81) (v := ?_) (a' := ?_) #[true, true, true, true, true, true, true, false, false, false, false, false] rfl rfl (any_of HT_.out (by kernel_rfl)) (fun _ _ _ h => h) (Or.inl ⟨by rfl, ?_⟩) ?_ ?_
                rotate_left
                · intro w'
                  go_simp
                  with_reducible rfl
                rotate_left
                · simp only [Act.put, List.setIfInBounds_toArray, List.set_cons_zero, List.set_cons_succ, i64_w, i32_w]
                  rfl
                refine pure_ (i := 8) (N := some 83) (v := ?_) (a' := ?_) #[true, true, true, true, true, true, true, false, true, false, false, false] rfl rfl (any_of HT_.out (by kernel_rfl)) (fun _ _ _ h => h) (Or.inl ⟨by rfl, ?_⟩) ?_ ?_
                rotate_left
                · intro w'
                  go_simp
                  with_reducible rfl
                rotate_left
                · simp only [Act.put, List.setIfInBounds_toArray, List.set_cons_zero, List.set_cons_succ, i64_w, i32_w]
                  rfl
                refine take_ (i := 7) (N := some 82) (v := ?_) (a' := ?_) #[true, true, true, true, true, true, true, true, true, false, false, false] rfl rfl (take_ofW HT_.out HW_.out (by kernel_rfl)) (fun _ _ _ h => h) (Or.inl ⟨by rfl, ?_⟩) hHeld ?_ ?_
                rotate_left
                · intro w' s0
                  obtain ⟨s0, s1⟩ := s0
                  go_simp
                  with_reducible rfl
                rotate_left
                · simp only [Act.put, List.setIfInBounds_toArray, List.set_cons_zero, List.set_cons_succ, i64_w, i32_w]
                  rfl
                refine take_ (i := 9) (N := some 84) (v := ?_) (a' := ?_) #[true, true, true, true, true, true, true, true, true, true, false, false] rfl rfl (take_ofW HT_.out HW_.out (by kernel_rfl)) (fun _ _ _ h => h) (Or.inl ⟨by rfl, ?_⟩) hHeld ?_ ?_
                rotate_left
                · intro w' s0
                  obtain ⟨s0, s1⟩ := s0
                  go_simp
                  with_reducible rfl
                rotate_left
                · simp only [Act.put, List.setIfInBounds_toArray, List.set_cons_zero, List.set_cons_succ, i64_w, i32_w]
                  rfl
                refine pure_ (i := 10) (N := some 85) (v := ?_) (a' := ?_) #[true, true, true, true, true, true, true, true, true, true, true, false] rfl rfl (any_of HT_.out (by kernel_rfl)) (fun _ _ _ h => h) (Or.inl ⟨by rfl, ?_⟩) ?_ ?_
                rotate_left
                · intro w'
                  go_simp
                  with_reducible rfl
                rotate_left
                · simp only [Act.put, List.setIfInBounds_toArray, List.set_cons_zero, List.set_cons_succ, i64_w, i32_w]
                  rfl
                refine pure_ (i := 11) (N := some 86) (v := ?_) (a' := ?_) #[true, true, true, true, true, true, true, true, true, true, true, true] rfl rfl (any_of HT_.out (by kernel_rfl)) (fun _ _ _ h => h) (Or.inl ⟨by rfl, ?_⟩) ?_ ?_
                rotate_left
                · intro w'
                  go_simp
                  with_reducible rfl
                rotate_left
                · simp only [Act.put, List.setIfInBounds_toArray, List.set_cons_zero, List.set_cons_succ, i64_w, i32_w]
                  rfl
                refine done_ (done_of HT_.out (by kernel_rfl)) ?_
                clear HT_ HW_ hHeld

                clear AM
                go_upto_region 25 with (first | ((with_reducible refine gate_dst (N := 93) rfl ?_); refine Kd.event_run rfl (load_row rfl rfl HK.out hu65 rfl info65s) ?_) | ((refine print_append_cells (w0 := w4) w0.heap.size rfl (.tmp 92) (.tmp 94) 63 65 (.agg #[.int .u64 0, .int .u64 0, .int .i64 0, .int .i64 0, .slice none 0 0]) 5 56 rfl Tryd.underlying63 info65 rfl (by decide) (by decide) (.slice (some ⟨fb, 0, none⟩) fs.length cv) fs.length (fsC fs) [.int .u64 m, .int .u64 r, .int .i64 0, .int .i64 0, vv] rfl rfl rfl VVO.out HFR.out (Below.refl _ _) HF.out.size FSL.out ?_; intro v1 w1 hown hb1 hgr hat)))
                have n_HL := Aside0.mk ((hgr.block lb (blk_lt HL.out) (own_ne HFR.out HL.out (by decide))).trans HL.out)
                have n_HF := Aside0.mk (DF.grown HF.out hgr (fun k hk e => by have := own_base HFR.out k e.symm; omega))
                have n_HFS : Aside0 (∀ x ∈ fs ++ [((m, r, d), vv)], w1.ownsRow w0.heap.size 5 1 x.2 x.1.2.2.length (nums .u8 x.1.2.2)) := ⟨fun x hx => by
                  rcases List.mem_append.1 hx with hx | hx
                  · exact own_other (HFS.out x hx) hgr (own_type_ne (HFS.out x hx) HFR.out (by decide))
                  · obtain rfl := List.mem_singleton.1 hx
                    exact own_other HVV.out hgr (own_type_ne HVV.out HFR.out (by decide))⟩
                have n_HFR : Aside0 (w1.ownsRow w0.heap.size 65 5 v1 (fs ++ [((m, r, d), vv)]).length (fsC (fs ++ [((m, r, d), vv)]))) := ⟨by
                  rw [fsC_snoc, List.length_append, List.length_singleton]
                  exact hown⟩
                clear HL HF HFS HFR HVV HK hgr hat hown hb1
                have HL := n_HL
                have HF := n_HF
                have HFS := n_HFS
                have HFR := n_HFR
                clear n_HL n_HF n_HFS n_HFR
                generalize w1 = w4 at HL HF HFS HFR ⊢
                have l5 : w4.cell? ⟨lb, 5, none⟩ = some (.int .i64 (sl : Int)) := (blk_cell HL.out 5).trans rfl
                have z5 := blk_frozen HL.out 5
                go_wp2
                have n_HL : Aside0 ((w4.setCell ⟨lb, 5, none⟩ (.int .i64 (j : Int))).heap[lb]? = some (.cells #[.pointer (some ⟨g, 0, none⟩), .slice none 0 0, .bool false, .int .u64 0, .int .u64 M, .int .i64 (j : Int)] 59 (0, 0))) := ⟨blk_put HL.out 5 _ rfl⟩
                have n_HF := Aside0.mk (HF.out.set (p := ⟨lb, 5, none⟩) rfl (.int .i64 (j : Int)))
                have n_HFR := Aside0.mk (own_setCell HFR.out (p := ⟨lb, 5, none⟩) (own_ne HFR.out HL.out (by decide)) (.int .i64 (j : Int)))
                have n_HFS : Aside0 (∀ x ∈ fs ++ [((m, r, d), vv)], (w4.setCell ⟨lb, 5, none⟩ (.int .i64 (j : Int))).ownsRow w0.heap.size 5 1 x.2 x.1.2.2.length (nums .u8 x.1.2.2)) := ⟨fun x hx => own_setCell (HFS.out x hx) (p := ⟨lb, 5, none⟩) (own_ne (HFS.out x hx) HL.out (by decide)) _⟩
                clear HL HF HFR HFS l5 z5
                have HL := n_HL
                have HF := n_HF
                have HFR := n_HFR
                have HFS := n_HFS
                clear n_HL n_HF n_HFR n_HFS
                have e3 : wrap64 ((j : Int) + 1) = (j : Int) + 1 := by unfold wrap64; have := KQ.out; omega
                go_roundg (gk - 1)
                case measure => have := KQ.out; have := H6.out; omega
                case rel =>
                  refine ⟨j + 1, j, fs ++ [((m, r, d), vv)], _, by first | rfl | (simp [e3]; done) | (simp only [e3]; rfl) | (push_cast; rfl), rfl, ⟨by have := KQ.out; have := H6.out; omega⟩, ⟨by show lgStep j (o j) (lgSt o j) = _; rw [ho, ST.out, HZ.out]; show (if m < am then _ else _) = _; rw [if_neg (by have := HGT.out; omega)]; simp⟩, ⟨HL.out⟩, ⟨HF.out⟩, ⟨HFR.out⟩, ⟨HFS.out⟩⟩

        · have c6b : decide ((j : Int) < 2) = false := decide_eq_false (by omega)
          have q1 : ((j : Int) < 2) = False := eq_false (by omega)
          have el : j = 2 := by have := KQ.out; omega
          subst el
          clear c6
          obtain ⟨A, cv, rfl⟩ := own_slice HFR.out
          obtain ⟨v, hv⟩ : ∃ x, x = Value.slice A fs.length cv := ⟨_, rfl⟩
          rw [← hv] at HFR
          have VS := Aside0.mk hv
          have STO := Aside0.mk ST.out
          have FLN : Aside0 (fs.length ≤ 4) := ⟨by
            have h1 := lgSt_len o 2
            rw [ST.out, List.length_map] at h1
            exact h1⟩
          have HVO : Aside0 (w4.ownsRow w0.heap.size 22 1 (.slice none 0 0) ((fs.take 0).map (·.2)).length ((fs.take 0).map (·.2))) := ⟨own_nil _ _ _ _⟩
          rw [VS.out] at HFR
          clear hv VS
          go_wp2_with fail
          go_loopg [103, 14] fs.length (fun kq v103 v14 w' => ∃ (i : Nat) (vo : Value), v103 = .int .i64 (i : Int) ∧ vo = v14 ∧ Aside0 (i + kq = fs.length) ∧ Aside0 (w'.heap[lb]? = some (.cells #[.pointer (some ⟨g, 0, none⟩), lgLast (fs.take i), .bool (lgHas (fs.take i)), .int .u64 (lgRcn (fs.take i)), .int .u64 M, .int .i64 (sl : Int)] 59 (0, 0))) ∧ Aside0 (DF (fun k => k = lb) w0 w') ∧ Aside0 (w'.ownsRow w0.heap.size 65 5 (.slice A fs.length cv) fs.length (fsC fs)) ∧ Aside0 (∀ x ∈ fs, w'.ownsRow w0.heap.size 5 1 x.2 x.1.2.2.length (nums .u8 x.1.2.2)) ∧ Aside0 (w'.ownsRow w0.heap.size 22 1 vo ((fs.take i).map (·.2)).length ((fs.take i).map (·.2))))
          case atStart => exact ⟨0, _, rfl, rfl, ⟨by omega⟩, ⟨HL.out⟩, ⟨HF.out⟩, ⟨HFR.out⟩, ⟨HFS.out⟩, ⟨HVO.out⟩⟩
          case round =>
            clear HL HF HFR HFS HVO
            obtain ⟨i, vo, rfl, rfl, KQ, HL, HF, HFR, HFS, HVO⟩ := hrel
            generalize wr = w4 at HL HF HFR HFS HVO ⊢
            by_cases c6 : i < fs.length
            · have c6b : decide ((i : Int) < (fs.length : Int)) = true := decide_eq_true (by omega)
              have c6c : decide (i < fs.length) = true := decide_eq_true c6
              have q1 : ((i : Int) < (fs.length : Int)) = True := eq_true (by omega)
              have q2 : (i < fs.length) = True := eq_true c6
              have H6 := Aside0.mk c6
              obtain ⟨x, hx⟩ : ∃ x, fs[i]? = some x := ⟨_, List.getElem?_eq_getElem c6⟩
              have FSL : Aside0 ((((fs.take i).map (·.2)).length + 1) * 24 ≤ 140737488355328) := ⟨by rw [List.length_map, List.length_take]; have := FLN.out; omega⟩
              obtain ⟨⟨am, ar, ad⟩, av⟩ := x
              obtain ⟨xA, xc, hxv⟩ := own_slice (HFS.out _ (List.mem_of_getElem? hx))
              simp only at hxv
              subst hxv
              have HXI := Aside0.mk hx
              obtain ⟨fb, cp, hfv, _, _⟩ := HFR.out.form (by omega)
              injection hfv with hf1 hf2 hf3
              subst hf1
              have y0 : w4.cell? ⟨fb, i * 5, none⟩ = some (.int .u64 am) := by
                have h1 := HFR.out.cells (g := fb) rfl (i * 5 + 0) _ ((fsC_get fs i 0 _ hx (by decide)).trans rfl)
                rw [add_at] at h1
                exact h1
              have y1 : w4.cell? ⟨fb, i * 5 + 1, none⟩ = some (.int .u64 ar) := by
                have h1 := HFR.out.cells (g := fb) rfl (i * 5 + 1) _ ((fsC_get fs i 1 _ hx (by decide)).trans rfl)
                rw [add_at] at h1
                exact h1
              have y2 : w4.cell? ⟨fb, i * 5 + 2, none⟩ = some (.int .i64 0) := by
                have h1 := HFR.out.cells (g := fb) rfl (i * 5 + 2) _ ((fsC_get fs i 2 _ hx (by decide)).trans rfl)
                rw [add_at] at h1
                exact h1
              have y3 : w4.cell? ⟨fb, i * 5 + 3, none⟩ = some (.int .i64 0) := by
                have h1 := HFR.out.cells (g := fb) rfl (i * 5 + 3) _ ((fsC_get fs i 3 _ hx (by decide)).trans rfl)
                rw [add_at] at h1
                exact h1
              have y4 : w4.cell? ⟨fb, i * 5 + 4, none⟩ = some (.slice xA ad.length xc) := by
                have h1 := HFR.out.cells (g := fb) rfl (i * 5 + 4) _ ((fsC_get fs i 4 _ hx (by decide)).trans rfl)
                rw [add_at] at h1
                exact h1
              clear c6 hx hf2 hf3
              go_upto_region 31 with ((refine event_skip rfl rfl (store_new rfl rfl rfl info65s rfl (by simp [Value.oneCell'])) ?_))
              clear y0 y1 y2 y3 y4
              obtain ⟨x16, hx16⟩ : ∃ x_, x_ = w4.heap.size := ⟨_, rfl⟩
              have HX : Aside0 ((w4.alloc (.cells #[.int .u64 am, .int .u64 ar, .int .i64 0, .int .i64 0, .slice xA ad.length xc] 65)).heap[x16]? = some (.cells #[.int .u64 am, .int .u64 ar, .int .i64 0, .int .i64 0, .slice xA ad.length xc] 65 (0, 0))) := ⟨by rw [hx16]; exact blk_new _ _⟩
              try rw [← hx16]
              clear hx16
              have hb_ := below_alloc (Below.refl w4.heap.size w4) (.cells #[.int .u64 am, .int .u64 ar, .int .i64 0, .int .i64 0, .slice xA ad.length xc] 65)
              have n_HL := Aside0.mk (blk_below HL.out hb_)
              have n_HF := Aside0.mk (HF.out.trans (DF.of_below hb_))
              have n_HFR := Aside0.mk (pw_own_below HFR.out hb_)
              have n_HFS := Aside0.mk (fun x hx => pw_own_below (HFS.out x hx) hb_)
              have n_HVO := Aside0.mk (pw_own_below HVO.out hb_)
              clear HL HF HFR HFS HVO
              have HL := n_HL
              have HF := n_HF
              have HFR := n_HFR
              have HFS := n_HFS
              have HVO := n_HVO
              clear n_HL n_HF n_HFR n_HFS n_HVO hb_
              generalize w4.alloc (.cells #[.int .u64 am, .int .u64 ar, .int .i64 0, .int .i64 0, .slice xA ad.length xc] 65) = w4 at HX HL HF HFR HFS HVO ⊢
              have y4 : w4.cell? ⟨x16, 4, none⟩ = some (.slice xA ad.length xc) := (blk_cell HX.out 4).trans rfl
              obtain ⟨vs, hvs⟩ : ∃ vs, vs = (fs.take i).map (·.2) := ⟨_, rfl⟩
              have VSE := Aside0.mk hvs
              rw [← hvs] at HVO FSL
              clear hvs
              go_upto_region 32 with ((refine print_append (w0 := w4) w0.heap.size rfl (.tmp 107) (.tmp 110) 33 22 (.slice none 0 0) 24 rfl Tryd.underlying33 info22 rfl (by decide) vo vs (.slice xA ad.length xc) rfl rfl rfl HVO.out (Below.refl _ _) HF.out.size FSL.out ?_; intro v1 w1 hown hb1 hgr hat))
              have n_HL := Aside0.mk ((hgr.block lb (blk_lt HL.out) (own_ne HVO.out HL.out (by decide))).trans HL.out)
              have n_HX := Aside0.mk ((hgr.block x16 (blk_lt HX.out) (own_ne HVO.out HX.out (by decide))).trans HX.out)
              have n_HF := Aside0.mk (DF.grown HF.out hgr (fun k hk e => by have := own_base HVO.out k e.symm; omega))
              have n_HFR := Aside0.mk (own_other HFR.out hgr (own_type_ne HFR.out HVO.out (by decide)))
              have n_HFS : Aside0 (∀ x ∈ fs, w1.ownsRow w0.heap.size 5 1 x.2 x.1.2.2.length (nums .u8 x.1.2.2)) := ⟨fun x hx => own_other (HFS.out x hx) hgr (own_type_ne (HFS.out x hx) HVO.out (by decide))⟩
              have h1 : fs.take (i + 1) = fs.take i ++ [((am, ar, ad), .slice xA ad.length xc)] := by
                rw [List.take_add_one, HXI.out]
                rfl
              have n_HVO : Aside0 (w1.ownsRow w0.heap.size 22 1 v1 ((fs.take (i + 1)).map (·.2)).length ((fs.take (i + 1)).map (·.2))) := ⟨by
                rw [h1, List.map_append, ← VSE.out]
                exact hown⟩
              have TK := Aside0.mk h1
              clear HL HX HF HFR HFS HVO hgr hat hown hb1 h1 y4
              have HL := n_HL
              have HX := n_HX
              have HF := n_HF
              have HFR := n_HFR
              have HFS := n_HFS
              have HVO := n_HVO
              clear n_HL n_HX n_HF n_HFR n_HFS n_HVO
              generalize w1 = w4 at HL HX HF HFR HFS HVO ⊢
              generalize lgLast (fs.take i) = lv at HL
              generalize lgHas (fs.take i) = lh at HL
              generalize lgRcn (fs.take i) = lr at HL
              refine start_ (n := 16) (S := fun w' => w'.cell? ⟨x16, 4, none⟩ = some (.slice xA ad.length xc) ∧ w'.cell? ⟨x16, 1, none⟩ = some (.int .u64 ar)) (ds := []) #[false, false, false, false, false, false, false, false, false, false, false, false, false, false, false, false] (by kernel_rfl) rfl rfl ⟨(blk_cell HX.out 4).trans rfl, (blk_cell HX.out 1).trans rfl⟩ (fun hHeld => ?_)
              refine with_tabW log_Open.R32.tab log_Open.R32.bits (fun HT_ HW_ => ?_)
              have hb_ := below_drew1 (Below.refl w4.heap.size w4)
              have n_HL := Aside0.mk (blk_below HL.out hb_)
              have n_HF := Aside0.mk (HF.out.trans (DF.of_below hb_))
              have n_HFR := Aside0.mk (pw_own_below HFR.out hb_)
              have n_HFS := Aside0.mk (fun x hx => pw_own_below (HFS.out x hx) hb_)
              have n_HVO := Aside0.mk (pw_own_below HVO.out hb_)
              have n_HX := Aside0.mk (blk_below HX.out hb_)
              clear HL HF HFR HFS HVO HX
              have HL := n_HL
              have HF := n_HF
              have HFR := n_HFR
              have HFS := n_HFS
              have HVO := n_HVO
              have HX := n_HX
              clear n_HL n_HF n_HFR n_HFS n_HVO n_HX hb_
              generalize w4.drew = w4 at HL HF HFR HFS HVO HX hHeld ⊢
              refine pure_ (i := 0) (N := some 112) (v := ?_) (a' := ?_) #[true, false, false, false, false, false, false, false, false, false, false, false, false, false, false, false] rfl rfl (any_of HT_.out (by kernel_rfl)) (fun _ _ _ h => h) (Or.inl ⟨by rfl, ?_⟩) ?_ ?_
              rotate_left
              · intro w'
                go_simp
                with_reducible rfl
              rotate_left
              · simp only [Act.put, List.setIfInBounds_toArray, List.set_cons_zero, List.set_cons_succ, i64_w, i32_w]
                rfl
              refine pure_ (i := 1) (N := some 113) (v := ?_) (a' := ?_) #[true, true, false, false, false, false, false, false, false, false, false, false, false, false, false, false] rfl rfl (any_of HT_.out (by kernel_rfl)) (fun _ _ _ h => h) (Or.inl ⟨by rfl, ?_⟩) ?_ ?_
              rotate_left
              · intro w'
                go_simp
                with_reducible rfl
              rotate_left
              · simp only [Act.put, List.setIfInBounds_toArray, List.set_cons_zero, List.set_cons_succ, i64_w, i32_w]
                rfl
              refine pure_ (i := 2) (N := some 114) (v := ?_) (a' := ?_) #[true, true, true, false, false, false, false, false, false, false, false, false, false, false, false, false] rfl rfl (any_of HT_.out (by kernel_rfl)) (fun _ _ _ h => h) (Or.inl ⟨by rfl, ?_⟩) ?_ ?_
              rotate_left
              · intro w'
                go_simp
                with_reducible rfl
              rotate_left
              · simp only [Act.put, List.setIfInBounds_toArray, List.set_cons_zero, List.set_cons_succ, i64_w, i32_w]
                rfl
              refine pure_ (i := 3) (N := some 115) (v := ?_) (a' := ?_) #[true, true, true, true, false, false, false, false, false, false, false, false, false, false, false, false] rfl rfl (any_of HT_.out (by kernel_rfl)) (fun _ _ _ h => h) (Or.inl ⟨by rfl, ?_⟩) ?_ ?_
              rotate_left
              · intro w'
                go_simp
                with_reducible rfl
              rotate_left
              · simp only [Act.put, List.setIfInBounds_toArray, List.set_cons_zero, List.set_cons_succ, i64_w, i32_w]
                rfl
              refine pure_ (i := 5) (N := some 117) (v := ?_) (a' := ?_) #[true, true, true, true, false, true, false, false, false, false, false, false, false, false, false, false] rfl rfl (any_of HT_.out (by kernel_rfl)) (fun _ _ _ h => h) (Or.inl ⟨by rfl, ?_⟩) ?_ ?_
              rotate_left
              · intro w'
                go_simp
                with_reducible rfl
              rotate_left
              · simp only [Act.put, List.setIfInBounds_toArray, List.set_cons_zero, List.set_cons_succ, i64_w, i32_w]
                rfl
              refine take_ (i := 4) (N := some 116) (v := ?_) (a' := ?_) #[true, true, true, true, true, true, false, false, false, false, false, false, false, false, false, false] rfl rfl (take_ofW HT_.out HW_.out (by kernel_rfl)) (fun _ _ _ h => h) (Or.inl ⟨by rfl, ?_⟩) hHeld ?_ ?_
              rotate_left
              · intro w' s0
                obtain ⟨s0, s1⟩ := s0
                go_simp
                with_reducible rfl
              rotate_left
              · simp only [Act.put, List.setIfInBounds_toArray, List.set_cons_zero, List.set_cons_succ, i64_w, i32_w]
                rfl
              refine pure_ (i := 7) (N := some 119) (v := ?_) (a' := ?_) #[true, true, true, true, true, true, false, true, false, false, false, false, false, false, false, false] rfl rfl (any_of HT_.out (by kernel_rfl)) (fun _ _ _ h => h) (Or.inl ⟨by rfl, ?_⟩) ?_ ?_
              rotate_left
              · intro w'
                go_simp
                with_reducible rfl
              rotate_left
              · simp only [Act.put, List.setIfInBounds_toArray, List.set_cons_zero, List.set_cons_succ, i64_w, i32_w]
                rfl
              refine pure_ (i := 8) (N := some 120) (v := ?_) (a' := ?_) #[true, true, true, true, true, true, false, true, true, false, false, false, false, false, false, false] rfl rfl (any_of HT_.out (by kernel_rfl)) (fun _ _ _ h => h) (Or.inl ⟨by rfl, ?_⟩) ?_ ?_
              rotate_left
              · intro w'
                go_simp
                with_reducible rfl
              rotate_left
              · simp only [Act.put, List.setIfInBounds_toArray, List.set_cons_zero, List.set_cons_succ, i64_w, i32_w]
                rfl
              refine take_ (i := 6) (N := some 118) (v := ?_) (a' := ?_) #[true, true, true, true, true, true, true, true, true, false, false, false, false, false, false, false] rfl rfl (take_ofW HT_.out HW_.out (by kernel_rfl)) (fun _ _ _ h => h) (Or.inl ⟨by rfl, ?_⟩) hHeld ?_ ?_
              rotate_left
              · intro w' s0
                obtain ⟨s0, s1⟩ := s0
                go_simp
                with_reducible rfl
              rotate_left
              · simp only [Act.put, List.setIfInBounds_toArray, List.set_cons_zero, List.set_cons_succ, i64_w, i32_w]
                rfl
              refine one_ (i := 9) (N := none) #[true, true, true, true, true, true, true, true, true, true, false, false, false, false, false, false] rfl rfl (one_of HT_.out (by kernel_rfl)) (by decide) (fun K hK => ?_)
              have hs0 := blk_cell HL.out 1
              have hfs0 := blk_frozen HL.out 1
              simp only [List.getElem?_toArray, List.getElem?_cons_succ, List.getElem?_cons_zero] at hs0
              refine skip_ (w1 := w4.setCell ⟨lb, 1, none⟩ (.slice xA ad.length xc)) (by rfl) rfl (by go_simp) ?_
              have n_HL : Aside0 ((w4.setCell ⟨lb, 1, none⟩ (.slice xA ad.length xc)).heap[lb]? = some (.cells #[.pointer (some ⟨g, 0, none⟩), .slice xA ad.length xc, .bool lh, .int .u64 lr, .int .u64 M, .int .i64 (sl : Int)] 59 (0, 0))) := ⟨blk_put HL.out 1 _ rfl⟩
              have n_HF := Aside0.mk (HF.out.set (p := ⟨lb, 1, none⟩) rfl (.slice xA ad.length xc))
              have n_HFR := Aside0.mk (own_setCell HFR.out (p := ⟨lb, 1, none⟩) (own_ne HFR.out HL.out (by decide)) (.slice xA ad.length xc))
              have n_HVO := Aside0.mk (own_setCell HVO.out (p := ⟨lb, 1, none⟩) (own_ne HVO.out HL.out (by decide)) (.slice xA ad.length xc))
              have n_HFS : Aside0 (∀ x ∈ fs, (w4.setCell ⟨lb, 1, none⟩ (.slice xA ad.length xc)).ownsRow w0.heap.size 5 1 x.2 x.1.2.2.length (nums .u8 x.1.2.2)) := ⟨fun x hx => own_setCell (HFS.out x hx) (p := ⟨lb, 1, none⟩) (own_ne (HFS.out x hx) HL.out (by decide)) _⟩
              have n_HX := Aside0.mk (blk_far HX.out (p := ⟨lb, 1, none⟩) (blk_ne HX.out HL.out (by decide)) (.slice xA ad.length xc))
              clear HL HF HFR HFS HVO HX hs0 hfs0
              have HL := n_HL
              have HF := n_HF
              have HFR := n_HFR
              have HFS := n_HFS
              have HVO := n_HVO
              have HX := n_HX
              clear n_HL n_HF n_HFR n_HFS n_HVO n_HX
              generalize w4.setCell ⟨lb, 1, none⟩ (.slice xA ad.length xc) = w4 at HL HF HFR HFS HVO HX ⊢
              refine hK.out _ _ ⟨(blk_cell HX.out 4).trans rfl, (blk_cell HX.out 1).trans rfl⟩ (fun hHeld => ?_)
              clear hK K
              refine pure_ (i := 10) (N := some 121) (v := ?_) (a' := ?_) #[true, true, true, true, true, true, true, true, true, true, true, false, false, false, false, false] rfl rfl (any_of HT_.out (by kernel_rfl)) (fun _ _ _ h => h) (Or.inl ⟨by rfl, ?_⟩) ?_ ?_
              rotate_left
              · intro w'
                go_simp
                with_reducible rfl
              rotate_left
              · simp only [Act.put, List.setIfInBounds_toArray, List.set_cons_zero, List.set_cons_succ, i64_w, i32_w]
                rfl
              refine pure_ (i := 11) (N := some 122) (v := ?_) (a' := ?_) #[true, true, true, true, true, true, true, true, true, true, true, true, false, false, false, false] rfl rfl (any_of HT_.out (by kernel_rfl)) (fun _ _ _ h => h) (Or.inl ⟨by rfl, ?_⟩) ?_ ?_
              rotate_left
              · intro w'
                go_simp
                with_reducible rfl
              rotate_left
              · simp only [Act.put, List.setIfInBounds_toArray, List.set_cons_zero, List.set_cons_succ, i64_w, i32_w]
                rfl
              refine one_ (i := 12) (N := none) #[true, true, true, true, true, true, true, true, true, true, true, true, true, false, false, false] rfl rfl (one_of HT_.out (by kernel_rfl)) (by decide) (fun K hK => ?_)
              have hs0 := blk_cell HL.out 3
              have hfs0 := blk_frozen HL.out 3
              simp only [List.getElem?_toArray, List.getElem?_cons_succ, List.getElem?_cons_zero] at hs0
              refine skip_ (w1 := w4.setCell ⟨lb, 3, none⟩ (.int .u64 ar)) (by rfl) rfl (by go_simp) ?_
              have n_HL : Aside0 ((w4.setCell ⟨lb, 3, none⟩ (.int .u64 ar)).heap[lb]? = some (.cells #[.pointer (some ⟨g, 0, none⟩), .slice xA ad.length xc, .bool lh, .int .u64 ar, .int .u64 M, .int .i64 (sl : Int)] 59 (0, 0))) := ⟨blk_put HL.out 3 _ rfl⟩
              have n_HF := Aside0.mk (HF.out.set (p := ⟨lb, 3, none⟩) rfl (.int .u64 ar))
              have n_HFR := Aside0.mk (own_setCell HFR.out (p := ⟨lb, 3, none⟩) (own_ne HFR.out HL.out (by decide)) (.int .u64 ar))
              have n_HVO := Aside0.mk (own_setCell HVO.out (p := ⟨lb, 3, none⟩) (own_ne HVO.out HL.out (by decide)) (.int .u64 ar))
              have n_HFS : Aside0 (∀ x ∈ fs, (w4.setCell ⟨lb, 3, none⟩ (.int .u64 ar)).ownsRow w0.heap.size 5 1 x.2 x.1.2.2.length (nums .u8 x.1.2.2)) := ⟨fun x hx => own_setCell (HFS.out x hx) (p := ⟨lb, 3, none⟩) (own_ne (HFS.out x hx) HL.out (by decide)) _⟩
              have n_HX := Aside0.mk (blk_far HX.out (p := ⟨lb, 3, none⟩) (blk_ne HX.out HL.out (by decide)) (.int .u64 ar))
              clear HL HF HFR HFS HVO HX hs0 hfs0
              have HL := n_HL
              have HF := n_HF
              have HFR := n_HFR
              have HFS := n_HFS
              have HVO := n_HVO
              have HX := n_HX
              clear n_HL n_HF n_HFR n_HFS n_HVO n_HX
              generalize w4.setCell ⟨lb, 3, none⟩ (.int .u64 ar) = w4 at HL HF HFR HFS HVO HX ⊢
              refine hK.out _ _ ⟨(blk_cell HX.out 4).trans rfl, (blk_cell HX.out 1).trans rfl⟩ (fun hHeld => ?_)
              clear hK K
              refine pure_ (i := 13) (N := some 123) (v := ?_) (a' := ?_) #[true, true, true, true, true, true, true, true, true, true, true, true, true, true, false, false] rfl rfl (any_of HT_.out (by kernel_rfl)) (fun _ _ _ h => h) (Or.inl ⟨by rfl, ?_⟩) ?_ ?_
              rotate_left
              · intro w'
                go_simp
                with_reducible rfl
              rotate_left
              · simp only [Act.put, List.setIfInBounds_toArray, List.set_cons_zero, List.set_cons_succ, i64_w, i32_w]
                rfl
              refine pure_ (i := 14) (N := some 124) (v := ?_) (a' := ?_) #[true, true, true, true, true, true, true, true, true, true, true, true, true, true, true, false] rfl rfl (any_of HT_.out (by kernel_rfl)) (fun _ _ _ h => h) (Or.inl ⟨by rfl, ?_⟩) ?_ ?_
              rotate_left
              · intro w'
                go_simp
                with_reducible rfl
              rotate_left
              · simp only [Act.put, List.setIfInBounds_toArray, List.set_cons_zero, List.set_cons_succ, i64_w, i32_w]
                rfl
              refine one_ (i := 15) (N := none) #[true, true, true, true, true, true, true, true, true, true, true, true, true, true, true, true] rfl rfl (one_of HT_.out (by kernel_rfl)) (by decide) (fun K hK => ?_)
              have hs0 := blk_cell HL.out 2
              have hfs0 := blk_frozen HL.out 2
              simp only [List.getElem?_toArray, List.getElem?_cons_succ, List.getElem?_cons_zero] at hs0
              refine skip_ (w1 := w4.setCell ⟨lb, 2, none⟩ (.bool true)) (by rfl) rfl (by go_simp) ?_
              have n_HL : Aside0 ((w4.setCell ⟨lb, 2, none⟩ (.bool true)).heap[lb]? = some (.cells #[.pointer (some ⟨g, 0, none⟩), .slice xA ad.length xc, .bool true, .int .u64 ar, .int .u64 M, .int .i64 (sl : Int)] 59 (0, 0))) := ⟨blk_put HL.out 2 _ rfl⟩
              have n_HF := Aside0.mk (HF.out.set (p := ⟨lb, 2, none⟩) rfl (.bool true))
              have n_HFR := Aside0.mk (own_setCell HFR.out (p := ⟨lb, 2, none⟩) (own_ne HFR.out HL.out (by decide)) (.bool true))
              have n_HVO := Aside0.mk (own_setCell HVO.out (p := ⟨lb, 2, none⟩) (own_ne HVO.out HL.out (by decide)) (.bool true))
              have n_HFS : Aside0 (∀ x ∈ fs, (w4.setCell ⟨lb, 2, none⟩ (.bool true)).ownsRow w0.heap.size 5 1 x.2 x.1.2.2.length (nums .u8 x.1.2.2)) := ⟨fun x hx => own_setCell (HFS.out x hx) (p := ⟨lb, 2, none⟩) (own_ne (HFS.out x hx) HL.out (by decide)) _⟩
              have n_HX := Aside0.mk (blk_far HX.out (p := ⟨lb, 2, none⟩) (blk_ne HX.out HL.out (by decide)) (.bool true))
              clear HL HF HFR HFS HVO HX hs0 hfs0
              have HL := n_HL
              have HF := n_HF
              have HFR := n_HFR
              have HFS := n_HFS
              have HVO := n_HVO
              have HX := n_HX
              clear n_HL n_HF n_HFR n_HFS n_HVO n_HX
              generalize w4.setCell ⟨lb, 2, none⟩ (.bool true) = w4 at HL HF HFR HFS HVO HX ⊢
              refine hK.out _ _ ⟨(blk_cell HX.out 4).trans rfl, (blk_cell HX.out 1).trans rfl⟩ (fun hHeld => ?_)
              clear hK K
              refine done_ (done_of HT_.out (by kernel_rfl)) ?_
              clear HT_ HW_ hHeld

              go_wp2
              have e3 : wrap64 ((i : Int) + 1) = (i : Int) + 1 := by unfold wrap64; have := H6.out; have := FLN.out; omega
              go_roundg (gk - 1)
              case measure => have := KQ.out; have := H6.out; omega
              case rel =>
                refine ⟨i + 1, v1, by first | rfl | (simp [e3]; done) | (simp only [e3]; rfl) | (push_cast; rfl), rfl, ⟨by have := KQ.out; have := H6.out; omega⟩, ⟨?_⟩, ⟨HF.out⟩, ⟨HFR.out⟩, ⟨HFS.out⟩, ⟨HVO.out⟩⟩
                obtain ⟨z1, z2, z3⟩ := lg_snoc (fs.take i) ((am, ar, ad), .slice xA ad.length xc)
                rw [TK.out, z1, z2, z3]
                exact HL.out
            · have c6b : decide ((i : Int) < (fs.length : Int)) = false := decide_eq_false (by omega)
              have c6c : decide (i < fs.length) = false := decide_eq_false c6
              have q1 : ((i : Int) < (fs.length : Int)) = False := eq_false (by omega)
              have el : i = fs.length := by have := KQ.out; omega
              subst el
              clear c6
              rw [List.take_length] at HL HVO
              rw [List.length_map] at HVO
              obtain ⟨B, oc, rfl⟩ := own_slice HVO.out
              have HU : Aside0 (w4.ownsRow w0.heap.size 22 1 (.slice B fs.length oc) fs.length (fs.map (·.2))) := ⟨HVO.out⟩
              have HE : Aside0 (∀ (k : Nat) (u : Value) (x : Rc × Value), (fs.map (·.2))[k]? = some u → fs[k]? = some x → w4.ownsRow w0.heap.size 5 1 u x.1.2.2.length (nums .u8 x.1.2.2)) := ⟨fun k u x hu hx => by
                rw [List.getElem?_map, hx] at hu
                obtain rfl := Option.some.inj hu
                exact HFS.out x (List.mem_of_getElem? hx)⟩
              clear HVO HFR KQ
              go_wp2_with fail
              go_loopg [128] fs.length (fun kq v128 w' => ∃ (i : Nat) (us : List Value), v128 = .int .i64 (i : Int) ∧ Aside0 (i + kq = fs.length) ∧ Aside0 (w'.heap[lb]? = some (.cells #[.pointer (some ⟨g, 0, none⟩), lgLast fs, .bool (lgHas fs), .int .u64 (lgRcn fs), .int .u64 M, .int .i64 (sl : Int)] 59 (0, 0))) ∧ Aside0 (DF (fun k => k = lb) w0 w') ∧ Aside0 (w'.ownsRow w0.heap.size 22 1 (.slice B fs.length oc) fs.length us) ∧ Aside0 (∀ (k : Nat) (u : Value) (x : Rc × Value), us[k]? = some u → fs[k]? = some x → w'.ownsRow w0.heap.size 5 1 u x.1.2.2.length (nums .u8 x.1.2.2)) ∧ Aside0 (∀ x ∈ fs, w'.ownsRow w0.heap.size 5 1 x.2 x.1.2.2.length (nums .u8 x.1.2.2)))
              case atStart => exact ⟨0, _, rfl, ⟨by omega⟩, ⟨HL.out⟩, ⟨HF.out⟩, ⟨HU.out⟩, ⟨HE.out⟩, ⟨HFS.out⟩⟩
              case round =>
                clear HL HF HU HE HFS
                obtain ⟨i, us, rfl, KQ, HL, HF, HU, HE, HFS⟩ := hrel
                generalize wr = w4 at HL HF HU HE HFS ⊢
                by_cases c6 : i < fs.length
                · have c6b : decide ((i : Int) < (fs.length : Int)) = true := decide_eq_true (by omega)
                  have c6c : decide (i < fs.length) = true := decide_eq_true c6
                  have q1 : ((i : Int) < (fs.length : Int)) = True := eq_true (by omega)
                  have q2 : (i < fs.length) = True := eq_true c6
                  have H6 := Aside0.mk c6
                  obtain ⟨x, hx⟩ : ∃ x, fs[i]? = some x := ⟨_, List.getElem?_eq_getElem c6⟩
                  have hul : us.length = fs.length := by have := HU.out.1; omega
                  obtain ⟨u, hu⟩ : ∃ u, us[i]? = some u := ⟨_, List.getElem?_eq_getElem (by omega)⟩
                  obtain ⟨⟨am, ar, ad⟩, av⟩ := x
                  have hou := HE.out i u _ hu hx
                  simp only at hou
                  obtain ⟨uA, uc, rfl⟩ := own_slice hou
                  have HUL := Aside0.mk hul
                  have HXI := Aside0.mk hx
                  obtain ⟨ob, cp, hfv, _, _⟩ := HU.out.form (by omega)
                  injection hfv with hf1 hf2 hf3
                  subst hf1
                  have y : w4.cell? ⟨ob, i, none⟩ = some (.slice uA ad.length uc) := by
                    have h1 := HU.out.cells (g := ob) rfl i _ hu
                    rw [add_at] at h1
                    exact h1
                  have HY := Aside0.mk y
                  have ya : (w4.alloc (.cells #[] 5)).cell? ⟨ob, i, none⟩ = some (.slice uA ad.length uc) := cell_below y (below_alloc (Below.refl _ _) _)
                  have HRD : Aside0 (ReadsInt (w4.alloc (.cells #[] 5)) .u8 uA ad.length ad) := ⟨own_reads' (pw_own_below hou (below_alloc (Below.refl _ _) _))⟩
                  have HAB : Aside0 (Below w0.heap.size w4 (w4.alloc (.cells #[] 5))) := ⟨(Below.refl w0.heap.size w4).alloc HF.out.size _⟩
                  have HSM : Aside0 ((([] : List Int).length + ad.length) * 1 ≤ 140737488355328) := ⟨by
                    obtain ⟨k, hk1, hk2⟩ := lgSt_mem o 2 (am, ar, ad) (by rw [STO.out]; exact List.mem_map.2 ⟨_, List.mem_of_getElem? hx, rfl⟩)
                    have hk3 := HO.out k (by omega)
                    rw [hk2] at hk3
                    have h1 := lgRec_len (fun l hl => ⟨IB.out l hl, by
                      obtain ⟨p, hp, he⟩ := List.mem_iff_getElem.1 hl
                      obtain ⟨b_, l_, hz1, hz2, hz3, hz4⟩ := HD0.out.at (k := p) (by rw [← HD0.out.len]; exact hp)
                      have h6 : l_ = l := by rw [List.getElem?_eq_getElem hp, he] at hz2; exact (Option.some.inj hz2).symm
                      rw [← h6, hz3]
                      have := RG.out
                      omega⟩) hk3
                    simp only [List.length_nil]
                    omega⟩
                  have hgr2 : Aside0 (∀ w1, (w4.alloc (.cells #[] 5)).grownBy w1 (some w4.heap.size) → Aside0 (Below w4.heap.size w4 w1)) := ⟨fun w1 h => ⟨(below_alloc (Below.refl w4.heap.size w4) _).grown h (below_size (below_alloc (Below.refl w4.heap.size w4) _)) (fun k hk => Nat.le_of_eq (Option.some.inj hk))⟩⟩
                  clear c6 hx hu hou hul hf2 hf3
                  go_wp2_with ((refine print_append_row (w0 := w4) w0.heap.size rfl (.tmp 133) (.tmp 137) 22 5 .u8 1 rfl Tryd.underlying22 info5 (by decide) (.slice (some ⟨w4.heap.size, 0, none⟩) 0 0) [] ad uA ad.length uc rfl rfl (World.ownsRow_lit w4 #[] 0 HF.out.size (by decide) rfl) HRD.out HAB.out (Nat.le_trans HF.out.size (below_size (below_alloc (Below.refl w4.heap.size w4) _))) HSM.out ?_; intro v1 w1 hown hb1 hgr hat; rw [List.nil_append] at hown; obtain ⟨A2, c2, rfl⟩ := own_slice hown; have hg2 := hgr2.out w1 hgr; have HU1 := Aside0.mk (pw_own_below HU.out hg2.out); have ys : w1.cell? ⟨ob, i, none⟩ = some (.slice uA ad.length uc) := cell_below y hg2.out; have zs := own_frozen HU1.out i))
                  have e3 : wrap64 ((i : Int) + 1) = (i : Int) + 1 := by unfold wrap64; have := H6.out; have := FLN.out; omega
                  have HS := HU1.out.stored i (.slice A2 ad.length c2)
                  have HL1 := blk_below HL.out hg2.out
                  have hob : lb ≠ ob := fun e => own_ne HU1.out HL1 (by decide) (by rw [e]; rfl)
                  go_roundg (gk - 1)
                  case measure => have := KQ.out; have := H6.out; omega
                  case rel =>
                    refine ⟨i + 1, us.set i (.slice A2 ad.length c2), by first | rfl | (simp [e3]; done) | (simp only [e3]; rfl) | (push_cast; rfl), ⟨by have := KQ.out; have := H6.out; omega⟩, ⟨?_⟩, ⟨?_⟩, ⟨HS.1⟩, ⟨?_⟩, ⟨?_⟩⟩
                    · exact blk_far HL1 (p := ⟨ob, i, none⟩) hob _
                    · exact DF.grown (HF.out.trans (DF.of_below hg2.out)) HS.2 (fun k hk e => by have := own_base HU1.out ob rfl; have := Option.some.inj e; omega)
                    · intro k u x hu hx
                      by_cases hk : k = i
                      · subst hk
                        rw [List.getElem?_set_self (by rw [HUL.out]; exact H6.out)] at hu
                        obtain rfl := Option.some.inj hu
                        rw [HXI.out] at hx
                        obtain rfl := Option.some.inj hx
                        exact own_setCell (p := ⟨ob, k, none⟩) hown (fun e => by
                          rcases own_type_ne hown HU1.out (by decide) with h1 | h1
                          · rw [h1] at e; cases e
                          · exact h1 e.symm) _
                      · rw [List.getElem?_set_ne (fun h => hk h.symm)] at hu
                        have h2 := pw_own_below (HE.out k u x hu hx) hg2.out
                        exact own_setCell (p := ⟨ob, i, none⟩) h2 (fun e => by
                          rcases own_type_ne h2 HU1.out (by decide) with h1 | h1
                          · rw [h1] at e; cases e
                          · exact h1 e.symm) _
                    · intro x hx
                      have h2 := pw_own_below (HFS.out x hx) hg2.out
                      exact own_setCell (p := ⟨ob, i, none⟩) h2 (fun e => by
                        rcases own_type_ne h2 HU1.out (by decide) with h1 | h1
                        · rw [h1] at e; cases e
                        · exact h1 e.symm) _
                · have c6b : decide ((i : Int) < (fs.length : Int)) = false := decide_eq_false (by omega)
                  have c6c : decide (i < fs.length) = false := decide_eq_false c6
                  have q1 : ((i : Int) < (fs.length : Int)) = False := eq_false (by omega)
                  clear c6
                  go_wp2
                  (try simp only [Exit.inBlock, Exit.then])
                  first | go_ret3 | go_ret2 | go_ret
                  have hst := STO.out
                  have hml : (fs.map Prod.fst).length = fs.length := List.length_map ..
                  have hbw := (HF.out.below HB0.out (below_size HB0.out) (fun k hk => hk ▸ LBB.out))
                  refine ⟨hbw, ?_⟩
                  have hC : RW w4 w.heap.size (.slice B fs.length oc) ((fs.map Prod.fst).map (·.2.2)) := ⟨us, by have := HU.out.1; rw [Nat.mul_one] at this; rw [this]; simp, by have := HU.out.1; rw [Nat.mul_one] at this; rw [this]; exact own_less HU.out (below_size HB0.out), fun k u d hu hd => by
                    rw [List.map_map, List.getElem?_map] at hd
                    cases hx : fs[k]? with
                    | none => rw [hx] at hd; cases hd
                    | some x =>
                      rw [hx] at hd
                      obtain rfl := Option.some.inj hd
                      exact own_less (HE.out k u x hu hx) (below_size HB0.out)⟩
                  have hle := own_le HU.out
                  obtain ⟨la, lc, hla, hlo⟩ := lgLast_own fs HFS.out
                  rw [hst]
                  refine ⟨lb, B, oc, la, lc, by rw [hml]; first | rfl | skip, LBB.out, by rw [hml]; exact hle, by rw [hml]; exact hC, ⟨?_, rfl, own_less hlo (below_size HB0.out)⟩⟩
                  have h1 := HL.out
                  rw [VM.out, hla] at h1
                  unfold lgHas lgRcn at h1
                  simp only [List.getLast?_map, Option.isSome_map, Option.map_map] at h1 ⊢
                  exact h1






end
end Go.Proofs.YtgeggcifhojpmaaDoor.PB
