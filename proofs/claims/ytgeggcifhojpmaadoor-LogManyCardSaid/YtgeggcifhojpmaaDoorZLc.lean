/- Texts of this claim, merged: LogRec, LogApp. -/
import Derived.Test.YtgeggcifhojpmaaDoorZLb
import Derived.Maps.AppendAt
import Derived.Deep.Cut
import Derived.Deep.CutRange
import Derived.Deep.CutBlock
/- What record tells of a slot. -/
namespace Go.Proofs.YtgeggcifhojpmaaDoor.PB
open Go.RowKit Go.Proofs.YtgeggcifhojpmaaDoorW.PrintWords Go.Proofs.YtgeggcifhojpmaaDoorW.PrintLast Go.Proofs.YtgeggcifhojpmaaDoorW.PrintMore
attribute [local go_sem] max2_mx min2_mn max_two min_two max_three min_three max_four min_four   -- for this text's walks alone
set_option linter.unusedVariables false
set_option linter.unusedSimpArgs false

/-- What record returns: a refusal, or a record whose bytes lie in a row of its own. -/
def RecP (ge : Addr) (w : World) : Option (Int × Int × List Int) → Ending → World → Prop
  | none, e, _ => e = .returned (.tuple #[.agg #[.int .u64 0, .int .u64 0, .int .i64 0, .int .i64 0, .slice none 0 0], .iface 91 (.pointer (some ge))])
  | some (m, r, d), e, w' => ∃ v, e = .returned (.tuple #[.agg #[.int .u64 m, .int .u64 r, .int .i64 0, .int .i64 0, v], .nilIface]) ∧ w'.ownsRow w.heap.size 5 1 v d.length (nums .u8 d)
section
variable {P : Program} {ops : Array Oper} {rest : List Oper} {o : Oper} {a : Act} {Q : Exit → Act → World → Prop}
theorem store_new {w : World} {c c' : Array Value} {t : TypeId} {p x : Operand} (ho : o.op = .store t p x) (hp : a.eval p = .pointer (some ⟨w.heap.size, 0, none⟩)) (hx : a.eval x = .agg c') (hi : (P.info? t).map (·.size) = some c'.size) (hs : c.size = c'.size) (h1 : c'.all (·.oneCell') = true) :
    (execOp a.eval o).run P (w.alloc (.cells c t)) = .ok .skip (w.alloc (.cells c' t)) := by
  have h := run_storeAt_new (P := P) w t c c' hi hs h1
  unfold execOp
  simp only [ho, hp, hx]
  simp [h, Sem.run_bind, Result.andThen]
theorem exec_append {w w1 : World} {v y v2 : Value} {s x : Operand} {t : TypeId} (ho : o.op = .call { callee := .builtin .append, args := #[s, x], argTypes := #[t, t] }) (hs : a.eval s = v) (hx : a.eval x = y) (hr : (Builtin.append_ #[t, t] o.type #[v, y]).run P w = .ok v2 w1) : (execOp a.eval o).run P w = .ok (.value v2) w1 := by
  unfold execOp
  simp only [ho, resolve, invoke, builtin, Sem.run_bind, Sem.run_pure, Result.andThen_ok, List.map_toArray, List.map_cons, List.map_nil, hs, hx, hr]
end
theorem grown_setRow (w : World) (g : Nat) (cs : Array Value) : w.grownBy (w.setRow g cs) (some g) := ⟨rfl, rfl, rfl, by simp [World.setRow], fun k _ hk => setRow_other w g k cs (fun e => hk (by rw [e]))⟩
theorem own_setRow {w : World} {base n size : Nat} {e t : TypeId} {v : Value} {xs : List Value} {g : Nat} {cells : Array Value} (h : w.ownsRow base e size v n xs) (hg : w.heap[g]? = some (.cells cells t (0, 0))) (hne : e ≠ t) (cs : Array Value) : (w.setRow g cs).ownsRow base e size v n xs :=
  own_other h (grown_setRow w g cs) (Or.inr (own_ne h hg hne).symm)
theorem blk_setRow {w : World} {g k : Nat} {o : Obj} (h : w.heap[k]? = some o) (hne : k ≠ g) (cs : Array Value) : (w.setRow g cs).heap[k]? = some o := (setRow_other w g k cs hne).trans h
def log_record.R3.T : Bool × List (List Nat × List Nat) := (true, [([], []), ([0], [0]), ([1], [1]), ([2], [2]), ([3, 2], [2, 3]), ([4, 2], [2, 4]), ([2, 5], [2, 5]), ([6, 2], [6]), ([7], [7]), ([8, 7], [7, 8]), ([7], [7]), ([10, 7, 7], [7, 10]), ([9, 11, 7], [7, 9, 11]), ([7, 12], [7, 12])])
theorem log_record.R3.tab : rtab .any (opsOf Tryd.f32 3) = log_record.R3.T := by kernel_rfl
theorem log_record.R3.bits : waitsOk log_record.R3.T.2 [0, 1, 3, 7, 15, 31, 63, 127, 255, 511, 255, 1279, 4095, 8191] = true := by kernel_rfl
def log_record.R4.T : Bool × List (List Nat × List Nat) := (true, [([], []), ([], []), ([0, 0], [0]), ([1, 2, 0, 1, 2], [1])])
theorem log_record.R4.tab : rtab .any (opsOf Tryd.f32 4) = log_record.R4.T := by kernel_rfl
theorem log_record.R4.bits : waitsOk log_record.R4.T.2 [0, 0, 1, 7] = true := by kernel_rfl
def log_record.R8.T : Bool × List (List Nat × List Nat) := (true, [([], []), ([0], [0]), ([], []), ([2], [2]), ([3], [3]), ([1, 4], [1, 4]), ([], []), ([6], [6]), ([5, 7], [5, 7]), ([8, 7, 0, 1, 2, 3, 4, 5, 6, 7, 8], [8])])
theorem log_record.R8.tab : rtab .any (opsOf Tryd.f32 8) = log_record.R8.T := by kernel_rfl
theorem log_record.R8.bits : waitsOk log_record.R8.T.2 [0, 1, 0, 4, 12, 31, 0, 64, 255, 511] = true := by kernel_rfl
def log_record.R9.T : Bool × List (List Nat × List Nat) := (true, [([], []), ([0], [0]), ([], []), ([2], [2]), ([], []), ([3, 4], [3, 4]), ([1, 5], [1, 5]), ([0, 1, 2, 3, 4, 5, 6], []), ([7, 6, 6, 0, 1, 2, 3, 4, 5, 6], [6, 7])])
theorem log_record.R9.tab : rtab .any (opsOf Tryd.f32 9) = log_record.R9.T := by kernel_rfl
theorem log_record.R9.bits : waitsOk log_record.R9.T.2 [0, 1, 0, 4, 0, 28, 63, 127, 255] = true := by kernel_rfl
def log_record.R14.T : Bool × List (List Nat × List Nat) := (true, [([], []), ([], []), ([0, 0], [0]), ([1, 2, 0, 1, 2], [1])])
theorem log_record.R14.tab : rtab .any (opsOf Tryd.f32 14) = log_record.R14.T := by kernel_rfl
theorem log_record.R14.bits : waitsOk log_record.R14.T.2 [0, 0, 1, 7] = true := by kernel_rfl
set_option maxHeartbeats 40000000 in
set_option maxRecDepth 100000 in
theorem log_record.calls {w : World} {base g q s : Nat} {hs : List Nat} {dbs : List (List Int)} {cut pre : Int} {dead : Bool} (hd : DK w base g q s hs dbs cut pre dead) (hn : 0 < hs.length) (h64 : hs.length ≤ 64) (h36 : 36 ≤ s) (hs6 : s ≤ 65536) (ge : Addr) (hge : w.cell? ⟨0, 0, none⟩ = some (.iface 91 (.pointer (some ge))))
    {rb cap n : Nat} {cs : List Nat} {bs : List (List Int)} (hr : RB w rb s cs bs) (hlen : cs.length = n) (hlen2 : hs.length = n) (slot : Nat) (hslot : slot ≤ 1) (res : Option (Int × Int × List Int)) (h : lgRec s n bs slot = some res) :
    Calls Tryd.prog 32 #[.pointer (some ⟨g, 0, none⟩), .slice (some ⟨rb, 0, none⟩) n cap, .int .i64 (slot : Int)] w fun e w' => Below w.heap.size w w' ∧ RecP ge w res e w' := by
  have hu65 := Tryd.underlying65
  have HD0 := Aside0.mk hd
  have NN := Aside0.mk (And.intro hn (And.intro h64 (And.intro h36 hs6)))
  have GE0 := Aside0.mk hge
  have HR0 := Aside0.mk hr
  have HL0 := Aside0.mk (And.intro hlen hlen2)
  obtain ⟨hf, hhf⟩ : ∃ hf, hf = n / 2 := ⟨_, rfl⟩
  obtain ⟨fst, hfst⟩ : ∃ fst, fst = slot * hf := ⟨_, rfl⟩
  have h32 : hf ≤ 32 := by omega
  have hfn : fst ≤ hf := by
    rw [hfst]
    exact Nat.le_trans (Nat.mul_le_mul_right hf hslot) (Nat.le_of_eq (Nat.one_mul hf))
  have F1 := Aside0.mk (show wrap64 ((n : Int) / 2) = (hf : Int) from (congrArg wrap64 (show (n : Int) / 2 = (hf : Int) by omega)).trans (wrapN hf (by omega)))
  have F2 := Aside0.mk (show wrap64 ((slot : Int) * (hf : Int)) = (fst : Int) from (congrArg wrap64 (show (slot : Int) * (hf : Int) = (fst : Int) by rw [hfst, Int.natCast_mul])).trans (wrapN fst (by omega)))
  unfold lgRec at h
  rw [← hhf, ← hfst] at h
  cases hl0 : bs[fst]? with
  | none => rw [hl0] at h; cases h
  | some l0 =>
    rw [hl0] at h
    dsimp only at h
    obtain ⟨c, hc1, hc2, hc3, hc4, hc5⟩ := hr.at hl0
    have hlt : fst < n := by
      have h1 := (List.getElem?_eq_some_iff.1 hl0).1
      have h2 := hr.len
      omega
    have i1 : ((fst : Int) < (n : Int)) = True := eq_true (by omega)
    have i2 : (fst < n) = True := eq_true hlt
    have C0 := Aside0.mk (And.intro hc5 (And.intro hc3 hc4))
    have H0 := Aside0.mk h
    have R2 := Aside0.mk hc2
    clear h hl0 hc1 hc2 hc3 hc4 hc5 hlt hhf hfst hfn h32 hd hn h64 h36 hs6 hge hr hlen hlen2 hslot
    have f1_ := F1.out
    have f2_ := F2.out
    go_enter Tryd.func32, Tryd.ntmps32
    go_upto_region 1 with (fail)
    obtain ⟨yb, hyb⟩ : ∃ x_, x_ = w.heap.size := ⟨_, rfl⟩
    have HY : Aside0 ((w.alloc (.cells #[.int .u64 0, .int .u64 0, .int .i64 0, .int .i64 0, .slice none 0 0] 65)).heap[yb]? = some (.cells #[.int .u64 0, .int .u64 0, .int .i64 0, .int .i64 0, .slice none 0 0] 65 (0, 0))) := ⟨by rw [hyb]; exact blk_new _ _⟩
    have YBL := Aside0.mk (show w.heap.size ≤ yb by omega)
    have HB := Aside0.mk (below_alloc (Below.refl w.heap.size w) (.cells #[.int .u64 0, .int .u64 0, .int .i64 0, .int .i64 0, .slice none 0 0] 65))
    rw [← hyb]
    clear hyb
    generalize w.alloc (.cells #[.int .u64 0, .int .u64 0, .int .i64 0, .int .i64 0, .slice none 0 0] 65) = w4 at HY HB ⊢
    have r2 : w4.cell? ⟨rb, fst, none⟩ = some (.slice (some ⟨c, 0, none⟩) s s) := cell_below R2.out HB.out
    go_wp2_with fail
    (try simp only [F1.out, F2.out])
    clear r2 f1_ f2_
    cases hk0 : lgRead l0 with
    | none =>
      have H1 := H0.out
      rw [hk0] at H1
      obtain rfl := Option.some.inj H1
      clear H1
      refine (log_read.no (blk_below C0.out.1 HB.out) C0.out.2.2 C0.out.2.1 NN.out.2.2.1 NN.out.2.2.2 ge (cell_below GE0.out HB.out) hk0).mono ?_
      rintro e w4 ⟨rfl, hb⟩
      (try dsimp only)
      have hb_ := hb
      have n_HY := Aside0.mk (blk_below HY.out hb_)
      have n_HB := Aside0.mk (below_step HB.out hb_)
      clear HY HB
      have HY := n_HY
      have HB := n_HB
      clear n_HY n_HB hb_
      clear hb
      go_upto_region 3 with ((refine event_skip rfl rfl (store_new rfl rfl rfl info65s rfl (by simp [Value.oneCell'])) ?_))
      obtain ⟨xk, hxk⟩ : ∃ x_, x_ = w4.heap.size := ⟨_, rfl⟩
      have HK : Aside0 ((w4.alloc (.cells #[.int .u64 0, .int .u64 0, .int .i64 0, .int .i64 0, .slice none 0 0] 65)).heap[xk]? = some (.cells #[.int .u64 0, .int .u64 0, .int .i64 0, .int .i64 0, .slice none 0 0] 65 (0, 0))) := ⟨by rw [hxk]; exact blk_new _ _⟩
      have Nxkyb := Aside0.mk (show xk ≠ yb by rw [hxk]; exact Nat.ne_of_gt (blk_lt HY.out))
      have Lxk := Aside0.mk (show w.heap.size ≤ xk by rw [hxk]; exact below_size HB.out)
      try rw [← hxk]
      clear hxk
      have hb_ := below_alloc (Below.refl w4.heap.size w4) (.cells #[.int .u64 0, .int .u64 0, .int .i64 0, .int .i64 0, .slice none 0 0] 65)
      have n_HY := Aside0.mk (blk_below HY.out hb_)
      have n_HB := Aside0.mk (below_step HB.out hb_)
      clear HY HB
      have HY := n_HY
      have HB := n_HB
      clear n_HY n_HB hb_
      generalize w4.alloc (.cells #[.int .u64 0, .int .u64 0, .int .i64 0, .int .i64 0, .slice none 0 0] 65) = w4 at HK HY HB ⊢
      go_upto_region 3 with (fail)
      refine start_ (n := 14) (S := fun w' => w'.cell? ⟨xk, 3, none⟩ = some (.int .i64 0) ∧ w'.cell? ⟨xk, 2, none⟩ = some (.int .i64 0)) (ds := []) #[false, false, false, false, false, false, false, false, false, false, false, false, false, false] (by kernel_rfl) rfl rfl ⟨(blk_cell HK.out 3).trans rfl, (blk_cell HK.out 2).trans rfl⟩ (fun hHeld => ?_)
      refine with_tabW log_record.R3.tab log_record.R3.bits (fun HT_ HW_ => ?_)
      have hb_ := below_drew1 (Below.refl w4.heap.size w4)
      have n_HY := Aside0.mk (blk_below HY.out hb_)
      have n_HK := Aside0.mk (blk_below HK.out hb_)
      have n_HB := Aside0.mk (below_step HB.out hb_)
      clear HY HK HB
      have HY := n_HY
      have HK := n_HK
      have HB := n_HB
      clear n_HY n_HK n_HB hb_
      generalize w4.drew = w4 at HY HK HB hHeld ⊢
      refine pure_ (i := 0) (N := some 27) (v := ?_) (a' := ?_) #[true, false, false, false, false, false, false, false, false, false, false, false, false, false] rfl rfl (any_of HT_.out (by kernel_rfl)) (fun _ _ _ h => h) (Or.inl ⟨by rfl, ?_⟩) ?_ ?_
      rotate_left
      · intro w'
        go_simp
        with_reducible rfl
      rotate_left
      · simp only [Act.put, List.setIfInBounds_toArray, List.set_cons_zero, List.set_cons_succ, i64_w, i32_w]
        rfl
      refine pure_ (i := 1) (N := some 28) (v := ?_) (a' := ?_) #[true, true, false, false, false, false, false, false, false, false, false, false, false, false] rfl rfl (any_of HT_.out (by kernel_rfl)) (fun _ _ _ h => h) (Or.inl ⟨by rfl, ?_⟩) ?_ ?_
      rotate_left
      · intro w'
        go_simp
        with_reducible rfl
      rotate_left
      · simp only [Act.put, List.setIfInBounds_toArray, List.set_cons_zero, List.set_cons_succ, i64_w, i32_w]
        rfl
      refine pure_ (i := 2) (N := some 29) (v := ?_) (a' := ?_) #[true, true, true, false, false, false, false, false, false, false, false, false, false, false] rfl rfl (any_of HT_.out (by kernel_rfl)) (fun _ _ _ h => h) (Or.inl ⟨by rfl, ?_⟩) ?_ ?_
      rotate_left
      · intro w'
        go_simp
        with_reducible rfl
      rotate_left
      · simp only [Act.put, List.setIfInBounds_toArray, List.set_cons_zero, List.set_cons_succ, i64_w, i32_w]
        rfl
      refine pure_ (i := 3) (N := some 30) (v := undef) (a' := ?_) #[true, true, true, true, false, false, false, false, false, false, false, false, false, false] rfl rfl (any_of HT_.out (by kernel_rfl)) (fun _ _ _ h => h) (Or.inr ⟨by rfl, rfl⟩) ?_ ?_
      rotate_left
      · simp only [Act.put, List.setIfInBounds_toArray, List.set_cons_zero, List.set_cons_succ, i64_w, i32_w]
        rfl
      refine pure_ (i := 4) (N := some 31) (v := undef) (a' := ?_) #[true, true, true, true, true, false, false, false, false, false, false, false, false, false] rfl rfl (any_of HT_.out (by kernel_rfl)) (fun _ _ _ h => h) (Or.inr ⟨by rfl, rfl⟩) ?_ ?_
      rotate_left
      · simp only [Act.put, List.setIfInBounds_toArray, List.set_cons_zero, List.set_cons_succ, i64_w, i32_w]
        rfl
      refine pure_ (i := 5) (N := some 32) (v := undef) (a' := ?_) #[true, true, true, true, true, true, false, false, false, false, false, false, false, false] rfl rfl (any_of HT_.out (by kernel_rfl)) (fun _ _ _ h => h) (Or.inr ⟨by rfl, rfl⟩) ?_ ?_
      rotate_left
      · simp only [Act.put, List.setIfInBounds_toArray, List.set_cons_zero, List.set_cons_succ, i64_w, i32_w]
        rfl
      refine pure_ (i := 6) (N := some 33) (v := ?_) (a' := ?_) #[true, true, true, true, true, true, true, false, false, false, false, false, false, false] rfl rfl (any_of HT_.out (by kernel_rfl)) (fun _ _ _ h => h) (Or.inl ⟨by rfl, ?_⟩) ?_ ?_
      rotate_left
      · intro w'
        go_simp
        with_reducible rfl
      rotate_left
      · simp only [Act.put, List.setIfInBounds_toArray, List.set_cons_zero, List.set_cons_succ, i64_w, i32_w]
        rfl
      refine pure_ (i := 7) (N := some 34) (v := ?_) (a' := ?_) #[true, true, true, true, true, true, true, true, false, false, false, false, false, false] rfl rfl (any_of HT_.out (by kernel_rfl)) (fun _ _ _ h => h) (Or.inl ⟨by rfl, ?_⟩) ?_ ?_
      rotate_left
      · intro w'
        go_simp
        with_reducible rfl
      rotate_left
      · simp only [Act.put, List.setIfInBounds_toArray, List.set_cons_zero, List.set_cons_succ, i64_w, i32_w]
        rfl
      refine pure_ (i := 8) (N := some 35) (v := undef) (a' := ?_) #[true, true, true, true, true, true, true, true, true, false, false, false, false, false] rfl rfl (any_of HT_.out (by kernel_rfl)) (fun _ _ _ h => h) (Or.inr ⟨by rfl, rfl⟩) ?_ ?_
      rotate_left
      · simp only [Act.put, List.setIfInBounds_toArray, List.set_cons_zero, List.set_cons_succ, i64_w, i32_w]
        rfl
      refine pure_ (i := 9) (N := some 36) (v := undef) (a' := ?_) #[true, true, true, true, true, true, true, true, true, true, false, false, false, false] rfl rfl (any_of HT_.out (by kernel_rfl)) (fun _ _ _ h => h) (Or.inr ⟨by rfl, rfl⟩) ?_ ?_
      rotate_left
      · simp only [Act.put, List.setIfInBounds_toArray, List.set_cons_zero, List.set_cons_succ, i64_w, i32_w]
        rfl
      refine pure_ (i := 10) (N := some 37) (v := undef) (a' := ?_) #[true, true, true, true, true, true, true, true, true, true, true, false, false, false] rfl rfl (any_of HT_.out (by kernel_rfl)) (fun _ _ _ h => h) (Or.inr ⟨by rfl, rfl⟩) ?_ ?_
      rotate_left
      · simp only [Act.put, List.setIfInBounds_toArray, List.set_cons_zero, List.set_cons_succ, i64_w, i32_w]
        rfl
      refine pure_ (i := 11) (N := some 38) (v := undef) (a' := ?_) #[true, true, true, true, true, true, true, true, true, true, true, true, false, false] rfl rfl (any_of HT_.out (by kernel_rfl)) (fun _ _ _ h => h) (Or.inr ⟨by rfl, rfl⟩) ?_ ?_
      rotate_left
      · simp only [Act.put, List.setIfInBounds_toArray, List.set_cons_zero, List.set_cons_succ, i64_w, i32_w]
        rfl
      refine pure_ (i := 12) (N := some 39) (v := undef) (a' := ?_) #[true, true, true, true, true, true, true, true, true, true, true, true, true, false] rfl rfl (any_of HT_.out (by kernel_rfl)) (fun _ _ _ h => h) (Or.inr ⟨by rfl, rfl⟩) ?_ ?_
      rotate_left
      · simp only [Act.put, List.setIfInBounds_toArray, List.set_cons_zero, List.set_cons_succ, i64_w, i32_w]
        rfl
      refine pure_ (i := 13) (N := some 40) (v := ?_) (a' := ?_) #[true, true, true, true, true, true, true, true, true, true, true, true, true, true] rfl rfl (any_of HT_.out (by kernel_rfl)) (fun _ _ _ h => h) (Or.inl ⟨by rfl, ?_⟩) ?_ ?_
      rotate_left
      · intro w'
        go_simp
        with_reducible rfl
      rotate_left
      · simp only [Act.put, List.setIfInBounds_toArray, List.set_cons_zero, List.set_cons_succ, i64_w, i32_w]
        rfl
      refine done_ (done_of HT_.out (by kernel_rfl)) ?_
      clear HT_ HW_ hHeld

      go_upto_region 4 with (fail)
      refine start_ (n := 4) (S := fun w' => w'.cell? ⟨0, 0, none⟩ = some (.iface 91 (.pointer (some ge)))) (ds := []) #[false, false, false, false] (by kernel_rfl) rfl rfl (cell_below GE0.out (below_drew1 HB.out)) (fun hHeld => ?_)
      refine with_tabW log_record.R4.tab log_record.R4.bits (fun HT_ HW_ => ?_)
      have hb_ := below_drew1 (Below.refl w4.heap.size w4)
      have n_HK := Aside0.mk (blk_below HK.out hb_)
      have n_HY := Aside0.mk (blk_below HY.out hb_)
      have n_HB := Aside0.mk (below_step HB.out hb_)
      clear HK HY HB
      have HK := n_HK
      have HY := n_HY
      have HB := n_HB
      clear n_HK n_HY n_HB hb_
      generalize w4.drew = w4 at HK HY HB hHeld ⊢
      refine pure_ (i := 0) (N := some 41) (v := ?_) (a' := ?_) #[true, false, false, false] rfl rfl (any_of HT_.out (by kernel_rfl)) (fun _ _ _ h => h) (Or.inl ⟨by rfl, ?_⟩) ?_ ?_
      rotate_left
      · intro w'
        go_simp
        with_reducible rfl
      rotate_left
      · simp only [Act.put, List.setIfInBounds_toArray, List.set_cons_zero, List.set_cons_succ, i64_w, i32_w]
        rfl
      refine take_ (i := 1) (N := some 42) (v := ?_) (a' := ?_) #[true, true, false, false] rfl rfl (take_ofW HT_.out HW_.out (by kernel_rfl)) (fun _ _ _ h => h) (Or.inl ⟨by rfl, ?_⟩) hHeld ?_ ?_
      rotate_left
      · intro w' s0
        go_simp
        with_reducible rfl
      rotate_left
      · simp only [Act.put, List.setIfInBounds_toArray, List.set_cons_zero, List.set_cons_succ, i64_w, i32_w]
        rfl
      refine one_ (i := 2) (N := none) #[true, true, true, false] rfl rfl (one_of HT_.out (by kernel_rfl)) (by decide) (fun K hK => ?_)
      refine skip_ (w1 := w4.setRow yb #[.int .u64 0, .int .u64 0, .int .i64 0, .int .i64 0, .slice none 0 0]) (by rfl) rfl (store_row rfl rfl rfl HY.out info65s rfl (by simp [Value.oneCell'])) ?_
      have n0_ : Aside0 ((w4.setRow yb #[.int .u64 0, .int .u64 0, .int .i64 0, .int .i64 0, .slice none 0 0]).heap[yb]? = some (.cells #[.int .u64 0, .int .u64 0, .int .i64 0, .int .i64 0, .slice none 0 0] 65 (0, 0))) := ⟨setRow_heap _ _ _ _ 65 (0, 0) HY.out⟩
      have n1_ := Aside0.mk (below_setRow HB.out YBL.out #[.int .u64 0, .int .u64 0, .int .i64 0, .int .i64 0, .slice none 0 0])
      clear HK HY HB
      have HY := n0_
      have HB := n1_
      clear n0_ n1_
      generalize w4.setRow yb #[.int .u64 0, .int .u64 0, .int .i64 0, .int .i64 0, .slice none 0 0] = w4 at HY HB ⊢
      refine hK.out _ _ (cell_below GE0.out HB.out) (fun hHeld => ?_)
      clear hK K
      refine pure_ (i := 3) (N := some 7) (v := ?_) (a' := ?_) #[true, true, true, true] rfl rfl (any_of HT_.out (by kernel_rfl)) (fun _ _ _ h => h) (Or.inl ⟨by rfl, ?_⟩) ?_ ?_
      rotate_left
      · intro w'
        go_simp
        with_reducible rfl
      rotate_left
      · simp only [Act.put, List.setIfInBounds_toArray, List.set_cons_zero, List.set_cons_succ, i64_w, i32_w]
        rfl
      refine done_ (done_of HT_.out (by kernel_rfl)) ?_
      clear HT_ HW_ hHeld
      go_wp2
      (try simp only [Exit.inBlock, Exit.then])
      refine bodyPost_ret (results_ct rfl _ _ yb 65 #[.int .u64 0, .int .u64 0, .int .i64 0, .int .i64 0, .slice none 0 0] (0, 0) _ rfl HY.out hu65 rfl info65s) rfl ?_
      exact ⟨HB.out, rfl⟩

    | some k =>
      have H1 := H0.out
      rw [hk0] at H1
      dsimp only at H1
      obtain ⟨km, r0, kln, ki, kb⟩ := k
      obtain ⟨-, -, -, -, hkb, hq1, hq2, hq3, hq4⟩ := lgRead_some hk0 (by rw [C0.out.2.1]; exact NN.out.2.2.1) C0.out.2.2
      dsimp only at hkb hq1 hq2 hq3 hq4 H1
      rw [C0.out.2.1] at hkb
      have KR0 := Aside0.mk (And.intro hq1 (And.intro hq2 (And.intro hq3 hq4)))
      have KB0 := Aside0.mk hkb
      clear hq1 hq2 hq3 hq4 hkb
      have H1 := Aside0.mk H1
      refine (log_read.yes (blk_below C0.out.1 HB.out) C0.out.2.2 C0.out.2.1 NN.out.2.2.1 NN.out.2.2.2 ge (cell_below GE0.out HB.out) hk0).mono ?_
      rintro e w4 ⟨rfl, hb⟩
      (try dsimp only)
      have hb_ := hb
      have n_HY := Aside0.mk (blk_below HY.out hb_)
      have n_HB := Aside0.mk (below_step HB.out hb_)
      clear HY HB
      have HY := n_HY
      have HB := n_HB
      clear n_HY n_HB hb_
      clear hb
      go_upto_region 3 with ((refine event_skip rfl rfl (store_new rfl rfl rfl info65s rfl (by simp [Value.oneCell'])) ?_))
      obtain ⟨xk, hxk⟩ : ∃ x_, x_ = w4.heap.size := ⟨_, rfl⟩
      have HK : Aside0 ((w4.alloc (.cells #[.int .u64 km, .int .u64 r0, .int .i64 kln, .int .i64 ki, .slice (some ⟨c, 24, none⟩) (s - 36) (s - 24)] 65)).heap[xk]? = some (.cells #[.int .u64 km, .int .u64 r0, .int .i64 kln, .int .i64 ki, .slice (some ⟨c, 24, none⟩) (s - 36) (s - 24)] 65 (0, 0))) := ⟨by rw [hxk]; exact blk_new _ _⟩
      have Nxkyb := Aside0.mk (show xk ≠ yb by rw [hxk]; exact Nat.ne_of_gt (blk_lt HY.out))
      have Lxk := Aside0.mk (show w.heap.size ≤ xk by rw [hxk]; exact below_size HB.out)
      try rw [← hxk]
      clear hxk
      have hb_ := below_alloc (Below.refl w4.heap.size w4) (.cells #[.int .u64 km, .int .u64 r0, .int .i64 kln, .int .i64 ki, .slice (some ⟨c, 24, none⟩) (s - 36) (s - 24)] 65)
      have n_HY := Aside0.mk (blk_below HY.out hb_)
      have n_HB := Aside0.mk (below_step HB.out hb_)
      clear HY HB
      have HY := n_HY
      have HB := n_HB
      clear n_HY n_HB hb_
      generalize w4.alloc (.cells #[.int .u64 km, .int .u64 r0, .int .i64 kln, .int .i64 ki, .slice (some ⟨c, 24, none⟩) (s - 36) (s - 24)] 65) = w4 at HK HY HB ⊢

      clear hk0
      by_cases kI : ki = 0
      · have HKI := Aside0.mk kI
        have kIp : (ki = 0) = True := eq_true kI
        have kIb : (ki == 0) = true := by simp [kI]
        have kIc : (ki != 0) = false := by simp [kI]

        by_cases kR : (lgRoom n s : Int) < kln
        · have H2 := H1.out
          rw [if_pos (Or.inr kR)] at H2
          obtain rfl := Option.some.inj H2
          have kRp : ((lgRoom n s : Int) < kln) = True := eq_true kR
          have kRd : decide ((lgRoom n s : Int) < kln) = true := decide_eq_true kR

          clear H2 kR kI
          go_upto_region 3 with (fail)
          refine start_ (n := 14) (S := fun w' => w'.cell? ⟨xk, 3, none⟩ = some (.int .i64 ki) ∧ w'.cell? ⟨xk, 2, none⟩ = some (.int .i64 kln)) (ds := []) #[false, false, false, false, false, false, false, false, false, false, false, false, false, false] (by kernel_rfl) rfl rfl ⟨(blk_cell HK.out 3).trans rfl, (blk_cell HK.out 2).trans rfl⟩ (fun hHeld => ?_)
          refine with_tabW log_record.R3.tab log_record.R3.bits (fun HT_ HW_ => ?_)
          have hb_ := below_drew1 (Below.refl w4.heap.size w4)
          have n_HY := Aside0.mk (blk_below HY.out hb_)
          have n_HK := Aside0.mk (blk_below HK.out hb_)
          have n_HB := Aside0.mk (below_step HB.out hb_)
          clear HY HK HB
          have HY := n_HY
          have HK := n_HK
          have HB := n_HB
          clear n_HY n_HK n_HB hb_
          generalize w4.drew = w4 at HY HK HB hHeld ⊢
          refine pure_ (i := 0) (N := some 27) (v := ?_) (a' := ?_) #[true, false, false, false, false, false, false, false, false, false, false, false, false, false] rfl rfl (any_of HT_.out (by kernel_rfl)) (fun _ _ _ h => h) (Or.inl ⟨by rfl, ?_⟩) ?_ ?_
          rotate_left
          · intro w'
            go_simp
            with_reducible rfl
          rotate_left
          · simp only [Act.put, List.setIfInBounds_toArray, List.set_cons_zero, List.set_cons_succ, i64_w, i32_w]
            rfl
          refine pure_ (i := 1) (N := some 28) (v := ?_) (a' := ?_) #[true, true, false, false, false, false, false, false, false, false, false, false, false, false] rfl rfl (any_of HT_.out (by kernel_rfl)) (fun _ _ _ h => h) (Or.inl ⟨by rfl, ?_⟩) ?_ ?_
          rotate_left
          · intro w'
            go_simp
            with_reducible rfl
          rotate_left
          · simp only [Act.put, List.setIfInBounds_toArray, List.set_cons_zero, List.set_cons_succ, i64_w, i32_w]
            rfl
          refine pure_ (i := 2) (N := some 29) (v := ?_) (a' := ?_) #[true, true, true, false, false, false, false, false, false, false, false, false, false, false] rfl rfl (any_of HT_.out (by kernel_rfl)) (fun _ _ _ h => h) (Or.inl ⟨by rfl, ?_⟩) ?_ ?_
          rotate_left
          · intro w'
            go_simp
            with_reducible rfl
          rotate_left
          · simp only [Act.put, List.setIfInBounds_toArray, List.set_cons_zero, List.set_cons_succ, i64_w, i32_w]
            rfl
          refine pure_ (i := 3) (N := some 30) (v := ?_) (a' := ?_) #[true, true, true, true, false, false, false, false, false, false, false, false, false, false] rfl rfl (any_of HT_.out (by kernel_rfl)) (fun _ _ _ h => h) (Or.inl ⟨by rfl, ?_⟩) ?_ ?_
          rotate_left
          · intro w'
            go_simp
            with_reducible rfl
          rotate_left
          · simp only [Act.put, List.setIfInBounds_toArray, List.set_cons_zero, List.set_cons_succ, i64_w, i32_w]
            rfl
          refine take_ (i := 4) (N := some 31) (v := ?_) (a' := ?_) #[true, true, true, true, true, false, false, false, false, false, false, false, false, false] rfl rfl (take_ofW HT_.out HW_.out (by kernel_rfl)) (fun _ _ _ h => h) (Or.inl ⟨by rfl, ?_⟩) hHeld ?_ ?_
          rotate_left
          · intro w' s0
            obtain ⟨s0, s1⟩ := s0
            go_simp
            with_reducible rfl
          rotate_left
          · simp only [Act.put, List.setIfInBounds_toArray, List.set_cons_zero, List.set_cons_succ, i64_w, i32_w]
            rfl
          refine pure_ (i := 5) (N := some 32) (v := ?_) (a' := ?_) #[true, true, true, true, true, true, false, false, false, false, false, false, false, false] rfl rfl (any_of HT_.out (by kernel_rfl)) (fun _ _ _ h => h) (Or.inl ⟨by rfl, ?_⟩) ?_ ?_
          rotate_left
          · intro w'
            go_simp
            with_reducible rfl
          rotate_left
          · simp only [Act.put, List.setIfInBounds_toArray, List.set_cons_zero, List.set_cons_succ, i64_w, i32_w]
            rfl
          refine pure_ (i := 6) (N := some 33) (v := ?_) (a' := ?_) #[true, true, true, true, true, true, true, false, false, false, false, false, false, false] rfl rfl (any_of HT_.out (by kernel_rfl)) (fun _ _ _ h => h) (Or.inl ⟨by rfl, ?_⟩) ?_ ?_
          rotate_left
          · intro w'
            go_simp
            with_reducible rfl
          rotate_left
          · simp only [Act.put, List.setIfInBounds_toArray, List.set_cons_zero, List.set_cons_succ, i64_w, i32_w]
            rfl
          refine pure_ (i := 7) (N := some 34) (v := ?_) (a' := ?_) #[true, true, true, true, true, true, true, true, false, false, false, false, false, false] rfl rfl (any_of HT_.out (by kernel_rfl)) (fun _ _ _ h => h) (Or.inl ⟨by rfl, ?_⟩) ?_ ?_
          rotate_left
          · intro w'
            go_simp
            with_reducible rfl
          rotate_left
          · simp only [Act.put, List.setIfInBounds_toArray, List.set_cons_zero, List.set_cons_succ, i64_w, i32_w]
            rfl
          refine pure_ (i := 8) (N := some 35) (v := ?_) (a' := ?_) #[true, true, true, true, true, true, true, true, true, false, false, false, false, false] rfl rfl (any_of HT_.out (by kernel_rfl)) (fun _ _ _ h => h) (Or.inl ⟨by rfl, ?_⟩) ?_ ?_
          rotate_left
          · intro w'
            go_simp
            with_reducible rfl
          rotate_left
          · simp only [Act.put, List.setIfInBounds_toArray, List.set_cons_zero, List.set_cons_succ, i64_w, i32_w]
            rfl
          refine pure_ (i := 10) (N := some 37) (v := ?_) (a' := ?_) #[true, true, true, true, true, true, true, true, true, false, true, false, false, false] rfl rfl (any_of HT_.out (by kernel_rfl)) (fun _ _ _ h => h) (Or.inl ⟨by rfl, ?_⟩) ?_ ?_
          rotate_left
          · intro w'
            go_simp
            with_reducible rfl
          rotate_left
          · simp only [Act.put, List.setIfInBounds_toArray, List.set_cons_zero, List.set_cons_succ, i64_w, i32_w]
            rfl
          refine take_ (i := 9) (N := some 36) (v := ?_) (a' := ?_) #[true, true, true, true, true, true, true, true, true, true, true, false, false, false] rfl rfl (take_ofW HT_.out HW_.out (by kernel_rfl)) (fun _ _ _ h => h) (Or.inl ⟨by rfl, ?_⟩) hHeld ?_ ?_
          rotate_left
          · intro w' s0
            obtain ⟨s0, s1⟩ := s0
            go_simp
            with_reducible rfl
          rotate_left
          · simp only [Act.put, List.setIfInBounds_toArray, List.set_cons_zero, List.set_cons_succ, i64_w, i32_w]
            rfl
          refine one_ (i := 11) (N := some 38) #[true, true, true, true, true, true, true, true, true, true, true, true, false, false] rfl rfl (one_of HT_.out (by kernel_rfl)) (by decide) (fun K hK => ?_)
          refine goes_ Tryd.func16 (by kernel_rfl) rfl #[.pointer (some ⟨g, 0, none⟩)] (by rfl) rfl rfl (by first | rfl | (go_simp; done)) ?_
          refine (log_Room.calls (HD0.out.under HB.out) NN.out.1 NN.out.2.1 NN.out.2.2.2).mono ?_
          rintro e w5 ⟨rfl, ⟨nd, rfl⟩⟩
          refine ⟨_, rfl, ?_⟩
          rw [HL0.out.2]
          have hb_ := pw_below_drewN (Below.refl w4.heap.size w4) nd
          have n_HY := Aside0.mk (blk_below HY.out hb_)
          have n_HK := Aside0.mk (blk_below HK.out hb_)
          have n_HB := Aside0.mk (below_step HB.out hb_)
          clear HY HK HB
          have HY := n_HY
          have HK := n_HK
          have HB := n_HB
          clear n_HY n_HK n_HB hb_
          generalize w4.drewN nd = w4 at HY HK HB ⊢
          refine hK.out _ _ ⟨(blk_cell HK.out 3).trans rfl, (blk_cell HK.out 2).trans rfl⟩ (fun hHeld => ?_)
          clear hK K
          refine norm_ (a' := ?_) ?_ ?_
          rotate_left
          · show Act.put _ (some 38) _ = _
            simp only [Act.put, List.setIfInBounds_toArray, List.set_cons_zero, List.set_cons_succ, i64_w, i32_w]
            rfl
          refine pure_ (i := 12) (N := some 39) (v := ?_) (a' := ?_) #[true, true, true, true, true, true, true, true, true, true, true, true, true, false] rfl rfl (any_of HT_.out (by kernel_rfl)) (fun _ _ _ h => h) (Or.inl ⟨by rfl, ?_⟩) ?_ ?_
          rotate_left
          · intro w'
            go_simp
            with_reducible rfl
          rotate_left
          · simp only [Act.put, List.setIfInBounds_toArray, List.set_cons_zero, List.set_cons_succ, i64_w, i32_w]
            rfl
          refine pure_ (i := 13) (N := some 40) (v := ?_) (a' := ?_) #[true, true, true, true, true, true, true, true, true, true, true, true, true, true] rfl rfl (any_of HT_.out (by kernel_rfl)) (fun _ _ _ h => h) (Or.inl ⟨by rfl, ?_⟩) ?_ ?_
          rotate_left
          · intro w'
            go_simp
            with_reducible rfl
          rotate_left
          · simp only [Act.put, List.setIfInBounds_toArray, List.set_cons_zero, List.set_cons_succ, i64_w, i32_w]
            rfl
          refine done_ (done_of HT_.out (by kernel_rfl)) ?_
          clear HT_ HW_ hHeld

          go_upto_region 4 with (fail)
          refine start_ (n := 4) (S := fun w' => w'.cell? ⟨0, 0, none⟩ = some (.iface 91 (.pointer (some ge)))) (ds := []) #[false, false, false, false] (by kernel_rfl) rfl rfl (cell_below GE0.out (below_drew1 HB.out)) (fun hHeld => ?_)
          refine with_tabW log_record.R4.tab log_record.R4.bits (fun HT_ HW_ => ?_)
          have hb_ := below_drew1 (Below.refl w4.heap.size w4)
          have n_HK := Aside0.mk (blk_below HK.out hb_)
          have n_HY := Aside0.mk (blk_below HY.out hb_)
          have n_HB := Aside0.mk (below_step HB.out hb_)
          clear HK HY HB
          have HK := n_HK
          have HY := n_HY
          have HB := n_HB
          clear n_HK n_HY n_HB hb_
          generalize w4.drew = w4 at HK HY HB hHeld ⊢
          refine pure_ (i := 0) (N := some 41) (v := ?_) (a' := ?_) #[true, false, false, false] rfl rfl (any_of HT_.out (by kernel_rfl)) (fun _ _ _ h => h) (Or.inl ⟨by rfl, ?_⟩) ?_ ?_
          rotate_left
          · intro w'
            go_simp
            with_reducible rfl
          rotate_left
          · simp only [Act.put, List.setIfInBounds_toArray, List.set_cons_zero, List.set_cons_succ, i64_w, i32_w]
            rfl
          refine take_ (i := 1) (N := some 42) (v := ?_) (a' := ?_) #[true, true, false, false] rfl rfl (take_ofW HT_.out HW_.out (by kernel_rfl)) (fun _ _ _ h => h) (Or.inl ⟨by rfl, ?_⟩) hHeld ?_ ?_
          rotate_left
          · intro w' s0
            go_simp
            with_reducible rfl
          rotate_left
          · simp only [Act.put, List.setIfInBounds_toArray, List.set_cons_zero, List.set_cons_succ, i64_w, i32_w]
            rfl
          refine one_ (i := 2) (N := none) #[true, true, true, false] rfl rfl (one_of HT_.out (by kernel_rfl)) (by decide) (fun K hK => ?_)
          refine skip_ (w1 := w4.setRow yb #[.int .u64 0, .int .u64 0, .int .i64 0, .int .i64 0, .slice none 0 0]) (by rfl) rfl (store_row rfl rfl rfl HY.out info65s rfl (by simp [Value.oneCell'])) ?_
          have n0_ : Aside0 ((w4.setRow yb #[.int .u64 0, .int .u64 0, .int .i64 0, .int .i64 0, .slice none 0 0]).heap[yb]? = some (.cells #[.int .u64 0, .int .u64 0, .int .i64 0, .int .i64 0, .slice none 0 0] 65 (0, 0))) := ⟨setRow_heap _ _ _ _ 65 (0, 0) HY.out⟩
          have n1_ := Aside0.mk (below_setRow HB.out YBL.out #[.int .u64 0, .int .u64 0, .int .i64 0, .int .i64 0, .slice none 0 0])
          clear HK HY HB
          have HY := n0_
          have HB := n1_
          clear n0_ n1_
          generalize w4.setRow yb #[.int .u64 0, .int .u64 0, .int .i64 0, .int .i64 0, .slice none 0 0] = w4 at HY HB ⊢
          refine hK.out _ _ (cell_below GE0.out HB.out) (fun hHeld => ?_)
          clear hK K
          refine pure_ (i := 3) (N := some 7) (v := ?_) (a' := ?_) #[true, true, true, true] rfl rfl (any_of HT_.out (by kernel_rfl)) (fun _ _ _ h => h) (Or.inl ⟨by rfl, ?_⟩) ?_ ?_
          rotate_left
          · intro w'
            go_simp
            with_reducible rfl
          rotate_left
          · simp only [Act.put, List.setIfInBounds_toArray, List.set_cons_zero, List.set_cons_succ, i64_w, i32_w]
            rfl
          refine done_ (done_of HT_.out (by kernel_rfl)) ?_
          clear HT_ HW_ hHeld
          go_wp2
          (try simp only [Exit.inBlock, Exit.then])
          refine bodyPost_ret (results_ct rfl _ _ yb 65 #[.int .u64 0, .int .u64 0, .int .i64 0, .int .i64 0, .slice none 0 0] (0, 0) _ rfl HY.out hu65 rfl info65s) rfl ?_
          exact ⟨HB.out, rfl⟩

        · have H2 := H1.out
          rw [if_neg (fun h => h.elim (fun h => h kI) kR)] at H2
          obtain ⟨res, hrl, rfl⟩ := Option.map_eq_some_iff.1 H2
          have HLI := Aside0.mk hrl
          have kRp : ((lgRoom n s : Int) < kln) = False := eq_false kR
          have kRd : decide ((lgRoom n s : Int) < kln) = false := decide_eq_false kR

          clear H2 kR kI hrl
          go_upto_region 3 with (fail)
          refine start_ (n := 14) (S := fun w' => w'.cell? ⟨xk, 3, none⟩ = some (.int .i64 ki) ∧ w'.cell? ⟨xk, 2, none⟩ = some (.int .i64 kln)) (ds := []) #[false, false, false, false, false, false, false, false, false, false, false, false, false, false] (by kernel_rfl) rfl rfl ⟨(blk_cell HK.out 3).trans rfl, (blk_cell HK.out 2).trans rfl⟩ (fun hHeld => ?_)
          refine with_tabW log_record.R3.tab log_record.R3.bits (fun HT_ HW_ => ?_)
          have hb_ := below_drew1 (Below.refl w4.heap.size w4)
          have n_HY := Aside0.mk (blk_below HY.out hb_)
          have n_HK := Aside0.mk (blk_below HK.out hb_)
          have n_HB := Aside0.mk (below_step HB.out hb_)
          clear HY HK HB
          have HY := n_HY
          have HK := n_HK
          have HB := n_HB
          clear n_HY n_HK n_HB hb_
          generalize w4.drew = w4 at HY HK HB hHeld ⊢
          refine pure_ (i := 0) (N := some 27) (v := ?_) (a' := ?_) #[true, false, false, false, false, false, false, false, false, false, false, false, false, false] rfl rfl (any_of HT_.out (by kernel_rfl)) (fun _ _ _ h => h) (Or.inl ⟨by rfl, ?_⟩) ?_ ?_
          rotate_left
          · intro w'
            go_simp
            with_reducible rfl
          rotate_left
          · simp only [Act.put, List.setIfInBounds_toArray, List.set_cons_zero, List.set_cons_succ, i64_w, i32_w]
            rfl
          refine pure_ (i := 1) (N := some 28) (v := ?_) (a' := ?_) #[true, true, false, false, false, false, false, false, false, false, false, false, false, false] rfl rfl (any_of HT_.out (by kernel_rfl)) (fun _ _ _ h => h) (Or.inl ⟨by rfl, ?_⟩) ?_ ?_
          rotate_left
          · intro w'
            go_simp
            with_reducible rfl
          rotate_left
          · simp only [Act.put, List.setIfInBounds_toArray, List.set_cons_zero, List.set_cons_succ, i64_w, i32_w]
            rfl
          refine pure_ (i := 2) (N := some 29) (v := ?_) (a' := ?_) #[true, true, true, false, false, false, false, false, false, false, false, false, false, false] rfl rfl (any_of HT_.out (by kernel_rfl)) (fun _ _ _ h => h) (Or.inl ⟨by rfl, ?_⟩) ?_ ?_
          rotate_left
          · intro w'
            go_simp
            with_reducible rfl
          rotate_left
          · simp only [Act.put, List.setIfInBounds_toArray, List.set_cons_zero, List.set_cons_succ, i64_w, i32_w]
            rfl
          refine pure_ (i := 3) (N := some 30) (v := ?_) (a' := ?_) #[true, true, true, true, false, false, false, false, false, false, false, false, false, false] rfl rfl (any_of HT_.out (by kernel_rfl)) (fun _ _ _ h => h) (Or.inl ⟨by rfl, ?_⟩) ?_ ?_
          rotate_left
          · intro w'
            go_simp
            with_reducible rfl
          rotate_left
          · simp only [Act.put, List.setIfInBounds_toArray, List.set_cons_zero, List.set_cons_succ, i64_w, i32_w]
            rfl
          refine take_ (i := 4) (N := some 31) (v := ?_) (a' := ?_) #[true, true, true, true, true, false, false, false, false, false, false, false, false, false] rfl rfl (take_ofW HT_.out HW_.out (by kernel_rfl)) (fun _ _ _ h => h) (Or.inl ⟨by rfl, ?_⟩) hHeld ?_ ?_
          rotate_left
          · intro w' s0
            obtain ⟨s0, s1⟩ := s0
            go_simp
            with_reducible rfl
          rotate_left
          · simp only [Act.put, List.setIfInBounds_toArray, List.set_cons_zero, List.set_cons_succ, i64_w, i32_w]
            rfl
          refine pure_ (i := 5) (N := some 32) (v := ?_) (a' := ?_) #[true, true, true, true, true, true, false, false, false, false, false, false, false, false] rfl rfl (any_of HT_.out (by kernel_rfl)) (fun _ _ _ h => h) (Or.inl ⟨by rfl, ?_⟩) ?_ ?_
          rotate_left
          · intro w'
            go_simp
            with_reducible rfl
          rotate_left
          · simp only [Act.put, List.setIfInBounds_toArray, List.set_cons_zero, List.set_cons_succ, i64_w, i32_w]
            rfl
          refine pure_ (i := 6) (N := some 33) (v := ?_) (a' := ?_) #[true, true, true, true, true, true, true, false, false, false, false, false, false, false] rfl rfl (any_of HT_.out (by kernel_rfl)) (fun _ _ _ h => h) (Or.inl ⟨by rfl, ?_⟩) ?_ ?_
          rotate_left
          · intro w'
            go_simp
            with_reducible rfl
          rotate_left
          · simp only [Act.put, List.setIfInBounds_toArray, List.set_cons_zero, List.set_cons_succ, i64_w, i32_w]
            rfl
          refine pure_ (i := 7) (N := some 34) (v := ?_) (a' := ?_) #[true, true, true, true, true, true, true, true, false, false, false, false, false, false] rfl rfl (any_of HT_.out (by kernel_rfl)) (fun _ _ _ h => h) (Or.inl ⟨by rfl, ?_⟩) ?_ ?_
          rotate_left
          · intro w'
            go_simp
            with_reducible rfl
          rotate_left
          · simp only [Act.put, List.setIfInBounds_toArray, List.set_cons_zero, List.set_cons_succ, i64_w, i32_w]
            rfl
          refine pure_ (i := 8) (N := some 35) (v := ?_) (a' := ?_) #[true, true, true, true, true, true, true, true, true, false, false, false, false, false] rfl rfl (any_of HT_.out (by kernel_rfl)) (fun _ _ _ h => h) (Or.inl ⟨by rfl, ?_⟩) ?_ ?_
          rotate_left
          · intro w'
            go_simp
            with_reducible rfl
          rotate_left
          · simp only [Act.put, List.setIfInBounds_toArray, List.set_cons_zero, List.set_cons_succ, i64_w, i32_w]
            rfl
          refine pure_ (i := 10) (N := some 37) (v := ?_) (a' := ?_) #[true, true, true, true, true, true, true, true, true, false, true, false, false, false] rfl rfl (any_of HT_.out (by kernel_rfl)) (fun _ _ _ h => h) (Or.inl ⟨by rfl, ?_⟩) ?_ ?_
          rotate_left
          · intro w'
            go_simp
            with_reducible rfl
          rotate_left
          · simp only [Act.put, List.setIfInBounds_toArray, List.set_cons_zero, List.set_cons_succ, i64_w, i32_w]
            rfl
          refine take_ (i := 9) (N := some 36) (v := ?_) (a' := ?_) #[true, true, true, true, true, true, true, true, true, true, true, false, false, false] rfl rfl (take_ofW HT_.out HW_.out (by kernel_rfl)) (fun _ _ _ h => h) (Or.inl ⟨by rfl, ?_⟩) hHeld ?_ ?_
          rotate_left
          · intro w' s0
            obtain ⟨s0, s1⟩ := s0
            go_simp
            with_reducible rfl
          rotate_left
          · simp only [Act.put, List.setIfInBounds_toArray, List.set_cons_zero, List.set_cons_succ, i64_w, i32_w]
            rfl
          refine one_ (i := 11) (N := some 38) #[true, true, true, true, true, true, true, true, true, true, true, true, false, false] rfl rfl (one_of HT_.out (by kernel_rfl)) (by decide) (fun K hK => ?_)
          refine goes_ Tryd.func16 (by kernel_rfl) rfl #[.pointer (some ⟨g, 0, none⟩)] (by rfl) rfl rfl (by first | rfl | (go_simp; done)) ?_
          refine (log_Room.calls (HD0.out.under HB.out) NN.out.1 NN.out.2.1 NN.out.2.2.2).mono ?_
          rintro e w5 ⟨rfl, ⟨nd, rfl⟩⟩
          refine ⟨_, rfl, ?_⟩
          rw [HL0.out.2]
          have hb_ := pw_below_drewN (Below.refl w4.heap.size w4) nd
          have n_HY := Aside0.mk (blk_below HY.out hb_)
          have n_HK := Aside0.mk (blk_below HK.out hb_)
          have n_HB := Aside0.mk (below_step HB.out hb_)
          clear HY HK HB
          have HY := n_HY
          have HK := n_HK
          have HB := n_HB
          clear n_HY n_HK n_HB hb_
          generalize w4.drewN nd = w4 at HY HK HB ⊢
          refine hK.out _ _ ⟨(blk_cell HK.out 3).trans rfl, (blk_cell HK.out 2).trans rfl⟩ (fun hHeld => ?_)
          clear hK K
          refine norm_ (a' := ?_) ?_ ?_
          rotate_left
          · show Act.put _ (some 38) _ = _
            simp only [Act.put, List.setIfInBounds_toArray, List.set_cons_zero, List.set_cons_succ, i64_w, i32_w]
            rfl
          refine pure_ (i := 12) (N := some 39) (v := ?_) (a' := ?_) #[true, true, true, true, true, true, true, true, true, true, true, true, true, false] rfl rfl (any_of HT_.out (by kernel_rfl)) (fun _ _ _ h => h) (Or.inl ⟨by rfl, ?_⟩) ?_ ?_
          rotate_left
          · intro w'
            go_simp
            with_reducible rfl
          rotate_left
          · simp only [Act.put, List.setIfInBounds_toArray, List.set_cons_zero, List.set_cons_succ, i64_w, i32_w]
            rfl
          refine pure_ (i := 13) (N := some 40) (v := ?_) (a' := ?_) #[true, true, true, true, true, true, true, true, true, true, true, true, true, true] rfl rfl (any_of HT_.out (by kernel_rfl)) (fun _ _ _ h => h) (Or.inl ⟨by rfl, ?_⟩) ?_ ?_
          rotate_left
          · intro w'
            go_simp
            with_reducible rfl
          rotate_left
          · simp only [Act.put, List.setIfInBounds_toArray, List.set_cons_zero, List.set_cons_succ, i64_w, i32_w]
            rfl
          refine done_ (done_of HT_.out (by kernel_rfl)) ?_
          clear HT_ HW_ hHeld

          have y0 : w4.cell? ⟨xk, 0, none⟩ = some (.int .u64 km) := (blk_cell HK.out 0).trans rfl
          have y1 : w4.cell? ⟨xk, 1, none⟩ = some (.int .u64 r0) := (blk_cell HK.out 1).trans rfl
          go_upto_region 6 with ((refine event_skip rfl rfl (store_new rfl rfl rfl info65s rfl (by simp [Value.oneCell'])) ?_))
          clear y0 y1
          obtain ⟨xo, hxo⟩ : ∃ x_, x_ = w4.heap.size := ⟨_, rfl⟩
          have HO : Aside0 ((w4.alloc (.cells #[.int .u64 km, .int .u64 r0, .int .i64 0, .int .i64 0, .slice none 0 0] 65)).heap[xo]? = some (.cells #[.int .u64 km, .int .u64 r0, .int .i64 0, .int .i64 0, .slice none 0 0] 65 (0, 0))) := ⟨by rw [hxo]; exact blk_new _ _⟩
          have Nxoxk := Aside0.mk (show xo ≠ xk by rw [hxo]; exact Nat.ne_of_gt (blk_lt HK.out))
          have Nxoyb := Aside0.mk (show xo ≠ yb by rw [hxo]; exact Nat.ne_of_gt (blk_lt HY.out))
          have Lxo := Aside0.mk (show w.heap.size ≤ xo by rw [hxo]; exact below_size HB.out)
          try rw [← hxo]
          clear hxo
          have hb_ := below_alloc (Below.refl w4.heap.size w4) (.cells #[.int .u64 km, .int .u64 r0, .int .i64 0, .int .i64 0, .slice none 0 0] 65)
          have n_HK := Aside0.mk (blk_below HK.out hb_)
          have n_HY := Aside0.mk (blk_below HY.out hb_)
          have n_HB := Aside0.mk (below_step HB.out hb_)
          clear HK HY HB
          have HK := n_HK
          have HY := n_HY
          have HB := n_HB
          clear n_HK n_HY n_HB hb_
          generalize w4.alloc (.cells #[.int .u64 km, .int .u64 r0, .int .i64 0, .int .i64 0, .slice none 0 0] 65) = w4 at HO HK HY HB ⊢
          have HV : Aside0 (w4.ownsRow w.heap.size 5 1 (.slice none 0 0) ([] : List Int).length (nums .u8 [])) := ⟨own_nil _ _ _ _⟩
          go_wp2_with fail
          go_loopg [12] 64 (fun kq v12 w' => ∃ (i c : Nat) (kr kln ki : Int) (kl out : List Int) (v : Value), v12 = .int .i64 (i : Int) ∧ Aside0 (lgRecL s bs fst km kq i kln ((kl.drop 24).take (s - 36)) out = some res) ∧ Aside0 (w'.heap[xk]? = some (.cells #[.int .u64 km, .int .u64 kr, .int .i64 kln, .int .i64 ki, .slice (some ⟨c, 24, none⟩) (s - 36) (s - 24)] 65 (0, 0))) ∧ Aside0 (w'.heap[xo]? = some (.cells #[.int .u64 km, .int .u64 r0, .int .i64 0, .int .i64 0, v] 65 (0, 0))) ∧ Aside0 (w'.ownsRow w.heap.size 5 1 v out.length (nums .u8 out)) ∧ Aside0 (w'.heap[yb]? = some (.cells #[.int .u64 0, .int .u64 0, .int .i64 0, .int .i64 0, .slice none 0 0] 65 (0, 0))) ∧ Aside0 (Below w.heap.size w w') ∧ Aside0 (w.heap[c]? = some (.cells (dkB kl) 5 (0, 0)) ∧ kl.length = s ∧ IsB kl) ∧ Aside0 (0 ≤ kln ∧ kln < 4294967296 ∧ 0 ≤ ki ∧ ki < 4294967296) ∧ Aside0 (i + kq = 64 ∧ out.length ≤ i * (s - 36)))
          case atStart =>
            exact ⟨0, c, r0, kln, ki, l0, [], .slice none 0 0, rfl, ⟨by rw [← KB0.out]; exact HLI.out⟩, ⟨HK.out⟩, ⟨HO.out⟩, ⟨HV.out⟩, ⟨HY.out⟩, ⟨HB.out⟩, ⟨C0.out⟩, ⟨KR0.out⟩, ⟨rfl, by simp⟩⟩
          case round =>
            clear HK HO HV HY HB
            obtain ⟨i, c, kr, kln, ki, kl, out, v, rfl, HL, HK, HO, HV, HY, HB, CC, KR, CT⟩ := hrel
            generalize wr = w4 at HK HO HV HY HB ⊢
            obtain ⟨A, cv, rfl⟩ := own_slice HV.out
            obtain ⟨f, hf⟩ : ∃ f, gk = f + 1 := by
              rcases gk with _ | f
              · have h0 := HL.out
                unfold lgRecL at h0
                cases h0
              · exact ⟨f, rfl⟩
            have HL1 := HL.out
            rw [hf] at HL1
            unfold lgRecL at HL1
            by_cases ka : mn (kln - (out.length : Int)) ((s - 36 : Nat) : Int) < 0
            · rw [if_pos ka] at HL1; cases HL1
            rw [if_neg ka] at HL1
            obtain ⟨a, ha⟩ : ∃ a : Nat, mn (kln - (out.length : Int)) ((s - 36 : Nat) : Int) = (a : Int) := ⟨_, (Int.toNat_of_nonneg (by omega)).symm⟩
            rw [ha, Int.toNat_natCast] at HL1
            obtain ⟨o2, ho2⟩ : ∃ o2, o2 = out ++ ((kl.drop 24).take (s - 36)).take a := ⟨_, rfl⟩
            rw [← ho2] at HL1
            have O2 := Aside0.mk ho2
            clear ho2
            have hsm : out.length ≤ 64 * 65536 := Nat.le_trans CT.out.2 (Nat.mul_le_mul (by have := CT.out; omega) (by have := NN.out; omega))
            have ha2 : a ≤ s - 36 := by unfold mn at ha; split at ha <;> omega
            have TA := Aside0.mk (show (((kl.drop 24).take (s - 36)).take a).length = a ∧ a ≤ s - 36 ∧ out.length + a ≤ maxLen ∧ (out.length + a) * 1 ≤ 140737488355328 from by
              have h1 := CC.out.2.1
              have h2 := NN.out
              refine ⟨?_, ha2, ?_, ?_⟩
              · rw [List.length_take, List.length_take, List.length_drop]; omega
              · simp only [maxLen]; omega
              · omega)
            have E5 := Aside0.mk (show wrap64 (kln - (out.length : Int)) = kln - (out.length : Int) by unfold wrap64; have := KR.out; omega)
            have HLF := Aside0.mk HL1
            have SM := Aside0.mk hsm
            have HF := Aside0.mk hf
            have ga : (a ≤ s - 24) = True := eq_true (by have := NN.out; omega)
            have gb : ((a : Int) ≤ ((s - 24 : Nat) : Int)) = True := eq_true (by have := NN.out; omega)
            have gc : (((s - 24 : Nat) : Int) < (a : Int)) = False := eq_false (by have := NN.out; omega)
            have gd : (s - 24 < a) = False := eq_false (by have := NN.out; omega)
            clear HL1 HL hsm ha2 ka hf
            have e5 := E5.out
            go_upto_region 8 with (fail)
            refine start_ (n := 10) (S := fun w' => w'.cell? ⟨xk, 2, none⟩ = some (.int .i64 kln) ∧ w'.cell? ⟨xo, 4, none⟩ = some (.slice A out.length cv)) (ds := []) #[false, false, false, false, false, false, false, false, false, false] (by kernel_rfl) rfl rfl ⟨(blk_cell HK.out 2).trans rfl, (blk_cell HO.out 4).trans rfl⟩ (fun hHeld => ?_)
            refine with_tabW log_record.R8.tab log_record.R8.bits (fun HT_ HW_ => ?_)
            have hb_ := below_drew1 (Below.refl w4.heap.size w4)
            have n_HK := Aside0.mk (blk_below HK.out hb_)
            have n_HO := Aside0.mk (blk_below HO.out hb_)
            have n_HV := Aside0.mk (pw_own_below HV.out hb_)
            have n_HY := Aside0.mk (blk_below HY.out hb_)
            have n_HB := Aside0.mk (below_step HB.out hb_)
            clear HK HO HV HY HB
            have HK := n_HK
            have HO := n_HO
            have HV := n_HV
            have HY := n_HY
            have HB := n_HB
            clear n_HK n_HO n_HV n_HY n_HB hb_
            generalize w4.drew = w4 at HK HO HV HY HB hHeld ⊢
            refine pure_ (i := 0) (N := some 50) (v := ?_) (a' := ?_) #[true, false, false, false, false, false, false, false, false, false] rfl rfl (any_of HT_.out (by kernel_rfl)) (fun _ _ _ h => h) (Or.inl ⟨by rfl, ?_⟩) ?_ ?_
            rotate_left
            · intro w'
              go_simp
              with_reducible rfl
            rotate_left
            · simp only [Act.put, List.setIfInBounds_toArray, List.set_cons_zero, List.set_cons_succ, i64_w, i32_w]
              rfl
            refine pure_ (i := 2) (N := some 52) (v := ?_) (a' := ?_) #[true, false, true, false, false, false, false, false, false, false] rfl rfl (any_of HT_.out (by kernel_rfl)) (fun _ _ _ h => h) (Or.inl ⟨by rfl, ?_⟩) ?_ ?_
            rotate_left
            · intro w'
              go_simp
              with_reducible rfl
            rotate_left
            · simp only [Act.put, List.setIfInBounds_toArray, List.set_cons_zero, List.set_cons_succ, i64_w, i32_w]
              rfl
            refine pure_ (i := 6) (N := some 56) (v := ?_) (a' := ?_) #[true, false, true, false, false, false, true, false, false, false] rfl rfl (any_of HT_.out (by kernel_rfl)) (fun _ _ _ h => h) (Or.inl ⟨by rfl, ?_⟩) ?_ ?_
            rotate_left
            · intro w'
              go_simp
              with_reducible rfl
            rotate_left
            · simp only [Act.put, List.setIfInBounds_toArray, List.set_cons_zero, List.set_cons_succ, i64_w, i32_w]
              rfl
            refine take_ (i := 1) (N := some 51) (v := ?_) (a' := ?_) #[true, true, true, false, false, false, true, false, false, false] rfl rfl (take_ofW HT_.out HW_.out (by kernel_rfl)) (fun _ _ _ h => h) (Or.inl ⟨by rfl, ?_⟩) hHeld ?_ ?_
            rotate_left
            · intro w' s0
              obtain ⟨s0, s1⟩ := s0
              go_simp
              with_reducible rfl
            rotate_left
            · simp only [Act.put, List.setIfInBounds_toArray, List.set_cons_zero, List.set_cons_succ, i64_w, i32_w]
              rfl
            refine take_ (i := 3) (N := some 53) (v := ?_) (a' := ?_) #[true, true, true, true, false, false, true, false, false, false] rfl rfl (take_ofW HT_.out HW_.out (by kernel_rfl)) (fun _ _ _ h => h) (Or.inl ⟨by rfl, ?_⟩) hHeld ?_ ?_
            rotate_left
            · intro w' s0
              obtain ⟨s0, s1⟩ := s0
              go_simp
              with_reducible rfl
            rotate_left
            · simp only [Act.put, List.setIfInBounds_toArray, List.set_cons_zero, List.set_cons_succ, i64_w, i32_w]
              rfl
            refine pure_ (i := 4) (N := some 54) (v := ?_) (a' := ?_) #[true, true, true, true, true, false, true, false, false, false] rfl rfl (any_of HT_.out (by kernel_rfl)) (fun _ _ _ h => h) (Or.inl ⟨by rfl, ?_⟩) ?_ ?_
            rotate_left
            · intro w'
              go_simp
              with_reducible rfl
            rotate_left
            · simp only [Act.put, List.setIfInBounds_toArray, List.set_cons_zero, List.set_cons_succ, i64_w, i32_w]
              rfl
            refine pure_ (i := 5) (N := some 55) (v := ?_) (a' := ?_) #[true, true, true, true, true, true, true, false, false, false] rfl rfl (any_of HT_.out (by kernel_rfl)) (fun _ _ _ h => h) (Or.inl ⟨by rfl, ?_⟩) ?_ ?_
            rotate_left
            · intro w'
              go_simp
              with_reducible rfl
            rotate_left
            · simp only [Act.put, List.setIfInBounds_toArray, List.set_cons_zero, List.set_cons_succ, i64_w, i32_w]
              rfl
            refine one_ (i := 7) (N := some 57) #[true, true, true, true, true, true, true, true, false, false] rfl rfl (one_of HT_.out (by kernel_rfl)) (by decide) (fun K hK => ?_)
            refine goes_ Tryd.func34 (by kernel_rfl) rfl #[.pointer (some ⟨g, 0, none⟩)] (by rfl) rfl rfl (by first | rfl | (go_simp; done)) ?_
            refine (log_each.calls (HD0.out.under HB.out) NN.out.1 NN.out.2.2.1 NN.out.2.2.2).mono ?_
            rintro e w5 ⟨rfl, ⟨nd, rfl⟩⟩
            refine ⟨_, rfl, ?_⟩
            have hb_ := pw_below_drewN (Below.refl w4.heap.size w4) nd
            have n_HK := Aside0.mk (blk_below HK.out hb_)
            have n_HO := Aside0.mk (blk_below HO.out hb_)
            have n_HV := Aside0.mk (pw_own_below HV.out hb_)
            have n_HY := Aside0.mk (blk_below HY.out hb_)
            have n_HB := Aside0.mk (below_step HB.out hb_)
            clear HK HO HV HY HB
            have HK := n_HK
            have HO := n_HO
            have HV := n_HV
            have HY := n_HY
            have HB := n_HB
            clear n_HK n_HO n_HV n_HY n_HB hb_
            generalize w4.drewN nd = w4 at HK HO HV HY HB ⊢
            refine hK.out _ _ ⟨(blk_cell HK.out 2).trans rfl, (blk_cell HO.out 4).trans rfl⟩ (fun hHeld => ?_)
            clear hK K
            refine norm_ (a' := ?_) ?_ ?_
            rotate_left
            · show Act.put _ (some 57) _ = _
              simp only [Act.put, List.setIfInBounds_toArray, List.set_cons_zero, List.set_cons_succ, i64_w, i32_w]
              rfl
            refine pure_ (i := 8) (N := some 58) (v := ?_) (a' := ?_) #[true, true, true, true, true, true, true, true, true, false] rfl rfl (any_of HT_.out (by kernel_rfl)) (fun _ _ _ h => h) (Or.inl ⟨by rfl, ?_⟩) ?_ ?_
            rotate_left
            · intro w'
              go_simp
              with_reducible rfl
            rotate_left
            · simp only [Act.put, List.setIfInBounds_toArray, List.set_cons_zero, List.set_cons_succ, i64_w, i32_w]
              rfl
            refine pure_ (i := 9) (N := some 13) (v := ?_) (a' := ?_) #[true, true, true, true, true, true, true, true, true, true] rfl rfl (any_of HT_.out (by kernel_rfl)) (fun _ _ _ h => h) (Or.inl ⟨by rfl, ?_⟩) ?_ ?_
            rotate_left
            · intro w'
              go_simp
              with_reducible rfl
            rotate_left
            · simp only [Act.put, List.setIfInBounds_toArray, List.set_cons_zero, List.set_cons_succ, i64_w, i32_w]
              rfl
            refine done_ (done_of HT_.out (by kernel_rfl)) ?_
            clear HT_ HW_ hHeld
            clear E5 e5 ha
            go_upto_region 9 with (fail)
            refine start_ (n := 9) (S := fun w' => w'.cell? ⟨xo, 4, none⟩ = some (.slice A out.length cv) ∧ w'.cell? ⟨xk, 4, none⟩ = some (.slice (some ⟨c, 24, none⟩) (s - 36) (s - 24))) (ds := [8]) #[false, false, false, false, false, false, false, false, false] (by kernel_rfl) rfl rfl ⟨(blk_cell HO.out 4).trans rfl, (blk_cell HK.out 4).trans rfl⟩ (fun hHeld => ?_)
            refine with_tabW log_record.R9.tab log_record.R9.bits (fun HT_ HW_ => ?_)
            have hb_ := below_drew1 (Below.refl w4.heap.size w4)
            have n_HK := Aside0.mk (blk_below HK.out hb_)
            have n_HO := Aside0.mk (blk_below HO.out hb_)
            have n_HV := Aside0.mk (pw_own_below HV.out hb_)
            have n_HY := Aside0.mk (blk_below HY.out hb_)
            have n_HB := Aside0.mk (below_step HB.out hb_)
            clear HK HO HV HY HB
            have HK := n_HK
            have HO := n_HO
            have HV := n_HV
            have HY := n_HY
            have HB := n_HB
            clear n_HK n_HO n_HV n_HY n_HB hb_
            generalize w4.drew = w4 at HK HO HV HY HB hHeld ⊢
            refine pure_ (i := 0) (N := some 59) (v := ?_) (a' := ?_) #[true, false, false, false, false, false, false, false, false] rfl rfl (any_of HT_.out (by kernel_rfl)) (fun _ _ _ h => h) (Or.inl ⟨by rfl, ?_⟩) ?_ ?_
            rotate_left
            · intro w'
              go_simp
              with_reducible rfl
            rotate_left
            · simp only [Act.put, List.setIfInBounds_toArray, List.set_cons_zero, List.set_cons_succ, i64_w, i32_w]
              rfl
            refine pure_ (i := 2) (N := some 61) (v := ?_) (a' := ?_) #[true, false, true, false, false, false, false, false, false] rfl rfl (any_of HT_.out (by kernel_rfl)) (fun _ _ _ h => h) (Or.inl ⟨by rfl, ?_⟩) ?_ ?_
            rotate_left
            · intro w'
              go_simp
              with_reducible rfl
            rotate_left
            · simp only [Act.put, List.setIfInBounds_toArray, List.set_cons_zero, List.set_cons_succ, i64_w, i32_w]
              rfl
            refine pure_ (i := 4) (N := some 63) (v := ?_) (a' := ?_) #[true, false, true, false, true, false, false, false, false] rfl rfl (any_of HT_.out (by kernel_rfl)) (fun _ _ _ h => h) (Or.inl ⟨by rfl, ?_⟩) ?_ ?_
            rotate_left
            · intro w'
              go_simp
              with_reducible rfl
            rotate_left
            · simp only [Act.put, List.setIfInBounds_toArray, List.set_cons_zero, List.set_cons_succ, i64_w, i32_w]
              rfl
            refine take_ (i := 1) (N := some 60) (v := ?_) (a' := ?_) #[true, true, true, false, true, false, false, false, false] rfl rfl (take_ofW HT_.out HW_.out (by kernel_rfl)) (fun _ _ _ h => h) (Or.inl ⟨by rfl, ?_⟩) hHeld ?_ ?_
            rotate_left
            · intro w' s0
              obtain ⟨s0, s1⟩ := s0
              go_simp
              with_reducible rfl
            rotate_left
            · simp only [Act.put, List.setIfInBounds_toArray, List.set_cons_zero, List.set_cons_succ, i64_w, i32_w]
              rfl
            refine take_ (i := 3) (N := some 62) (v := ?_) (a' := ?_) #[true, true, true, true, true, false, false, false, false] rfl rfl (take_ofW HT_.out HW_.out (by kernel_rfl)) (fun _ _ _ h => h) (Or.inl ⟨by rfl, ?_⟩) hHeld ?_ ?_
            rotate_left
            · intro w' s0
              obtain ⟨s0, s1⟩ := s0
              go_simp
              with_reducible rfl
            rotate_left
            · simp only [Act.put, List.setIfInBounds_toArray, List.set_cons_zero, List.set_cons_succ, i64_w, i32_w]
              rfl
            refine pure_ (i := 5) (N := some 64) (v := ?_) (a' := ?_) #[true, true, true, true, true, true, false, false, false] rfl rfl (any_of HT_.out (by kernel_rfl)) (fun _ _ _ h => h) (Or.inl ⟨by rfl, ?_⟩) ?_ ?_
            rotate_left
            · intro w'
              go_simp
              with_reducible rfl
            rotate_left
            · simp only [Act.put, List.setIfInBounds_toArray, List.set_cons_zero, List.set_cons_succ, i64_w, i32_w]
              rfl
            refine one_ (i := 6) (N := some 65) #[true, true, true, true, true, true, true, false, false] rfl rfl (one_of HT_.out (by kernel_rfl)) (by decide) (fun K hK => ?_)
            obtain ⟨i5, hi5, hz5, hs5, hb5⟩ := info_parts info5
            obtain ⟨v2, w5, hcp, hown, hgr, _, _⟩ := run_append_own_at (P := Tryd.prog) w4 w.heap.size 22 22 5 i5 (.int .u8 0) 1 1 Tryd.underlying22 hi5 hz5 hs5 hb5 rfl (by decide) (.slice A out.length cv) out.length (nums .u8 out) HV.out ⟨c, 24, none⟩ a (s - 24) (nums .u8 (((kl.drop 24).take (s - 36)).take a)) (by rw [nums_length, Nat.mul_one]; exact TA.out.1) (fun j u hu => by
              unfold nums at hu
              rw [List.getElem?_map] at hu
              cases h2 : (((kl.drop 24).take (s - 36)).take a)[j]? with
              | none => rw [h2] at hu; cases hu
              | some x =>
                rw [h2] at hu
                obtain rfl : Value.int .u8 x = u := Option.some.inj hu
                rw [List.getElem?_take] at h2
                split at h2
                · rw [List.getElem?_take] at h2
                  split at h2
                  · rw [List.getElem?_drop] at h2
                    rw [add_at2]
                    exact (blk_cell (blk_below CC.out.1 HB.out) (24 + j)).trans (dkB_get h2)
                  · cases h2
                · cases h2) (fun u hu => by
              obtain ⟨x, _, rfl⟩ := List.mem_map.1 hu
              rfl) TA.out.2.2.1 TA.out.2.2.2 (below_size HB.out)
            have hown2 : w5.ownsRow w.heap.size 5 1 v2 o2.length (nums .u8 o2) := by
              rw [O2.out, nums_append, List.length_append, TA.out.1]
              exact hown
            clear hown
            have hown := hown2
            clear hown2
            refine value_ (v := v2) (w1 := w5) (by rfl) rfl ?_ ?_
            · exact exec_append rfl (by rfl) (by rfl) hcp
            obtain ⟨A2, c2, rfl⟩ := own_slice hown
            have n_HK := Aside0.mk ((hgr.block xk (blk_lt HK.out) (own_ne HV.out HK.out (by decide))).trans HK.out)
            have n_HO := Aside0.mk ((hgr.block xo (blk_lt HO.out) (own_ne HV.out HO.out (by decide))).trans HO.out)
            have n_HY := Aside0.mk ((hgr.block yb (blk_lt HY.out) (own_ne HV.out HY.out (by decide))).trans HY.out)
            have n_HB := Aside0.mk (HB.out.grown hgr (below_size HB.out) (own_base HV.out))
            clear HK HO HY HB HV hcp hgr
            have HK := n_HK
            have HO := n_HO
            have HY := n_HY
            have HB := n_HB
            have HV := Aside0.mk hown
            clear n_HK n_HO n_HY n_HB hown hi5 hz5 hs5 hb5
            refine hK.out _ _ ⟨(blk_cell HO.out 4).trans rfl, (blk_cell HK.out 4).trans rfl⟩ (fun hHeld => ?_)
            clear hK K
            refine norm_ (a' := ?_) ?_ ?_
            rotate_left
            · show Act.put _ (some 65) _ = _
              simp only [Act.put, List.setIfInBounds_toArray, List.set_cons_zero, List.set_cons_succ, i64_w, i32_w]
              rfl
            refine pure_ (i := 7) (N := some 66) (v := ?_) (a' := ?_) #[true, true, true, true, true, true, true, true, false] rfl rfl (any_of HT_.out (by kernel_rfl)) (fun _ _ _ h => h) (Or.inl ⟨by rfl, ?_⟩) ?_ ?_
            rotate_left
            · intro w'
              go_simp
              with_reducible rfl
            rotate_left
            · simp only [Act.put, List.setIfInBounds_toArray, List.set_cons_zero, List.set_cons_succ, i64_w, i32_w]
              rfl
            refine last_ (i := 8) (N := none) #[true, true, true, true, true, true, true, true, true] rfl rfl (one_of HT_.out (by kernel_rfl)) (by decide) (fun K hK => ?_)
            have hs0 : w5.cell? ⟨xo, 4, none⟩ = some (.slice A out.length cv) := (blk_cell HO.out 4).trans rfl
            have hfs0 := blk_frozen HO.out 4
            refine skip_ (w1 := w5.setCell ⟨xo, 4, none⟩ (.slice A2 o2.length c2)) (by rfl) rfl (by go_simp) ?_
            have n_HK := Aside0.mk (blk_far HK.out (p := ⟨xo, 4, none⟩) Nxoxk.out.symm (.slice A2 o2.length c2))
            have n_HO : Aside0 ((w5.setCell ⟨xo, 4, none⟩ (.slice A2 o2.length c2)).heap[xo]? = some (.cells #[.int .u64 km, .int .u64 r0, .int .i64 0, .int .i64 0, .slice A2 o2.length c2] 65 (0, 0))) := ⟨blk_put HO.out 4 _ rfl⟩
            have n_HY := Aside0.mk (blk_far HY.out (p := ⟨xo, 4, none⟩) Nxoyb.out.symm (.slice A2 o2.length c2))
            have n_HV := Aside0.mk (own_setCell HV.out (p := ⟨xo, 4, none⟩) (own_ne HV.out HO.out (by decide)) (.slice A2 o2.length c2))
            have n_HB := Aside0.mk (Below.setCell (p := ⟨xo, 4, none⟩) HB.out Lxo.out (.slice A2 o2.length c2))
            clear HK HO HY HV HB hs0 hfs0
            have HK := n_HK
            have HO := n_HO
            have HY := n_HY
            have HV := n_HV
            have HB := n_HB
            clear n_HK n_HO n_HY n_HV n_HB
            generalize w5.setCell ⟨xo, 4, none⟩ (.slice A2 o2.length c2) = w4 at HK HO HY HV HB ⊢
            refine hK.out _ _ ?_
            clear hK K
            refine done_ (done_of HT_.out (by kernel_rfl)) ?_
            clear HT_ HW_ hHeld
            have xv : w4.cell? ⟨xo, 4, none⟩ = some (.slice A2 o2.length c2) := (blk_cell HO.out 4).trans rfl
            have xl : w4.cell? ⟨xk, 2, none⟩ = some (.int .i64 kln) := (blk_cell HK.out 2).trans rfl
            have HLF1 := HLF.out
            by_cases kE : ((o2.length : Nat) : Int) = kln
            · rw [if_pos kE] at HLF1
              obtain rfl := Option.some.inj HLF1
              have kEp : (((o2.length : Nat) : Int) = kln) = True := eq_true kE
              have kEd : decide (((o2.length : Nat) : Int) = kln) = true := decide_eq_true kE
              have kEb : (((o2.length : Nat) : Int) == kln) = true := by simp [kE]
              clear kE HLF1
              go_upto_region 11 with (fail)
              go_wp2_with (first | ((with_reducible refine gate_dst (N := 73) rfl ?_); refine Kd.event_run rfl (load_row rfl rfl HO.out hu65 rfl info65s) ?_) | (refine event_skip rfl rfl (store_row rfl rfl rfl HY.out info65s rfl (by simp [Value.oneCell'])) ?_))
              (try simp only [Exit.inBlock, Exit.then])
              refine bodyPost_ret (results_ct rfl _ _ yb 65 #[.int .u64 km, .int .u64 r0, .int .i64 0, .int .i64 0, (.slice A2 o2.length c2)] (0, 0) _ rfl (setRow_heap w4 yb _ _ 65 (0, 0) HY.out) hu65 rfl info65s) rfl ?_
              refine ⟨below_setRow HB.out YBL.out _, ?_⟩
              show ∃ v, _ ∧ _
              exact ⟨_, rfl, own_setRow HV.out HY.out (by decide) _⟩
            · rw [if_neg kE] at HLF1
              have kEp : (((o2.length : Nat) : Int) = kln) = False := eq_false kE
              have kEd : decide (((o2.length : Nat) : Int) = kln) = false := decide_eq_false kE
              have kEb : (((o2.length : Nat) : Int) == kln) = false := by simp [kE]
              clear kE
              cases hl1 : bs[fst + i + 1]? with
              | none => rw [hl1] at HLF1; cases HLF1
              | some l1 =>
                rw [hl1] at HLF1
                dsimp only at HLF1
                obtain ⟨c1, hc1, hc2, hc3, hc4, hc5⟩ := HR0.out.at hl1
                have hlt1 : fst + i + 1 < n := by
                  have h1 := (List.getElem?_eq_some_iff.1 hl1).1
                  have h2 := HR0.out.len
                  have h3 := HL0.out
                  omega
                have hlt64 : n ≤ 64 := by have := NN.out; have := HL0.out; omega
                obtain ⟨x1, hx1⟩ : ∃ x1, x1 = fst + i := ⟨_, rfl⟩
                obtain ⟨x2, hx2⟩ : ∃ x2, x2 = x1 + 1 := ⟨_, rfl⟩
                have E1 := Aside0.mk (show wrap64 ((fst : Int) + (i : Int)) = (x1 : Int) from (congrArg wrap64 (show (fst : Int) + (i : Int) = (x1 : Int) by omega)).trans (wrapN x1 (by omega)))
                have E2 := Aside0.mk (show wrap64 ((x1 : Int) + 1) = (x2 : Int) from (congrArg wrap64 (show (x1 : Int) + 1 = (x2 : Int) by omega)).trans (wrapN x2 (by omega)))
                have i1 : ((x2 : Int) < (n : Int)) = True := eq_true (by omega)
                have i2 : (x2 < n) = True := eq_true (by omega)
                have r2 : w4.cell? ⟨rb, x2, none⟩ = some (.slice (some ⟨c1, 0, none⟩) s s) := by
                  rw [hx2, hx1]
                  exact cell_below hc2 HB.out
                have C1 := Aside0.mk (And.intro hc5 (And.intro hc3 hc4))
                have HLG := Aside0.mk HLF1
                clear HLF1 hl1 hc1 hc2 hc3 hc4 hc5 hlt1 hlt64 hx1 hx2
                have e1 := E1.out
                have e2 := E2.out
                go_wp2_with fail
                clear e1 e2
                cases hk1 : lgRead l1 with
                | none =>
                  have HLH := HLG.out
                  rw [hk1] at HLH
                  dsimp only at HLH
                  obtain rfl := Option.some.inj HLH
                  clear HLH
                  refine (log_read.no (blk_below C1.out.1 HB.out) C1.out.2.2 C1.out.2.1 NN.out.2.2.1 NN.out.2.2.2 ge (cell_below GE0.out HB.out) hk1).mono ?_
                  rintro e w4 ⟨rfl, hb⟩
                  (try dsimp only)
                  clear r2 xv xl
                  have hb_ := hb
                  have n_HK := Aside0.mk (blk_below HK.out hb_)
                  have n_HO := Aside0.mk (blk_below HO.out hb_)
                  have n_HV := Aside0.mk (pw_own_below HV.out hb_)
                  have n_HY := Aside0.mk (blk_below HY.out hb_)
                  have n_HB := Aside0.mk (below_step HB.out hb_)
                  clear HK HO HV HY HB
                  have HK := n_HK
                  have HO := n_HO
                  have HV := n_HV
                  have HY := n_HY
                  have HB := n_HB
                  clear n_HK n_HO n_HV n_HY n_HB hb_
                  clear hb
                  go_upto_region 13 with ((refine event_skip rfl rfl (store_row rfl rfl rfl HK.out info65s rfl (by simp [Value.oneCell'])) ?_))
                  have n_HK : Aside0 ((w4.setRow xk #[.int .u64 0, .int .u64 0, .int .i64 0, .int .i64 0, .slice none 0 0]).heap[xk]? = some (.cells #[.int .u64 0, .int .u64 0, .int .i64 0, .int .i64 0, .slice none 0 0] 65 (0, 0))) := ⟨setRow_heap _ _ _ _ 65 (0, 0) HK.out⟩
                  have n_HO := Aside0.mk (blk_setRow HO.out Nxoxk.out #[.int .u64 0, .int .u64 0, .int .i64 0, .int .i64 0, .slice none 0 0])
                  have n_HY := Aside0.mk (blk_setRow HY.out Nxkyb.out.symm #[.int .u64 0, .int .u64 0, .int .i64 0, .int .i64 0, .slice none 0 0])
                  have n_HV := Aside0.mk (own_setRow HV.out HK.out (by decide) #[.int .u64 0, .int .u64 0, .int .i64 0, .int .i64 0, .slice none 0 0])
                  have n_HB := Aside0.mk (below_setRow HB.out Lxk.out #[.int .u64 0, .int .u64 0, .int .i64 0, .int .i64 0, .slice none 0 0])
                  clear HK HO HY HV HB
                  have HK := n_HK
                  have HO := n_HO
                  have HY := n_HY
                  have HV := n_HV
                  have HB := n_HB
                  clear n_HK n_HO n_HY n_HV n_HB
                  generalize w4.setRow xk #[.int .u64 0, .int .u64 0, .int .i64 0, .int .i64 0, .slice none 0 0] = w4 at HK HO HY HV HB ⊢
                  have y0 : w4.cell? ⟨xk, 0, none⟩ = some (.int .u64 0) := (blk_cell HK.out 0).trans rfl
                  have y3 : w4.cell? ⟨xk, 3, none⟩ = some (.int .i64 0) := (blk_cell HK.out 3).trans rfl
                  have x0 : w4.cell? ⟨xo, 0, none⟩ = some (.int .u64 km) := (blk_cell HO.out 0).trans rfl

                  go_upto_region 14 with (fail)
                  refine start_ (n := 4) (S := fun w' => w'.cell? ⟨0, 0, none⟩ = some (.iface 91 (.pointer (some ge)))) (ds := []) #[false, false, false, false] (by kernel_rfl) rfl rfl (cell_below GE0.out (below_drew1 HB.out)) (fun hHeld => ?_)
                  refine with_tabW log_record.R14.tab log_record.R14.bits (fun HT_ HW_ => ?_)
                  have hb_ := below_drew1 (Below.refl w4.heap.size w4)
                  have n_HK := Aside0.mk (blk_below HK.out hb_)
                  have n_HO := Aside0.mk (blk_below HO.out hb_)
                  have n_HV := Aside0.mk (pw_own_below HV.out hb_)
                  have n_HY := Aside0.mk (blk_below HY.out hb_)
                  have n_HB := Aside0.mk (below_step HB.out hb_)
                  clear HK HO HV HY HB
                  have HK := n_HK
                  have HO := n_HO
                  have HV := n_HV
                  have HY := n_HY
                  have HB := n_HB
                  clear n_HK n_HO n_HV n_HY n_HB hb_
                  generalize w4.drew = w4 at HK HO HV HY HB hHeld ⊢
                  refine pure_ (i := 0) (N := some 101) (v := ?_) (a' := ?_) #[true, false, false, false] rfl rfl (any_of HT_.out (by kernel_rfl)) (fun _ _ _ h => h) (Or.inl ⟨by rfl, ?_⟩) ?_ ?_
                  rotate_left
                  · intro w'
                    go_simp
                    with_reducible rfl
                  rotate_left
                  · simp only [Act.put, List.setIfInBounds_toArray, List.set_cons_zero, List.set_cons_succ, i64_w, i32_w]
                    rfl
                  refine take_ (i := 1) (N := some 102) (v := ?_) (a' := ?_) #[true, true, false, false] rfl rfl (take_ofW HT_.out HW_.out (by kernel_rfl)) (fun _ _ _ h => h) (Or.inl ⟨by rfl, ?_⟩) hHeld ?_ ?_
                  rotate_left
                  · intro w' s0
                    go_simp
                    with_reducible rfl
                  rotate_left
                  · simp only [Act.put, List.setIfInBounds_toArray, List.set_cons_zero, List.set_cons_succ, i64_w, i32_w]
                    rfl
                  refine one_ (i := 2) (N := none) #[true, true, true, false] rfl rfl (one_of HT_.out (by kernel_rfl)) (by decide) (fun K hK => ?_)
                  refine skip_ (w1 := w4.setRow yb #[.int .u64 0, .int .u64 0, .int .i64 0, .int .i64 0, .slice none 0 0]) (by rfl) rfl (store_row rfl rfl rfl HY.out info65s rfl (by simp [Value.oneCell'])) ?_
                  have n0_ : Aside0 ((w4.setRow yb #[.int .u64 0, .int .u64 0, .int .i64 0, .int .i64 0, .slice none 0 0]).heap[yb]? = some (.cells #[.int .u64 0, .int .u64 0, .int .i64 0, .int .i64 0, .slice none 0 0] 65 (0, 0))) := ⟨setRow_heap _ _ _ _ 65 (0, 0) HY.out⟩
                  have n1_ := Aside0.mk (below_setRow HB.out YBL.out #[.int .u64 0, .int .u64 0, .int .i64 0, .int .i64 0, .slice none 0 0])
                  clear HK HO HV HY HB
                  have HY := n0_
                  have HB := n1_
                  clear n0_ n1_
                  generalize w4.setRow yb #[.int .u64 0, .int .u64 0, .int .i64 0, .int .i64 0, .slice none 0 0] = w4 at HY HB ⊢
                  refine hK.out _ _ (cell_below GE0.out HB.out) (fun hHeld => ?_)
                  clear hK K
                  refine pure_ (i := 3) (N := some 7) (v := ?_) (a' := ?_) #[true, true, true, true] rfl rfl (any_of HT_.out (by kernel_rfl)) (fun _ _ _ h => h) (Or.inl ⟨by rfl, ?_⟩) ?_ ?_
                  rotate_left
                  · intro w'
                    go_simp
                    with_reducible rfl
                  rotate_left
                  · simp only [Act.put, List.setIfInBounds_toArray, List.set_cons_zero, List.set_cons_succ, i64_w, i32_w]
                    rfl
                  refine done_ (done_of HT_.out (by kernel_rfl)) ?_
                  clear HT_ HW_ hHeld
                  go_wp2
                  (try simp only [Exit.inBlock, Exit.then])
                  refine bodyPost_ret (results_ct rfl _ _ yb 65 #[.int .u64 0, .int .u64 0, .int .i64 0, .int .i64 0, .slice none 0 0] (0, 0) _ rfl HY.out hu65 rfl info65s) rfl ?_
                  exact ⟨HB.out, rfl⟩

                | some k1 =>
                  have HLH := HLG.out
                  rw [hk1] at HLH
                  dsimp only at HLH
                  obtain ⟨k1m, k1r, k1ln, k1i, k1b⟩ := k1
                  obtain ⟨-, -, -, -, hkb, hq1, hq2, hq3, hq4⟩ := lgRead_some hk1 (by rw [C1.out.2.1]; exact NN.out.2.2.1) C1.out.2.2
                  dsimp only at hkb hq1 hq2 hq3 hq4 HLH
                  rw [C1.out.2.1] at hkb
                  have K1 := Aside0.mk (And.intro hq1 (And.intro hq2 (And.intro hq3 hq4)))
                  clear hq1 hq2 hq3 hq4
                  refine (log_read.yes (blk_below C1.out.1 HB.out) C1.out.2.2 C1.out.2.1 NN.out.2.2.1 NN.out.2.2.2 ge (cell_below GE0.out HB.out) hk1).mono ?_
                  rintro e w4 ⟨rfl, hb⟩
                  (try dsimp only)
                  clear r2 xv xl
                  have hb_ := hb
                  have n_HK := Aside0.mk (blk_below HK.out hb_)
                  have n_HO := Aside0.mk (blk_below HO.out hb_)
                  have n_HV := Aside0.mk (pw_own_below HV.out hb_)
                  have n_HY := Aside0.mk (blk_below HY.out hb_)
                  have n_HB := Aside0.mk (below_step HB.out hb_)
                  clear HK HO HV HY HB
                  have HK := n_HK
                  have HO := n_HO
                  have HV := n_HV
                  have HY := n_HY
                  have HB := n_HB
                  clear n_HK n_HO n_HV n_HY n_HB hb_
                  clear hb
                  go_upto_region 13 with ((refine event_skip rfl rfl (store_row rfl rfl rfl HK.out info65s rfl (by simp [Value.oneCell'])) ?_))
                  have n_HK : Aside0 ((w4.setRow xk #[.int .u64 k1m, .int .u64 k1r, .int .i64 k1ln, .int .i64 k1i, .slice (some ⟨c1, 24, none⟩) (s - 36) (s - 24)]).heap[xk]? = some (.cells #[.int .u64 k1m, .int .u64 k1r, .int .i64 k1ln, .int .i64 k1i, .slice (some ⟨c1, 24, none⟩) (s - 36) (s - 24)] 65 (0, 0))) := ⟨setRow_heap _ _ _ _ 65 (0, 0) HK.out⟩
                  have n_HO := Aside0.mk (blk_setRow HO.out Nxoxk.out #[.int .u64 k1m, .int .u64 k1r, .int .i64 k1ln, .int .i64 k1i, .slice (some ⟨c1, 24, none⟩) (s - 36) (s - 24)])
                  have n_HY := Aside0.mk (blk_setRow HY.out Nxkyb.out.symm #[.int .u64 k1m, .int .u64 k1r, .int .i64 k1ln, .int .i64 k1i, .slice (some ⟨c1, 24, none⟩) (s - 36) (s - 24)])
                  have n_HV := Aside0.mk (own_setRow HV.out HK.out (by decide) #[.int .u64 k1m, .int .u64 k1r, .int .i64 k1ln, .int .i64 k1i, .slice (some ⟨c1, 24, none⟩) (s - 36) (s - 24)])
                  have n_HB := Aside0.mk (below_setRow HB.out Lxk.out #[.int .u64 k1m, .int .u64 k1r, .int .i64 k1ln, .int .i64 k1i, .slice (some ⟨c1, 24, none⟩) (s - 36) (s - 24)])
                  clear HK HO HY HV HB
                  have HK := n_HK
                  have HO := n_HO
                  have HY := n_HY
                  have HV := n_HV
                  have HB := n_HB
                  clear n_HK n_HO n_HY n_HV n_HB
                  generalize w4.setRow xk #[.int .u64 k1m, .int .u64 k1r, .int .i64 k1ln, .int .i64 k1i, .slice (some ⟨c1, 24, none⟩) (s - 36) (s - 24)] = w4 at HK HO HY HV HB ⊢
                  have y0 : w4.cell? ⟨xk, 0, none⟩ = some (.int .u64 k1m) := (blk_cell HK.out 0).trans rfl
                  have y3 : w4.cell? ⟨xk, 3, none⟩ = some (.int .i64 k1i) := (blk_cell HK.out 3).trans rfl
                  have x0 : w4.cell? ⟨xo, 0, none⟩ = some (.int .u64 km) := (blk_cell HO.out 0).trans rfl

                  by_cases kM : k1m = km
                  · by_cases kI : k1i = (i : Int) + 1
                    · rw [if_neg (fun h => h.elim (fun h => h kM) (fun h => h kI))] at HLH
                      have HLI := Aside0.mk HLH
                      have kM2 : (k1m == km) = true := by simp [kM]
                      have kM4 : (k1m != km) = false := by simp [kM]
                      have kI2 : (k1i == (i : Int) + 1) = true := by simp [kI]
                      have kI4 : (k1i != (i : Int) + 1) = false := by simp [kI]
                      have e3 : wrap64 ((i : Int) + 1) = (i : Int) + 1 := by unfold wrap64; have := CT.out; omega
                      have kM3 := eq_true kM
                      have kI3 := eq_true kI
                      have KMK := Aside0.mk kM
                      have KBB := Aside0.mk hkb
                      clear kM kI HLH hkb hk1
                      go_wp2
                      go_roundg f
                      case measure => have := HF.out; omega
                      case rel =>
                        clear y0 y3 x0
                        have hkm := KMK.out
                        subst hkm
                        refine ⟨i + 1, c1, k1r, k1ln, k1i, l1, o2, (.slice A2 o2.length c2), by first | rfl | (simp [e3]; done) | (simp only [e3]; rfl) | (push_cast; rfl), ⟨by rw [← KBB.out]; exact HLI.out⟩, ⟨HK.out⟩, ⟨HO.out⟩, ⟨HV.out⟩, ⟨HY.out⟩, ⟨HB.out⟩, ⟨C1.out⟩, ⟨K1.out⟩, ⟨by have := CT.out.1; have := HF.out; omega, ?_⟩⟩
                        have h1 := CT.out.2
                        rw [O2.out, List.length_append, TA.out.1, Nat.add_mul, Nat.one_mul]
                        have h2 := TA.out.2.1
                        omega
                    · rw [if_pos (Or.inr kI)] at HLH
                      obtain rfl := Option.some.inj HLH
                      have kM2 : (k1m == km) = true := by simp [kM]
                      have kM4 : (k1m != km) = false := by simp [kM]
                      have kI2 : (k1i == (i : Int) + 1) = false := by simp [kI]
                      have kI4 : (k1i != (i : Int) + 1) = true := by simp [kI]
                      have e3 : wrap64 ((i : Int) + 1) = (i : Int) + 1 := by unfold wrap64; have := CT.out; omega
                      have kM3 := eq_true kM
                      have kI3 := eq_false kI
                      clear kM kI HLH hkb hk1
                      go_upto_region 14 with (fail)
                      refine start_ (n := 4) (S := fun w' => w'.cell? ⟨0, 0, none⟩ = some (.iface 91 (.pointer (some ge)))) (ds := []) #[false, false, false, false] (by kernel_rfl) rfl rfl (cell_below GE0.out (below_drew1 HB.out)) (fun hHeld => ?_)
                      refine with_tabW log_record.R14.tab log_record.R14.bits (fun HT_ HW_ => ?_)
                      have hb_ := below_drew1 (Below.refl w4.heap.size w4)
                      have n_HK := Aside0.mk (blk_below HK.out hb_)
                      have n_HO := Aside0.mk (blk_below HO.out hb_)
                      have n_HV := Aside0.mk (pw_own_below HV.out hb_)
                      have n_HY := Aside0.mk (blk_below HY.out hb_)
                      have n_HB := Aside0.mk (below_step HB.out hb_)
                      clear HK HO HV HY HB
                      have HK := n_HK
                      have HO := n_HO
                      have HV := n_HV
                      have HY := n_HY
                      have HB := n_HB
                      clear n_HK n_HO n_HV n_HY n_HB hb_
                      generalize w4.drew = w4 at HK HO HV HY HB hHeld ⊢
                      refine pure_ (i := 0) (N := some 101) (v := ?_) (a' := ?_) #[true, false, false, false] rfl rfl (any_of HT_.out (by kernel_rfl)) (fun _ _ _ h => h) (Or.inl ⟨by rfl, ?_⟩) ?_ ?_
                      rotate_left
                      · intro w'
                        go_simp
                        with_reducible rfl
                      rotate_left
                      · simp only [Act.put, List.setIfInBounds_toArray, List.set_cons_zero, List.set_cons_succ, i64_w, i32_w]
                        rfl
                      refine take_ (i := 1) (N := some 102) (v := ?_) (a' := ?_) #[true, true, false, false] rfl rfl (take_ofW HT_.out HW_.out (by kernel_rfl)) (fun _ _ _ h => h) (Or.inl ⟨by rfl, ?_⟩) hHeld ?_ ?_
                      rotate_left
                      · intro w' s0
                        go_simp
                        with_reducible rfl
                      rotate_left
                      · simp only [Act.put, List.setIfInBounds_toArray, List.set_cons_zero, List.set_cons_succ, i64_w, i32_w]
                        rfl
                      refine one_ (i := 2) (N := none) #[true, true, true, false] rfl rfl (one_of HT_.out (by kernel_rfl)) (by decide) (fun K hK => ?_)
                      refine skip_ (w1 := w4.setRow yb #[.int .u64 0, .int .u64 0, .int .i64 0, .int .i64 0, .slice none 0 0]) (by rfl) rfl (store_row rfl rfl rfl HY.out info65s rfl (by simp [Value.oneCell'])) ?_
                      have n0_ : Aside0 ((w4.setRow yb #[.int .u64 0, .int .u64 0, .int .i64 0, .int .i64 0, .slice none 0 0]).heap[yb]? = some (.cells #[.int .u64 0, .int .u64 0, .int .i64 0, .int .i64 0, .slice none 0 0] 65 (0, 0))) := ⟨setRow_heap _ _ _ _ 65 (0, 0) HY.out⟩
                      have n1_ := Aside0.mk (below_setRow HB.out YBL.out #[.int .u64 0, .int .u64 0, .int .i64 0, .int .i64 0, .slice none 0 0])
                      clear HK HO HV HY HB
                      have HY := n0_
                      have HB := n1_
                      clear n0_ n1_
                      generalize w4.setRow yb #[.int .u64 0, .int .u64 0, .int .i64 0, .int .i64 0, .slice none 0 0] = w4 at HY HB ⊢
                      refine hK.out _ _ (cell_below GE0.out HB.out) (fun hHeld => ?_)
                      clear hK K
                      refine pure_ (i := 3) (N := some 7) (v := ?_) (a' := ?_) #[true, true, true, true] rfl rfl (any_of HT_.out (by kernel_rfl)) (fun _ _ _ h => h) (Or.inl ⟨by rfl, ?_⟩) ?_ ?_
                      rotate_left
                      · intro w'
                        go_simp
                        with_reducible rfl
                      rotate_left
                      · simp only [Act.put, List.setIfInBounds_toArray, List.set_cons_zero, List.set_cons_succ, i64_w, i32_w]
                        rfl
                      refine done_ (done_of HT_.out (by kernel_rfl)) ?_
                      clear HT_ HW_ hHeld
                      go_wp2
                      (try simp only [Exit.inBlock, Exit.then])
                      refine bodyPost_ret (results_ct rfl _ _ yb 65 #[.int .u64 0, .int .u64 0, .int .i64 0, .int .i64 0, .slice none 0 0] (0, 0) _ rfl HY.out hu65 rfl info65s) rfl ?_
                      exact ⟨HB.out, rfl⟩

                  · rw [if_pos (Or.inl kM)] at HLH
                    obtain rfl := Option.some.inj HLH
                    have kM2 : (k1m == km) = false := by simp [kM]
                    have kM4 : (k1m != km) = true := by simp [kM]
                    have kM3 := eq_false kM
                    clear kM HLH hkb hk1
                    go_upto_region 14 with (fail)
                    refine start_ (n := 4) (S := fun w' => w'.cell? ⟨0, 0, none⟩ = some (.iface 91 (.pointer (some ge)))) (ds := []) #[false, false, false, false] (by kernel_rfl) rfl rfl (cell_below GE0.out (below_drew1 HB.out)) (fun hHeld => ?_)
                    refine with_tabW log_record.R14.tab log_record.R14.bits (fun HT_ HW_ => ?_)
                    have hb_ := below_drew1 (Below.refl w4.heap.size w4)
                    have n_HK := Aside0.mk (blk_below HK.out hb_)
                    have n_HO := Aside0.mk (blk_below HO.out hb_)
                    have n_HV := Aside0.mk (pw_own_below HV.out hb_)
                    have n_HY := Aside0.mk (blk_below HY.out hb_)
                    have n_HB := Aside0.mk (below_step HB.out hb_)
                    clear HK HO HV HY HB
                    have HK := n_HK
                    have HO := n_HO
                    have HV := n_HV
                    have HY := n_HY
                    have HB := n_HB
                    clear n_HK n_HO n_HV n_HY n_HB hb_
                    generalize w4.drew = w4 at HK HO HV HY HB hHeld ⊢
                    refine pure_ (i := 0) (N := some 101) (v := ?_) (a' := ?_) #[true, false, false, false] rfl rfl (any_of HT_.out (by kernel_rfl)) (fun _ _ _ h => h) (Or.inl ⟨by rfl, ?_⟩) ?_ ?_
                    rotate_left
                    · intro w'
                      go_simp
                      with_reducible rfl
                    rotate_left
                    · simp only [Act.put, List.setIfInBounds_toArray, List.set_cons_zero, List.set_cons_succ, i64_w, i32_w]
                      rfl
                    refine take_ (i := 1) (N := some 102) (v := ?_) (a' := ?_) #[true, true, false, false] rfl rfl (take_ofW HT_.out HW_.out (by kernel_rfl)) (fun _ _ _ h => h) (Or.inl ⟨by rfl, ?_⟩) hHeld ?_ ?_
                    rotate_left
                    · intro w' s0
                      go_simp
                      with_reducible rfl
                    rotate_left
                    · simp only [Act.put, List.setIfInBounds_toArray, List.set_cons_zero, List.set_cons_succ, i64_w, i32_w]
                      rfl
                    refine one_ (i := 2) (N := none) #[true, true, true, false] rfl rfl (one_of HT_.out (by kernel_rfl)) (by decide) (fun K hK => ?_)
                    refine skip_ (w1 := w4.setRow yb #[.int .u64 0, .int .u64 0, .int .i64 0, .int .i64 0, .slice none 0 0]) (by rfl) rfl (store_row rfl rfl rfl HY.out info65s rfl (by simp [Value.oneCell'])) ?_
                    have n0_ : Aside0 ((w4.setRow yb #[.int .u64 0, .int .u64 0, .int .i64 0, .int .i64 0, .slice none 0 0]).heap[yb]? = some (.cells #[.int .u64 0, .int .u64 0, .int .i64 0, .int .i64 0, .slice none 0 0] 65 (0, 0))) := ⟨setRow_heap _ _ _ _ 65 (0, 0) HY.out⟩
                    have n1_ := Aside0.mk (below_setRow HB.out YBL.out #[.int .u64 0, .int .u64 0, .int .i64 0, .int .i64 0, .slice none 0 0])
                    clear HK HO HV HY HB
                    have HY := n0_
                    have HB := n1_
                    clear n0_ n1_
                    generalize w4.setRow yb #[.int .u64 0, .int .u64 0, .int .i64 0, .int .i64 0, .slice none 0 0] = w4 at HY HB ⊢
                    refine hK.out _ _ (cell_below GE0.out HB.out) (fun hHeld => ?_)
                    clear hK K
                    refine pure_ (i := 3) (N := some 7) (v := ?_) (a' := ?_) #[true, true, true, true] rfl rfl (any_of HT_.out (by kernel_rfl)) (fun _ _ _ h => h) (Or.inl ⟨by rfl, ?_⟩) ?_ ?_
                    rotate_left
                    · intro w'
                      go_simp
                      with_reducible rfl
                    rotate_left
                    · simp only [Act.put, List.setIfInBounds_toArray, List.set_cons_zero, List.set_cons_succ, i64_w, i32_w]
                      rfl
                    refine done_ (done_of HT_.out (by kernel_rfl)) ?_
                    clear HT_ HW_ hHeld
                    go_wp2
                    (try simp only [Exit.inBlock, Exit.then])
                    refine bodyPost_ret (results_ct rfl _ _ yb 65 #[.int .u64 0, .int .u64 0, .int .i64 0, .int .i64 0, .slice none 0 0] (0, 0) _ rfl HY.out hu65 rfl info65s) rfl ?_
                    exact ⟨HB.out, rfl⟩


      · have H2 := H1.out
        rw [if_pos (Or.inl kI)] at H2
        obtain rfl := Option.some.inj H2
        have kIp : (ki = 0) = False := eq_false kI
        have kIb : (ki == 0) = false := by simp [kI]
        have kIc : (ki != 0) = true := by simp [kI]

        clear H2 kI
        go_upto_region 3 with (fail)
        refine start_ (n := 14) (S := fun w' => w'.cell? ⟨xk, 3, none⟩ = some (.int .i64 ki) ∧ w'.cell? ⟨xk, 2, none⟩ = some (.int .i64 kln)) (ds := []) #[false, false, false, false, false, false, false, false, false, false, false, false, false, false] (by kernel_rfl) rfl rfl ⟨(blk_cell HK.out 3).trans rfl, (blk_cell HK.out 2).trans rfl⟩ (fun hHeld => ?_)
        refine with_tabW log_record.R3.tab log_record.R3.bits (fun HT_ HW_ => ?_)
        have hb_ := below_drew1 (Below.refl w4.heap.size w4)
        have n_HY := Aside0.mk (blk_below HY.out hb_)
        have n_HK := Aside0.mk (blk_below HK.out hb_)
        have n_HB := Aside0.mk (below_step HB.out hb_)
        clear HY HK HB
        have HY := n_HY
        have HK := n_HK
        have HB := n_HB
        clear n_HY n_HK n_HB hb_
        generalize w4.drew = w4 at HY HK HB hHeld ⊢
        refine pure_ (i := 0) (N := some 27) (v := ?_) (a' := ?_) #[true, false, false, false, false, false, false, false, false, false, false, false, false, false] rfl rfl (any_of HT_.out (by kernel_rfl)) (fun _ _ _ h => h) (Or.inl ⟨by rfl, ?_⟩) ?_ ?_
        rotate_left
        · intro w'
          go_simp
          with_reducible rfl
        rotate_left
        · simp only [Act.put, List.setIfInBounds_toArray, List.set_cons_zero, List.set_cons_succ, i64_w, i32_w]
          rfl
        refine pure_ (i := 1) (N := some 28) (v := ?_) (a' := ?_) #[true, true, false, false, false, false, false, false, false, false, false, false, false, false] rfl rfl (any_of HT_.out (by kernel_rfl)) (fun _ _ _ h => h) (Or.inl ⟨by rfl, ?_⟩) ?_ ?_
        rotate_left
        · intro w'
          go_simp
          with_reducible rfl
        rotate_left
        · simp only [Act.put, List.setIfInBounds_toArray, List.set_cons_zero, List.set_cons_succ, i64_w, i32_w]
          rfl
        refine pure_ (i := 2) (N := some 29) (v := ?_) (a' := ?_) #[true, true, true, false, false, false, false, false, false, false, false, false, false, false] rfl rfl (any_of HT_.out (by kernel_rfl)) (fun _ _ _ h => h) (Or.inl ⟨by rfl, ?_⟩) ?_ ?_
        rotate_left
        · intro w'
          go_simp
          with_reducible rfl
        rotate_left
        · simp only [Act.put, List.setIfInBounds_toArray, List.set_cons_zero, List.set_cons_succ, i64_w, i32_w]
          rfl
        refine pure_ (i := 3) (N := some 30) (v := ?_) (a' := ?_) #[true, true, true, true, false, false, false, false, false, false, false, false, false, false] rfl rfl (any_of HT_.out (by kernel_rfl)) (fun _ _ _ h => h) (Or.inl ⟨by rfl, ?_⟩) ?_ ?_
        rotate_left
        · intro w'
          go_simp
          with_reducible rfl
        rotate_left
        · simp only [Act.put, List.setIfInBounds_toArray, List.set_cons_zero, List.set_cons_succ, i64_w, i32_w]
          rfl
        refine take_ (i := 4) (N := some 31) (v := ?_) (a' := ?_) #[true, true, true, true, true, false, false, false, false, false, false, false, false, false] rfl rfl (take_ofW HT_.out HW_.out (by kernel_rfl)) (fun _ _ _ h => h) (Or.inl ⟨by rfl, ?_⟩) hHeld ?_ ?_
        rotate_left
        · intro w' s0
          obtain ⟨s0, s1⟩ := s0
          go_simp
          with_reducible rfl
        rotate_left
        · simp only [Act.put, List.setIfInBounds_toArray, List.set_cons_zero, List.set_cons_succ, i64_w, i32_w]
          rfl
        refine pure_ (i := 5) (N := some 32) (v := ?_) (a' := ?_) #[true, true, true, true, true, true, false, false, false, false, false, false, false, false] rfl rfl (any_of HT_.out (by kernel_rfl)) (fun _ _ _ h => h) (Or.inl ⟨by rfl, ?_⟩) ?_ ?_
        rotate_left
        · intro w'
          go_simp
          with_reducible rfl
        rotate_left
        · simp only [Act.put, List.setIfInBounds_toArray, List.set_cons_zero, List.set_cons_succ, i64_w, i32_w]
          rfl
        refine pure_ (i := 6) (N := some 33) (v := ?_) (a' := ?_) #[true, true, true, true, true, true, true, false, false, false, false, false, false, false] rfl rfl (any_of HT_.out (by kernel_rfl)) (fun _ _ _ h => h) (Or.inl ⟨by rfl, ?_⟩) ?_ ?_
        rotate_left
        · intro w'
          go_simp
          with_reducible rfl
        rotate_left
        · simp only [Act.put, List.setIfInBounds_toArray, List.set_cons_zero, List.set_cons_succ, i64_w, i32_w]
          rfl
        refine pure_ (i := 7) (N := some 34) (v := ?_) (a' := ?_) #[true, true, true, true, true, true, true, true, false, false, false, false, false, false] rfl rfl (any_of HT_.out (by kernel_rfl)) (fun _ _ _ h => h) (Or.inl ⟨by rfl, ?_⟩) ?_ ?_
        rotate_left
        · intro w'
          go_simp
          with_reducible rfl
        rotate_left
        · simp only [Act.put, List.setIfInBounds_toArray, List.set_cons_zero, List.set_cons_succ, i64_w, i32_w]
          rfl
        refine pure_ (i := 8) (N := some 35) (v := undef) (a' := ?_) #[true, true, true, true, true, true, true, true, true, false, false, false, false, false] rfl rfl (any_of HT_.out (by kernel_rfl)) (fun _ _ _ h => h) (Or.inr ⟨by rfl, rfl⟩) ?_ ?_
        rotate_left
        · simp only [Act.put, List.setIfInBounds_toArray, List.set_cons_zero, List.set_cons_succ, i64_w, i32_w]
          rfl
        refine pure_ (i := 9) (N := some 36) (v := undef) (a' := ?_) #[true, true, true, true, true, true, true, true, true, true, false, false, false, false] rfl rfl (any_of HT_.out (by kernel_rfl)) (fun _ _ _ h => h) (Or.inr ⟨by rfl, rfl⟩) ?_ ?_
        rotate_left
        · simp only [Act.put, List.setIfInBounds_toArray, List.set_cons_zero, List.set_cons_succ, i64_w, i32_w]
          rfl
        refine pure_ (i := 10) (N := some 37) (v := undef) (a' := ?_) #[true, true, true, true, true, true, true, true, true, true, true, false, false, false] rfl rfl (any_of HT_.out (by kernel_rfl)) (fun _ _ _ h => h) (Or.inr ⟨by rfl, rfl⟩) ?_ ?_
        rotate_left
        · simp only [Act.put, List.setIfInBounds_toArray, List.set_cons_zero, List.set_cons_succ, i64_w, i32_w]
          rfl
        refine pure_ (i := 11) (N := some 38) (v := undef) (a' := ?_) #[true, true, true, true, true, true, true, true, true, true, true, true, false, false] rfl rfl (any_of HT_.out (by kernel_rfl)) (fun _ _ _ h => h) (Or.inr ⟨by rfl, rfl⟩) ?_ ?_
        rotate_left
        · simp only [Act.put, List.setIfInBounds_toArray, List.set_cons_zero, List.set_cons_succ, i64_w, i32_w]
          rfl
        refine pure_ (i := 12) (N := some 39) (v := undef) (a' := ?_) #[true, true, true, true, true, true, true, true, true, true, true, true, true, false] rfl rfl (any_of HT_.out (by kernel_rfl)) (fun _ _ _ h => h) (Or.inr ⟨by rfl, rfl⟩) ?_ ?_
        rotate_left
        · simp only [Act.put, List.setIfInBounds_toArray, List.set_cons_zero, List.set_cons_succ, i64_w, i32_w]
          rfl
        refine pure_ (i := 13) (N := some 40) (v := ?_) (a' := ?_) #[true, true, true, true, true, true, true, true, true, true, true, true, true, true] rfl rfl (any_of HT_.out (by kernel_rfl)) (fun _ _ _ h => h) (Or.inl ⟨by rfl, ?_⟩) ?_ ?_
        rotate_left
        · intro w'
          go_simp
          with_reducible rfl
        rotate_left
        · simp only [Act.put, List.setIfInBounds_toArray, List.set_cons_zero, List.set_cons_succ, i64_w, i32_w]
          rfl
        refine done_ (done_of HT_.out (by kernel_rfl)) ?_
        clear HT_ HW_ hHeld

        go_upto_region 4 with (fail)
        refine start_ (n := 4) (S := fun w' => w'.cell? ⟨0, 0, none⟩ = some (.iface 91 (.pointer (some ge)))) (ds := []) #[false, false, false, false] (by kernel_rfl) rfl rfl (cell_below GE0.out (below_drew1 HB.out)) (fun hHeld => ?_)
        refine with_tabW log_record.R4.tab log_record.R4.bits (fun HT_ HW_ => ?_)
        have hb_ := below_drew1 (Below.refl w4.heap.size w4)
        have n_HK := Aside0.mk (blk_below HK.out hb_)
        have n_HY := Aside0.mk (blk_below HY.out hb_)
        have n_HB := Aside0.mk (below_step HB.out hb_)
        clear HK HY HB
        have HK := n_HK
        have HY := n_HY
        have HB := n_HB
        clear n_HK n_HY n_HB hb_
        generalize w4.drew = w4 at HK HY HB hHeld ⊢
        refine pure_ (i := 0) (N := some 41) (v := ?_) (a' := ?_) #[true, false, false, false] rfl rfl (any_of HT_.out (by kernel_rfl)) (fun _ _ _ h => h) (Or.inl ⟨by rfl, ?_⟩) ?_ ?_
        rotate_left
        · intro w'
          go_simp
          with_reducible rfl
        rotate_left
        · simp only [Act.put, List.setIfInBounds_toArray, List.set_cons_zero, List.set_cons_succ, i64_w, i32_w]
          rfl
        refine take_ (i := 1) (N := some 42) (v := ?_) (a' := ?_) #[true, true, false, false] rfl rfl (take_ofW HT_.out HW_.out (by kernel_rfl)) (fun _ _ _ h => h) (Or.inl ⟨by rfl, ?_⟩) hHeld ?_ ?_
        rotate_left
        · intro w' s0
          go_simp
          with_reducible rfl
        rotate_left
        · simp only [Act.put, List.setIfInBounds_toArray, List.set_cons_zero, List.set_cons_succ, i64_w, i32_w]
          rfl
        refine one_ (i := 2) (N := none) #[true, true, true, false] rfl rfl (one_of HT_.out (by kernel_rfl)) (by decide) (fun K hK => ?_)
        refine skip_ (w1 := w4.setRow yb #[.int .u64 0, .int .u64 0, .int .i64 0, .int .i64 0, .slice none 0 0]) (by rfl) rfl (store_row rfl rfl rfl HY.out info65s rfl (by simp [Value.oneCell'])) ?_
        have n0_ : Aside0 ((w4.setRow yb #[.int .u64 0, .int .u64 0, .int .i64 0, .int .i64 0, .slice none 0 0]).heap[yb]? = some (.cells #[.int .u64 0, .int .u64 0, .int .i64 0, .int .i64 0, .slice none 0 0] 65 (0, 0))) := ⟨setRow_heap _ _ _ _ 65 (0, 0) HY.out⟩
        have n1_ := Aside0.mk (below_setRow HB.out YBL.out #[.int .u64 0, .int .u64 0, .int .i64 0, .int .i64 0, .slice none 0 0])
        clear HK HY HB
        have HY := n0_
        have HB := n1_
        clear n0_ n1_
        generalize w4.setRow yb #[.int .u64 0, .int .u64 0, .int .i64 0, .int .i64 0, .slice none 0 0] = w4 at HY HB ⊢
        refine hK.out _ _ (cell_below GE0.out HB.out) (fun hHeld => ?_)
        clear hK K
        refine pure_ (i := 3) (N := some 7) (v := ?_) (a' := ?_) #[true, true, true, true] rfl rfl (any_of HT_.out (by kernel_rfl)) (fun _ _ _ h => h) (Or.inl ⟨by rfl, ?_⟩) ?_ ?_
        rotate_left
        · intro w'
          go_simp
          with_reducible rfl
        rotate_left
        · simp only [Act.put, List.setIfInBounds_toArray, List.set_cons_zero, List.set_cons_succ, i64_w, i32_w]
          rfl
        refine done_ (done_of HT_.out (by kernel_rfl)) ?_
        clear HT_ HW_ hHeld
        go_wp2
        (try simp only [Exit.inBlock, Exit.then])
        refine bodyPost_ret (results_ct rfl _ _ yb 65 #[.int .u64 0, .int .u64 0, .int .i64 0, .int .i64 0, .slice none 0 0] (0, 0) _ rfl HY.out hu65 rfl info65s) rfl ?_
        exact ⟨HB.out, rfl⟩

end Go.Proofs.YtgeggcifhojpmaaDoor.PB
/- What Append does to a log and its disk. -/
namespace Go.Proofs.YtgeggcifhojpmaaDoor.PB
open Go.RowKit Go.Proofs.YtgeggcifhojpmaaDoorW.PrintWords Go.Proofs.YtgeggcifhojpmaaDoorW.PrintLast Go.Proofs.YtgeggcifhojpmaaDoorW.PrintMore
attribute [local go_sem] max2_mx min2_mn max_two min_two max_three min_three max_four min_four   -- for this text's walks alone
set_option linter.unusedVariables false
set_option linter.unusedSimpArgs false

/-- The blocks of a record written from the i-th on: the disk's blocks, its cut, whether it fell. -/
def lgApp (s p first : Nat) (m r ln : Int) : Nat → Nat → List Int → List (List Int) → Int → Option (List (List Int) × Int × Bool)
  | 0, _, _, _, _ => none
  | fuel + 1, i, rest, B, cut =>
    if i = 0 ∨ rest ≠ [] then
      if cut = 0 then some (B.set (first + i) ((lgBlk s m r ln (i : Int) (rest.take (s - 36))).take p ++ (B.getD (first + i) []).drop p), 0, true)
      else lgApp s p first m r ln fuel (i + 1) (rest.drop (s - 36)) (B.set (first + i) (lgBlk s m r ln (i : Int) (rest.take (s - 36)))) (if 0 < cut then cut - 1 else cut)
    else some (B, cut, false)
theorem DK.lbne {w : World} {base g h s : Nat} {hs : List Nat} {bs : List (List Int)} {cut pre : Int} {dead : Bool} (hd : DK w base g h s hs bs cut pre dead) {k : Nat} {cs : Array Value} {t : TypeId} (hk : w.heap[k]? = some (.cells cs t (0, 0))) (ht : t ≠ 5) : k ∉ hs := fun hm => by
  obtain ⟨i, hi, he⟩ := List.mem_iff_getElem.1 hm
  have h2 := (hd.each i k (bs[i]'(by rw [hd.len]; exact hi)) (by rw [List.getElem?_eq_getElem hi, he]) (List.getElem?_eq_getElem _)).2
  exact blk_ne hk h2 ht rfl
theorem DK.row65 {w : World} {base g h s : Nat} {hs : List Nat} {bs : List (List Int)} {cut pre : Int} {dead : Bool} (hd : DK w base g h s hs bs cut pre dead) {k : Nat} {cs : Array Value} (hk : w.heap[k]? = some (.cells cs 65 (0, 0))) (cs' : Array Value) : DK (w.setRow k cs') base g h s hs bs cut pre dead :=
  hd.kept (S := fun i => i = k) (DF.setRow (S := fun i => i = k) (b := k) (DF.refl _ w) rfl cs') (fun e => blk_ne hk hd.top (by decide) e.symm) (fun e => blk_ne hk hd.row (by decide) e.symm) (fun b hb e => hd.lbne hk (by decide) (e ▸ hb))
theorem DF.newRow {S : Nat → Prop} {w w1 : World} (h : DF S w w1) {k : Nat} (hk : w.heap.size ≤ k) (cs : Array Value) : DF S w (w1.setRow k cs) :=
  ⟨h.os, h.tape, h.output, by simpa [World.setRow] using h.size, fun i hi hs => (setRow_other w1 k i cs (by omega)).trans (h.block i hi hs)⟩
theorem cell_keep {S : Nat → Prop} {w w' : World} {a : Addr} {v : Value} (h : w.cell? a = some v) (hf : DF S w w') (ha : ¬ S a.block) : w'.cell? a = some v := by
  have hlt := World.block_lt_of_cell? _ _ h
  have := hf.block a.block hlt ha
  simp only [World.cell?, this] at h ⊢
  exact h
theorem DK.set59 {w : World} {base g h s : Nat} {hs : List Nat} {bs : List (List Int)} {cut pre : Int} {dead : Bool} (hd : DK w base g h s hs bs cut pre dead) {k : Nat} {cs : Array Value} (hk : w.heap[k]? = some (.cells cs 59 (0, 0))) (i : Nat) (u : Value) : DK (w.setCell ⟨k, i, none⟩ u) base g h s hs bs cut pre dead :=
  hd.kept (S := fun i => i = k) (DF.set (S := fun i => i = k) (DF.refl _ w) (p := ⟨k, i, none⟩) rfl u) (fun e => blk_ne hk hd.top (by decide) e.symm) (fun e => blk_ne hk hd.row (by decide) e.symm) (fun b hb e => hd.lbne hk (by decide) (e ▸ hb))
theorem DF.grown {S : Nat → Prop} {w w1 w2 : World} {row : Option Nat} (h : DF S w w1) (hg : w1.grownBy w2 row) (hr : ∀ k, k < w.heap.size → some k ≠ row) : DF S w w2 :=
  ⟨hg.os.trans h.os, hg.tape.trans h.tape, hg.output.trans h.output, Nat.le_trans h.size hg.size, fun k hk hs => (hg.block k (Nat.lt_of_lt_of_le hk h.size) (hr k hk)).trans (h.block k hk hs)⟩
theorem DK.grown {w0 w w2 : World} {base g h s n : Nat} {hs : List Nat} {bs : List (List Int)} {cut pre : Int} {dead : Bool} {v : Value} {xs : List Value} (hd : DK w base g h s hs bs cut pre dead) (hg : w.grownBy w2 v.ownBlock) (hl : g < w0.heap.size ∧ h < w0.heap.size ∧ ∀ b ∈ hs, b < w0.heap.size) (hr : ∀ k, k < w0.heap.size → some k ≠ v.ownBlock) (ho : w.ownsRow w0.heap.size 5 1 v n xs) : DK w2 base g h s hs bs cut pre dead := by
  refine ⟨(hg.block g (blk_lt hd.top) (hr g hl.1)).trans hd.top, (hg.block h (blk_lt hd.row) (hr h hl.2.1)).trans hd.row, hd.len, hd.nodup, fun i b l hi hq => ?_, hd.own⟩
  have h2 := hd.each i b l hi hq
  exact ⟨h2.1, (hg.block b (blk_lt h2.2) (hr b (hl.2.2 b (List.mem_of_getElem? hi)))).trans h2.2⟩
/-- The slot that the next record goes to. -/
def lgTo (has : Bool) (sl : Nat) : Nat := if has = true then 1 - sl else sl
/-- What Append has done. -/
structure AppP (w : World) (base g q s lb : Nat) (hs : List Nat) (pre : Int) (la : Option Addr) (ll lc : Nat) (has : Bool) (rc mk : Int) (sl : Nat) (bl : List Int) (res : List (List Int) × Int × Bool) (e : Ending) (w' : World) : Prop where
  disk : DK w' base g q s hs res.1 res.2.1 pre res.2.2
  kept : DF (fun k => k = g ∨ k ∈ hs ∨ k = lb) w w'
  fell : res.2.2 = true → e = .returned (.int .i64 42) ∧ w'.heap[lb]? = some (.cells #[.pointer (some ⟨g, 0, none⟩), .slice la ll lc, .bool has, .int .u64 rc, .int .u64 (mk + 1), .int .i64 (sl : Int)] 59 (0, 0))
  good : res.2.2 = false → e = .returned (.int .i64 0) ∧ ∃ A c, w'.heap[lb]? = some (.cells #[.pointer (some ⟨g, 0, none⟩), .slice A bl.length c, .bool true, .int .u64 (rc + 1), .int .u64 (mk + 1), .int .i64 (lgTo has sl : Int)] 59 (0, 0)) ∧ w'.ownsRow w.heap.size 5 1 (.slice A bl.length c) bl.length (nums .u8 bl)
section
variable {w : World} {base g q s : Nat} {hs : List Nat} {bs : List (List Int)} {cut pre : Int} {dead : Bool}
set_option maxHeartbeats 4000000 in
set_option maxRecDepth 100000 in
theorem log_Append.long (hd : DK w base g q s hs bs cut pre dead) (hn : 0 < hs.length) (h64 : hs.length ≤ 64) (hs6 : s ≤ 65536) {lb : Nat} {la : Option Addr} {ll lc : Nat} {has : Bool} {rc mk : Int} {sl : Nat} (hl : w.heap[lb]? = some (.cells #[.pointer (some ⟨g, 0, none⟩), (.slice la ll lc), .bool has, .int .u64 rc, .int .u64 mk, .int .i64 (sl : Int)] 59 (0, 0))) (A : Option Addr) (n cap : Nat) (hlong : lgRoom hs.length s < n) :
    Calls Tryd.prog 19 #[.pointer (some ⟨lb, 0, none⟩), .slice A n cap] w fun e w' => e = .returned (.int .i64 51) ∧ Below w.heap.size w w' := by
  have HD0 := Aside0.mk hd
  have NN := Aside0.mk (And.intro hn (And.intro h64 hs6))
  have HL0 := Aside0.mk hl
  have HB := Aside0.mk (Below.refl w.heap.size w)
  have l0 : w.cell? ⟨lb, 0, none⟩ = some (.pointer (some ⟨g, 0, none⟩)) := (blk_cell HL0.out 0).trans rfl
  have l1 : w.cell? ⟨lb, 1, none⟩ = some (.slice la ll lc) := (blk_cell HL0.out 1).trans rfl
  have l2 : w.cell? ⟨lb, 2, none⟩ = some (.bool has) := (blk_cell HL0.out 2).trans rfl
  have l3 : w.cell? ⟨lb, 3, none⟩ = some (.int .u64 rc) := (blk_cell HL0.out 3).trans rfl
  have l4 : w.cell? ⟨lb, 4, none⟩ = some (.int .u64 mk) := (blk_cell HL0.out 4).trans rfl
  have l5 : w.cell? ⟨lb, 5, none⟩ = some (.int .i64 (sl : Int)) := (blk_cell HL0.out 5).trans rfl
  have k1 : ((lgRoom hs.length s : Int) < (n : Int)) = True := eq_true (by omega)
  have k2 : (lgRoom hs.length s < n) = True := eq_true hlong
  have k3 : decide ((lgRoom hs.length s : Int) < (n : Int)) = true := decide_eq_true (by omega)
  clear hd hn h64 hs6 hl hlong
  go_enter Tryd.func19, Tryd.ntmps19
  go_wp2_with fail
  refine (log_Room.calls HD0.out NN.out.1 NN.out.2.1 NN.out.2.2).mono ?_
  rintro e w5 ⟨rfl, ⟨nd, rfl⟩⟩
  (try dsimp only)
  go_wp2
  (try simp only [Exit.inBlock, Exit.then])
  go_ret
  exact ⟨rfl, by repeat (first | exact Below.refl _ _ | apply pw_below_drewN | apply below_drew1)⟩
set_option maxHeartbeats 4000000 in
set_option maxRecDepth 100000 in
theorem log_Append.fallen (hd : DK w base g q s hs bs cut pre dead) (hn : 0 < hs.length) (h64 : hs.length ≤ 64) (hs6 : s ≤ 65536) {lb : Nat} {la : Option Addr} {ll lc : Nat} {has : Bool} {rc mk : Int} {sl : Nat} (hl : w.heap[lb]? = some (.cells #[.pointer (some ⟨g, 0, none⟩), (.slice la ll lc), .bool has, .int .u64 rc, .int .u64 mk, .int .i64 (sl : Int)] 59 (0, 0))) (he : dead = true) (A : Option Addr) (n cap : Nat) (hshort : n ≤ lgRoom hs.length s) :
    Calls Tryd.prog 19 #[.pointer (some ⟨lb, 0, none⟩), .slice A n cap] w fun e w' => e = .returned (.int .i64 42) ∧ Below w.heap.size w w' := by
  subst he
  have HD0 := Aside0.mk hd
  have NN := Aside0.mk (And.intro hn (And.intro h64 hs6))
  have HL0 := Aside0.mk hl
  have HB := Aside0.mk (Below.refl w.heap.size w)
  have l0 : w.cell? ⟨lb, 0, none⟩ = some (.pointer (some ⟨g, 0, none⟩)) := (blk_cell HL0.out 0).trans rfl
  have l1 : w.cell? ⟨lb, 1, none⟩ = some (.slice la ll lc) := (blk_cell HL0.out 1).trans rfl
  have l2 : w.cell? ⟨lb, 2, none⟩ = some (.bool has) := (blk_cell HL0.out 2).trans rfl
  have l3 : w.cell? ⟨lb, 3, none⟩ = some (.int .u64 rc) := (blk_cell HL0.out 3).trans rfl
  have l4 : w.cell? ⟨lb, 4, none⟩ = some (.int .u64 mk) := (blk_cell HL0.out 4).trans rfl
  have l5 : w.cell? ⟨lb, 5, none⟩ = some (.int .i64 (sl : Int)) := (blk_cell HL0.out 5).trans rfl
  have k1 : ((lgRoom hs.length s : Int) < (n : Int)) = False := eq_false (by omega)
  have k2 : (lgRoom hs.length s < n) = False := eq_false (by omega)
  have k3 : decide ((lgRoom hs.length s : Int) < (n : Int)) = false := decide_eq_false (by omega)
  clear hd hn h64 hs6 hl hshort
  go_enter Tryd.func19, Tryd.ntmps19
  go_wp2_with fail
  refine (log_Room.calls HD0.out NN.out.1 NN.out.2.1 NN.out.2.2).mono ?_
  rintro e w5 ⟨rfl, ⟨nd, rfl⟩⟩
  (try dsimp only)
  go_wp2_with fail
  refine (disk_Dead.calls (HD0.out.drewN nd)).mono ?_
  rintro e w5 ⟨rfl, ⟨nd2, rfl⟩⟩
  (try dsimp only)
  go_wp2
  (try simp only [Exit.inBlock, Exit.then])
  go_ret
  exact ⟨rfl, by repeat (first | exact Below.refl _ _ | apply pw_below_drewN | apply below_drew1)⟩
def log_Append.R14.T : Bool × List (List Nat × List Nat) := (true, [([], []), ([0], [0]), ([1], [1]), ([2], [2]), ([], []), ([4], [4]), ([5], [5]), ([6], [6]), ([7], [7]), ([], []), ([9], [9]), ([], []), ([], []), ([], []), ([12, 13], [12, 13]), ([3, 8, 10, 11, 14], [3, 8, 10, 11, 14]), ([], []), ([16, 15, 0, 1, 2, 3, 4, 5, 6, 7, 8, 9, 10, 11, 12, 13, 14, 15, 16], [15, 16])])
theorem log_Append.R14.tab : rtab .any (opsOf Tryd.f19 14) = log_Append.R14.T := by kernel_rfl
theorem log_Append.R14.bits : waitsOk log_Append.R14.T.2 [0, 1, 3, 7, 0, 16, 48, 112, 240, 0, 512, 0, 0, 0, 12288, 32767, 0, 131071] = true := by kernel_rfl
def log_Append.R15.T : Bool × List (List Nat × List Nat) := (true, [([], []), ([0], [0]), ([1], [1]), ([2], [2]), ([], []), ([], []), ([4, 5], [4, 5]), ([], []), ([], []), ([8], [8]), ([9], [9]), ([10], [10]), ([11], [11]), ([7, 12, 12], [7, 12]), ([3, 6, 13, 13], [3, 6, 13]), ([14, 14, 0, 1, 2, 3, 4, 5, 6, 7, 8, 9, 10, 11, 12, 13, 14], [14])])
theorem log_Append.R15.tab : rtab .any (opsOf Tryd.f19 15) = log_Append.R15.T := by kernel_rfl
theorem log_Append.R15.bits : waitsOk log_Append.R15.T.2 [0, 1, 3, 7, 0, 0, 48, 0, 0, 256, 768, 1792, 3840, 8064, 16383, 32767] = true := by kernel_rfl
def log_Append.R19.T : Bool × List (List Nat × List Nat) := (true, [([], []), ([], []), ([], []), ([], []), ([], []), ([], []), ([4, 5], [4, 5]), ([], []), ([7], [7]), ([8], [8]), ([9], [9]), ([10], [10]), ([], []), ([0, 0, 4, 5, 6, 10], [0]), ([13, 0, 4, 5, 6, 10], [13]), ([14, 6, 6, 0, 4, 5, 6, 10], [6, 14]), ([1, 0, 1, 4, 5, 6, 10, 13, 14, 15], [1]), ([16, 0, 1, 4, 5, 6, 10, 13, 14, 15], [16]), ([17, 15, 0, 1, 4, 5, 6, 10, 13, 14, 15], [17]), ([2, 0, 1, 2, 4, 5, 6, 7, 8, 9, 10, 11, 13, 14, 15, 16, 17, 18], [2]), ([19, 0, 1, 2, 4, 5, 6, 7, 8, 9, 10, 11, 13, 14, 15, 16, 17, 18], [19]), ([20, 11, 18, 0, 1, 2, 4, 5, 6, 7, 8, 9, 10, 11, 13, 14, 15, 16, 17, 18], [11, 20]), ([3, 0, 1, 2, 3, 4, 5, 6, 7, 8, 9, 10, 11, 12, 13, 14, 15, 16, 17, 18, 19, 20, 21], [3]), ([22, 0, 1, 2, 3, 4, 5, 6, 7, 8, 9, 10, 11, 12, 13, 14, 15, 16, 17, 18, 19, 20, 21], [22]), ([23, 12, 21, 0, 1, 2, 3, 4, 5, 6, 7, 8, 9, 10, 11, 12, 13, 14, 15, 16, 17, 18, 19, 20, 21], [12, 23])])
theorem log_Append.R19.tab : rtab .any (opsOf Tryd.f19 19) = log_Append.R19.T := by kernel_rfl
theorem log_Append.R19.bits : waitsOk log_Append.R19.T.2 [0, 0, 0, 0, 0, 0, 48, 0, 128, 384, 896, 1920, 0, 2033, 10225, 26609, 59379, 124915, 255987, 520183, 1044471, 2093047, 4194303, 8388607, 16777215] = true := by kernel_rfl
set_option maxHeartbeats 40000000 in
set_option maxRecDepth 100000 in
theorem log_Append.runs (hd : DK w base g q s hs bs cut pre dead) (hn : 0 < hs.length) (h64 : hs.length ≤ 64) (hs6 : s ≤ 65536) {lb : Nat} {la : Option Addr} {ll lc : Nat} {has : Bool} {rc mk : Int} {sl : Nat} (hl : w.heap[lb]? = some (.cells #[.pointer (some ⟨g, 0, none⟩), (.slice la ll lc), .bool has, .int .u64 rc, .int .u64 mk, .int .i64 (sl : Int)] 59 (0, 0))) (he : dead = false) (ab cap : Nat) (bl : List Int) (hcap : bl.length ≤ cap) (hsrc : ∀ (j : Nat) (x : Int), bl[j]? = some x → w.cell? ⟨ab, j, none⟩ = some (.int .u8 x)) (hab : ¬ (ab = g ∨ ab ∈ hs ∨ ab = lb)) (hshort : bl.length ≤ lgRoom hs.length s) (h4 : lgRight hs.length s = true) (hsl : sl ≤ 1) (hmk : 0 ≤ mk ∧ mk < 9223372036854775808) (hrc : 0 ≤ rc ∧ rc < 9223372036854775808) (p : Nat) (hp : pre = (p : Int) ∧ p ≤ s) (hct : -9223372036854775808 ≤ cut ∧ cut < 9223372036854775808) (res : List (List Int) × Int × Bool) (h : lgApp s p (lgTo has sl * (hs.length / 2)) (mk + 1) (rc + 1) (bl.length : Int) 64 0 bl bs cut = some res) :
    Calls Tryd.prog 19 #[.pointer (some ⟨lb, 0, none⟩), .slice (some ⟨ab, 0, none⟩) bl.length cap] w fun e w' => AppP w base g q s lb hs pre la ll lc has rc mk sl bl res e w' := by
  subst he
  have hu65 := Tryd.underlying65
  have hu59 := Tryd.underlying59
  have HD0 := Aside0.mk hd
  have NN := Aside0.mk (And.intro hn (And.intro h64 hs6))
  have HL0 := Aside0.mk hl
  obtain ⟨m, hm⟩ : ∃ m, m = mk + 1 := ⟨_, rfl⟩
  obtain ⟨r, hrr⟩ : ∃ r, r = rc + 1 := ⟨_, rfl⟩
  obtain ⟨tsl, htsl⟩ : ∃ t, t = lgTo has sl := ⟨_, rfl⟩
  obtain ⟨half, hhalf⟩ : ∃ x, x = hs.length / 2 := ⟨_, rfl⟩
  obtain ⟨fst, hfst⟩ : ∃ x, x = tsl * half := ⟨_, rfl⟩
  rw [← hm, ← hrr, ← htsl, ← hhalf, ← hfst] at h
  have hr46 : 4 ≤ hs.length ∧ 256 ≤ s := by
    unfold lgRight at h4
    simpa using h4
  have htl : tsl ≤ 1 := by rw [htsl]; unfold lgTo; split <;> omega
  have hfl : fst ≤ half := by
    rw [hfst]
    exact Nat.le_trans (Nat.mul_le_mul_right half htl) (Nat.le_of_eq (Nat.one_mul half))
  have HH := Aside0.mk h
  have MM := Aside0.mk (And.intro hm (And.intro hrr htsl))
  have UM := Aside0.mk (show IntKind.u64.wrap (mk + 1) = m by rw [IntKind.wrap_u64]; omega)
  have UR := Aside0.mk (show IntKind.u64.wrap (rc + 1) = r by rw [IntKind.wrap_u64]; omega)
  have RM := Aside0.mk (show (0 ≤ m ∧ m < 18446744073709551616) ∧ (0 ≤ r ∧ r < 18446744073709551616) by omega)
  have RG := Aside0.mk hr46
  have FN := Aside0.mk (show fst + half ≤ hs.length ∧ 1 ≤ half ∧ half ≤ 32 by omega)
  have SH := Aside0.mk (show bl.length ≤ half * (s - 36) from by
    unfold lgRoom at hshort
    rw [if_pos h4, ← hhalf] at hshort
    omega)
  have BL := Aside0.mk (show bl.length ≤ 16384 ∧ bl.length ≤ cap from by
    unfold lgRoom at hshort
    rw [if_pos h4] at hshort
    omega)
  have SB := Aside0.mk hsrc
  have NAB := Aside0.mk hab
  have PP := Aside0.mk hp
  have CR0 := Aside0.mk hct
  have HDL := Aside0.mk hd.lt
  have F1 := Aside0.mk (show wrap64 ((hs.length : Int) / 2) = (half : Int) from (congrArg wrap64 (show (hs.length : Int) / 2 = (half : Int) by omega)).trans (wrapN half (by omega)))
  have F2 := Aside0.mk (show wrap64 ((tsl : Int) * (half : Int)) = (fst : Int) from (congrArg wrap64 (show (tsl : Int) * (half : Int) = (fst : Int) by rw [hfst, Int.natCast_mul])).trans (wrapN fst (by omega)))
  have k1 : ((lgRoom hs.length s : Int) < (bl.length : Int)) = False := eq_false (by omega)
  have k2 : (lgRoom hs.length s < bl.length) = False := eq_false (by omega)
  have k3 : decide ((lgRoom hs.length s : Int) < (bl.length : Int)) = false := decide_eq_false (by omega)
  have HSL := Aside0.mk hsl
  clear hd hn h64 hs6 hl hshort hcap hsrc hab h4 hsl hmk hrc hp hct h hm hrr htsl hhalf hfst hr46 htl hfl
  have l0 : w.cell? ⟨lb, 0, none⟩ = some (.pointer (some ⟨g, 0, none⟩)) := (blk_cell HL0.out 0).trans rfl
  have l1 : w.cell? ⟨lb, 1, none⟩ = some (.slice la ll lc) := (blk_cell HL0.out 1).trans rfl
  have l2 : w.cell? ⟨lb, 2, none⟩ = some (.bool has) := (blk_cell HL0.out 2).trans rfl
  have l3 : w.cell? ⟨lb, 3, none⟩ = some (.int .u64 rc) := (blk_cell HL0.out 3).trans rfl
  have l4 : w.cell? ⟨lb, 4, none⟩ = some (.int .u64 mk) := (blk_cell HL0.out 4).trans rfl
  have l5 : w.cell? ⟨lb, 5, none⟩ = some (.int .i64 (sl : Int)) := (blk_cell HL0.out 5).trans rfl
  go_enter Tryd.func19, Tryd.ntmps19
  go_wp2_with fail
  refine (log_Room.calls HD0.out NN.out.1 NN.out.2.1 NN.out.2.2).mono ?_
  rintro e w5 ⟨rfl, ⟨nd, rfl⟩⟩
  (try dsimp only)
  have HD := Aside0.mk (HD0.out.drewN nd)
  have HL := Aside0.mk (blk_drewN HL0.out nd)
  have HF : Aside0 (DF (fun k => k = g ∨ k ∈ hs ∨ k = lb) w (w.drewN nd)) := ⟨⟨rfl, rfl, rfl, Nat.le_refl _, fun _ _ _ => rfl⟩⟩
  clear l0 l1 l2 l3 l4 l5
  generalize w.drewN nd = w4 at HD HL HF ⊢
  have l0 : w4.cell? ⟨lb, 0, none⟩ = some (.pointer (some ⟨g, 0, none⟩)) := (blk_cell HL.out 0).trans rfl
  have l1 : w4.cell? ⟨lb, 1, none⟩ = some (.slice la ll lc) := (blk_cell HL.out 1).trans rfl
  have l2 : w4.cell? ⟨lb, 2, none⟩ = some (.bool has) := (blk_cell HL.out 2).trans rfl
  have l3 : w4.cell? ⟨lb, 3, none⟩ = some (.int .u64 rc) := (blk_cell HL.out 3).trans rfl
  have l4 : w4.cell? ⟨lb, 4, none⟩ = some (.int .u64 mk) := (blk_cell HL.out 4).trans rfl
  have l5 : w4.cell? ⟨lb, 5, none⟩ = some (.int .i64 (sl : Int)) := (blk_cell HL.out 5).trans rfl
  go_wp2_with fail
  refine (disk_Dead.calls HD.out).mono ?_
  rintro e w5 ⟨rfl, ⟨nd2, rfl⟩⟩
  (try dsimp only)
  clear l0 l1 l2 l3 l4 l5
  have hb_ := pw_below_drewN (Below.refl w4.heap.size w4) nd2
  have n_HD := Aside0.mk (HD.out.under hb_)
  have n_HL := Aside0.mk (blk_below HL.out hb_)
  have n_HF := Aside0.mk (HF.out.trans (DF.of_below hb_))
  clear HD HL HF
  have HD := n_HD
  have HL := n_HL
  have HF := n_HF
  clear n_HD n_HL n_HF hb_
  generalize w4.drewN nd2 = w4 at HD HL HF ⊢
  have l0 : w4.cell? ⟨lb, 0, none⟩ = some (.pointer (some ⟨g, 0, none⟩)) := (blk_cell HL.out 0).trans rfl
  have l1 : w4.cell? ⟨lb, 1, none⟩ = some (.slice la ll lc) := (blk_cell HL.out 1).trans rfl
  have l2 : w4.cell? ⟨lb, 2, none⟩ = some (.bool has) := (blk_cell HL.out 2).trans rfl
  have l3 : w4.cell? ⟨lb, 3, none⟩ = some (.int .u64 rc) := (blk_cell HL.out 3).trans rfl
  have l4 : w4.cell? ⟨lb, 4, none⟩ = some (.int .u64 mk) := (blk_cell HL.out 4).trans rfl
  have l5 : w4.cell? ⟨lb, 5, none⟩ = some (.int .i64 (sl : Int)) := (blk_cell HL.out 5).trans rfl
  clear k1 k2 k3
  go_upto_if 32 with (fail)
  go_cut [5] from 12 to 34 (fun s5 w' => s5 = .int .i64 (tsl : Int) ∧ w' = w4)
  case first =>
    cases has with
    | true =>
      have e5 : wrap64 (1 - (sl : Int)) = (tsl : Int) := by
        rw [MM.out.2.2]
        unfold lgTo wrap64
        have := HSL.out
        simp
        omega
      go_wp2
      go_meet
      case rel => exact ⟨by first | rfl | exact congrArg (Value.int .i64) e5, rfl⟩
    | false =>
      have e5 : (sl : Int) = (tsl : Int) := by
        rw [MM.out.2.2]
        unfold lgTo
        simp
      go_wp2
      go_meet
      case rel => exact ⟨by first | rfl | exact congrArg (Value.int .i64) e5, rfl⟩
  case rest =>
    obtain ⟨rfl, rfl⟩ := hcut
    generalize wc = w4 at HD HL HF l0 l1 l2 l3 l4 l5 ⊢
    have z4 := blk_frozen HL.out 4
    have um := UM.out
    go_upto_region 9 with (fail)
    have n_HL : Aside0 ((w4.setCell ⟨lb, 4, none⟩ (.int .u64 m)).heap[lb]? = some (.cells #[.pointer (some ⟨g, 0, none⟩), (.slice la ll lc), .bool has, .int .u64 rc, .int .u64 m, .int .i64 (sl : Int)] 59 (0, 0))) := ⟨blk_put HL.out 4 _ rfl⟩
    have n_HD := Aside0.mk (DK.set59 HD.out HL.out 4 (.int .u64 m))
    have n_HF := Aside0.mk (HF.out.set (p := ⟨lb, 4, none⟩) (Or.inr (Or.inr rfl)) (.int .u64 m))
    clear HL HD HF l0 l1 l2 l3 l4 l5 z4 um
    have HL := n_HL
    have HD := n_HD
    have HF := n_HF
    clear n_HL n_HD n_HF
    generalize w4.setCell ⟨lb, 4, none⟩ (.int .u64 m) = w4 at HL HD HF ⊢
    have l0 : w4.cell? ⟨lb, 0, none⟩ = some (.pointer (some ⟨g, 0, none⟩)) := (blk_cell HL.out 0).trans rfl
    go_wp2_with fail
    refine (disk_Blocks.calls HD.out).mono ?_
    rintro e w5 ⟨rfl, ⟨nd3, rfl⟩⟩
    (try dsimp only)
    clear l0
    have hb_ := pw_below_drewN (Below.refl w4.heap.size w4) nd3
    have n_HD := Aside0.mk (HD.out.under hb_)
    have n_HL := Aside0.mk (blk_below HL.out hb_)
    have n_HF := Aside0.mk (HF.out.trans (DF.of_below hb_))
    clear HD HL HF
    have HD := n_HD
    have HL := n_HL
    have HF := n_HF
    clear n_HD n_HL n_HF hb_
    generalize w4.drewN nd3 = w4 at HD HL HF ⊢
    have f1 := F1.out
    have f2 := F2.out
    go_wp2_with fail
    (try simp only [F1.out, F2.out])
    clear f1 f2
    go_loopg [7, 8] 64 (fun kq v7 v8 w' => ∃ (i off : Nat) (rest : List Int) (rA : Addr) (rcap : Nat) (B : List (List Int)) (ct : Int), v7 = .int .i64 (i : Int) ∧ v8 = .slice (some rA) rest.length rcap ∧ Aside0 (lgApp s p fst m r (bl.length : Int) kq i rest B ct = some res) ∧ Aside0 (DK w' base g q s hs B ct pre false) ∧ Aside0 (w'.heap[lb]? = some (.cells #[.pointer (some ⟨g, 0, none⟩), (.slice la ll lc), .bool has, .int .u64 rc, .int .u64 m, .int .i64 (sl : Int)] 59 (0, 0))) ∧ Aside0 (DF (fun k => k = g ∨ k ∈ hs ∨ k = lb) w w') ∧ Aside0 (rest = bl.drop off ∧ off = i * (s - 36) ∧ rest.length ≤ rcap ∧ (rA = ⟨ab, off, none⟩ ∨ (rest = [] ∧ 0 < i))) ∧ Aside0 (-9223372036854775808 ≤ ct ∧ ct < 9223372036854775808) ∧ Aside0 (i + kq = 64))
    case atStart =>
      exact ⟨0, 0, bl, _, _, bs, cut, rfl, rfl, ⟨HH.out⟩, ⟨HD.out⟩, ⟨HL.out⟩, ⟨HF.out⟩, ⟨rfl, by simp, BL.out.2, Or.inl rfl⟩, ⟨CR0.out⟩, ⟨rfl⟩⟩
    case round =>
      clear HD HL HF
      obtain ⟨i, off, rest, rA, rcap, B, ct, rfl, rfl, HA, HD, HL, HF, RO, CR, KQ⟩ := hrel
      generalize wr = w4 at HD HL HF ⊢
      obtain ⟨f, hf⟩ : ∃ f, gk = f + 1 := by
        rcases gk with _ | f
        · have h0 := HA.out
          unfold lgApp at h0
          cases h0
        · exact ⟨f, rfl⟩
      have HA1 := HA.out
      rw [hf] at HA1
      unfold lgApp at HA1
      have HGK := Aside0.mk hf
      clear hf
      by_cases kl : i = 0 ∨ rest ≠ []
      · rw [if_pos kl] at HA1
        have HA2 := Aside0.mk HA1
        have hrA : rA = ⟨ab, off, none⟩ := by
          rcases RO.out.2.2.2 with h1 | h1
          · exact h1
          · rcases kl with h2 | h2
            · omega
            · exact absurd h1.1 h2
        subst hrA
        have CT := Aside0.mk (show i < half from by
          rcases kl with h2 | h2
          · have := FN.out; omega
          · have h3 : off < bl.length := by
              rcases Nat.lt_or_ge off bl.length with h4 | h4
              · exact h4
              · exact absurd (by rw [RO.out.1]; exact List.drop_of_length_le h4) h2
            have h5 := SH.out
            have h6 := RO.out.2.1
            rcases Nat.lt_or_ge i half with h7 | h7
            · exact h7
            · have h8 : half * (s - 36) ≤ i * (s - 36) := Nat.mul_le_mul_right _ h7
              omega)
        obtain ⟨a, ha⟩ : ∃ a, a = (rest.take (s - 36)).length := ⟨_, rfl⟩
        have TA := Aside0.mk ha.symm
        have ha2 : a = min (s - 36) rest.length := by rw [ha, List.length_take]
        obtain ⟨rl, hrl⟩ : ∃ rl, rl = rest.length := ⟨_, rfl⟩
        have RL := Aside0.mk (And.intro hrl (show a ≤ rl ∧ rl ≤ rcap ∧ a ≤ s - 36 from by have := RO.out; omega))
        have mna : mn (rl : Int) ((s - 36 : Nat) : Int) = (a : Int) := by unfold mn; split <;> omega
        have MN := Aside0.mk mna
        have HZ := Aside0.mk kl
        rw [← hrl]
        clear HA1 kl ha ha2 mna hrl
        go_upto_region 11 with (fail)
        go_cut [57] from 51 to 104 (fun s57 w' => s57 = .bool true ∧ w' = w4)
        case first =>
          rcases Nat.eq_zero_or_pos i with k0 | k0
          · have k1 : ((i : Int) == 0) = true := by simp [k0]
            have k2 : ((i : Int) = 0) = True := eq_true (by omega)
            have k3 : (i = 0) = True := eq_true k0
            clear k0
            go_wp2
            go_meet
            case rel => exact ⟨rfl, rfl⟩
          · have k1 : ((i : Int) == 0) = false := by simp; omega
            have k2 : ((i : Int) = 0) = False := eq_false (by omega)
            have k3 : (i = 0) = False := eq_false (by omega)
            have k4 : 0 < rl := by
              have h1 := HZ.out
              have h2 := RL.out.1
              rcases h1 with h1 | h1
              · omega
              · rw [h2]
                exact List.length_pos_iff.2 h1
            have k5 : ((0 : Int) < (rl : Int)) = True := eq_true (by omega)
            have k6 : decide ((0 : Int) < (rl : Int)) = true := decide_eq_true (by omega)
            have k7 : (0 < rl) = True := eq_true k4
            clear k0 k4
            go_wp2
            go_meet
            case rel => exact ⟨rfl, rfl⟩
        case rest =>
          obtain ⟨rfl, rfl⟩ := hcut
          generalize wc = w4 at HD HL HF ⊢
          have mna := MN.out
          have l0 : w4.cell? ⟨lb, 0, none⟩ = some (.pointer (some ⟨g, 0, none⟩)) := (blk_cell HL.out 0).trans rfl
          go_wp2_with fail
          refine (log_each.calls HD.out NN.out.1 (by have := RG.out; omega) NN.out.2.2).mono ?_
          rintro e w5 ⟨rfl, ⟨nd4, rfl⟩⟩
          (try dsimp only)
          clear l0
          have hb_ := pw_below_drewN (Below.refl w4.heap.size w4) nd4
          have n_HD := Aside0.mk (HD.out.under hb_)
          have n_HL := Aside0.mk (blk_below HL.out hb_)
          have n_HF := Aside0.mk (HF.out.trans (DF.of_below hb_))
          clear HD HL HF
          have HD := n_HD
          have HL := n_HL
          have HF := n_HF
          clear n_HD n_HL n_HF hb_
          generalize w4.drewN nd4 = w4 at HD HL HF ⊢
          go_upto_region 14 with (fail)
          clear mna
          obtain ⟨x1, hx1⟩ : ∃ x1, x1 = fst + i := ⟨_, rfl⟩
          have X1 := Aside0.mk hx1
          have X2 := Aside0.mk (show wrap64 ((fst : Int) + (i : Int)) = (x1 : Int) from (congrArg wrap64 (show (fst : Int) + (i : Int) = (x1 : Int) by omega)).trans (wrapN x1 (by have := FN.out; have := NN.out; have := CT.out; omega)))
          have ga : (a ≤ rcap) = True := eq_true (by have := RL.out; omega)
          have gb : ((a : Int) ≤ (rcap : Int)) = True := eq_true (by have := RL.out; omega)
          have gc : ((rcap : Int) < (a : Int)) = False := eq_false (by have := RL.out; omega)
          have gd : (rcap < a) = False := eq_false (by have := RL.out; omega)
          have ur := UR.out
          clear hx1
          refine start_ (n := 18) (S := fun w' => w'.cell? ⟨lb, 4, none⟩ = some (.int .u64 m) ∧ w'.cell? ⟨lb, 3, none⟩ = some (.int .u64 rc)) (ds := []) #[false, false, false, false, false, false, false, false, false, false, false, false, false, false, false, false, false, false] (by kernel_rfl) rfl rfl ⟨(blk_cell HL.out 4).trans rfl, (blk_cell HL.out 3).trans rfl⟩ (fun hHeld => ?_)
          refine with_tabW log_Append.R14.tab log_Append.R14.bits (fun HT_ HW_ => ?_)
          have hb_ := below_drew1 (Below.refl w4.heap.size w4)
          have n_HD := Aside0.mk (HD.out.under hb_)
          have n_HL := Aside0.mk (blk_below HL.out hb_)
          have n_HF := Aside0.mk (HF.out.trans (DF.of_below hb_))
          clear HD HL HF
          have HD := n_HD
          have HL := n_HL
          have HF := n_HF
          clear n_HD n_HL n_HF hb_
          generalize w4.drew = w4 at HD HL HF hHeld ⊢
          refine pure_ (i := 0) (N := some 68) (v := ?_) (a' := ?_) #[true, false, false, false, false, false, false, false, false, false, false, false, false, false, false, false, false, false] rfl rfl (any_of HT_.out (by kernel_rfl)) (fun _ _ _ h => h) (Or.inl ⟨by rfl, ?_⟩) ?_ ?_
          rotate_left
          · intro w'
            go_simp
            with_reducible rfl
          rotate_left
          · simp only [Act.put, List.setIfInBounds_toArray, List.set_cons_zero, List.set_cons_succ, i64_w, i32_w]
            rfl
          refine pure_ (i := 1) (N := some 69) (v := ?_) (a' := ?_) #[true, true, false, false, false, false, false, false, false, false, false, false, false, false, false, false, false, false] rfl rfl (any_of HT_.out (by kernel_rfl)) (fun _ _ _ h => h) (Or.inl ⟨by rfl, ?_⟩) ?_ ?_
          rotate_left
          · intro w'
            go_simp
            with_reducible rfl
          rotate_left
          · simp only [Act.put, List.setIfInBounds_toArray, List.set_cons_zero, List.set_cons_succ, i64_w, i32_w]
            rfl
          refine pure_ (i := 2) (N := some 70) (v := ?_) (a' := ?_) #[true, true, true, false, false, false, false, false, false, false, false, false, false, false, false, false, false, false] rfl rfl (any_of HT_.out (by kernel_rfl)) (fun _ _ _ h => h) (Or.inl ⟨by rfl, ?_⟩) ?_ ?_
          rotate_left
          · intro w'
            go_simp
            with_reducible rfl
          rotate_left
          · simp only [Act.put, List.setIfInBounds_toArray, List.set_cons_zero, List.set_cons_succ, i64_w, i32_w]
            rfl
          refine pure_ (i := 4) (N := some 72) (v := ?_) (a' := ?_) #[true, true, true, false, true, false, false, false, false, false, false, false, false, false, false, false, false, false] rfl rfl (any_of HT_.out (by kernel_rfl)) (fun _ _ _ h => h) (Or.inl ⟨by rfl, ?_⟩) ?_ ?_
          rotate_left
          · intro w'
            go_simp
            with_reducible rfl
          rotate_left
          · simp only [Act.put, List.setIfInBounds_toArray, List.set_cons_zero, List.set_cons_succ, i64_w, i32_w]
            rfl
          refine pure_ (i := 5) (N := some 73) (v := ?_) (a' := ?_) #[true, true, true, false, true, true, false, false, false, false, false, false, false, false, false, false, false, false] rfl rfl (any_of HT_.out (by kernel_rfl)) (fun _ _ _ h => h) (Or.inl ⟨by rfl, ?_⟩) ?_ ?_
          rotate_left
          · intro w'
            go_simp
            with_reducible rfl
          rotate_left
          · simp only [Act.put, List.setIfInBounds_toArray, List.set_cons_zero, List.set_cons_succ, i64_w, i32_w]
            rfl
          refine pure_ (i := 6) (N := some 74) (v := ?_) (a' := ?_) #[true, true, true, false, true, true, true, false, false, false, false, false, false, false, false, false, false, false] rfl rfl (any_of HT_.out (by kernel_rfl)) (fun _ _ _ h => h) (Or.inl ⟨by rfl, ?_⟩) ?_ ?_
          rotate_left
          · intro w'
            go_simp
            with_reducible rfl
          rotate_left
          · simp only [Act.put, List.setIfInBounds_toArray, List.set_cons_zero, List.set_cons_succ, i64_w, i32_w]
            rfl
          refine pure_ (i := 9) (N := some 77) (v := ?_) (a' := ?_) #[true, true, true, false, true, true, true, false, false, true, false, false, false, false, false, false, false, false] rfl rfl (any_of HT_.out (by kernel_rfl)) (fun _ _ _ h => h) (Or.inl ⟨by rfl, ?_⟩) ?_ ?_
          rotate_left
          · intro w'
            go_simp
            with_reducible rfl
          rotate_left
          · simp only [Act.put, List.setIfInBounds_toArray, List.set_cons_zero, List.set_cons_succ, i64_w, i32_w]
            rfl
          refine pure_ (i := 10) (N := some 78) (v := ?_) (a' := ?_) #[true, true, true, false, true, true, true, false, false, true, true, false, false, false, false, false, false, false] rfl rfl (any_of HT_.out (by kernel_rfl)) (fun _ _ _ h => h) (Or.inl ⟨by rfl, ?_⟩) ?_ ?_
          rotate_left
          · intro w'
            go_simp
            with_reducible rfl
          rotate_left
          · simp only [Act.put, List.setIfInBounds_toArray, List.set_cons_zero, List.set_cons_succ, i64_w, i32_w]
            rfl
          refine pure_ (i := 11) (N := some 79) (v := ?_) (a' := ?_) #[true, true, true, false, true, true, true, false, false, true, true, true, false, false, false, false, false, false] rfl rfl (any_of HT_.out (by kernel_rfl)) (fun _ _ _ h => h) (Or.inl ⟨by rfl, ?_⟩) ?_ ?_
          rotate_left
          · intro w'
            go_simp
            with_reducible rfl
          rotate_left
          · simp only [Act.put, List.setIfInBounds_toArray, List.set_cons_zero, List.set_cons_succ, i64_w, i32_w]
            rfl
          refine pure_ (i := 12) (N := some 80) (v := ?_) (a' := ?_) #[true, true, true, false, true, true, true, false, false, true, true, true, true, false, false, false, false, false] rfl rfl (any_of HT_.out (by kernel_rfl)) (fun _ _ _ h => h) (Or.inl ⟨by rfl, ?_⟩) ?_ ?_
          rotate_left
          · intro w'
            go_simp
            with_reducible rfl
          rotate_left
          · simp only [Act.put, List.setIfInBounds_toArray, List.set_cons_zero, List.set_cons_succ, i64_w, i32_w]
            rfl
          refine pure_ (i := 13) (N := some 81) (v := ?_) (a' := ?_) #[true, true, true, false, true, true, true, false, false, true, true, true, true, true, false, false, false, false] rfl rfl (any_of HT_.out (by kernel_rfl)) (fun _ _ _ h => h) (Or.inl ⟨by rfl, ?_⟩) ?_ ?_
          rotate_left
          · intro w'
            go_simp
            with_reducible rfl
          rotate_left
          · simp only [Act.put, List.setIfInBounds_toArray, List.set_cons_zero, List.set_cons_succ, i64_w, i32_w]
            rfl
          refine pure_ (i := 14) (N := some 82) (v := ?_) (a' := ?_) #[true, true, true, false, true, true, true, false, false, true, true, true, true, true, true, false, false, false] rfl rfl (any_of HT_.out (by kernel_rfl)) (fun _ _ _ h => h) (Or.inl ⟨by rfl, ?_⟩) ?_ ?_
          rotate_left
          · intro w'
            go_simp
            with_reducible rfl
          rotate_left
          · simp only [Act.put, List.setIfInBounds_toArray, List.set_cons_zero, List.set_cons_succ, i64_w, i32_w]
            rfl
          refine take_ (i := 3) (N := some 71) (v := ?_) (a' := ?_) #[true, true, true, true, true, true, true, false, false, true, true, true, true, true, true, false, false, false] rfl rfl (take_ofW HT_.out HW_.out (by kernel_rfl)) (fun _ _ _ h => h) (Or.inl ⟨by rfl, ?_⟩) hHeld ?_ ?_
          rotate_left
          · intro w' s0
            obtain ⟨s0, s1⟩ := s0
            go_simp
            with_reducible rfl
          rotate_left
          · simp only [Act.put, List.setIfInBounds_toArray, List.set_cons_zero, List.set_cons_succ, i64_w, i32_w]
            rfl
          refine take_ (i := 7) (N := some 75) (v := ?_) (a' := ?_) #[true, true, true, true, true, true, true, true, false, true, true, true, true, true, true, false, false, false] rfl rfl (take_ofW HT_.out HW_.out (by kernel_rfl)) (fun _ _ _ h => h) (Or.inl ⟨by rfl, ?_⟩) hHeld ?_ ?_
          rotate_left
          · intro w' s0
            obtain ⟨s0, s1⟩ := s0
            go_simp
            with_reducible rfl
          rotate_left
          · simp only [Act.put, List.setIfInBounds_toArray, List.set_cons_zero, List.set_cons_succ, i64_w, i32_w]
            rfl
          refine pure_ (i := 8) (N := some 76) (v := ?_) (a' := ?_) #[true, true, true, true, true, true, true, true, true, true, true, true, true, true, true, false, false, false] rfl rfl (any_of HT_.out (by kernel_rfl)) (fun _ _ _ h => h) (Or.inl ⟨by rfl, ?_⟩) ?_ ?_
          rotate_left
          · intro w'
            go_simp
            with_reducible rfl
          rotate_left
          · simp only [Act.put, List.setIfInBounds_toArray, List.set_cons_zero, List.set_cons_succ, i64_w, i32_w]
            rfl
          refine pure_ (i := 15) (N := some 83) (v := ?_) (a' := ?_) #[true, true, true, true, true, true, true, true, true, true, true, true, true, true, true, true, false, false] rfl rfl (any_of HT_.out (by kernel_rfl)) (fun _ _ _ h => h) (Or.inl ⟨by rfl, ?_⟩) ?_ ?_
          rotate_left
          · intro w'
            go_simp
            with_reducible rfl
          rotate_left
          · simp only [Act.put, List.setIfInBounds_toArray, List.set_cons_zero, List.set_cons_succ, i64_w, i32_w]
            rfl
          refine one_ (i := 16) (N := some 10) #[true, true, true, true, true, true, true, true, true, true, true, true, true, true, true, true, true, false] rfl rfl (one_of HT_.out (by kernel_rfl)) (by decide) (fun K hK => ?_)
          refine value_ (v := .pointer (some ⟨w4.heap.size, 0, none⟩)) (w1 := w4.alloc (.cells #[.int .u64 0, .int .u64 0, .int .i64 0, .int .i64 0, .slice none 0 0] 65)) (by rfl) rfl (by first | (go_simp; done) | (go_simp; rfl)) ?_
          obtain ⟨xk, hxk⟩ : ∃ x_, x_ = w4.heap.size := ⟨_, rfl⟩
          have HK : Aside0 ((w4.alloc (.cells #[.int .u64 0, .int .u64 0, .int .i64 0, .int .i64 0, .slice none 0 0] 65)).heap[xk]? = some (.cells #[.int .u64 0, .int .u64 0, .int .i64 0, .int .i64 0, .slice none 0 0] 65 (0, 0))) := ⟨by rw [hxk]; exact blk_new _ _⟩
          have Lxk := Aside0.mk (show w.heap.size ≤ xk by rw [hxk]; exact HF.out.size)
          try rw [← hxk]
          clear hxk
          have hb_ := below_alloc (Below.refl w4.heap.size w4) (.cells #[.int .u64 0, .int .u64 0, .int .i64 0, .int .i64 0, .slice none 0 0] 65)
          have n_HD := Aside0.mk (HD.out.under hb_)
          have n_HL := Aside0.mk (blk_below HL.out hb_)
          have n_HF := Aside0.mk (HF.out.trans (DF.of_below hb_))
          clear HD HL HF
          have HD := n_HD
          have HL := n_HL
          have HF := n_HF
          clear n_HD n_HL n_HF hb_
          generalize w4.alloc (.cells #[.int .u64 0, .int .u64 0, .int .i64 0, .int .i64 0, .slice none 0 0] 65) = w4 at HK HD HL HF ⊢
          refine hK.out _ _ ⟨(blk_cell HL.out 4).trans rfl, (blk_cell HL.out 3).trans rfl⟩ (fun hHeld => ?_)
          clear hK K
          refine norm_ (a' := ?_) ?_ ?_
          rotate_left
          · show Act.put _ (some 10) _ = _
            simp only [Act.put, List.setIfInBounds_toArray, List.set_cons_zero, List.set_cons_succ, i64_w, i32_w]
            rfl
          refine one_ (i := 17) (N := none) #[true, true, true, true, true, true, true, true, true, true, true, true, true, true, true, true, true, true] rfl rfl (one_of HT_.out (by kernel_rfl)) (by decide) (fun K hK => ?_)
          refine skip_ (w1 := w4.setRow xk #[.int .u64 m, .int .u64 r, .int .i64 (bl.length : Int), .int .i64 (i : Int), .slice (some ⟨ab, off, none⟩) a rcap]) (by rfl) rfl (store_row rfl rfl rfl HK.out info65s rfl (by simp [Value.oneCell'])) ?_
          have n_HK : Aside0 ((w4.setRow xk #[.int .u64 m, .int .u64 r, .int .i64 (bl.length : Int), .int .i64 (i : Int), .slice (some ⟨ab, off, none⟩) a rcap]).heap[xk]? = some (.cells #[.int .u64 m, .int .u64 r, .int .i64 (bl.length : Int), .int .i64 (i : Int), .slice (some ⟨ab, off, none⟩) a rcap] 65 (0, 0))) := ⟨setRow_heap _ _ _ _ 65 (0, 0) HK.out⟩
          have n_HL := Aside0.mk (blk_setRow HL.out (blk_ne HL.out HK.out (by decide)) #[.int .u64 m, .int .u64 r, .int .i64 (bl.length : Int), .int .i64 (i : Int), .slice (some ⟨ab, off, none⟩) a rcap])
          have n_HD := Aside0.mk (DK.row65 HD.out HK.out #[.int .u64 m, .int .u64 r, .int .i64 (bl.length : Int), .int .i64 (i : Int), .slice (some ⟨ab, off, none⟩) a rcap])
          have n_HF := Aside0.mk (HF.out.newRow Lxk.out #[.int .u64 m, .int .u64 r, .int .i64 (bl.length : Int), .int .i64 (i : Int), .slice (some ⟨ab, off, none⟩) a rcap])
          clear HK HL HD HF
          have HK := n_HK
          have HL := n_HL
          have HD := n_HD
          have HF := n_HF
          clear n_HK n_HL n_HD n_HF
          generalize w4.setRow xk #[.int .u64 m, .int .u64 r, .int .i64 (bl.length : Int), .int .i64 (i : Int), .slice (some ⟨ab, off, none⟩) a rcap] = w4 at HK HL HD HF ⊢
          refine hK.out _ _ ⟨(blk_cell HL.out 4).trans rfl, (blk_cell HL.out 3).trans rfl⟩ (fun hHeld => ?_)
          clear hK K
          refine done_ (done_of HT_.out (by kernel_rfl)) ?_
          clear HT_ HW_ hHeld

          clear ur
          by_cases kc : ct = 0
          · have HA3 := HA2.out
            rw [if_pos kc] at HA3
            obtain rfl := Option.some.inj HA3
            clear HA3
            go_upto_region 15 with (fail)
            refine start_ (n := 16) (S := fun w' => w'.cell? ⟨lb, 0, none⟩ = some (.pointer (some ⟨g, 0, none⟩)) ∧ w'.heap[xk]? = some (.cells #[.int .u64 m, .int .u64 r, .int .i64 (bl.length : Int), .int .i64 (i : Int), .slice (some ⟨ab, off, none⟩) a rcap] 65 (0, 0))) (ds := []) #[false, false, false, false, false, false, false, false, false, false, false, false, false, false, false, false] (by kernel_rfl) rfl rfl ⟨(blk_cell HL.out 0).trans rfl, HK.out⟩ (fun hHeld => ?_)
            refine with_tabW log_Append.R15.tab log_Append.R15.bits (fun HT_ HW_ => ?_)
            have hb_ := below_drew1 (Below.refl w4.heap.size w4)
            have n_HD := Aside0.mk (HD.out.under hb_)
            have n_HL := Aside0.mk (blk_below HL.out hb_)
            have n_HF := Aside0.mk (HF.out.trans (DF.of_below hb_))
            have n_HK := Aside0.mk (blk_below HK.out hb_)
            clear HD HL HF HK
            have HD := n_HD
            have HL := n_HL
            have HF := n_HF
            have HK := n_HK
            clear n_HD n_HL n_HF n_HK hb_
            generalize w4.drew = w4 at HD HL HF HK hHeld ⊢
            refine pure_ (i := 0) (N := some 84) (v := ?_) (a' := ?_) #[true, false, false, false, false, false, false, false, false, false, false, false, false, false, false, false] rfl rfl (any_of HT_.out (by kernel_rfl)) (fun _ _ _ h => h) (Or.inl ⟨by rfl, ?_⟩) ?_ ?_
            rotate_left
            · intro w'
              go_simp
              with_reducible rfl
            rotate_left
            · simp only [Act.put, List.setIfInBounds_toArray, List.set_cons_zero, List.set_cons_succ, i64_w, i32_w]
              rfl
            refine pure_ (i := 1) (N := some 85) (v := ?_) (a' := ?_) #[true, true, false, false, false, false, false, false, false, false, false, false, false, false, false, false] rfl rfl (any_of HT_.out (by kernel_rfl)) (fun _ _ _ h => h) (Or.inl ⟨by rfl, ?_⟩) ?_ ?_
            rotate_left
            · intro w'
              go_simp
              with_reducible rfl
            rotate_left
            · simp only [Act.put, List.setIfInBounds_toArray, List.set_cons_zero, List.set_cons_succ, i64_w, i32_w]
              rfl
            refine pure_ (i := 2) (N := some 86) (v := ?_) (a' := ?_) #[true, true, true, false, false, false, false, false, false, false, false, false, false, false, false, false] rfl rfl (any_of HT_.out (by kernel_rfl)) (fun _ _ _ h => h) (Or.inl ⟨by rfl, ?_⟩) ?_ ?_
            rotate_left
            · intro w'
              go_simp
              with_reducible rfl
            rotate_left
            · simp only [Act.put, List.setIfInBounds_toArray, List.set_cons_zero, List.set_cons_succ, i64_w, i32_w]
              rfl
            refine pure_ (i := 4) (N := some 88) (v := ?_) (a' := ?_) #[true, true, true, false, true, false, false, false, false, false, false, false, false, false, false, false] rfl rfl (any_of HT_.out (by kernel_rfl)) (fun _ _ _ h => h) (Or.inl ⟨by rfl, ?_⟩) ?_ ?_
            rotate_left
            · intro w'
              go_simp
              with_reducible rfl
            rotate_left
            · simp only [Act.put, List.setIfInBounds_toArray, List.set_cons_zero, List.set_cons_succ, i64_w, i32_w]
              rfl
            refine pure_ (i := 5) (N := some 89) (v := ?_) (a' := ?_) #[true, true, true, false, true, true, false, false, false, false, false, false, false, false, false, false] rfl rfl (any_of HT_.out (by kernel_rfl)) (fun _ _ _ h => h) (Or.inl ⟨by rfl, ?_⟩) ?_ ?_
            rotate_left
            · intro w'
              go_simp
              with_reducible rfl
            rotate_left
            · simp only [Act.put, List.setIfInBounds_toArray, List.set_cons_zero, List.set_cons_succ, i64_w, i32_w]
              rfl
            refine pure_ (i := 6) (N := some 90) (v := ?_) (a' := ?_) #[true, true, true, false, true, true, true, false, false, false, false, false, false, false, false, false] rfl rfl (any_of HT_.out (by kernel_rfl)) (fun _ _ _ h => h) (Or.inl ⟨by rfl, ?_⟩) ?_ ?_
            rotate_left
            · intro w'
              have x2_ := X2.out
              go_simp
              with_reducible rfl
            rotate_left
            · simp only [Act.put, List.setIfInBounds_toArray, List.set_cons_zero, List.set_cons_succ, i64_w, i32_w]
              rfl
            refine pure_ (i := 8) (N := some 92) (v := ?_) (a' := ?_) #[true, true, true, false, true, true, true, false, true, false, false, false, false, false, false, false] rfl rfl (any_of HT_.out (by kernel_rfl)) (fun _ _ _ h => h) (Or.inl ⟨by rfl, ?_⟩) ?_ ?_
            rotate_left
            · intro w'
              go_simp
              with_reducible rfl
            rotate_left
            · simp only [Act.put, List.setIfInBounds_toArray, List.set_cons_zero, List.set_cons_succ, i64_w, i32_w]
              rfl
            refine pure_ (i := 9) (N := some 93) (v := ?_) (a' := ?_) #[true, true, true, false, true, true, true, false, true, true, false, false, false, false, false, false] rfl rfl (any_of HT_.out (by kernel_rfl)) (fun _ _ _ h => h) (Or.inl ⟨by rfl, ?_⟩) ?_ ?_
            rotate_left
            · intro w'
              go_simp
              with_reducible rfl
            rotate_left
            · simp only [Act.put, List.setIfInBounds_toArray, List.set_cons_zero, List.set_cons_succ, i64_w, i32_w]
              rfl
            refine pure_ (i := 10) (N := some 94) (v := ?_) (a' := ?_) #[true, true, true, false, true, true, true, false, true, true, true, false, false, false, false, false] rfl rfl (any_of HT_.out (by kernel_rfl)) (fun _ _ _ h => h) (Or.inl ⟨by rfl, ?_⟩) ?_ ?_
            rotate_left
            · intro w'
              go_simp
              with_reducible rfl
            rotate_left
            · simp only [Act.put, List.setIfInBounds_toArray, List.set_cons_zero, List.set_cons_succ, i64_w, i32_w]
              rfl
            refine take_ (i := 3) (N := some 87) (v := ?_) (a' := ?_) #[true, true, true, true, true, true, true, false, true, true, true, false, false, false, false, false] rfl rfl (take_ofW HT_.out HW_.out (by kernel_rfl)) (fun _ _ _ h => h) (Or.inl ⟨by rfl, ?_⟩) hHeld ?_ ?_
            rotate_left
            · intro w' s0
              obtain ⟨s0, s1⟩ := s0
              go_simp
              with_reducible rfl
            rotate_left
            · simp only [Act.put, List.setIfInBounds_toArray, List.set_cons_zero, List.set_cons_succ, i64_w, i32_w]
              rfl
            refine take_ (i := 7) (N := some 91) (v := (.agg #[.int .u64 m, .int .u64 r, .int .i64 (bl.length : Int), .int .i64 (i : Int), .slice (some ⟨ab, off, none⟩) a rcap])) #[true, true, true, true, true, true, true, true, true, true, true, false, false, false, false, false] rfl rfl (take_ofW HT_.out HW_.out (by kernel_rfl)) (fun _ _ _ h => h) (Or.inl ⟨by rfl, fun w' s0 => ?_⟩) hHeld rfl ?_
            · obtain ⟨s0, s1⟩ := s0
              exact load_row (p := .tmp 10) (ty := 65) (by rfl) (by rfl) s1 hu65 (by rfl) info65s
            refine norm_ (a' := ?_) ?_ ?_
            rotate_left
            · show Act.put _ (some 91) _ = _
              simp only [Act.put, List.setIfInBounds_toArray, List.set_cons_zero, List.set_cons_succ, i64_w, i32_w]
              rfl
            refine take_ (i := 11) (N := some 95) (v := ?_) (a' := ?_) #[true, true, true, true, true, true, true, true, true, true, true, true, false, false, false, false] rfl rfl (take_ofW HT_.out HW_.out (by kernel_rfl)) (fun _ _ _ h => h) (Or.inl ⟨by rfl, ?_⟩) hHeld ?_ ?_
            rotate_left
            · intro w' s0
              obtain ⟨s0, s1⟩ := s0
              go_simp
              with_reducible rfl
            rotate_left
            · simp only [Act.put, List.setIfInBounds_toArray, List.set_cons_zero, List.set_cons_succ, i64_w, i32_w]
              rfl
            refine one_ (i := 12) (N := some 96) #[true, true, true, true, true, true, true, true, true, true, true, true, true, false, false, false] rfl rfl (one_of HT_.out (by kernel_rfl)) (by decide) (fun K hK => ?_)
            refine goes_ Tryd.func18 (by kernel_rfl) rfl #[.pointer (some ⟨g, 0, none⟩)] (by rfl) rfl rfl (by first | rfl | (go_simp; done)) ?_
            refine (disk_Size.calls HD.out NN.out.1).mono ?_
            rintro e w5 ⟨rfl, ⟨nd, rfl⟩⟩
            refine ⟨_, rfl, ?_⟩
            have hb_ := pw_below_drewN (Below.refl w4.heap.size w4) nd
            have n_HD := Aside0.mk (HD.out.under hb_)
            have n_HL := Aside0.mk (blk_below HL.out hb_)
            have n_HF := Aside0.mk (HF.out.trans (DF.of_below hb_))
            have n_HK := Aside0.mk (blk_below HK.out hb_)
            clear HD HL HF HK
            have HD := n_HD
            have HL := n_HL
            have HF := n_HF
            have HK := n_HK
            clear n_HD n_HL n_HF n_HK hb_
            generalize w4.drewN nd = w4 at HD HL HF HK ⊢
            refine hK.out _ _ ⟨(blk_cell HL.out 0).trans rfl, HK.out⟩ (fun hHeld => ?_)
            clear hK K
            refine norm_ (a' := ?_) ?_ ?_
            rotate_left
            · show Act.put _ (some 96) _ = _
              simp only [Act.put, List.setIfInBounds_toArray, List.set_cons_zero, List.set_cons_succ, i64_w, i32_w]
              rfl
            refine one_ (i := 13) (N := some 97) #[true, true, true, true, true, true, true, true, true, true, true, true, true, true, false, false] rfl rfl (one_of HT_.out (by kernel_rfl)) (by decide) (fun K hK => ?_)
            refine goes_ Tryd.func36 (by kernel_rfl) rfl #[.agg #[.int .u64 m, .int .u64 r, .int .i64 (bl.length : Int), .int .i64 (i : Int), .slice (some ⟨ab, off, none⟩) a rcap], .int .i64 (s : Int)] (by rfl) rfl rfl (by first | rfl | (go_simp; done)) ?_
            have SR : ∀ (j : Nat) (x : Int), (rest.take (s - 36))[j]? = some x → w4.cell? ((⟨ab, off, none⟩ : Addr).add j) = some (.int .u8 x) := fun j x hx => by
              rw [add_at2]
              rw [List.getElem?_take] at hx
              split at hx
              · rw [RO.out.1, List.getElem?_drop] at hx
                exact cell_keep (SB.out (off + j) x hx) HF.out NAB.out
              · cases hx
            have hbc := block_bytes.calls w4 m r (bl.length : Int) (i : Int) ⟨ab, off, none⟩ (rest.take (s - 36)) rcap s SR (by rw [List.length_take]; omega) (by have := RG.out; omega) NN.out.2.2 RM.out.1 RM.out.2 (by have := BL.out; omega) (by have := CT.out; have := FN.out; omega)
            rw [TA.out] at hbc
            refine hbc.mono ?_
            clear hbc SR
            rintro e w5 ⟨c, rfl, hc, hcw, hb⟩
            refine ⟨_, rfl, ?_⟩
            have HC := Aside0.mk hc
            have LC := Aside0.mk hcw
            have hb_ := hb
            have n_HD := Aside0.mk (HD.out.under hb_)
            have n_HL := Aside0.mk (blk_below HL.out hb_)
            have n_HF := Aside0.mk (HF.out.trans (DF.of_below hb_))
            have n_HK := Aside0.mk (blk_below HK.out hb_)
            clear HD HL HF HK
            have HD := n_HD
            have HL := n_HL
            have HF := n_HF
            have HK := n_HK
            clear n_HD n_HL n_HF n_HK hb_
            clear hb hc hcw
            generalize w5 = w4 at HC HD HL HF HK ⊢
            refine hK.out _ _ ⟨(blk_cell HL.out 0).trans rfl, HK.out⟩ (fun hHeld => ?_)
            clear hK K
            refine norm_ (a' := ?_) ?_ ?_
            rotate_left
            · show Act.put _ (some 97) _ = _
              simp only [Act.put, List.setIfInBounds_toArray, List.set_cons_zero, List.set_cons_succ, i64_w, i32_w]
              rfl
            refine one_ (i := 14) (N := some 98) #[true, true, true, true, true, true, true, true, true, true, true, true, true, true, true, false] rfl rfl (one_of HT_.out (by kernel_rfl)) (by decide) (fun K hK => ?_)
            refine goes_ Tryd.func35 (by kernel_rfl) rfl #[.pointer (some ⟨g, 0, none⟩), .int .i64 (x1 : Int), .slice (some ⟨c, 0, none⟩) s s] (by rfl) rfl rfl (by first | rfl | (have x2_ := X2.out; go_simp; done)) ?_
            have hll := lgBlk_length (s := s) (m := m) (r := r) (ln := (bl.length : Int)) (i := (i : Int)) (b := rest.take (s - 36)) (by have := RG.out; omega) (by rw [List.length_take]; omega)
            have hwr := disk_Write.fell HD.out x1 p (B.getD x1 []) (by have := X1.out; have := FN.out; have := CT.out; omega) (by rw [List.getD_eq_getElem?_getD, List.getElem?_eq_getElem (by rw [HD.out.len]; have := X1.out; have := FN.out; have := CT.out; omega)]; rfl) rfl ⟨c, 0, none⟩ (lgBlk s m r (bl.length : Int) (i : Int) (rest.take (s - 36))) s (by rw [hll]; exact Nat.le_refl _) (fun j x hx => by rw [add_at]; exact (blk_cell HC.out j).trans (dkB_get hx)) hll kc PP.out.1 PP.out.2 (blk_ne HC.out HD.out.top (by decide))
            rw [hll] at hwr
            refine hwr.mono ?_
            clear hwr hll
            rintro e w5 ⟨rfl, hd1, hf1⟩
            refine ⟨_, rfl, ?_⟩
            have n_HL : Aside0 (w5.heap[lb]? = some (.cells #[.pointer (some ⟨g, 0, none⟩), (.slice la ll lc), .bool has, .int .u64 rc, .int .u64 m, .int .i64 (sl : Int)] 59 (0, 0))) := ⟨(hf1.block lb (blk_lt HL.out) (fun h => h.elim (fun h => blk_ne HL.out HD.out.top (by decide) h) (fun h => DK.lbne HD.out HL.out (by decide) h))).trans HL.out⟩
            have n_HK : Aside0 (w5.heap[xk]? = some (.cells #[.int .u64 m, .int .u64 r, .int .i64 (bl.length : Int), .int .i64 (i : Int), .slice (some ⟨ab, off, none⟩) a rcap] 65 (0, 0))) := ⟨(hf1.block xk (blk_lt HK.out) (fun h => h.elim (fun h => blk_ne HK.out HD.out.top (by decide) h) (fun h => DK.lbne HD.out HK.out (by decide) h))).trans HK.out⟩
            have n_HF := Aside0.mk (HF.out.trans (hf1.mono (S' := (fun k => k = g ∨ k ∈ hs ∨ k = lb)) (fun k h => h.elim Or.inl (fun h => Or.inr (Or.inl h)))))
            clear HD HL HK HF HC hf1
            have HD := Aside0.mk hd1
            have HL := n_HL
            have HK := n_HK
            have HF := n_HF
            clear n_HL n_HK n_HF hd1
            generalize w5 = w4 at HD HL HK HF ⊢
            refine hK.out _ _ ⟨(blk_cell HL.out 0).trans rfl, HK.out⟩ (fun hHeld => ?_)
            clear hK K
            refine norm_ (a' := ?_) ?_ ?_
            rotate_left
            · show Act.put _ (some 98) _ = _
              simp only [Act.put, List.setIfInBounds_toArray, List.set_cons_zero, List.set_cons_succ, i64_w, i32_w]
              rfl
            refine pure_ (i := 15) (N := some 11) (v := ?_) (a' := ?_) #[true, true, true, true, true, true, true, true, true, true, true, true, true, true, true, true] rfl rfl (any_of HT_.out (by kernel_rfl)) (fun _ _ _ h => h) (Or.inl ⟨by rfl, ?_⟩) ?_ ?_
            rotate_left
            · intro w'
              go_simp
              with_reducible rfl
            rotate_left
            · simp only [Act.put, List.setIfInBounds_toArray, List.set_cons_zero, List.set_cons_succ, i64_w, i32_w]
              rfl
            refine done_ (done_of HT_.out (by kernel_rfl)) ?_
            clear HT_ HW_ hHeld

            clear ga gb gc gd
            go_wp2
            (try simp only [Exit.inBlock, Exit.then])
            go_ret
            refine ⟨?_, HF.out, fun _ => ⟨rfl, by rw [← MM.out.1]; exact HL.out⟩, fun h => by cases h⟩
            have h1 := HD.out
            rw [X1.out] at h1
            exact h1
          · have HA3 := HA2.out
            rw [if_neg kc] at HA3
            have HA4 := Aside0.mk HA3
            clear HA3
            go_upto_region 15 with (fail)
            refine start_ (n := 16) (S := fun w' => w'.cell? ⟨lb, 0, none⟩ = some (.pointer (some ⟨g, 0, none⟩)) ∧ w'.heap[xk]? = some (.cells #[.int .u64 m, .int .u64 r, .int .i64 (bl.length : Int), .int .i64 (i : Int), .slice (some ⟨ab, off, none⟩) a rcap] 65 (0, 0))) (ds := []) #[false, false, false, false, false, false, false, false, false, false, false, false, false, false, false, false] (by kernel_rfl) rfl rfl ⟨(blk_cell HL.out 0).trans rfl, HK.out⟩ (fun hHeld => ?_)
            refine with_tabW log_Append.R15.tab log_Append.R15.bits (fun HT_ HW_ => ?_)
            have hb_ := below_drew1 (Below.refl w4.heap.size w4)
            have n_HD := Aside0.mk (HD.out.under hb_)
            have n_HL := Aside0.mk (blk_below HL.out hb_)
            have n_HF := Aside0.mk (HF.out.trans (DF.of_below hb_))
            have n_HK := Aside0.mk (blk_below HK.out hb_)
            clear HD HL HF HK
            have HD := n_HD
            have HL := n_HL
            have HF := n_HF
            have HK := n_HK
            clear n_HD n_HL n_HF n_HK hb_
            generalize w4.drew = w4 at HD HL HF HK hHeld ⊢
            refine pure_ (i := 0) (N := some 84) (v := ?_) (a' := ?_) #[true, false, false, false, false, false, false, false, false, false, false, false, false, false, false, false] rfl rfl (any_of HT_.out (by kernel_rfl)) (fun _ _ _ h => h) (Or.inl ⟨by rfl, ?_⟩) ?_ ?_
            rotate_left
            · intro w'
              go_simp
              with_reducible rfl
            rotate_left
            · simp only [Act.put, List.setIfInBounds_toArray, List.set_cons_zero, List.set_cons_succ, i64_w, i32_w]
              rfl
            refine pure_ (i := 1) (N := some 85) (v := ?_) (a' := ?_) #[true, true, false, false, false, false, false, false, false, false, false, false, false, false, false, false] rfl rfl (any_of HT_.out (by kernel_rfl)) (fun _ _ _ h => h) (Or.inl ⟨by rfl, ?_⟩) ?_ ?_
            rotate_left
            · intro w'
              go_simp
              with_reducible rfl
            rotate_left
            · simp only [Act.put, List.setIfInBounds_toArray, List.set_cons_zero, List.set_cons_succ, i64_w, i32_w]
              rfl
            refine pure_ (i := 2) (N := some 86) (v := ?_) (a' := ?_) #[true, true, true, false, false, false, false, false, false, false, false, false, false, false, false, false] rfl rfl (any_of HT_.out (by kernel_rfl)) (fun _ _ _ h => h) (Or.inl ⟨by rfl, ?_⟩) ?_ ?_
            rotate_left
            · intro w'
              go_simp
              with_reducible rfl
            rotate_left
            · simp only [Act.put, List.setIfInBounds_toArray, List.set_cons_zero, List.set_cons_succ, i64_w, i32_w]
              rfl
            refine pure_ (i := 4) (N := some 88) (v := ?_) (a' := ?_) #[true, true, true, false, true, false, false, false, false, false, false, false, false, false, false, false] rfl rfl (any_of HT_.out (by kernel_rfl)) (fun _ _ _ h => h) (Or.inl ⟨by rfl, ?_⟩) ?_ ?_
            rotate_left
            · intro w'
              go_simp
              with_reducible rfl
            rotate_left
            · simp only [Act.put, List.setIfInBounds_toArray, List.set_cons_zero, List.set_cons_succ, i64_w, i32_w]
              rfl
            refine pure_ (i := 5) (N := some 89) (v := ?_) (a' := ?_) #[true, true, true, false, true, true, false, false, false, false, false, false, false, false, false, false] rfl rfl (any_of HT_.out (by kernel_rfl)) (fun _ _ _ h => h) (Or.inl ⟨by rfl, ?_⟩) ?_ ?_
            rotate_left
            · intro w'
              go_simp
              with_reducible rfl
            rotate_left
            · simp only [Act.put, List.setIfInBounds_toArray, List.set_cons_zero, List.set_cons_succ, i64_w, i32_w]
              rfl
            refine pure_ (i := 6) (N := some 90) (v := ?_) (a' := ?_) #[true, true, true, false, true, true, true, false, false, false, false, false, false, false, false, false] rfl rfl (any_of HT_.out (by kernel_rfl)) (fun _ _ _ h => h) (Or.inl ⟨by rfl, ?_⟩) ?_ ?_
            rotate_left
            · intro w'
              have x2_ := X2.out
              go_simp
              with_reducible rfl
            rotate_left
            · simp only [Act.put, List.setIfInBounds_toArray, List.set_cons_zero, List.set_cons_succ, i64_w, i32_w]
              rfl
            refine pure_ (i := 8) (N := some 92) (v := ?_) (a' := ?_) #[true, true, true, false, true, true, true, false, true, false, false, false, false, false, false, false] rfl rfl (any_of HT_.out (by kernel_rfl)) (fun _ _ _ h => h) (Or.inl ⟨by rfl, ?_⟩) ?_ ?_
            rotate_left
            · intro w'
              go_simp
              with_reducible rfl
            rotate_left
            · simp only [Act.put, List.setIfInBounds_toArray, List.set_cons_zero, List.set_cons_succ, i64_w, i32_w]
              rfl
            refine pure_ (i := 9) (N := some 93) (v := ?_) (a' := ?_) #[true, true, true, false, true, true, true, false, true, true, false, false, false, false, false, false] rfl rfl (any_of HT_.out (by kernel_rfl)) (fun _ _ _ h => h) (Or.inl ⟨by rfl, ?_⟩) ?_ ?_
            rotate_left
            · intro w'
              go_simp
              with_reducible rfl
            rotate_left
            · simp only [Act.put, List.setIfInBounds_toArray, List.set_cons_zero, List.set_cons_succ, i64_w, i32_w]
              rfl
            refine pure_ (i := 10) (N := some 94) (v := ?_) (a' := ?_) #[true, true, true, false, true, true, true, false, true, true, true, false, false, false, false, false] rfl rfl (any_of HT_.out (by kernel_rfl)) (fun _ _ _ h => h) (Or.inl ⟨by rfl, ?_⟩) ?_ ?_
            rotate_left
            · intro w'
              go_simp
              with_reducible rfl
            rotate_left
            · simp only [Act.put, List.setIfInBounds_toArray, List.set_cons_zero, List.set_cons_succ, i64_w, i32_w]
              rfl
            refine take_ (i := 3) (N := some 87) (v := ?_) (a' := ?_) #[true, true, true, true, true, true, true, false, true, true, true, false, false, false, false, false] rfl rfl (take_ofW HT_.out HW_.out (by kernel_rfl)) (fun _ _ _ h => h) (Or.inl ⟨by rfl, ?_⟩) hHeld ?_ ?_
            rotate_left
            · intro w' s0
              obtain ⟨s0, s1⟩ := s0
              go_simp
              with_reducible rfl
            rotate_left
            · simp only [Act.put, List.setIfInBounds_toArray, List.set_cons_zero, List.set_cons_succ, i64_w, i32_w]
              rfl
            refine take_ (i := 7) (N := some 91) (v := (.agg #[.int .u64 m, .int .u64 r, .int .i64 (bl.length : Int), .int .i64 (i : Int), .slice (some ⟨ab, off, none⟩) a rcap])) #[true, true, true, true, true, true, true, true, true, true, true, false, false, false, false, false] rfl rfl (take_ofW HT_.out HW_.out (by kernel_rfl)) (fun _ _ _ h => h) (Or.inl ⟨by rfl, fun w' s0 => ?_⟩) hHeld rfl ?_
            · obtain ⟨s0, s1⟩ := s0
              exact load_row (p := .tmp 10) (ty := 65) (by rfl) (by rfl) s1 hu65 (by rfl) info65s
            refine norm_ (a' := ?_) ?_ ?_
            rotate_left
            · show Act.put _ (some 91) _ = _
              simp only [Act.put, List.setIfInBounds_toArray, List.set_cons_zero, List.set_cons_succ, i64_w, i32_w]
              rfl
            refine take_ (i := 11) (N := some 95) (v := ?_) (a' := ?_) #[true, true, true, true, true, true, true, true, true, true, true, true, false, false, false, false] rfl rfl (take_ofW HT_.out HW_.out (by kernel_rfl)) (fun _ _ _ h => h) (Or.inl ⟨by rfl, ?_⟩) hHeld ?_ ?_
            rotate_left
            · intro w' s0
              obtain ⟨s0, s1⟩ := s0
              go_simp
              with_reducible rfl
            rotate_left
            · simp only [Act.put, List.setIfInBounds_toArray, List.set_cons_zero, List.set_cons_succ, i64_w, i32_w]
              rfl
            refine one_ (i := 12) (N := some 96) #[true, true, true, true, true, true, true, true, true, true, true, true, true, false, false, false] rfl rfl (one_of HT_.out (by kernel_rfl)) (by decide) (fun K hK => ?_)
            refine goes_ Tryd.func18 (by kernel_rfl) rfl #[.pointer (some ⟨g, 0, none⟩)] (by rfl) rfl rfl (by first | rfl | (go_simp; done)) ?_
            refine (disk_Size.calls HD.out NN.out.1).mono ?_
            rintro e w5 ⟨rfl, ⟨nd, rfl⟩⟩
            refine ⟨_, rfl, ?_⟩
            have hb_ := pw_below_drewN (Below.refl w4.heap.size w4) nd
            have n_HD := Aside0.mk (HD.out.under hb_)
            have n_HL := Aside0.mk (blk_below HL.out hb_)
            have n_HF := Aside0.mk (HF.out.trans (DF.of_below hb_))
            have n_HK := Aside0.mk (blk_below HK.out hb_)
            clear HD HL HF HK
            have HD := n_HD
            have HL := n_HL
            have HF := n_HF
            have HK := n_HK
            clear n_HD n_HL n_HF n_HK hb_
            generalize w4.drewN nd = w4 at HD HL HF HK ⊢
            refine hK.out _ _ ⟨(blk_cell HL.out 0).trans rfl, HK.out⟩ (fun hHeld => ?_)
            clear hK K
            refine norm_ (a' := ?_) ?_ ?_
            rotate_left
            · show Act.put _ (some 96) _ = _
              simp only [Act.put, List.setIfInBounds_toArray, List.set_cons_zero, List.set_cons_succ, i64_w, i32_w]
              rfl
            refine one_ (i := 13) (N := some 97) #[true, true, true, true, true, true, true, true, true, true, true, true, true, true, false, false] rfl rfl (one_of HT_.out (by kernel_rfl)) (by decide) (fun K hK => ?_)
            refine goes_ Tryd.func36 (by kernel_rfl) rfl #[.agg #[.int .u64 m, .int .u64 r, .int .i64 (bl.length : Int), .int .i64 (i : Int), .slice (some ⟨ab, off, none⟩) a rcap], .int .i64 (s : Int)] (by rfl) rfl rfl (by first | rfl | (go_simp; done)) ?_
            have SR : ∀ (j : Nat) (x : Int), (rest.take (s - 36))[j]? = some x → w4.cell? ((⟨ab, off, none⟩ : Addr).add j) = some (.int .u8 x) := fun j x hx => by
              rw [add_at2]
              rw [List.getElem?_take] at hx
              split at hx
              · rw [RO.out.1, List.getElem?_drop] at hx
                exact cell_keep (SB.out (off + j) x hx) HF.out NAB.out
              · cases hx
            have hbc := block_bytes.calls w4 m r (bl.length : Int) (i : Int) ⟨ab, off, none⟩ (rest.take (s - 36)) rcap s SR (by rw [List.length_take]; omega) (by have := RG.out; omega) NN.out.2.2 RM.out.1 RM.out.2 (by have := BL.out; omega) (by have := CT.out; have := FN.out; omega)
            rw [TA.out] at hbc
            refine hbc.mono ?_
            clear hbc SR
            rintro e w5 ⟨c, rfl, hc, hcw, hb⟩
            refine ⟨_, rfl, ?_⟩
            have HC := Aside0.mk hc
            have LC := Aside0.mk hcw
            have hb_ := hb
            have n_HD := Aside0.mk (HD.out.under hb_)
            have n_HL := Aside0.mk (blk_below HL.out hb_)
            have n_HF := Aside0.mk (HF.out.trans (DF.of_below hb_))
            have n_HK := Aside0.mk (blk_below HK.out hb_)
            clear HD HL HF HK
            have HD := n_HD
            have HL := n_HL
            have HF := n_HF
            have HK := n_HK
            clear n_HD n_HL n_HF n_HK hb_
            clear hb hc hcw
            generalize w5 = w4 at HC HD HL HF HK ⊢
            refine hK.out _ _ ⟨(blk_cell HL.out 0).trans rfl, HK.out⟩ (fun hHeld => ?_)
            clear hK K
            refine norm_ (a' := ?_) ?_ ?_
            rotate_left
            · show Act.put _ (some 97) _ = _
              simp only [Act.put, List.setIfInBounds_toArray, List.set_cons_zero, List.set_cons_succ, i64_w, i32_w]
              rfl
            refine one_ (i := 14) (N := some 98) #[true, true, true, true, true, true, true, true, true, true, true, true, true, true, true, false] rfl rfl (one_of HT_.out (by kernel_rfl)) (by decide) (fun K hK => ?_)
            refine goes_ Tryd.func35 (by kernel_rfl) rfl #[.pointer (some ⟨g, 0, none⟩), .int .i64 (x1 : Int), .slice (some ⟨c, 0, none⟩) s s] (by rfl) rfl rfl (by first | rfl | (have x2_ := X2.out; go_simp; done)) ?_
            have hll := lgBlk_length (s := s) (m := m) (r := r) (ln := (bl.length : Int)) (i := (i : Int)) (b := rest.take (s - 36)) (by have := RG.out; omega) (by rw [List.length_take]; omega)
            have hwr := disk_Write.ok HD.out x1 (by have := X1.out; have := FN.out; have := CT.out; omega) rfl ⟨c, 0, none⟩ (lgBlk s m r (bl.length : Int) (i : Int) (rest.take (s - 36))) s (by rw [hll]; exact Nat.le_refl _) (fun j x hx => by rw [add_at]; exact (blk_cell HC.out j).trans (dkB_get hx)) hll kc CR.out (blk_ne HC.out HD.out.top (by decide))
            rw [hll] at hwr
            refine hwr.mono ?_
            clear hwr hll
            rintro e w5 ⟨rfl, hd1, hf1⟩
            refine ⟨_, rfl, ?_⟩
            have n_HL : Aside0 (w5.heap[lb]? = some (.cells #[.pointer (some ⟨g, 0, none⟩), (.slice la ll lc), .bool has, .int .u64 rc, .int .u64 m, .int .i64 (sl : Int)] 59 (0, 0))) := ⟨(hf1.block lb (blk_lt HL.out) (fun h => h.elim (fun h => blk_ne HL.out HD.out.top (by decide) h) (fun h => DK.lbne HD.out HL.out (by decide) h))).trans HL.out⟩
            have n_HK : Aside0 (w5.heap[xk]? = some (.cells #[.int .u64 m, .int .u64 r, .int .i64 (bl.length : Int), .int .i64 (i : Int), .slice (some ⟨ab, off, none⟩) a rcap] 65 (0, 0))) := ⟨(hf1.block xk (blk_lt HK.out) (fun h => h.elim (fun h => blk_ne HK.out HD.out.top (by decide) h) (fun h => DK.lbne HD.out HK.out (by decide) h))).trans HK.out⟩
            have n_HF := Aside0.mk (HF.out.trans (hf1.mono (S' := (fun k => k = g ∨ k ∈ hs ∨ k = lb)) (fun k h => h.elim Or.inl (fun h => Or.inr (Or.inl h)))))
            clear HD HL HK HF HC hf1
            have HD := Aside0.mk hd1
            have HL := n_HL
            have HK := n_HK
            have HF := n_HF
            clear n_HL n_HK n_HF hd1
            generalize w5 = w4 at HD HL HK HF ⊢
            refine hK.out _ _ ⟨(blk_cell HL.out 0).trans rfl, HK.out⟩ (fun hHeld => ?_)
            clear hK K
            refine norm_ (a' := ?_) ?_ ?_
            rotate_left
            · show Act.put _ (some 98) _ = _
              simp only [Act.put, List.setIfInBounds_toArray, List.set_cons_zero, List.set_cons_succ, i64_w, i32_w]
              rfl
            refine pure_ (i := 15) (N := some 11) (v := ?_) (a' := ?_) #[true, true, true, true, true, true, true, true, true, true, true, true, true, true, true, true] rfl rfl (any_of HT_.out (by kernel_rfl)) (fun _ _ _ h => h) (Or.inl ⟨by rfl, ?_⟩) ?_ ?_
            rotate_left
            · intro w'
              go_simp
              with_reducible rfl
            rotate_left
            · simp only [Act.put, List.setIfInBounds_toArray, List.set_cons_zero, List.set_cons_succ, i64_w, i32_w]
              rfl
            refine done_ (done_of HT_.out (by kernel_rfl)) ?_
            clear HT_ HW_ hHeld

            have h1a : (a ≤ rl) = True := eq_true (by have := RL.out; omega)
            have h1b : (((a : Nat) : Int) ≤ ((rl : Nat) : Int)) = True := eq_true (by have := RL.out; omega)
            have h1c : (((rl : Nat) : Int) < ((a : Nat) : Int)) = False := eq_false (by have := RL.out; omega)
            have h1d : (rl < a) = False := eq_false (by have := RL.out; omega)
            have h2a : (rl ≤ rcap) = True := eq_true (by have := RL.out; omega)
            have h2b : (((rl : Nat) : Int) ≤ ((rcap : Nat) : Int)) = True := eq_true (by have := RL.out; omega)
            have h2c : (((rcap : Nat) : Int) < ((rl : Nat) : Int)) = False := eq_false (by have := RL.out; omega)
            have h2d : (rcap < rl) = False := eq_false (by have := RL.out; omega)
            by_cases kz : a = rcap
            · have kz1 : (a = rcap) = True := eq_true kz
              have kz2 : (rcap = a) = True := eq_true kz.symm
              have KZ := Aside0.mk kz
              clear kz
              go_wp2
              have e3 : wrap64 ((i : Int) + 1) = (i : Int) + 1 := by unfold wrap64; have := KQ.out; omega
              go_roundg f
              case measure => have := HGK.out; omega
              case rel =>
                have h1_ := TA.out
                rw [List.length_take] at h1_
                have hdl : (rest.drop (s - 36)).length = rl - a := by rw [List.length_drop]; have := RL.out; omega
                refine ⟨i + 1, off + (s - 36), rest.drop (s - 36), ⟨ab, off, none⟩, rcap - a, _, _, by first | rfl | (simp [e3]; done) | (simp only [e3]; rfl) | (push_cast; rfl), by rw [hdl], ⟨HA4.out⟩, ⟨by rw [← X1.out]; exact HD.out⟩, ⟨HL.out⟩, ⟨HF.out⟩, ⟨by rw [← List.drop_drop, ← RO.out.1], by rw [RO.out.2.1, Nat.add_mul, Nat.one_mul], by rw [hdl]; have := RL.out; omega, Or.inr ⟨List.eq_nil_of_length_eq_zero (by rw [hdl]; have := RL.out; have := KZ.out; omega), Nat.succ_pos i⟩⟩, ⟨by have := CR.out; split <;> omega⟩, ⟨by have := KQ.out; have := HGK.out; omega⟩⟩
            · have kz1 : (a = rcap) = False := eq_false kz
              have kz2 : (rcap = a) = False := eq_false (fun h => kz h.symm)
              clear kz
              go_wp2
              have e3 : wrap64 ((i : Int) + 1) = (i : Int) + 1 := by unfold wrap64; have := KQ.out; omega
              go_roundg f
              case measure => have := HGK.out; omega
              case rel =>
                have h1_ := TA.out
                rw [List.length_take] at h1_
                have hdl : (rest.drop (s - 36)).length = rl - a := by rw [List.length_drop]; have := RL.out; omega
                refine ⟨i + 1, off + (s - 36), rest.drop (s - 36), ⟨ab, off + a, none⟩, rcap - a, _, _, by first | rfl | (simp [e3]; done) | (simp only [e3]; rfl) | (push_cast; rfl), by rw [hdl], ⟨HA4.out⟩, ⟨by rw [← X1.out]; exact HD.out⟩, ⟨HL.out⟩, ⟨HF.out⟩, ⟨by rw [← List.drop_drop, ← RO.out.1], by rw [RO.out.2.1, Nat.add_mul, Nat.one_mul], by rw [hdl]; have := RL.out; omega, by
                  by_cases hz : a = s - 36
                  · rw [hz]
                    exact Or.inl rfl
                  · exact Or.inr ⟨List.eq_nil_of_length_eq_zero (by rw [hdl]; have := RL.out; omega), Nat.succ_pos i⟩⟩, ⟨by have := CR.out; split <;> omega⟩, ⟨by have := KQ.out; have := HGK.out; omega⟩⟩
      · rw [if_neg kl] at HA1
        obtain rfl := Option.some.inj HA1
        have hi0 : i ≠ 0 := fun h => kl (Or.inl h)
        have hr0 : rest.length = 0 := by
          rcases Nat.eq_zero_or_pos rest.length with h1 | h1
          · exact h1
          · exact absurd (Or.inr (List.length_pos_iff.1 h1)) kl
        have k1 : ((i : Int) == 0) = false := by simp; omega
        have k2 : ((i : Int) = 0) = False := eq_false (by omega)
        have k3 : (i = 0) = False := eq_false (by omega)
        have k5 : ((0 : Int) < (rest.length : Int)) = False := eq_false (by omega)
        have k6 : decide ((0 : Int) < (rest.length : Int)) = false := decide_eq_false (by omega)
        have k7 : (0 < rest.length) = False := eq_false (by omega)
        have ur := UR.out
        clear HA1 kl hi0 hr0
        go_upto_region 19 with (fail)
        refine start_ (n := 25) (S := fun w' => w'.cell? ⟨lb, 3, none⟩ = some (.int .u64 rc)) (ds := [21, 24]) #[false, false, false, false, false, false, false, false, false, false, false, false, false, false, false, false, false, false, false, false, false, false, false, false, false] (by kernel_rfl) rfl rfl ((blk_cell HL.out 3).trans rfl) (fun hHeld => ?_)
        refine with_tabW log_Append.R19.tab log_Append.R19.bits (fun HT_ HW_ => ?_)
        have hb_ := below_drew1 (Below.refl w4.heap.size w4)
        have n_HD := Aside0.mk (HD.out.under hb_)
        have n_HL := Aside0.mk (blk_below HL.out hb_)
        have n_HF := Aside0.mk (HF.out.trans (DF.of_below hb_))
        clear HD HL HF
        have HD := n_HD
        have HL := n_HL
        have HF := n_HF
        clear n_HD n_HL n_HF hb_
        generalize w4.drew = w4 at HD HL HF hHeld ⊢
        refine pure_ (i := 0) (N := some 105) (v := ?_) (a' := ?_) #[true, false, false, false, false, false, false, false, false, false, false, false, false, false, false, false, false, false, false, false, false, false, false, false, false] rfl rfl (any_of HT_.out (by kernel_rfl)) (fun _ _ _ h => h) (Or.inl ⟨by rfl, ?_⟩) ?_ ?_
        rotate_left
        · intro w'
          go_simp
          with_reducible rfl
        rotate_left
        · simp only [Act.put, List.setIfInBounds_toArray, List.set_cons_zero, List.set_cons_succ, i64_w, i32_w]
          rfl
        refine pure_ (i := 1) (N := some 106) (v := ?_) (a' := ?_) #[true, true, false, false, false, false, false, false, false, false, false, false, false, false, false, false, false, false, false, false, false, false, false, false, false] rfl rfl (any_of HT_.out (by kernel_rfl)) (fun _ _ _ h => h) (Or.inl ⟨by rfl, ?_⟩) ?_ ?_
        rotate_left
        · intro w'
          go_simp
          with_reducible rfl
        rotate_left
        · simp only [Act.put, List.setIfInBounds_toArray, List.set_cons_zero, List.set_cons_succ, i64_w, i32_w]
          rfl
        refine pure_ (i := 2) (N := some 107) (v := ?_) (a' := ?_) #[true, true, true, false, false, false, false, false, false, false, false, false, false, false, false, false, false, false, false, false, false, false, false, false, false] rfl rfl (any_of HT_.out (by kernel_rfl)) (fun _ _ _ h => h) (Or.inl ⟨by rfl, ?_⟩) ?_ ?_
        rotate_left
        · intro w'
          go_simp
          with_reducible rfl
        rotate_left
        · simp only [Act.put, List.setIfInBounds_toArray, List.set_cons_zero, List.set_cons_succ, i64_w, i32_w]
          rfl
        refine pure_ (i := 3) (N := some 108) (v := ?_) (a' := ?_) #[true, true, true, true, false, false, false, false, false, false, false, false, false, false, false, false, false, false, false, false, false, false, false, false, false] rfl rfl (any_of HT_.out (by kernel_rfl)) (fun _ _ _ h => h) (Or.inl ⟨by rfl, ?_⟩) ?_ ?_
        rotate_left
        · intro w'
          go_simp
          with_reducible rfl
        rotate_left
        · simp only [Act.put, List.setIfInBounds_toArray, List.set_cons_zero, List.set_cons_succ, i64_w, i32_w]
          rfl
        refine pure_ (i := 5) (N := some 110) (v := ?_) (a' := ?_) #[true, true, true, true, false, true, false, false, false, false, false, false, false, false, false, false, false, false, false, false, false, false, false, false, false] rfl rfl (any_of HT_.out (by kernel_rfl)) (fun _ _ _ h => h) (Or.inl ⟨by rfl, ?_⟩) ?_ ?_
        rotate_left
        · intro w'
          go_simp
          with_reducible rfl
        rotate_left
        · simp only [Act.put, List.setIfInBounds_toArray, List.set_cons_zero, List.set_cons_succ, i64_w, i32_w]
          rfl
        refine pure_ (i := 7) (N := some 112) (v := ?_) (a' := ?_) #[true, true, true, true, false, true, false, true, false, false, false, false, false, false, false, false, false, false, false, false, false, false, false, false, false] rfl rfl (any_of HT_.out (by kernel_rfl)) (fun _ _ _ h => h) (Or.inl ⟨by rfl, ?_⟩) ?_ ?_
        rotate_left
        · intro w'
          go_simp
          with_reducible rfl
        rotate_left
        · simp only [Act.put, List.setIfInBounds_toArray, List.set_cons_zero, List.set_cons_succ, i64_w, i32_w]
          rfl
        refine pure_ (i := 8) (N := some 113) (v := ?_) (a' := ?_) #[true, true, true, true, false, true, false, true, true, false, false, false, false, false, false, false, false, false, false, false, false, false, false, false, false] rfl rfl (any_of HT_.out (by kernel_rfl)) (fun _ _ _ h => h) (Or.inl ⟨by rfl, ?_⟩) ?_ ?_
        rotate_left
        · intro w'
          go_simp
          with_reducible rfl
        rotate_left
        · simp only [Act.put, List.setIfInBounds_toArray, List.set_cons_zero, List.set_cons_succ, i64_w, i32_w]
          rfl
        refine pure_ (i := 9) (N := some 114) (v := ?_) (a' := ?_) #[true, true, true, true, false, true, false, true, true, true, false, false, false, false, false, false, false, false, false, false, false, false, false, false, false] rfl rfl (any_of HT_.out (by kernel_rfl)) (fun _ _ _ h => h) (Or.inl ⟨by rfl, ?_⟩) ?_ ?_
        rotate_left
        · intro w'
          go_simp
          with_reducible rfl
        rotate_left
        · simp only [Act.put, List.setIfInBounds_toArray, List.set_cons_zero, List.set_cons_succ, i64_w, i32_w]
          rfl
        refine pure_ (i := 12) (N := some 117) (v := ?_) (a' := ?_) #[true, true, true, true, false, true, false, true, true, true, false, false, true, false, false, false, false, false, false, false, false, false, false, false, false] rfl rfl (any_of HT_.out (by kernel_rfl)) (fun _ _ _ h => h) (Or.inl ⟨by rfl, ?_⟩) ?_ ?_
        rotate_left
        · intro w'
          go_simp
          with_reducible rfl
        rotate_left
        · simp only [Act.put, List.setIfInBounds_toArray, List.set_cons_zero, List.set_cons_succ, i64_w, i32_w]
          rfl
        refine take_ (i := 10) (N := some 115) (v := ?_) (a' := ?_) #[true, true, true, true, false, true, false, true, true, true, true, false, true, false, false, false, false, false, false, false, false, false, false, false, false] rfl rfl (take_ofW HT_.out HW_.out (by kernel_rfl)) (fun _ _ _ h => h) (Or.inl ⟨by rfl, ?_⟩) hHeld ?_ ?_
        rotate_left
        · intro w' s0
          go_simp
          with_reducible rfl
        rotate_left
        · simp only [Act.put, List.setIfInBounds_toArray, List.set_cons_zero, List.set_cons_succ, i64_w, i32_w]
          rfl
        refine pure_ (i := 11) (N := some 116) (v := ?_) (a' := ?_) #[true, true, true, true, false, true, false, true, true, true, true, true, true, false, false, false, false, false, false, false, false, false, false, false, false] rfl rfl (any_of HT_.out (by kernel_rfl)) (fun _ _ _ h => h) (Or.inl ⟨by rfl, ?_⟩) ?_ ?_
        rotate_left
        · intro w'
          go_simp
          with_reducible rfl
        rotate_left
        · simp only [Act.put, List.setIfInBounds_toArray, List.set_cons_zero, List.set_cons_succ, i64_w, i32_w]
          rfl
        refine one_ (i := 4) (N := some 109) #[true, true, true, true, true, true, false, true, true, true, true, true, true, false, false, false, false, false, false, false, false, false, false, false, false] rfl rfl (one_of HT_.out (by kernel_rfl)) (by decide) (fun K hK => ?_)
        refine value_ (v := .slice (some ⟨w4.heap.size, 0, none⟩) 0 0) (w1 := w4.alloc (.cells #[] 5)) (by rfl) rfl (by first | (go_simp; done) | (go_simp; rfl)) ?_
        have HV : Aside0 ((w4.alloc (.cells #[] 5)).ownsRow w.heap.size 5 1 (.slice (some ⟨w4.heap.size, 0, none⟩) 0 0) 0 []) := ⟨World.ownsRow_lit w4 #[] 0 HF.out.size (by decide) rfl⟩
        obtain ⟨xe, hxe⟩ : ∃ x_, x_ = w4.heap.size := ⟨_, rfl⟩
        rw [← hxe] at HV ⊢
        clear hxe
        have hb_ := below_alloc (Below.refl w4.heap.size w4) (.cells #[] 5)
        have n_HD := Aside0.mk (HD.out.under hb_)
        have n_HL := Aside0.mk (blk_below HL.out hb_)
        have n_HF := Aside0.mk (HF.out.trans (DF.of_below hb_))
        clear HD HL HF
        have HD := n_HD
        have HL := n_HL
        have HF := n_HF
        clear n_HD n_HL n_HF hb_
        generalize w4.alloc (.cells #[] 5) = w4 at HV HD HL HF ⊢
        refine hK.out _ _ ((blk_cell HL.out 3).trans rfl) (fun hHeld => ?_)
        clear hK K
        refine norm_ (a' := ?_) ?_ ?_
        rotate_left
        · show Act.put _ (some 109) _ = _
          simp only [Act.put, List.setIfInBounds_toArray, List.set_cons_zero, List.set_cons_succ, i64_w, i32_w]
          rfl
        refine one_ (i := 6) (N := some 111) #[true, true, true, true, true, true, true, true, true, true, true, true, true, false, false, false, false, false, false, false, false, false, false, false, false] rfl rfl (one_of HT_.out (by kernel_rfl)) (by decide) (fun K hK => ?_)
        obtain ⟨i5, hi5, hz5, hs5, hb5⟩ := info_parts info5
        obtain ⟨v2, w5, hcp, hown, hgr, _, _⟩ := run_append_own_at (P := Tryd.prog) w4 w.heap.size 22 22 5 i5 (.int .u8 0) 1 1 Tryd.underlying22 hi5 hz5 hs5 hb5 rfl (by decide) (.slice (some ⟨xe, 0, none⟩) 0 0) 0 [] HV.out ⟨ab, 0, none⟩ bl.length cap (nums .u8 bl) (by rw [nums_length, Nat.mul_one]) (fun j u hu => by
          unfold nums at hu
          rw [List.getElem?_map] at hu
          cases h2 : bl[j]? with
          | none => rw [h2] at hu; cases hu
          | some x =>
            rw [h2] at hu
            obtain rfl : Value.int .u8 x = u := Option.some.inj hu
            rw [add_at]
            exact cell_keep (SB.out j x h2) HF.out NAB.out) (fun u hu => by
          obtain ⟨x, _, rfl⟩ := List.mem_map.1 hu
          rfl) (by have := BL.out; simp only [maxLen]; omega) (by have := BL.out; omega) HF.out.size
        rw [Nat.zero_add, List.nil_append] at hown
        refine value_ (v := v2) (w1 := w5) (by rfl) rfl (exec_append rfl (by rfl) (by rfl) hcp) ?_
        obtain ⟨A2, c2, rfl⟩ := own_slice hown
        have hxe5 : ∀ k, k < w.heap.size → some k ≠ (Value.slice (some ⟨xe, 0, none⟩) 0 0).ownBlock := fun k hk e => by
          have := own_base HV.out k e.symm
          omega
        have n_HL := Aside0.mk ((hgr.block lb (blk_lt HL.out) (own_ne HV.out HL.out (by decide))).trans HL.out)
        have n_HD := Aside0.mk (DK.grown HD.out hgr HDL.out hxe5 HV.out)
        have n_HF := Aside0.mk (DF.grown HF.out hgr hxe5)
        clear HL HD HF HV hcp hgr hxe5
        have HL := n_HL
        have HD := n_HD
        have HF := n_HF
        have HV := Aside0.mk hown
        clear n_HL n_HD n_HF hown hi5 hz5 hs5 hb5
        generalize w5 = w4 at HV HD HL HF ⊢
        refine hK.out _ _ ((blk_cell HL.out 3).trans rfl) (fun hHeld => ?_)
        clear hK K
        refine norm_ (a' := ?_) ?_ ?_
        rotate_left
        · show Act.put _ (some 111) _ = _
          simp only [Act.put, List.setIfInBounds_toArray, List.set_cons_zero, List.set_cons_succ, i64_w, i32_w]
          rfl
        refine pure_ (i := 13) (N := some 118) (v := ?_) (a' := ?_) #[true, true, true, true, true, true, true, true, true, true, true, true, true, true, false, false, false, false, false, false, false, false, false, false, false] rfl rfl (any_of HT_.out (by kernel_rfl)) (fun _ _ _ h => h) (Or.inl ⟨by rfl, ?_⟩) ?_ ?_
        rotate_left
        · intro w'
          go_simp
          with_reducible rfl
        rotate_left
        · simp only [Act.put, List.setIfInBounds_toArray, List.set_cons_zero, List.set_cons_succ, i64_w, i32_w]
          rfl
        refine pure_ (i := 14) (N := some 119) (v := ?_) (a' := ?_) #[true, true, true, true, true, true, true, true, true, true, true, true, true, true, true, false, false, false, false, false, false, false, false, false, false] rfl rfl (any_of HT_.out (by kernel_rfl)) (fun _ _ _ h => h) (Or.inl ⟨by rfl, ?_⟩) ?_ ?_
        rotate_left
        · intro w'
          go_simp
          with_reducible rfl
        rotate_left
        · simp only [Act.put, List.setIfInBounds_toArray, List.set_cons_zero, List.set_cons_succ, i64_w, i32_w]
          rfl
        refine one_ (i := 15) (N := none) #[true, true, true, true, true, true, true, true, true, true, true, true, true, true, true, true, false, false, false, false, false, false, false, false, false] rfl rfl (one_of HT_.out (by kernel_rfl)) (by decide) (fun K hK => ?_)
        have hs0 := blk_cell HL.out 1
        have hfs0 := blk_frozen HL.out 1
        simp only [List.getElem?_toArray, List.getElem?_cons_succ, List.getElem?_cons_zero] at hs0
        refine skip_ (w1 := w4.setCell ⟨lb, 1, none⟩ (.slice A2 bl.length c2)) (by rfl) rfl (by go_simp) ?_
        have n_HL : Aside0 ((w4.setCell ⟨lb, 1, none⟩ (.slice A2 bl.length c2)).heap[lb]? = some (.cells #[.pointer (some ⟨g, 0, none⟩), (.slice A2 bl.length c2), .bool has, .int .u64 rc, .int .u64 m, .int .i64 (sl : Int)] 59 (0, 0))) := ⟨blk_put HL.out 1 _ rfl⟩
        have n_HD := Aside0.mk (DK.set59 HD.out HL.out 1 (.slice A2 bl.length c2))
        have n_HF := Aside0.mk (HF.out.set (p := ⟨lb, 1, none⟩) (Or.inr (Or.inr rfl)) (.slice A2 bl.length c2))
        have n_HV := Aside0.mk (own_setCell HV.out (p := ⟨lb, 1, none⟩) (own_ne HV.out HL.out (by decide)) (.slice A2 bl.length c2))
        clear HL HD HF HV hs0 hfs0
        have HL := n_HL
        have HD := n_HD
        have HF := n_HF
        have HV := n_HV
        clear n_HL n_HD n_HF n_HV
        generalize w4.setCell ⟨lb, 1, none⟩ (.slice A2 bl.length c2) = w4 at HL HD HF HV ⊢
        refine hK.out _ _ ((blk_cell HL.out 3).trans rfl) (fun hHeld => ?_)
        clear hK K
        refine pure_ (i := 16) (N := some 120) (v := ?_) (a' := ?_) #[true, true, true, true, true, true, true, true, true, true, true, true, true, true, true, true, true, false, false, false, false, false, false, false, false] rfl rfl (any_of HT_.out (by kernel_rfl)) (fun _ _ _ h => h) (Or.inl ⟨by rfl, ?_⟩) ?_ ?_
        rotate_left
        · intro w'
          go_simp
          with_reducible rfl
        rotate_left
        · simp only [Act.put, List.setIfInBounds_toArray, List.set_cons_zero, List.set_cons_succ, i64_w, i32_w]
          rfl
        refine pure_ (i := 17) (N := some 121) (v := ?_) (a' := ?_) #[true, true, true, true, true, true, true, true, true, true, true, true, true, true, true, true, true, true, false, false, false, false, false, false, false] rfl rfl (any_of HT_.out (by kernel_rfl)) (fun _ _ _ h => h) (Or.inl ⟨by rfl, ?_⟩) ?_ ?_
        rotate_left
        · intro w'
          go_simp
          with_reducible rfl
        rotate_left
        · simp only [Act.put, List.setIfInBounds_toArray, List.set_cons_zero, List.set_cons_succ, i64_w, i32_w]
          rfl
        refine one_ (i := 18) (N := none) #[true, true, true, true, true, true, true, true, true, true, true, true, true, true, true, true, true, true, true, false, false, false, false, false, false] rfl rfl (one_of HT_.out (by kernel_rfl)) (by decide) (fun K hK => ?_)
        have hs0 := blk_cell HL.out 2
        have hfs0 := blk_frozen HL.out 2
        simp only [List.getElem?_toArray, List.getElem?_cons_succ, List.getElem?_cons_zero] at hs0
        refine skip_ (w1 := w4.setCell ⟨lb, 2, none⟩ (.bool true)) (by rfl) rfl (by go_simp) ?_
        have n_HL : Aside0 ((w4.setCell ⟨lb, 2, none⟩ (.bool true)).heap[lb]? = some (.cells #[.pointer (some ⟨g, 0, none⟩), (.slice A2 bl.length c2), .bool true, .int .u64 rc, .int .u64 m, .int .i64 (sl : Int)] 59 (0, 0))) := ⟨blk_put HL.out 2 _ rfl⟩
        have n_HD := Aside0.mk (DK.set59 HD.out HL.out 2 (.bool true))
        have n_HF := Aside0.mk (HF.out.set (p := ⟨lb, 2, none⟩) (Or.inr (Or.inr rfl)) (.bool true))
        have n_HV := Aside0.mk (own_setCell HV.out (p := ⟨lb, 2, none⟩) (own_ne HV.out HL.out (by decide)) (.bool true))
        clear HL HD HF HV hs0 hfs0
        have HL := n_HL
        have HD := n_HD
        have HF := n_HF
        have HV := n_HV
        clear n_HL n_HD n_HF n_HV
        generalize w4.setCell ⟨lb, 2, none⟩ (.bool true) = w4 at HL HD HF HV ⊢
        refine hK.out _ _ ((blk_cell HL.out 3).trans rfl) (fun hHeld => ?_)
        clear hK K
        refine pure_ (i := 19) (N := some 122) (v := ?_) (a' := ?_) #[true, true, true, true, true, true, true, true, true, true, true, true, true, true, true, true, true, true, true, true, false, false, false, false, false] rfl rfl (any_of HT_.out (by kernel_rfl)) (fun _ _ _ h => h) (Or.inl ⟨by rfl, ?_⟩) ?_ ?_
        rotate_left
        · intro w'
          go_simp
          with_reducible rfl
        rotate_left
        · simp only [Act.put, List.setIfInBounds_toArray, List.set_cons_zero, List.set_cons_succ, i64_w, i32_w]
          rfl
        refine pure_ (i := 20) (N := some 123) (v := ?_) (a' := ?_) #[true, true, true, true, true, true, true, true, true, true, true, true, true, true, true, true, true, true, true, true, true, false, false, false, false] rfl rfl (any_of HT_.out (by kernel_rfl)) (fun _ _ _ h => h) (Or.inl ⟨by rfl, ?_⟩) ?_ ?_
        rotate_left
        · intro w'
          go_simp
          with_reducible rfl
        rotate_left
        · simp only [Act.put, List.setIfInBounds_toArray, List.set_cons_zero, List.set_cons_succ, i64_w, i32_w]
          rfl
        refine last_ (i := 21) (N := none) #[true, true, true, true, true, true, true, true, true, true, true, true, true, true, true, true, true, true, true, true, true, true, false, false, false] rfl rfl (one_of HT_.out (by kernel_rfl)) (by decide) (fun K hK => ?_)
        have hs0 := blk_cell HL.out 3
        have hfs0 := blk_frozen HL.out 3
        simp only [List.getElem?_toArray, List.getElem?_cons_succ, List.getElem?_cons_zero] at hs0
        refine skip_ (w1 := w4.setCell ⟨lb, 3, none⟩ (.int .u64 r)) (by rfl) rfl (by go_simp) ?_
        have n_HL : Aside0 ((w4.setCell ⟨lb, 3, none⟩ (.int .u64 r)).heap[lb]? = some (.cells #[.pointer (some ⟨g, 0, none⟩), (.slice A2 bl.length c2), .bool true, .int .u64 r, .int .u64 m, .int .i64 (sl : Int)] 59 (0, 0))) := ⟨blk_put HL.out 3 _ rfl⟩
        have n_HD := Aside0.mk (DK.set59 HD.out HL.out 3 (.int .u64 r))
        have n_HF := Aside0.mk (HF.out.set (p := ⟨lb, 3, none⟩) (Or.inr (Or.inr rfl)) (.int .u64 r))
        have n_HV := Aside0.mk (own_setCell HV.out (p := ⟨lb, 3, none⟩) (own_ne HV.out HL.out (by decide)) (.int .u64 r))
        clear HL HD HF HV hs0 hfs0
        have HL := n_HL
        have HD := n_HD
        have HF := n_HF
        have HV := n_HV
        clear n_HL n_HD n_HF n_HV
        generalize w4.setCell ⟨lb, 3, none⟩ (.int .u64 r) = w4 at HL HD HF HV ⊢
        refine hK.out _ _ ?_
        clear hK K
        refine pure_ (i := 22) (N := some 124) (v := ?_) (a' := ?_) #[true, true, true, true, true, true, true, true, true, true, true, true, true, true, true, true, true, true, true, true, true, true, true, false, false] rfl rfl (any_of HT_.out (by kernel_rfl)) (fun _ _ _ h => h) (Or.inl ⟨by rfl, ?_⟩) ?_ ?_
        rotate_left
        · intro w'
          go_simp
          with_reducible rfl
        rotate_left
        · simp only [Act.put, List.setIfInBounds_toArray, List.set_cons_zero, List.set_cons_succ, i64_w, i32_w]
          rfl
        refine pure_ (i := 23) (N := some 125) (v := ?_) (a' := ?_) #[true, true, true, true, true, true, true, true, true, true, true, true, true, true, true, true, true, true, true, true, true, true, true, true, false] rfl rfl (any_of HT_.out (by kernel_rfl)) (fun _ _ _ h => h) (Or.inl ⟨by rfl, ?_⟩) ?_ ?_
        rotate_left
        · intro w'
          go_simp
          with_reducible rfl
        rotate_left
        · simp only [Act.put, List.setIfInBounds_toArray, List.set_cons_zero, List.set_cons_succ, i64_w, i32_w]
          rfl
        refine last_ (i := 24) (N := none) #[true, true, true, true, true, true, true, true, true, true, true, true, true, true, true, true, true, true, true, true, true, true, true, true, true] rfl rfl (one_of HT_.out (by kernel_rfl)) (by decide) (fun K hK => ?_)
        have hs0 := blk_cell HL.out 5
        have hfs0 := blk_frozen HL.out 5
        simp only [List.getElem?_toArray, List.getElem?_cons_succ, List.getElem?_cons_zero] at hs0
        refine skip_ (w1 := w4.setCell ⟨lb, 5, none⟩ (.int .i64 (tsl : Int))) (by rfl) rfl (by go_simp) ?_
        have n_HL : Aside0 ((w4.setCell ⟨lb, 5, none⟩ (.int .i64 (tsl : Int))).heap[lb]? = some (.cells #[.pointer (some ⟨g, 0, none⟩), (.slice A2 bl.length c2), .bool true, .int .u64 r, .int .u64 m, .int .i64 (tsl : Int)] 59 (0, 0))) := ⟨blk_put HL.out 5 _ rfl⟩
        have n_HD := Aside0.mk (DK.set59 HD.out HL.out 5 (.int .i64 (tsl : Int)))
        have n_HF := Aside0.mk (HF.out.set (p := ⟨lb, 5, none⟩) (Or.inr (Or.inr rfl)) (.int .i64 (tsl : Int)))
        have n_HV := Aside0.mk (own_setCell HV.out (p := ⟨lb, 5, none⟩) (own_ne HV.out HL.out (by decide)) (.int .i64 (tsl : Int)))
        clear HL HD HF HV hs0 hfs0
        have HL := n_HL
        have HD := n_HD
        have HF := n_HF
        have HV := n_HV
        clear n_HL n_HD n_HF n_HV
        generalize w4.setCell ⟨lb, 5, none⟩ (.int .i64 (tsl : Int)) = w4 at HL HD HF HV ⊢
        refine hK.out _ _ ?_
        clear hK K
        refine done_ (done_of HT_.out (by kernel_rfl)) ?_
        clear HT_ HW_ hHeld
        go_wp2
        (try simp only [Exit.inBlock, Exit.then])
        go_ret
        refine ⟨HD.out, HF.out, (fun h => by cases h), fun _ => ⟨rfl, A2, c2, ?_, HV.out⟩⟩
        rw [← MM.out.1, ← MM.out.2.1, ← MM.out.2.2]
        exact HL.out

end
end Go.Proofs.YtgeggcifhojpmaaDoor.PB
