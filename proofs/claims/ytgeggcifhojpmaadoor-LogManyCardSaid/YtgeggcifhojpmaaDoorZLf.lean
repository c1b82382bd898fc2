/- Texts of this claim, merged: LogRows, LogRm, LogBo, LogMo. -/
import Derived.Test.YtgeggcifhojpmaaDoorZLe
import Derived.Deep.Grids
import Derived.ProofKit
/- A row of records that grows beside a log; the last ones of all. -/
namespace Go.Proofs.YtgeggcifhojpmaaDoor.PB
open Go.RowKit Go.Proofs.YtgeggcifhojpmaaDoorW.PrintWords Go.Proofs.YtgeggcifhojpmaaDoorW.PrintLast Go.Proofs.YtgeggcifhojpmaaDoorW.PrintMore
attribute [local go_sem] max2_mx min2_mn max_two min_two max_three min_three max_four min_four   -- for this text's walks alone
set_option linter.unusedVariables false
set_option linter.unusedSimpArgs false

theorem own_base {w : World} {base n : Nat} {e : TypeId} {size : Nat} {v : Value} {xs : List Value} (h : w.ownsRow base e size v n xs) {k : Nat} (hk : v.ownBlock = some k) : base ≤ k := by
  rcases h.2 with ⟨rfl, _⟩ | ⟨g, cap, cur, rfl, hg, hh, r⟩
  · simp [Value.ownBlock] at hk
  · have : g = k := by simpa [Value.ownBlock] using hk
    omega
theorem RW.nil (w : World) (b0 : Nat) : RW w b0 (.slice none 0 0) [] := ⟨[], rfl, own_nil _ _ _ _, fun k u d h => by cases h⟩
theorem RW.moved {w w' : World} {b0 : Nat} {v : Value} {all : List (List Int)} (h : RW w b0 v all) (hm : ∀ k, b0 ≤ k → (∃ cs t, (t = 5 ∨ t = 22) ∧ w.heap[k]? = some (.cells cs t (0, 0))) → w'.heap[k]? = w.heap[k]?) : RW w' b0 v all := by
  obtain ⟨us, h1, h2, h3⟩ := h.it
  refine ⟨us, h1, own_move h2 (fun k hk => ?_), fun k u d hu hd => own_move (h3 k u d hu hd) (fun j hj => ?_)⟩
  · obtain ⟨cs, hc⟩ := own_typed h2 k hk
    exact hm k (own_base h2 hk) ⟨cs, 22, Or.inr rfl, hc⟩
  · obtain ⟨cs, hc⟩ := own_typed (h3 k u d hu hd) j hj
    exact hm j (own_base (h3 k u d hu hd) hj) ⟨cs, 5, Or.inl rfl, hc⟩
theorem RW.under {w w' : World} {b0 : Nat} {v : Value} {all : List (List Int)} (h : RW w b0 v all) (hb : Below w.heap.size w w') : RW w' b0 v all :=
  h.moved (fun k _ ⟨cs, t, _, hc⟩ => hb.block k (blk_lt hc))
theorem RW.beside {w w' : World} {b6 : Nat} {v : Value} {s : List (List Int)} {row : Option Nat} (h : RW w b6 v s) (hg : w.grownBy w' row) (hr : ∀ k, row = some k → k < b6) : RW w' b6 v s :=
  h.moved (fun k hk ⟨cs, t, _, hc⟩ => hg.block k (blk_lt hc) (fun he => by have := hr k he.symm; omega))
theorem RW.lt {w : World} {b0 : Nat} {v : Value} {all : List (List Int)} (h : RW w b0 v all) : ∀ k, v.ownBlock = some k → k < w.heap.size := fun k hk => by
  obtain ⟨us, h1, h2, h3⟩ := h.it
  obtain ⟨cs, hc⟩ := own_typed h2 k hk
  exact blk_lt hc
theorem RW.push {w w1 : World} {b0 : Nat} {v v1 u : Value} {all : List (List Int)} {us : List Value} {d : List Int} (h1 : us.length = all.length) (h2 : w.ownsRow b0 22 1 v us.length us) (h3 : ∀ (k : Nat) (u : Value) (d : List Int), us[k]? = some u → all[k]? = some d → w.ownsRow b0 5 1 u d.length (nums .u8 d)) (hu : w.ownsRow b0 5 1 u d.length (nums .u8 d))
    (hg : w.grownBy w1 v.ownBlock) (ho : w1.ownsRow b0 22 1 v1 (us ++ [u]).length (us ++ [u])) : RW w1 b0 v1 (all ++ [d]) := by
  have hkeep : ∀ {u : Value} {d : List Int}, w.ownsRow b0 5 1 u d.length (nums .u8 d) → w1.ownsRow b0 5 1 u d.length (nums .u8 d) := fun hx => own_move hx (fun j hj => by
    obtain ⟨cs, hc⟩ := own_typed hx j hj
    refine hg.block j (blk_lt hc) (fun he => ?_)
    obtain ⟨cs', hc'⟩ := own_typed h2 j he.symm
    rw [hc'] at hc
    injection hc with hc
    injection hc with _ ht
    exact absurd ht (by decide))
  refine ⟨us ++ [u], by rw [List.length_append, List.length_append, h1]; rfl, ho, fun k u' d' hk hd => ?_⟩
  rcases Nat.lt_or_ge k us.length with hlt | hge
  · rw [List.getElem?_append_left hlt] at hk
    rw [List.getElem?_append_left (by omega)] at hd
    exact hkeep (h3 k u' d' hk hd)
  · have hk0 : k = us.length := by
      have := (List.getElem?_eq_some_iff.1 hk).1
      rw [List.length_append, List.length_singleton] at this
      omega
    subst hk0
    rw [List.getElem?_append_right (Nat.le_refl _), Nat.sub_self] at hk
    rw [h1, List.getElem?_append_right (Nat.le_refl _), Nat.sub_self] at hd
    obtain rfl := Option.some.inj hk
    obtain rfl := Option.some.inj hd
    exact hkeep hu
theorem below_grown {w W w1 : World} {row : Option Nat} (hb : Below w.heap.size w W) (hg : W.grownBy w1 row) (hr : ∀ k, row = some k → w.heap.size ≤ k) : Below w.heap.size w w1 :=
  ⟨hg.os.trans hb.os, hg.tape.trans hb.tape, hg.output.trans hb.output, Nat.le_trans hb.size hg.size, fun i hi => (hg.block i (Nat.lt_of_lt_of_le hi hb.size) (fun he => by have := hr i he.symm; omega)).trans (hb.block i hi)⟩
theorem LO.grown {w w' : World} {base g q s lb b0 : Nat} {hs : List Nat} {cut pre rc M : Int} {dead : Bool} {l : List (List Int)} (h : LO w base g q s hs cut pre dead lb l rc M) {n : Nat} {v : Value} {us : List Value} (ho : w.ownsRow b0 22 1 v n us) (hg : w.grownBy w' v.ownBlock) (hq : q < b0) : LO w' base g q s hs cut pre dead lb l rc M := by
  have hkeep : ∀ {k : Nat} {cs : Array Value} {t : TypeId}, w.heap[k]? = some (.cells cs t (0, 0)) → t ≠ 22 → w'.heap[k]? = w.heap[k]? := fun {k cs t} hc ht => hg.block k (blk_lt hc) (fun he => by
    obtain ⟨cs', hc'⟩ := own_typed ho k he.symm
    exact blk_ne hc hc' ht rfl)
  obtain ⟨B, mk, has, sl, la, ll, lc, h1, h2, h3, h4⟩ := h.it
  have hf : DF (fun k => v.ownBlock = some k) w w' := ⟨hg.os, hg.tape, hg.output, hg.size, fun i hi hn => hg.block i hi (fun he => hn he.symm)⟩
  refine ⟨B, mk, has, sl, la, ll, lc, h1.kept hf (fun he => ?_) (fun he => ?_) (fun b hb he => ?_), h2, h3, ⟨(hkeep h4.cells (by decide)).trans h4.cells, h4.len, own_move h4.own (fun k hk => ?_)⟩⟩
  · obtain ⟨cs, hc⟩ := own_typed ho g he
    exact blk_ne h1.top hc (by decide) rfl
  · have := own_base ho he
    omega
  · obtain ⟨cs, hc⟩ := own_typed ho b he
    exact h1.lbne hc (by decide) hb
  · obtain ⟨cs, hc⟩ := own_typed h4.own k hk
    exact hkeep hc (by decide)
/-- Beside an Append (or a cut): the rows stand. -/
theorem RW.df {w w' : World} {base g q s lb b0 : Nat} {hs : List Nat} {cut pre rc M : Int} {dead : Bool} {l : List (List Int)} (hl : LO w base g q s hs cut pre dead lb l rc M) (hb0 : ∀ b ∈ hs, b < b0) {v : Value} {all : List (List Int)} (h : RW w b0 v all) (hf : DF (fun k => k = g ∨ k ∈ hs ∨ k = lb) w w') : RW w' b0 v all := by
  obtain ⟨B, mk, has, sl, la, ll, lc, h1, h2, h3, h4⟩ := hl.it
  refine h.moved (fun k hk ⟨cs, t, ht, hc⟩ => hf.block k (blk_lt hc) ?_)
  rintro (rfl | hm | rfl)
  · exact blk_ne hc h1.top (by rcases ht with rfl | rfl <;> decide) rfl
  · have := hb0 k hm; omega
  · exact blk_ne hc h4.cells (by rcases ht with rfl | rfl <;> decide) rfl
theorem RW.dfg {w w' : World} {base g q s b0 : Nat} {hs : List Nat} {cut pre rc M : Int} {dead : Bool} {l : List (List Int)} (hl : LD w base g q s hs cut pre dead l rc M) {v : Value} {all : List (List Int)} (h : RW w b0 v all) (hf : DF (fun k => k = g) w w') : RW w' b0 v all := by
  obtain ⟨B, mk, has, sl, h1, h2, h3⟩ := hl.it
  refine h.moved (fun k hk ⟨cs, t, ht, hc⟩ => hf.block k (blk_lt hc) ?_)
  rintro rfl
  exact blk_ne hc h1.top (by rcases ht with rfl | rfl <;> decide) rfl
/-- The records that a log has are the last ones of all. -/
structure EL (all l : List (List Int)) (rc : Int) : Prop where
  suf : l.reverse <:+ all
  some_ : all ≠ [] → l ≠ []
  num : rc = (all.length : Int)
  byt : ∀ x ∈ all, IsB x
theorem EL.nil : EL [] [] 0 := ⟨List.suffix_refl _, fun h => absurd rfl h, rfl, fun x hx => by cases hx⟩
theorem EL.bytl {all l : List (List Int)} {rc : Int} (h : EL all l rc) : ∀ x ∈ l.reverse, IsB x := fun x hx => h.byt x (h.suf.subset hx)
theorem take1_suf (l : List (List Int)) : (l.take 1).reverse <:+ l.reverse := by
  cases l with
  | nil => exact List.suffix_refl _
  | cons x t => exact ⟨t.reverse, by simp⟩
theorem EL.take1 {all l : List (List Int)} {rc : Int} (h : EL all l rc) : EL all (l.take 1) rc :=
  ⟨(take1_suf l).trans h.suf, fun ha => by
    have := h.some_ ha
    cases l with
    | nil => exact absurd rfl this
    | cons x t => simp, h.num, h.byt⟩
theorem EL.good {all l : List (List Int)} {rc : Int} {b : List Int} (h : EL all l rc) (hb : IsB b) : EL (all ++ [b]) (b :: l.take 1) (rc + 1) := by
  refine ⟨?_, fun _ => by simp, ?_, fun x hx => ?_⟩
  · obtain ⟨p, hp⟩ := h.take1.suf
    refine ⟨p, ?_⟩
    rw [List.reverse_cons, ← List.append_assoc, hp]
  · have := h.num
    rw [List.length_append, List.length_singleton]
    omega
  · rcases List.mem_append.1 hx with h1 | h1
    · exact h.byt x h1
    · rw [List.mem_singleton.1 h1]; exact hb
theorem EL.ends {all l : List (List Int)} {rc : Int} (h : EL all l rc) : endsB l.reverse all = true := by
  unfold endsB
  refine decide_eq_true ⟨h.suf, fun he => ?_⟩
  rcases List.eq_nil_or_concat all with h1 | ⟨t, x, h1⟩
  · exact h1
  · refine absurd (List.reverse_eq_nil_iff.1 he) (h.some_ (by rw [h1]; simp))
theorem EL.last {all l : List (List Int)} {rc : Int} (h : EL all l rc) (hne : 0 < all.length) : all.getD (all.length - 1) [] = l.headD [] := by
  have h1 := h.some_ (by intro e; rw [e] at hne; exact absurd hne (by decide))
  obtain ⟨p, hp⟩ := h.suf
  cases l with
  | nil => exact absurd rfl h1
  | cons x t =>
    rw [List.reverse_cons, ← List.append_assoc] at hp
    rw [← hp, List.length_append, List.length_singleton, Nat.add_sub_cancel, List.getD_eq_getElem?_getD, List.getElem?_append_right (Nat.le_refl _), Nat.sub_self]
    rfl
theorem EL.len {all l : List (List Int)} {rc : Int} (h : EL all l rc) : l.length ≤ all.length := by
  have := h.suf.length_le
  rw [List.length_reverse] at this
  exact this
theorem at_bo {w : World} {A : Option Addr} {n : Nat} {xs : List Bool} (h : Kd.C Kd.bool w A n xs) (i : Int) (h0 : 0 ≤ i) (h1 : i < n) : ∃ ad, A = some ad ∧ w.cell? (ad.add i.toNat) = some (.bool (rdOf false xs i)) :=
  ReadsOf.at_ (Kd.reads_of_C (enc := Value.bool) (d := false) (h1 := fun _ => rfl) h) i h0 h1
theorem ends_calls {w : World} {A0 A1 : Option Addr} {n0 c0 n1 c1 : Nat} {got all : List (List Int)} (h0 : Kd.C (Kd.slice 5 (Kd.int .u8)) w A0 n0 got) (hc0 : n0 ≤ c0) (h1 : Kd.C (Kd.slice 5 (Kd.int .u8)) w A1 n1 all) (hc1 : n1 ≤ c1) (hg : ∀ x ∈ got, IsB x) (ha : ∀ x ∈ all, IsB x) (hl : n0 ≤ 1000000 ∧ n1 ≤ 1000000) :
    Calls Tryd.prog 24 #[.slice A0 n0 c0, .slice A1 n1 c1] w fun e w' => e = .returned (.bool (endsB got all)) ∧ Drawn0 w w' := by
  obtain rfl : got.length = n0 := h0.1
  obtain rfl : all.length = n1 := h1.1
  exact PC.lychlaw10_ends.calls _ A0 c0 got A1 c1 all _ w h0 hc0 h1 hc1 (ends_f got all hg ha hl.1 hl.2)
theorem bytes_calls {w : World} {A0 A1 : Option Addr} {n0 c0 n1 c1 : Nat} {d0 d1 : List Int} (h0 : Kd.C (Kd.int .u8) w A0 n0 d0) (hc0 : n0 ≤ c0) (h1 : Kd.C (Kd.int .u8) w A1 n1 d1) (hc1 : n1 ≤ c1) (hb0 : IsB d0) (hb1 : IsB d1) :
    Calls Tryd.prog 22 #[.slice A0 n0 c0, .slice A1 n1 c1] w fun e w' => e = .returned (.bool (decide (d0 = d1))) ∧ Drawn0 w w' := by
  obtain rfl : d0.length = n0 := h0.1
  obtain rfl : d1.length = n1 := h1.1
  exact lychhelp_Bytes.calls A0 c0 d0 A1 c1 d1 _ w h0 hc0 h1 hc1 (bytes_f d0 d1 hb0 hb1)
theorem LO.append_ {w : World} {base g q s lb : Nat} {hs : List Nat} {cut pre rc M : Int} {l : List (List Int)} (h : LO w base g q s hs cut pre false lb l rc M) (ab : Nat) {n : Nat} (bl : List Int) (hn : bl.length = n) (hblk : w.heap[ab]? = some (.cells (dkB bl) 5 (0, 0))) (hab : ¬ (ab = g ∨ ab ∈ hs ∨ ab = lb)) (hbl : IsB bl) (hshort : n ≤ lgRoom hs.length s) (hM : M ≤ 254 ∨ (cut < 0 ∧ M ≤ 1000000)) (hrc : rc ≤ 1000000) (p : Nat) (hp : pre = (p : Int) ∧ p ≤ s) (hct : -9223372036854775808 ≤ cut ∧ cut < 9223372036854775808) :
    Calls Tryd.prog 19 #[.pointer (some ⟨lb, 0, none⟩), .slice (some ⟨ab, 0, none⟩) n n] w fun e w' => ApD w base g q s hs cut pre lb l rc M bl e w' := by
  subst hn
  exact h.append ab bl.length bl (Nat.le_refl _) (fun j x hx => (blk_cell hblk j).trans (dkB_get hx)) hab hbl hshort hM hrc p hp hct
/-- The last of the rows. -/
theorem RW.last {w : World} {b0 : Nat} {A : Option Addr} {n c : Nat} {all : List (List Int)} (h : RW w b0 (.slice A n c) all) (hn : all.length = n) (hm : n ≤ 1000000) (h0 : 0 < n) : ∃ ad uA uc, A = some ad ∧ w.cell? (ad.add (n - 1)) = some (.slice uA (all.getD (n - 1) []).length uc) ∧ (all.getD (n - 1) []).length ≤ uc ∧ Kd.C (Kd.int .u8) w uA (all.getD (n - 1) []).length (all.getD (n - 1) []) := by
  obtain ⟨ad, uA, uc, h1, h2, h3, h4⟩ := at_L1 (h.kd hn hm).1 ((n - 1 : Nat) : Int) (by omega) (by omega)
  unfold rd_L1 at h2 h3 h4
  rw [Int.toNat_natCast] at h2 h3 h4
  exact ⟨ad, uA, uc, h1, h2, h3, h4⟩
end Go.Proofs.YtgeggcifhojpmaaDoor.PB
/- LogRooms: which disks may hold a log, and its room. -/
namespace Go.Proofs.YtgeggcifhojpmaaDoor.PB
open Go.RowKit Go.Proofs.YtgeggcifhojpmaaDoorW.PrintWords Go.Proofs.YtgeggcifhojpmaaDoorW.PrintLast Go.Proofs.YtgeggcifhojpmaaDoorW.PrintMore
attribute [local go_sem] max2_mx min2_mn max_two min_two max_three min_three max_four min_four   -- for this text's walks alone
set_option linter.unusedVariables false
set_option linter.unusedSimpArgs false

theorem place_f (a : Int) (k : Nat) (hk : 0 < k) (hk2 : k ≤ 1000000) : ∃ r : Nat, r < k ∧ lychhelp_Place.f a (k : Int) = some (r : Int) := by
  have h1 := Int.tmod_lt_of_pos a (show (0 : Int) < (k : Int) by omega)
  have h2 := Int.lt_tmod_of_pos a (show (0 : Int) < (k : Int) by omega)
  unfold lychhelp_Place.f
  rw [if_neg (by omega)]
  by_cases h : Int.tmod a (k : Int) < 0
  · refine ⟨(Int.tmod a (k : Int) + (k : Int)).toNat, by omega, ?_⟩
    rw [if_pos h]
    congr 1
    unfold wrap64
    omega
  · refine ⟨(Int.tmod a (k : Int)).toNat, by omega, ?_⟩
    rw [if_neg h]
    congr 1
    omega
theorem dkN_id (n : Nat) (h : 1 ≤ n ∧ n ≤ 64) {m : Int} (hm : m = (n : Int) := by (first | rfl | omega)) : dkN m = n := by subst hm; unfold dkN mn mx; split <;> split <;> omega
theorem dkS_id (n : Nat) (h : 64 ≤ n ∧ n ≤ 65536) {m : Int} (hm : m = (n : Int) := by (first | rfl | omega)) : dkS m = n := by subst hm; unfold dkS mn mx; split <;> split <;> omega
set_option maxHeartbeats 4000000 in
set_option maxRecDepth 100000 in
theorem LogRooms.calls (a0 a1 : Int) (w : World) (ge : Addr) (hge : w.cell? ⟨0, 0, none⟩ = some (.iface 91 (.pointer (some ge)))) : Calls Tryd.prog 6 #[.int .i64 a0, .int .i64 a1] w fun e w' => e = .returned (.bool true) ∧ Below w.heap.size w w' := by
  have HG := Aside0.mk hge
  clear hge
  go_enter Tryd.func6, Tryd.ntmps6
  go_wp2_with fail
  refine (known.calls w ge HG.out).mono ?_
  rintro e w1 ⟨rfl, hb⟩
  have HB := Aside0.mk hb
  clear hb
  (try dsimp only)
  go_wp2_with fail
  obtain ⟨r1, hr1, hp1⟩ := place_f a0 12 (by decide) (by decide)
  refine (lychhelp_Place.calls a0 12 _ w1 hp1).mono ?_
  rintro e w2 ⟨rfl, ⟨nd, rfl⟩⟩
  (try dsimp only)
  go_wp2_with fail
  obtain ⟨r2, hr2, hp2⟩ := place_f a1 12000 (by decide) (by decide)
  refine (lychhelp_Place.calls a1 12000 _ _ hp2).mono ?_
  rintro e w2 ⟨rfl, ⟨nd2, rfl⟩⟩
  (try dsimp only)
  go_wp2_with fail
  by_cases hr : 4 ≤ 1 + r1 ∧ 256 ≤ 64 + r2
  · refine (LD.new (1 + (r1 : Int)) (64 + (r2 : Int)) (w1.drewN (nd + nd2)) (by rw [dkN_id (1 + r1) (by omega), dkS_id (64 + r2) (by omega)]; omega)).mono ?_
    rintro e w2 ⟨g, q, hs, rfl, hd, hn, hb⟩
    rw [dkS_id (64 + r2) (by omega)] at hd
    rw [dkN_id (1 + r1) (by omega)] at hn
    have HD := Aside0.mk hd
    have HN := Aside0.mk hn
    have HB2 := Aside0.mk (below_step (pw_below_drewN HB.out (nd + nd2)) hb)
    clear hd hn hb HB
    have HB := HB2
    clear HB2
    (try dsimp only)
    go_wp2_with fail
    refine (LD.open_ HD.out ge (gcell HG.out HB.out)).mono ?_
    rintro e w3 ⟨lb, A, oc, rfl, hlb, hoc, hk, hl, hb⟩
    have HL := Aside0.mk hl
    have HB2 := Aside0.mk (below_step HB.out hb)
    clear HB HD hlb hk hl hb
    have HB := HB2
    clear HB2
    (try dsimp only)
    go_wp2_with fail
    refine (LD.room HL.out.ld).mono ?_
    rintro e w4 ⟨rfl, ⟨nd3, rfl⟩⟩
    have hRM := (room_le HL.out.ld.big).1
    obtain ⟨rm, hrm⟩ : ∃ rm, rm = lgRoom hs.length (64 + r2) := ⟨_, rfl⟩
    have hrm2 : rm = min ((1 + r1) / 2 * (64 + r2 - 36)) 16384 := by
      rw [hrm]
      unfold lgRoom
      rw [hRM, if_pos rfl, HN.out]
    rw [← hrm]
    have hc1 : decide ((1 + (r1 : Int)) < 4) = false := decide_eq_false (by omega)
    have hc2 : decide ((64 + (r2 : Int)) < 256) = false := decide_eq_false (by omega)
    have hm : r1 / 2 * r2 ≤ (1 + r1) / 2 * (64 + r2 - 36) := Nat.mul_le_mul (by omega) (by omega)
    have HM := Aside0.mk hm
    have HR := Aside0.mk hrm2
    clear hrm hrm2 hRM hm
    have hc3 : decide ((rm : Int) ≤ 16384) = true := decide_eq_true (by have := HR.out; omega)
    (try dsimp only)
    go_wp2
    · (try simp only [Exit.inBlock, Exit.then])
      go_ret
      exact ⟨rfl, pw_below_drewN HB.out nd3⟩
    · rename_i h
      refine absurd h (Int.not_lt.2 ?_)
      have e1 : (1 + (r1 : Int) - 1) / 2 * (64 + (r2 : Int) - 64) = ((r1 / 2 * r2 : Nat) : Int) := by
        rw [show 1 + (r1 : Int) - 1 = (r1 : Int) by omega, show 64 + (r2 : Int) - 64 = (r2 : Int) by omega]
        rfl
      have e2 : r1 / 2 * r2 ≤ 6 * 12000 := Nat.mul_le_mul (by omega) (by omega)
      rw [e1, wrapN _ (by omega)]
      have h1 := HM.out
      have h2 := HR.out
      generalize r1 / 2 * r2 = x at *
      generalize (1 + r1) / 2 * (64 + r2 - 36) = y at *
      unfold mn
      split <;> omega
  · refine (disk_New.calls (1 + (r1 : Int)) (64 + (r2 : Int)) (w1.drewN (nd + nd2))).mono ?_
    rintro e w2 ⟨g, q, hs, rfl, hd, hn, hb⟩
    rw [dkS_id (64 + r2) (by omega)] at hd
    rw [dkN_id (1 + r1) (by omega)] at hn
    have HD := Aside0.mk hd
    have HN := Aside0.mk hn
    have HB2 := Aside0.mk (below_step (pw_below_drewN HB.out (nd + nd2)) hb)
    clear hd hn hb HB
    have HB := HB2
    clear HB2
    have hri : lgRight hs.length (64 + r2) = false := by
      unfold lgRight
      rw [HN.out]
      simp
      omega
    (try dsimp only)
    go_wp2_with fail
    refine (log_Open.room HD.out (by rw [HN.out]; omega) hri).mono ?_
    rintro e w3 ⟨rfl, hb⟩
    have HD2 := Aside0.mk (HD.out.under hb)
    have HB2 := Aside0.mk (below_step HB.out hb)
    clear HB HD hb
    have HB := HB2
    have HD := HD2
    clear HB2 HD2
    (try dsimp only)
    go_wp2_with fail
    refine (log_Room.calls HD.out (by rw [HN.out]; omega) (by rw [HN.out]; omega) (by omega)).mono ?_
    rintro e w4 ⟨rfl, ⟨nd3, rfl⟩⟩
    rw [show lgRoom hs.length (64 + r2) = 0 by unfold lgRoom; rw [hri]; rfl]
    clear hri
    rcases Nat.lt_or_ge (1 + r1) 4 with h4 | h4
    · have hc1 : decide ((1 + (r1 : Int)) < 4) = true := decide_eq_true (by omega)
      (try dsimp only)
      go_wp2
      (try simp only [Exit.inBlock, Exit.then])
      go_ret
      exact ⟨rfl, pw_below_drewN HB.out nd3⟩
    · have hc1 : decide ((1 + (r1 : Int)) < 4) = false := decide_eq_false (by omega)
      have hc2 : decide ((64 + (r2 : Int)) < 256) = true := decide_eq_true (by omega)
      (try dsimp only)
      go_wp2
      (try simp only [Exit.inBlock, Exit.then])
      go_ret
      exact ⟨rfl, pw_below_drewN HB.out nd3⟩
end Go.Proofs.YtgeggcifhojpmaaDoor.PB
/- A slice of bools out of its reading. -/
namespace Go.Proofs.YtgeggcifhojpmaaDoor.PB
open Go.RowKit Go.Proofs.YtgeggcifhojpmaaDoorW.PrintWords Go.Proofs.YtgeggcifhojpmaaDoorW.PrintLast Go.Proofs.YtgeggcifhojpmaaDoorW.PrintMore
attribute [local go_sem] max2_mx min2_mn max_two min_two max_three min_three max_four min_four   -- for this text's walks alone
set_option linter.unusedVariables false
set_option linter.unusedSimpArgs false

theorem bools_of {H : Type} {enc : TypeId × Value → H} {P : Program} {w : World} {base : Nat} {held : Bool} {t e : TypeId} {fuel : Nat} {a : Option Addr} {len cap : Nat} {x : DataW H × List MemPlace} (ht : P.underlying t = some (.slice e)) (he : P.underlying e = some .bool) (hc : P.cellsOf e = 1)
    (hf : DataW.trod enc P w base (fun _ => true) held fuel t [.slice a len cap] = some x) : ∃ l : List Bool, len = l.length ∧ Kd.C Kd.bool w a l.length l ∧ l.length ≤ cap := by
  rcases Go.Deep.open_bools ht he hc hf with ⟨hcs, _⟩ | ⟨ad, l_, c_, B, hcs, _, hl, hm, _, hcell⟩
  · simp only [List.cons.injEq, Value.slice.injEq, and_true] at hcs
    obtain ⟨rfl, rfl, rfl⟩ := hcs
    exact ⟨[], rfl, Kd.C_nil Kd.bool w, Nat.le_refl _⟩
  · simp only [List.cons.injEq, Value.slice.injEq, and_true] at hcs
    obtain ⟨rfl, rfl, rfl⟩ := hcs
    have hmx : maxLen ≤ 9223372036854775807 := by decide
    refine ⟨(List.range len).map B, by simp, Kd.C_of_reads (enc := Value.bool) (d := false) (h1 := fun _ => rfl) ⟨rfl, by simp; omega, fun _ => ⟨ad, rfl, fun j hj => ?_⟩⟩, by simpa using hl⟩
    have hj' : j < len := by simpa using hj
    rw [hcell j (by omega), List.getD_eq_getElem?_getD, List.getElem?_map, List.getElem?_range hj']
    rfl
theorem wf16 {l : List Int} (h : ∀ x ∈ l, (Lit.int .u16 x).wf = true) : ∀ x ∈ l, 0 ≤ x ∧ x ≤ 65535 := fun x hx => by
  have := h x hx
  simp [Lit.wf, show IntKind.u16.min = 0 from rfl, show IntKind.u16.max = 65535 from rfl, show IntKind.u8.min = 0 from rfl, show IntKind.u8.max = 255 from rfl] at this
  omega
theorem wf8 {l : List Int} (h : ∀ x ∈ l, (Lit.int .u8 x).wf = true) : IsB l := fun x hx => by
  have := h x hx
  simp [Lit.wf, show IntKind.u16.min = 0 from rfl, show IntKind.u16.max = 65535 from rfl, show IntKind.u8.min = 0 from rfl, show IntKind.u8.max = 255 from rfl] at this
  omega
theorem wfu16 {x : Int} (h : (Lit.int .u16 x).wf = true) : 0 ≤ x ∧ x ≤ 65535 := wf16 (l := [x]) (fun y hy => by rw [List.mem_singleton.1 hy]; exact h) x (by simp)
theorem wfu8 {x : Int} (h : (Lit.int .u8 x).wf = true) : 0 ≤ x ∧ x ≤ 255 := wf8 (l := [x]) (fun y hy => by rw [List.mem_singleton.1 hy]; exact h) x (by simp)
end Go.Proofs.YtgeggcifhojpmaaDoor.PB
/- Small helps of the laws' walks. -/
namespace Go.Proofs.YtgeggcifhojpmaaDoor.PB
open Go.RowKit Go.Proofs.YtgeggcifhojpmaaDoorW.PrintWords Go.Proofs.YtgeggcifhojpmaaDoorW.PrintLast Go.Proofs.YtgeggcifhojpmaaDoorW.PrintMore
attribute [local go_sem] max2_mx min2_mn max_two min_two max_three min_three max_four min_four   -- for this text's walks alone
set_option linter.unusedVariables false
set_option linter.unusedSimpArgs false

theorem place_calls (a : Int) (k : Nat) (hk : 0 < k) (hk2 : k ≤ 1000000) (w : World) : Calls Tryd.prog 14 #[.int .i64 a, .int .i64 (k : Int)] w fun e w' => ∃ r : Nat, r < k ∧ e = .returned (.int .i64 (r : Int)) ∧ Drawn0 w w' := by
  obtain ⟨r, hr, hp⟩ := place_f a k hk hk2
  exact (lychhelp_Place.calls a k _ w hp).mono fun e w' ⟨h1, h2⟩ => ⟨r, hr, h1, h2⟩
theorem mx_nat (r : Nat) : mx (r : Int) 0 = (r : Int) := by unfold mx; split <;> omega
theorem mn_pre (a : Int) (s : Nat) : ∃ p : Nat, mn (mx a 0) (s : Int) = (p : Int) ∧ p ≤ s := by
  refine ⟨(mn (mx a 0) (s : Int)).toNat, ?_, ?_⟩ <;> (unfold mn mx; split <;> split <;> omega)
/-- Behind an Append that fell: the record is there, or it isn't. -/
theorem EL.fell {all l l' : List (List Int)} {rc rc' : Int} {b : List Int} (h : EL all l rc) (hb : IsB b) (hc : (rc' = rc ∧ (l' = l ∨ l' = l.take 1)) ∨ (rc' = rc + 1 ∧ l' = b :: l.take 1)) :
    (rc' = rc ∧ EL all l' rc) ∨ (rc' = rc + 1 ∧ EL (all ++ [b]) l' (rc + 1) ∧ ∃ t, l' = b :: t) := by
  rcases hc with ⟨h1, rfl | rfl⟩ | ⟨h1, rfl⟩
  · exact Or.inl ⟨h1, h⟩
  · exact Or.inl ⟨h1, h.take1⟩
  · exact Or.inr ⟨h1, h.good hb, _, rfl⟩
theorem IsB.headD {l : List (List Int)} (h : ∀ x ∈ l.reverse, IsB x) : IsB (l.headD []) := by
  cases l with
  | nil => exact fun x hx => by cases hx
  | cons y t => exact h y (by simp)
/-- The last of the records that Open told. -/
theorem kd_last {w : World} {A : Option Addr} {r : Nat} {l : List (List Int)} (h : Kd.C (Kd.slice 5 (Kd.int .u8)) w A r l.reverse) (h0 : 0 < r) : ∃ ad uA uc, A = some ad ∧ w.cell? (ad.add (r - 1)) = some (.slice uA (l.headD []).length uc) ∧ (l.headD []).length ≤ uc ∧ Kd.C (Kd.int .u8) w uA (l.headD []).length (l.headD []) := by
  have hr : l.length = r := by have := h.1; rw [List.length_reverse] at this; exact this
  obtain ⟨ad, uA, uc, h1, h2, h3, h4⟩ := at_L1 h ((r - 1 : Nat) : Int) (by omega) (by omega)
  have he : rd_L1 l.reverse ((r - 1 : Nat) : Int) = l.headD [] := by
    unfold rd_L1
    rw [Int.toNat_natCast, ← hr]
    cases l with
    | nil => rfl
    | cons x t => rw [List.reverse_cons, List.length_cons, Nat.add_sub_cancel, List.getD_eq_getElem?_getD, List.getElem?_append_right (by simp)]; simp
  rw [he] at h2 h3 h4
  rw [Int.toNat_natCast] at h2
  exact ⟨ad, uA, uc, h1, h2, h3, h4⟩
theorem LX.dfg {w w' : World} {base g q s lb : Nat} {hs : List Nat} {cut pre rc M : Int} {dead : Bool} {l : List (List Int)} (hl : LD w base g q s hs cut pre dead l rc M) (h : LX w g lb) (hf : DF (fun k => k = g) w w') : LX w' g lb := by
  obtain ⟨B, mk, has, sl, h1, h2, h3⟩ := hl.it
  obtain ⟨la, ll, lc, has, rc, mk, sl, h4⟩ := h.it
  exact ⟨la, ll, lc, has, rc, mk, sl, (hf.block lb (blk_lt h4) (fun e => blk_ne h4 h1.top (by decide) e)).trans h4⟩
theorem blk5_dfg {w w' : World} {base g q s c : Nat} {hs : List Nat} {cut pre rc M : Int} {dead : Bool} {l : List (List Int)} {cs : Array Value} (hl : LD w base g q s hs cut pre dead l rc M) (h : w.heap[c]? = some (.cells cs 5 (0, 0))) (hf : DF (fun k => k = g) w w') : w'.heap[c]? = some (.cells cs 5 (0, 0)) := by
  obtain ⟨B, mk, has, sl, h1, h2, h3⟩ := hl.it
  exact (hf.block c (blk_lt h) (fun e => blk_ne h h1.top (by decide) e)).trans h
theorem blk_C {w : World} {c n : Nat} {d : List Int} (h : w.heap[c]? = some (.cells (dkB d) 5 (0, 0))) (hn : d.length = n) (hd : n ≤ 1000000) : Kd.C (Kd.int .u8) w (some ⟨c, 0, none⟩) n d := by
  subst hn
  refine Kd.C_of_reads (enc := Value.int .u8) (d := (0 : Int)) (h1 := fun _ => rfl) ⟨rfl, by omega, fun _ => ⟨_, rfl, fun j hj => ?_⟩⟩
  rw [add_at]
  refine (blk_cell h j).trans ?_
  rw [dkB_get (List.getElem?_eq_getElem hj), List.getD_eq_getElem?_getD, List.getElem?_eq_getElem hj]
  rfl
end Go.Proofs.YtgeggcifhojpmaaDoor.PB
