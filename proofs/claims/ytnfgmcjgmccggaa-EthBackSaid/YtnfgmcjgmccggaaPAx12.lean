-- written by a patched print
import Derived.Test.YtnfgmcjgmccggaaPAx0
import Derived.Test.YtnfgmcjgmccggaaPAx11
namespace Go.Proofs.Ytnfgmcjgmccggaa.PA
open Go.RowKit Go.Proofs.YtnfgmcjgmccggaaW.PrintWords Go.Proofs.YtnfgmcjgmccggaaW.PrintLast Go.Proofs.YtnfgmcjgmccggaaW.PrintMore
attribute [local go_sem] max2_int min2_int max_two min_two max_three min_three max_four min_four   -- for this text's walks alone
set_option linter.unusedVariables false
set_option linter.unusedSimpArgs false

/-! ### lychref1_EthBytes: function 17 -/
theorem lychref1_EthBytes.lies {W : World} {g o : Nat} {t : TypeId} {cs : Array Value} {x0 x1 x2 x3 x4 x5 : Int} (h : W.heap[g]? = some (.cells cs t (0, 0))) (h0 : cs[o]? = some (.int .u8 x0)) (h1 : cs[o + 1]? = some (.int .u8 x1)) (h2 : cs[o + 2]? = some (.int .u8 x2)) (h3 : cs[o + 3]? = some (.int .u8 x3)) (h4 : cs[o + 4]? = some (.int .u8 x4)) (h5 : cs[o + 5]? = some (.int .u8 x5)) :
    Kd.C (Kd.int .u8) W (some ⟨g, o, none⟩) 6 [x0, x1, x2, x3, x4, x5] := by
  refine Kd.C_of_reads (enc := Value.int .u8) (d := (0 : Int)) (h1 := fun _ => rfl) ⟨rfl, by omega, fun _ => ⟨_, rfl, fun j hj => ?_⟩⟩
  have e : ∀ j, (⟨g, o, none⟩ : Addr).add j = ⟨g, o + j, none⟩ := fun j => by unfold Addr.add; split <;> simp_all
  rw [e, blk_cell h]
  match j, hj with
  | 0, _ => exact h0
  | 1, _ => exact h1
  | 2, _ => exact h2
  | 3, _ => exact h3
  | 4, _ => exact h4
  | 5, _ => exact h5
def lychref1_EthBytes.T3 : Bool × List (List Nat × List Nat) := (true, [([], []), ([0], [0]), ([1], [1]), ([], []), ([3], [3]), ([2, 4, 2], [2, 4]), ([5, 5, 0, 1, 2, 3, 4, 5], [5])])
def lychref1_EthBytes.B3 : List Nat := [0, 1, 3, 0, 8, 31, 63]
theorem lychref1_EthBytes.tab3 : rtab .any (opsOf Try.f17 3) = lychref1_EthBytes.T3 := by kernel_rfl
theorem lychref1_EthBytes.bits3 : waitsOk lychref1_EthBytes.T3.2 lychref1_EthBytes.B3 = true := by kernel_rfl
def lychref1_EthBytes.T4 : Bool × List (List Nat × List Nat) := (true, [([], []), ([], []), ([1], [1]), ([0, 2], [0, 2]), ([], []), ([4], [4]), ([3, 5, 3], [3, 5]), ([6, 6, 0, 1, 2, 3, 4, 5, 6], [6]), ([7, 0, 1, 2, 3, 4, 5, 6, 7], [])])
def lychref1_EthBytes.B4 : List Nat := [0, 0, 2, 7, 0, 16, 63, 127, 255]
theorem lychref1_EthBytes.tab4 : rtab .any (opsOf Try.f17 4) = lychref1_EthBytes.T4 := by kernel_rfl
theorem lychref1_EthBytes.bits4 : waitsOk lychref1_EthBytes.T4.2 lychref1_EthBytes.B4 = true := by kernel_rfl
def lychref1_EthBytes.f (a0_0 : Int) (a0_1 : Int) (a0_2 : Int) (a0_3 : Int) (a0_4 : Int) (a0_5 : Int) (a0_6 : Int) (a0_7 : Int) (a0_8 : Int) (a0_9 : Int) (a0_10 : Int) (a0_11 : Int) (a0_12 : Int) (l0_13 : List Int) : Option (List Int × Int) := if (l0_13.length : Int) > 1586 then some ([], 23) else (lychref1_Put16.f ([a0_0, a0_1, a0_2, a0_3, a0_4, a0_5] ++ [a0_6, a0_7, a0_8, a0_9, a0_10, a0_11]) a0_12).bind fun b => if b.length + l0_13.length < 140737488355328 then some (b ++ l0_13, 0) else none
set_option maxHeartbeats 8000000 in
set_option maxRecDepth 100000 in
theorem lychref1_EthBytes.calls (a0_0 : Int) (a0_1 : Int) (a0_2 : Int) (a0_3 : Int) (a0_4 : Int) (a0_5 : Int) (a0_6 : Int) (a0_7 : Int) (a0_8 : Int) (a0_9 : Int) (a0_10 : Int) (a0_11 : Int) (a0_12 : Int) (A0_13 : Option Addr) (c0_13 : Nat) (l0_13 : List Int) (r1 : List Int) (r2 : Int) (w : World) (hr0_13 : Kd.C (Kd.int .u8) w A0_13 l0_13.length l0_13) (hc0_13 : l0_13.length ≤ c0_13) (h : lychref1_EthBytes.f a0_0 a0_1 a0_2 a0_3 a0_4 a0_5 a0_6 a0_7 a0_8 a0_9 a0_10 a0_11 a0_12 l0_13 = some (r1, r2)) :
    Calls Try.prog 17 #[.agg #[.int .u8 a0_0, .int .u8 a0_1, .int .u8 a0_2, .int .u8 a0_3, .int .u8 a0_4, .int .u8 a0_5, .int .u8 a0_6, .int .u8 a0_7, .int .u8 a0_8, .int .u8 a0_9, .int .u8 a0_10, .int .u8 a0_11, .int .u16 a0_12, .slice A0_13 l0_13.length c0_13]] w fun e w' => ∃ v0_ : Value, e = .returned (.tuple #[v0_, .int .i64 r2]) ∧ Kd.R (Kd.int .u8) 5 w' w.heap.size (fun _ => True) v0_ r1 ∧ Below w.heap.size w w' := by
  have hu28 := Try.underlying28
  have HR0 := Aside0.mk hr0_13
  have HC0 := Aside0.mk hc0_13
  clear hr0_13 hc0_13
  have HB := Aside0.mk (Below.refl w.heap.size w)
  unfold lychref1_EthBytes.f at h
  by_cases c1 : (l0_13.length : Int) > 1586
  · rw [if_pos c1] at h
    simp only [Option.some.injEq, Prod.mk.injEq] at h
    obtain ⟨rfl, rfl⟩ := h
    have c1b : decide (1586 < (l0_13.length : Int)) = true := decide_eq_true c1
    clear c1
    go_enter Try.func17, Try.ntmps17
    go_upto_region 1 with (first | ((with_reducible refine gate_dst (N := 1) rfl ?_); refine box_event ?hg (N := 1) ?hd (cs := #[.int .u8 a0_0, .int .u8 a0_1, .int .u8 a0_2, .int .u8 a0_3, .int .u8 a0_4, .int .u8 a0_5, .int .u8 a0_6, .int .u8 a0_7, .int .u8 a0_8, .int .u8 a0_9, .int .u8 a0_10, .int .u8 a0_11, .int .u16 a0_12, .slice A0_13 l0_13.length c0_13]) (t := 28) ?hr ?_; (case hd => rfl); (case hg => rfl); (case hr => first | (go_simp; done) | (go_simp; rfl)); intro gp hg w1 hbox hb; have n0_ := Aside0.mk (below_step (by repeat (first | (with_reducible first | exact HB.out | apply below_alloc | apply pw_below_drewN | apply below_drew1) | exact HB.out)) hb); have HP := Aside0.mk hbox; have GP := Aside0.mk ((by rw [hg]; exact (below_size (by repeat (first | (with_reducible first | exact HB.out | apply below_alloc | apply pw_below_drewN | apply below_drew1) | exact HB.out)))) : w.heap.size ≤ gp); clear HB; have HB := n0_; clear n0_ hb hbox hg))
    have hp12 : w1.cell? ⟨gp, 12, none⟩ = some (.int .u16 a0_12) := (blk_cell HP.out 12).trans rfl
    have hp13 : w1.cell? ⟨gp, 13, none⟩ = some (.slice A0_13 l0_13.length c0_13) := (blk_cell HP.out 13).trans rfl
    go_wp2
    go_ret2
    exact ⟨_, rfl, Kd.R_nil _ _ _ _ _, by repeat (first | (with_reducible first | exact HB.out | apply below_alloc | apply pw_below_drewN | apply below_drew1) | exact HB.out)⟩
  · rw [if_neg c1] at h
    have c1b : decide (1586 < (l0_13.length : Int)) = false := decide_eq_false c1
    obtain ⟨b, hb, h⟩ := Option.bind_eq_some_iff.mp h
    have A1 := Aside0.mk hb
    by_cases c2 : b.length + l0_13.length < 140737488355328
    · rw [if_pos c2] at h
      simp only [Option.some.injEq, Prod.mk.injEq] at h
      obtain ⟨rfl, rfl⟩ := h
      have LM := Aside0.mk c2
      clear c1 c2 hb
      go_enter Try.func17, Try.ntmps17
      go_upto_region 1 with (first | ((with_reducible refine gate_dst (N := 1) rfl ?_); refine box_event ?hg (N := 1) ?hd (cs := #[.int .u8 a0_0, .int .u8 a0_1, .int .u8 a0_2, .int .u8 a0_3, .int .u8 a0_4, .int .u8 a0_5, .int .u8 a0_6, .int .u8 a0_7, .int .u8 a0_8, .int .u8 a0_9, .int .u8 a0_10, .int .u8 a0_11, .int .u16 a0_12, .slice A0_13 l0_13.length c0_13]) (t := 28) ?hr ?_; (case hd => rfl); (case hg => rfl); (case hr => first | (go_simp; done) | (go_simp; rfl)); intro gp hg w1 hbox hb; have n0_ := Aside0.mk (below_step (by repeat (first | (with_reducible first | exact HB.out | apply below_alloc | apply pw_below_drewN | apply below_drew1) | exact HB.out)) hb); have HP := Aside0.mk hbox; have GP := Aside0.mk ((by rw [hg]; exact (below_size (by repeat (first | (with_reducible first | exact HB.out | apply below_alloc | apply pw_below_drewN | apply below_drew1) | exact HB.out)))) : w.heap.size ≤ gp); clear HB; have HB := n0_; clear n0_ hb hbox hg))
      have hp12 : w1.cell? ⟨gp, 12, none⟩ = some (.int .u16 a0_12) := (blk_cell HP.out 12).trans rfl
      have hp13 : w1.cell? ⟨gp, 13, none⟩ = some (.slice A0_13 l0_13.length c0_13) := (blk_cell HP.out 13).trans rfl
      go_upto_region 3 with (fail)
      clear hp12 hp13
      refine start_ (n := 7) (S := fun _ => True) (ds := []) #[false, false, false, false, false, false, false] (by kernel_rfl) rfl rfl trivial (fun hHeld => ?_)
      refine with_tabW lychref1_EthBytes.tab3 lychref1_EthBytes.bits3 (fun HT_ HW_ => ?_)
      have n0_ := Aside0.mk (blk_drew HP.out)
      have n1_ := Aside0.mk (below_drew1 HB.out)
      clear HP HB
      have HP := n0_
      have HB := n1_
      clear n0_ n1_
      generalize w1.drew = w2 at HP HB ⊢
      refine pure_ (i := 0) (N := some 9) (v := ?_) (a' := ?_) #[true, false, false, false, false, false, false] rfl rfl (any_of HT_.out (by kernel_rfl)) (fun _ _ _ h => h) (Or.inl ⟨by rfl, ?_⟩) ?_ ?_
      rotate_left
      · intro w'
        go_simp
        with_reducible rfl
      rotate_left
      · simp only [Act.put, List.setIfInBounds_toArray, List.set_cons_zero, List.set_cons_succ, i64_w, i32_w]
        rfl
      refine pure_ (i := 1) (N := some 10) (v := ?_) (a' := ?_) #[true, true, false, false, false, false, false] rfl rfl (any_of HT_.out (by kernel_rfl)) (fun _ _ _ h => h) (Or.inl ⟨by rfl, ?_⟩) ?_ ?_
      rotate_left
      · intro w'
        go_simp
        with_reducible rfl
      rotate_left
      · simp only [Act.put, List.setIfInBounds_toArray, List.set_cons_zero, List.set_cons_succ, i64_w, i32_w]
        rfl
      refine pure_ (i := 3) (N := some 12) (v := ?_) (a' := ?_) #[true, true, false, true, false, false, false] rfl rfl (any_of HT_.out (by kernel_rfl)) (fun _ _ _ h => h) (Or.inl ⟨by rfl, ?_⟩) ?_ ?_
      rotate_left
      · intro w'
        go_simp
        with_reducible rfl
      rotate_left
      · simp only [Act.put, List.setIfInBounds_toArray, List.set_cons_zero, List.set_cons_succ, i64_w, i32_w]
        rfl
      refine pure_ (i := 4) (N := some 13) (v := ?_) (a' := ?_) #[true, true, false, true, true, false, false] rfl rfl (any_of HT_.out (by kernel_rfl)) (fun _ _ _ h => h) (Or.inl ⟨by rfl, ?_⟩) ?_ ?_
      rotate_left
      · intro w'
        go_simp
        with_reducible rfl
      rotate_left
      · simp only [Act.put, List.setIfInBounds_toArray, List.set_cons_zero, List.set_cons_succ, i64_w, i32_w]
        rfl
      refine one_ (i := 2) (N := some 11) #[true, true, true, true, true, false, false] rfl rfl (one_of HT_.out (by kernel_rfl)) (by decide) (fun K hK => ?_)
      refine Kd.R_append_rows_step (Kd.int .u8) (w0 := w) w.heap.size (by rfl) (.const (.slice none 0 0)) (.tmp 10) 22 5 (.int .u8 0) 1 rfl Try.underlying22 info5 rfl (by decide) (by omega) (.slice none 0 0) ([] : List Int) [a0_0, a0_1, a0_2, a0_3, a0_4, a0_5] _ _ _ (fun _ => True) (fun _ => False) rfl (by first | rfl | (go_simp; done)) ?aO ?aR (fun _ _ h => h) (fun _ h => h.elim) ?aF ?aB ?aS ?aL ?_
      (case aR => exact lychref1_EthBytes.lies (o := 0) (by (with_reducible repeat (first | refine blk_drewN ?_ _ | refine blk_drew ?_ | refine blk_alloc ?_ _)); exact HP.out) rfl rfl rfl rfl rfl rfl)
      (case aB => exact (by repeat (first | (with_reducible first | exact HB.out | apply below_alloc | apply pw_below_drewN | apply below_drew1) | exact HB.out)))
      (case aF => exact (fun _ _ => trivial))
      (case aO => exact Kd.R_nil _ _ _ _ _)
      (case aS => exact (below_size (by repeat (first | (with_reducible first | exact HB.out | apply below_alloc | apply pw_below_drewN | apply below_drew1) | exact HB.out))))
      (case aL => simp)
      intro v1 w3 ho hb hg hat
      have n0_ := Aside0.mk (blk_grown (g := gp) (o := .cells #[.int .u8 a0_0, .int .u8 a0_1, .int .u8 a0_2, .int .u8 a0_3, .int .u8 a0_4, .int .u8 a0_5, .int .u8 a0_6, .int .u8 a0_7, .int .u8 a0_8, .int .u8 a0_9, .int .u8 a0_10, .int .u8 a0_11, .int .u16 a0_12, .slice A0_13 l0_13.length c0_13] 28 (0, 0)) (by (with_reducible repeat (first | refine blk_drewN ?_ _ | refine blk_drew ?_ | refine blk_alloc ?_ _)); exact HP.out) hg (fun h_ => by cases h_))
      have n2_ := Aside0.mk hb
      have n3_ := Aside0.mk ho
      clear HP HB ho hb hg hat
      have HP := n0_
      have HB := n2_
      have Hv1 := n3_
      clear n0_ n2_ n3_
      refine hK.out _ _ trivial (fun _ => ?_)
      clear hK K
      refine norm_ (a' := ?_) ?_ ?_
      rotate_left
      · show Act.put _ (some 11) _ = _
        simp only [Act.put, List.setIfInBounds_toArray, List.set_cons_zero, List.set_cons_succ, i64_w, i32_w]
        rfl
      refine one_ (i := 5) (N := some 14) #[true, true, true, true, true, true, false] rfl rfl (one_of HT_.out (by kernel_rfl)) (by decide) (fun K hK => ?_)
      refine Kd.R_append_rows_step (Kd.int .u8) (w0 := w) w.heap.size (by rfl) (.tmp 11) (.tmp 13) 22 5 (.int .u8 0) 1 rfl Try.underlying22 info5 rfl (by decide) (by omega) v1 ([] ++ [a0_0, a0_1, a0_2, a0_3, a0_4, a0_5]) [a0_6, a0_7, a0_8, a0_9, a0_10, a0_11] _ _ _ (fun _ => True) (fun _ => False) rfl (by first | rfl | (go_simp; done)) ?aO ?aR (fun _ _ h => h) (fun _ h => h.elim) ?aF ?aB ?aS ?aL ?_
      (case aR => exact lychref1_EthBytes.lies (o := 6) (by (with_reducible repeat (first | refine blk_drewN ?_ _ | refine blk_drew ?_ | refine blk_alloc ?_ _)); exact HP.out) rfl rfl rfl rfl rfl rfl)
      (case aB => exact (by repeat (first | (with_reducible first | exact HB.out | apply below_alloc | apply pw_below_drewN | apply below_drew1) | exact HB.out)))
      (case aF => exact (fun _ _ => trivial))
      (case aO => exact (by (with_reducible repeat (first | apply Kd.R_alloc | apply Kd.R_drewN | apply Kd.R_drew)); exact Hv1.out))
      (case aS => exact (below_size (by repeat (first | (with_reducible first | exact HB.out | apply below_alloc | apply pw_below_drewN | apply below_drew1) | exact HB.out))))
      (case aL => simp)
      intro v2 w4 ho hb hg hat
      have n0_ := Aside0.mk (blk_grown (g := gp) (o := .cells #[.int .u8 a0_0, .int .u8 a0_1, .int .u8 a0_2, .int .u8 a0_3, .int .u8 a0_4, .int .u8 a0_5, .int .u8 a0_6, .int .u8 a0_7, .int .u8 a0_8, .int .u8 a0_9, .int .u8 a0_10, .int .u8 a0_11, .int .u16 a0_12, .slice A0_13 l0_13.length c0_13] 28 (0, 0)) (by (with_reducible repeat (first | refine blk_drewN ?_ _ | refine blk_drew ?_ | refine blk_alloc ?_ _)); exact HP.out) hg (Kd.R_ne Hv1.out HP.out (by decide)))
      have n2_ := Aside0.mk hb
      have n3_ := Aside0.mk ho
      clear HP HB ho hb hg hat
      have HP := n0_
      have HB := n2_
      have Hv2 := n3_
      clear n0_ n2_ n3_
      refine hK.out _ _ trivial (fun _ => ?_)
      clear hK K
      refine norm_ (a' := ?_) ?_ ?_
      rotate_left
      · show Act.put _ (some 14) _ = _
        simp only [Act.put, List.setIfInBounds_toArray, List.set_cons_zero, List.set_cons_succ, i64_w, i32_w]
        rfl
      refine pure_ (i := 6) (N := some 4) (v := ?_) (a' := ?_) #[true, true, true, true, true, true, true] rfl rfl (any_of HT_.out (by kernel_rfl)) (fun _ _ _ h => h) (Or.inl ⟨by rfl, ?_⟩) ?_ ?_
      rotate_left
      · intro w'
        go_simp
        with_reducible rfl
      rotate_left
      · simp only [Act.put, List.setIfInBounds_toArray, List.set_cons_zero, List.set_cons_succ, i64_w, i32_w]
        rfl
      refine done_ (done_of HT_.out (by kernel_rfl)) ?_
      clear HT_ HW_ hHeld
      have HX : Aside0 (Kd.R (Kd.int .u8) 5 w4 w.heap.size (fun _ => True) v2 ([a0_0, a0_1, a0_2, a0_3, a0_4, a0_5] ++ [a0_6, a0_7, a0_8, a0_9, a0_10, a0_11])) := ⟨Hv2.out⟩
      clear Hv1 Hv2
      obtain ⟨X, hX⟩ : ∃ X, X = [a0_0, a0_1, a0_2, a0_3, a0_4, a0_5] ++ [a0_6, a0_7, a0_8, a0_9, a0_10, a0_11] := ⟨_, rfl⟩
      rw [← hX] at HX A1
      have LX : Aside0 (X.length = 12) := ⟨by rw [hX]; rfl⟩
      clear hX
      obtain ⟨Xo, xc, ex⟩ := Kd.R_slice HX.out
      subst ex
      go_upto_region 4 with (fail)
      refine start_ (n := 9) (S := fun w' => w'.cell? ⟨gp, 12, none⟩ = some (.int .u16 a0_12) ∧ w'.cell? ⟨gp, 13, none⟩ = some (.slice A0_13 l0_13.length c0_13)) (ds := []) #[false, false, false, false, false, false, false, false, false] (by kernel_rfl) rfl rfl ⟨(blk_cell HP.out 12).trans rfl, (blk_cell HP.out 13).trans rfl⟩ (fun hHeld => ?_)
      refine with_tabW lychref1_EthBytes.tab4 lychref1_EthBytes.bits4 (fun HT_ HW_ => ?_)
      have n0_ := Aside0.mk (blk_drew HP.out)
      have n1_ := Aside0.mk (below_drew1 HB.out)
      have n2_ := Aside0.mk (Kd.R_drew HX.out)
      clear HP HB HX
      have HP := n0_
      have HB := n1_
      have HX := n2_
      clear n0_ n1_ n2_
      generalize w4.drew = w5 at HP HB HX hHeld ⊢
      refine pure_ (i := 0) (N := some 15) (v := ?_) (a' := ?_) #[true, false, false, false, false, false, false, false, false] rfl rfl (any_of HT_.out (by kernel_rfl)) (fun _ _ _ h => h) (Or.inl ⟨by rfl, ?_⟩) ?_ ?_
      rotate_left
      · intro w'
        go_simp
        with_reducible rfl
      rotate_left
      · simp only [Act.put, List.setIfInBounds_toArray, List.set_cons_zero, List.set_cons_succ, i64_w, i32_w]
        rfl
      refine pure_ (i := 1) (N := some 16) (v := ?_) (a' := ?_) #[true, true, false, false, false, false, false, false, false] rfl rfl (any_of HT_.out (by kernel_rfl)) (fun _ _ _ h => h) (Or.inl ⟨by rfl, ?_⟩) ?_ ?_
      rotate_left
      · intro w'
        go_simp
        with_reducible rfl
      rotate_left
      · simp only [Act.put, List.setIfInBounds_toArray, List.set_cons_zero, List.set_cons_succ, i64_w, i32_w]
        rfl
      refine take_ (i := 2) (N := some 17) (v := ?_) (a' := ?_) #[true, true, true, false, false, false, false, false, false] rfl rfl (take_ofW HT_.out HW_.out (by kernel_rfl)) (fun _ _ _ h => h) (Or.inl ⟨by rfl, ?_⟩) hHeld ?_ ?_
      rotate_left
      · rintro w' ⟨s0, s1⟩
        go_simp
        with_reducible rfl
      rotate_left
      · simp only [Act.put, List.setIfInBounds_toArray, List.set_cons_zero, List.set_cons_succ, i64_w, i32_w]
        rfl
      refine pure_ (i := 4) (N := some 19) (v := ?_) (a' := ?_) #[true, true, true, false, true, false, false, false, false] rfl rfl (any_of HT_.out (by kernel_rfl)) (fun _ _ _ h => h) (Or.inl ⟨by rfl, ?_⟩) ?_ ?_
      rotate_left
      · intro w'
        go_simp
        with_reducible rfl
      rotate_left
      · simp only [Act.put, List.setIfInBounds_toArray, List.set_cons_zero, List.set_cons_succ, i64_w, i32_w]
        rfl
      refine take_ (i := 5) (N := some 20) (v := ?_) (a' := ?_) #[true, true, true, false, true, true, false, false, false] rfl rfl (take_ofW HT_.out HW_.out (by kernel_rfl)) (fun _ _ _ h => h) (Or.inl ⟨by rfl, ?_⟩) hHeld ?_ ?_
      rotate_left
      · rintro w' ⟨s0, s1⟩
        go_simp
        with_reducible rfl
      rotate_left
      · simp only [Act.put, List.setIfInBounds_toArray, List.set_cons_zero, List.set_cons_succ, i64_w, i32_w]
        rfl
      refine one_ (i := 3) (N := some 18) #[true, true, true, true, true, true, false, false, false] rfl rfl (one_of HT_.out (by kernel_rfl)) (by decide) (fun K hK => ?_)
      refine goes_ Try.func38 (by kernel_rfl) rfl #[.slice Xo X.length xc, .int .u16 a0_12] (by rfl) rfl rfl (by first | rfl | (go_simp; done)) ?_
      with_reducible refine (lychref1_Put16.calls (fun k_ => some k_ = (.slice Xo X.length xc : Value).ownBlock) (.slice Xo X.length xc) X a0_12 b w _ ?side1 ?side2 A1.out).mono ?_
      (case side1 => exact HB.out)
      (case side2 => exact Kd.R_tight rfl HX.out)
      rintro e w6 ⟨v3, rfl, ho, hb, hkp⟩
      refine ⟨_, rfl, ?_⟩
      have n0_ := Aside0.mk (blk_kept HP.out hkp (fun hs_ => (fun e_ => (Kd.R_ne HX.out HP.out (by decide)) e_) hs_))
      have n1_ := Aside0.mk (Kd.R_mono (ok' := fun k_ => True) ho (fun k_ hk_ => trivial))
      have n2_ := Aside0.mk hb
      clear HP HB HX ho hb hkp
      have HP := n0_
      have HO := n1_
      have HB := n2_
      clear n0_ n1_ n2_
      obtain ⟨Bo, bc, eb⟩ := Kd.R_slice HO.out
      subst eb
      refine hK.out _ _ ⟨(blk_cell HP.out 12).trans rfl, (blk_cell HP.out 13).trans rfl⟩ (fun hHeld => ?_)
      clear hK K
      refine norm_ (a' := ?_) ?_ ?_
      rotate_left
      · show Act.put _ (some 18) _ = _
        simp only [Act.put, List.setIfInBounds_toArray, List.set_cons_zero, List.set_cons_succ, i64_w, i32_w]
        rfl
      refine one_ (i := 6) (N := some 21) #[true, true, true, true, true, true, true, false, false] rfl rfl (one_of HT_.out (by kernel_rfl)) (by decide) (fun K hK => ?_)
      refine Kd.R_append_rows_step (Kd.int .u8) (w0 := w) w.heap.size (by rfl) (.tmp 18) (.tmp 20) 22 5 (.int .u8 0) 1 rfl Try.underlying22 info5 rfl (by decide) (by omega) (.slice Bo b.length bc) b l0_13 _ _ _ (fun _ => True) (fun _ => False) rfl (by first | rfl | (go_simp; done)) ?aO ?aR (fun _ _ h => h) (fun _ h => h.elim) ?aF ?aB ?aS ?aL ?_
      (case aR => exact Kd.C_below HR0.out (by repeat (first | (with_reducible first | exact HB.out | apply below_alloc | apply pw_below_drewN | apply below_drew1) | exact HB.out)))
      (case aB => exact (by repeat (first | (with_reducible first | exact HB.out | apply below_alloc | apply pw_below_drewN | apply below_drew1) | exact HB.out)))
      (case aF => exact (fun _ _ => trivial))
      (case aO => exact (by (with_reducible repeat (first | apply Kd.R_alloc | apply Kd.R_drewN | apply Kd.R_drew)); exact HO.out))
      (case aS => exact (below_size (by repeat (first | (with_reducible first | exact HB.out | apply below_alloc | apply pw_below_drewN | apply below_drew1) | exact HB.out))))
      (case aL => have := LM.out; omega)
      intro v4 w7 ho hb hg hat
      have n0_ := Aside0.mk (blk_grown (g := gp) (o := .cells #[.int .u8 a0_0, .int .u8 a0_1, .int .u8 a0_2, .int .u8 a0_3, .int .u8 a0_4, .int .u8 a0_5, .int .u8 a0_6, .int .u8 a0_7, .int .u8 a0_8, .int .u8 a0_9, .int .u8 a0_10, .int .u8 a0_11, .int .u16 a0_12, .slice A0_13 l0_13.length c0_13] 28 (0, 0)) (by (with_reducible repeat (first | refine blk_drewN ?_ _ | refine blk_drew ?_ | refine blk_alloc ?_ _)); exact HP.out) hg (Kd.R_ne HO.out HP.out (by decide)))
      have n2_ := Aside0.mk hb
      have n3_ := Aside0.mk ho
      clear HP HB ho hb hg hat
      have HP := n0_
      have HB := n2_
      have Hv4 := n3_
      clear n0_ n2_ n3_
      obtain ⟨Co, cc, ec⟩ := Kd.R_slice Hv4.out
      subst ec
      refine hK.out _ _ ⟨(blk_cell HP.out 12).trans rfl, (blk_cell HP.out 13).trans rfl⟩ (fun hHeld => ?_)
      clear hK K
      refine norm_ (a' := ?_) ?_ ?_
      rotate_left
      · show Act.put _ (some 21) _ = _
        simp only [Act.put, List.setIfInBounds_toArray, List.set_cons_zero, List.set_cons_succ, i64_w, i32_w]
        rfl
      refine pure_ (i := 7) (N := some 2) (v := ?_) (a' := ?_) #[true, true, true, true, true, true, true, true, false] rfl rfl (any_of HT_.out (by kernel_rfl)) (fun _ _ _ h => h) (Or.inl ⟨by rfl, ?_⟩) ?_ ?_
      rotate_left
      · intro w'
        go_simp
        with_reducible rfl
      rotate_left
      · simp only [Act.put, List.setIfInBounds_toArray, List.set_cons_zero, List.set_cons_succ, i64_w, i32_w]
        rfl
      refine pure_ (i := 8) (N := some 3) (v := ?_) (a' := ?_) #[true, true, true, true, true, true, true, true, true] rfl rfl (any_of HT_.out (by kernel_rfl)) (fun _ _ _ h => h) (Or.inl ⟨by rfl, ?_⟩) ?_ ?_
      rotate_left
      · intro w'
        go_simp
        with_reducible rfl
      rotate_left
      · simp only [Act.put, List.setIfInBounds_toArray, List.set_cons_zero, List.set_cons_succ, i64_w, i32_w]
        rfl
      refine done_ (done_of HT_.out (by kernel_rfl)) ?_
      (try go_wp2)
      go_ret2
      exact ⟨.slice Co (b ++ l0_13).length cc, by first | rfl | (simp; done), Hv4.out, HB.out⟩
    · rw [if_neg c2] at h
      cases h

end Go.Proofs.Ytnfgmcjgmccggaa.PA
