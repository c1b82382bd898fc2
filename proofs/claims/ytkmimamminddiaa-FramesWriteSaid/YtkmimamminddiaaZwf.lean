/- Texts of this claim, merged: FrRI, PBx30, PBx40, Spec, BytesEq, FE, PBx32, PBx33, BytesEqB, FV, PBx28, PBx37, PBx29, PBx31, SumEq, SpecSum, FU, PBx1, PBx38, PBx57, PBx41, FR, SumEqO, FB, FrPw, FrWr, FrAgg. -/
import Derived.Test.YtkmimamminddiaaZwb
import Derived.Test.YtkmimamminddiaaZwd
import Derived.Deep.Cut
import Derived.Deep.CutRange
import Derived.Deep.CutBlock
import Derived.Deep.WholeRow
import Derived.Laws.BitsAllLaws
import Derived.Laws.BitsLemmas
import Derived.RowKit
import Derived.Test.YtkmimamminddiaaZwe
import Derived.Test.YtkmimamminddiaaZwc
import Derived.Test.YtkmimamminddiaaZwa
import Derived.Test.YtkmimamminddiaaChecked
import Derived.OpenShut
import Derived.ChangeArms
namespace Go.Proofs.Ytkmimamminddiaa.PB
open Go.RowKit Go.Proofs.YtkmimamminddiaaW.PrintWords Go.Proofs.YtkmimamminddiaaW.PrintLast Go.Proofs.YtkmimamminddiaaW.PrintMore
set_option linter.unusedVariables false
set_option linter.unusedSimpArgs false
/-- lychref22.ToInside's frame. -/
def refInF (K : Nat) (V ip vt h1 h2 h3 h4 h5 h6 m1 m2 m3 m4 m5 m6 t1 t2 t3 t4 t5 t6 : Int) (p : List Int) : Option (List Int × Int) := (if (p.length : Int) > 1600 then (some (([] : List Int), (23 : Int))) else ((lychref1_EthBytes.f h1 h2 h3 h4 h5 h6 m1 m2 m3 m4 m5 m6 2048 ([] : List Int)).bind fun bt397 => (if bt397.1.length + p.length < 140737488355328 then ((lychref1_VxlanBytes.f V (bt397.1 ++ p)).bind fun bt404 => (if bt404.2 = 0 then ((lychref1_UdpBytes.f 50000 4789 0 bt404.1).bind fun bt408 => ((lychref1_IpBytes.f K 0 64 17 0 2 0 ip vt ([] : List Int) bt408.1).bind fun bt412 => ((lychref1_EthBytes.f t1 t2 t3 t4 t5 t6 m1 m2 m3 m4 m5 m6 2048 bt412.1).bind fun bt416 => (if bt416.2 = 0 then (some (bt416.1, 0)) else (some (([] : List Int), 23)))))) else (some (([] : List Int), 23)))) else (none))))
def ref22_ToInside.R4.T : Bool × List (List Nat × List Nat) := (true, [([], []), ([0], [0]), ([1], [1]), ([], []), ([], []), ([3, 4], [3, 4]), ([2, 5, 5], [2, 5]), ([6], [6]), ([7], [7]), ([7], [7]), ([8, 6, 0, 1, 2, 3, 4, 5, 6, 7, 8], [8]), ([9, 10, 0, 1, 2, 3, 4, 5, 6, 7, 8, 9, 10], [9])])
theorem ref22_ToInside.R4.tab : rtab .any (opsOf Try.f26 4) = ref22_ToInside.R4.T := by kernel_rfl
theorem ref22_ToInside.R4.bits : waitsOk ref22_ToInside.R4.T.2 [0, 1, 3, 0, 0, 24, 63, 127, 255, 255, 511, 2047] = true := by kernel_rfl
set_option maxHeartbeats 40000000 in
set_option maxRecDepth 100000 in
theorem ref22_ToInside.calls (k : Nat) (a0_0 a0_1 a0_2 a0_3 a0_4 a0_5 a0_6 a0_7 a0_8 a0_9 a0_10 a0_11 a0_12 a0_13 a0_14 a0_15 a0_16 a0_17 a0_18 a0_19 a0_20 a0_21 a0_22 a0_23 a0_24 a0_25 a0_26 a0_27 : Int) (A0_28 : Option Addr) (n0_28 c0_28 : Nat) (a1_0 : ByteArray) (a1_1 a1_2 a1_3 a1_4 a1_5 a1_6 a1_7 a1_8 a1_9 a1_10 a1_11 a1_12 a1_13 a1_14 a1_15 a1_16 a1_17 a1_18 a1_19 a1_20 a1_21 a1_22 a1_24 a1_25 a1_26 a1_29 a1_30 a1_31 a1_32 : Int) (A1_23 A1_27 A1_28 : Option Addr) (n1_23 c1_23 n1_27 c1_27 n1_28 c1_28 : Nat) (A2 : Option Addr) (c2 : Nat) (l2 : List Int) (r1 : List Int) (r2 : Int) (w : World) (hr2 : Kd.C (Kd.int .u8) w A2 l2.length l2) (hc2 : l2.length ≤ c2) (h : refInF k (Go.bits .and .u32 a1_1 16777215) a0_0 a1_10 a1_17 a1_18 a1_19 a1_20 a1_21 a1_22 a0_1 a0_2 a0_3 a0_4 a0_5 a0_6 a1_11 a1_12 a1_13 a1_14 a1_15 a1_16 l2 = some (r1, r2)) :
  Calls Try.prog 26 #[.agg #[.int .u32 a0_0, .int .u8 a0_1, .int .u8 a0_2, .int .u8 a0_3, .int .u8 a0_4, .int .u8 a0_5, .int .u8 a0_6, .int .u8 a0_7, .int .u8 a0_8, .int .u8 a0_9, .int .u8 a0_10, .int .u8 a0_11, .int .u8 a0_12, .int .u8 a0_13, .int .u8 a0_14, .int .u8 a0_15, .int .u8 a0_16, .int .u8 a0_17, .int .u8 a0_18, .int .u8 a0_19, .int .u8 a0_20, .int .u8 a0_21, .int .u8 a0_22, .int .u8 a0_23, .int .u8 a0_24, .int .u8 a0_25, .int .u8 a0_26, .int .u32 a0_27, .slice A0_28 n0_28 c0_28], .agg #[.string a1_0, .int .u32 a1_1, .int .u8 a1_2, .int .u8 a1_3, .int .u8 a1_4, .int .u8 a1_5, .int .u8 a1_6, .int .u8 a1_7, .int .u8 a1_8, .int .u8 a1_9, .int .u32 a1_10, .int .u8 a1_11, .int .u8 a1_12, .int .u8 a1_13, .int .u8 a1_14, .int .u8 a1_15, .int .u8 a1_16, .int .u8 a1_17, .int .u8 a1_18, .int .u8 a1_19, .int .u8 a1_20, .int .u8 a1_21, .int .u8 a1_22, .slice A1_23 n1_23 c1_23, .int .u16 a1_24, .int .u16 a1_25, .int .i64 a1_26, .slice A1_27 n1_27 c1_27, .slice A1_28 n1_28 c1_28, .int .i64 a1_29, .int .i64 a1_30, .int .u32 a1_31, .int .u32 a1_32], .slice A2 l2.length c2] w fun e w' => ∃ v0_ : Value, e = .returned (.tuple #[v0_, .int .i64 r2]) ∧ Kd.R (Kd.int .u8) 5 w' w.heap.size (fun _ => True) v0_ r1 ∧ Below w.heap.size w w' := by
 have hu33 := Try.underlying33
 have hu58 := Try.underlying58
 have hu29 := Try.underlying29
 have hu48 := Try.underlying48
 have hu83 := Try.underlying83
 have hu73 := Try.underlying73
 have HC := Aside0.mk hr2
 have HCC := Aside0.mk hc2
 have HB := Aside0.mk (Below.refl w.heap.size w)
 clear hr2 hc2
 have H : refInF k (Go.bits .and .u32 a1_1 16777215) a0_0 a1_10 a1_17 a1_18 a1_19 a1_20 a1_21 a1_22 a0_1 a0_2 a0_3 a0_4 a0_5 a0_6 a1_11 a1_12 a1_13 a1_14 a1_15 a1_16 l2 = some (r1, r2) := h
 clear h
 unfold refInF at H
 obtain ⟨np, hnp⟩ : ∃ np, np = l2.length := ⟨_, rfl⟩
 have HNP := Aside0.mk hnp
 rw [← hnp] at H ⊢
 clear hnp
 go_enter Try.func26, Try.ntmps26
 go_upto_region 1 with (first | ((with_reducible refine gate_dst (N := 3) rfl ?_); refine box_event ?hg (N := 3) ?hd (cs := #[.int .u32 a0_0, .int .u8 a0_1, .int .u8 a0_2, .int .u8 a0_3, .int .u8 a0_4, .int .u8 a0_5, .int .u8 a0_6, .int .u8 a0_7, .int .u8 a0_8, .int .u8 a0_9, .int .u8 a0_10, .int .u8 a0_11, .int .u8 a0_12, .int .u8 a0_13, .int .u8 a0_14, .int .u8 a0_15, .int .u8 a0_16, .int .u8 a0_17, .int .u8 a0_18, .int .u8 a0_19, .int .u8 a0_20, .int .u8 a0_21, .int .u8 a0_22, .int .u8 a0_23, .int .u8 a0_24, .int .u8 a0_25, .int .u8 a0_26, .int .u32 a0_27, .slice A0_28 n0_28 c0_28]) (t := 33) ?hr ?_; (case hd => rfl); (case hg => rfl); (case hr => first | (go_simp; done) | (go_simp; rfl)); intro gp hg w1 hbox hb; have n0_ := Aside0.mk (below_step (by repeat (first | (with_reducible first | exact HB.out | apply below_alloc | apply pw_below_drewN | apply below_drew1) | exact HB.out)) hb); have HP := Aside0.mk hbox; clear HB ; have HB := n0_; clear n0_  hb hbox hg) | ((with_reducible refine gate_dst (N := 4) rfl ?_); refine box_event ?hg (N := 4) ?hd (cs := #[.string a1_0, .int .u32 a1_1, .int .u8 a1_2, .int .u8 a1_3, .int .u8 a1_4, .int .u8 a1_5, .int .u8 a1_6, .int .u8 a1_7, .int .u8 a1_8, .int .u8 a1_9, .int .u32 a1_10, .int .u8 a1_11, .int .u8 a1_12, .int .u8 a1_13, .int .u8 a1_14, .int .u8 a1_15, .int .u8 a1_16, .int .u8 a1_17, .int .u8 a1_18, .int .u8 a1_19, .int .u8 a1_20, .int .u8 a1_21, .int .u8 a1_22, .slice A1_23 n1_23 c1_23, .int .u16 a1_24, .int .u16 a1_25, .int .i64 a1_26, .slice A1_27 n1_27 c1_27, .slice A1_28 n1_28 c1_28, .int .i64 a1_29, .int .i64 a1_30, .int .u32 a1_31, .int .u32 a1_32]) (t := 48) ?hr ?_; (case hd => rfl); (case hg => rfl); (case hr => first | (go_simp; done) | (go_simp; rfl)); intro gq hg w2 hbox hb; have n0_ := Aside0.mk (below_step (by repeat (first | (with_reducible first | exact HB.out | apply below_alloc | apply pw_below_drewN | apply below_drew1) | exact HB.out)) hb); have n1_ := Aside0.mk (blk_below (g := gp) (o := .cells #[.int .u32 a0_0, .int .u8 a0_1, .int .u8 a0_2, .int .u8 a0_3, .int .u8 a0_4, .int .u8 a0_5, .int .u8 a0_6, .int .u8 a0_7, .int .u8 a0_8, .int .u8 a0_9, .int .u8 a0_10, .int .u8 a0_11, .int .u8 a0_12, .int .u8 a0_13, .int .u8 a0_14, .int .u8 a0_15, .int .u8 a0_16, .int .u8 a0_17, .int .u8 a0_18, .int .u8 a0_19, .int .u8 a0_20, .int .u8 a0_21, .int .u8 a0_22, .int .u8 a0_23, .int .u8 a0_24, .int .u8 a0_25, .int .u8 a0_26, .int .u32 a0_27, .slice A0_28 n0_28 c0_28] 33 (0, 0)) (by (with_reducible repeat (first | refine blk_drewN ?_ _ | refine blk_drew ?_ | refine blk_alloc ?_ _)); exact HP.out) hb); have HQ := Aside0.mk hbox; clear HB HP; have HB := n0_; have HP := n1_; clear n0_ n1_ hb hbox hg))
 have n_HC := Aside0.mk (Kd.C_below HC.out HB.out)
 clear HC
 have HC := n_HC
 clear n_HC
 by_cases c1 : (np : Int) > 1600
 ·have k1 : decide ((1600 : Int) < (np : Int)) = true := decide_eq_true c1
  have k2 : ((1600 : Int) < (np : Int)) = True := eq_true c1
  rw [if_pos c1] at H
  simp only [Option.some.injEq, Prod.mk.injEq] at H
  obtain ⟨rfl, rfl⟩ := H
  (try dsimp only)
  go_wp2
  (try simp only [Exit.inBlock, Exit.then])
  go_ret2
  exact ⟨_, rfl, Kd.R_nil _ _ _ _ _, HB.out⟩
 ·have k1 : decide ((1600 : Int) < (np : Int)) = false := decide_eq_false c1
  have k2 : ((1600 : Int) < (np : Int)) = False := eq_false c1
  rw [if_neg c1] at H
  obtain ⟨⟨x, xe⟩, hx, H⟩ := bind_some_ H
  dsimp only at H
  by_cases c2 : x.length + np < 140737488355328
  ·rw [if_pos c2] at H
   obtain ⟨⟨v, ve⟩, hv, H⟩ := bind_some_ H
   dsimp only at H
   have HV := Aside0.mk hv
   have HX1 := Aside0.mk hx
   have HXL : Aside0 (x.length + l2.length < 140737488355328) := ⟨by rw [← HNP.out]; exact c2⟩
   clear hv hx c2 c1
   have gp1 : w2.cell? ⟨gp, 1, none⟩ = some (.int .u8 a0_1) := (blk_cell HP.out 1).trans rfl
   have gp2 : w2.cell? ⟨gp, 2, none⟩ = some (.int .u8 a0_2) := (blk_cell HP.out 2).trans rfl
   have gp3 : w2.cell? ⟨gp, 3, none⟩ = some (.int .u8 a0_3) := (blk_cell HP.out 3).trans rfl
   have gp4 : w2.cell? ⟨gp, 4, none⟩ = some (.int .u8 a0_4) := (blk_cell HP.out 4).trans rfl
   have gp5 : w2.cell? ⟨gp, 5, none⟩ = some (.int .u8 a0_5) := (blk_cell HP.out 5).trans rfl
   have gp6 : w2.cell? ⟨gp, 6, none⟩ = some (.int .u8 a0_6) := (blk_cell HP.out 6).trans rfl
   have gq17 : w2.cell? ⟨gq, 17, none⟩ = some (.int .u8 a1_17) := (blk_cell HQ.out 17).trans rfl
   have gq18 : w2.cell? ⟨gq, 18, none⟩ = some (.int .u8 a1_18) := (blk_cell HQ.out 18).trans rfl
   have gq19 : w2.cell? ⟨gq, 19, none⟩ = some (.int .u8 a1_19) := (blk_cell HQ.out 19).trans rfl
   have gq20 : w2.cell? ⟨gq, 20, none⟩ = some (.int .u8 a1_20) := (blk_cell HQ.out 20).trans rfl
   have gq21 : w2.cell? ⟨gq, 21, none⟩ = some (.int .u8 a1_21) := (blk_cell HQ.out 21).trans rfl
   have gq22 : w2.cell? ⟨gq, 22, none⟩ = some (.int .u8 a1_22) := (blk_cell HQ.out 22).trans rfl
   go_wp2_with fail
   clear gp1 gp2 gp3 gp4 gp5 gp6 gq17 gq18 gq19 gq20 gq21 gq22
   clear k1 k2
   refine (lychref1_EthBytes.calls a1_17 a1_18 a1_19 a1_20 a1_21 a1_22 a0_1 a0_2 a0_3 a0_4 a0_5 a0_6 2048 none 0 [] x xe _ (Kd.C_nil _ _) (Nat.le_refl _) HX1.out).mono ?_
   rintro e w3 ⟨v_, rfl, ho, hb⟩
   have HX := Aside0.mk (Kd.R_lower ho (below_size HB.out))
   obtain ⟨Ax, cx, rfl, _, _⟩ := Kd.R_reads ho
   clear ho HX1
   have hb_ := hb
   have n_HB := Aside0.mk (below_step HB.out hb_)
   have n_HP := Aside0.mk (blk_below HP.out hb_)
   have n_HQ := Aside0.mk (blk_below HQ.out hb_)
   have n_HC := Aside0.mk (Kd.C_below HC.out hb_)
   clear HB HP HQ HC hb_
   have HB := n_HB
   have HP := n_HP
   have HQ := n_HQ
   have HC := n_HC
   clear n_HB n_HP n_HQ n_HC
   clear hb
   (try dsimp only)
   rw [HNP.out]
   go_upto_region 4 with (fail)
   generalize w3 = w4 at HB HP HQ HC HX ⊢
   refine start_ (n := 12) (S := fun w' => w'.cell? ⟨gq, 1, none⟩ = some (.int .u32 a1_1)) (ds := []) #[false, false, false, false, false, false, false, false, false, false, false, false] (by kernel_rfl) rfl rfl ((blk_cell HQ.out 1).trans rfl) (fun hHeld => ?_)
   refine with_tabW ref22_ToInside.R4.tab ref22_ToInside.R4.bits (fun HT_ HW_ => ?_)
   have hb_ := below_drew1 (Below.refl w4.heap.size w4)
   have n_HP := Aside0.mk (blk_below HP.out hb_)
   have n_HQ := Aside0.mk (blk_below HQ.out hb_)
   have n_HC := Aside0.mk (Kd.C_below HC.out hb_)
   have n_HX := Aside0.mk (Kd.R_drew HX.out)
   have n_HB := Aside0.mk (below_step HB.out hb_)
   clear HP HQ HC HX HB hb_
   have HP := n_HP
   have HQ := n_HQ
   have HC := n_HC
   have HX := n_HX
   have HB := n_HB
   clear n_HP n_HQ n_HC n_HX n_HB
   generalize w4.drew = w4 at HP HQ HC HX HB hHeld ⊢
   refine pure_ (i := 0) (N := some 31) (v := ?_) (a' := ?_) #[true, false, false, false, false, false, false, false, false, false, false, false] rfl rfl (any_of HT_.out (by kernel_rfl)) (fun _ _ _ h => h) (Or.inl ⟨by rfl, ?_⟩) ?_ ?_
   rotate_left
   ·intro w'
    go_simp
    with_reducible rfl
   rotate_left
   ·simp only [Act.put, List.setIfInBounds_toArray, List.set_cons_zero, List.set_cons_succ, i64_w, i32_w]
    rfl
   refine pure_ (i := 3) (N := some 34) (v := ?_) (a' := ?_) #[true, false, false, true, false, false, false, false, false, false, false, false] rfl rfl (any_of HT_.out (by kernel_rfl)) (fun _ _ _ h => h) (Or.inl ⟨by rfl, ?_⟩) ?_ ?_
   rotate_left
   ·intro w'
    go_simp
    with_reducible rfl
   rotate_left
   ·simp only [Act.put, List.setIfInBounds_toArray, List.set_cons_zero, List.set_cons_succ, i64_w, i32_w]
    rfl
   refine pure_ (i := 4) (N := some 35) (v := ?_) (a' := ?_) #[true, false, false, true, true, false, false, false, false, false, false, false] rfl rfl (any_of HT_.out (by kernel_rfl)) (fun _ _ _ h => h) (Or.inl ⟨by rfl, ?_⟩) ?_ ?_
   rotate_left
   ·intro w'
    go_simp
    with_reducible rfl
   rotate_left
   ·simp only [Act.put, List.setIfInBounds_toArray, List.set_cons_zero, List.set_cons_succ, i64_w, i32_w]
    rfl
   refine take_ (i := 1) (N := some 32) (v := ?_) (a' := ?_) #[true, true, false, true, true, false, false, false, false, false, false, false] rfl rfl (take_ofW HT_.out HW_.out (by kernel_rfl)) (fun _ _ _ h => h) (Or.inl ⟨by rfl, ?_⟩) hHeld ?_ ?_
   rotate_left
   ·intro w' s0
    go_simp
    with_reducible rfl
   rotate_left
   ·simp only [Act.put, List.setIfInBounds_toArray, List.set_cons_zero, List.set_cons_succ, i64_w, i32_w]
    rfl
   refine pure_ (i := 2) (N := some 33) (v := ?_) (a' := ?_) #[true, true, true, true, true, false, false, false, false, false, false, false] rfl rfl (any_of HT_.out (by kernel_rfl)) (fun _ _ _ h => h) (Or.inl ⟨by rfl, ?_⟩) ?_ ?_
   rotate_left
   ·intro w'
    go_simp
    with_reducible rfl
   rotate_left
   ·simp only [Act.put, List.setIfInBounds_toArray, List.set_cons_zero, List.set_cons_succ, i64_w, i32_w]
    rfl
   refine one_ (i := 5) (N := some 36) #[true, true, true, true, true, true, false, false, false, false, false, false] rfl rfl (one_of HT_.out (by kernel_rfl)) (by decide) (fun K hK => ?_)
   refine Kd.R_append_rows_step (Kd.int .u8) (w0 := w) w.heap.size (by rfl) (.tmp 34) (.tmp 35) 23 5 (.int .u8 0) 1 rfl Try.underlying23 info5 rfl (by decide) (by omega) (.slice Ax x.length cx) x l2 _ _ _ (fun _ => True) (fun _ => False) rfl rfl ?aO ?aR (fun _ _ h => h) (fun _ h => h.elim) ?aF ?aB ?aS ?aL ?_
   (case aR => exact HC.out)
   (case aF => exact (fun _ _ => trivial))
   (case aB => exact HB.out)
   (case aS => exact below_size HB.out)
   (case aO => exact HX.out)
   (case aL => have := HXL.out; omega)
   intro v5 w5 ho hb hg hat
   have n1_ := Aside0.mk (blk_grown HP.out hg (Kd.R_ne HX.out HP.out (by decide)))
   have n2_ := Aside0.mk (blk_grown HQ.out hg (Kd.R_ne HX.out HQ.out (by decide)))
   obtain ⟨y, hy⟩ : ∃ y, y = x ++ l2 := ⟨_, rfl⟩
   rw [← hy] at ho
   have HY := Aside0.mk hy
   obtain ⟨Ay, cy, rfl, hcy, hky⟩ := Kd.R_reads ho
   have HKy := Aside0.mk hky
   have HCy := Aside0.mk hcy
   clear hg hat HB HP HQ ho hcy hky HX HC hy
   have HB := Aside0.mk hb
   have HP := n1_
   have HQ := n2_
   clear hb n1_ n2_
   refine hK.out _ _ ((blk_cell HQ.out 1).trans rfl) (fun hHeld => ?_)
   clear hK K
   refine norm_ (a' := ?_) ?_ ?_
   rotate_left
   ·show Act.put _ (some 36) _ = _
    simp only [Act.put, List.setIfInBounds_toArray, List.set_cons_zero, List.set_cons_succ, i64_w, i32_w]
    rfl
   refine one_ (i := 6) (N := some 37) #[true, true, true, true, true, true, true, false, false, false, false, false] rfl rfl (one_of HT_.out (by kernel_rfl)) (by decide) (fun K hK => ?_)
   refine goes_ Try.func47 (by kernel_rfl) rfl #[.int .u32 (Go.bits .and .u32 a1_1 16777215), .slice Ay y.length cy] (by rfl) rfl rfl (by first | rfl | (go_simp; done) | (go_simp; rfl) | (go_simp; decide)) ?_
   refine (lychref1_VxlanBytes.calls (Go.bits .and .u32 a1_1 16777215) Ay cy y v ve _ HKy.out HCy.out (by rw [HY.out]; exact HV.out)).mono ?_
   rintro e w6 ⟨v_, rfl, ho, hb⟩
   obtain ⟨Av, cv, rfl, hcv, hkv⟩ := Kd.R_reads ho
   have HKv := Aside0.mk hkv
   have HCv := Aside0.mk hcv
   clear hkv hcv
   clear ho HKy HV
   refine ⟨_, rfl, ?_⟩
   have hb_ := hb
   have n_HB := Aside0.mk (below_step HB.out hb_)
   have n_HP := Aside0.mk (blk_below HP.out hb_)
   have n_HQ := Aside0.mk (blk_below HQ.out hb_)
   clear HB HP HQ hb_
   have HB := n_HB
   have HP := n_HP
   have HQ := n_HQ
   clear n_HB n_HP n_HQ
   clear hb
   refine hK.out _ _ ((blk_cell HQ.out 1).trans rfl) (fun hHeld => ?_)
   clear hK K
   refine norm_ (a' := ?_) ?_ ?_
   rotate_left
   ·show Act.put _ (some 37) _ = _
    simp only [Act.put, List.setIfInBounds_toArray, List.set_cons_zero, List.set_cons_succ, i64_w, i32_w]
    rfl
   refine pure_ (i := 7) (N := some 30) (v := ?_) (a' := ?_) #[true, true, true, true, true, true, true, true, false, false, false, false] rfl rfl (any_of HT_.out (by kernel_rfl)) (fun _ _ _ h => h) (Or.inl ⟨by rfl, ?_⟩) ?_ ?_
   rotate_left
   ·intro w'
    go_simp
    with_reducible rfl
   rotate_left
   ·simp only [Act.put, List.setIfInBounds_toArray, List.set_cons_zero, List.set_cons_succ, i64_w, i32_w]
    rfl
   refine pure_ (i := 8) (N := some 38) (v := ?_) (a' := ?_) #[true, true, true, true, true, true, true, true, true, false, false, false] rfl rfl (any_of HT_.out (by kernel_rfl)) (fun _ _ _ h => h) (Or.inl ⟨by rfl, ?_⟩) ?_ ?_
   rotate_left
   ·intro w'
    go_simp
    with_reducible rfl
   rotate_left
   ·simp only [Act.put, List.setIfInBounds_toArray, List.set_cons_zero, List.set_cons_succ, i64_w, i32_w]
    rfl
   refine pure_ (i := 9) (N := some 39) (v := ?_) (a' := ?_) #[true, true, true, true, true, true, true, true, true, true, false, false] rfl rfl (any_of HT_.out (by kernel_rfl)) (fun _ _ _ h => h) (Or.inl ⟨by rfl, ?_⟩) ?_ ?_
   rotate_left
   ·intro w'
    go_simp
    with_reducible rfl
   rotate_left
   ·simp only [Act.put, List.setIfInBounds_toArray, List.set_cons_zero, List.set_cons_succ, i64_w, i32_w]
    rfl
   refine pure_ (i := 10) (N := some 10) (v := ?_) (a' := ?_) #[true, true, true, true, true, true, true, true, true, true, true, false] rfl rfl (any_of HT_.out (by kernel_rfl)) (fun _ _ _ h => h) (Or.inl ⟨by rfl, ?_⟩) ?_ ?_
   rotate_left
   ·intro w'
    go_simp
    with_reducible rfl
   rotate_left
   ·simp only [Act.put, List.setIfInBounds_toArray, List.set_cons_zero, List.set_cons_succ, i64_w, i32_w]
    rfl
   refine pure_ (i := 11) (N := some 11) (v := ?_) (a' := ?_) #[true, true, true, true, true, true, true, true, true, true, true, true] rfl rfl (any_of HT_.out (by kernel_rfl)) (fun _ _ _ h => h) (Or.inl ⟨by rfl, ?_⟩) ?_ ?_
   rotate_left
   ·intro w'
    go_simp
    with_reducible rfl
   rotate_left
   ·simp only [Act.put, List.setIfInBounds_toArray, List.set_cons_zero, List.set_cons_succ, i64_w, i32_w]
    rfl
   refine done_ (done_of HT_.out (by kernel_rfl)) ?_
   clear HT_ HW_ hHeld
   (try dsimp only)
   by_cases cv : ve = 0
   ·have cv1 : (ve == 0) = true := beq_iff_eq.2 cv
    have cv2 : (ve != 0) = false := by rw [bne, cv1]; rfl
    rw [if_pos cv] at H
    clear cv
    obtain ⟨⟨u, ue⟩, hu, H⟩ := bind_some_ H
    obtain ⟨⟨q, qe⟩, hq, H⟩ := bind_some_ H
    obtain ⟨⟨o, oe⟩, hz, H⟩ := bind_some_ H
    dsimp only at H hq hz hu
    have HU1 := Aside0.mk hu
    have HQ1 := Aside0.mk hq
    have HZ1 := Aside0.mk hz
    clear hu hq hz
    (try dsimp only)
    go_wp2_with fail
    refine (lychref1_UdpBytes.calls 50000 4789 0 Av cv v u ue _ HKv.out HCv.out HU1.out).mono ?_
    rintro e w7 ⟨v_, rfl, ho, hb⟩
    obtain ⟨Au, cu, rfl, hcu, hku⟩ := Kd.R_reads ho
    have HKu := Aside0.mk hku
    have HCu := Aside0.mk hcu
    clear hku hcu
    clear ho HKv HU1
    have hb_ := hb
    have n_HB := Aside0.mk (below_step HB.out hb_)
    have n_HP := Aside0.mk (blk_below HP.out hb_)
    have n_HQ := Aside0.mk (blk_below HQ.out hb_)
    clear HB HP HQ hb_
    have HB := n_HB
    have HP := n_HP
    have HQ := n_HQ
    clear n_HB n_HP n_HQ
    clear hb
    have gp0 : w7.cell? ⟨gp, 0, none⟩ = some (.int .u32 a0_0) := (blk_cell HP.out 0).trans rfl
    have gq10 : w7.cell? ⟨gq, 10, none⟩ = some (.int .u32 a1_10) := (blk_cell HQ.out 10).trans rfl
    (try dsimp only)
    go_wp2_with fail
    clear gp0 gq10
    refine (lychref1_IpBytes.calls k 0 64 17 0 2 0 a0_0 a1_10 none 0 [] Au cu u q qe _ (Kd.C_nil _ _) (Nat.le_refl _) HKu.out HCu.out HQ1.out).mono ?_
    rintro e w8 ⟨v_, rfl, ho, hb⟩
    obtain ⟨Aq, cq, rfl, hcq, hkq⟩ := Kd.R_reads ho
    have HKq := Aside0.mk hkq
    have HCq := Aside0.mk hcq
    clear hkq hcq
    clear ho HKu HQ1
    have hb_ := hb
    have n_HB := Aside0.mk (below_step HB.out hb_)
    have n_HP := Aside0.mk (blk_below HP.out hb_)
    have n_HQ := Aside0.mk (blk_below HQ.out hb_)
    clear HB HP HQ hb_
    have HB := n_HB
    have HP := n_HP
    have HQ := n_HQ
    clear n_HB n_HP n_HQ
    clear hb
    have gp1 : w8.cell? ⟨gp, 1, none⟩ = some (.int .u8 a0_1) := (blk_cell HP.out 1).trans rfl
    have gp2 : w8.cell? ⟨gp, 2, none⟩ = some (.int .u8 a0_2) := (blk_cell HP.out 2).trans rfl
    have gp3 : w8.cell? ⟨gp, 3, none⟩ = some (.int .u8 a0_3) := (blk_cell HP.out 3).trans rfl
    have gp4 : w8.cell? ⟨gp, 4, none⟩ = some (.int .u8 a0_4) := (blk_cell HP.out 4).trans rfl
    have gp5 : w8.cell? ⟨gp, 5, none⟩ = some (.int .u8 a0_5) := (blk_cell HP.out 5).trans rfl
    have gp6 : w8.cell? ⟨gp, 6, none⟩ = some (.int .u8 a0_6) := (blk_cell HP.out 6).trans rfl
    have gq11 : w8.cell? ⟨gq, 11, none⟩ = some (.int .u8 a1_11) := (blk_cell HQ.out 11).trans rfl
    have gq12 : w8.cell? ⟨gq, 12, none⟩ = some (.int .u8 a1_12) := (blk_cell HQ.out 12).trans rfl
    have gq13 : w8.cell? ⟨gq, 13, none⟩ = some (.int .u8 a1_13) := (blk_cell HQ.out 13).trans rfl
    have gq14 : w8.cell? ⟨gq, 14, none⟩ = some (.int .u8 a1_14) := (blk_cell HQ.out 14).trans rfl
    have gq15 : w8.cell? ⟨gq, 15, none⟩ = some (.int .u8 a1_15) := (blk_cell HQ.out 15).trans rfl
    have gq16 : w8.cell? ⟨gq, 16, none⟩ = some (.int .u8 a1_16) := (blk_cell HQ.out 16).trans rfl
    (try dsimp only)
    go_wp2_with fail
    clear gp1 gp2 gp3 gp4 gp5 gp6 gq11 gq12 gq13 gq14 gq15 gq16
    refine (lychref1_EthBytes.calls a1_11 a1_12 a1_13 a1_14 a1_15 a1_16 a0_1 a0_2 a0_3 a0_4 a0_5 a0_6 2048 Aq cq q o oe _ HKq.out HCq.out HZ1.out).mono ?_
    rintro e w9 ⟨v_, rfl, ho, hb⟩
    have HO := Aside0.mk (Kd.R_lower ho (below_size HB.out))
    obtain ⟨Ao, co, rfl, _, _⟩ := Kd.R_reads ho
    clear ho HKq HZ1
    have hb_ := hb
    have n_HB := Aside0.mk (below_step HB.out hb_)
    clear HB hb_
    have HB := n_HB
    clear n_HB
    clear hb HP HQ
    by_cases cz : oe = 0
    ·have cz1 : (oe == 0) = true := beq_iff_eq.2 cz
     have cz2 : (oe != 0) = false := by rw [bne, cz1]; rfl
     rw [if_pos cz] at H
     clear cz
     simp only [Option.some.injEq, Prod.mk.injEq] at H
     obtain ⟨rfl, rfl⟩ := H
     (try dsimp only)
     go_wp2
     (try simp only [Exit.inBlock, Exit.then])
     go_ret2
     exact ⟨_, rfl, HO.out, HB.out⟩
    ·have cz1 : (oe == 0) = false := beq_eq_false_iff_ne.2 cz
     have cz2 : (oe != 0) = true := bne_iff_ne.2 cz
     rw [if_neg cz] at H
     clear cz
     simp only [Option.some.injEq, Prod.mk.injEq] at H
     obtain ⟨rfl, rfl⟩ := H
     (try dsimp only)
     go_wp2
     (try simp only [Exit.inBlock, Exit.then])
     go_ret2
     exact ⟨_, rfl, Kd.R_nil _ _ _ _ _, HB.out⟩
   ·have cv1 : (ve == 0) = false := beq_eq_false_iff_ne.2 cv
    have cv2 : (ve != 0) = true := bne_iff_ne.2 cv
    rw [if_neg cv] at H
    clear cv
    clear HP HQ
    simp only [Option.some.injEq, Prod.mk.injEq] at H
    obtain ⟨rfl, rfl⟩ := H
    (try dsimp only)
    go_wp2
    (try simp only [Exit.inBlock, Exit.then])
    go_ret2
    exact ⟨_, rfl, Kd.R_nil _ _ _ _ _, HB.out⟩
  ·rw [if_neg c2] at H
   cases H
set_option maxHeartbeats 40000000 in
set_option maxRecDepth 100000 in
theorem ref22_ToOutside.calls (a0_0 a0_1 a0_2 a0_3 a0_4 a0_5 a0_6 a0_7 a0_8 a0_9 a0_10 a0_11 a0_12 a0_13 a0_14 a0_15 a0_16 a0_17 a0_18 a0_19 a0_20 a0_21 a0_22 a0_23 a0_24 a0_25 a0_26 a0_27 : Int) (A0_28 : Option Addr) (n0_28 c0_28 : Nat) (A2 : Option Addr) (c2 : Nat) (l2 : List Int) (r1 : List Int) (r2 : Int) (w : World) (hr2 : Kd.C (Kd.int .u8) w A2 l2.length l2) (hc2 : l2.length ≤ c2) (h : (lychref1_EthBytes.f a0_13 a0_14 a0_15 a0_16 a0_17 a0_18 a0_7 a0_8 a0_9 a0_10 a0_11 a0_12 2048 l2).bind (fun bt421 => (some (bt421.1, bt421.2))) = some (r1, r2)) :
  Calls Try.prog 28 #[.agg #[.int .u32 a0_0, .int .u8 a0_1, .int .u8 a0_2, .int .u8 a0_3, .int .u8 a0_4, .int .u8 a0_5, .int .u8 a0_6, .int .u8 a0_7, .int .u8 a0_8, .int .u8 a0_9, .int .u8 a0_10, .int .u8 a0_11, .int .u8 a0_12, .int .u8 a0_13, .int .u8 a0_14, .int .u8 a0_15, .int .u8 a0_16, .int .u8 a0_17, .int .u8 a0_18, .int .u8 a0_19, .int .u8 a0_20, .int .u8 a0_21, .int .u8 a0_22, .int .u8 a0_23, .int .u8 a0_24, .int .u8 a0_25, .int .u8 a0_26, .int .u32 a0_27, .slice A0_28 n0_28 c0_28], .slice A2 l2.length c2] w fun e w' => ∃ v0_ : Value, e = .returned (.tuple #[v0_, .int .i64 r2]) ∧ Kd.R (Kd.int .u8) 5 w' w.heap.size (fun _ => True) v0_ r1 ∧ Below w.heap.size w w' := by
 have hu33 := Try.underlying33
 have hu58 := Try.underlying58
 have hu29 := Try.underlying29
 have hu48 := Try.underlying48
 have hu83 := Try.underlying83
 have hu73 := Try.underlying73
 have HC := Aside0.mk hr2
 have HCC := Aside0.mk hc2
 have HB := Aside0.mk (Below.refl w.heap.size w)
 clear hr2 hc2
 obtain ⟨⟨x, xe⟩, hx, H⟩ := bind_some_ h
 clear h
 simp only [Option.some.injEq, Prod.mk.injEq] at H
 obtain ⟨rfl, rfl⟩ := H
 go_enter Try.func28, Try.ntmps28
 go_upto_region 1 with (((with_reducible refine gate_dst (N := 2) rfl ?_); refine box_event ?hg (N := 2) ?hd (cs := #[.int .u32 a0_0, .int .u8 a0_1, .int .u8 a0_2, .int .u8 a0_3, .int .u8 a0_4, .int .u8 a0_5, .int .u8 a0_6, .int .u8 a0_7, .int .u8 a0_8, .int .u8 a0_9, .int .u8 a0_10, .int .u8 a0_11, .int .u8 a0_12, .int .u8 a0_13, .int .u8 a0_14, .int .u8 a0_15, .int .u8 a0_16, .int .u8 a0_17, .int .u8 a0_18, .int .u8 a0_19, .int .u8 a0_20, .int .u8 a0_21, .int .u8 a0_22, .int .u8 a0_23, .int .u8 a0_24, .int .u8 a0_25, .int .u8 a0_26, .int .u32 a0_27, .slice A0_28 n0_28 c0_28]) (t := 33) ?hr ?_; (case hd => rfl); (case hg => rfl); (case hr => first | (go_simp; done) | (go_simp; rfl)); intro gp hg w1 hbox hb; have n0_ := Aside0.mk (below_step (by repeat (first | (with_reducible first | exact HB.out | apply below_alloc | apply pw_below_drewN | apply below_drew1) | exact HB.out)) hb); have HP := Aside0.mk hbox; clear HB ; have HB := n0_; clear n0_  hb hbox hg))
 have n_HC := Aside0.mk (Kd.C_below HC.out HB.out)
 clear HC
 have HC := n_HC
 clear n_HC
 have gp7 : w1.cell? ⟨gp, 7, none⟩ = some (.int .u8 a0_7) := (blk_cell HP.out 7).trans rfl
 have gp8 : w1.cell? ⟨gp, 8, none⟩ = some (.int .u8 a0_8) := (blk_cell HP.out 8).trans rfl
 have gp9 : w1.cell? ⟨gp, 9, none⟩ = some (.int .u8 a0_9) := (blk_cell HP.out 9).trans rfl
 have gp10 : w1.cell? ⟨gp, 10, none⟩ = some (.int .u8 a0_10) := (blk_cell HP.out 10).trans rfl
 have gp11 : w1.cell? ⟨gp, 11, none⟩ = some (.int .u8 a0_11) := (blk_cell HP.out 11).trans rfl
 have gp12 : w1.cell? ⟨gp, 12, none⟩ = some (.int .u8 a0_12) := (blk_cell HP.out 12).trans rfl
 have gp13 : w1.cell? ⟨gp, 13, none⟩ = some (.int .u8 a0_13) := (blk_cell HP.out 13).trans rfl
 have gp14 : w1.cell? ⟨gp, 14, none⟩ = some (.int .u8 a0_14) := (blk_cell HP.out 14).trans rfl
 have gp15 : w1.cell? ⟨gp, 15, none⟩ = some (.int .u8 a0_15) := (blk_cell HP.out 15).trans rfl
 have gp16 : w1.cell? ⟨gp, 16, none⟩ = some (.int .u8 a0_16) := (blk_cell HP.out 16).trans rfl
 have gp17 : w1.cell? ⟨gp, 17, none⟩ = some (.int .u8 a0_17) := (blk_cell HP.out 17).trans rfl
 have gp18 : w1.cell? ⟨gp, 18, none⟩ = some (.int .u8 a0_18) := (blk_cell HP.out 18).trans rfl
 go_wp2_with fail
 clear gp7 gp8 gp9 gp10 gp11 gp12 gp13 gp14 gp15 gp16 gp17 gp18
 refine (lychref1_EthBytes.calls a0_13 a0_14 a0_15 a0_16 a0_17 a0_18 a0_7 a0_8 a0_9 a0_10 a0_11 a0_12 2048 A2 c2 l2 x xe _ HC.out HCC.out hx).mono ?_
 rintro e w3 ⟨v_, rfl, ho, hb⟩
 have HX := Aside0.mk (Kd.R_lower ho (below_size HB.out))
 obtain ⟨Ax, cx, rfl, _, _⟩ := Kd.R_reads ho
 clear ho hx
 have hb_ := hb
 have n_HB := Aside0.mk (below_step HB.out hb_)
 clear HB hb_
 have HB := n_HB
 clear n_HB
 clear hb HP
 (try dsimp only)
 go_wp2
 (try simp only [Exit.inBlock, Exit.then])
 go_ret2
 exact ⟨_, rfl, HX.out, HB.out⟩
end Go.Proofs.Ytkmimamminddiaa.PB

-- written by a patched print
namespace Go.Proofs.Ytkmimamminddiaa.PB
open Go.RowKit Go.Proofs.YtkmimamminddiaaW.PrintWords Go.Proofs.YtkmimamminddiaaW.PrintLast Go.Proofs.YtkmimamminddiaaW.PrintMore
attribute [local go_sem] max2_int min2_int max_two min_two max_three min_three max_four min_four   -- for this text's walks alone
set_option linter.unusedVariables false
set_option linter.unusedSimpArgs false

/-! ### lychref1_Get16: function 64 -/
/-! ### lychref1_cut: function 65 -/
end Go.Proofs.Ytkmimamminddiaa.PB

-- written by a patched print
namespace Go.Proofs.Ytkmimamminddiaa.PB
open Go.RowKit Go.Proofs.YtkmimamminddiaaW.PrintWords Go.Proofs.YtkmimamminddiaaW.PrintLast Go.Proofs.YtkmimamminddiaaW.PrintMore
attribute [local go_sem] max2_int min2_int max_two min_two max_three min_three max_four min_four   -- for this text's walks alone
set_option linter.unusedVariables false
set_option linter.unusedSimpArgs false

/-! ### lychref1_Eth: function 29 -/
end Go.Proofs.Ytkmimamminddiaa.PB

/- Plain laws on lists of bytes, 16-bit words and the Internet's checksum: no program in sight. -/
namespace Go.Proofs.Ytkmimamminddiaa.Spec
set_option linter.unusedVariables false
set_option linter.unusedSimpArgs false
open Go.RowKit

/-- bytes -/
def IsB (l : List Int) : Prop := ∀ x ∈ l, 0 ≤ x ∧ x ≤ 255
/-- words of 16 bits -/
def IsW (l : List Int) : Prop := ∀ x ∈ l, 0 ≤ x ∧ x ≤ 65535
theorem IsB.nil : IsB [] := fun _ h => by simp at h
theorem IsB.cons {a : Int} {l : List Int} (h : 0 ≤ a ∧ a ≤ 255) (hl : IsB l) : IsB (a :: l) := fun x hx => by
 rcases List.mem_cons.1 hx with rfl | hx
 ·exact h
 ·exact hl _ hx
theorem IsB.append {l m : List Int} (h : IsB l) (hm : IsB m) : IsB (l ++ m) := fun x hx => by
 rcases List.mem_append.1 hx with hx | hx
 ·exact h _ hx
 ·exact hm _ hx
theorem IsB.left {l m : List Int} (h : IsB (l ++ m)) : IsB l := fun x hx => h x (List.mem_append.2 (.inl hx))
theorem IsB.take {l : List Int} (h : IsB l) (n : Nat) : IsB (l.take n) := fun x hx => h x (List.mem_of_mem_take hx)
theorem IsB.drop {l : List Int} (h : IsB l) (n : Nat) : IsB (l.drop n) := fun x hx => h x (List.mem_of_mem_drop hx)
theorem IsB.set {l : List Int} (h : IsB l) (i : Nat) {v : Int} (hv : 0 ≤ v ∧ v ≤ 255) : IsB (l.set i v) := fun x hx => by
 rcases List.mem_or_eq_of_mem_set hx with hx | rfl
 ·exact h _ hx
 ·exact hv
theorem IsB.replicate (n : Nat) : IsB (List.replicate n 0) := fun x hx => by
 have := List.eq_of_mem_replicate hx
 omega
theorem IsB.getD {l : List Int} (h : IsB l) (i : Nat) : 0 ≤ l.getD i 0 ∧ l.getD i 0 ≤ 255 := by
 rw [List.getD_eq_getElem?_getD]
 rcases Nat.lt_or_ge i l.length with hi | hi
 ·rw [List.getElem?_eq_getElem hi]
  exact h _ (List.getElem_mem hi)
 ·rw [List.getElem?_eq_none hi]
  simp

def words : List Int → List Int
 | [] => []
 | [a] => [a * 256]
 | a :: b :: t => (a * 256 + b) :: words t
theorem words_isW : ∀ l : List Int, IsB l → IsW (words l)
 | [], _ => fun _ h => by simp [words] at h
 | [a], h => fun x hx => by
  have := h a (by simp)
  simp [words] at hx
  omega
 | a :: b :: t, h => fun x hx => by
  have ha := h a (by simp)
  have hb := h b (by simp)
  have ht : IsB t := fun y hy => h y (by simp [hy])
  rcases List.mem_cons.1 (show x ∈ (a * 256 + b) :: words t from hx) with rfl | hx
  ·omega
  ·exact words_isW t ht _ hx
theorem words_length : ∀ l : List Int, (words l).length = (l.length + 1) / 2
 | [] => rfl
 | [_] => by simp [words]
 | a :: b :: t => by
  have := words_length t
  simp only [words, List.length_cons, this]
  omega
/-- word number j -/
theorem words_get : ∀ (l : List Int) (j : Nat), 2 * j < l.length → (words l)[j]? = some (l.getD (2 * j) 0 * 256 + l.getD (2 * j + 1) 0)
 | [], j, h => by simp at h
 | [a], j, h => by
  have : j = 0 := by simp at h; omega
  subst this
  simp [words]
 | a :: b :: t, 0, _ => by simp [words]
 | a :: b :: t, j + 1, h => by
  have := words_get t j (by simp only [List.length_cons] at h; omega)
  simp only [words, List.getElem?_cons_succ, this]
  rw [show 2 * (j + 1) = 2 * j + 1 + 1 from by omega]
  simp

/-- one's complement addition in 32 bits -/
def oadd (s x : Int) : Int := if s + x > 4294967295 then s + x - 4294967295 else s + x
def addw (s : Int) (ws : List Int) : Int := ws.foldl oadd s
def norm (n : Int) : Int := if n = 0 then 0 else (n - 1) % 65535 + 1
def isum : List Int → Int
 | [] => 0
 | x :: t => x + isum t
theorem isum_nonneg : ∀ l : List Int, IsW l → 0 ≤ isum l
 | [], _ => by simp [isum]
 | x :: t, h => by
  have := isum_nonneg t (fun y hy => h y (by simp [hy]))
  have := h x (by simp)
  simp only [isum]; omega
theorem norm_range (n : Int) (h : 0 ≤ n) : 0 ≤ norm n ∧ norm n ≤ 65535 := by unfold norm; split <;> omega
theorem norm_small {n : Int} (h0 : 0 ≤ n) (h : n ≤ 65535) : norm n = n := by unfold norm; split <;> omega
theorem oadd_range {s x : Int} (h0 : 0 ≤ s) (h1 : s ≤ 4294967295) (hx : 0 ≤ x ∧ x ≤ 65535) : 0 ≤ oadd s x ∧ oadd s x ≤ 4294967295 := by
 unfold oadd; split <;> omega
theorem oadd_norm {s x r : Int} (h0 : 0 ≤ s) (h1 : s ≤ 4294967295) (hx : 0 ≤ x ∧ x ≤ 65535) (hr : 0 ≤ r) : norm (oadd s x + r) = norm (s + x + r) := by
 unfold oadd norm
 split
 ·rw [if_neg (by omega), if_neg (by omega)]; omega
 ·rfl
theorem addw_range : ∀ (ws : List Int) (s : Int), 0 ≤ s → s ≤ 4294967295 → IsW ws → 0 ≤ addw s ws ∧ addw s ws ≤ 4294967295
 | [], s, h0, h1, _ => ⟨h0, h1⟩
 | x :: t, s, h0, h1, hw => by
  have hx := oadd_range h0 h1 (hw x (by simp))
  exact addw_range t (oadd s x) hx.1 hx.2 (fun y hy => hw y (by simp [hy]))
theorem addw_norm : ∀ (ws : List Int) (s r : Int), 0 ≤ s → s ≤ 4294967295 → IsW ws → 0 ≤ r → norm (addw s ws + r) = norm (s + isum ws + r)
 | [], s, r, h0, h1, _, hr => by simp [addw, isum]
 | x :: t, s, r, h0, h1, hw, hr => by
  have hx := oadd_range h0 h1 (hw x (by simp))
  have ht : IsW t := fun y hy => hw y (by simp [hy])
  have e := addw_norm t (oadd s x) r hx.1 hx.2 ht hr
  have hi := isum_nonneg t ht
  have e2 := oadd_norm (r := isum t + r) h0 h1 (hw x (by simp)) (by omega)
  show norm (addw (oadd s x) t + r) = norm (s + (x + isum t) + r)
  rw [e, show oadd s x + isum t + r = oadd s x + (isum t + r) from by omega, e2]
  congr 1; omega
/-- the folded sum of words, from a start -/
theorem norm_addw (ws : List Int) (s : Int) (h0 : 0 ≤ s) (h1 : s ≤ 4294967295) (hw : IsW ws) : norm (addw s ws) = norm (s + isum ws) := by
 have := addw_norm ws s 0 h0 h1 hw (by omega)
 simpa using this
/-- the checksum of bytes -/
def ck (l : List Int) : Int := 65535 - norm (isum (words l))
/-! ### bits -/
theorem wraps_u16 (n : Int) (h₀ : 0 ≤ n) (h₁ : n < 2 ^ 16) : IntKind.u16.wrap n = n := by rw [IntKind.wrap_u16]; omega
theorem wraps_u32 (n : Int) (h₀ : 0 ≤ n) (h₁ : n < 2 ^ 32) : IntKind.u32.wrap n = n := by rw [IntKind.wrap_u32]; omega
theorem u16w {n : Int} (h₀ : 0 ≤ n) (h₁ : n ≤ 65535) : IntKind.u16.wrap n = n := wraps_u16 n h₀ (by omega)
theorem u64w {n : Int} (h₀ : 0 ≤ n) (h₁ : n ≤ 18446744073709551615) : IntKind.u64.wrap n = n := by rw [IntKind.wrap_u64]; omega
theorem and_u32 (i : Nat) (hi : i ≤ 32) {x : Int} (h₀ : 0 ≤ x) (h₁ : x ≤ 4294967295) : Go.bits .and .u32 x (2 ^ i - 1) = x % 2 ^ i := bits_mask .u32 32 (by decide) wraps_u32 i hi x h₀ (by omega)
theorem or_u8 (i : Nat) {x y : Int} (hx₀ : 0 ≤ x) (hx : x % 2 ^ i = 0) (hx₁ : x ≤ 255) (hy₀ : 0 ≤ y) (hy : y < 2 ^ i) (hy₁ : y ≤ 255) : Go.bits .or .u8 x y = x + y := bits_join .u8 8 (by decide) wraps_u8 i x y hx₀ hx (by omega) hy₀ hy (by omega)
theorem or_u16 (i : Nat) {x y : Int} (hx₀ : 0 ≤ x) (hx : x % 2 ^ i = 0) (hx₁ : x ≤ 65535) (hy₀ : 0 ≤ y) (hy : y < 2 ^ i) (hy₁ : y ≤ 65535) : Go.bits .or .u16 x y = x + y := bits_join .u16 16 (by decide) wraps_u16 i x y hx₀ hx (by omega) hy₀ hy (by omega)
theorem and_65535 {x : Int} (h₀ : 0 ≤ x) (h₁ : x ≤ 4294967295) : Go.bits .and .u32 x 65535 = x % 65536 := and_u32 16 (by decide) h₀ h₁
theorem join16 {a b : Int} (ha : 0 ≤ a ∧ a ≤ 255) (hb : 0 ≤ b ∧ b ≤ 255) : Go.bits .or .u16 (a * 256) b = a * 256 + b := or_u16 8 (by omega) (by omega) (by omega) (by omega) (by omega) (by omega)
theorem not_u16 {x : Int} (h₀ : 0 ≤ x) (h₁ : x ≤ 65535) : Go.bits .xor .u16 65535 x = 65535 - x := by
 obtain ⟨a, rfl⟩ := Int.eq_ofNat_of_zero_le h₀
 have ha : a < 65536 := by omega
 rw [show (65535 : Int) = ((65535 : Nat) : Int) from rfl, Go.u16_xor_nat 65535 a (by decide) ha]
 have : (65535 ^^^ a : Nat) = 65535 - a := by
  have h1 := BitVec.toNat_not (x := BitVec.ofNat 16 a)
  have h2 : (~~~ (BitVec.ofNat 16 a)) = BitVec.ofNat 16 65535 ^^^ BitVec.ofNat 16 a := by
   rw [show BitVec.ofNat 16 65535 = BitVec.allOnes 16 from rfl, BitVec.allOnes_xor]
  rw [h2, BitVec.toNat_xor, BitVec.toNat_ofNat, BitVec.toNat_ofNat, Nat.mod_eq_of_lt (show 65535 < 2 ^ 16 from by decide), Nat.mod_eq_of_lt (show a < 2 ^ 16 from ha)] at h1
  rw [h1]
 rw [this]
 omega
theorem wrap64_id {n : Int} (h₀ : -9223372036854775808 ≤ n) (h₁ : n ≤ 9223372036854775807) : wrap64 n = n := by unfold wrap64; omega
end Go.Proofs.Ytkmimamminddiaa.Spec

/- Numbers out of bytes, and bytes of numbers: what the printed helps of the references come to. -/
namespace Go.Proofs.Ytkmimamminddiaa.BytesEq
set_option linter.unusedVariables false
set_option linter.unusedSimpArgs false
open Go.RowKit Go.Proofs.Ytkmimamminddiaa.PB Go.Proofs.YtkmimamminddiaaW.PrintWords Go.Proofs.YtkmimamminddiaaW.PrintLast Go.Proofs.Ytkmimamminddiaa.Spec

theorem u16_wf {x : Int} (h : (Lit.int .u16 x).wf = true) : 0 ≤ x ∧ x ≤ 65535 := by
 simp [Lit.wf, IntKind.min, IntKind.max, IntKind.bits, IntKind.signed] at h; omega
/-- numbers in bytes, the highest byte first -/
def g16 (l : List Int) (i : Nat) : Int := l.getD i 0 * 256 + l.getD (i + 1) 0
theorem bytes_refl (l : List Int) : lychhelp_Bytes.f l l = some true := by
 unfold lychhelp_Bytes.f
 simp
end Go.Proofs.Ytkmimamminddiaa.BytesEq

/- EthReads, EthOnce, EthBounds, EthBack: the plain statements: for all frames the printed laws return true. -/
namespace Go.Proofs.Ytkmimamminddiaa.Pure
set_option linter.unusedVariables false
set_option linter.unusedSimpArgs false
open Go.RowKit Go.Proofs.Ytkmimamminddiaa.PB Go.Proofs.YtkmimamminddiaaW.PrintWords Go.Proofs.YtkmimamminddiaaW.PrintLast
open Go.Proofs.Ytkmimamminddiaa.Spec Go.Proofs.Ytkmimamminddiaa.BytesEq

theorem w01 : wrap64 (0 + 1) = 1 := wrap64_id (by omega) (by omega)
theorem w12 : wrap64 (1 + 1) = 2 := wrap64_id (by omega) (by omega)
theorem w23 : wrap64 (2 + 1) = 3 := wrap64_id (by omega) (by omega)
theorem w34 : wrap64 (3 + 1) = 4 := wrap64_id (by omega) (by omega)
/-- a frame's bytes -/
def ebytes (a0 a1 a2 a3 a4 a5 a6 a7 a8 a9 a10 a11 t : Int) (l : List Int) : List Int := [a0, a1, a2, a3, a4, a5] ++ ([a6, a7, a8, a9, a10, a11] ++ ([t / 256 % 256, t % 256] ++ l))
def eout (a0 a1 a2 a3 a4 a5 a6 a7 a8 a9 a10 a11 t : Int) (l : List Int) : List Int × Int := if (l.length : Int) > 1586 then ([], 23) else (ebytes a0 a1 a2 a3 a4 a5 a6 a7 a8 a9 a10 a11 t l, 0)
theorem cl0_step {k : Nat} {x0 x9 : List (List Int)} {x3 x10 x11 s i : Int} (h1 : x11 < x10) (h2 : 0 ≤ x11) (h3 : x11 < (x9.length : Int)) (hs : wrap64 (x3 + ((rd_L1 x9 x11).length : Int)) = s) (h4 : ¬ s < 0) (hi : wrap64 (x11 + 1) = i) : slices_Concat_byte_byte.l0 (k + 1) x0 x3 x9 x10 x11 = slices_Concat_byte_byte.l0 k x0 s x9 x10 i := by
 rw [slices_Concat_byte_byte.l0, if_pos h1, if_pos h2, if_pos h3, hs, if_neg h4, hi]
theorem cl1_step {k : Nat} {x6 : List Int} {x25 : List (List Int)} {x26 x27 i : Int} (h1 : x27 < x26) (h2 : 0 ≤ x27) (h3 : x27 < (x25.length : Int)) (h4 : x6.length + (rd_L1 x25 x27).length < 140737488355328) (hi : wrap64 (x27 + 1) = i) : slices_Concat_byte_byte.l1 (k + 1) x6 x25 x26 x27 = slices_Concat_byte_byte.l1 k (x6 ++ rd_L1 x25 x27) x25 x26 i := by
 rw [slices_Concat_byte_byte.l1, if_pos h1, if_pos h2, if_pos h3, if_pos h4, hi]
theorem cl0_end {k : Nat} {x0 x9 : List (List Int)} {x3 x10 x11 : Int} (h1 : ¬ x11 < x10) : slices_Concat_byte_byte.l0 (k + 1) x0 x3 x9 x10 x11 = (slices_Grow_byte_byte.f ([] : List Int) x3).bind fun t => slices_Concat_byte_byte.l1 k t x0 (x0.length : Int) 0 := by
 rw [slices_Concat_byte_byte.l0, if_neg h1]
theorem cl1_end {k : Nat} {x6 : List Int} {x25 : List (List Int)} {x26 x27 : Int} (h1 : ¬ x27 < x26) : slices_Concat_byte_byte.l1 (k + 1) x6 x25 x26 x27 = some x6 := by
 rw [slices_Concat_byte_byte.l1, if_neg h1]
theorem grow_eq {n : Int} (h0 : 0 ≤ n) (h1 : n < 70368744177664) : slices_Grow_byte_byte.f ([] : List Int) n = some [] := by
 unfold slices_Grow_byte_byte.f
 rw [if_pos h0, if_pos h1]
theorem concat4_eq (x y z u : List Int) (hx : x.length ≤ 1000000000) (hy : y.length ≤ 1000000000) (hz : z.length ≤ 1000000000) (hu : u.length ≤ 1000000000) (k : Nat) (hk : 11 ≤ k) : slices_Concat_byte_byte.f k [x, y, z, u] = some (x ++ (y ++ (z ++ u))) := by
 obtain ⟨k, rfl⟩ : ∃ j, k = j + 11 := ⟨k - 11, by omega⟩
 have hlen : (([x, y, z, u] : List (List Int)).length : Int) = 4 := rfl
 have s0 : wrap64 (0 + (x.length : Int)) = (x.length : Int) := by rw [wrap64_id (by omega) (by omega)]; omega
 have s1 : wrap64 ((x.length : Int) + (y.length : Int)) = (x.length : Int) + (y.length : Int) := wrap64_id (by omega) (by omega)
 have s2 : wrap64 ((x.length : Int) + (y.length : Int) + (z.length : Int)) = (x.length : Int) + (y.length : Int) + (z.length : Int) := wrap64_id (by omega) (by omega)
 have s3 : wrap64 ((x.length : Int) + (y.length : Int) + (z.length : Int) + (u.length : Int)) = (x.length : Int) + (y.length : Int) + (z.length : Int) + (u.length : Int) := wrap64_id (by omega) (by omega)
 unfold slices_Concat_byte_byte.f
 rw [hlen]
 refine (cl0_step (k := k + 10) (s := (x.length : Int)) (i := 1) (by omega) (by omega) (by rw [hlen]; omega) s0 (by omega) w01).trans ?_
 refine (cl0_step (k := k + 9) (s := (x.length : Int) + (y.length : Int)) (i := 2) (by omega) (by omega) (by rw [hlen]; omega) s1 (by omega) w12).trans ?_
 refine (cl0_step (k := k + 8) (s := (x.length : Int) + (y.length : Int) + (z.length : Int)) (i := 3) (by omega) (by omega) (by rw [hlen]; omega) s2 (by omega) w23).trans ?_
 refine (cl0_step (k := k + 7) (s := (x.length : Int) + (y.length : Int) + (z.length : Int) + (u.length : Int)) (i := 4) (by omega) (by omega) (by rw [hlen]; omega) s3 (by omega) w34).trans ?_
 refine (cl0_end (k := k + 6) (by omega)).trans ?_
 have h0 : (0 : Int) ≤ (x.length : Int) + (y.length : Int) + (z.length : Int) + (u.length : Int) := by omega
 have h1 : (x.length : Int) + (y.length : Int) + (z.length : Int) + (u.length : Int) < 70368744177664 := by omega
 rw [grow_eq h0 h1, Option.bind_some, hlen]
 have l1 : (([] : List Int) ++ x).length + y.length < 140737488355328 := by rw [List.nil_append]; omega
 have l2 : (([] : List Int) ++ x ++ y).length + z.length < 140737488355328 := by rw [List.nil_append, List.length_append]; omega
 have l3 : (([] : List Int) ++ x ++ y ++ z).length + u.length < 140737488355328 := by rw [List.nil_append, List.length_append, List.length_append]; omega
 refine (cl1_step (k := k + 5) (i := 1) (by omega) (by omega) (by rw [hlen]; omega) (show ([] : List Int).length + x.length < 140737488355328 by rw [List.length_nil]; omega) w01).trans ?_
 refine (cl1_step (k := k + 4) (i := 2) (by omega) (by omega) (by rw [hlen]; omega) l1 w12).trans ?_
 refine (cl1_step (k := k + 3) (i := 3) (by omega) (by omega) (by rw [hlen]; omega) l2 w23).trans ?_
 refine (cl1_step (k := k + 2) (i := 4) (by omega) (by omega) (by rw [hlen]; omega) l3 w34).trans ?_
 refine (cl1_end (k := k + 1) (by omega)).trans ?_
 show some (([] : List Int) ++ x ++ y ++ z ++ u) = some (x ++ (y ++ (z ++ u)))
 rw [List.nil_append, List.append_assoc, List.append_assoc]
theorem eput16_eq (l : List Int) (x : Int) (h : l.length ≤ 1000000000) : lychref1_Put16.f l x = some (l ++ [x / 256 % 256, x % 256]) := by
 unfold lychref1_Put16.f
 rw [Option.bind_some, if_pos (by simp; omega)]
section
variable {a0 a1 a2 a3 a4 a5 a6 a7 a8 a9 a10 a11 t : Int} {l : List Int}
theorem ebytes_eq (hl : l.length ≤ 1000000000) (k : Nat) (hk : 20 ≤ k) : eth_Bytes.f k a0 a1 a2 a3 a4 a5 a6 a7 a8 a9 a10 a11 t l = some (eout a0 a1 a2 a3 a4 a5 a6 a7 a8 a9 a10 a11 t l) := by
 unfold eth_Bytes.f eout
 by_cases c1 : (l.length : Int) > 1586
 ·rw [if_pos c1, if_pos c1]
 ·rw [if_neg c1, if_neg c1, concat4_eq _ _ _ _ (by simp) (by simp) (by simp) hl k (by omega), Option.bind_some]
  rfl
theorem rebytes_eq (hl : l.length ≤ 1000000000) : lychref1_EthBytes.f a0 a1 a2 a3 a4 a5 a6 a7 a8 a9 a10 a11 t l = some (eout a0 a1 a2 a3 a4 a5 a6 a7 a8 a9 a10 a11 t l) := by
 unfold lychref1_EthBytes.f eout
 by_cases c1 : (l.length : Int) > 1586
 ·rw [if_pos c1, if_pos c1]
 ·rw [if_neg c1, if_neg c1, eput16_eq _ _ (by simp), Option.bind_some, if_pos (by simp; omega)]
  rfl
theorem ebytes_length : (ebytes a0 a1 a2 a3 a4 a5 a6 a7 a8 a9 a10 a11 t l).length = 14 + l.length := by
 unfold ebytes
 simp only [List.length_append, List.length_cons, List.length_nil]
 omega
end
end Go.Proofs.Ytkmimamminddiaa.Pure

-- written by a patched print
namespace Go.Proofs.Ytkmimamminddiaa.PB
open Go.RowKit Go.Proofs.YtkmimamminddiaaW.PrintWords Go.Proofs.YtkmimamminddiaaW.PrintLast Go.Proofs.YtkmimamminddiaaW.PrintMore
attribute [local go_sem] max2_int min2_int max_two min_two max_three min_three max_four min_four   -- for this text's walks alone
set_option linter.unusedVariables false
set_option linter.unusedSimpArgs false

/-! ### lychref1_Get32: function 81 -/
end Go.Proofs.Ytkmimamminddiaa.PB

-- written by a patched print
namespace Go.Proofs.Ytkmimamminddiaa.PB
open Go.RowKit Go.Proofs.YtkmimamminddiaaW.PrintWords Go.Proofs.YtkmimamminddiaaW.PrintLast Go.Proofs.YtkmimamminddiaaW.PrintMore
attribute [local go_sem] max2_int min2_int max_two min_two max_three min_three max_four min_four   -- for this text's walks alone
set_option linter.unusedVariables false
set_option linter.unusedSimpArgs false

/-! ### lychref1_Vxlan: function 62 -/
end Go.Proofs.Ytkmimamminddiaa.PB

/- Numbers of 32 bits out of bytes. -/
namespace Go.Proofs.Ytkmimamminddiaa.BytesEq
set_option linter.unusedVariables false
set_option linter.unusedSimpArgs false
open Go.RowKit Go.Proofs.Ytkmimamminddiaa.PB Go.Proofs.YtkmimamminddiaaW.PrintWords Go.Proofs.YtkmimamminddiaaW.PrintLast Go.Proofs.Ytkmimamminddiaa.Spec

end Go.Proofs.Ytkmimamminddiaa.BytesEq

/- VxlanReads, VxlanBits, VxlanBack, VxlanBounds, the plain statements: for all bytes, networks and lengths the printed laws return true. -/
namespace Go.Proofs.Ytkmimamminddiaa.Pure
set_option linter.unusedVariables false
set_option linter.unusedSimpArgs false
open Go.RowKit Go.Proofs.Ytkmimamminddiaa.PB Go.Proofs.YtkmimamminddiaaW.PrintWords Go.Proofs.YtkmimamminddiaaW.PrintLast
open Go.Proofs.Ytkmimamminddiaa.Spec Go.Proofs.Ytkmimamminddiaa.BytesEq

theorem vbytes_eq {v : Int} {l : List Int} (hl : l.length ≤ 1000000000) : vxlan_Bytes.f v l =
  if v > 16777215 then some ([], 21) else if (l.length : Int) > 1592 then some ([], 23) else some ([8, 0, 0, 0, v / 65536 % 256, v / 256 % 256, v % 256, 0] ++ l, 0) := by
 unfold vxlan_Bytes.f
 split
 ·rfl
 ·split
  ·rfl
  ·simp only [Option.bind_some, List.length_cons, List.length_nil]
   rw [if_pos (by omega)]
theorem rvbytes_eq {v : Int} (hv : 0 ≤ v ∧ v ≤ 4294967295) {l : List Int} (hl : l.length ≤ 1000000000) : lychref1_VxlanBytes.f v l =
  if v > 16777215 then some ([], 21) else if (l.length : Int) > 1592 then some ([], 23) else some ([8, 0, 0, 0, v / 65536 % 256, v / 256 % 256, v % 256, 0] ++ l, 0) := by
 unfold lychref1_VxlanBytes.f lychref1_Put32.f
 split
 ·rfl
 ·split
  ·rfl
  ·simp only [Option.bind_some, List.length_cons, List.length_nil]
   rw [if_pos (by omega)]
   simp only [Option.bind_some, List.cons_append, List.nil_append, List.length_cons, List.length_nil]
   rw [if_pos (by omega)]
   congr 2
   rw [show v * 256 % 4294967296 / 16777216 % 256 = v / 65536 % 256 from by omega, show v * 256 % 4294967296 / 65536 % 256 = v / 256 % 256 from by omega, show v * 256 % 4294967296 / 256 % 256 = v % 256 from by omega, show v * 256 % 4294967296 % 256 = 0 from by omega]
end Go.Proofs.Ytkmimamminddiaa.Pure

-- written by a patched print
namespace Go.Proofs.Ytkmimamminddiaa.PB
open Go.RowKit Go.Proofs.YtkmimamminddiaaW.PrintWords Go.Proofs.YtkmimamminddiaaW.PrintLast Go.Proofs.YtkmimamminddiaaW.PrintMore
attribute [local go_sem] max2_int min2_int max_two min_two max_three min_three max_four min_four   -- for this text's walks alone
set_option linter.unusedVariables false
set_option linter.unusedSimpArgs false

/-! ### lychref1_Pseudo: function 82 -/
end Go.Proofs.Ytkmimamminddiaa.PB

-- written by a patched print
namespace Go.Proofs.Ytkmimamminddiaa.PB
open Go.RowKit Go.Proofs.YtkmimamminddiaaW.PrintWords Go.Proofs.YtkmimamminddiaaW.PrintLast Go.Proofs.YtkmimamminddiaaW.PrintMore
attribute [local go_sem] max2_int min2_int max_two min_two max_three min_three max_four min_four   -- for this text's walks alone
set_option linter.unusedVariables false
set_option linter.unusedSimpArgs false

/-! ### lychseat_inside: function 49 -/
/-! ### lychseat_outside: function 50 -/
/-! ### lychseat_proto: function 51 -/
/-! ### lychseat_port: function 52 -/
/-! ### lychref1_IcmpBytes: function 55 -/
/-! ### lychref1_IcmpSum: function 54 -/
/-! ### lychref1_UdpSum: function 72 -/
end Go.Proofs.Ytkmimamminddiaa.PB

-- written by a patched print
namespace Go.Proofs.Ytkmimamminddiaa.PB
open Go.RowKit Go.Proofs.YtkmimamminddiaaW.PrintWords Go.Proofs.YtkmimamminddiaaW.PrintLast Go.Proofs.YtkmimamminddiaaW.PrintMore
attribute [local go_sem] max2_int min2_int max_two min_two max_three min_three max_four min_four   -- for this text's walks alone
set_option linter.unusedVariables false
set_option linter.unusedSimpArgs false

/-! ### lychref1_UdpRight: function 40 -/
end Go.Proofs.Ytkmimamminddiaa.PB

-- written by a patched print
namespace Go.Proofs.Ytkmimamminddiaa.PB
open Go.RowKit Go.Proofs.YtkmimamminddiaaW.PrintWords Go.Proofs.YtkmimamminddiaaW.PrintLast Go.Proofs.YtkmimamminddiaaW.PrintMore
attribute [local go_sem] max2_int min2_int max_two min_two max_three min_three max_four min_four   -- for this text's walks alone
set_option linter.unusedVariables false
set_option linter.unusedSimpArgs false

/-! ### lychref1_Udp: function 39 -/
end Go.Proofs.Ytkmimamminddiaa.PB

/- What the printed functions of the checksum come to: the plain words, sums and folds. -/
namespace Go.Proofs.Ytkmimamminddiaa.SumEq
set_option linter.unusedVariables false
set_option linter.unusedSimpArgs false
open Go.RowKit Go.Proofs.Ytkmimamminddiaa.PB Go.Proofs.YtkmimamminddiaaW.PrintWords Go.Proofs.YtkmimamminddiaaW.PrintLast Go.Proofs.Ytkmimamminddiaa.Spec

theorem rd_at (l : List Int) (i : Int) (j : Nat) (h : i = (j : Int)) : rd l i = l.getD j 0 := by subst h; simp [rd]
theorem take_words (l : List Int) (j : Nat) (h : 2 * j < l.length) : (words l).take (j + 1) = (words l).take j ++ [l.getD (2 * j) 0 * 256 + l.getD (2 * j + 1) 0] := by
 have hl := words_length l
 have hg := words_get l j h
 have hj : j < (words l).length := by omega
 rw [List.getElem?_eq_getElem hj] at hg
 injection hg with hg
 rw [List.take_succ_eq_append_getElem hj, hg]

theorem words_l0 (l : List Int) (hb : IsB l) (hl : l.length ≤ 1000000000) (d : Nat) : ∀ (k j : Nat), j + d = (l.length + 1) / 2 → d < k →
  sum_Words.l0 k l ((words l).take j) (((l.length + 1) / 2 : Nat) : Int) (j : Int) = some (words l) := by
 induction d with
 | zero =>
  intro k j hj hk
  obtain ⟨k, rfl⟩ : ∃ m, k = m + 1 := ⟨k - 1, by omega⟩
  simp only [sum_Words.l0]
  rw [if_neg (by omega), List.take_of_length_le (by rw [words_length]; omega)]
 | succ d ih =>
  intro k j hj hk
  obtain ⟨k, rfl⟩ : ∃ m, k = m + 1 := ⟨k - 1, by omega⟩
  have e2 : wrap64 (2 * (j : Int)) = ((2 * j : Nat) : Int) := by rw [wrap64_id (by omega) (by omega)]; omega
  have e3 : wrap64 (((2 * j : Nat) : Int) + 1) = ((2 * j + 1 : Nat) : Int) := by rw [wrap64_id (by omega) (by omega)]; omega
  have e1 : wrap64 ((j : Int) + 1) = ((j + 1 : Nat) : Int) := by rw [wrap64_id (by omega) (by omega)]; omega
  have h1 := hb.getD (2 * j)
  have h2 := hb.getD (2 * j + 1)
  have hlen : ((words l).take j).length < 70368744177664 := by rw [List.length_take, words_length]; omega
  have ht := take_words l j (by omega)
  have hi := ih k (j + 1) (by omega) (by omega)
  simp only [sum_Words.l0, e2, e3, e1]
  rw [if_pos (by omega), if_pos (by omega), if_pos (by omega), rd_at l _ (2 * j) rfl, rd_at l _ (2 * j + 1) rfl]
  rw [u16w (by omega) (by omega : l.getD (2 * j) 0 ≤ 65535), u16w (by omega) (by omega : l.getD (2 * j) 0 * 256 ≤ 65535), u16w (by omega) (by omega : l.getD (2 * j + 1) 0 ≤ 65535), join16 h1 h2]
  by_cases hc : 2 * j + 1 < l.length
  ·rw [if_pos (by omega), if_pos (by omega), if_pos hlen, ← ht]
   exact hi
  ·have h0 : l.getD (2 * j + 1) 0 = 0 := by rw [List.getD_eq_getElem?_getD, List.getElem?_eq_none (by omega)]; rfl
   rw [if_neg (by omega), if_pos hlen]
   rw [h0, Int.add_zero] at ht
   rw [← ht]
   exact hi
theorem words_eq (l : List Int) (hb : IsB l) (hl : l.length ≤ 1000000000) (k : Nat) (hk : l.length + 1 < k) : sum_Words.f k l = some (words l) := by
 have h := words_l0 l hb hl ((l.length + 1) / 2) k 0 (by omega) (by omega)
 unfold sum_Words.f
 have e : wrap64 (Int.tdiv (wrap64 ((l.length : Int) + 1)) 2) = (((l.length + 1) / 2 : Nat) : Int) := by
  rw [wrap64_id (n := (l.length : Int) + 1) (by omega) (by omega), Int.tdiv_eq_ediv_of_nonneg (by omega), wrap64_id (by omega) (by omega)]; omega
 rw [e]
 simpa using h

theorem Add32_eq {a b : Int} (ha : 0 ≤ a ∧ a ≤ 4294967295) (hb : 0 ≤ b ∧ b ≤ 65535) : bits_Add32.f a b 0 = some ((a + b) % 4294967296, (a + b) / 4294967296) := by
 unfold bits_Add32.f
 rw [u64w ha.1 (by omega), u64w hb.1 (by omega), u64w (n := a + b) (by omega) (by omega), u64w (n := (0 : Int)) (by omega) (by omega), u64w (n := a + b + 0) (by omega) (by omega)]
 rw [Int.add_zero, show ((a + b) / 4294967296) % 4294967296 = (a + b) / 4294967296 from by omega]
theorem add_l0 (ws : List Int) (hw : IsW ws) (hl : ws.length ≤ 1000000000) (d : Nat) : ∀ (k j : Nat) (s : Int), j + d = ws.length → d < k → 0 ≤ s → s ≤ 4294967295 →
  sum_Add.l0 k s ws (ws.length : Int) (j : Int) = some (addw s (ws.drop j)) := by
 induction d with
 | zero =>
  intro k j s hj hk h0 h1
  obtain ⟨k, rfl⟩ : ∃ m, k = m + 1 := ⟨k - 1, by omega⟩
  simp only [sum_Add.l0]
  rw [if_neg (by omega), List.drop_of_length_le (by omega)]
  rfl
 | succ d ih =>
  intro k j s hj hk h0 h1
  obtain ⟨k, rfl⟩ : ∃ m, k = m + 1 := ⟨k - 1, by omega⟩
  have hjl : j < ws.length := by omega
  have hx := hw _ (List.getElem_mem hjl)
  have e1 : wrap64 ((j : Int) + 1) = ((j + 1 : Nat) : Int) := by rw [wrap64_id (by omega) (by omega)]; omega
  have er : rd ws (j : Int) = ws[j] := by rw [rd_at ws _ j rfl, List.getD_eq_getElem?_getD, List.getElem?_eq_getElem hjl]; rfl
  have ho := oadd_range h0 h1 hx
  have hi := ih k (j + 1) (oadd s ws[j]) (by omega) (by omega) ho.1 ho.2
  simp only [sum_Add.l0, e1, er]
  rw [if_pos (by omega), if_pos (by omega), if_pos (by omega), show ws[j] % 4294967296 = ws[j] from by omega, Add32_eq ⟨h0, h1⟩ hx]
  simp only [Option.bind_some]
  have eo : ((s + ws[j]) % 4294967296 + (s + ws[j]) / 4294967296) % 4294967296 = oadd s ws[j] := by unfold oadd; split <;> omega
  rw [eo, hi, List.drop_eq_getElem_cons hjl]
  rfl
theorem add_eq (s : Int) (l : List Int) (hb : IsB l) (hl : l.length ≤ 1000000000) (h0 : 0 ≤ s) (h1 : s ≤ 4294967295) (k : Nat) (hk : l.length + 1 < k) : sum_Add.f k s l = some (addw s (words l)) := by
 unfold sum_Add.f
 rw [words_eq l hb hl k hk]
 have hwl := words_length l
 have := add_l0 (words l) (words_isW l hb) (by omega) (words l).length k 0 s (by omega) (by omega) h0 h1
 simpa using this
theorem fold_small {k : Nat} {s : Int} (h0 : 0 ≤ s) (h1 : s ≤ 65535) : sum_Fold.l0 (k + 1) s = some s := by
 simp only [sum_Fold.l0]
 rw [if_pos (by omega), u16w h0 h1]
theorem fold_step {k : Nat} {s : Int} (h0 : 65536 ≤ s) (h1 : s ≤ 4294967295) : sum_Fold.l0 (k + 1) s = sum_Fold.l0 k (s % 65536 + s / 65536) := by
 simp only [sum_Fold.l0]
 rw [if_neg (by omega), and_65535 (by omega) h1, show (s % 65536 + s / 65536) % 4294967296 = s % 65536 + s / 65536 from by omega]
theorem fold_eq (s : Int) (h0 : 0 ≤ s) (h1 : s ≤ 4294967295) (k : Nat) (hk : 3 < k) : sum_Fold.f k s = some (norm s) := by
 obtain ⟨k, rfl⟩ : ∃ m, k = m + 3 := ⟨k - 3, by omega⟩
 unfold sum_Fold.f
 by_cases c : s ≤ 65535
 ·rw [fold_small h0 c, norm_small h0 c]
 ·rw [fold_step (by omega) h1]
  by_cases c2 : s % 65536 + s / 65536 ≤ 65535
  ·rw [fold_small (by omega) c2]
   congr 1; unfold norm; rw [if_neg (by omega)]; omega
  ·rw [fold_step (by omega) (by omega), fold_small (by omega) (by omega)]
   congr 1; unfold norm; rw [if_neg (by omega)]; omega
/-- the reference's -/
theorem rwords_l0 (l : List Int) (hb : IsB l) (hl : l.length ≤ 1000000000) (d : Nat) : ∀ (k j : Nat), j + d = (l.length + 1) / 2 → d < k →
  lychref1_Words.l0 k l ((words l).take j) ((2 * j : Nat) : Int) = some (words l) := by
 induction d with
 | zero =>
  intro k j hj hk
  obtain ⟨k, rfl⟩ : ∃ m, k = m + 1 := ⟨k - 1, by omega⟩
  simp only [lychref1_Words.l0]
  rw [if_neg (by omega), List.take_of_length_le (by rw [words_length]; omega)]
 | succ d ih =>
  intro k j hj hk
  obtain ⟨k, rfl⟩ : ∃ m, k = m + 1 := ⟨k - 1, by omega⟩
  have e3 : wrap64 (((2 * j : Nat) : Int) + 1) = ((2 * j + 1 : Nat) : Int) := by rw [wrap64_id (by omega) (by omega)]; omega
  have e1 : wrap64 (((2 * j : Nat) : Int) + 2) = ((2 * (j + 1) : Nat) : Int) := by rw [wrap64_id (by omega) (by omega)]; omega
  have h1 := hb.getD (2 * j)
  have h2 := hb.getD (2 * j + 1)
  have hlen : ((words l).take j).length < 70368744177664 := by rw [List.length_take, words_length]; omega
  have ht := take_words l j (by omega)
  have hi := ih k (j + 1) (by omega) (by omega)
  simp only [lychref1_Words.l0, e3, e1]
  rw [if_pos (by omega), if_pos (by omega), rd_at l _ (2 * j) rfl, rd_at l _ (2 * j + 1) rfl]
  rw [u16w (by omega) (by omega : l.getD (2 * j) 0 ≤ 65535), u16w (by omega) (by omega : l.getD (2 * j) 0 * 256 ≤ 65535), u16w (by omega) (by omega : l.getD (2 * j + 1) 0 ≤ 65535), join16 h1 h2]
  by_cases hc : 2 * j + 1 < l.length
  ·rw [if_pos (by omega), if_pos (by omega), if_pos hlen, ← ht]
   exact hi
  ·have h0 : l.getD (2 * j + 1) 0 = 0 := by rw [List.getD_eq_getElem?_getD, List.getElem?_eq_none (by omega)]; rfl
   rw [if_neg (by omega), if_pos hlen]
   rw [h0, Int.add_zero] at ht
   rw [← ht]
   exact hi
theorem rwords_eq (l : List Int) (hb : IsB l) (hl : l.length ≤ 1000000000) (k : Nat) (hk : l.length + 1 < k) : lychref1_Words.f k l = some (words l) := by
 have h := rwords_l0 l hb hl ((l.length + 1) / 2) k 0 (by omega) (by omega)
 unfold lychref1_Words.f
 simpa using h
theorem radd_l0 (ws : List Int) (hw : IsW ws) (hl : ws.length ≤ 1000000000) (d : Nat) : ∀ (k j : Nat) (s : Int), j + d = ws.length → d < k → 0 ≤ s → s ≤ 4294967295 →
  lychref1_Add.l0 k s ws (j : Int) = some (addw s (ws.drop j)) := by
 induction d with
 | zero =>
  intro k j s hj hk h0 h1
  obtain ⟨k, rfl⟩ : ∃ m, k = m + 1 := ⟨k - 1, by omega⟩
  simp only [lychref1_Add.l0]
  rw [if_neg (by omega), List.drop_of_length_le (by omega), show s % 4294967296 = s from by omega]
  rfl
 | succ d ih =>
  intro k j s hj hk h0 h1
  obtain ⟨k, rfl⟩ : ∃ m, k = m + 1 := ⟨k - 1, by omega⟩
  have hjl : j < ws.length := by omega
  have hx := hw _ (List.getElem_mem hjl)
  have e1 : wrap64 ((j : Int) + 1) = ((j + 1 : Nat) : Int) := by rw [wrap64_id (by omega) (by omega)]; omega
  have er : rd ws (j : Int) = ws[j] := by rw [rd_at ws _ j rfl, List.getD_eq_getElem?_getD, List.getElem?_eq_getElem hjl]; rfl
  have ho := oadd_range h0 h1 hx
  have hi := ih k (j + 1) (oadd s ws[j]) (by omega) (by omega) ho.1 ho.2
  simp only [lychref1_Add.l0, e1, er]
  rw [if_pos (by omega), if_pos (by omega), u64w (n := ws[j]) (by omega) (by omega), u64w (n := s + ws[j]) (by omega) (by omega)]
  rw [List.drop_eq_getElem_cons hjl]
  show _ = some (addw (oadd s ws[j]) (ws.drop (j + 1)))
  rw [← hi]
  by_cases hc : s + ws[j] > 4294967295
  ·rw [if_pos hc]
   congr 1
   rw [IntKind.wrap_u64, IntKind.wrap_u64]
   unfold oadd; rw [if_pos hc]; omega
  ·rw [if_neg hc]
   congr 1; unfold oadd; rw [if_neg hc]
theorem radd_eq (s : Int) (l : List Int) (hb : IsB l) (hl : l.length ≤ 1000000000) (h0 : 0 ≤ s) (h1 : s ≤ 4294967295) (k : Nat) (hk : l.length + 1 < k) : lychref1_Add.f k s l = some (addw s (words l)) := by
 unfold lychref1_Add.f
 rw [rwords_eq l hb hl k hk]
 have hwl := words_length l
 have := radd_l0 (words l) (words_isW l hb) (by omega) (words l).length k 0 s (by omega) (by omega) h0 h1
 simp only [Option.bind_some, u64w h0 (show s ≤ 18446744073709551615 from by omega)]
 simpa using this
theorem rfold_eq (s : Int) (h0 : 0 ≤ s) (h1 : s ≤ 4294967295) (k : Nat) (hk : 3 < k) : lychref1_Fold.f k s = some (norm s) := by
 have hs : ∀ {k : Nat} {s : Int}, 0 ≤ s → s ≤ 65535 → lychref1_Fold.l0 (k + 1) s = some s := by
  intro k s h0 h1
  simp only [lychref1_Fold.l0]
  rw [if_pos (by omega), u16w h0 h1]
 have ht : ∀ {k : Nat} {s : Int}, 65536 ≤ s → s ≤ 4294967295 → lychref1_Fold.l0 (k + 1) s = lychref1_Fold.l0 k (s / 65536 + s % 65536) := by
  intro k s h0 h1
  simp only [lychref1_Fold.l0]
  rw [if_neg (by omega), and_65535 (by omega) h1, show (s / 65536 + s % 65536) % 4294967296 = s / 65536 + s % 65536 from by omega]
 obtain ⟨k, rfl⟩ : ∃ m, k = m + 3 := ⟨k - 3, by omega⟩
 unfold lychref1_Fold.f
 by_cases c : s ≤ 65535
 ·rw [hs h0 c, norm_small h0 c]
 ·rw [ht (by omega) h1]
  by_cases c2 : s / 65536 + s % 65536 ≤ 65535
  ·rw [hs (by omega) c2]
   congr 1; unfold norm; rw [if_neg (by omega)]; omega
  ·rw [ht (by omega) (by omega), hs (by omega) (by omega)]
   congr 1; unfold norm; rw [if_neg (by omega)]; omega
end Go.Proofs.Ytkmimamminddiaa.SumEq

/- Plain laws of the checksum: words changed, swapped, padded. -/
namespace Go.Proofs.Ytkmimamminddiaa.Spec
set_option linter.unusedVariables false
set_option linter.unusedSimpArgs false
open Go.RowKit

end Go.Proofs.Ytkmimamminddiaa.Spec

/- UdpReads, UdpBack, UdpSums, UdpGreat, UdpLengths, UdpNone, the plain statements: for all datagrams the printed laws return true. -/
namespace Go.Proofs.Ytkmimamminddiaa.Pure
set_option linter.unusedVariables false
set_option linter.unusedSimpArgs false
open Go.RowKit Go.Proofs.Ytkmimamminddiaa.PB Go.Proofs.YtkmimamminddiaaW.PrintWords Go.Proofs.YtkmimamminddiaaW.PrintLast
open Go.Proofs.Ytkmimamminddiaa.Spec Go.Proofs.Ytkmimamminddiaa.BytesEq

/-- a datagram's bytes -/
def ubytes (s d c : Int) (l : List Int) : List Int := [s / 256 % 256, s % 256, d / 256 % 256, d % 256, (8 + (l.length : Int)) / 256 % 256, (8 + (l.length : Int)) % 256, c / 256 % 256, c % 256] ++ l
theorem ubytes_eq (s d c : Int) {l : List Int} (hl : l.length ≤ 1000000000) : udp_Bytes.f s d c l = if (l.length : Int) > 65527 then some ([], 23) else some (ubytes s d c l, 0) := by
 unfold udp_Bytes.f ubytes
 rw [wrap64_id (by omega) (by omega)]
 by_cases h : (l.length : Int) > 65527
 ·rw [if_pos (by omega), if_pos h]
 ·rw [if_neg (by omega), if_neg h]
  simp only [Option.bind_some, List.length_cons, List.length_nil]
  rw [if_pos (by omega)]
theorem rubytes_eq (s d c : Int) {l : List Int} (hl : l.length ≤ 1000000000) : lychref1_UdpBytes.f s d c l = if (l.length : Int) > 65527 then some ([], 23) else some (ubytes s d c l, 0) := by
 unfold lychref1_UdpBytes.f lychref1_Put16.f ubytes
 by_cases h : (l.length : Int) > 65527
 ·rw [if_pos h, if_pos h]
 ·rw [if_neg h, if_neg h, wrap64_id (n := 8 + (l.length : Int)) (by omega) (by omega), u16w (n := 8 + (l.length : Int)) (by omega) (by omega)]
  simp only [Option.bind_some, List.length_cons, List.length_nil, List.cons_append, List.nil_append]
  rw [if_pos (by omega)]
  simp only [Option.bind_some, List.length_cons, List.length_nil, List.cons_append, List.nil_append]
  rw [if_pos (by omega)]
  simp only [Option.bind_some, List.length_cons, List.length_nil, List.cons_append, List.nil_append]
  rw [if_pos (by omega)]
  simp only [Option.bind_some, List.length_cons, List.length_nil, List.cons_append, List.nil_append]
  rw [if_pos (by omega)]
  simp only [Option.bind_some, List.length_cons, List.length_nil, List.cons_append, List.nil_append]
  rw [if_pos (by omega)]
theorem ubytes_length (s d c : Int) (l : List Int) : (ubytes s d c l).length = 8 + l.length := by simp [ubytes]; omega
end Go.Proofs.Ytkmimamminddiaa.Pure

-- written by a patched print
namespace Go.Proofs.Ytkmimamminddiaa.PB
open Go.RowKit Go.Proofs.YtkmimamminddiaaW.PrintWords Go.Proofs.YtkmimamminddiaaW.PrintLast Go.Proofs.YtkmimamminddiaaW.PrintMore
attribute [local go_sem] max2_int min2_int max_two min_two max_three min_three max_four min_four   -- for this text's walks alone
set_option linter.unusedVariables false
set_option linter.unusedSimpArgs false

theorem eqA65 (d : Nat) (w : World) (x0 y0 : Int) (x1 y1 : Int) :
  (Op.equalIn (d + 2) 65 (.agg #[.int .u32 x0, .int .u16 x1]) (.agg #[.int .u32 y0, .int .u16 y1])).run Try.prog w = .ok (x0 == y0 && (x1 == y1)) w := by
 refine eqA_of Try.underlying65 (by kernel_rfl) ?_
 refine eqf_cons (by rfl) (by go_simp; rfl) (by go_simp; rfl) (by go_simp) ?_
 exact eqf_last (by rfl) (by go_simp; rfl) (by go_simp; rfl) (by go_simp)
end Go.Proofs.Ytkmimamminddiaa.PB

-- written by a patched print
namespace Go.Proofs.Ytkmimamminddiaa.PB
open Go.RowKit Go.Proofs.YtkmimamminddiaaW.PrintWords Go.Proofs.YtkmimamminddiaaW.PrintLast Go.Proofs.YtkmimamminddiaaW.PrintMore
attribute [local go_sem] max2_int min2_int max_two min_two max_three min_three max_four min_four   -- for this text's walks alone
set_option linter.unusedVariables false
set_option linter.unusedSimpArgs false

/-! ### lychref1_TcpBytes: function 75 -/
end Go.Proofs.Ytkmimamminddiaa.PB

-- written by a patched print
namespace Go.Proofs.Ytkmimamminddiaa.PB
open Go.RowKit Go.Proofs.YtkmimamminddiaaW.PrintWords Go.Proofs.YtkmimamminddiaaW.PrintLast Go.Proofs.YtkmimamminddiaaW.PrintMore
attribute [local go_sem] max2_int min2_int max_two min_two max_three min_three max_four min_four   -- for this text's walks alone
set_option linter.unusedVariables false
set_option linter.unusedSimpArgs false

attribute [local go_sem high] eqA65
/-! ### lychref1_TcpRight: function 99 -/
/-! ### lychref1_IcmpRight: function 100 -/
/-! ### lychref1_Echo: function 101 -/
/-! ### lychref1_Error: function 102 -/
-- NOT PRINTED: function 66 (lychref8_Look)

/-! ### lychhelp_Ip: function 67 -/
/-! ### lychhelp_Points: function 37 -/
/-! ### lychlaw8_same: function 68 -/
-- NOT PRINTED: function 31 (lychlaw8_looks)

-- NOT PRINTED: function 33 (lychref8_Change)

/-! ### lychref1_Update: function 92 -/
-- NOT PRINTED: function 43 (lychref8_Inner)

end Go.Proofs.Ytkmimamminddiaa.PB

-- written by a patched print
namespace Go.Proofs.Ytkmimamminddiaa.PB
open Go.RowKit Go.Proofs.YtkmimamminddiaaW.PrintWords Go.Proofs.YtkmimamminddiaaW.PrintLast Go.Proofs.YtkmimamminddiaaW.PrintMore
attribute [local go_sem] max2_int min2_int max_two min_two max_three min_three max_four min_four   -- for this text's walks alone
set_option linter.unusedVariables false
set_option linter.unusedSimpArgs false

/-! ### lychref1_Ip: function 38 -/
end Go.Proofs.Ytkmimamminddiaa.PB

/- Packets out of bytes: what the proofs of the laws on packets share. -/
namespace Go.Proofs.Ytkmimamminddiaa.Pure
set_option linter.unusedVariables false
set_option linter.unusedSimpArgs false
open Go.RowKit Go.Proofs.Ytkmimamminddiaa.PB Go.Proofs.YtkmimamminddiaaW.PrintWords Go.Proofs.YtkmimamminddiaaW.PrintLast
open Go.Proofs.Ytkmimamminddiaa.Spec Go.Proofs.Ytkmimamminddiaa.BytesEq Go.Proofs.Ytkmimamminddiaa.SumEq

/-- a header's length -/
def ihead (l : List Int) : Int := 4 * (l.getD 0 0 % 16)
/-- what is not of the form -/
def iodd (l : List Int) : Prop := ¬ (l.getD 0 0 / 16 = 4 ∧ ihead l ≥ 20 ∧ g16 l 2 ≥ ihead l)
instance (l : List Int) : Decidable (iodd l) := inferInstanceAs (Decidable (¬ _))
end Go.Proofs.Ytkmimamminddiaa.Pure

/- The checksum of bytes. -/
namespace Go.Proofs.Ytkmimamminddiaa.SumEq
set_option linter.unusedVariables false
set_option linter.unusedSimpArgs false
open Go.RowKit Go.Proofs.Ytkmimamminddiaa.PB Go.Proofs.YtkmimamminddiaaW.PrintWords Go.Proofs.YtkmimamminddiaaW.PrintLast Go.Proofs.Ytkmimamminddiaa.Spec

theorem of_eq (l : List Int) (hb : IsB l) (hl : l.length ≤ 1000000000) (k : Nat) (hk : l.length + 1 < k) (hk3 : 3 < k) : sum_Of.f k l = some (ck l) := by
 have hr := addw_range (words l) 0 (by omega) (by omega) (words_isW l hb)
 have hn := norm_addw (words l) 0 (by omega) (by omega) (words_isW l hb)
 have hp := norm_range _ (isum_nonneg _ (words_isW l hb))
 unfold sum_Of.f
 rw [add_eq 0 l hb hl (by omega) (by omega) k hk]
 simp only [Option.bind_some]
 rw [fold_eq _ hr.1 hr.2 k hk3, hn, Int.zero_add]
 simp only [Option.bind_some]
 rw [show (IntKind.u16.max : Int) = 65535 from rfl, not_u16 hp.1 hp.2]
 rfl
theorem rof_eq (l : List Int) (hb : IsB l) (hl : l.length ≤ 1000000000) (k : Nat) (hk : l.length + 1 < k) (hk3 : 3 < k) : lychref1_Of.f k l = some (ck l) := by
 have hr := addw_range (words l) 0 (by omega) (by omega) (words_isW l hb)
 have hn := norm_addw (words l) 0 (by omega) (by omega) (words_isW l hb)
 have hp := norm_range _ (isum_nonneg _ (words_isW l hb))
 unfold lychref1_Of.f
 rw [radd_eq 0 l hb hl (by omega) (by omega) k hk]
 simp only [Option.bind_some]
 rw [rfold_eq _ hr.1 hr.2 k hk3, hn, Int.zero_add]
 simp only [Option.bind_some]
 rw [show (IntKind.u16.max : Int) = 65535 from rfl, not_u16 hp.1 hp.2]
 rfl
end Go.Proofs.Ytkmimamminddiaa.SumEq

/- Bytes of packets: what the proofs of the laws on packets share. -/
namespace Go.Proofs.Ytkmimamminddiaa.Pure
set_option linter.unusedVariables false
set_option linter.unusedSimpArgs false
open Go.RowKit Go.Proofs.Ytkmimamminddiaa.PB Go.Proofs.YtkmimamminddiaaW.PrintWords Go.Proofs.YtkmimamminddiaaW.PrintLast
open Go.Proofs.Ytkmimamminddiaa.Spec Go.Proofs.Ytkmimamminddiaa.BytesEq Go.Proofs.Ytkmimamminddiaa.SumEq

/-- a header's first twenty bytes, with the checksum x -/
def ihd (a t pr i fl of_ s d : Int) (o l : List Int) (x : Int) : List Int := [64 + (20 + (o.length : Int)) / 4, a, (20 + (o.length : Int) + (l.length : Int)) / 256 % 256, (20 + (o.length : Int) + (l.length : Int)) % 256, i / 256 % 256, i % 256, (fl * 8192 + of_) / 256 % 256, (fl * 8192 + of_) % 256, t, pr, x / 256 % 256, x % 256, s / 16777216 % 256, s / 65536 % 256, s / 256 % 256, s % 256, d / 16777216 % 256, d / 65536 % 256, d / 256 % 256, d % 256]
theorem ihd_length (a t pr i fl of_ s d : Int) (o l : List Int) (x : Int) : (ihd a t pr i fl of_ s d o l x).length = 20 := rfl
/-- its checksum -/
def ick (a t pr i fl of_ s d : Int) (o l : List Int) : Int := ck (ihd a t pr i fl of_ s d o l 0 ++ o)
def ibytes (a t pr i fl of_ s d : Int) (o l : List Int) : List Int := ihd a t pr i fl of_ s d o l (ick a t pr i fl of_ s d o l) ++ o ++ l
def iwrong (fl of_ : Int) (o : List Int) : Prop := (o.length : Int) % 4 ≠ 0 ∨ (o.length : Int) > 40 ∨ fl > 7 ∨ of_ > 8191
instance (fl of_ : Int) (o : List Int) : Decidable (iwrong fl of_ o) := inferInstanceAs (Decidable (_ ∨ _))
def iout (a t pr i fl of_ s d : Int) (o l : List Int) : List Int × Int := if iwrong fl of_ o then ([], 21) else if 20 + (o.length : Int) + (l.length : Int) > 65535 then ([], 23) else (ibytes a t pr i fl of_ s d o l, 0)
section
variable {a t pr i fl of_ s d : Int} {o l : List Int}
theorem ihd_isB (ha : 0 ≤ a ∧ a ≤ 255) (ht : 0 ≤ t ∧ t ≤ 255) (hp : 0 ≤ pr ∧ pr ≤ 255) (ho : (o.length : Int) ≤ 40) (x : Int) : IsB (ihd a t pr i fl of_ s d o l x) := by
 unfold ihd
 repeat (first | exact .nil | refine .cons (by omega) ?_)
theorem ibytes_fin (ha : 0 ≤ a ∧ a ≤ 255) (ht : 0 ≤ t ∧ t ≤ 255) (hp : 0 ≤ pr ∧ pr ≤ 255) (ho : IsB o) (h40 : (o.length : Int) ≤ 40) (hl : l.length ≤ 1000000000) (k : Nat) (hk : 100 ≤ k) {H : List Int} (hH : H = ihd a t pr i fl of_ s d o l 0) :
  ip_Bytes.l0 (k + 1) H [s, d] 2 2 a t pr i fl of_ s d o l = some (ibytes a t pr i fl of_ s d o l, 0) := by
 subst hH
 have hn : (ihd a t pr i fl of_ s d o l 0 ++ o).length = 20 + o.length := by rw [List.length_append, ihd_length]
 have hset : ((ihd a t pr i fl of_ s d o l 0 ++ o).set (10 : Int).toNat (ick a t pr i fl of_ s d o l / 256 % 256)).set (11 : Int).toNat (ick a t pr i fl of_ s d o l % 256) = ihd a t pr i fl of_ s d o l (ick a t pr i fl of_ s d o l) ++ o := rfl
 have hof : sum_Of.f k (ihd a t pr i fl of_ s d o l 0 ++ o) = some (ick a t pr i fl of_ s d o l) := of_eq _ ((ihd_isB ha ht hp h40 0).append ho) (by rw [hn]; omega) k (by rw [hn]; omega) (by omega)
 have hn2 : (ihd a t pr i fl of_ s d o l (ick a t pr i fl of_ s d o l) ++ o).length = 20 + o.length := by rw [List.length_append, ihd_length]
 rw [ip_Bytes.l0, if_neg (by omega), if_pos (by rw [ihd_length]; omega), Option.bind_some, hof, Option.bind_some, if_pos (by rw [hn]; omega), if_pos (by rw [hn]; omega), Option.bind_some, hset, if_pos (by rw [hn2]; omega)]
 rfl
theorem ior (h4 : (o.length : Int) % 4 = 0) (h40 : (o.length : Int) ≤ 40) : Go.bits .or .u8 64 ((wrap64 (Int.tdiv (20 + (o.length : Int)) 4)) % 256) = 64 + (20 + (o.length : Int)) / 4 := by
 have e : (wrap64 (Int.tdiv (20 + (o.length : Int)) 4)) % 256 = (20 + (o.length : Int)) / 4 := by
  rw [Int.tdiv_eq_ediv_of_nonneg (by omega), wrap64_id (by omega) (by omega)]; omega
 rw [e]
 exact or_u8 6 (by omega) (by omega) (by omega) (by omega) (by omega) (by omega)
theorem ibits (hf : 0 ≤ fl ∧ fl ≤ 7) (ho : 0 ≤ of_ ∧ of_ ≤ 8191) : Go.bits .or .u16 (IntKind.u16.wrap ((IntKind.u16.wrap fl) * 8192)) of_ = fl * 8192 + of_ := by
 rw [u16w (n := fl) (by omega) (by omega), u16w (n := fl * 8192) (by omega) (by omega)]
 exact or_u16 13 (by omega) (by omega) (by omega) (by omega) (by omega) (by omega)
theorem ibytes_eq (ha : 0 ≤ a ∧ a ≤ 255) (ht : 0 ≤ t ∧ t ≤ 255) (hp : 0 ≤ pr ∧ pr ≤ 255) (hf : 0 ≤ fl) (hg : 0 ≤ of_) (ho : IsB o) (hol : o.length ≤ 1000000000) (hl : l.length ≤ 1000000000) (k : Nat) (hk : 200 ≤ k) : ip_Bytes.f k a t pr i fl of_ s d o l = some (iout a t pr i fl of_ s d o l) := by
 obtain ⟨k, rfl⟩ : ∃ j, k = j + 5 := ⟨k - 5, by omega⟩
 have w1 : wrap64 (20 + (o.length : Int)) = 20 + (o.length : Int) := wrap64_id (by omega) (by omega)
 unfold ip_Bytes.f
 rw [w1]
 by_cases cw : iwrong fl of_ o
 ·have hx : iout a t pr i fl of_ s d o l = ([], 21) := by unfold iout; rw [if_pos cw]
  rw [hx]
  by_cases c1 : (o.length : Int) % 4 = 0
  ·rw [if_pos c1]
   by_cases c2 : (o.length : Int) > 40
   ·rw [if_pos c2, ip_Bytes.j0, if_pos rfl]
   ·rw [if_neg c2]
    by_cases c3 : fl > 7
    ·rw [if_pos c3, ip_Bytes.j0, if_pos rfl]
    ·have c4 : of_ > 8191 := by unfold iwrong at cw; omega
     rw [if_neg c3, decide_eq_true c4, ip_Bytes.j0, if_pos rfl]
  ·rw [if_neg c1, ip_Bytes.j0, if_pos rfl]
 ·have cx : (o.length : Int) % 4 = 0 ∧ (o.length : Int) ≤ 40 ∧ fl ≤ 7 ∧ of_ ≤ 8191 := by unfold iwrong at cw; omega
  obtain ⟨x1, x2, x3, x4⟩ := cx
  have w2 : wrap64 (65535 - (20 + (o.length : Int))) = 65535 - (20 + (o.length : Int)) := wrap64_id (by omega) (by omega)
  rw [if_pos x1, if_neg (by omega), if_neg (by omega), decide_eq_false (by omega), ip_Bytes.j0, if_neg (by decide), w2]
  unfold iout
  rw [if_neg cw]
  by_cases c5 : 20 + (o.length : Int) + (l.length : Int) > 65535
  ·rw [if_pos (by omega), if_pos c5]
  ·rw [if_neg (by omega), if_neg c5, Option.bind_some]
   have w3 : wrap64 (20 + (o.length : Int) + (l.length : Int)) = 20 + (o.length : Int) + (l.length : Int) := wrap64_id (by omega) (by omega)
   have hlen : (([s, d] : List Int).length : Int) = 2 := rfl
   have r0 : rd [s, d] 0 = s := rfl
   have r1 : rd [s, d] 1 = d := rfl
   have n1 : wrap64 (0 + 1) = 1 := wrap64_id (by omega) (by omega)
   have n2 : wrap64 (1 + 1) = 2 := wrap64_id (by omega) (by omega)
   rw [ior x1 x2, ibits ⟨hf, x3⟩ ⟨hg, x4⟩, w3, hlen]
   rw [ip_Bytes.l0, if_pos (by omega), if_pos (by omega), hlen, if_pos (by omega), r0, Option.bind_some, if_pos (by simp), n1]
   rw [ip_Bytes.l0, if_pos (by omega), if_pos (by omega), hlen, if_pos (by omega), r1, Option.bind_some, if_pos (by simp), n2]
   exact ibytes_fin ha ht hp ho x2 hl _ (by omega) rfl
theorem put16_eq (l : List Int) (x : Int) (h : l.length ≤ 1000000000) : lychref1_Put16.f l x = some (l ++ [x / 256 % 256, x % 256]) := by
 unfold lychref1_Put16.f
 rw [Option.bind_some, if_pos (by simp; omega)]
theorem put32_eq (l : List Int) (x : Int) (h : l.length ≤ 1000000000) : lychref1_Put32.f l x = some (l ++ [x / 16777216 % 256, x / 65536 % 256, x / 256 % 256, x % 256]) := by
 unfold lychref1_Put32.f
 rw [Option.bind_some, if_pos (by simp; omega)]
theorem ribytes_fin (ha : 0 ≤ a ∧ a ≤ 255) (ht : 0 ≤ t ∧ t ≤ 255) (hp : 0 ≤ pr ∧ pr ≤ 255) (ho : IsB o) (h40 : (o.length : Int) ≤ 40) (hl : l.length ≤ 1000000000) (k : Nat) (hk : 100 ≤ k) {y : List Int} (hy : y = ihd a t pr i fl of_ s d o l 0 ++ o) :
  ((some (y : List Int)).bind fun y387 => ((lychref1_Of.f k y387).bind fun t390 => (if 10 < (y387.length : Int) then (if 11 < (y387.length : Int) then ((some ((y387.set (10 : Int).toNat ((t390 / 256) % 256)).set (11 : Int).toNat ((t390) % 256) : List Int)).bind fun y392 => (if y392.length + l.length < 140737488355328 then (some ((y392 ++ l), (0 : Int))) else (none))) else (none)) else (none)))) = some (ibytes a t pr i fl of_ s d o l, 0) := by
 subst hy
 have hn : (ihd a t pr i fl of_ s d o l 0 ++ o).length = 20 + o.length := by rw [List.length_append, ihd_length]
 have hset : ((ihd a t pr i fl of_ s d o l 0 ++ o).set (10 : Int).toNat (ick a t pr i fl of_ s d o l / 256 % 256)).set (11 : Int).toNat (ick a t pr i fl of_ s d o l % 256) = ihd a t pr i fl of_ s d o l (ick a t pr i fl of_ s d o l) ++ o := rfl
 have hof : lychref1_Of.f k (ihd a t pr i fl of_ s d o l 0 ++ o) = some (ick a t pr i fl of_ s d o l) := rof_eq _ ((ihd_isB ha ht hp h40 0).append ho) (by rw [hn]; omega) k (by rw [hn]; omega) (by omega)
 have hn2 : (ihd a t pr i fl of_ s d o l (ick a t pr i fl of_ s d o l) ++ o).length = 20 + o.length := by rw [List.length_append, ihd_length]
 rw [Option.bind_some, hof, Option.bind_some, if_pos (by rw [hn]; omega), if_pos (by rw [hn]; omega), Option.bind_some, hset, if_pos (by rw [hn2]; omega)]
 rfl
theorem ribytes_eq (ha : 0 ≤ a ∧ a ≤ 255) (ht : 0 ≤ t ∧ t ≤ 255) (hp : 0 ≤ pr ∧ pr ≤ 255) (hf : 0 ≤ fl) (hg : 0 ≤ of_) (ho : IsB o) (hol : o.length ≤ 1000000000) (hl : l.length ≤ 1000000000) (k : Nat) (hk : 200 ≤ k) : lychref1_IpBytes.f k a t pr i fl of_ s d o l = some (iout a t pr i fl of_ s d o l) := by
 obtain ⟨k, rfl⟩ : ∃ j, k = j + 1 := ⟨k - 1, by omega⟩
 have w1 : wrap64 (20 + (o.length : Int)) = 20 + (o.length : Int) := wrap64_id (by omega) (by omega)
 unfold lychref1_IpBytes.f
 by_cases cw : iwrong fl of_ o
 ·have hx : iout a t pr i fl of_ s d o l = ([], 21) := by unfold iout; rw [if_pos cw]
  rw [hx]
  by_cases c1 : (o.length : Int) % 4 = 0
  ·rw [if_pos c1]
   by_cases c2 : (o.length : Int) > 40
   ·rw [if_pos c2, lychref1_IpBytes.j0, if_pos rfl]
   ·rw [if_neg c2]
    by_cases c3 : fl > 7
    ·rw [if_pos c3, lychref1_IpBytes.j0, if_pos rfl]
    ·have c4 : of_ > 8191 := by unfold iwrong at cw; omega
     rw [if_neg c3, decide_eq_true c4, lychref1_IpBytes.j0, if_pos rfl]
  ·rw [if_neg c1, lychref1_IpBytes.j0, if_pos rfl]
 ·have cx : (o.length : Int) % 4 = 0 ∧ (o.length : Int) ≤ 40 ∧ fl ≤ 7 ∧ of_ ≤ 8191 := by unfold iwrong at cw; omega
  obtain ⟨x1, x2, x3, x4⟩ := cx
  have w2 : wrap64 (65535 - (20 + (o.length : Int))) = 65535 - (20 + (o.length : Int)) := wrap64_id (by omega) (by omega)
  rw [if_pos x1, if_neg (by omega), if_neg (by omega), decide_eq_false (by omega), lychref1_IpBytes.j0, if_neg (by decide), w1, w2]
  unfold iout
  rw [if_neg cw]
  by_cases c5 : 20 + (o.length : Int) + (l.length : Int) > 65535
  ·rw [if_pos (by omega), if_pos c5]
  ·rw [if_neg (by omega), if_neg c5]
   have w3 : IntKind.u16.wrap (wrap64 (20 + (o.length : Int) + (l.length : Int))) = 20 + (o.length : Int) + (l.length : Int) := by rw [wrap64_id (by omega) (by omega), u16w (by omega) (by omega)]
   rw [ior x1 x2, ibits ⟨hf, x3⟩ ⟨hg, x4⟩, w3]
   rw [put16_eq _ _ (by simp), Option.bind_some, put16_eq _ _ (by simp), Option.bind_some, put16_eq _ _ (by simp), Option.bind_some, Option.bind_some, if_pos (by simp), put32_eq _ _ (by simp), Option.bind_some, put32_eq _ _ (by simp), Option.bind_some, if_pos (by simp; omega)]
   exact ribytes_fin ha ht hp ho x2 hl k (by omega) (congrArg (· ++ o) rfl)
theorem ibytes_length : (ibytes a t pr i fl of_ s d o l).length = 20 + o.length + l.length := by
 unfold ibytes
 rw [List.length_append, List.length_append, ihd_length]
end
end Go.Proofs.Ytkmimamminddiaa.Pure

/- Plain: a packet's frame inside, and outside, is the document's. -/
namespace Go.Proofs.Ytkmimamminddiaa.Pure
set_option linter.unusedVariables false
set_option linter.unusedSimpArgs false
open Go.RowKit Go.Proofs.Ytkmimamminddiaa.PB Go.Proofs.YtkmimamminddiaaW.PrintWords Go.Proofs.YtkmimamminddiaaW.PrintLast
open Go.Proofs.Ytkmimamminddiaa.Spec Go.Proofs.Ytkmimamminddiaa.BytesEq
theorem bits_u32 (op : BinOp) (x y : Int) : 0 ≤ Go.bits op .u32 x y ∧ Go.bits op .u32 x y ≤ 4294967295 := by
 have h : ∀ n : Int, 0 ≤ IntKind.u32.wrap n ∧ IntKind.u32.wrap n ≤ 4294967295 := fun n => by
  show 0 ≤ n % 4294967296 ∧ n % 4294967296 ≤ 4294967295
  omega
 exact h _
theorem laid_cons {K : Nat} {x : FLay} {r : List FLay} {b y : List Int} (h : x.f K b = some (y, 0)) : laidF K (x :: r) b = laidF K r y := by
 rw [laidF, h, Option.bind_some, if_pos rfl]
theorem laid_bad {K : Nat} {x : FLay} {r : List FLay} {b y : List Int} {e : Int} (h : x.f K b = some (y, e)) (he : ¬ e = 0) : laidF K (x :: r) b = some ([], 23) := by
 rw [laidF, h, Option.bind_some, if_neg he]
theorem bind_at {α β : Type} {x : Option α} {a : α} (h : x = some a) (f : α → Option β) : x.bind f = f a := by rw [h, Option.bind_some]
theorem toIn_ref (K : Nat) (hK : 4000 ≤ K) (V ip vt : Int) (hV : 0 ≤ V ∧ V ≤ 4294967295) (h1 h2 h3 h4 h5 h6 m1 m2 m3 m4 m5 m6 t1 t2 t3 t4 t5 t6 : Int) (p : List Int) (hl : p.length ≤ 3000) :
  ∃ r e, laidF K [FLay.eth h1 h2 h3 h4 h5 h6 m1 m2 m3 m4 m5 m6 2048, FLay.net V, FLay.udp 50000 4789 0, FLay.ip 0 64 17 0 2 0 ip vt, FLay.eth t1 t2 t3 t4 t5 t6 m1 m2 m3 m4 m5 m6 2048] p = some (r, e) ∧ refInF K V ip vt h1 h2 h3 h4 h5 h6 m1 m2 m3 m4 m5 m6 t1 t2 t3 t4 t5 t6 p = some (r, e) := by
 have hnil : IsB ([] : List Int) := fun x hx => by cases hx
 have hn0 : (([] : List Int).length : Int) = 0 := rfl
 obtain ⟨x0, hx0⟩ : ∃ x0, x0 = ebytes h1 h2 h3 h4 h5 h6 m1 m2 m3 m4 m5 m6 2048 [] := ⟨_, rfl⟩
 have x1 : lychref1_EthBytes.f h1 h2 h3 h4 h5 h6 m1 m2 m3 m4 m5 m6 2048 [] = some (x0, 0) := by
  rw [rebytes_eq (by decide)]
  unfold eout
  rw [if_neg (by omega), hx0]
 have x2 : x0 ++ p = ebytes h1 h2 h3 h4 h5 h6 m1 m2 m3 m4 m5 m6 2048 p := by
  rw [hx0]
  unfold ebytes
  simp only [List.append_assoc, List.append_nil]
 have x3 : x0.length = 14 := by rw [hx0, ebytes_length]; rfl
 clear hx0
 obtain ⟨b1, hb1⟩ : ∃ b1, b1 = ebytes h1 h2 h3 h4 h5 h6 m1 m2 m3 m4 m5 m6 2048 p := ⟨_, rfl⟩
 have l1 : b1.length = 14 + p.length := by rw [hb1]; exact ebytes_length
 rw [← hb1] at x2
 have rv : lychref1_VxlanBytes.f V b1 = _ := rvbytes_eq hV (by omega)
 unfold refInF
 rw [bind_at x1]
 dsimp only
 rw [if_pos (show x0.length + p.length < 140737488355328 by omega), x2]
 by_cases g1 : (p.length : Int) > 1586
 ·have s1 : (FLay.eth h1 h2 h3 h4 h5 h6 m1 m2 m3 m4 m5 m6 2048).f K p = some ([], 23) := by
   show frames_ethernet_bytes.f K h1 h2 h3 h4 h5 h6 m1 m2 m3 m4 m5 m6 2048 [] p = _
   unfold frames_ethernet_bytes.f
   rw [ebytes_eq (by omega) K (by omega), Option.bind_some]
   unfold eout
   rw [if_pos g1]
  refine ⟨[], 23, laid_bad s1 (by decide), ?_⟩
  by_cases g2 : (p.length : Int) > 1600
  ·rw [if_pos g2]
  ·rw [if_neg g2]
   have g4 : (b1.length : Int) > 1592 := by omega
   by_cases g3 : V > 16777215
   ·rw [if_pos g3] at rv
    rw [bind_at rv]
    dsimp only
    rw [if_neg (by decide)]
   ·rw [if_neg g3, if_pos g4] at rv
    rw [bind_at rv]
    dsimp only
    rw [if_neg (by decide)]
 ·have s1 : (FLay.eth h1 h2 h3 h4 h5 h6 m1 m2 m3 m4 m5 m6 2048).f K p = some (b1, 0) := by
   show frames_ethernet_bytes.f K h1 h2 h3 h4 h5 h6 m1 m2 m3 m4 m5 m6 2048 [] p = _
   unfold frames_ethernet_bytes.f
   rw [ebytes_eq (by omega) K (by omega), Option.bind_some]
   unfold eout
   rw [if_neg g1, hb1]
  rw [laid_cons s1, if_neg (show ¬ (p.length : Int) > 1600 by omega)]
  have s2 : (FLay.net V).f K b1 = vxlan_Bytes.f V b1 := by
   show frames_network_bytes.f V b1 = _
   unfold frames_network_bytes.f
   cases vxlan_Bytes.f V b1 <;> rfl
  rw [vbytes_eq (by omega)] at s2
  by_cases g3 : V > 16777215
  ·rw [if_pos g3] at rv s2
   rw [bind_at rv, laid_bad s2 (by decide)]
   dsimp only
   rw [if_neg (by decide)]
   exact ⟨[], 23, rfl, rfl⟩
  rw [if_neg g3] at rv s2
  by_cases g4 : (b1.length : Int) > 1592
  ·rw [if_pos g4] at rv s2
   rw [bind_at rv, laid_bad s2 (by decide)]
   dsimp only
   rw [if_neg (by decide)]
   exact ⟨[], 23, rfl, rfl⟩
  rw [if_neg g4] at rv s2
  obtain ⟨b2, hb2⟩ : ∃ b2, b2 = [8, 0, 0, 0, V / 65536 % 256, V / 256 % 256, V % 256, 0] ++ b1 := ⟨_, rfl⟩
  have l2 : b2.length = 8 + b1.length := by rw [hb2, List.length_append]; rfl
  rw [← hb2] at rv s2
  rw [bind_at rv, laid_cons s2]
  clear hb2 rv s2
  dsimp only
  rw [if_pos rfl]
  obtain ⟨b3, hb3⟩ : ∃ b3, b3 = ubytes 50000 4789 0 b2 := ⟨_, rfl⟩
  have l3 : b3.length = 8 + b2.length := by rw [hb3]; exact ubytes_length _ _ _ _
  have s3 : (FLay.udp 50000 4789 0).f K b2 = some (b3, 0) := by
   show frames_datagram_bytes.f 50000 4789 0 [] b2 = _
   unfold frames_datagram_bytes.f
   rw [ubytes_eq _ _ _ (by omega), if_neg (by omega), Option.bind_some, hb3]
  have r3 : lychref1_UdpBytes.f 50000 4789 0 b2 = some (b3, 0) := by rw [rubytes_eq _ _ _ (by omega), if_neg (by omega), hb3]
  clear hb3
  rw [bind_at r3, laid_cons s3]
  clear r3 s3
  dsimp only
  obtain ⟨b4, hb4⟩ : ∃ b4, b4 = ibytes 0 64 17 0 2 0 ip vt [] b3 := ⟨_, rfl⟩
  have l4 : b4.length = 20 + b3.length := by rw [hb4, ibytes_length]; rfl
  have i3 : iout 0 64 17 0 2 0 ip vt [] b3 = (b4, 0) := by
   unfold iout
   rw [if_neg (by unfold iwrong; simp), if_neg (by omega), hb4]
  have s4 : (FLay.ip 0 64 17 0 2 0 ip vt).f K b3 = some (b4, 0) := by
   show frames_packet_bytes.f K 0 64 17 0 2 0 ip vt [] [] b3 = _
   unfold frames_packet_bytes.f
   rw [ibytes_eq (by omega) (by omega) (by omega) (by omega) (by omega) hnil (by decide) (by omega) K (by omega), i3, Option.bind_some]
  have r4 : lychref1_IpBytes.f K 0 64 17 0 2 0 ip vt [] b3 = some (b4, 0) := by rw [ribytes_eq (by omega) (by omega) (by omega) (by omega) (by omega) hnil (by decide) (by omega) K (by omega), i3]
  clear i3 hb4
  rw [bind_at r4, laid_cons s4]
  clear r4 s4
  dsimp only
  have r5 : lychref1_EthBytes.f t1 t2 t3 t4 t5 t6 m1 m2 m3 m4 m5 m6 2048 b4 = some (eout t1 t2 t3 t4 t5 t6 m1 m2 m3 m4 m5 m6 2048 b4) := rebytes_eq (by omega)
  have s5 : (FLay.eth t1 t2 t3 t4 t5 t6 m1 m2 m3 m4 m5 m6 2048).f K b4 = some (eout t1 t2 t3 t4 t5 t6 m1 m2 m3 m4 m5 m6 2048 b4) := by
   show frames_ethernet_bytes.f K t1 t2 t3 t4 t5 t6 m1 m2 m3 m4 m5 m6 2048 [] b4 = _
   unfold frames_ethernet_bytes.f
   rw [ebytes_eq (by omega) K (by omega), Option.bind_some]
  obtain ⟨eo, heo⟩ : ∃ eo, eo = eout t1 t2 t3 t4 t5 t6 m1 m2 m3 m4 m5 m6 2048 b4 := ⟨_, rfl⟩
  rw [← heo] at r5 s5
  clear heo
  obtain ⟨y, e⟩ := eo
  rw [bind_at r5]
  dsimp only
  by_cases g5 : e = 0
  ·subst g5
   rw [laid_cons s5, if_pos rfl, laidF]
   exact ⟨y, 0, rfl, rfl⟩
  ·rw [laid_bad s5 g5, if_neg g5]
   exact ⟨[], 23, rfl, rfl⟩
theorem toOut_ref (K : Nat) (hK : 4000 ≤ K) (n1 n2 n3 n4 n5 n6 o1 o2 o3 o4 o5 o6 : Int) (p : List Int) (hl : p.length ≤ 3000) :
  ∃ r e, laidF K [FLay.eth n1 n2 n3 n4 n5 n6 o1 o2 o3 o4 o5 o6 2048] p = some (r, e) ∧ ((lychref1_EthBytes.f n1 n2 n3 n4 n5 n6 o1 o2 o3 o4 o5 o6 2048 p).bind fun bt421 => (some (bt421.1, bt421.2))) = some (r, e) := by
 have s1 : frames_ethernet_bytes.f K n1 n2 n3 n4 n5 n6 o1 o2 o3 o4 o5 o6 2048 [] p = some (eout n1 n2 n3 n4 n5 n6 o1 o2 o3 o4 o5 o6 2048 p) := by
  unfold frames_ethernet_bytes.f
  rw [ebytes_eq (by omega) K (by omega)]
  rfl
 rw [rebytes_eq (by omega)]
 show ∃ r e, (frames_ethernet_bytes.f K n1 n2 n3 n4 n5 n6 o1 o2 o3 o4 o5 o6 2048 [] p).bind _ = _ ∧ _
 rw [s1, Option.bind_some, Option.bind_some]
 unfold eout
 by_cases g5 : (p.length : Int) > 1586
 ·rw [if_pos g5]
  exact ⟨[], 23, rfl, rfl⟩
 ·rw [if_neg g5]
  exact ⟨_, 0, rfl, rfl⟩
end Go.Proofs.Ytkmimamminddiaa.Pure

namespace Go.Proofs.Ytkmimamminddiaa.PB
open Go.RowKit Go.Proofs.YtkmimamminddiaaW.PrintWords Go.Proofs.YtkmimamminddiaaW.PrintLast Go.Proofs.YtkmimamminddiaaW.PrintMore
set_option linter.unusedVariables false
set_option linter.unusedSimpArgs false
open Go.Proofs.Ytkmimamminddiaa.Spec Go.Proofs.Ytkmimamminddiaa.Pure Go.Proofs.Ytkmimamminddiaa.BytesEq
set_option maxHeartbeats 40000000 in
set_option maxRecDepth 100000 in
theorem framesWrite.calls (a0_0 a0_1 a0_2 a0_3 a0_4 a0_5 a0_6 a0_7 a0_8 a0_9 a0_10 a0_11 a0_12 a0_13 a0_14 a0_15 a0_16 a0_17 a0_18 a0_19 a0_20 a0_21 a0_22 a0_23 a0_24 a0_25 a0_26 a0_27 : Int) (A0_28 : Option Addr) (n0_28 c0_28 : Nat) (a1_0 : ByteArray) (a1_1 a1_2 a1_3 a1_4 a1_5 a1_6 a1_7 a1_8 a1_9 a1_10 a1_11 a1_12 a1_13 a1_14 a1_15 a1_16 a1_17 a1_18 a1_19 a1_20 a1_21 a1_22 a1_24 a1_25 a1_26 a1_29 a1_30 a1_31 a1_32 : Int) (A1_23 A1_27 A1_28 : Option Addr) (n1_23 c1_23 n1_27 c1_27 n1_28 c1_28 : Nat) (A2 : Option Addr) (c2 : Nat) (l2 : List Int) (more : Int) (w : World) (hr2 : Kd.C (Kd.int .u8) w A2 l2.length l2) (hc2 : l2.length ≤ c2) (hm : 0 ≤ more ∧ more ≤ 65535) :
  Calls Try.prog 4 #[.agg #[.int .u32 a0_0, .int .u8 a0_1, .int .u8 a0_2, .int .u8 a0_3, .int .u8 a0_4, .int .u8 a0_5, .int .u8 a0_6, .int .u8 a0_7, .int .u8 a0_8, .int .u8 a0_9, .int .u8 a0_10, .int .u8 a0_11, .int .u8 a0_12, .int .u8 a0_13, .int .u8 a0_14, .int .u8 a0_15, .int .u8 a0_16, .int .u8 a0_17, .int .u8 a0_18, .int .u8 a0_19, .int .u8 a0_20, .int .u8 a0_21, .int .u8 a0_22, .int .u8 a0_23, .int .u8 a0_24, .int .u8 a0_25, .int .u8 a0_26, .int .u32 a0_27, .slice A0_28 n0_28 c0_28], .agg #[.string a1_0, .int .u32 a1_1, .int .u8 a1_2, .int .u8 a1_3, .int .u8 a1_4, .int .u8 a1_5, .int .u8 a1_6, .int .u8 a1_7, .int .u8 a1_8, .int .u8 a1_9, .int .u32 a1_10, .int .u8 a1_11, .int .u8 a1_12, .int .u8 a1_13, .int .u8 a1_14, .int .u8 a1_15, .int .u8 a1_16, .int .u8 a1_17, .int .u8 a1_18, .int .u8 a1_19, .int .u8 a1_20, .int .u8 a1_21, .int .u8 a1_22, .slice A1_23 n1_23 c1_23, .int .u16 a1_24, .int .u16 a1_25, .int .i64 a1_26, .slice A1_27 n1_27 c1_27, .slice A1_28 n1_28 c1_28, .int .i64 a1_29, .int .i64 a1_30, .int .u32 a1_31, .int .u32 a1_32], .slice A2 l2.length c2, .int .u16 more] w fun e w' => e = .returned (.bool true) ∧ Below w.heap.size w w' := by
 have hu33 := Try.underlying33
 have hu29 := Try.underlying29
 have hu48 := Try.underlying48
 have hu31 := Try.underlying31
 have HC := Aside0.mk hr2
 have HCC := Aside0.mk hc2
 have HB := Aside0.mk (Below.refl w.heap.size w)
 have HI : Aside0 ((Try.prog.info? 33).map (·.size) = some 29) := ⟨by kernel_rfl⟩
 have HI48 : Aside0 ((Try.prog.info? 48).map (·.size) = some 33) := ⟨by kernel_rfl⟩
 have HM : Aside0 (0 ≤ more.tmod 1700 ∧ more.tmod 1700 < 1700) := ⟨⟨Int.tmod_nonneg _ hm.1, Int.tmod_lt_of_pos _ (by decide)⟩⟩
 clear hr2 hc2 hm
 obtain ⟨np, hnp⟩ : ∃ np, np = l2.length := ⟨_, rfl⟩
 have HNP := Aside0.mk hnp
 rw [← hnp]
 clear hnp
 go_enter Try.func4, Try.ntmps4
 go_upto_region 1 with (first | ((with_reducible refine gate_dst (N := 4) rfl ?_); refine box_event ?hg (N := 4) ?hd (cs := #[.int .u32 a0_0, .int .u8 a0_1, .int .u8 a0_2, .int .u8 a0_3, .int .u8 a0_4, .int .u8 a0_5, .int .u8 a0_6, .int .u8 a0_7, .int .u8 a0_8, .int .u8 a0_9, .int .u8 a0_10, .int .u8 a0_11, .int .u8 a0_12, .int .u8 a0_13, .int .u8 a0_14, .int .u8 a0_15, .int .u8 a0_16, .int .u8 a0_17, .int .u8 a0_18, .int .u8 a0_19, .int .u8 a0_20, .int .u8 a0_21, .int .u8 a0_22, .int .u8 a0_23, .int .u8 a0_24, .int .u8 a0_25, .int .u8 a0_26, .int .u32 a0_27, .slice A0_28 n0_28 c0_28]) (t := 33) ?hr ?_; (case hd => rfl); (case hg => rfl); (case hr => first | (go_simp; done) | (go_simp; rfl)); intro gp hg w1 hbox hb; have n0_ := Aside0.mk (below_step (by repeat (first | (with_reducible first | exact HB.out | apply below_alloc | apply pw_below_drewN | apply below_drew1) | exact HB.out)) hb); have HP := Aside0.mk hbox; clear HB ; have HB := n0_; clear n0_  hb hbox hg) | ((with_reducible refine gate_dst (N := 5) rfl ?_); refine box_event ?hg (N := 5) ?hd (cs := #[.string a1_0, .int .u32 a1_1, .int .u8 a1_2, .int .u8 a1_3, .int .u8 a1_4, .int .u8 a1_5, .int .u8 a1_6, .int .u8 a1_7, .int .u8 a1_8, .int .u8 a1_9, .int .u32 a1_10, .int .u8 a1_11, .int .u8 a1_12, .int .u8 a1_13, .int .u8 a1_14, .int .u8 a1_15, .int .u8 a1_16, .int .u8 a1_17, .int .u8 a1_18, .int .u8 a1_19, .int .u8 a1_20, .int .u8 a1_21, .int .u8 a1_22, .slice A1_23 n1_23 c1_23, .int .u16 a1_24, .int .u16 a1_25, .int .i64 a1_26, .slice A1_27 n1_27 c1_27, .slice A1_28 n1_28 c1_28, .int .i64 a1_29, .int .i64 a1_30, .int .u32 a1_31, .int .u32 a1_32]) (t := 48) ?hr ?_; (case hd => rfl); (case hg => rfl); (case hr => first | (go_simp; done) | (go_simp; rfl)); intro gq hg w2 hbox hb; have n0_ := Aside0.mk (below_step (by repeat (first | (with_reducible first | exact HB.out | apply below_alloc | apply pw_below_drewN | apply below_drew1) | exact HB.out)) hb); have n1_ := Aside0.mk (blk_below (g := gp) (o := .cells #[.int .u32 a0_0, .int .u8 a0_1, .int .u8 a0_2, .int .u8 a0_3, .int .u8 a0_4, .int .u8 a0_5, .int .u8 a0_6, .int .u8 a0_7, .int .u8 a0_8, .int .u8 a0_9, .int .u8 a0_10, .int .u8 a0_11, .int .u8 a0_12, .int .u8 a0_13, .int .u8 a0_14, .int .u8 a0_15, .int .u8 a0_16, .int .u8 a0_17, .int .u8 a0_18, .int .u8 a0_19, .int .u8 a0_20, .int .u8 a0_21, .int .u8 a0_22, .int .u8 a0_23, .int .u8 a0_24, .int .u8 a0_25, .int .u8 a0_26, .int .u32 a0_27, .slice A0_28 n0_28 c0_28] 33 (0, 0)) (by (with_reducible repeat (first | refine blk_drewN ?_ _ | refine blk_drew ?_ | refine blk_alloc ?_ _)); exact HP.out) hb); have HQ := Aside0.mk hbox; clear HB HP; have HB := n0_; have HP := n1_; clear n0_ n1_ hb hbox hg))
 have n_HC := Aside0.mk (Kd.C_below HC.out HB.out)
 clear HC
 have HC := n_HC
 clear n_HC
 go_wp2_with fail
 refine (known22.calls _).mono ?_
 rintro e w3 ⟨rfl, hb⟩
 have n_HB := Aside0.mk (below_step HB.out hb)
 have n_HP := Aside0.mk (blk_below HP.out hb)
 have n_HQ := Aside0.mk (blk_below HQ.out hb)
 have n_HC := Aside0.mk (Kd.C_below HC.out hb)
 clear HB HP HQ HC
 have HB := n_HB
 have HP := n_HP
 have HQ := n_HQ
 have HC := n_HC
 clear n_HB n_HP n_HQ n_HC
 clear hb
 by_cases c1 : (1000 : Int) < (np : Int)
 ·have k1a : decide ((1000 : Int) < (np : Int)) = true := decide_eq_true (c1)
  have k1b : ((1000 : Int) < (np : Int)) = True := eq_true (c1)
  (try dsimp only)
  go_wp2
  (try simp only [Exit.inBlock, Exit.then])
  go_ret
  exact ⟨rfl, HB.out⟩
 ·have k1a : decide ((1000 : Int) < (np : Int)) = false := decide_eq_false (c1)
  have k1b : ((1000 : Int) < (np : Int)) = False := eq_false (c1)
  have gp28 : w3.cell? ⟨gp, 28, none⟩ = some (.slice A0_28 n0_28 c0_28) := (blk_cell HP.out 28).trans rfl
  by_cases g2 : (20 : Int) < (n0_28 : Int)
  ·have k2a : decide ((20 : Int) < (n0_28 : Int)) = true := decide_eq_true (g2)
   have k2b : ((20 : Int) < (n0_28 : Int)) = True := eq_true (g2)
   (try dsimp only)
   go_wp2
   (try simp only [Exit.inBlock, Exit.then])
   go_ret
   exact ⟨rfl, HB.out⟩
  ·have k2a : decide ((20 : Int) < (n0_28 : Int)) = false := decide_eq_false (g2)
   have k2b : ((20 : Int) < (n0_28 : Int)) = False := eq_false (g2)
   have HN1 : Aside0 (l2.length ≤ 1000) := ⟨by have := HNP.out; omega⟩
   go_upto_region 5 with (fail)
   clear gp28 k1a k1b k2a k2b c1 g2
   rw [HNP.out]
   go_upto_region 6 with (first | ((with_reducible refine gate_builtin (b := .append) (xs := #[.const (.slice none 0 0), .tmp 28]) rfl ?_); at_builtin; refine Kd.R_append_rows (Kd.int .u8) (w0 := w) w.heap.size rfl (.const (.slice none 0 0)) (.tmp 28) 23 5 (.int .u8 0) 1 rfl Try.underlying23 info5 rfl (by decide) (by omega) (.slice none 0 0) ([] : List Int) l2 _ _ _ (fun _ => True) (fun _ => False) rfl rfl ?aO ?aR (fun _ _ h => h) (fun _ h => h.elim) ?aF ?aB ?aS ?aL ?_; (case aR => exact HC.out); (case aB => exact HB.out); (case aF => exact (fun _ _ => trivial)); (case aO => exact Kd.R_nil _ _ _ _ _); (case aS => exact (below_size HB.out)); (case aL => have := HN1.out; simp; omega); intro v2 w4 ho hb hg hat; have n1_ := Aside0.mk (blk_grown HP.out hg (by simp [Value.ownBlock])); have n2_ := Aside0.mk (blk_grown HQ.out hg (by simp [Value.ownBlock])); clear hg hat HB HP HQ HC; have HB := Aside0.mk hb; have HO := Aside0.mk ho; have HP := n1_; have HQ := n2_; clear hb ho n1_ n2_) | ((with_reducible refine gate_builtin (b := .append) (xs := #[.tmp 29, .tmp 31]) rfl ?_); at_builtin; refine Kd.R_append_zeros (Kd.int .u8) (w0 := w) w.heap.size rfl (.tmp 29) (.tmp 31) 23 45 5 (.int .u8 0) 1 rfl Try.underlying23 Try.underlying45 info5 rfl (by decide) (by decide) v2 ([] ++ l2) 0 (more.tmod 1700) (fun _ => True) rfl rfl rfl (fun _ _ => trivial) HO.out HM.out.1 HB.out (below_size HB.out) ?aL ?_; (case aL => have := HN1.out; have := HM.out; simp; omega); intro v3 w5 ho hb hg hat; have n1_ := Aside0.mk (blk_grown HP.out hg (Kd.R_ne HO.out HP.out (by decide))); have n2_ := Aside0.mk (blk_grown HQ.out hg (Kd.R_ne HO.out HQ.out (by decide))); clear hg hat HB HP HQ HO; have HB := Aside0.mk hb; have HO := Aside0.mk ho; have HP := n1_; have HQ := n2_; clear hb ho n1_ n2_))
   obtain ⟨P, hP⟩ : ∃ P, P = ([] ++ l2) ++ List.replicate (more.tmod 1700).toNat (0 : Int) := ⟨_, rfl⟩
   have hPl : P.length ≤ 3000 := by
    have := HN1.out
    have := HM.out
    rw [hP, List.length_append, List.length_append, List.length_replicate, List.length_nil]
    omega
   have ho := HO.out
   rw [← hP] at ho
   clear HO hP
   obtain ⟨A5, c5, rfl, hc5, hk5⟩ := Kd.R_reads ho
   have HA := Aside0.mk hk5
   have HCA := Aside0.mk hc5
   clear ho hk5 hc5
   obtain ⟨ri, ei, hi1, hi2⟩ := toIn_ref 4000 (Nat.le_refl _) (Go.bits .and .u32 a1_1 16777215) a0_0 a1_10 (bits_u32 _ _ _) a1_17 a1_18 a1_19 a1_20 a1_21 a1_22 a0_1 a0_2 a0_3 a0_4 a0_5 a0_6 a1_11 a1_12 a1_13 a1_14 a1_15 a1_16 P hPl
   obtain ⟨rz, ez, hz1, hz2⟩ := toOut_ref 4000 (Nat.le_refl _) a0_13 a0_14 a0_15 a0_16 a0_17 a0_18 a0_7 a0_8 a0_9 a0_10 a0_11 a0_12 P hPl
   have HI1 := Aside0.mk hi1
   have HI2 := Aside0.mk hi2
   have HZ1 := Aside0.mk hz1
   have HZ2 := Aside0.mk hz2
   clear hi1 hi2 hz1 hz2 hPl
   (try dsimp only)
   go_wp2_with (first | (refine Kd.event_run rfl (load_row rfl rfl HP.out hu33 rfl HI.out) ?_) | (refine Kd.event_run rfl (load_row rfl rfl HQ.out hu48 rfl HI48.out) ?_))
   refine (frames_ToInside.calls 4000 _ _ _ _ _ _ _ _ _ _ _ _ _ _ _ _ _ _ _ _ _ _ _ _ _ _ _ _ _ _ _ _ _ _ _ _ _ _ _ _ _ _ _ _ _ _ _ _ _ _ _ _ _ _ _ _ _ _ _ _ _ _ _ _ _ _ _ _ _ _ _ _  P ri ei _ HA.out HCA.out HI1.out).mono ?_
   rintro e w6 ⟨v_, rfl, ho, hb⟩
   obtain ⟨Ax, cx, rfl, hcx, hkx⟩ := Kd.R_reads ho
   have HX := Aside0.mk hkx
   have HCX := Aside0.mk hcx
   clear ho hkx hcx
   have n_HB := Aside0.mk (below_step HB.out hb)
   have n_HP := Aside0.mk (blk_below HP.out hb)
   have n_HQ := Aside0.mk (blk_below HQ.out hb)
   have n_HA := Aside0.mk (Kd.C_below HA.out hb)
   clear HB HP HQ HA
   have HB := n_HB
   have HP := n_HP
   have HQ := n_HQ
   have HA := n_HA
   clear n_HB n_HP n_HQ n_HA
   clear hb
   (try dsimp only)
   go_wp2_with (first | (refine Kd.event_run rfl (load_row rfl rfl HP.out hu33 rfl HI.out) ?_) | (refine Kd.event_run rfl (load_row rfl rfl HQ.out hu48 rfl HI48.out) ?_))
   refine (ref22_ToInside.calls 4000 _ _ _ _ _ _ _ _ _ _ _ _ _ _ _ _ _ _ _ _ _ _ _ _ _ _ _ _ _ _ _ _ _ _ _ _ _ _ _ _ _ _ _ _ _ _ _ _ _ _ _ _ _ _ _ _ _ _ _ _ _ _ _ _ _ _ _ _ _ _ _ _  P ri ei _ HA.out HCA.out HI2.out).mono ?_
   rintro e w7 ⟨v_, rfl, ho, hb⟩
   obtain ⟨Ay, cy, rfl, hcy, hky⟩ := Kd.R_reads ho
   have HY := Aside0.mk hky
   have HCY := Aside0.mk hcy
   clear ho hky hcy
   have n_HB := Aside0.mk (below_step HB.out hb)
   have n_HP := Aside0.mk (blk_below HP.out hb)
   have n_HQ := Aside0.mk (blk_below HQ.out hb)
   have n_HA := Aside0.mk (Kd.C_below HA.out hb)
   have n_HX := Aside0.mk (Kd.C_below HX.out hb)
   clear HB HP HQ HA HX
   have HB := n_HB
   have HP := n_HP
   have HQ := n_HQ
   have HA := n_HA
   have HX := n_HX
   clear n_HB n_HP n_HQ n_HA n_HX
   clear hb
   (try dsimp only)
   go_wp2_with (first | (refine Kd.event_run rfl (load_row rfl rfl HP.out hu33 rfl HI.out) ?_) | (refine Kd.event_run rfl (load_row rfl rfl HQ.out hu48 rfl HI48.out) ?_))
   refine (frames_ToOutside.calls 4000 _ _ _ _ _ _ _ _ _ _ _ _ _ _ _ _ _ _ _ _ _ _ _ _ _ _ _ _ _ _ _ _ _  P rz ez _ HA.out HCA.out HZ1.out).mono ?_
   rintro e w8 ⟨v_, rfl, ho, hb⟩
   obtain ⟨Az, cz, rfl, hcz, hkz⟩ := Kd.R_reads ho
   have HZ := Aside0.mk hkz
   have HCZ := Aside0.mk hcz
   clear ho hkz hcz
   have n_HB := Aside0.mk (below_step HB.out hb)
   have n_HP := Aside0.mk (blk_below HP.out hb)
   have n_HQ := Aside0.mk (blk_below HQ.out hb)
   have n_HA := Aside0.mk (Kd.C_below HA.out hb)
   have n_HX := Aside0.mk (Kd.C_below HX.out hb)
   have n_HY := Aside0.mk (Kd.C_below HY.out hb)
   clear HB HP HQ HA HX HY
   have HB := n_HB
   have HP := n_HP
   have HQ := n_HQ
   have HA := n_HA
   have HX := n_HX
   have HY := n_HY
   clear n_HB n_HP n_HQ n_HA n_HX n_HY
   clear hb
   (try dsimp only)
   go_wp2_with (first | (refine Kd.event_run rfl (load_row rfl rfl HP.out hu33 rfl HI.out) ?_) | (refine Kd.event_run rfl (load_row rfl rfl HQ.out hu48 rfl HI48.out) ?_))
   refine (ref22_ToOutside.calls _ _ _ _ _ _ _ _ _ _ _ _ _ _ _ _ _ _ _ _ _ _ _ _ _ _ _ _ _ _ _ _ _  P rz ez _ HA.out HCA.out HZ2.out).mono ?_
   rintro e w9 ⟨v_, rfl, ho, hb⟩
   obtain ⟨Au, cu, rfl, hcu, hku⟩ := Kd.R_reads ho
   have HU := Aside0.mk hku
   have HCU := Aside0.mk hcu
   clear ho hku hcu HP HQ HA
   have n_HB := Aside0.mk (below_step HB.out hb)
   have n_HX := Aside0.mk (Kd.C_below HX.out hb)
   have n_HY := Aside0.mk (Kd.C_below HY.out hb)
   have n_HZ := Aside0.mk (Kd.C_below HZ.out hb)
   clear HB HX HY HZ
   have HB := n_HB
   have HX := n_HX
   have HY := n_HY
   have HZ := n_HZ
   clear n_HB n_HX n_HY n_HZ
   clear hb
   (try dsimp only)
   go_wp2_with fail
   refine (lychhelp_Bytes.calls Ax cx ri Ay cy ri true _ HX.out HCX.out HY.out HCY.out (bytes_refl ri)).mono ?_
   rintro e w10 ⟨rfl, ⟨nd, rfl⟩⟩
   have hb := pw_below_drewN (Below.refl w9.heap.size w9) nd
   have n_HU := Aside0.mk (Kd.C_below HU.out hb)
   clear HX HY HU
   have HU := n_HU
   clear n_HU
   have n_HB := Aside0.mk (below_step HB.out hb)
   have n_HZ := Aside0.mk (Kd.C_below HZ.out hb)
   clear HB HZ
   have HB := n_HB
   have HZ := n_HZ
   clear n_HB n_HZ
   clear hb
   generalize w9.drewN nd = w10 at HB HZ HU ⊢
   (try dsimp only)
   go_wp2_with fail
   refine (lychhelp_Bytes.calls Az cz rz Au cu rz true _ HZ.out HCZ.out HU.out HCU.out (bytes_refl rz)).mono ?_
   rintro e w11 ⟨rfl, ⟨nd, rfl⟩⟩
   have n_HB := Aside0.mk (pw_below_drewN HB.out nd)
   clear HB HZ HU
   have HB := n_HB
   clear n_HB
   (try dsimp only)
   go_wp2
   (try simp only [Exit.inBlock, Exit.then])
   go_ret
   exact ⟨rfl, HB.out⟩
end Go.Proofs.Ytkmimamminddiaa.PB

/- The settings and a tenant by value, opened: their cells' kinds. -/
namespace Go.Proofs.YtkmimamminddiaaW.AggWords
open Go.Joins Go.ChangeShapes Go.WideShapes Go.RowKit Go.Deep
set_option linter.unusedVariables false
set_option linter.unusedSimpArgs false
theorem cut_ {l p : List Value} {a k b : Nat} (h : (l.drop a).take k = p) (hb : a + k = b) : l.drop a = p ++ l.drop b := by
 have h1 := (List.take_append_drop k (l.drop a)).symm
 rw [h, List.drop_drop, hb] at h1
 exact h1
theorem u8s_of : ∀ (cs : List Value), (∀ i, i < cs.length → ∃ a : Int, (cs.drop i).take 1 = [.int .u8 a]) → ∃ xs : List Int, cs = xs.map (Value.int .u8)
 | [], _ => ⟨[], rfl⟩
 | c :: cs, h => by
  obtain ⟨a, ha⟩ := h 0 (by simp)
  obtain ⟨xs, hx⟩ := u8s_of cs (fun i hi => by
   obtain ⟨b, hb⟩ := h (i + 1) (by simp; omega)
   exact ⟨b, by simpa using hb⟩)
  refine ⟨a :: xs, ?_⟩
  simp at ha
  rw [ha, hx, List.map_cons]
theorem six_ : ∀ {xs : List Int}, xs.length = 6 → ∃ a b c d e f, xs = [a, b, c, d, e, f]
 | [a, b, c, d, e, f], _ => ⟨a, b, c, d, e, f, rfl⟩
theorem eight_ : ∀ {xs : List Int}, xs.length = 8 → ∃ a b c d e f g h, xs = [a, b, c, d, e, f, g, h]
 | [a, b, c, d, e, f, g, h], _ => ⟨a, b, c, d, e, f, g, h, rfl⟩
section
variable {H : Type} {enc : TypeId × Value → H} {w : World} {base : Nat} {spare : Nat → Bool} {held : Bool}
theorem open_u8s {P : Program} {t e : TypeId} {n fuel : Nat} {cs : List Value} {x : DataW H × List MemPlace} (ht : P.underlying t = some (.array n e)) (he : P.underlying e = some (.int .u8)) (hc : P.cellsOf e = 1) (hn : P.cellsOf t = n)
  (h : DataW.trod enc P w base spare held fuel t cs = some x) : ∃ xs : List Int, xs.length = n ∧ cs = xs.map (Value.int .u8) := by
 obtain ⟨ys, m, _, _, hl, hyl, hf⟩ := Go.DataW.trod_array ht h
 rw [hn] at hl
 obtain ⟨xs, hx⟩ := u8s_of cs (fun i hi => by
  have hy := hf i (by omega)
  rw [hc, Nat.mul_one] at hy
  obtain ⟨y, hy2⟩ : ∃ y, ys[i]? = some y := ⟨_, List.getElem?_eq_getElem (by omega)⟩
  rw [hy2] at hy
  obtain ⟨a, e1, _, _⟩ := DataW.trod_int he hy
  exact ⟨a, e1⟩)
 exact ⟨xs, by rw [← hl, hx, List.length_map], hx⟩
set_option maxRecDepth 100000 in
set_option maxHeartbeats 4000000 in
theorem open_cfg {r : Reach} {b0 : Nat} {v : Value} {d : DataW H} {p : List MemPlace} (hv : Value.okWide Try.prog w r b0 33 v) (h : DataW.Trod enc Try.prog w base spare held 33 v d p) :
  ∃ (x0 x1 x2 x3 x4 x5 x6 x7 x8 x9 x10 x11 x12 x13 x14 x15 x16 x17 x18 x19 x20 x21 x22 x23 x24 x25 x26 x27 : Int) (Ax28 : Option Addr) (nx28 cx28 : Nat), v = .agg #[.int .u32 x0, .int .u8 x1, .int .u8 x2, .int .u8 x3, .int .u8 x4, .int .u8 x5, .int .u8 x6, .int .u8 x7, .int .u8 x8, .int .u8 x9, .int .u8 x10, .int .u8 x11, .int .u8 x12, .int .u8 x13, .int .u8 x14, .int .u8 x15, .int .u8 x16, .int .u8 x17, .int .u8 x18, .int .u8 x19, .int .u8 x20, .int .u8 x21, .int .u8 x22, .int .u8 x23, .int .u8 x24, .int .u8 x25, .int .u8 x26, .int .u32 x27, .slice Ax28 nx28 cx28] := by
 have c5 : Try.prog.cellsOf 5 = 1 := by kernel_rfl
 have k27 : Try.prog.cellsOf 27 = 1 := by kernel_rfl
 have k29 : Try.prog.cellsOf 29 = 6 := by kernel_rfl
 have k30 : Try.prog.cellsOf 30 = 8 := by kernel_rfl
 have k31 : Try.prog.cellsOf 31 = 1 := by kernel_rfl
 have kT : Try.prog.cellsOf 33 = 29 := by kernel_rfl
 obtain ⟨cs, rfl, hsz⟩ := okWide_struct Try.underlying33 hv
 obtain ⟨l⟩ := cs
 obtain ⟨fuel, hf⟩ := h
 obtain ⟨xs, n, _, hx, hlc, hlen, hg⟩ := DataW.trod_struct Try.underlying33 hf
 have hl : l.length = 29 := hlc.trans kT
 have g0 : DataW.trod enc Try.prog w base spare held n 27 ((l.drop 0).take (Try.prog.cellsOf 27)) = xs[0]? := hg 0 _ rfl
 obtain ⟨y0, hy0⟩ : ∃ y, xs[0]? = some y := ⟨_, List.getElem?_eq_getElem (by rw [hlen]; decide)⟩
 rw [hy0, k27] at g0
 obtain ⟨x0, e0, _, _⟩ := DataW.trod_int Try.underlying27 g0
 have g1 : DataW.trod enc Try.prog w base spare held n 29 ((l.drop 1).take (Try.prog.cellsOf 29)) = xs[1]? := hg 1 _ rfl
 obtain ⟨y1, hy1⟩ : ∃ y, xs[1]? = some y := ⟨_, List.getElem?_eq_getElem (by rw [hlen]; decide)⟩
 rw [hy1, k29] at g1
 obtain ⟨u1, ul1, e1⟩ := open_u8s Try.underlying29 Try.underlying5 c5 k29 g1
 obtain ⟨x1, x2, x3, x4, x5, x6, rfl⟩ := six_ ul1
 have g2 : DataW.trod enc Try.prog w base spare held n 29 ((l.drop 7).take (Try.prog.cellsOf 29)) = xs[2]? := hg 2 _ rfl
 obtain ⟨y2, hy2⟩ : ∃ y, xs[2]? = some y := ⟨_, List.getElem?_eq_getElem (by rw [hlen]; decide)⟩
 rw [hy2, k29] at g2
 obtain ⟨u2, ul2, e2⟩ := open_u8s Try.underlying29 Try.underlying5 c5 k29 g2
 obtain ⟨x7, x8, x9, x10, x11, x12, rfl⟩ := six_ ul2
 have g3 : DataW.trod enc Try.prog w base spare held n 29 ((l.drop 13).take (Try.prog.cellsOf 29)) = xs[3]? := hg 3 _ rfl
 obtain ⟨y3, hy3⟩ : ∃ y, xs[3]? = some y := ⟨_, List.getElem?_eq_getElem (by rw [hlen]; decide)⟩
 rw [hy3, k29] at g3
 obtain ⟨u3, ul3, e3⟩ := open_u8s Try.underlying29 Try.underlying5 c5 k29 g3
 obtain ⟨x13, x14, x15, x16, x17, x18, rfl⟩ := six_ ul3
 have g4 : DataW.trod enc Try.prog w base spare held n 30 ((l.drop 19).take (Try.prog.cellsOf 30)) = xs[4]? := hg 4 _ rfl
 obtain ⟨y4, hy4⟩ : ∃ y, xs[4]? = some y := ⟨_, List.getElem?_eq_getElem (by rw [hlen]; decide)⟩
 rw [hy4, k30] at g4
 obtain ⟨u4, ul4, e4⟩ := open_u8s Try.underlying30 Try.underlying5 c5 k30 g4
 obtain ⟨x19, x20, x21, x22, x23, x24, x25, x26, rfl⟩ := eight_ ul4
 have g5 : DataW.trod enc Try.prog w base spare held n 27 ((l.drop 27).take (Try.prog.cellsOf 27)) = xs[5]? := hg 5 _ rfl
 obtain ⟨y5, hy5⟩ : ∃ y, xs[5]? = some y := ⟨_, List.getElem?_eq_getElem (by rw [hlen]; decide)⟩
 rw [hy5, k27] at g5
 obtain ⟨x27, e5, _, _⟩ := DataW.trod_int Try.underlying27 g5
 have g6 : DataW.trod enc Try.prog w base spare held n 31 ((l.drop 28).take (Try.prog.cellsOf 31)) = xs[6]? := hg 6 _ rfl
 obtain ⟨y6, hy6⟩ : ∃ y, xs[6]? = some y := ⟨_, List.getElem?_eq_getElem (by rw [hlen]; decide)⟩
 rw [hy6, k31] at g6
 obtain ⟨Ax28, nx28, cx28, e6⟩ := slice_form Try.underlying31 g6
 have hd : l = l.drop 0 := rfl
 rw [cut_ e0 (show 0 + 1 = 1 from rfl), cut_ e1 (show 1 + 6 = 7 from rfl), cut_ e2 (show 7 + 6 = 13 from rfl), cut_ e3 (show 13 + 6 = 19 from rfl), cut_ e4 (show 19 + 8 = 27 from rfl), cut_ e5 (show 27 + 1 = 28 from rfl), cut_ e6 (show 28 + 1 = 29 from rfl), List.drop_eq_nil_of_le (show l.length ≤ 29 by omega)] at hd
 subst hd
 exact ⟨x0, x1, x2, x3, x4, x5, x6, x7, x8, x9, x10, x11, x12, x13, x14, x15, x16, x17, x18, x19, x20, x21, x22, x23, x24, x25, x26, x27, Ax28, nx28, cx28, rfl⟩
set_option maxRecDepth 100000 in
set_option maxHeartbeats 4000000 in
theorem open_ten {r : Reach} {b0 : Nat} {v : Value} {d : DataW H} {p : List MemPlace} (hv : Value.okWide Try.prog w r b0 48 v) (h : DataW.Trod enc Try.prog w base spare held 48 v d p) :
  ∃ (x0 : ByteArray) (x1 x2 x3 x4 x5 x6 x7 x8 x9 x10 x11 x12 x13 x14 x15 x16 x17 x18 x19 x20 x21 x22 : Int) (Ax23 : Option Addr) (nx23 cx23 : Nat) (x24 x25 x26 : Int) (Ax27 : Option Addr) (nx27 cx27 : Nat) (Ax28 : Option Addr) (nx28 cx28 : Nat) (x29 x30 x31 x32 : Int), v = .agg #[.string x0, .int .u32 x1, .int .u8 x2, .int .u8 x3, .int .u8 x4, .int .u8 x5, .int .u8 x6, .int .u8 x7, .int .u8 x8, .int .u8 x9, .int .u32 x10, .int .u8 x11, .int .u8 x12, .int .u8 x13, .int .u8 x14, .int .u8 x15, .int .u8 x16, .int .u8 x17, .int .u8 x18, .int .u8 x19, .int .u8 x20, .int .u8 x21, .int .u8 x22, .slice Ax23 nx23 cx23, .int .u16 x24, .int .u16 x25, .int .i64 x26, .slice Ax27 nx27 cx27, .slice Ax28 nx28 cx28, .int .i64 x29, .int .i64 x30, .int .u32 x31, .int .u32 x32] := by
 have c5 : Try.prog.cellsOf 5 = 1 := by kernel_rfl
 have k3 : Try.prog.cellsOf 3 = 1 := by kernel_rfl
 have k9 : Try.prog.cellsOf 9 = 1 := by kernel_rfl
 have k27 : Try.prog.cellsOf 27 = 1 := by kernel_rfl
 have k29 : Try.prog.cellsOf 29 = 6 := by kernel_rfl
 have k30 : Try.prog.cellsOf 30 = 8 := by kernel_rfl
 have k44 : Try.prog.cellsOf 44 = 1 := by kernel_rfl
 have k45 : Try.prog.cellsOf 45 = 1 := by kernel_rfl
 have k46 : Try.prog.cellsOf 46 = 1 := by kernel_rfl
 have kT : Try.prog.cellsOf 48 = 33 := by kernel_rfl
 obtain ⟨cs, rfl, hsz⟩ := okWide_struct Try.underlying48 hv
 obtain ⟨l⟩ := cs
 obtain ⟨fuel, hf⟩ := h
 obtain ⟨xs, n, _, hx, hlc, hlen, hg⟩ := DataW.trod_struct Try.underlying48 hf
 have hl : l.length = 33 := hlc.trans kT
 have g0 : DataW.trod enc Try.prog w base spare held n 9 ((l.drop 0).take (Try.prog.cellsOf 9)) = xs[0]? := hg 0 _ rfl
 obtain ⟨y0, hy0⟩ : ∃ y, xs[0]? = some y := ⟨_, List.getElem?_eq_getElem (by rw [hlen]; decide)⟩
 rw [hy0, k9] at g0
 obtain ⟨x0, e0, _, _⟩ := DataW.trod_string Try.underlying9 g0
 have g1 : DataW.trod enc Try.prog w base spare held n 27 ((l.drop 1).take (Try.prog.cellsOf 27)) = xs[1]? := hg 1 _ rfl
 obtain ⟨y1, hy1⟩ : ∃ y, xs[1]? = some y := ⟨_, List.getElem?_eq_getElem (by rw [hlen]; decide)⟩
 rw [hy1, k27] at g1
 obtain ⟨x1, e1, _, _⟩ := DataW.trod_int Try.underlying27 g1
 have g2 : DataW.trod enc Try.prog w base spare held n 30 ((l.drop 2).take (Try.prog.cellsOf 30)) = xs[2]? := hg 2 _ rfl
 obtain ⟨y2, hy2⟩ : ∃ y, xs[2]? = some y := ⟨_, List.getElem?_eq_getElem (by rw [hlen]; decide)⟩
 rw [hy2, k30] at g2
 obtain ⟨u2, ul2, e2⟩ := open_u8s Try.underlying30 Try.underlying5 c5 k30 g2
 obtain ⟨x2, x3, x4, x5, x6, x7, x8, x9, rfl⟩ := eight_ ul2
 have g3 : DataW.trod enc Try.prog w base spare held n 27 ((l.drop 10).take (Try.prog.cellsOf 27)) = xs[3]? := hg 3 _ rfl
 obtain ⟨y3, hy3⟩ : ∃ y, xs[3]? = some y := ⟨_, List.getElem?_eq_getElem (by rw [hlen]; decide)⟩
 rw [hy3, k27] at g3
 obtain ⟨x10, e3, _, _⟩ := DataW.trod_int Try.underlying27 g3
 have g4 : DataW.trod enc Try.prog w base spare held n 29 ((l.drop 11).take (Try.prog.cellsOf 29)) = xs[4]? := hg 4 _ rfl
 obtain ⟨y4, hy4⟩ : ∃ y, xs[4]? = some y := ⟨_, List.getElem?_eq_getElem (by rw [hlen]; decide)⟩
 rw [hy4, k29] at g4
 obtain ⟨u4, ul4, e4⟩ := open_u8s Try.underlying29 Try.underlying5 c5 k29 g4
 obtain ⟨x11, x12, x13, x14, x15, x16, rfl⟩ := six_ ul4
 have g5 : DataW.trod enc Try.prog w base spare held n 29 ((l.drop 17).take (Try.prog.cellsOf 29)) = xs[5]? := hg 5 _ rfl
 obtain ⟨y5, hy5⟩ : ∃ y, xs[5]? = some y := ⟨_, List.getElem?_eq_getElem (by rw [hlen]; decide)⟩
 rw [hy5, k29] at g5
 obtain ⟨u5, ul5, e5⟩ := open_u8s Try.underlying29 Try.underlying5 c5 k29 g5
 obtain ⟨x17, x18, x19, x20, x21, x22, rfl⟩ := six_ ul5
 have g6 : DataW.trod enc Try.prog w base spare held n 44 ((l.drop 23).take (Try.prog.cellsOf 44)) = xs[6]? := hg 6 _ rfl
 obtain ⟨y6, hy6⟩ : ∃ y, xs[6]? = some y := ⟨_, List.getElem?_eq_getElem (by rw [hlen]; decide)⟩
 rw [hy6, k44] at g6
 obtain ⟨Ax23, nx23, cx23, e6⟩ := slice_form Try.underlying44 g6
 have g7 : DataW.trod enc Try.prog w base spare held n 45 ((l.drop 24).take (Try.prog.cellsOf 45)) = xs[7]? := hg 7 _ rfl
 obtain ⟨y7, hy7⟩ : ∃ y, xs[7]? = some y := ⟨_, List.getElem?_eq_getElem (by rw [hlen]; decide)⟩
 rw [hy7, k45] at g7
 obtain ⟨x24, e7, _, _⟩ := DataW.trod_int Try.underlying45 g7
 have g8 : DataW.trod enc Try.prog w base spare held n 45 ((l.drop 25).take (Try.prog.cellsOf 45)) = xs[8]? := hg 8 _ rfl
 obtain ⟨y8, hy8⟩ : ∃ y, xs[8]? = some y := ⟨_, List.getElem?_eq_getElem (by rw [hlen]; decide)⟩
 rw [hy8, k45] at g8
 obtain ⟨x25, e8, _, _⟩ := DataW.trod_int Try.underlying45 g8
 have g9 : DataW.trod enc Try.prog w base spare held n 3 ((l.drop 26).take (Try.prog.cellsOf 3)) = xs[9]? := hg 9 _ rfl
 obtain ⟨y9, hy9⟩ : ∃ y, xs[9]? = some y := ⟨_, List.getElem?_eq_getElem (by rw [hlen]; decide)⟩
 rw [hy9, k3] at g9
 obtain ⟨x26, e9, _, _⟩ := DataW.trod_int Try.underlying3 g9
 have g10 : DataW.trod enc Try.prog w base spare held n 46 ((l.drop 27).take (Try.prog.cellsOf 46)) = xs[10]? := hg 10 _ rfl
 obtain ⟨y10, hy10⟩ : ∃ y, xs[10]? = some y := ⟨_, List.getElem?_eq_getElem (by rw [hlen]; decide)⟩
 rw [hy10, k46] at g10
 obtain ⟨Ax27, nx27, cx27, e10⟩ := slice_form Try.underlying46 g10
 have g11 : DataW.trod enc Try.prog w base spare held n 46 ((l.drop 28).take (Try.prog.cellsOf 46)) = xs[11]? := hg 11 _ rfl
 obtain ⟨y11, hy11⟩ : ∃ y, xs[11]? = some y := ⟨_, List.getElem?_eq_getElem (by rw [hlen]; decide)⟩
 rw [hy11, k46] at g11
 obtain ⟨Ax28, nx28, cx28, e11⟩ := slice_form Try.underlying46 g11
 have g12 : DataW.trod enc Try.prog w base spare held n 3 ((l.drop 29).take (Try.prog.cellsOf 3)) = xs[12]? := hg 12 _ rfl
 obtain ⟨y12, hy12⟩ : ∃ y, xs[12]? = some y := ⟨_, List.getElem?_eq_getElem (by rw [hlen]; decide)⟩
 rw [hy12, k3] at g12
 obtain ⟨x29, e12, _, _⟩ := DataW.trod_int Try.underlying3 g12
 have g13 : DataW.trod enc Try.prog w base spare held n 3 ((l.drop 30).take (Try.prog.cellsOf 3)) = xs[13]? := hg 13 _ rfl
 obtain ⟨y13, hy13⟩ : ∃ y, xs[13]? = some y := ⟨_, List.getElem?_eq_getElem (by rw [hlen]; decide)⟩
 rw [hy13, k3] at g13
 obtain ⟨x30, e13, _, _⟩ := DataW.trod_int Try.underlying3 g13
 have g14 : DataW.trod enc Try.prog w base spare held n 27 ((l.drop 31).take (Try.prog.cellsOf 27)) = xs[14]? := hg 14 _ rfl
 obtain ⟨y14, hy14⟩ : ∃ y, xs[14]? = some y := ⟨_, List.getElem?_eq_getElem (by rw [hlen]; decide)⟩
 rw [hy14, k27] at g14
 obtain ⟨x31, e14, _, _⟩ := DataW.trod_int Try.underlying27 g14
 have g15 : DataW.trod enc Try.prog w base spare held n 27 ((l.drop 32).take (Try.prog.cellsOf 27)) = xs[15]? := hg 15 _ rfl
 obtain ⟨y15, hy15⟩ : ∃ y, xs[15]? = some y := ⟨_, List.getElem?_eq_getElem (by rw [hlen]; decide)⟩
 rw [hy15, k27] at g15
 obtain ⟨x32, e15, _, _⟩ := DataW.trod_int Try.underlying27 g15
 have hd : l = l.drop 0 := rfl
 rw [cut_ e0 (show 0 + 1 = 1 from rfl), cut_ e1 (show 1 + 1 = 2 from rfl), cut_ e2 (show 2 + 8 = 10 from rfl), cut_ e3 (show 10 + 1 = 11 from rfl), cut_ e4 (show 11 + 6 = 17 from rfl), cut_ e5 (show 17 + 6 = 23 from rfl), cut_ e6 (show 23 + 1 = 24 from rfl), cut_ e7 (show 24 + 1 = 25 from rfl), cut_ e8 (show 25 + 1 = 26 from rfl), cut_ e9 (show 26 + 1 = 27 from rfl), cut_ e10 (show 27 + 1 = 28 from rfl), cut_ e11 (show 28 + 1 = 29 from rfl), cut_ e12 (show 29 + 1 = 30 from rfl), cut_ e13 (show 30 + 1 = 31 from rfl), cut_ e14 (show 31 + 1 = 32 from rfl), cut_ e15 (show 32 + 1 = 33 from rfl), List.drop_eq_nil_of_le (show l.length ≤ 33 by omega)] at hd
 subst hd
 exact ⟨x0, x1, x2, x3, x4, x5, x6, x7, x8, x9, x10, x11, x12, x13, x14, x15, x16, x17, x18, x19, x20, x21, x22, Ax23, nx23, cx23, x24, x25, x26, Ax27, nx27, cx27, Ax28, nx28, cx28, x29, x30, x31, x32, rfl⟩
end
end Go.Proofs.YtkmimamminddiaaW.AggWords

