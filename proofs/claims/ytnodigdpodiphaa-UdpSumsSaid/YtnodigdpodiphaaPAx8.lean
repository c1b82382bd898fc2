-- written by a patched print
import Derived.Test.YtnodigdpodiphaaPAx0
import Derived.Test.YtnodigdpodiphaaPAx2
import Derived.Test.YtnodigdpodiphaaPAx5
import Derived.Test.YtnodigdpodiphaaPAx7
namespace Go.Proofs.Ytnodigdpodiphaa.PA
open Go.RowKit Go.Proofs.YtnodigdpodiphaaW.PrintWords Go.Proofs.YtnodigdpodiphaaW.PrintLast Go.Proofs.YtnodigdpodiphaaW.PrintMore
attribute [local go_sem] max2_int min2_int max_two min_two max_three min_three max_four min_four   -- for this text's walks alone
set_option linter.unusedVariables false
set_option linter.unusedSimpArgs false

/-! ### lychlaw4_UdpSums: function 5 -/
def lychlaw4_UdpSums.j0 : Nat → Int → Int → Int → Int → Bool → Int → Int → Int → List Int → Option (Bool)
  | 0, _, _, _, _, _, _, _, _, _ => none
  | k + 1, x0, x1, x3, x9, x39, x286000, x286001, x286002, x286003 => if x39 = true then (some false) else ((lychref1_UdpBytes.f x286000 x286001 x286002 x286003).bind fun bt291 => (if bt291.2 = 0 then ((udp_Right.f k x0 x1 x286000 x286001 x9 x286003).bind fun t296 => (if t296 = true then ((udp_Right.f k x0 x1 x286000 x286001 x3 x286003).bind fun t297 => (if x3 = x9 then (some (t297 == true)) else (some (t297 == (x3 == 0))))) else (some false))) else (some (x9 == 0))))
def lychlaw4_UdpSums.f (k : Nat) (a0 : Int) (a1 : Int) (a2_0 : Int) (a2_1 : Int) (a2_2 : Int) (l2_3 : List Int) (a3 : Int) : Option (Bool) := (lychlaw4_known.f k).bind fun t286 => (if t286 = true then (if (l2_3.length : Int) > 3000 then (some true) else ((udp_Sum.f k a0 a1 a2_0 a2_1 a2_2 l2_3).bind fun t287 => ((lychref1_UdpSum.f k a0 a1 a2_0 a2_1 a2_2 l2_3).bind fun t288 => (if t287 = t288 then ((udp_Right.f k a0 a1 a2_0 a2_1 a2_2 l2_3).bind fun t289 => ((lychref1_UdpRight.f k a0 a1 a2_0 a2_1 a2_2 l2_3).bind fun t290 => (lychlaw4_UdpSums.j0 k a0 a1 a3 t287 (t289 != t290) a2_0 a2_1 a2_2 l2_3))) else (lychlaw4_UdpSums.j0 k a0 a1 a3 t287 true a2_0 a2_1 a2_2 l2_3))))) else (some false))
theorem lychlaw4_UdpSums.mono_l : ∀ k, (∀ y0 y1 y2 y3 y4 y5 y6 y7 y8, LeO (lychlaw4_UdpSums.j0 k y0 y1 y2 y3 y4 y5 y6 y7 y8) (lychlaw4_UdpSums.j0 (k + 1) y0 y1 y2 y3 y4 y5 y6 y7 y8))
  | 0 => fun _ _ _ _ _ _ _ _ _ r h => by simp [lychlaw4_UdpSums.j0] at h
  | k + 1 => by
    have ih0 := lychlaw4_UdpSums.mono_l k
    · intro y0 y1 y2 y3 y4 y5 y6 y7 y8
      unfold lychlaw4_UdpSums.j0
      repeat' first
      | (with_reducible exact ih0 _ _ _ _ _ _ _ _ _)
      | (with_reducible exact lychlaw4_known.mono _)
      | (with_reducible exact lychref1_UdpRight.mono _ _ _ _ _ _ _)
      | (with_reducible exact lychref1_UdpSum.mono _ _ _ _ _ _ _)
      | (with_reducible exact udp_Right.mono _ _ _ _ _ _ _)
      | (with_reducible exact udp_Sum.mono _ _ _ _ _ _ _)
      | (with_reducible exact LeO.refl _)
      | (with_reducible exact LeO.none _)
      | (with_reducible refine LeO.ite ?_ ?_)
      | (with_reducible refine LeO.bind ?_ (fun _ => ?_))
      | exact ih0 _ _ _ _ _ _ _ _ _
      | exact lychlaw4_known.mono _
      | exact lychref1_UdpRight.mono _ _ _ _ _ _ _
      | exact lychref1_UdpSum.mono _ _ _ _ _ _ _
      | exact udp_Right.mono _ _ _ _ _ _ _
      | exact udp_Sum.mono _ _ _ _ _ _ _
      | exact LeO.none _
      | refine LeO.ite ?_ ?_
      | refine LeO.bind ?_ (fun _ => ?_)
theorem lychlaw4_UdpSums.mono : ∀ a0 a1 a2 a3 a4 a5 a6 k, LeO (lychlaw4_UdpSums.f k a0 a1 a2 a3 a4 a5 a6) (lychlaw4_UdpSums.f (k + 1) a0 a1 a2 a3 a4 a5 a6) := by
  intro a0 a1 a2 a3 a4 a5 a6 k
  have ih0 := lychlaw4_UdpSums.mono_l k
  unfold lychlaw4_UdpSums.f
  repeat' first
      | (with_reducible exact ih0 _ _ _ _ _ _ _ _ _)
      | (with_reducible exact lychlaw4_known.mono _)
      | (with_reducible exact lychref1_UdpRight.mono _ _ _ _ _ _ _)
      | (with_reducible exact lychref1_UdpSum.mono _ _ _ _ _ _ _)
      | (with_reducible exact udp_Right.mono _ _ _ _ _ _ _)
      | (with_reducible exact udp_Sum.mono _ _ _ _ _ _ _)
      | (with_reducible exact LeO.refl _)
      | (with_reducible exact LeO.none _)
      | (with_reducible refine LeO.ite ?_ ?_)
      | (with_reducible refine LeO.bind ?_ (fun _ => ?_))
      | exact ih0 _ _ _ _ _ _ _ _ _
      | exact lychlaw4_known.mono _
      | exact lychref1_UdpRight.mono _ _ _ _ _ _ _
      | exact lychref1_UdpSum.mono _ _ _ _ _ _ _
      | exact udp_Right.mono _ _ _ _ _ _ _
      | exact udp_Sum.mono _ _ _ _ _ _ _
      | exact LeO.none _
      | refine LeO.ite ?_ ?_
      | refine LeO.bind ?_ (fun _ => ?_)
def lychlaw4_UdpSums.T6 : Bool × List (List Nat × List Nat) := (true, [([], []), ([], []), ([], []), ([], []), ([1, 2, 3], [1, 2, 3]), ([0, 4], [0, 4]), ([5, 4], [5]), ([6], [6]), ([6], [6]), ([6], [6]), ([7, 8, 9, 6, 6], [6, 7, 8, 9]), ([6], [6]), ([6], [6]), ([6], [6]), ([11, 12, 13, 10, 6], [6, 11, 12, 13]), ([10, 14, 6], [6, 10, 14]), ([6, 15], [6, 15])])
def lychlaw4_UdpSums.B6 : List Nat := [0, 0, 0, 0, 14, 31, 63, 127, 127, 127, 1023, 127, 127, 127, 16383, 32767, 65535]
theorem lychlaw4_UdpSums.tab6 : rtab .any (opsOf Try.f5 6) = lychlaw4_UdpSums.T6 := by kernel_rfl
theorem lychlaw4_UdpSums.bits6 : waitsOk lychlaw4_UdpSums.T6.2 lychlaw4_UdpSums.B6 = true := by kernel_rfl
set_option maxHeartbeats 8000000 in
set_option maxRecDepth 100000 in
theorem lychlaw4_UdpSums.calls (k : Nat) (a0 : Int) (a1 : Int) (a2_0 : Int) (a2_1 : Int) (a2_2 : Int) (A2_3 : Option Addr) (c2_3 : Nat) (l2_3 : List Int) (a3 : Int) (r : Bool) (w : World) (hr2_3 : Kd.C (Kd.int .u8) w A2_3 l2_3.length l2_3) (hc2_3 : l2_3.length ≤ c2_3) (h : lychlaw4_UdpSums.f k a0 a1 a2_0 a2_1 a2_2 l2_3 a3 = some r) :
    Calls Try.prog 5 #[.int .u32 a0, .int .u32 a1, .agg #[.int .u16 a2_0, .int .u16 a2_1, .int .u16 a2_2, .slice A2_3 l2_3.length c2_3], .int .u16 a3] w fun e w' => e = .returned (.bool r) ∧ Below w.heap.size w w' := by
  have hu26 := Try.underlying26
  have HR2_3 := Aside0.mk hr2_3
  have HC2_3 := Aside0.mk hc2_3
  clear hr2_3 hc2_3
  have HB := Aside0.mk (Below.refl w.heap.size w)
  have H : ((lychlaw4_known.f k).bind fun t286 => (if t286 = true then (if (l2_3.length : Int) > 3000 then (some true) else ((udp_Sum.f k a0 a1 a2_0 a2_1 a2_2 l2_3).bind fun t287 => ((lychref1_UdpSum.f k a0 a1 a2_0 a2_1 a2_2 l2_3).bind fun t288 => (if t287 = t288 then ((udp_Right.f k a0 a1 a2_0 a2_1 a2_2 l2_3).bind fun t289 => ((lychref1_UdpRight.f k a0 a1 a2_0 a2_1 a2_2 l2_3).bind fun t290 => (lychlaw4_UdpSums.j0 k a0 a1 a3 t287 (t289 != t290) a2_0 a2_1 a2_2 l2_3))) else (lychlaw4_UdpSums.j0 k a0 a1 a3 t287 true a2_0 a2_1 a2_2 l2_3))))) else (some false))) = some r := h
  clear h
  replace H := Option.bind_eq_some_iff.mp H
  obtain ⟨t286, A50, H⟩ := H
  replace H : (if t286 = true then (if (l2_3.length : Int) > 3000 then (some true) else ((udp_Sum.f k a0 a1 a2_0 a2_1 a2_2 l2_3).bind fun t287 => ((lychref1_UdpSum.f k a0 a1 a2_0 a2_1 a2_2 l2_3).bind fun t288 => (if t287 = t288 then ((udp_Right.f k a0 a1 a2_0 a2_1 a2_2 l2_3).bind fun t289 => ((lychref1_UdpRight.f k a0 a1 a2_0 a2_1 a2_2 l2_3).bind fun t290 => (lychlaw4_UdpSums.j0 k a0 a1 a3 t287 (t289 != t290) a2_0 a2_1 a2_2 l2_3))) else (lychlaw4_UdpSums.j0 k a0 a1 a3 t287 true a2_0 a2_1 a2_2 l2_3))))) else (some false)) = some r := H
  have A5 := Aside0.mk A50
  clear A50
  by_cases c6 : t286 = true
  · subst c6
    have H1 : (if (l2_3.length : Int) > 3000 then (some true) else ((udp_Sum.f k a0 a1 a2_0 a2_1 a2_2 l2_3).bind fun t287 => ((lychref1_UdpSum.f k a0 a1 a2_0 a2_1 a2_2 l2_3).bind fun t288 => (if t287 = t288 then ((udp_Right.f k a0 a1 a2_0 a2_1 a2_2 l2_3).bind fun t289 => ((lychref1_UdpRight.f k a0 a1 a2_0 a2_1 a2_2 l2_3).bind fun t290 => (lychlaw4_UdpSums.j0 k a0 a1 a3 t287 (t289 != t290) a2_0 a2_1 a2_2 l2_3))) else (lychlaw4_UdpSums.j0 k a0 a1 a3 t287 true a2_0 a2_1 a2_2 l2_3))))) = some r := by rw [if_pos rfl] at H; exact H
    clear H
    have H := H1
    clear H1
    by_cases c7 : (l2_3.length : Int) > 3000
    · rw [if_pos c7] at H
      have c7b0 : decide (3000 < (l2_3.length : Int)) = true := decide_eq_true c7
      have c7b1 : decide (3000 < l2_3.length) = true := decide_eq_true (by omega)
      clear c7
      obtain rfl := Option.some.inj H
      go_enter Try.func5, Try.ntmps5
      go_wp2_with (first | ((with_reducible refine gate_dst (N := 6) rfl ?_); refine box_event ?hg (N := 6) ?hd (cs := #[.int .u16 a2_0, .int .u16 a2_1, .int .u16 a2_2, .slice A2_3 l2_3.length c2_3]) (t := 26) ?hr ?_; (case hd => rfl); (case hg => rfl); (case hr => first | (go_simp; done) | (go_simp; rfl)); intro gb285 hg w8 hbox hb; have n0_ := Aside0.mk (below_step (by repeat (first | (with_reducible first | exact HB.out | apply below_alloc | apply pw_below_drewN | apply below_drew1) | exact HB.out)) hb); have n1_ := Aside0.mk (hbox); have n2_ := Aside0.mk ((by rw [hg]; exact (below_size (by repeat (first | (with_reducible first | exact HB.out | apply below_alloc | apply pw_below_drewN | apply below_drew1) | exact HB.out))) : w.heap.size ≤ gb285)); have n3_ := Aside0.mk ((by rw [hg]; exact (below_size (by repeat (first | (with_reducible first | exact HB.out | apply below_alloc | apply pw_below_drewN | apply below_drew1) | exact HB.out))) : w.heap.size ≤ gb285)); clear HB; have HB := n0_; have BK285 := n1_; have GW285 := n2_; have GE285 := n3_; clear n0_ n1_ n2_ n3_; clear hb hbox hg) | ((with_reducible refine gate_callee (f := 13) rfl ?_); refine goesL_ (some 13) rfl rfl Try.func13 (by kernel_rfl) rfl #[] rfl (by (try simp only [List.map_toArray, List.map_cons, List.map_nil]); first | done | rfl | (simp only [List.length_drop, List.length_take]; rfl) | (go_simp; done) | (simp [Act.eval, IntKind.signed]; done) | (simp [Act.eval, IntKind.signed]; rfl)) ?_; (with_reducible refine (lychlaw4_known.calls k  true _ A5.out).mono ?_); rintro e w9 ⟨rfl, hb⟩; refine ⟨_, rfl, ?_⟩; have n0_ := Aside0.mk (blk_below (g := gb285) (o := .cells #[.int .u16 a2_0, .int .u16 a2_1, .int .u16 a2_2, .slice A2_3 l2_3.length c2_3] 26 (0, 0)) (by (with_reducible repeat (first | refine blk_drewN ?_ _ | refine blk_drew ?_ | refine blk_alloc ?_ _)); exact BK285.out) hb); have n1_ := Aside0.mk (below_step (by repeat (first | (with_reducible first | exact HB.out | apply below_alloc | apply pw_below_drewN | apply below_drew1 | refine below_set ?_ GE285.out) | exact HB.out)) hb); clear BK285; clear HB; have BK285 := n0_; have HB := n1_; clear n0_ n1_; (try clear hb); (try clear hb2); (try clear hk); (try clear hi); have hcz10_0 : w9.cell? ⟨gb285, 0, none⟩ = some (.int .u16 a2_0) := (blk_cell BK285.out 0).trans rfl; have hcz10_1 : w9.cell? ⟨gb285, 1, none⟩ = some (.int .u16 a2_1) := (blk_cell BK285.out 1).trans rfl; have hcz10_2 : w9.cell? ⟨gb285, 2, none⟩ = some (.int .u16 a2_2) := (blk_cell BK285.out 2).trans rfl; have hcz10_3 : w9.cell? ⟨gb285, 3, none⟩ = some (.slice A2_3 l2_3.length c2_3) := (blk_cell BK285.out 3).trans rfl; have hfz10_0 := blk_frozen BK285.out 0; have hfz10_1 := blk_frozen BK285.out 1; have hfz10_2 := blk_frozen BK285.out 2; have hfz10_3 := blk_frozen BK285.out 3))
      go_ret
      exact ⟨by first | rfl | (simp [errW_none, errW_some] <;> rfl) | (simp [*, errW_none, errW_some] <;> rfl), by repeat (first | (with_reducible first | exact HB.out | apply below_alloc | apply pw_below_drewN | apply below_drew1 | refine below_set ?_ GE285.out) | exact HB.out)⟩
    · rw [if_neg c7] at H
      have c7b0 : decide (3000 < (l2_3.length : Int)) = false := decide_eq_false c7
      have c7b1 : decide (3000 < l2_3.length) = false := decide_eq_false (by omega)
      clear c7
      replace H := Option.bind_eq_some_iff.mp H
      obtain ⟨t287, A110, H⟩ := H
      replace H : ((lychref1_UdpSum.f k a0 a1 a2_0 a2_1 a2_2 l2_3).bind fun t288 => (if t287 = t288 then ((udp_Right.f k a0 a1 a2_0 a2_1 a2_2 l2_3).bind fun t289 => ((lychref1_UdpRight.f k a0 a1 a2_0 a2_1 a2_2 l2_3).bind fun t290 => (lychlaw4_UdpSums.j0 k a0 a1 a3 t287 (t289 != t290) a2_0 a2_1 a2_2 l2_3))) else (lychlaw4_UdpSums.j0 k a0 a1 a3 t287 true a2_0 a2_1 a2_2 l2_3))) = some r := H
      have A11 := Aside0.mk A110
      clear A110
      have HC12 := Aside0.mk H
      clear H
      go_enter Try.func5, Try.ntmps5
      go_upto_region 6 with (first | ((with_reducible refine gate_dst (N := 6) rfl ?_); refine box_event ?hg (N := 6) ?hd (cs := #[.int .u16 a2_0, .int .u16 a2_1, .int .u16 a2_2, .slice A2_3 l2_3.length c2_3]) (t := 26) ?hr ?_; (case hd => rfl); (case hg => rfl); (case hr => first | (go_simp; done) | (go_simp; rfl)); intro gb285 hg w13 hbox hb; have n0_ := Aside0.mk (below_step (by repeat (first | (with_reducible first | exact HB.out | apply below_alloc | apply pw_below_drewN | apply below_drew1) | exact HB.out)) hb); have n1_ := Aside0.mk (hbox); have n2_ := Aside0.mk ((by rw [hg]; exact (below_size (by repeat (first | (with_reducible first | exact HB.out | apply below_alloc | apply pw_below_drewN | apply below_drew1) | exact HB.out))) : w.heap.size ≤ gb285)); have n3_ := Aside0.mk ((by rw [hg]; exact (below_size (by repeat (first | (with_reducible first | exact HB.out | apply below_alloc | apply pw_below_drewN | apply below_drew1) | exact HB.out))) : w.heap.size ≤ gb285)); clear HB; have HB := n0_; have BK285 := n1_; have GW285 := n2_; have GE285 := n3_; clear n0_ n1_ n2_ n3_; clear hb hbox hg) | ((with_reducible refine gate_callee (f := 13) rfl ?_); refine goesL_ (some 13) rfl rfl Try.func13 (by kernel_rfl) rfl #[] rfl (by (try simp only [List.map_toArray, List.map_cons, List.map_nil]); first | done | rfl | (simp only [List.length_drop, List.length_take]; rfl) | (go_simp; done) | (simp [Act.eval, IntKind.signed]; done) | (simp [Act.eval, IntKind.signed]; rfl)) ?_; (with_reducible refine (lychlaw4_known.calls k  true _ A5.out).mono ?_); rintro e w14 ⟨rfl, hb⟩; refine ⟨_, rfl, ?_⟩; have n0_ := Aside0.mk (blk_below (g := gb285) (o := .cells #[.int .u16 a2_0, .int .u16 a2_1, .int .u16 a2_2, .slice A2_3 l2_3.length c2_3] 26 (0, 0)) (by (with_reducible repeat (first | refine blk_drewN ?_ _ | refine blk_drew ?_ | refine blk_alloc ?_ _)); exact BK285.out) hb); have n1_ := Aside0.mk (below_step (by repeat (first | (with_reducible first | exact HB.out | apply below_alloc | apply pw_below_drewN | apply below_drew1 | refine below_set ?_ GE285.out) | exact HB.out)) hb); clear BK285; clear HB; have BK285 := n0_; have HB := n1_; clear n0_ n1_; (try clear hb); (try clear hb2); (try clear hk); (try clear hi); have hcz15_0 : w14.cell? ⟨gb285, 0, none⟩ = some (.int .u16 a2_0) := (blk_cell BK285.out 0).trans rfl; have hcz15_1 : w14.cell? ⟨gb285, 1, none⟩ = some (.int .u16 a2_1) := (blk_cell BK285.out 1).trans rfl; have hcz15_2 : w14.cell? ⟨gb285, 2, none⟩ = some (.int .u16 a2_2) := (blk_cell BK285.out 2).trans rfl; have hcz15_3 : w14.cell? ⟨gb285, 3, none⟩ = some (.slice A2_3 l2_3.length c2_3) := (blk_cell BK285.out 3).trans rfl; have hfz15_0 := blk_frozen BK285.out 0; have hfz15_1 := blk_frozen BK285.out 1; have hfz15_2 := blk_frozen BK285.out 2; have hfz15_3 := blk_frozen BK285.out 3) | ((with_reducible refine gate_callee (f := 20) rfl ?_); refine goesL_ (some 22) rfl rfl Try.func20 (by kernel_rfl) rfl #[.int .u32 a0, .int .u32 a1, .agg #[.int .u16 a2_0, .int .u16 a2_1, .int .u16 a2_2, .slice A2_3 l2_3.length c2_3]] rfl (by (try simp only [List.map_toArray, List.map_cons, List.map_nil]); first | done | rfl | (simp only [List.length_drop, List.length_take]; rfl) | (go_simp; done) | (simp [Act.eval, IntKind.signed]; done) | (simp [Act.eval, IntKind.signed]; rfl)) ?_; (with_reducible refine (udp_Sum.calls k a0 a1 a2_0 a2_1 a2_2 _ _ l2_3 t287 _ ?side1 ?side2 A11.out).mono ?_); (case side1 => repeat (first | exact (Kd.C_below HR2_3.out HB.out) | (with_reducible refine Kd.C_alloc ?_ _) | (with_reducible refine Kd.C_drewN ?_ _) | (with_reducible refine Kd.C_drew ?_))); (case side2 => exact HC2_3.out); rintro e w16 ⟨rfl, hb⟩; refine ⟨_, rfl, ?_⟩; have n0_ := Aside0.mk (blk_below (g := gb285) (o := .cells #[.int .u16 a2_0, .int .u16 a2_1, .int .u16 a2_2, .slice A2_3 l2_3.length c2_3] 26 (0, 0)) (by (with_reducible repeat (first | refine blk_drewN ?_ _ | refine blk_drew ?_ | refine blk_alloc ?_ _)); exact BK285.out) hb); have n1_ := Aside0.mk (below_step (by repeat (first | (with_reducible first | exact HB.out | apply below_alloc | apply pw_below_drewN | apply below_drew1 | refine below_set ?_ GE285.out) | exact HB.out)) hb); clear BK285; clear HB; have BK285 := n0_; have HB := n1_; clear n0_ n1_; (try clear hb); (try clear hb2); (try clear hk); (try clear hi)))
      (try simp only [Act.put, List.setIfInBounds_toArray, List.set_cons_zero, List.set_cons_succ])
      go_cut [39] (fun v39 wc => ∃ (kq : Nat) (x39_11 : Bool), v39 = .bool x39_11 ∧ Aside0 (lychlaw4_UdpSums.j0 kq a0 a1 a3 t287 x39_11 a2_0 a2_1 a2_2 l2_3 = some r) ∧ Aside0 (kq ≤ k) ∧ Aside0 (wc.heap[gb285]? = some (.cells #[.int .u16 a2_0, .int .u16 a2_1, .int .u16 a2_2, (.slice A2_3 l2_3.length c2_3)] 26 (0, 0))) ∧ Aside0 (Below w.heap.size w wc))
      case first =>
        have H := HC12.out
        clear HC12
        replace H := Option.bind_eq_some_iff.mp H
        obtain ⟨t288, A170, H⟩ := H
        replace H : (if t287 = t288 then ((udp_Right.f k a0 a1 a2_0 a2_1 a2_2 l2_3).bind fun t289 => ((lychref1_UdpRight.f k a0 a1 a2_0 a2_1 a2_2 l2_3).bind fun t290 => (lychlaw4_UdpSums.j0 k a0 a1 a3 t287 (t289 != t290) a2_0 a2_1 a2_2 l2_3))) else (lychlaw4_UdpSums.j0 k a0 a1 a3 t287 true a2_0 a2_1 a2_2 l2_3)) = some r := H
        have A17 := Aside0.mk A170
        clear A170
        by_cases c18 : t287 = t288
        · rw [if_pos c18] at H
          have c18b0 : (t287 == t288) = true := beq_iff_eq.mpr c18
          have c18b1 : (t287 != t288) = false := bne_eq_false_iff_eq.mpr c18
          clear c18
          (first | rw [c18b0] | (simp only [i64_w, i32_w]; rw [c18b0]) | skip)
          replace H := Option.bind_eq_some_iff.mp H
          obtain ⟨t289, A190, H⟩ := H
          replace H : ((lychref1_UdpRight.f k a0 a1 a2_0 a2_1 a2_2 l2_3).bind fun t290 => (lychlaw4_UdpSums.j0 k a0 a1 a3 t287 (t289 != t290) a2_0 a2_1 a2_2 l2_3)) = some r := H
          have A19 := Aside0.mk A190
          clear A190
          replace H := Option.bind_eq_some_iff.mp H
          obtain ⟨t290, A200, H⟩ := H
          replace H : (lychlaw4_UdpSums.j0 k a0 a1 a3 t287 (t289 != t290) a2_0 a2_1 a2_2 l2_3) = some r := H
          have A20 := Aside0.mk A200
          clear A200
          have H' := Aside0.mk H
          clear H
          try go_wp2
          have n0_ := Aside0.mk (blk_drew BK285.out)
          have n1_ := Aside0.mk (below_drew1 HB.out)
          clear BK285
          clear HB
          have BK285 := n0_
          have HB := n1_
          clear n0_ n1_
          refine start_ (n := 17) (S := fun w' => w'.cell? ⟨gb285, 0, none⟩ = some (.int .u16 a2_0) ∧ w'.cell? ⟨gb285, 1, none⟩ = some (.int .u16 a2_1) ∧ w'.cell? ⟨gb285, 2, none⟩ = some (.int .u16 a2_2) ∧ w'.cell? ⟨gb285, 3, none⟩ = some (.slice A2_3 l2_3.length c2_3)) (ds := []) #[false, false, false, false, false, false, false, false, false, false, false, false, false, false, false, false, false] (by kernel_rfl) rfl rfl ⟨(blk_cell BK285.out 0).trans rfl, (blk_cell BK285.out 1).trans rfl, (blk_cell BK285.out 2).trans rfl, (blk_cell BK285.out 3).trans rfl⟩ (fun hHeld => ?_); refine with_tabW lychlaw4_UdpSums.tab6 lychlaw4_UdpSums.bits6 (fun HT_ HW_ => ?_)
          generalize w16.drew = w21 at BK285 HB hHeld ⊢
          refine pure_ (i := 0) (N := some 23) (v := ?_) (a' := ?_) #[true, false, false, false, false, false, false, false, false, false, false, false, false, false, false, false, false] rfl rfl (any_of HT_.out (by kernel_rfl)) (fun _ _ _ h => h) (Or.inl ⟨by rfl, ?_⟩) ?_ ?_
          rotate_left
          · intro w'
            go_simp
            with_reducible rfl
          rotate_left
          · simp only [Act.put, List.setIfInBounds_toArray, List.set_cons_zero, List.set_cons_succ, i64_w, i32_w]
            rfl
          refine pure_ (i := 1) (N := some 24) (v := ?_) (a' := ?_) #[true, true, false, false, false, false, false, false, false, false, false, false, false, false, false, false, false] rfl rfl (any_of HT_.out (by kernel_rfl)) (fun _ _ _ h => h) (Or.inl ⟨by rfl, ?_⟩) ?_ ?_
          rotate_left
          · intro w'
            go_simp
            with_reducible rfl
          rotate_left
          · simp only [Act.put, List.setIfInBounds_toArray, List.set_cons_zero, List.set_cons_succ, i64_w, i32_w]
            rfl
          refine pure_ (i := 2) (N := some 25) (v := ?_) (a' := ?_) #[true, true, true, false, false, false, false, false, false, false, false, false, false, false, false, false, false] rfl rfl (any_of HT_.out (by kernel_rfl)) (fun _ _ _ h => h) (Or.inl ⟨by rfl, ?_⟩) ?_ ?_
          rotate_left
          · intro w'
            go_simp
            with_reducible rfl
          rotate_left
          · simp only [Act.put, List.setIfInBounds_toArray, List.set_cons_zero, List.set_cons_succ, i64_w, i32_w]
            rfl
          refine take_ (i := 3) (N := some 26) (v := ?_) (a' := ?_) #[true, true, true, true, false, false, false, false, false, false, false, false, false, false, false, false, false] rfl rfl (take_ofW HT_.out HW_.out (by kernel_rfl)) (fun _ _ _ h => h) (Or.inl ⟨by rfl, ?_⟩) hHeld ?_ ?_
          rotate_left
          · rintro w' ⟨s0, s1, s2, s3⟩
            go_simp
            with_reducible rfl
          rotate_left
          · simp only [Act.put, List.setIfInBounds_toArray, List.set_cons_zero, List.set_cons_succ, i64_w, i32_w]
            rfl
          refine one_ (i := 4) (N := some 27) #[true, true, true, true, true, false, false, false, false, false, false, false, false, false, false, false, false] rfl rfl (one_of HT_.out (by kernel_rfl)) (by decide) (fun K hK => ?_)
          refine goes_ Try.func21 (by kernel_rfl) rfl #[.int .u32 a0, .int .u32 a1, .agg #[.int .u16 a2_0, .int .u16 a2_1, .int .u16 a2_2, .slice A2_3 l2_3.length c2_3]] (by rfl) rfl rfl (by (try simp only [List.map_toArray, List.map_cons, List.map_nil]); first | done | rfl | (simp only [List.length_drop, List.length_take]; rfl) | (go_simp; done) | (simp [Act.eval, IntKind.signed]; done) | (simp [Act.eval, IntKind.signed]; rfl)) ?_
          with_reducible refine (lychref1_UdpSum.calls k a0 a1 a2_0 a2_1 a2_2 _ _ l2_3 t288 _ ?side1 ?side2 A17.out).mono ?_
          (case side1 => repeat (first | exact (Kd.C_below HR2_3.out HB.out) | (with_reducible refine Kd.C_alloc ?_ _) | (with_reducible refine Kd.C_drewN ?_ _) | (with_reducible refine Kd.C_drew ?_)))
          (case side2 => exact HC2_3.out)
          rintro e w22 ⟨rfl, hb⟩
          refine ⟨_, rfl, ?_⟩
          have n0_ := Aside0.mk (blk_below (g := gb285) (o := .cells #[.int .u16 a2_0, .int .u16 a2_1, .int .u16 a2_2, .slice A2_3 l2_3.length c2_3] 26 (0, 0)) (by (with_reducible repeat (first | refine blk_drewN ?_ _ | refine blk_drew ?_ | refine blk_alloc ?_ _)); exact BK285.out) hb)
          have n1_ := Aside0.mk (below_step (by repeat (first | (with_reducible first | exact HB.out | apply below_alloc | apply pw_below_drewN | apply below_drew1 | refine below_set ?_ GE285.out) | exact HB.out)) hb)
          clear BK285
          clear HB
          have BK285 := n0_
          have HB := n1_
          clear n0_ n1_
          (try clear hb)
          (try clear hb2)
          (try clear hk)
          (try clear hi)
          refine hK.out _ _ ⟨(blk_cell BK285.out 0).trans rfl, (blk_cell BK285.out 1).trans rfl, (blk_cell BK285.out 2).trans rfl, (blk_cell BK285.out 3).trans rfl⟩ (fun hHeld => ?_)
          clear hK K
          refine norm_ (a' := ?_) ?_ ?_
          rotate_left
          · show Act.put _ (some 27) _ = _
            simp only [Act.put, List.setIfInBounds_toArray, List.set_cons_zero, List.set_cons_succ, i64_w, i32_w]
            rfl
          refine pure_ (i := 5) (N := some 28) (v := ?_) (a' := ?_) #[true, true, true, true, true, true, false, false, false, false, false, false, false, false, false, false, false] rfl rfl (any_of HT_.out (by kernel_rfl)) (fun _ _ _ h => h) (Or.inl ⟨by rfl, ?_⟩) ?_ ?_
          rotate_left
          · intro w'
            go_simp
            with_reducible rfl
          rotate_left
          · simp only [Act.put, List.setIfInBounds_toArray, List.set_cons_zero, List.set_cons_succ, i64_w, i32_w]
            rfl
          refine pure_ (i := 6) (N := some 29) (v := ?_) (a' := ?_) #[true, true, true, true, true, true, true, false, false, false, false, false, false, false, false, false, false] rfl rfl (any_of HT_.out (by kernel_rfl)) (fun _ _ _ h => h) (Or.inl ⟨by rfl, ?_⟩) ?_ ?_
          rotate_left
          · intro w'
            go_simp
            with_reducible rfl
          rotate_left
          · simp only [Act.put, List.setIfInBounds_toArray, List.set_cons_zero, List.set_cons_succ, i64_w, i32_w]
            rfl
          refine pure_ (i := 7) (N := some 30) (v := ?_) (a' := ?_) #[true, true, true, true, true, true, true, true, false, false, false, false, false, false, false, false, false] rfl rfl (any_of HT_.out (by kernel_rfl)) (fun _ _ _ h => h) (Or.inl ⟨by rfl, ?_⟩) ?_ ?_
          rotate_left
          · intro w'
            go_simp
            with_reducible rfl
          rotate_left
          · simp only [Act.put, List.setIfInBounds_toArray, List.set_cons_zero, List.set_cons_succ, i64_w, i32_w]
            rfl
          refine pure_ (i := 8) (N := some 31) (v := ?_) (a' := ?_) #[true, true, true, true, true, true, true, true, true, false, false, false, false, false, false, false, false] rfl rfl (any_of HT_.out (by kernel_rfl)) (fun _ _ _ h => h) (Or.inl ⟨by rfl, ?_⟩) ?_ ?_
          rotate_left
          · intro w'
            go_simp
            with_reducible rfl
          rotate_left
          · simp only [Act.put, List.setIfInBounds_toArray, List.set_cons_zero, List.set_cons_succ, i64_w, i32_w]
            rfl
          refine pure_ (i := 11) (N := some 34) (v := ?_) (a' := ?_) #[true, true, true, true, true, true, true, true, true, false, false, true, false, false, false, false, false] rfl rfl (any_of HT_.out (by kernel_rfl)) (fun _ _ _ h => h) (Or.inl ⟨by rfl, ?_⟩) ?_ ?_
          rotate_left
          · intro w'
            go_simp
            with_reducible rfl
          rotate_left
          · simp only [Act.put, List.setIfInBounds_toArray, List.set_cons_zero, List.set_cons_succ, i64_w, i32_w]
            rfl
          refine pure_ (i := 12) (N := some 35) (v := ?_) (a' := ?_) #[true, true, true, true, true, true, true, true, true, false, false, true, true, false, false, false, false] rfl rfl (any_of HT_.out (by kernel_rfl)) (fun _ _ _ h => h) (Or.inl ⟨by rfl, ?_⟩) ?_ ?_
          rotate_left
          · intro w'
            go_simp
            with_reducible rfl
          rotate_left
          · simp only [Act.put, List.setIfInBounds_toArray, List.set_cons_zero, List.set_cons_succ, i64_w, i32_w]
            rfl
          refine take_ (i := 9) (N := some 32) (v := ?_) (a' := ?_) #[true, true, true, true, true, true, true, true, true, true, false, true, true, false, false, false, false] rfl rfl (take_ofW HT_.out HW_.out (by kernel_rfl)) (fun _ _ _ h => h) (Or.inl ⟨by rfl, ?_⟩) hHeld ?_ ?_
          rotate_left
          · rintro w' ⟨s0, s1, s2, s3⟩
            go_simp
            with_reducible rfl
          rotate_left
          · simp only [Act.put, List.setIfInBounds_toArray, List.set_cons_zero, List.set_cons_succ, i64_w, i32_w]
            rfl
          refine take_ (i := 13) (N := some 36) (v := ?_) (a' := ?_) #[true, true, true, true, true, true, true, true, true, true, false, true, true, true, false, false, false] rfl rfl (take_ofW HT_.out HW_.out (by kernel_rfl)) (fun _ _ _ h => h) (Or.inl ⟨by rfl, ?_⟩) hHeld ?_ ?_
          rotate_left
          · rintro w' ⟨s0, s1, s2, s3⟩
            go_simp
            with_reducible rfl
          rotate_left
          · simp only [Act.put, List.setIfInBounds_toArray, List.set_cons_zero, List.set_cons_succ, i64_w, i32_w]
            rfl
          refine one_ (i := 10) (N := some 33) #[true, true, true, true, true, true, true, true, true, true, true, true, true, true, false, false, false] rfl rfl (one_of HT_.out (by kernel_rfl)) (by decide) (fun K hK => ?_)
          refine goes_ Try.func22 (by kernel_rfl) rfl #[.int .u32 a0, .int .u32 a1, .agg #[.int .u16 a2_0, .int .u16 a2_1, .int .u16 a2_2, .slice A2_3 l2_3.length c2_3]] (by rfl) rfl rfl (by (try simp only [List.map_toArray, List.map_cons, List.map_nil]); first | done | rfl | (simp only [List.length_drop, List.length_take]; rfl) | (go_simp; done) | (simp [Act.eval, IntKind.signed]; done) | (simp [Act.eval, IntKind.signed]; rfl)) ?_
          with_reducible refine (udp_Right.calls k a0 a1 a2_0 a2_1 a2_2 _ _ l2_3 t289 _ ?side1 ?side2 A19.out).mono ?_
          (case side1 => repeat (first | exact (Kd.C_below HR2_3.out HB.out) | (with_reducible refine Kd.C_alloc ?_ _) | (with_reducible refine Kd.C_drewN ?_ _) | (with_reducible refine Kd.C_drew ?_)))
          (case side2 => exact HC2_3.out)
          rintro e w23 ⟨rfl, hb⟩
          refine ⟨_, rfl, ?_⟩
          have n0_ := Aside0.mk (blk_below (g := gb285) (o := .cells #[.int .u16 a2_0, .int .u16 a2_1, .int .u16 a2_2, .slice A2_3 l2_3.length c2_3] 26 (0, 0)) (by (with_reducible repeat (first | refine blk_drewN ?_ _ | refine blk_drew ?_ | refine blk_alloc ?_ _)); exact BK285.out) hb)
          have n1_ := Aside0.mk (below_step (by repeat (first | (with_reducible first | exact HB.out | apply below_alloc | apply pw_below_drewN | apply below_drew1 | refine below_set ?_ GE285.out) | exact HB.out)) hb)
          clear BK285
          clear HB
          have BK285 := n0_
          have HB := n1_
          clear n0_ n1_
          (try clear hb)
          (try clear hb2)
          (try clear hk)
          (try clear hi)
          refine hK.out _ _ ⟨(blk_cell BK285.out 0).trans rfl, (blk_cell BK285.out 1).trans rfl, (blk_cell BK285.out 2).trans rfl, (blk_cell BK285.out 3).trans rfl⟩ (fun hHeld => ?_)
          clear hK K
          refine norm_ (a' := ?_) ?_ ?_
          rotate_left
          · show Act.put _ (some 33) _ = _
            simp only [Act.put, List.setIfInBounds_toArray, List.set_cons_zero, List.set_cons_succ, i64_w, i32_w]
            rfl
          refine one_ (i := 14) (N := some 37) #[true, true, true, true, true, true, true, true, true, true, true, true, true, true, true, false, false] rfl rfl (one_of HT_.out (by kernel_rfl)) (by decide) (fun K hK => ?_)
          refine goes_ Try.func23 (by kernel_rfl) rfl #[.int .u32 a0, .int .u32 a1, .agg #[.int .u16 a2_0, .int .u16 a2_1, .int .u16 a2_2, .slice A2_3 l2_3.length c2_3]] (by rfl) rfl rfl (by (try simp only [List.map_toArray, List.map_cons, List.map_nil]); first | done | rfl | (simp only [List.length_drop, List.length_take]; rfl) | (go_simp; done) | (simp [Act.eval, IntKind.signed]; done) | (simp [Act.eval, IntKind.signed]; rfl)) ?_
          with_reducible refine (lychref1_UdpRight.calls k a0 a1 a2_0 a2_1 a2_2 _ _ l2_3 t290 _ ?side1 ?side2 A20.out).mono ?_
          (case side1 => repeat (first | exact (Kd.C_below HR2_3.out HB.out) | (with_reducible refine Kd.C_alloc ?_ _) | (with_reducible refine Kd.C_drewN ?_ _) | (with_reducible refine Kd.C_drew ?_)))
          (case side2 => exact HC2_3.out)
          rintro e w24 ⟨rfl, hb⟩
          refine ⟨_, rfl, ?_⟩
          have n0_ := Aside0.mk (blk_below (g := gb285) (o := .cells #[.int .u16 a2_0, .int .u16 a2_1, .int .u16 a2_2, .slice A2_3 l2_3.length c2_3] 26 (0, 0)) (by (with_reducible repeat (first | refine blk_drewN ?_ _ | refine blk_drew ?_ | refine blk_alloc ?_ _)); exact BK285.out) hb)
          have n1_ := Aside0.mk (below_step (by repeat (first | (with_reducible first | exact HB.out | apply below_alloc | apply pw_below_drewN | apply below_drew1 | refine below_set ?_ GE285.out) | exact HB.out)) hb)
          clear BK285
          clear HB
          have BK285 := n0_
          have HB := n1_
          clear n0_ n1_
          (try clear hb)
          (try clear hb2)
          (try clear hk)
          (try clear hi)
          refine hK.out _ _ ⟨(blk_cell BK285.out 0).trans rfl, (blk_cell BK285.out 1).trans rfl, (blk_cell BK285.out 2).trans rfl, (blk_cell BK285.out 3).trans rfl⟩ (fun hHeld => ?_)
          clear hK K
          refine norm_ (a' := ?_) ?_ ?_
          rotate_left
          · show Act.put _ (some 37) _ = _
            simp only [Act.put, List.setIfInBounds_toArray, List.set_cons_zero, List.set_cons_succ, i64_w, i32_w]
            rfl
          refine pure_ (i := 15) (N := some 38) (v := ?_) (a' := ?_) #[true, true, true, true, true, true, true, true, true, true, true, true, true, true, true, true, false] rfl rfl (any_of HT_.out (by kernel_rfl)) (fun _ _ _ h => h) (Or.inl ⟨by rfl, ?_⟩) ?_ ?_
          rotate_left
          · intro w'
            go_simp
            with_reducible rfl
          rotate_left
          · simp only [Act.put, List.setIfInBounds_toArray, List.set_cons_zero, List.set_cons_succ, i64_w, i32_w]
            rfl
          refine pure_ (i := 16) (N := some 39) (v := ?_) (a' := ?_) #[true, true, true, true, true, true, true, true, true, true, true, true, true, true, true, true, true] rfl rfl (any_of HT_.out (by kernel_rfl)) (fun _ _ _ h => h) (Or.inl ⟨by rfl, ?_⟩) ?_ ?_
          rotate_left
          · intro w'
            go_simp
            with_reducible rfl
          rotate_left
          · simp only [Act.put, List.setIfInBounds_toArray, List.set_cons_zero, List.set_cons_succ, i64_w, i32_w]
            rfl
          refine done_ (done_of HT_.out (by kernel_rfl)) ?_
          try go_wp2
          go_meet
          case rel => exact ⟨_, ((t289 != t290)), (by first | rfl | (simp; done) | (simp [*]; done)), H', ⟨by first | omega | exact Nat.le_refl _⟩, ⟨by (with_reducible repeat (first | refine blk_drewN ?_ _ | refine blk_drew ?_ | refine blk_alloc ?_ _)); exact BK285.out⟩, ⟨by repeat (first | (with_reducible first | exact HB.out | apply below_alloc | apply pw_below_drewN | apply below_drew1 | refine below_set ?_ GE285.out) | exact HB.out)⟩⟩
        · rw [if_neg c18] at H
          have c18b0 : (t287 == t288) = false := beq_eq_false_iff_ne.mpr c18
          have c18b1 : (t287 != t288) = true := bne_iff_ne.mpr c18
          (first | rw [c18b0] | (simp only [i64_w, i32_w]; rw [c18b0]) | skip)
          have H' := Aside0.mk H
          clear H
          try go_wp2
          have n0_ := Aside0.mk (blk_drew BK285.out)
          have n1_ := Aside0.mk (below_drew1 HB.out)
          clear BK285
          clear HB
          have BK285 := n0_
          have HB := n1_
          clear n0_ n1_
          refine start_ (n := 17) (S := fun w' => w'.cell? ⟨gb285, 0, none⟩ = some (.int .u16 a2_0) ∧ w'.cell? ⟨gb285, 1, none⟩ = some (.int .u16 a2_1) ∧ w'.cell? ⟨gb285, 2, none⟩ = some (.int .u16 a2_2) ∧ w'.cell? ⟨gb285, 3, none⟩ = some (.slice A2_3 l2_3.length c2_3)) (ds := []) #[false, false, false, false, false, false, false, false, false, false, false, false, false, false, false, false, false] (by kernel_rfl) rfl rfl ⟨(blk_cell BK285.out 0).trans rfl, (blk_cell BK285.out 1).trans rfl, (blk_cell BK285.out 2).trans rfl, (blk_cell BK285.out 3).trans rfl⟩ (fun hHeld => ?_); refine with_tabW lychlaw4_UdpSums.tab6 lychlaw4_UdpSums.bits6 (fun HT_ HW_ => ?_)
          generalize w16.drew = w25 at BK285 HB hHeld ⊢
          refine pure_ (i := 0) (N := some 23) (v := ?_) (a' := ?_) #[true, false, false, false, false, false, false, false, false, false, false, false, false, false, false, false, false] rfl rfl (any_of HT_.out (by kernel_rfl)) (fun _ _ _ h => h) (Or.inl ⟨by rfl, ?_⟩) ?_ ?_
          rotate_left
          · intro w'
            go_simp
            with_reducible rfl
          rotate_left
          · simp only [Act.put, List.setIfInBounds_toArray, List.set_cons_zero, List.set_cons_succ, i64_w, i32_w]
            rfl
          refine pure_ (i := 1) (N := some 24) (v := ?_) (a' := ?_) #[true, true, false, false, false, false, false, false, false, false, false, false, false, false, false, false, false] rfl rfl (any_of HT_.out (by kernel_rfl)) (fun _ _ _ h => h) (Or.inl ⟨by rfl, ?_⟩) ?_ ?_
          rotate_left
          · intro w'
            go_simp
            with_reducible rfl
          rotate_left
          · simp only [Act.put, List.setIfInBounds_toArray, List.set_cons_zero, List.set_cons_succ, i64_w, i32_w]
            rfl
          refine pure_ (i := 2) (N := some 25) (v := ?_) (a' := ?_) #[true, true, true, false, false, false, false, false, false, false, false, false, false, false, false, false, false] rfl rfl (any_of HT_.out (by kernel_rfl)) (fun _ _ _ h => h) (Or.inl ⟨by rfl, ?_⟩) ?_ ?_
          rotate_left
          · intro w'
            go_simp
            with_reducible rfl
          rotate_left
          · simp only [Act.put, List.setIfInBounds_toArray, List.set_cons_zero, List.set_cons_succ, i64_w, i32_w]
            rfl
          refine take_ (i := 3) (N := some 26) (v := ?_) (a' := ?_) #[true, true, true, true, false, false, false, false, false, false, false, false, false, false, false, false, false] rfl rfl (take_ofW HT_.out HW_.out (by kernel_rfl)) (fun _ _ _ h => h) (Or.inl ⟨by rfl, ?_⟩) hHeld ?_ ?_
          rotate_left
          · rintro w' ⟨s0, s1, s2, s3⟩
            go_simp
            with_reducible rfl
          rotate_left
          · simp only [Act.put, List.setIfInBounds_toArray, List.set_cons_zero, List.set_cons_succ, i64_w, i32_w]
            rfl
          refine one_ (i := 4) (N := some 27) #[true, true, true, true, true, false, false, false, false, false, false, false, false, false, false, false, false] rfl rfl (one_of HT_.out (by kernel_rfl)) (by decide) (fun K hK => ?_)
          refine goes_ Try.func21 (by kernel_rfl) rfl #[.int .u32 a0, .int .u32 a1, .agg #[.int .u16 a2_0, .int .u16 a2_1, .int .u16 a2_2, .slice A2_3 l2_3.length c2_3]] (by rfl) rfl rfl (by (try simp only [List.map_toArray, List.map_cons, List.map_nil]); first | done | rfl | (simp only [List.length_drop, List.length_take]; rfl) | (go_simp; done) | (simp [Act.eval, IntKind.signed]; done) | (simp [Act.eval, IntKind.signed]; rfl)) ?_
          with_reducible refine (lychref1_UdpSum.calls k a0 a1 a2_0 a2_1 a2_2 _ _ l2_3 t288 _ ?side1 ?side2 A17.out).mono ?_
          (case side1 => repeat (first | exact (Kd.C_below HR2_3.out HB.out) | (with_reducible refine Kd.C_alloc ?_ _) | (with_reducible refine Kd.C_drewN ?_ _) | (with_reducible refine Kd.C_drew ?_)))
          (case side2 => exact HC2_3.out)
          rintro e w26 ⟨rfl, hb⟩
          refine ⟨_, rfl, ?_⟩
          have n0_ := Aside0.mk (blk_below (g := gb285) (o := .cells #[.int .u16 a2_0, .int .u16 a2_1, .int .u16 a2_2, .slice A2_3 l2_3.length c2_3] 26 (0, 0)) (by (with_reducible repeat (first | refine blk_drewN ?_ _ | refine blk_drew ?_ | refine blk_alloc ?_ _)); exact BK285.out) hb)
          have n1_ := Aside0.mk (below_step (by repeat (first | (with_reducible first | exact HB.out | apply below_alloc | apply pw_below_drewN | apply below_drew1 | refine below_set ?_ GE285.out) | exact HB.out)) hb)
          clear BK285
          clear HB
          have BK285 := n0_
          have HB := n1_
          clear n0_ n1_
          (try clear hb)
          (try clear hb2)
          (try clear hk)
          (try clear hi)
          refine hK.out _ _ ⟨(blk_cell BK285.out 0).trans rfl, (blk_cell BK285.out 1).trans rfl, (blk_cell BK285.out 2).trans rfl, (blk_cell BK285.out 3).trans rfl⟩ (fun hHeld => ?_)
          clear hK K
          refine norm_ (a' := ?_) ?_ ?_
          rotate_left
          · show Act.put _ (some 27) _ = _
            simp only [Act.put, List.setIfInBounds_toArray, List.set_cons_zero, List.set_cons_succ, i64_w, i32_w]
            rfl
          refine pure_ (i := 5) (N := some 28) (v := ?_) (a' := ?_) #[true, true, true, true, true, true, false, false, false, false, false, false, false, false, false, false, false] rfl rfl (any_of HT_.out (by kernel_rfl)) (fun _ _ _ h => h) (Or.inl ⟨by rfl, ?_⟩) ?_ ?_
          rotate_left
          · intro w'
            go_simp
            with_reducible rfl
          rotate_left
          · simp only [Act.put, List.setIfInBounds_toArray, List.set_cons_zero, List.set_cons_succ, i64_w, i32_w]
            rfl
          refine pure_ (i := 6) (N := some 29) (v := ?_) (a' := ?_) #[true, true, true, true, true, true, true, false, false, false, false, false, false, false, false, false, false] rfl rfl (any_of HT_.out (by kernel_rfl)) (fun _ _ _ h => h) (Or.inl ⟨by rfl, ?_⟩) ?_ ?_
          rotate_left
          · intro w'
            go_simp
            with_reducible rfl
          rotate_left
          · simp only [Act.put, List.setIfInBounds_toArray, List.set_cons_zero, List.set_cons_succ, i64_w, i32_w]
            rfl
          refine pure_ (i := 7) (N := some 30) (v := undef) (a' := ?_) #[true, true, true, true, true, true, true, true, false, false, false, false, false, false, false, false, false] rfl rfl (any_of HT_.out (by kernel_rfl)) (fun _ _ _ h => h) (Or.inr ⟨by rfl, rfl⟩) ?_ ?_
          rotate_left
          · simp only [Act.put, List.setIfInBounds_toArray, List.set_cons_zero, List.set_cons_succ, i64_w, i32_w]
            rfl
          refine pure_ (i := 8) (N := some 31) (v := undef) (a' := ?_) #[true, true, true, true, true, true, true, true, true, false, false, false, false, false, false, false, false] rfl rfl (any_of HT_.out (by kernel_rfl)) (fun _ _ _ h => h) (Or.inr ⟨by rfl, rfl⟩) ?_ ?_
          rotate_left
          · simp only [Act.put, List.setIfInBounds_toArray, List.set_cons_zero, List.set_cons_succ, i64_w, i32_w]
            rfl
          refine pure_ (i := 9) (N := some 32) (v := undef) (a' := ?_) #[true, true, true, true, true, true, true, true, true, true, false, false, false, false, false, false, false] rfl rfl (any_of HT_.out (by kernel_rfl)) (fun _ _ _ h => h) (Or.inr ⟨by rfl, rfl⟩) ?_ ?_
          rotate_left
          · simp only [Act.put, List.setIfInBounds_toArray, List.set_cons_zero, List.set_cons_succ, i64_w, i32_w]
            rfl
          refine pure_ (i := 10) (N := some 33) (v := undef) (a' := ?_) #[true, true, true, true, true, true, true, true, true, true, true, false, false, false, false, false, false] rfl rfl (any_of HT_.out (by kernel_rfl)) (fun _ _ _ h => h) (Or.inr ⟨by rfl, rfl⟩) ?_ ?_
          rotate_left
          · simp only [Act.put, List.setIfInBounds_toArray, List.set_cons_zero, List.set_cons_succ, i64_w, i32_w]
            rfl
          refine pure_ (i := 11) (N := some 34) (v := undef) (a' := ?_) #[true, true, true, true, true, true, true, true, true, true, true, true, false, false, false, false, false] rfl rfl (any_of HT_.out (by kernel_rfl)) (fun _ _ _ h => h) (Or.inr ⟨by rfl, rfl⟩) ?_ ?_
          rotate_left
          · simp only [Act.put, List.setIfInBounds_toArray, List.set_cons_zero, List.set_cons_succ, i64_w, i32_w]
            rfl
          refine pure_ (i := 12) (N := some 35) (v := undef) (a' := ?_) #[true, true, true, true, true, true, true, true, true, true, true, true, true, false, false, false, false] rfl rfl (any_of HT_.out (by kernel_rfl)) (fun _ _ _ h => h) (Or.inr ⟨by rfl, rfl⟩) ?_ ?_
          rotate_left
          · simp only [Act.put, List.setIfInBounds_toArray, List.set_cons_zero, List.set_cons_succ, i64_w, i32_w]
            rfl
          refine pure_ (i := 13) (N := some 36) (v := undef) (a' := ?_) #[true, true, true, true, true, true, true, true, true, true, true, true, true, true, false, false, false] rfl rfl (any_of HT_.out (by kernel_rfl)) (fun _ _ _ h => h) (Or.inr ⟨by rfl, rfl⟩) ?_ ?_
          rotate_left
          · simp only [Act.put, List.setIfInBounds_toArray, List.set_cons_zero, List.set_cons_succ, i64_w, i32_w]
            rfl
          refine pure_ (i := 14) (N := some 37) (v := undef) (a' := ?_) #[true, true, true, true, true, true, true, true, true, true, true, true, true, true, true, false, false] rfl rfl (any_of HT_.out (by kernel_rfl)) (fun _ _ _ h => h) (Or.inr ⟨by rfl, rfl⟩) ?_ ?_
          rotate_left
          · simp only [Act.put, List.setIfInBounds_toArray, List.set_cons_zero, List.set_cons_succ, i64_w, i32_w]
            rfl
          refine pure_ (i := 15) (N := some 38) (v := undef) (a' := ?_) #[true, true, true, true, true, true, true, true, true, true, true, true, true, true, true, true, false] rfl rfl (any_of HT_.out (by kernel_rfl)) (fun _ _ _ h => h) (Or.inr ⟨by rfl, rfl⟩) ?_ ?_
          rotate_left
          · simp only [Act.put, List.setIfInBounds_toArray, List.set_cons_zero, List.set_cons_succ, i64_w, i32_w]
            rfl
          refine pure_ (i := 16) (N := some 39) (v := ?_) (a' := ?_) #[true, true, true, true, true, true, true, true, true, true, true, true, true, true, true, true, true] rfl rfl (any_of HT_.out (by kernel_rfl)) (fun _ _ _ h => h) (Or.inl ⟨by rfl, ?_⟩) ?_ ?_
          rotate_left
          · intro w'
            go_simp
            with_reducible rfl
          rotate_left
          · simp only [Act.put, List.setIfInBounds_toArray, List.set_cons_zero, List.set_cons_succ, i64_w, i32_w]
            rfl
          refine done_ (done_of HT_.out (by kernel_rfl)) ?_
          try go_wp2
          go_meet
          case rel => exact ⟨_, (true), (by first | rfl | (simp; done) | (simp [*]; done)), H', ⟨by first | omega | exact Nat.le_refl _⟩, ⟨by (with_reducible repeat (first | refine blk_drewN ?_ _ | refine blk_drew ?_ | refine blk_alloc ?_ _)); exact BK285.out⟩, ⟨by repeat (first | (with_reducible first | exact HB.out | apply below_alloc | apply pw_below_drewN | apply below_drew1 | refine below_set ?_ GE285.out) | exact HB.out)⟩⟩
      case rest =>
        clear HC12
        try clear c1
        try clear c2
        try clear p2
        try clear c5
        try clear c6
        try clear c7
        try clear c7b0
        try clear c7b1
        try clear c13
        try clear c18
        try clear c18b0
        try clear c18b1
        try clear c20
        try clear c21
        try clear c22
        try clear c23
        try clear hcz10_0
        try clear hcz10_1
        try clear hcz10_2
        try clear hcz10_3
        try clear hcz15_0
        try clear hcz15_1
        try clear hcz15_2
        try clear hcz15_3
        try clear hfz10_0
        try clear hfz10_1
        try clear hfz10_2
        try clear hfz10_3
        try clear hfz15_0
        try clear hfz15_1
        try clear hfz15_2
        try clear hfz15_3
        obtain ⟨kq, x39_11, rfl, HA, HJ11, BK285, HB⟩ := hcut
        cases kq with
        | zero => exact absurd HA.out (by simp [lychlaw4_UdpSums.j0])
        | succ kj11 =>
          have H := HA.out
          clear HA
          simp only [lychlaw4_UdpSums.j0] at H
          by_cases c27 : x39_11 = true
          · subst c27
            have H1 : (some false) = some r := by rw [if_pos rfl] at H; exact H
            clear H
            have H := H1
            clear H1
            obtain rfl := Option.some.inj H
            go_wp2
            go_ret
            exact ⟨by first | rfl | (simp [errW_none, errW_some] <;> rfl) | (simp [*, errW_none, errW_some] <;> rfl), by repeat (first | (with_reducible first | exact HB.out | apply below_alloc | apply pw_below_drewN | apply below_drew1 | refine below_set ?_ GE285.out) | exact HB.out)⟩
          · replace c27 := Bool.eq_false_iff.mpr c27
            subst c27
            have H1 : ((lychref1_UdpBytes.f a2_0 a2_1 a2_2 l2_3).bind fun bt291 => (if bt291.2 = 0 then ((udp_Right.f kj11 a0 a1 a2_0 a2_1 t287 l2_3).bind fun t296 => (if t296 = true then ((udp_Right.f kj11 a0 a1 a2_0 a2_1 a3 l2_3).bind fun t297 => (if a3 = t287 then (some (t297 == true)) else (some (t297 == (a3 == 0))))) else (some false))) else (some (t287 == 0)))) = some r := by rw [if_neg (show ¬ (false = true) by decide)] at H; exact H
            clear H
            have H := H1
            clear H1
            replace H := Option.bind_eq_some_iff.mp H
            obtain ⟨⟨t291, t294⟩, A280, H⟩ := H
            replace H : (if t294 = 0 then ((udp_Right.f kj11 a0 a1 a2_0 a2_1 t287 l2_3).bind fun t296 => (if t296 = true then ((udp_Right.f kj11 a0 a1 a2_0 a2_1 a3 l2_3).bind fun t297 => (if a3 = t287 then (some (t297 == true)) else (some (t297 == (a3 == 0))))) else (some false))) else (some (t287 == 0))) = some r := H
            have A28 := Aside0.mk A280
            clear A280
            by_cases c29 : t294 = 0
            · rw [if_pos c29] at H
              have c29b0 : (t294 == 0) = true := beq_iff_eq.mpr c29
              have c29b1 : (t294 != 0) = false := bne_eq_false_iff_eq.mpr c29
              clear c29
              replace H := Option.bind_eq_some_iff.mp H
              obtain ⟨t296, A300, H⟩ := H
              replace H : (if t296 = true then ((udp_Right.f kj11 a0 a1 a2_0 a2_1 a3 l2_3).bind fun t297 => (if a3 = t287 then (some (t297 == true)) else (some (t297 == (a3 == 0))))) else (some false)) = some r := H
              have A30 := Aside0.mk A300
              clear A300
              by_cases c31 : t296 = true
              · subst c31
                have H1 : ((udp_Right.f kj11 a0 a1 a2_0 a2_1 a3 l2_3).bind fun t297 => (if a3 = t287 then (some (t297 == true)) else (some (t297 == (a3 == 0))))) = some r := by rw [if_pos rfl] at H; exact H
                clear H
                have H := H1
                clear H1
                replace H := Option.bind_eq_some_iff.mp H
                obtain ⟨t297, A320, H⟩ := H
                replace H : (if a3 = t287 then (some (t297 == true)) else (some (t297 == (a3 == 0)))) = some r := H
                have A32 := Aside0.mk A320
                clear A320
                by_cases c33 : a3 = t287
                · rw [if_pos c33] at H
                  have c33b0 : (a3 == t287) = true := beq_iff_eq.mpr c33
                  have c33b1 : (a3 != t287) = false := bne_eq_false_iff_eq.mpr c33
                  clear c33
                  obtain rfl := Option.some.inj H
                  have hcz34_0 : wc.cell? ⟨gb285, 0, none⟩ = some (.int .u16 a2_0) := (blk_cell BK285.out 0).trans rfl
                  have hcz34_1 : wc.cell? ⟨gb285, 1, none⟩ = some (.int .u16 a2_1) := (blk_cell BK285.out 1).trans rfl
                  have hcz34_2 : wc.cell? ⟨gb285, 2, none⟩ = some (.int .u16 a2_2) := (blk_cell BK285.out 2).trans rfl
                  have hcz34_3 : wc.cell? ⟨gb285, 3, none⟩ = some (.slice A2_3 l2_3.length c2_3) := (blk_cell BK285.out 3).trans rfl
                  have hfz34_0 := blk_frozen BK285.out 0
                  have hfz34_1 := blk_frozen BK285.out 1
                  have hfz34_2 := blk_frozen BK285.out 2
                  have hfz34_3 := blk_frozen BK285.out 3
                  go_wp2_with (first | ((with_reducible refine gate_callee (f := 18) rfl ?_); refine goesL_ (some 42) rfl rfl Try.func18 (by kernel_rfl) rfl #[.agg #[.int .u16 a2_0, .int .u16 a2_1, .int .u16 a2_2, .slice A2_3 l2_3.length c2_3]] rfl (by (try simp only [List.map_toArray, List.map_cons, List.map_nil]); first | done | rfl | (simp only [List.length_drop, List.length_take]; rfl) | (go_simp; done) | (simp [Act.eval, IntKind.signed]; done) | (simp [Act.eval, IntKind.signed]; rfl)) ?_; (with_reducible refine (lychref1_UdpBytes.calls a2_0 a2_1 a2_2 _ _ l2_3 t291 t294 _ ?side1 ?side2 A28.out).mono ?_); (case side1 => repeat (first | exact (Kd.C_below HR2_3.out HB.out) | (with_reducible refine Kd.C_alloc ?_ _) | (with_reducible refine Kd.C_drewN ?_ _) | (with_reducible refine Kd.C_drew ?_))); (case side2 => exact HC2_3.out); rintro e w35 ⟨v292, rfl, ho0, hb⟩; refine ⟨_, rfl, ?_⟩; have n0_ := Aside0.mk (Kd.R_lower ho0 (below_size (by repeat (first | (with_reducible first | exact HB.out | apply below_alloc | apply pw_below_drewN | apply below_drew1 | refine below_set ?_ GE285.out) | exact HB.out)))); have n1_ := Aside0.mk (blk_below (g := gb285) (o := .cells #[.int .u16 a2_0, .int .u16 a2_1, .int .u16 a2_2, .slice A2_3 l2_3.length c2_3] 26 (0, 0)) (by (with_reducible repeat (first | refine blk_drewN ?_ _ | refine blk_drew ?_ | refine blk_alloc ?_ _)); exact BK285.out) hb); have n2_ := Aside0.mk (below_step (by repeat (first | (with_reducible first | exact HB.out | apply below_alloc | apply pw_below_drewN | apply below_drew1 | refine below_set ?_ GE285.out) | exact HB.out)) hb); clear BK285; clear HB; have HO293 := n0_; have BK285 := n1_; have HB := n2_; clear n0_ n1_ n2_; (try clear hb); (try clear hb2); (try clear hk); (try clear hi); (try clear ho0); have hcz36_0 : w35.cell? ⟨gb285, 0, none⟩ = some (.int .u16 a2_0) := (blk_cell BK285.out 0).trans rfl; have hcz36_1 : w35.cell? ⟨gb285, 1, none⟩ = some (.int .u16 a2_1) := (blk_cell BK285.out 1).trans rfl; have hcz36_2 : w35.cell? ⟨gb285, 2, none⟩ = some (.int .u16 a2_2) := (blk_cell BK285.out 2).trans rfl; have hcz36_3 : w35.cell? ⟨gb285, 3, none⟩ = some (.slice A2_3 l2_3.length c2_3) := (blk_cell BK285.out 3).trans rfl; have hfz36_0 := blk_frozen BK285.out 0; have hfz36_1 := blk_frozen BK285.out 1; have hfz36_2 := blk_frozen BK285.out 2; have hfz36_3 := blk_frozen BK285.out 3) | ((with_reducible refine gate_dst (N := 12) rfl ?_); refine box_event ?hg (N := 12) ?hd (cs := #[.int .u16 0, .int .u16 0, .int .u16 0, .slice none 0 0]) (t := 26) ?hr ?_; (case hd => rfl); (case hg => rfl); (case hr => first | (go_simp; done) | (go_simp; rfl)); intro gb295 hg w37 hbox hb; have n0_ := Aside0.mk (Kd.R_below (by (with_reducible repeat (first | apply Kd.R_alloc | apply Kd.R_drewN | apply Kd.R_drew)); exact (Kd.R_mono (Kd.R_far (p := ⟨gb285, 2, none⟩) (Kd.R_types HO293.out BK285.out (by decide)) (fun _ hk => hk.2) (.int .u16 t287)) (fun _ h_ => h_.1))) hb); have n1_ := Aside0.mk (blk_below (g := gb285) (o := .cells #[.int .u16 a2_0, .int .u16 a2_1, .int .u16 t287, .slice A2_3 l2_3.length c2_3] 26 (0, 0)) (by (with_reducible repeat (first | refine blk_drewN ?_ _ | refine blk_drew ?_ | refine blk_alloc ?_ _)); refine blk_put (cs := #[.int .u16 a2_0, .int .u16 a2_1, .int .u16 a2_2, .slice A2_3 l2_3.length c2_3]) ?_ 2 _ rfl; (with_reducible repeat (first | refine blk_drewN ?_ _ | refine blk_drew ?_ | refine blk_alloc ?_ _)); exact BK285.out) hb); have n2_ := Aside0.mk (below_step (by repeat (first | (with_reducible first | exact HB.out | apply below_alloc | apply pw_below_drewN | apply below_drew1 | refine below_set ?_ GE285.out) | exact HB.out)) hb); have n3_ := Aside0.mk (hbox); have n4_ := Aside0.mk ((by rw [hg]; exact (below_size (by repeat (first | (with_reducible first | exact HB.out | apply below_alloc | apply pw_below_drewN | apply below_drew1 | refine below_set ?_ GE285.out) | exact HB.out))) : w.heap.size ≤ gb295)); have n5_ := Aside0.mk ((by rw [hg]; exact (below_size (by repeat (first | (with_reducible first | exact HB.out | apply below_alloc | apply pw_below_drewN | apply below_drew1 | refine below_set ?_ GE285.out) | exact HB.out))) : w.heap.size ≤ gb295)); have n6_ := Aside0.mk ((by rw [hg]; exact Nat.ne_of_lt (blk_lt (g := gb285) (o := .cells #[.int .u16 a2_0, .int .u16 a2_1, .int .u16 t287, .slice A2_3 l2_3.length c2_3] 26 (0, 0)) (by (with_reducible repeat (first | refine blk_drewN ?_ _ | refine blk_drew ?_ | refine blk_alloc ?_ _)); refine blk_put (cs := #[.int .u16 a2_0, .int .u16 a2_1, .int .u16 a2_2, .slice A2_3 l2_3.length c2_3]) ?_ 2 _ rfl; (with_reducible repeat (first | refine blk_drewN ?_ _ | refine blk_drew ?_ | refine blk_alloc ?_ _)); exact BK285.out)) : gb285 ≠ gb295)); have n7_ := Aside0.mk ((by rw [hg]; exact Nat.ne_of_gt (blk_lt (g := gb285) (o := .cells #[.int .u16 a2_0, .int .u16 a2_1, .int .u16 t287, .slice A2_3 l2_3.length c2_3] 26 (0, 0)) (by (with_reducible repeat (first | refine blk_drewN ?_ _ | refine blk_drew ?_ | refine blk_alloc ?_ _)); refine blk_put (cs := #[.int .u16 a2_0, .int .u16 a2_1, .int .u16 a2_2, .slice A2_3 l2_3.length c2_3]) ?_ 2 _ rfl; (with_reducible repeat (first | refine blk_drewN ?_ _ | refine blk_drew ?_ | refine blk_alloc ?_ _)); exact BK285.out)) : gb295 ≠ gb285)); clear HO293; clear BK285; clear HB; have HO293 := n0_; have BK285 := n1_; have HB := n2_; have BK295 := n3_; have GW295 := n4_; have GE295 := n5_; have NB285_295 := n6_; have NB295_285 := n7_; clear n0_ n1_ n2_ n3_ n4_ n5_ n6_ n7_; clear hb hbox hg; have hnb38 := NB295_285.out; have hnc38 := NB285_295.out; have hcz39_0 : w37.cell? ⟨gb295, 0, none⟩ = some (.int .u16 0) := (blk_cell BK295.out 0).trans rfl; have hcz39_1 : w37.cell? ⟨gb295, 1, none⟩ = some (.int .u16 0) := (blk_cell BK295.out 1).trans rfl; have hcz39_2 : w37.cell? ⟨gb295, 2, none⟩ = some (.int .u16 0) := (blk_cell BK295.out 2).trans rfl; have hcz39_3 : w37.cell? ⟨gb295, 3, none⟩ = some (.slice none 0 0) := (blk_cell BK295.out 3).trans rfl; have hfz39_0 := blk_frozen BK295.out 0; have hfz39_1 := blk_frozen BK295.out 1; have hfz39_2 := blk_frozen BK295.out 2; have hfz39_3 := blk_frozen BK295.out 3; have hcz40_0 : w37.cell? ⟨gb285, 0, none⟩ = some (.int .u16 a2_0) := (blk_cell BK285.out 0).trans rfl; have hcz40_1 : w37.cell? ⟨gb285, 1, none⟩ = some (.int .u16 a2_1) := (blk_cell BK285.out 1).trans rfl; have hcz40_2 : w37.cell? ⟨gb285, 2, none⟩ = some (.int .u16 t287) := (blk_cell BK285.out 2).trans rfl; have hcz40_3 : w37.cell? ⟨gb285, 3, none⟩ = some (.slice A2_3 l2_3.length c2_3) := (blk_cell BK285.out 3).trans rfl; have hfz40_0 := blk_frozen BK285.out 0; have hfz40_1 := blk_frozen BK285.out 1; have hfz40_2 := blk_frozen BK285.out 2; have hfz40_3 := blk_frozen BK285.out 3) | ((with_reducible refine gate_callee (f := 22) rfl ?_); refine goesL_ (some 57) rfl rfl Try.func22 (by kernel_rfl) rfl #[.int .u32 a0, .int .u32 a1, .agg #[.int .u16 a2_0, .int .u16 a2_1, .int .u16 t287, .slice A2_3 l2_3.length c2_3]] rfl (by (try simp only [List.map_toArray, List.map_cons, List.map_nil]); first | done | rfl | (simp only [List.length_drop, List.length_take]; rfl) | (go_simp; done) | (simp [Act.eval, IntKind.signed]; done) | (simp [Act.eval, IntKind.signed]; rfl)) ?_; (with_reducible refine (udp_Right.calls kj11 a0 a1 a2_0 a2_1 t287 _ _ l2_3 true _ ?side1 ?side2 A30.out).mono ?_); (case side1 => exact Kd.C_below HR2_3.out (by repeat (first | (with_reducible first | exact HB.out | apply below_alloc | apply pw_below_drewN | apply below_drew1 | refine below_set ?_ GE285.out | refine below_set ?_ GE295.out) | exact HB.out))); (case side2 => exact HC2_3.out); rintro e w41 ⟨rfl, hb⟩; refine ⟨_, rfl, ?_⟩; have n0_ := Aside0.mk (Kd.R_below (by (with_reducible repeat (first | apply Kd.R_alloc | apply Kd.R_drewN | apply Kd.R_drew)); exact (Kd.R_mono (Kd.R_far (p := ⟨gb295, 2, none⟩) (Kd.R_far (p := ⟨gb295, 3, none⟩) (Kd.R_far (p := ⟨gb295, 2, none⟩) (Kd.R_far (p := ⟨gb295, 1, none⟩) (Kd.R_far (p := ⟨gb295, 0, none⟩) (Kd.R_types HO293.out BK295.out (by decide)) (fun _ hk => hk.2) (.int .u16 a2_0)) (fun _ hk => hk.2) (.int .u16 a2_1)) (fun _ hk => hk.2) (.int .u16 t287)) (fun _ hk => hk.2) (.slice A2_3 l2_3.length c2_3)) (fun _ hk => hk.2) (.int .u16 a3)) (fun _ h_ => h_.1))) hb); have n1_ := Aside0.mk (blk_below (g := gb285) (o := .cells #[.int .u16 a2_0, .int .u16 a2_1, .int .u16 t287, .slice A2_3 l2_3.length c2_3] 26 (0, 0)) (by (with_reducible repeat (first | refine blk_drewN ?_ _ | refine blk_drew ?_ | refine blk_alloc ?_ _)); refine blk_far ?_ NB285_295.out _; (with_reducible repeat (first | refine blk_drewN ?_ _ | refine blk_drew ?_ | refine blk_alloc ?_ _)); refine blk_far ?_ NB285_295.out _; (with_reducible repeat (first | refine blk_drewN ?_ _ | refine blk_drew ?_ | refine blk_alloc ?_ _)); refine blk_far ?_ NB285_295.out _; (with_reducible repeat (first | refine blk_drewN ?_ _ | refine blk_drew ?_ | refine blk_alloc ?_ _)); refine blk_far ?_ NB285_295.out _; (with_reducible repeat (first | refine blk_drewN ?_ _ | refine blk_drew ?_ | refine blk_alloc ?_ _)); refine blk_far ?_ NB285_295.out _; (with_reducible repeat (first | refine blk_drewN ?_ _ | refine blk_drew ?_ | refine blk_alloc ?_ _)); exact BK285.out) hb); have n2_ := Aside0.mk (blk_below (g := gb295) (o := .cells #[.int .u16 a2_0, .int .u16 a2_1, .int .u16 a3, .slice A2_3 l2_3.length c2_3] 26 (0, 0)) (by (with_reducible repeat (first | refine blk_drewN ?_ _ | refine blk_drew ?_ | refine blk_alloc ?_ _)); refine blk_put (cs := #[.int .u16 a2_0, .int .u16 a2_1, .int .u16 t287, .slice A2_3 l2_3.length c2_3]) ?_ 2 _ rfl; (with_reducible repeat (first | refine blk_drewN ?_ _ | refine blk_drew ?_ | refine blk_alloc ?_ _)); refine blk_put (cs := #[.int .u16 a2_0, .int .u16 a2_1, .int .u16 t287, .slice none 0 0]) ?_ 3 _ rfl; (with_reducible repeat (first | refine blk_drewN ?_ _ | refine blk_drew ?_ | refine blk_alloc ?_ _)); refine blk_put (cs := #[.int .u16 a2_0, .int .u16 a2_1, .int .u16 0, .slice none 0 0]) ?_ 2 _ rfl; (with_reducible repeat (first | refine blk_drewN ?_ _ | refine blk_drew ?_ | refine blk_alloc ?_ _)); refine blk_put (cs := #[.int .u16 a2_0, .int .u16 0, .int .u16 0, .slice none 0 0]) ?_ 1 _ rfl; (with_reducible repeat (first | refine blk_drewN ?_ _ | refine blk_drew ?_ | refine blk_alloc ?_ _)); refine blk_put (cs := #[.int .u16 0, .int .u16 0, .int .u16 0, .slice none 0 0]) ?_ 0 _ rfl; (with_reducible repeat (first | refine blk_drewN ?_ _ | refine blk_drew ?_ | refine blk_alloc ?_ _)); exact BK295.out) hb); have n3_ := Aside0.mk (below_step (by repeat (first | (with_reducible first | exact HB.out | apply below_alloc | apply pw_below_drewN | apply below_drew1 | refine below_set ?_ GE285.out | refine below_set ?_ GE295.out) | exact HB.out)) hb); clear HO293; clear BK285; clear BK295; clear HB; have HO293 := n0_; have BK285 := n1_; have BK295 := n2_; have HB := n3_; clear n0_ n1_ n2_ n3_; (try clear hb); (try clear hb2); (try clear hk); (try clear hi); have hcz42_0 : w41.cell? ⟨gb295, 0, none⟩ = some (.int .u16 a2_0) := (blk_cell BK295.out 0).trans rfl; have hcz42_1 : w41.cell? ⟨gb295, 1, none⟩ = some (.int .u16 a2_1) := (blk_cell BK295.out 1).trans rfl; have hcz42_2 : w41.cell? ⟨gb295, 2, none⟩ = some (.int .u16 a3) := (blk_cell BK295.out 2).trans rfl; have hcz42_3 : w41.cell? ⟨gb295, 3, none⟩ = some (.slice A2_3 l2_3.length c2_3) := (blk_cell BK295.out 3).trans rfl; have hfz42_0 := blk_frozen BK295.out 0; have hfz42_1 := blk_frozen BK295.out 1; have hfz42_2 := blk_frozen BK295.out 2; have hfz42_3 := blk_frozen BK295.out 3) | (go_at_call 22; (with_reducible refine (udp_Right.calls kj11 a0 a1 a2_0 a2_1 a3 _ _ l2_3 t297 _ ?side1 ?side2 A32.out).mono ?_); (case side1 => repeat (first | exact (Kd.C_below HR2_3.out HB.out) | (with_reducible refine Kd.C_alloc ?_ _) | (with_reducible refine Kd.C_drewN ?_ _) | (with_reducible refine Kd.C_drew ?_))); (case side2 => exact HC2_3.out); rintro e w43 ⟨rfl, hb⟩; have n0_ := Aside0.mk (Kd.R_below (by (with_reducible repeat (first | apply Kd.R_alloc | apply Kd.R_drewN | apply Kd.R_drew)); exact HO293.out) hb); have n1_ := Aside0.mk (blk_below (g := gb285) (o := .cells #[.int .u16 a2_0, .int .u16 a2_1, .int .u16 t287, .slice A2_3 l2_3.length c2_3] 26 (0, 0)) (by (with_reducible repeat (first | refine blk_drewN ?_ _ | refine blk_drew ?_ | refine blk_alloc ?_ _)); exact BK285.out) hb); have n2_ := Aside0.mk (blk_below (g := gb295) (o := .cells #[.int .u16 a2_0, .int .u16 a2_1, .int .u16 a3, .slice A2_3 l2_3.length c2_3] 26 (0, 0)) (by (with_reducible repeat (first | refine blk_drewN ?_ _ | refine blk_drew ?_ | refine blk_alloc ?_ _)); exact BK295.out) hb); have n3_ := Aside0.mk (below_step (by repeat (first | (with_reducible first | exact HB.out | apply below_alloc | apply pw_below_drewN | apply below_drew1 | refine below_set ?_ GE285.out | refine below_set ?_ GE295.out) | exact HB.out)) hb); clear HO293; clear BK285; clear BK295; clear HB; have HO293 := n0_; have BK285 := n1_; have BK295 := n2_; have HB := n3_; clear n0_ n1_ n2_ n3_; (try clear hb); (try clear hb2); (try clear hk); (try clear hi)))
                  go_ret
                  exact ⟨by first | rfl | (simp [errW_none, errW_some] <;> rfl) | (simp [*, errW_none, errW_some] <;> rfl), by repeat (first | (with_reducible first | exact HB.out | apply below_alloc | apply pw_below_drewN | apply below_drew1 | refine below_set ?_ GE285.out | refine below_set ?_ GE295.out) | exact HB.out)⟩
                · rw [if_neg c33] at H
                  have c33b0 : (a3 == t287) = false := beq_eq_false_iff_ne.mpr c33
                  have c33b1 : (a3 != t287) = true := bne_iff_ne.mpr c33
                  obtain rfl := Option.some.inj H
                  have hcz44_0 : wc.cell? ⟨gb285, 0, none⟩ = some (.int .u16 a2_0) := (blk_cell BK285.out 0).trans rfl
                  have hcz44_1 : wc.cell? ⟨gb285, 1, none⟩ = some (.int .u16 a2_1) := (blk_cell BK285.out 1).trans rfl
                  have hcz44_2 : wc.cell? ⟨gb285, 2, none⟩ = some (.int .u16 a2_2) := (blk_cell BK285.out 2).trans rfl
                  have hcz44_3 : wc.cell? ⟨gb285, 3, none⟩ = some (.slice A2_3 l2_3.length c2_3) := (blk_cell BK285.out 3).trans rfl
                  have hfz44_0 := blk_frozen BK285.out 0
                  have hfz44_1 := blk_frozen BK285.out 1
                  have hfz44_2 := blk_frozen BK285.out 2
                  have hfz44_3 := blk_frozen BK285.out 3
                  go_wp2_with (first | ((with_reducible refine gate_callee (f := 18) rfl ?_); refine goesL_ (some 42) rfl rfl Try.func18 (by kernel_rfl) rfl #[.agg #[.int .u16 a2_0, .int .u16 a2_1, .int .u16 a2_2, .slice A2_3 l2_3.length c2_3]] rfl (by (try simp only [List.map_toArray, List.map_cons, List.map_nil]); first | done | rfl | (simp only [List.length_drop, List.length_take]; rfl) | (go_simp; done) | (simp [Act.eval, IntKind.signed]; done) | (simp [Act.eval, IntKind.signed]; rfl)) ?_; (with_reducible refine (lychref1_UdpBytes.calls a2_0 a2_1 a2_2 _ _ l2_3 t291 t294 _ ?side1 ?side2 A28.out).mono ?_); (case side1 => repeat (first | exact (Kd.C_below HR2_3.out HB.out) | (with_reducible refine Kd.C_alloc ?_ _) | (with_reducible refine Kd.C_drewN ?_ _) | (with_reducible refine Kd.C_drew ?_))); (case side2 => exact HC2_3.out); rintro e w45 ⟨v292, rfl, ho0, hb⟩; refine ⟨_, rfl, ?_⟩; have n0_ := Aside0.mk (Kd.R_lower ho0 (below_size (by repeat (first | (with_reducible first | exact HB.out | apply below_alloc | apply pw_below_drewN | apply below_drew1 | refine below_set ?_ GE285.out) | exact HB.out)))); have n1_ := Aside0.mk (blk_below (g := gb285) (o := .cells #[.int .u16 a2_0, .int .u16 a2_1, .int .u16 a2_2, .slice A2_3 l2_3.length c2_3] 26 (0, 0)) (by (with_reducible repeat (first | refine blk_drewN ?_ _ | refine blk_drew ?_ | refine blk_alloc ?_ _)); exact BK285.out) hb); have n2_ := Aside0.mk (below_step (by repeat (first | (with_reducible first | exact HB.out | apply below_alloc | apply pw_below_drewN | apply below_drew1 | refine below_set ?_ GE285.out) | exact HB.out)) hb); clear BK285; clear HB; have HO293 := n0_; have BK285 := n1_; have HB := n2_; clear n0_ n1_ n2_; (try clear hb); (try clear hb2); (try clear hk); (try clear hi); (try clear ho0); have hcz46_0 : w45.cell? ⟨gb285, 0, none⟩ = some (.int .u16 a2_0) := (blk_cell BK285.out 0).trans rfl; have hcz46_1 : w45.cell? ⟨gb285, 1, none⟩ = some (.int .u16 a2_1) := (blk_cell BK285.out 1).trans rfl; have hcz46_2 : w45.cell? ⟨gb285, 2, none⟩ = some (.int .u16 a2_2) := (blk_cell BK285.out 2).trans rfl; have hcz46_3 : w45.cell? ⟨gb285, 3, none⟩ = some (.slice A2_3 l2_3.length c2_3) := (blk_cell BK285.out 3).trans rfl; have hfz46_0 := blk_frozen BK285.out 0; have hfz46_1 := blk_frozen BK285.out 1; have hfz46_2 := blk_frozen BK285.out 2; have hfz46_3 := blk_frozen BK285.out 3) | ((with_reducible refine gate_dst (N := 12) rfl ?_); refine box_event ?hg (N := 12) ?hd (cs := #[.int .u16 0, .int .u16 0, .int .u16 0, .slice none 0 0]) (t := 26) ?hr ?_; (case hd => rfl); (case hg => rfl); (case hr => first | (go_simp; done) | (go_simp; rfl)); intro gb295 hg w47 hbox hb; have n0_ := Aside0.mk (Kd.R_below (by (with_reducible repeat (first | apply Kd.R_alloc | apply Kd.R_drewN | apply Kd.R_drew)); exact (Kd.R_mono (Kd.R_far (p := ⟨gb285, 2, none⟩) (Kd.R_types HO293.out BK285.out (by decide)) (fun _ hk => hk.2) (.int .u16 t287)) (fun _ h_ => h_.1))) hb); have n1_ := Aside0.mk (blk_below (g := gb285) (o := .cells #[.int .u16 a2_0, .int .u16 a2_1, .int .u16 t287, .slice A2_3 l2_3.length c2_3] 26 (0, 0)) (by (with_reducible repeat (first | refine blk_drewN ?_ _ | refine blk_drew ?_ | refine blk_alloc ?_ _)); refine blk_put (cs := #[.int .u16 a2_0, .int .u16 a2_1, .int .u16 a2_2, .slice A2_3 l2_3.length c2_3]) ?_ 2 _ rfl; (with_reducible repeat (first | refine blk_drewN ?_ _ | refine blk_drew ?_ | refine blk_alloc ?_ _)); exact BK285.out) hb); have n2_ := Aside0.mk (below_step (by repeat (first | (with_reducible first | exact HB.out | apply below_alloc | apply pw_below_drewN | apply below_drew1 | refine below_set ?_ GE285.out) | exact HB.out)) hb); have n3_ := Aside0.mk (hbox); have n4_ := Aside0.mk ((by rw [hg]; exact (below_size (by repeat (first | (with_reducible first | exact HB.out | apply below_alloc | apply pw_below_drewN | apply below_drew1 | refine below_set ?_ GE285.out) | exact HB.out))) : w.heap.size ≤ gb295)); have n5_ := Aside0.mk ((by rw [hg]; exact (below_size (by repeat (first | (with_reducible first | exact HB.out | apply below_alloc | apply pw_below_drewN | apply below_drew1 | refine below_set ?_ GE285.out) | exact HB.out))) : w.heap.size ≤ gb295)); have n6_ := Aside0.mk ((by rw [hg]; exact Nat.ne_of_lt (blk_lt (g := gb285) (o := .cells #[.int .u16 a2_0, .int .u16 a2_1, .int .u16 t287, .slice A2_3 l2_3.length c2_3] 26 (0, 0)) (by (with_reducible repeat (first | refine blk_drewN ?_ _ | refine blk_drew ?_ | refine blk_alloc ?_ _)); refine blk_put (cs := #[.int .u16 a2_0, .int .u16 a2_1, .int .u16 a2_2, .slice A2_3 l2_3.length c2_3]) ?_ 2 _ rfl; (with_reducible repeat (first | refine blk_drewN ?_ _ | refine blk_drew ?_ | refine blk_alloc ?_ _)); exact BK285.out)) : gb285 ≠ gb295)); have n7_ := Aside0.mk ((by rw [hg]; exact Nat.ne_of_gt (blk_lt (g := gb285) (o := .cells #[.int .u16 a2_0, .int .u16 a2_1, .int .u16 t287, .slice A2_3 l2_3.length c2_3] 26 (0, 0)) (by (with_reducible repeat (first | refine blk_drewN ?_ _ | refine blk_drew ?_ | refine blk_alloc ?_ _)); refine blk_put (cs := #[.int .u16 a2_0, .int .u16 a2_1, .int .u16 a2_2, .slice A2_3 l2_3.length c2_3]) ?_ 2 _ rfl; (with_reducible repeat (first | refine blk_drewN ?_ _ | refine blk_drew ?_ | refine blk_alloc ?_ _)); exact BK285.out)) : gb295 ≠ gb285)); clear HO293; clear BK285; clear HB; have HO293 := n0_; have BK285 := n1_; have HB := n2_; have BK295 := n3_; have GW295 := n4_; have GE295 := n5_; have NB285_295 := n6_; have NB295_285 := n7_; clear n0_ n1_ n2_ n3_ n4_ n5_ n6_ n7_; clear hb hbox hg; have hnb48 := NB295_285.out; have hnc48 := NB285_295.out; have hcz49_0 : w47.cell? ⟨gb295, 0, none⟩ = some (.int .u16 0) := (blk_cell BK295.out 0).trans rfl; have hcz49_1 : w47.cell? ⟨gb295, 1, none⟩ = some (.int .u16 0) := (blk_cell BK295.out 1).trans rfl; have hcz49_2 : w47.cell? ⟨gb295, 2, none⟩ = some (.int .u16 0) := (blk_cell BK295.out 2).trans rfl; have hcz49_3 : w47.cell? ⟨gb295, 3, none⟩ = some (.slice none 0 0) := (blk_cell BK295.out 3).trans rfl; have hfz49_0 := blk_frozen BK295.out 0; have hfz49_1 := blk_frozen BK295.out 1; have hfz49_2 := blk_frozen BK295.out 2; have hfz49_3 := blk_frozen BK295.out 3; have hcz50_0 : w47.cell? ⟨gb285, 0, none⟩ = some (.int .u16 a2_0) := (blk_cell BK285.out 0).trans rfl; have hcz50_1 : w47.cell? ⟨gb285, 1, none⟩ = some (.int .u16 a2_1) := (blk_cell BK285.out 1).trans rfl; have hcz50_2 : w47.cell? ⟨gb285, 2, none⟩ = some (.int .u16 t287) := (blk_cell BK285.out 2).trans rfl; have hcz50_3 : w47.cell? ⟨gb285, 3, none⟩ = some (.slice A2_3 l2_3.length c2_3) := (blk_cell BK285.out 3).trans rfl; have hfz50_0 := blk_frozen BK285.out 0; have hfz50_1 := blk_frozen BK285.out 1; have hfz50_2 := blk_frozen BK285.out 2; have hfz50_3 := blk_frozen BK285.out 3) | ((with_reducible refine gate_callee (f := 22) rfl ?_); refine goesL_ (some 57) rfl rfl Try.func22 (by kernel_rfl) rfl #[.int .u32 a0, .int .u32 a1, .agg #[.int .u16 a2_0, .int .u16 a2_1, .int .u16 t287, .slice A2_3 l2_3.length c2_3]] rfl (by (try simp only [List.map_toArray, List.map_cons, List.map_nil]); first | done | rfl | (simp only [List.length_drop, List.length_take]; rfl) | (go_simp; done) | (simp [Act.eval, IntKind.signed]; done) | (simp [Act.eval, IntKind.signed]; rfl)) ?_; (with_reducible refine (udp_Right.calls kj11 a0 a1 a2_0 a2_1 t287 _ _ l2_3 true _ ?side1 ?side2 A30.out).mono ?_); (case side1 => exact Kd.C_below HR2_3.out (by repeat (first | (with_reducible first | exact HB.out | apply below_alloc | apply pw_below_drewN | apply below_drew1 | refine below_set ?_ GE285.out | refine below_set ?_ GE295.out) | exact HB.out))); (case side2 => exact HC2_3.out); rintro e w51 ⟨rfl, hb⟩; refine ⟨_, rfl, ?_⟩; have n0_ := Aside0.mk (Kd.R_below (by (with_reducible repeat (first | apply Kd.R_alloc | apply Kd.R_drewN | apply Kd.R_drew)); exact (Kd.R_mono (Kd.R_far (p := ⟨gb295, 2, none⟩) (Kd.R_far (p := ⟨gb295, 3, none⟩) (Kd.R_far (p := ⟨gb295, 2, none⟩) (Kd.R_far (p := ⟨gb295, 1, none⟩) (Kd.R_far (p := ⟨gb295, 0, none⟩) (Kd.R_types HO293.out BK295.out (by decide)) (fun _ hk => hk.2) (.int .u16 a2_0)) (fun _ hk => hk.2) (.int .u16 a2_1)) (fun _ hk => hk.2) (.int .u16 t287)) (fun _ hk => hk.2) (.slice A2_3 l2_3.length c2_3)) (fun _ hk => hk.2) (.int .u16 a3)) (fun _ h_ => h_.1))) hb); have n1_ := Aside0.mk (blk_below (g := gb285) (o := .cells #[.int .u16 a2_0, .int .u16 a2_1, .int .u16 t287, .slice A2_3 l2_3.length c2_3] 26 (0, 0)) (by (with_reducible repeat (first | refine blk_drewN ?_ _ | refine blk_drew ?_ | refine blk_alloc ?_ _)); refine blk_far ?_ NB285_295.out _; (with_reducible repeat (first | refine blk_drewN ?_ _ | refine blk_drew ?_ | refine blk_alloc ?_ _)); refine blk_far ?_ NB285_295.out _; (with_reducible repeat (first | refine blk_drewN ?_ _ | refine blk_drew ?_ | refine blk_alloc ?_ _)); refine blk_far ?_ NB285_295.out _; (with_reducible repeat (first | refine blk_drewN ?_ _ | refine blk_drew ?_ | refine blk_alloc ?_ _)); refine blk_far ?_ NB285_295.out _; (with_reducible repeat (first | refine blk_drewN ?_ _ | refine blk_drew ?_ | refine blk_alloc ?_ _)); refine blk_far ?_ NB285_295.out _; (with_reducible repeat (first | refine blk_drewN ?_ _ | refine blk_drew ?_ | refine blk_alloc ?_ _)); exact BK285.out) hb); have n2_ := Aside0.mk (blk_below (g := gb295) (o := .cells #[.int .u16 a2_0, .int .u16 a2_1, .int .u16 a3, .slice A2_3 l2_3.length c2_3] 26 (0, 0)) (by (with_reducible repeat (first | refine blk_drewN ?_ _ | refine blk_drew ?_ | refine blk_alloc ?_ _)); refine blk_put (cs := #[.int .u16 a2_0, .int .u16 a2_1, .int .u16 t287, .slice A2_3 l2_3.length c2_3]) ?_ 2 _ rfl; (with_reducible repeat (first | refine blk_drewN ?_ _ | refine blk_drew ?_ | refine blk_alloc ?_ _)); refine blk_put (cs := #[.int .u16 a2_0, .int .u16 a2_1, .int .u16 t287, .slice none 0 0]) ?_ 3 _ rfl; (with_reducible repeat (first | refine blk_drewN ?_ _ | refine blk_drew ?_ | refine blk_alloc ?_ _)); refine blk_put (cs := #[.int .u16 a2_0, .int .u16 a2_1, .int .u16 0, .slice none 0 0]) ?_ 2 _ rfl; (with_reducible repeat (first | refine blk_drewN ?_ _ | refine blk_drew ?_ | refine blk_alloc ?_ _)); refine blk_put (cs := #[.int .u16 a2_0, .int .u16 0, .int .u16 0, .slice none 0 0]) ?_ 1 _ rfl; (with_reducible repeat (first | refine blk_drewN ?_ _ | refine blk_drew ?_ | refine blk_alloc ?_ _)); refine blk_put (cs := #[.int .u16 0, .int .u16 0, .int .u16 0, .slice none 0 0]) ?_ 0 _ rfl; (with_reducible repeat (first | refine blk_drewN ?_ _ | refine blk_drew ?_ | refine blk_alloc ?_ _)); exact BK295.out) hb); have n3_ := Aside0.mk (below_step (by repeat (first | (with_reducible first | exact HB.out | apply below_alloc | apply pw_below_drewN | apply below_drew1 | refine below_set ?_ GE285.out | refine below_set ?_ GE295.out) | exact HB.out)) hb); clear HO293; clear BK285; clear BK295; clear HB; have HO293 := n0_; have BK285 := n1_; have BK295 := n2_; have HB := n3_; clear n0_ n1_ n2_ n3_; (try clear hb); (try clear hb2); (try clear hk); (try clear hi); have hcz52_0 : w51.cell? ⟨gb295, 0, none⟩ = some (.int .u16 a2_0) := (blk_cell BK295.out 0).trans rfl; have hcz52_1 : w51.cell? ⟨gb295, 1, none⟩ = some (.int .u16 a2_1) := (blk_cell BK295.out 1).trans rfl; have hcz52_2 : w51.cell? ⟨gb295, 2, none⟩ = some (.int .u16 a3) := (blk_cell BK295.out 2).trans rfl; have hcz52_3 : w51.cell? ⟨gb295, 3, none⟩ = some (.slice A2_3 l2_3.length c2_3) := (blk_cell BK295.out 3).trans rfl; have hfz52_0 := blk_frozen BK295.out 0; have hfz52_1 := blk_frozen BK295.out 1; have hfz52_2 := blk_frozen BK295.out 2; have hfz52_3 := blk_frozen BK295.out 3) | (go_at_call 22; (with_reducible refine (udp_Right.calls kj11 a0 a1 a2_0 a2_1 a3 _ _ l2_3 t297 _ ?side1 ?side2 A32.out).mono ?_); (case side1 => repeat (first | exact (Kd.C_below HR2_3.out HB.out) | (with_reducible refine Kd.C_alloc ?_ _) | (with_reducible refine Kd.C_drewN ?_ _) | (with_reducible refine Kd.C_drew ?_))); (case side2 => exact HC2_3.out); rintro e w53 ⟨rfl, hb⟩; have n0_ := Aside0.mk (Kd.R_below (by (with_reducible repeat (first | apply Kd.R_alloc | apply Kd.R_drewN | apply Kd.R_drew)); exact HO293.out) hb); have n1_ := Aside0.mk (blk_below (g := gb285) (o := .cells #[.int .u16 a2_0, .int .u16 a2_1, .int .u16 t287, .slice A2_3 l2_3.length c2_3] 26 (0, 0)) (by (with_reducible repeat (first | refine blk_drewN ?_ _ | refine blk_drew ?_ | refine blk_alloc ?_ _)); exact BK285.out) hb); have n2_ := Aside0.mk (blk_below (g := gb295) (o := .cells #[.int .u16 a2_0, .int .u16 a2_1, .int .u16 a3, .slice A2_3 l2_3.length c2_3] 26 (0, 0)) (by (with_reducible repeat (first | refine blk_drewN ?_ _ | refine blk_drew ?_ | refine blk_alloc ?_ _)); exact BK295.out) hb); have n3_ := Aside0.mk (below_step (by repeat (first | (with_reducible first | exact HB.out | apply below_alloc | apply pw_below_drewN | apply below_drew1 | refine below_set ?_ GE285.out | refine below_set ?_ GE295.out) | exact HB.out)) hb); clear HO293; clear BK285; clear BK295; clear HB; have HO293 := n0_; have BK285 := n1_; have BK295 := n2_; have HB := n3_; clear n0_ n1_ n2_ n3_; (try clear hb); (try clear hb2); (try clear hk); (try clear hi)))
                  go_ret
                  exact ⟨by first | rfl | (simp [errW_none, errW_some] <;> rfl) | (simp [*, errW_none, errW_some] <;> rfl), by repeat (first | (with_reducible first | exact HB.out | apply below_alloc | apply pw_below_drewN | apply below_drew1 | refine below_set ?_ GE285.out | refine below_set ?_ GE295.out) | exact HB.out)⟩
              · replace c31 := Bool.eq_false_iff.mpr c31
                subst c31
                have H1 : (some false) = some r := by rw [if_neg (show ¬ (false = true) by decide)] at H; exact H
                clear H
                have H := H1
                clear H1
                obtain rfl := Option.some.inj H
                have hcz54_0 : wc.cell? ⟨gb285, 0, none⟩ = some (.int .u16 a2_0) := (blk_cell BK285.out 0).trans rfl
                have hcz54_1 : wc.cell? ⟨gb285, 1, none⟩ = some (.int .u16 a2_1) := (blk_cell BK285.out 1).trans rfl
                have hcz54_2 : wc.cell? ⟨gb285, 2, none⟩ = some (.int .u16 a2_2) := (blk_cell BK285.out 2).trans rfl
                have hcz54_3 : wc.cell? ⟨gb285, 3, none⟩ = some (.slice A2_3 l2_3.length c2_3) := (blk_cell BK285.out 3).trans rfl
                have hfz54_0 := blk_frozen BK285.out 0
                have hfz54_1 := blk_frozen BK285.out 1
                have hfz54_2 := blk_frozen BK285.out 2
                have hfz54_3 := blk_frozen BK285.out 3
                go_wp2_with (first | ((with_reducible refine gate_callee (f := 18) rfl ?_); refine goesL_ (some 42) rfl rfl Try.func18 (by kernel_rfl) rfl #[.agg #[.int .u16 a2_0, .int .u16 a2_1, .int .u16 a2_2, .slice A2_3 l2_3.length c2_3]] rfl (by (try simp only [List.map_toArray, List.map_cons, List.map_nil]); first | done | rfl | (simp only [List.length_drop, List.length_take]; rfl) | (go_simp; done) | (simp [Act.eval, IntKind.signed]; done) | (simp [Act.eval, IntKind.signed]; rfl)) ?_; (with_reducible refine (lychref1_UdpBytes.calls a2_0 a2_1 a2_2 _ _ l2_3 t291 t294 _ ?side1 ?side2 A28.out).mono ?_); (case side1 => repeat (first | exact (Kd.C_below HR2_3.out HB.out) | (with_reducible refine Kd.C_alloc ?_ _) | (with_reducible refine Kd.C_drewN ?_ _) | (with_reducible refine Kd.C_drew ?_))); (case side2 => exact HC2_3.out); rintro e w55 ⟨v292, rfl, ho0, hb⟩; refine ⟨_, rfl, ?_⟩; have n0_ := Aside0.mk (Kd.R_lower ho0 (below_size (by repeat (first | (with_reducible first | exact HB.out | apply below_alloc | apply pw_below_drewN | apply below_drew1 | refine below_set ?_ GE285.out) | exact HB.out)))); have n1_ := Aside0.mk (blk_below (g := gb285) (o := .cells #[.int .u16 a2_0, .int .u16 a2_1, .int .u16 a2_2, .slice A2_3 l2_3.length c2_3] 26 (0, 0)) (by (with_reducible repeat (first | refine blk_drewN ?_ _ | refine blk_drew ?_ | refine blk_alloc ?_ _)); exact BK285.out) hb); have n2_ := Aside0.mk (below_step (by repeat (first | (with_reducible first | exact HB.out | apply below_alloc | apply pw_below_drewN | apply below_drew1 | refine below_set ?_ GE285.out) | exact HB.out)) hb); clear BK285; clear HB; have HO293 := n0_; have BK285 := n1_; have HB := n2_; clear n0_ n1_ n2_; (try clear hb); (try clear hb2); (try clear hk); (try clear hi); (try clear ho0); have hcz56_0 : w55.cell? ⟨gb285, 0, none⟩ = some (.int .u16 a2_0) := (blk_cell BK285.out 0).trans rfl; have hcz56_1 : w55.cell? ⟨gb285, 1, none⟩ = some (.int .u16 a2_1) := (blk_cell BK285.out 1).trans rfl; have hcz56_2 : w55.cell? ⟨gb285, 2, none⟩ = some (.int .u16 a2_2) := (blk_cell BK285.out 2).trans rfl; have hcz56_3 : w55.cell? ⟨gb285, 3, none⟩ = some (.slice A2_3 l2_3.length c2_3) := (blk_cell BK285.out 3).trans rfl; have hfz56_0 := blk_frozen BK285.out 0; have hfz56_1 := blk_frozen BK285.out 1; have hfz56_2 := blk_frozen BK285.out 2; have hfz56_3 := blk_frozen BK285.out 3) | ((with_reducible refine gate_dst (N := 12) rfl ?_); refine box_event ?hg (N := 12) ?hd (cs := #[.int .u16 0, .int .u16 0, .int .u16 0, .slice none 0 0]) (t := 26) ?hr ?_; (case hd => rfl); (case hg => rfl); (case hr => first | (go_simp; done) | (go_simp; rfl)); intro gb295 hg w57 hbox hb; have n0_ := Aside0.mk (Kd.R_below (by (with_reducible repeat (first | apply Kd.R_alloc | apply Kd.R_drewN | apply Kd.R_drew)); exact (Kd.R_mono (Kd.R_far (p := ⟨gb285, 2, none⟩) (Kd.R_types HO293.out BK285.out (by decide)) (fun _ hk => hk.2) (.int .u16 t287)) (fun _ h_ => h_.1))) hb); have n1_ := Aside0.mk (blk_below (g := gb285) (o := .cells #[.int .u16 a2_0, .int .u16 a2_1, .int .u16 t287, .slice A2_3 l2_3.length c2_3] 26 (0, 0)) (by (with_reducible repeat (first | refine blk_drewN ?_ _ | refine blk_drew ?_ | refine blk_alloc ?_ _)); refine blk_put (cs := #[.int .u16 a2_0, .int .u16 a2_1, .int .u16 a2_2, .slice A2_3 l2_3.length c2_3]) ?_ 2 _ rfl; (with_reducible repeat (first | refine blk_drewN ?_ _ | refine blk_drew ?_ | refine blk_alloc ?_ _)); exact BK285.out) hb); have n2_ := Aside0.mk (below_step (by repeat (first | (with_reducible first | exact HB.out | apply below_alloc | apply pw_below_drewN | apply below_drew1 | refine below_set ?_ GE285.out) | exact HB.out)) hb); have n3_ := Aside0.mk (hbox); have n4_ := Aside0.mk ((by rw [hg]; exact (below_size (by repeat (first | (with_reducible first | exact HB.out | apply below_alloc | apply pw_below_drewN | apply below_drew1 | refine below_set ?_ GE285.out) | exact HB.out))) : w.heap.size ≤ gb295)); have n5_ := Aside0.mk ((by rw [hg]; exact (below_size (by repeat (first | (with_reducible first | exact HB.out | apply below_alloc | apply pw_below_drewN | apply below_drew1 | refine below_set ?_ GE285.out) | exact HB.out))) : w.heap.size ≤ gb295)); have n6_ := Aside0.mk ((by rw [hg]; exact Nat.ne_of_lt (blk_lt (g := gb285) (o := .cells #[.int .u16 a2_0, .int .u16 a2_1, .int .u16 t287, .slice A2_3 l2_3.length c2_3] 26 (0, 0)) (by (with_reducible repeat (first | refine blk_drewN ?_ _ | refine blk_drew ?_ | refine blk_alloc ?_ _)); refine blk_put (cs := #[.int .u16 a2_0, .int .u16 a2_1, .int .u16 a2_2, .slice A2_3 l2_3.length c2_3]) ?_ 2 _ rfl; (with_reducible repeat (first | refine blk_drewN ?_ _ | refine blk_drew ?_ | refine blk_alloc ?_ _)); exact BK285.out)) : gb285 ≠ gb295)); have n7_ := Aside0.mk ((by rw [hg]; exact Nat.ne_of_gt (blk_lt (g := gb285) (o := .cells #[.int .u16 a2_0, .int .u16 a2_1, .int .u16 t287, .slice A2_3 l2_3.length c2_3] 26 (0, 0)) (by (with_reducible repeat (first | refine blk_drewN ?_ _ | refine blk_drew ?_ | refine blk_alloc ?_ _)); refine blk_put (cs := #[.int .u16 a2_0, .int .u16 a2_1, .int .u16 a2_2, .slice A2_3 l2_3.length c2_3]) ?_ 2 _ rfl; (with_reducible repeat (first | refine blk_drewN ?_ _ | refine blk_drew ?_ | refine blk_alloc ?_ _)); exact BK285.out)) : gb295 ≠ gb285)); clear HO293; clear BK285; clear HB; have HO293 := n0_; have BK285 := n1_; have HB := n2_; have BK295 := n3_; have GW295 := n4_; have GE295 := n5_; have NB285_295 := n6_; have NB295_285 := n7_; clear n0_ n1_ n2_ n3_ n4_ n5_ n6_ n7_; clear hb hbox hg; have hnb58 := NB295_285.out; have hnc58 := NB285_295.out; have hcz59_0 : w57.cell? ⟨gb295, 0, none⟩ = some (.int .u16 0) := (blk_cell BK295.out 0).trans rfl; have hcz59_1 : w57.cell? ⟨gb295, 1, none⟩ = some (.int .u16 0) := (blk_cell BK295.out 1).trans rfl; have hcz59_2 : w57.cell? ⟨gb295, 2, none⟩ = some (.int .u16 0) := (blk_cell BK295.out 2).trans rfl; have hcz59_3 : w57.cell? ⟨gb295, 3, none⟩ = some (.slice none 0 0) := (blk_cell BK295.out 3).trans rfl; have hfz59_0 := blk_frozen BK295.out 0; have hfz59_1 := blk_frozen BK295.out 1; have hfz59_2 := blk_frozen BK295.out 2; have hfz59_3 := blk_frozen BK295.out 3; have hcz60_0 : w57.cell? ⟨gb285, 0, none⟩ = some (.int .u16 a2_0) := (blk_cell BK285.out 0).trans rfl; have hcz60_1 : w57.cell? ⟨gb285, 1, none⟩ = some (.int .u16 a2_1) := (blk_cell BK285.out 1).trans rfl; have hcz60_2 : w57.cell? ⟨gb285, 2, none⟩ = some (.int .u16 t287) := (blk_cell BK285.out 2).trans rfl; have hcz60_3 : w57.cell? ⟨gb285, 3, none⟩ = some (.slice A2_3 l2_3.length c2_3) := (blk_cell BK285.out 3).trans rfl; have hfz60_0 := blk_frozen BK285.out 0; have hfz60_1 := blk_frozen BK285.out 1; have hfz60_2 := blk_frozen BK285.out 2; have hfz60_3 := blk_frozen BK285.out 3) | ((with_reducible refine gate_callee (f := 22) rfl ?_); refine goesL_ (some 57) rfl rfl Try.func22 (by kernel_rfl) rfl #[.int .u32 a0, .int .u32 a1, .agg #[.int .u16 a2_0, .int .u16 a2_1, .int .u16 t287, .slice A2_3 l2_3.length c2_3]] rfl (by (try simp only [List.map_toArray, List.map_cons, List.map_nil]); first | done | rfl | (simp only [List.length_drop, List.length_take]; rfl) | (go_simp; done) | (simp [Act.eval, IntKind.signed]; done) | (simp [Act.eval, IntKind.signed]; rfl)) ?_; (with_reducible refine (udp_Right.calls kj11 a0 a1 a2_0 a2_1 t287 _ _ l2_3 false _ ?side1 ?side2 A30.out).mono ?_); (case side1 => exact Kd.C_below HR2_3.out (by repeat (first | (with_reducible first | exact HB.out | apply below_alloc | apply pw_below_drewN | apply below_drew1 | refine below_set ?_ GE285.out | refine below_set ?_ GE295.out) | exact HB.out))); (case side2 => exact HC2_3.out); rintro e w61 ⟨rfl, hb⟩; refine ⟨_, rfl, ?_⟩; have n0_ := Aside0.mk (Kd.R_below (by (with_reducible repeat (first | apply Kd.R_alloc | apply Kd.R_drewN | apply Kd.R_drew)); exact (Kd.R_mono (Kd.R_far (p := ⟨gb295, 2, none⟩) (Kd.R_far (p := ⟨gb295, 3, none⟩) (Kd.R_far (p := ⟨gb295, 2, none⟩) (Kd.R_far (p := ⟨gb295, 1, none⟩) (Kd.R_far (p := ⟨gb295, 0, none⟩) (Kd.R_types HO293.out BK295.out (by decide)) (fun _ hk => hk.2) (.int .u16 a2_0)) (fun _ hk => hk.2) (.int .u16 a2_1)) (fun _ hk => hk.2) (.int .u16 t287)) (fun _ hk => hk.2) (.slice A2_3 l2_3.length c2_3)) (fun _ hk => hk.2) (.int .u16 a3)) (fun _ h_ => h_.1))) hb); have n1_ := Aside0.mk (blk_below (g := gb285) (o := .cells #[.int .u16 a2_0, .int .u16 a2_1, .int .u16 t287, .slice A2_3 l2_3.length c2_3] 26 (0, 0)) (by (with_reducible repeat (first | refine blk_drewN ?_ _ | refine blk_drew ?_ | refine blk_alloc ?_ _)); refine blk_far ?_ NB285_295.out _; (with_reducible repeat (first | refine blk_drewN ?_ _ | refine blk_drew ?_ | refine blk_alloc ?_ _)); refine blk_far ?_ NB285_295.out _; (with_reducible repeat (first | refine blk_drewN ?_ _ | refine blk_drew ?_ | refine blk_alloc ?_ _)); refine blk_far ?_ NB285_295.out _; (with_reducible repeat (first | refine blk_drewN ?_ _ | refine blk_drew ?_ | refine blk_alloc ?_ _)); refine blk_far ?_ NB285_295.out _; (with_reducible repeat (first | refine blk_drewN ?_ _ | refine blk_drew ?_ | refine blk_alloc ?_ _)); refine blk_far ?_ NB285_295.out _; (with_reducible repeat (first | refine blk_drewN ?_ _ | refine blk_drew ?_ | refine blk_alloc ?_ _)); exact BK285.out) hb); have n2_ := Aside0.mk (blk_below (g := gb295) (o := .cells #[.int .u16 a2_0, .int .u16 a2_1, .int .u16 a3, .slice A2_3 l2_3.length c2_3] 26 (0, 0)) (by (with_reducible repeat (first | refine blk_drewN ?_ _ | refine blk_drew ?_ | refine blk_alloc ?_ _)); refine blk_put (cs := #[.int .u16 a2_0, .int .u16 a2_1, .int .u16 t287, .slice A2_3 l2_3.length c2_3]) ?_ 2 _ rfl; (with_reducible repeat (first | refine blk_drewN ?_ _ | refine blk_drew ?_ | refine blk_alloc ?_ _)); refine blk_put (cs := #[.int .u16 a2_0, .int .u16 a2_1, .int .u16 t287, .slice none 0 0]) ?_ 3 _ rfl; (with_reducible repeat (first | refine blk_drewN ?_ _ | refine blk_drew ?_ | refine blk_alloc ?_ _)); refine blk_put (cs := #[.int .u16 a2_0, .int .u16 a2_1, .int .u16 0, .slice none 0 0]) ?_ 2 _ rfl; (with_reducible repeat (first | refine blk_drewN ?_ _ | refine blk_drew ?_ | refine blk_alloc ?_ _)); refine blk_put (cs := #[.int .u16 a2_0, .int .u16 0, .int .u16 0, .slice none 0 0]) ?_ 1 _ rfl; (with_reducible repeat (first | refine blk_drewN ?_ _ | refine blk_drew ?_ | refine blk_alloc ?_ _)); refine blk_put (cs := #[.int .u16 0, .int .u16 0, .int .u16 0, .slice none 0 0]) ?_ 0 _ rfl; (with_reducible repeat (first | refine blk_drewN ?_ _ | refine blk_drew ?_ | refine blk_alloc ?_ _)); exact BK295.out) hb); have n3_ := Aside0.mk (below_step (by repeat (first | (with_reducible first | exact HB.out | apply below_alloc | apply pw_below_drewN | apply below_drew1 | refine below_set ?_ GE285.out | refine below_set ?_ GE295.out) | exact HB.out)) hb); clear HO293; clear BK285; clear BK295; clear HB; have HO293 := n0_; have BK285 := n1_; have BK295 := n2_; have HB := n3_; clear n0_ n1_ n2_ n3_; (try clear hb); (try clear hb2); (try clear hk); (try clear hi)))
                go_ret
                exact ⟨by first | rfl | (simp [errW_none, errW_some] <;> rfl) | (simp [*, errW_none, errW_some] <;> rfl), by repeat (first | (with_reducible first | exact HB.out | apply below_alloc | apply pw_below_drewN | apply below_drew1 | refine below_set ?_ GE285.out | refine below_set ?_ GE295.out) | exact HB.out)⟩
            · rw [if_neg c29] at H
              have c29b0 : (t294 == 0) = false := beq_eq_false_iff_ne.mpr c29
              have c29b1 : (t294 != 0) = true := bne_iff_ne.mpr c29
              obtain rfl := Option.some.inj H
              have hcz62_0 : wc.cell? ⟨gb285, 0, none⟩ = some (.int .u16 a2_0) := (blk_cell BK285.out 0).trans rfl
              have hcz62_1 : wc.cell? ⟨gb285, 1, none⟩ = some (.int .u16 a2_1) := (blk_cell BK285.out 1).trans rfl
              have hcz62_2 : wc.cell? ⟨gb285, 2, none⟩ = some (.int .u16 a2_2) := (blk_cell BK285.out 2).trans rfl
              have hcz62_3 : wc.cell? ⟨gb285, 3, none⟩ = some (.slice A2_3 l2_3.length c2_3) := (blk_cell BK285.out 3).trans rfl
              have hfz62_0 := blk_frozen BK285.out 0
              have hfz62_1 := blk_frozen BK285.out 1
              have hfz62_2 := blk_frozen BK285.out 2
              have hfz62_3 := blk_frozen BK285.out 3
              go_wp2_with (first | ((with_reducible refine gate_callee (f := 18) rfl ?_); refine goesL_ (some 42) rfl rfl Try.func18 (by kernel_rfl) rfl #[.agg #[.int .u16 a2_0, .int .u16 a2_1, .int .u16 a2_2, .slice A2_3 l2_3.length c2_3]] rfl (by (try simp only [List.map_toArray, List.map_cons, List.map_nil]); first | done | rfl | (simp only [List.length_drop, List.length_take]; rfl) | (go_simp; done) | (simp [Act.eval, IntKind.signed]; done) | (simp [Act.eval, IntKind.signed]; rfl)) ?_; (with_reducible refine (lychref1_UdpBytes.calls a2_0 a2_1 a2_2 _ _ l2_3 t291 t294 _ ?side1 ?side2 A28.out).mono ?_); (case side1 => repeat (first | exact (Kd.C_below HR2_3.out HB.out) | (with_reducible refine Kd.C_alloc ?_ _) | (with_reducible refine Kd.C_drewN ?_ _) | (with_reducible refine Kd.C_drew ?_))); (case side2 => exact HC2_3.out); rintro e w63 ⟨v292, rfl, ho0, hb⟩; refine ⟨_, rfl, ?_⟩; have n0_ := Aside0.mk (Kd.R_lower ho0 (below_size (by repeat (first | (with_reducible first | exact HB.out | apply below_alloc | apply pw_below_drewN | apply below_drew1 | refine below_set ?_ GE285.out) | exact HB.out)))); have n1_ := Aside0.mk (blk_below (g := gb285) (o := .cells #[.int .u16 a2_0, .int .u16 a2_1, .int .u16 a2_2, .slice A2_3 l2_3.length c2_3] 26 (0, 0)) (by (with_reducible repeat (first | refine blk_drewN ?_ _ | refine blk_drew ?_ | refine blk_alloc ?_ _)); exact BK285.out) hb); have n2_ := Aside0.mk (below_step (by repeat (first | (with_reducible first | exact HB.out | apply below_alloc | apply pw_below_drewN | apply below_drew1 | refine below_set ?_ GE285.out) | exact HB.out)) hb); clear BK285; clear HB; have HO293 := n0_; have BK285 := n1_; have HB := n2_; clear n0_ n1_ n2_; (try clear hb); (try clear hb2); (try clear hk); (try clear hi); (try clear ho0)))
              go_ret
              exact ⟨by first | rfl | (simp [errW_none, errW_some] <;> rfl) | (simp [*, errW_none, errW_some] <;> rfl), by repeat (first | (with_reducible first | exact HB.out | apply below_alloc | apply pw_below_drewN | apply below_drew1 | refine below_set ?_ GE285.out) | exact HB.out)⟩
  · replace c6 := Bool.eq_false_iff.mpr c6
    subst c6
    have H1 : (some false) = some r := by rw [if_neg (show ¬ (false = true) by decide)] at H; exact H
    clear H
    have H := H1
    clear H1
    obtain rfl := Option.some.inj H
    go_enter Try.func5, Try.ntmps5
    go_wp2_with (first | ((with_reducible refine gate_dst (N := 6) rfl ?_); refine box_event ?hg (N := 6) ?hd (cs := #[.int .u16 a2_0, .int .u16 a2_1, .int .u16 a2_2, .slice A2_3 l2_3.length c2_3]) (t := 26) ?hr ?_; (case hd => rfl); (case hg => rfl); (case hr => first | (go_simp; done) | (go_simp; rfl)); intro gb285 hg w64 hbox hb; have n0_ := Aside0.mk (below_step (by repeat (first | (with_reducible first | exact HB.out | apply below_alloc | apply pw_below_drewN | apply below_drew1) | exact HB.out)) hb); have n1_ := Aside0.mk (hbox); have n2_ := Aside0.mk ((by rw [hg]; exact (below_size (by repeat (first | (with_reducible first | exact HB.out | apply below_alloc | apply pw_below_drewN | apply below_drew1) | exact HB.out))) : w.heap.size ≤ gb285)); have n3_ := Aside0.mk ((by rw [hg]; exact (below_size (by repeat (first | (with_reducible first | exact HB.out | apply below_alloc | apply pw_below_drewN | apply below_drew1) | exact HB.out))) : w.heap.size ≤ gb285)); clear HB; have HB := n0_; have BK285 := n1_; have GW285 := n2_; have GE285 := n3_; clear n0_ n1_ n2_ n3_; clear hb hbox hg) | ((with_reducible refine gate_callee (f := 13) rfl ?_); refine goesL_ (some 13) rfl rfl Try.func13 (by kernel_rfl) rfl #[] rfl (by (try simp only [List.map_toArray, List.map_cons, List.map_nil]); first | done | rfl | (simp only [List.length_drop, List.length_take]; rfl) | (go_simp; done) | (simp [Act.eval, IntKind.signed]; done) | (simp [Act.eval, IntKind.signed]; rfl)) ?_; (with_reducible refine (lychlaw4_known.calls k  false _ A5.out).mono ?_); rintro e w65 ⟨rfl, hb⟩; refine ⟨_, rfl, ?_⟩; have n0_ := Aside0.mk (blk_below (g := gb285) (o := .cells #[.int .u16 a2_0, .int .u16 a2_1, .int .u16 a2_2, .slice A2_3 l2_3.length c2_3] 26 (0, 0)) (by (with_reducible repeat (first | refine blk_drewN ?_ _ | refine blk_drew ?_ | refine blk_alloc ?_ _)); exact BK285.out) hb); have n1_ := Aside0.mk (below_step (by repeat (first | (with_reducible first | exact HB.out | apply below_alloc | apply pw_below_drewN | apply below_drew1 | refine below_set ?_ GE285.out) | exact HB.out)) hb); clear BK285; clear HB; have BK285 := n0_; have HB := n1_; clear n0_ n1_; (try clear hb); (try clear hb2); (try clear hk); (try clear hi)))
    go_ret
    exact ⟨by first | rfl | (simp [errW_none, errW_some] <;> rfl) | (simp [*, errW_none, errW_some] <;> rfl), by repeat (first | (with_reducible first | exact HB.out | apply below_alloc | apply pw_below_drewN | apply below_drew1 | refine below_set ?_ GE285.out) | exact HB.out)⟩

end Go.Proofs.Ytnodigdpodiphaa.PA
