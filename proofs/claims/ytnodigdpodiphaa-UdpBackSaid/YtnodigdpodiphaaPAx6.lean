-- written by a patched print
import Derived.Test.YtnodigdpodiphaaPAx0
import Derived.Test.YtnodigdpodiphaaPAx1
import Derived.Test.YtnodigdpodiphaaPAx2
import Derived.Test.YtnodigdpodiphaaPAx3
import Derived.Test.YtnodigdpodiphaaPAx5
namespace Go.Proofs.Ytnodigdpodiphaa.PA
open Go.RowKit Go.Proofs.YtnodigdpodiphaaW.PrintWords Go.Proofs.YtnodigdpodiphaaW.PrintLast Go.Proofs.YtnodigdpodiphaaW.PrintMore
attribute [local go_sem] max2_int min2_int max_two min_two max_three min_three max_four min_four   -- for this text's walks alone
set_option linter.unusedVariables false
set_option linter.unusedSimpArgs false

/-! ### lychlaw4_UdpBack: function 4 -/
def lychlaw4_UdpBack.j0 : Nat → List Int → Int → Int → Bool → Int → Int → Int → List Int → Option (Bool)
  | 0, _, _, _, _, _, _, _, _ => none
  | k + 1, x3, x4, x6, x37, x237000, x237001, x237002, x237003 => if x37 = true then (if x4 = x6 then (if x6 = 0 then (some false) else (some ((x3.length : Int) == 0))) else (some false)) else ((udp_Parse.f x3).bind fun bt247 => (if bt247.2.2.2.2 = 0 then ((lychhelp_Udp.f bt247.1 bt247.2.1 bt247.2.2.1 bt247.2.2.2.1 x237000 x237001 x237002 x237003).bind fun t255 => (some t255)) else (some false)))
def lychlaw4_UdpBack.f (k : Nat) (a0_0 : Int) (a0_1 : Int) (a0_2 : Int) (l0_3 : List Int) : Option (Bool) := (lychlaw4_known.f k).bind fun t237 => (if t237 = true then (if (l0_3.length : Int) > 3000 then (some true) else ((udp_Bytes.f a0_0 a0_1 a0_2 l0_3).bind fun bt238 => ((lychref1_UdpBytes.f a0_0 a0_1 a0_2 l0_3).bind fun bt242 => (if bt238.2 = bt242.2 then ((lychhelp_Bytes.f bt238.1 bt242.1).bind fun t246 => (if t246 = true then (lychlaw4_UdpBack.j0 k bt238.1 bt238.2 bt242.2 (bt242.2 != 0) a0_0 a0_1 a0_2 l0_3) else (lychlaw4_UdpBack.j0 k bt238.1 bt238.2 bt242.2 true a0_0 a0_1 a0_2 l0_3))) else (lychlaw4_UdpBack.j0 k bt238.1 bt238.2 bt242.2 true a0_0 a0_1 a0_2 l0_3))))) else (some false))
theorem lychlaw4_UdpBack.mono_l : ∀ k, (∀ y0 y1 y2 y3 y4 y5 y6 y7, LeO (lychlaw4_UdpBack.j0 k y0 y1 y2 y3 y4 y5 y6 y7) (lychlaw4_UdpBack.j0 (k + 1) y0 y1 y2 y3 y4 y5 y6 y7))
  | 0 => fun _ _ _ _ _ _ _ _ r h => by simp [lychlaw4_UdpBack.j0] at h
  | k + 1 => by
    have ih0 := lychlaw4_UdpBack.mono_l k
    · intro y0 y1 y2 y3 y4 y5 y6 y7
      unfold lychlaw4_UdpBack.j0
      repeat' first
      | (with_reducible exact ih0 _ _ _ _ _ _ _ _)
      | (with_reducible exact lychlaw4_known.mono _)
      | (with_reducible exact LeO.refl _)
      | (with_reducible exact LeO.none _)
      | (with_reducible refine LeO.ite ?_ ?_)
      | (with_reducible refine LeO.bind ?_ (fun _ => ?_))
      | exact ih0 _ _ _ _ _ _ _ _
      | exact lychlaw4_known.mono _
      | exact LeO.none _
      | refine LeO.ite ?_ ?_
      | refine LeO.bind ?_ (fun _ => ?_)
theorem lychlaw4_UdpBack.mono : ∀ a0 a1 a2 a3 k, LeO (lychlaw4_UdpBack.f k a0 a1 a2 a3) (lychlaw4_UdpBack.f (k + 1) a0 a1 a2 a3) := by
  intro a0 a1 a2 a3 k
  have ih0 := lychlaw4_UdpBack.mono_l k
  unfold lychlaw4_UdpBack.f
  repeat' first
      | (with_reducible exact ih0 _ _ _ _ _ _ _ _)
      | (with_reducible exact lychlaw4_known.mono _)
      | (with_reducible exact LeO.refl _)
      | (with_reducible exact LeO.none _)
      | (with_reducible refine LeO.ite ?_ ?_)
      | (with_reducible refine LeO.bind ?_ (fun _ => ?_))
      | exact ih0 _ _ _ _ _ _ _ _
      | exact lychlaw4_known.mono _
      | exact LeO.none _
      | refine LeO.ite ?_ ?_
      | refine LeO.bind ?_ (fun _ => ?_)
set_option maxHeartbeats 8000000 in
set_option maxRecDepth 100000 in
theorem lychlaw4_UdpBack.calls (k : Nat) (a0_0 : Int) (a0_1 : Int) (a0_2 : Int) (A0_3 : Option Addr) (c0_3 : Nat) (l0_3 : List Int) (r : Bool) (w : World) (hr0_3 : Kd.C (Kd.int .u8) w A0_3 l0_3.length l0_3) (hc0_3 : l0_3.length ≤ c0_3) (h : lychlaw4_UdpBack.f k a0_0 a0_1 a0_2 l0_3 = some r) :
    Calls Try.prog 4 #[.agg #[.int .u16 a0_0, .int .u16 a0_1, .int .u16 a0_2, .slice A0_3 l0_3.length c0_3]] w fun e w' => e = .returned (.bool r) ∧ Below w.heap.size w w' := by
  have hu26 := Try.underlying26
  have HR0_3 := Aside0.mk hr0_3
  have HC0_3 := Aside0.mk hc0_3
  clear hr0_3 hc0_3
  have HB := Aside0.mk (Below.refl w.heap.size w)
  have H : ((lychlaw4_known.f k).bind fun t237 => (if t237 = true then (if (l0_3.length : Int) > 3000 then (some true) else ((udp_Bytes.f a0_0 a0_1 a0_2 l0_3).bind fun bt238 => ((lychref1_UdpBytes.f a0_0 a0_1 a0_2 l0_3).bind fun bt242 => (if bt238.2 = bt242.2 then ((lychhelp_Bytes.f bt238.1 bt242.1).bind fun t246 => (if t246 = true then (lychlaw4_UdpBack.j0 k bt238.1 bt238.2 bt242.2 (bt242.2 != 0) a0_0 a0_1 a0_2 l0_3) else (lychlaw4_UdpBack.j0 k bt238.1 bt238.2 bt242.2 true a0_0 a0_1 a0_2 l0_3))) else (lychlaw4_UdpBack.j0 k bt238.1 bt238.2 bt242.2 true a0_0 a0_1 a0_2 l0_3))))) else (some false))) = some r := h
  clear h
  replace H := Option.bind_eq_some_iff.mp H
  obtain ⟨t237, A20, H⟩ := H
  replace H : (if t237 = true then (if (l0_3.length : Int) > 3000 then (some true) else ((udp_Bytes.f a0_0 a0_1 a0_2 l0_3).bind fun bt238 => ((lychref1_UdpBytes.f a0_0 a0_1 a0_2 l0_3).bind fun bt242 => (if bt238.2 = bt242.2 then ((lychhelp_Bytes.f bt238.1 bt242.1).bind fun t246 => (if t246 = true then (lychlaw4_UdpBack.j0 k bt238.1 bt238.2 bt242.2 (bt242.2 != 0) a0_0 a0_1 a0_2 l0_3) else (lychlaw4_UdpBack.j0 k bt238.1 bt238.2 bt242.2 true a0_0 a0_1 a0_2 l0_3))) else (lychlaw4_UdpBack.j0 k bt238.1 bt238.2 bt242.2 true a0_0 a0_1 a0_2 l0_3))))) else (some false)) = some r := H
  have A2 := Aside0.mk A20
  clear A20
  by_cases c3 : t237 = true
  · subst c3
    have H1 : (if (l0_3.length : Int) > 3000 then (some true) else ((udp_Bytes.f a0_0 a0_1 a0_2 l0_3).bind fun bt238 => ((lychref1_UdpBytes.f a0_0 a0_1 a0_2 l0_3).bind fun bt242 => (if bt238.2 = bt242.2 then ((lychhelp_Bytes.f bt238.1 bt242.1).bind fun t246 => (if t246 = true then (lychlaw4_UdpBack.j0 k bt238.1 bt238.2 bt242.2 (bt242.2 != 0) a0_0 a0_1 a0_2 l0_3) else (lychlaw4_UdpBack.j0 k bt238.1 bt238.2 bt242.2 true a0_0 a0_1 a0_2 l0_3))) else (lychlaw4_UdpBack.j0 k bt238.1 bt238.2 bt242.2 true a0_0 a0_1 a0_2 l0_3))))) = some r := by rw [if_pos rfl] at H; exact H
    clear H
    have H := H1
    clear H1
    by_cases c4 : (l0_3.length : Int) > 3000
    · rw [if_pos c4] at H
      have c4b0 : decide (3000 < (l0_3.length : Int)) = true := decide_eq_true c4
      have c4b1 : decide (3000 < l0_3.length) = true := decide_eq_true (by omega)
      clear c4
      obtain rfl := Option.some.inj H
      go_enter Try.func4, Try.ntmps4
      go_wp2_with (first | ((with_reducible refine gate_dst (N := 1) rfl ?_); (try (refine gate_guard (by rfl) ?_; dsimp only)); refine box_event ?hg (N := 1) ?hd (cs := #[.int .u16 a0_0, .int .u16 a0_1, .int .u16 a0_2, .slice A0_3 l0_3.length c0_3]) (t := 26) ?hr ?_; (case hd => rfl); (case hg => rfl); (case hr => first | (go_simp; done) | (go_simp; rfl)); intro gb236 hg w5 hbox hb; have n0_ := Aside0.mk (below_step (by repeat (first | (with_reducible first | exact HB.out | apply below_alloc | apply pw_below_drewN | apply below_drew1) | exact HB.out)) hb); have n1_ := Aside0.mk (hbox); have n2_ := Aside0.mk ((by rw [hg]; exact (below_size (by repeat (first | (with_reducible first | exact HB.out | apply below_alloc | apply pw_below_drewN | apply below_drew1) | exact HB.out))) : w.heap.size ≤ gb236)); have n3_ := Aside0.mk ((by rw [hg]; exact (below_size (by repeat (first | (with_reducible first | exact HB.out | apply below_alloc | apply pw_below_drewN | apply below_drew1) | exact HB.out))) : w.heap.size ≤ gb236)); clear HB; have HB := n0_; have BK236 := n1_; have GW236 := n2_; have GE236 := n3_; clear n0_ n1_ n2_ n3_; clear hb hbox hg) | ((with_reducible refine gate_callee (f := 13) rfl ?_); refine goesL_ (some 9) rfl rfl Try.func13 (by kernel_rfl) rfl #[] rfl (by (try simp only [List.map_toArray, List.map_cons, List.map_nil]); first | done | rfl | (simp only [List.length_drop, List.length_take]; rfl) | (go_simp; done) | (simp [Act.eval, IntKind.signed]; done) | (simp [Act.eval, IntKind.signed]; rfl)) ?_; (with_reducible refine (lychlaw4_known.calls k  true _ A2.out).mono ?_); rintro e w6 ⟨rfl, hb⟩; refine ⟨_, rfl, ?_⟩; have n0_ := Aside0.mk (blk_below (g := gb236) (o := .cells #[.int .u16 a0_0, .int .u16 a0_1, .int .u16 a0_2, .slice A0_3 l0_3.length c0_3] 26 (0, 0)) (by (with_reducible repeat (first | refine blk_drewN ?_ _ | refine blk_drew ?_ | refine blk_alloc ?_ _)); exact BK236.out) hb); have n1_ := Aside0.mk (below_step (by repeat (first | (with_reducible first | exact HB.out | apply below_alloc | apply pw_below_drewN | apply below_drew1 | refine below_set ?_ GE236.out) | exact HB.out)) hb); clear BK236; clear HB; have BK236 := n0_; have HB := n1_; clear n0_ n1_; (try clear hb); (try clear hb2); (try clear hk); (try clear hi); have hcz7_0 : w6.cell? ⟨gb236, 0, none⟩ = some (.int .u16 a0_0) := (blk_cell BK236.out 0).trans rfl; have hcz7_1 : w6.cell? ⟨gb236, 1, none⟩ = some (.int .u16 a0_1) := (blk_cell BK236.out 1).trans rfl; have hcz7_2 : w6.cell? ⟨gb236, 2, none⟩ = some (.int .u16 a0_2) := (blk_cell BK236.out 2).trans rfl; have hcz7_3 : w6.cell? ⟨gb236, 3, none⟩ = some (.slice A0_3 l0_3.length c0_3) := (blk_cell BK236.out 3).trans rfl; have hfz7_0 := blk_frozen BK236.out 0; have hfz7_1 := blk_frozen BK236.out 1; have hfz7_2 := blk_frozen BK236.out 2; have hfz7_3 := blk_frozen BK236.out 3))
      go_ret
      exact ⟨by first | rfl | (simp [errW_none, errW_some] <;> rfl) | (simp [*, errW_none, errW_some] <;> rfl), by repeat (first | (with_reducible first | exact HB.out | apply below_alloc | apply pw_below_drewN | apply below_drew1 | refine below_set ?_ GE236.out) | exact HB.out)⟩
    · rw [if_neg c4] at H
      have c4b0 : decide (3000 < (l0_3.length : Int)) = false := decide_eq_false c4
      have c4b1 : decide (3000 < l0_3.length) = false := decide_eq_false (by omega)
      clear c4
      replace H := Option.bind_eq_some_iff.mp H
      obtain ⟨⟨t238, t241⟩, A80, H⟩ := H
      replace H : ((lychref1_UdpBytes.f a0_0 a0_1 a0_2 l0_3).bind fun bt242 => (if t241 = bt242.2 then ((lychhelp_Bytes.f t238 bt242.1).bind fun t246 => (if t246 = true then (lychlaw4_UdpBack.j0 k t238 t241 bt242.2 (bt242.2 != 0) a0_0 a0_1 a0_2 l0_3) else (lychlaw4_UdpBack.j0 k t238 t241 bt242.2 true a0_0 a0_1 a0_2 l0_3))) else (lychlaw4_UdpBack.j0 k t238 t241 bt242.2 true a0_0 a0_1 a0_2 l0_3))) = some r := H
      have A8 := Aside0.mk A80
      clear A80
      replace H := Option.bind_eq_some_iff.mp H
      obtain ⟨⟨t242, t245⟩, A90, H⟩ := H
      replace H : (if t241 = t245 then ((lychhelp_Bytes.f t238 t242).bind fun t246 => (if t246 = true then (lychlaw4_UdpBack.j0 k t238 t241 t245 (t245 != 0) a0_0 a0_1 a0_2 l0_3) else (lychlaw4_UdpBack.j0 k t238 t241 t245 true a0_0 a0_1 a0_2 l0_3))) else (lychlaw4_UdpBack.j0 k t238 t241 t245 true a0_0 a0_1 a0_2 l0_3)) = some r := H
      have A9 := Aside0.mk A90
      clear A90
      have HC10 := Aside0.mk H
      clear H
      go_enter Try.func4, Try.ntmps4
      go_upto_region 7 with (first | ((with_reducible refine gate_dst (N := 1) rfl ?_); (try (refine gate_guard (by rfl) ?_; dsimp only)); refine box_event ?hg (N := 1) ?hd (cs := #[.int .u16 a0_0, .int .u16 a0_1, .int .u16 a0_2, .slice A0_3 l0_3.length c0_3]) (t := 26) ?hr ?_; (case hd => rfl); (case hg => rfl); (case hr => first | (go_simp; done) | (go_simp; rfl)); intro gb236 hg w11 hbox hb; have n0_ := Aside0.mk (below_step (by repeat (first | (with_reducible first | exact HB.out | apply below_alloc | apply pw_below_drewN | apply below_drew1) | exact HB.out)) hb); have n1_ := Aside0.mk (hbox); have n2_ := Aside0.mk ((by rw [hg]; exact (below_size (by repeat (first | (with_reducible first | exact HB.out | apply below_alloc | apply pw_below_drewN | apply below_drew1) | exact HB.out))) : w.heap.size ≤ gb236)); have n3_ := Aside0.mk ((by rw [hg]; exact (below_size (by repeat (first | (with_reducible first | exact HB.out | apply below_alloc | apply pw_below_drewN | apply below_drew1) | exact HB.out))) : w.heap.size ≤ gb236)); clear HB; have HB := n0_; have BK236 := n1_; have GW236 := n2_; have GE236 := n3_; clear n0_ n1_ n2_ n3_; clear hb hbox hg) | ((with_reducible refine gate_callee (f := 13) rfl ?_); refine goesL_ (some 9) rfl rfl Try.func13 (by kernel_rfl) rfl #[] rfl (by (try simp only [List.map_toArray, List.map_cons, List.map_nil]); first | done | rfl | (simp only [List.length_drop, List.length_take]; rfl) | (go_simp; done) | (simp [Act.eval, IntKind.signed]; done) | (simp [Act.eval, IntKind.signed]; rfl)) ?_; (with_reducible refine (lychlaw4_known.calls k  true _ A2.out).mono ?_); rintro e w12 ⟨rfl, hb⟩; refine ⟨_, rfl, ?_⟩; have n0_ := Aside0.mk (blk_below (g := gb236) (o := .cells #[.int .u16 a0_0, .int .u16 a0_1, .int .u16 a0_2, .slice A0_3 l0_3.length c0_3] 26 (0, 0)) (by (with_reducible repeat (first | refine blk_drewN ?_ _ | refine blk_drew ?_ | refine blk_alloc ?_ _)); exact BK236.out) hb); have n1_ := Aside0.mk (below_step (by repeat (first | (with_reducible first | exact HB.out | apply below_alloc | apply pw_below_drewN | apply below_drew1 | refine below_set ?_ GE236.out) | exact HB.out)) hb); clear BK236; clear HB; have BK236 := n0_; have HB := n1_; clear n0_ n1_; (try clear hb); (try clear hb2); (try clear hk); (try clear hi); have hcz13_0 : w12.cell? ⟨gb236, 0, none⟩ = some (.int .u16 a0_0) := (blk_cell BK236.out 0).trans rfl; have hcz13_1 : w12.cell? ⟨gb236, 1, none⟩ = some (.int .u16 a0_1) := (blk_cell BK236.out 1).trans rfl; have hcz13_2 : w12.cell? ⟨gb236, 2, none⟩ = some (.int .u16 a0_2) := (blk_cell BK236.out 2).trans rfl; have hcz13_3 : w12.cell? ⟨gb236, 3, none⟩ = some (.slice A0_3 l0_3.length c0_3) := (blk_cell BK236.out 3).trans rfl; have hfz13_0 := blk_frozen BK236.out 0; have hfz13_1 := blk_frozen BK236.out 1; have hfz13_2 := blk_frozen BK236.out 2; have hfz13_3 := blk_frozen BK236.out 3) | ((with_reducible refine gate_callee (f := 17) rfl ?_); refine goesL_ (some 17) rfl rfl Try.func17 (by kernel_rfl) rfl #[.agg #[.int .u16 a0_0, .int .u16 a0_1, .int .u16 a0_2, .slice A0_3 l0_3.length c0_3]] rfl (by (try simp only [List.map_toArray, List.map_cons, List.map_nil]); first | done | rfl | (simp only [List.length_drop, List.length_take]; rfl) | (go_simp; done) | (simp [Act.eval, IntKind.signed]; done) | (simp [Act.eval, IntKind.signed]; rfl)) ?_; (with_reducible refine (udp_Bytes.calls a0_0 a0_1 a0_2 _ _ l0_3 t238 t241 _ ?side1 ?side2 A8.out).mono ?_); (case side1 => repeat (first | exact (Kd.C_below HR0_3.out HB.out) | (with_reducible refine Kd.C_alloc ?_ _) | (with_reducible refine Kd.C_drewN ?_ _) | (with_reducible refine Kd.C_drew ?_))); (case side2 => exact HC0_3.out); rintro e w14 ⟨v239, rfl, ho0, hb⟩; refine ⟨_, rfl, ?_⟩; have n0_ := Aside0.mk (Kd.R_lower ho0 (below_size (by repeat (first | (with_reducible first | exact HB.out | apply below_alloc | apply pw_below_drewN | apply below_drew1 | refine below_set ?_ GE236.out) | exact HB.out)))); have n1_ := Aside0.mk (blk_below (g := gb236) (o := .cells #[.int .u16 a0_0, .int .u16 a0_1, .int .u16 a0_2, .slice A0_3 l0_3.length c0_3] 26 (0, 0)) (by (with_reducible repeat (first | refine blk_drewN ?_ _ | refine blk_drew ?_ | refine blk_alloc ?_ _)); exact BK236.out) hb); have n2_ := Aside0.mk (below_step (by repeat (first | (with_reducible first | exact HB.out | apply below_alloc | apply pw_below_drewN | apply below_drew1 | refine below_set ?_ GE236.out) | exact HB.out)) hb); clear BK236; clear HB; have HO240 := n0_; have BK236 := n1_; have HB := n2_; clear n0_ n1_ n2_; (try clear hb); (try clear hb2); (try clear hk); (try clear hi); (try clear ho0); have hcz15_0 : w14.cell? ⟨gb236, 0, none⟩ = some (.int .u16 a0_0) := (blk_cell BK236.out 0).trans rfl; have hcz15_1 : w14.cell? ⟨gb236, 1, none⟩ = some (.int .u16 a0_1) := (blk_cell BK236.out 1).trans rfl; have hcz15_2 : w14.cell? ⟨gb236, 2, none⟩ = some (.int .u16 a0_2) := (blk_cell BK236.out 2).trans rfl; have hcz15_3 : w14.cell? ⟨gb236, 3, none⟩ = some (.slice A0_3 l0_3.length c0_3) := (blk_cell BK236.out 3).trans rfl; have hfz15_0 := blk_frozen BK236.out 0; have hfz15_1 := blk_frozen BK236.out 1; have hfz15_2 := blk_frozen BK236.out 2; have hfz15_3 := blk_frozen BK236.out 3) | ((with_reducible refine gate_callee (f := 18) rfl ?_); refine goesL_ (some 22) rfl rfl Try.func18 (by kernel_rfl) rfl #[.agg #[.int .u16 a0_0, .int .u16 a0_1, .int .u16 a0_2, .slice A0_3 l0_3.length c0_3]] rfl (by (try simp only [List.map_toArray, List.map_cons, List.map_nil]); first | done | rfl | (simp only [List.length_drop, List.length_take]; rfl) | (go_simp; done) | (simp [Act.eval, IntKind.signed]; done) | (simp [Act.eval, IntKind.signed]; rfl)) ?_; (with_reducible refine (lychref1_UdpBytes.calls a0_0 a0_1 a0_2 _ _ l0_3 t242 t245 _ ?side1 ?side2 A9.out).mono ?_); (case side1 => repeat (first | exact (Kd.C_below HR0_3.out HB.out) | (with_reducible refine Kd.C_alloc ?_ _) | (with_reducible refine Kd.C_drewN ?_ _) | (with_reducible refine Kd.C_drew ?_))); (case side2 => exact HC0_3.out); rintro e w16 ⟨v243, rfl, ho0, hb⟩; refine ⟨_, rfl, ?_⟩; have n0_ := Aside0.mk (Kd.R_elder' (by (with_reducible repeat (first | apply Kd.R_alloc | apply Kd.R_drewN | apply Kd.R_drew)); exact HO240.out) (Kd.R_base ho0) hb); have n1_ := Aside0.mk (Kd.R_lower (Kd.R_new' ho0 (Kd.R_lt (by (with_reducible repeat (first | apply Kd.R_alloc | apply Kd.R_drewN | apply Kd.R_drew)); exact HO240.out))) (below_size (by repeat (first | (with_reducible first | exact HB.out | apply below_alloc | apply pw_below_drewN | apply below_drew1 | refine below_set ?_ GE236.out) | exact HB.out)))); have n2_ := Aside0.mk (blk_below (g := gb236) (o := .cells #[.int .u16 a0_0, .int .u16 a0_1, .int .u16 a0_2, .slice A0_3 l0_3.length c0_3] 26 (0, 0)) (by (with_reducible repeat (first | refine blk_drewN ?_ _ | refine blk_drew ?_ | refine blk_alloc ?_ _)); exact BK236.out) hb); have n3_ := Aside0.mk (below_step (by repeat (first | (with_reducible first | exact HB.out | apply below_alloc | apply pw_below_drewN | apply below_drew1 | refine below_set ?_ GE236.out) | exact HB.out)) hb); clear HO240; clear BK236; clear HB; have HO240 := n0_; have HO244 := n1_; have BK236 := n2_; have HB := n3_; clear n0_ n1_ n2_ n3_; (try clear hb); (try clear hb2); (try clear hk); (try clear hi); (try clear ho0)))
      (try simp only [Act.put, List.setIfInBounds_toArray, List.set_cons_zero, List.set_cons_succ])
      go_cut [37] (fun v37 wc => ∃ (kq : Nat) (x37_9 : Bool), v37 = .bool x37_9 ∧ Aside0 (lychlaw4_UdpBack.j0 kq t238 t241 t245 x37_9 a0_0 a0_1 a0_2 l0_3 = some r) ∧ Aside0 (kq ≤ k) ∧ Aside0 (Kd.R (Kd.int .u8) 5 wc w.heap.size (fun _ => True) v239 t238) ∧ Aside0 (wc.heap[gb236]? = some (.cells #[.int .u16 a0_0, .int .u16 a0_1, .int .u16 a0_2, (.slice A0_3 l0_3.length c0_3)] 26 (0, 0))) ∧ Aside0 (Below w.heap.size w wc))
      case first =>
        have H := HC10.out
        clear HC10
        by_cases c17 : t241 = t245
        · rw [if_pos c17] at H
          have c17b0 : (t241 == t245) = true := beq_iff_eq.mpr c17
          have c17b1 : (t241 != t245) = false := bne_eq_false_iff_eq.mpr c17
          clear c17
          (first | rw [c17b0] | (simp only [i64_w, i32_w]; rw [c17b0]) | skip)
          replace H := Option.bind_eq_some_iff.mp H
          obtain ⟨t246, A180, H⟩ := H
          replace H : (if t246 = true then (lychlaw4_UdpBack.j0 k t238 t241 t245 (t245 != 0) a0_0 a0_1 a0_2 l0_3) else (lychlaw4_UdpBack.j0 k t238 t241 t245 true a0_0 a0_1 a0_2 l0_3)) = some r := H
          have A18 := Aside0.mk A180
          clear A180
          by_cases c19 : t246 = true
          · subst c19
            have H1 : (lychlaw4_UdpBack.j0 k t238 t241 t245 (t245 != 0) a0_0 a0_1 a0_2 l0_3) = some r := by rw [if_pos rfl] at H; exact H
            clear H
            have H := H1
            clear H1
            have H' := Aside0.mk H
            clear H
            obtain ⟨Ao20, co20, eo20⟩ := Kd.R_slice HO240.out
            subst eo20
            obtain ⟨Ao21, co21, eo21⟩ := Kd.R_slice HO244.out
            subst eo21
            go_wp2_with (first | (go_at_call 19; (with_reducible refine (lychhelp_Bytes.calls _ _ t238 _ _ t242 true _ ?side1 ?side2 ?side3 ?side4 A18.out).mono ?_); (case side1 => repeat (first | exact (Kd.R_reads' HO240.out).2.2 | (with_reducible refine Kd.C_alloc ?_ _) | (with_reducible refine Kd.C_drewN ?_ _) | (with_reducible refine Kd.C_drew ?_))); (case side2 => exact (Kd.R_reads' HO240.out).2.1); (case side3 => repeat (first | exact (Kd.R_reads' HO244.out).2.2 | (with_reducible refine Kd.C_alloc ?_ _) | (with_reducible refine Kd.C_drewN ?_ _) | (with_reducible refine Kd.C_drew ?_))); (case side4 => exact (Kd.R_reads' HO244.out).2.1); rintro e w' ⟨rfl, ⟨nd, rfl⟩⟩))
            go_meet
            case rel => exact ⟨_, ((t245 != 0)), (by first | rfl | (simp; done) | (simp [*]; done)), H', ⟨by first | omega | exact Nat.le_refl _⟩, ⟨by (with_reducible repeat (first | apply Kd.R_alloc | apply Kd.R_drewN | apply Kd.R_drew)); exact Kd.R_mono HO240.out (fun _ hk => trivial)⟩, ⟨by (with_reducible repeat (first | refine blk_drewN ?_ _ | refine blk_drew ?_ | refine blk_alloc ?_ _)); exact BK236.out⟩, ⟨by repeat (first | (with_reducible first | exact HB.out | apply below_alloc | apply pw_below_drewN | apply below_drew1 | refine below_set ?_ GE236.out) | exact HB.out)⟩⟩
          · replace c19 := Bool.eq_false_iff.mpr c19
            subst c19
            have H1 : (lychlaw4_UdpBack.j0 k t238 t241 t245 true a0_0 a0_1 a0_2 l0_3) = some r := by rw [if_neg (show ¬ (false = true) by decide)] at H; exact H
            clear H
            have H := H1
            clear H1
            have H' := Aside0.mk H
            clear H
            obtain ⟨Ao22, co22, eo22⟩ := Kd.R_slice HO240.out
            subst eo22
            obtain ⟨Ao23, co23, eo23⟩ := Kd.R_slice HO244.out
            subst eo23
            go_wp2_with (first | (go_at_call 19; (with_reducible refine (lychhelp_Bytes.calls _ _ t238 _ _ t242 false _ ?side1 ?side2 ?side3 ?side4 A18.out).mono ?_); (case side1 => repeat (first | exact (Kd.R_reads' HO240.out).2.2 | (with_reducible refine Kd.C_alloc ?_ _) | (with_reducible refine Kd.C_drewN ?_ _) | (with_reducible refine Kd.C_drew ?_))); (case side2 => exact (Kd.R_reads' HO240.out).2.1); (case side3 => repeat (first | exact (Kd.R_reads' HO244.out).2.2 | (with_reducible refine Kd.C_alloc ?_ _) | (with_reducible refine Kd.C_drewN ?_ _) | (with_reducible refine Kd.C_drew ?_))); (case side4 => exact (Kd.R_reads' HO244.out).2.1); rintro e w' ⟨rfl, ⟨nd, rfl⟩⟩))
            go_meet
            case rel => exact ⟨_, (true), (by first | rfl | (simp; done) | (simp [*]; done)), H', ⟨by first | omega | exact Nat.le_refl _⟩, ⟨by (with_reducible repeat (first | apply Kd.R_alloc | apply Kd.R_drewN | apply Kd.R_drew)); exact Kd.R_mono HO240.out (fun _ hk => trivial)⟩, ⟨by (with_reducible repeat (first | refine blk_drewN ?_ _ | refine blk_drew ?_ | refine blk_alloc ?_ _)); exact BK236.out⟩, ⟨by repeat (first | (with_reducible first | exact HB.out | apply below_alloc | apply pw_below_drewN | apply below_drew1 | refine below_set ?_ GE236.out) | exact HB.out)⟩⟩
        · rw [if_neg c17] at H
          have c17b0 : (t241 == t245) = false := beq_eq_false_iff_ne.mpr c17
          have c17b1 : (t241 != t245) = true := bne_iff_ne.mpr c17
          (first | rw [c17b0] | (simp only [i64_w, i32_w]; rw [c17b0]) | skip)
          have H' := Aside0.mk H
          clear H
          go_wp2
          go_meet
          case rel => exact ⟨_, (true), (by first | rfl | (simp; done) | (simp [*]; done)), H', ⟨by first | omega | exact Nat.le_refl _⟩, ⟨by (with_reducible repeat (first | apply Kd.R_alloc | apply Kd.R_drewN | apply Kd.R_drew)); exact Kd.R_mono HO240.out (fun _ hk => trivial)⟩, ⟨by (with_reducible repeat (first | refine blk_drewN ?_ _ | refine blk_drew ?_ | refine blk_alloc ?_ _)); exact BK236.out⟩, ⟨by repeat (first | (with_reducible first | exact HB.out | apply below_alloc | apply pw_below_drewN | apply below_drew1 | refine below_set ?_ GE236.out) | exact HB.out)⟩⟩
      case rest =>
        clear HC10
        try clear c1
        try clear p2
        try clear c3
        try clear c4
        try clear c4b0
        try clear c4b1
        try clear c13
        try clear c17
        try clear c17b0
        try clear c17b1
        try clear c18
        try clear c19
        try clear hcz13_0
        try clear hcz13_1
        try clear hcz13_2
        try clear hcz13_3
        try clear hcz15_0
        try clear hcz15_1
        try clear hcz15_2
        try clear hcz15_3
        try clear hcz7_0
        try clear hcz7_1
        try clear hcz7_2
        try clear hcz7_3
        try clear hfz13_0
        try clear hfz13_1
        try clear hfz13_2
        try clear hfz13_3
        try clear hfz15_0
        try clear hfz15_1
        try clear hfz15_2
        try clear hfz15_3
        try clear hfz7_0
        try clear hfz7_1
        try clear hfz7_2
        try clear hfz7_3
        obtain ⟨kq, x37_9, rfl, HA, HJ9, HO_3, BK236, HB⟩ := hcut
        cases kq with
        | zero => exact absurd HA.out (by simp [lychlaw4_UdpBack.j0])
        | succ kj9 =>
          have H := HA.out
          clear HA
          simp only [lychlaw4_UdpBack.j0] at H
          by_cases c24 : x37_9 = true
          · subst c24
            have H1 : (if t241 = t245 then (if t245 = 0 then (some false) else (some ((t238.length : Int) == 0))) else (some false)) = some r := by rw [if_pos rfl] at H; exact H
            clear H
            have H := H1
            clear H1
            by_cases c25 : t241 = t245
            · rw [if_pos c25] at H
              have c25b0 : (t241 == t245) = true := beq_iff_eq.mpr c25
              have c25b1 : (t241 != t245) = false := bne_eq_false_iff_eq.mpr c25
              clear c25
              by_cases c26 : t245 = 0
              · rw [if_pos c26] at H
                have c26b0 : (t245 == 0) = true := beq_iff_eq.mpr c26
                have c26b1 : (t245 != 0) = false := bne_eq_false_iff_eq.mpr c26
                clear c26
                obtain rfl := Option.some.inj H
                go_wp2
                go_ret
                exact ⟨by first | rfl | (simp [errW_none, errW_some] <;> rfl) | (simp [*, errW_none, errW_some] <;> rfl), by repeat (first | (with_reducible first | exact HB.out | apply below_alloc | apply pw_below_drewN | apply below_drew1 | refine below_set ?_ GE236.out) | exact HB.out)⟩
              · rw [if_neg c26] at H
                have c26b0 : (t245 == 0) = false := beq_eq_false_iff_ne.mpr c26
                have c26b1 : (t245 != 0) = true := bne_iff_ne.mpr c26
                obtain rfl := Option.some.inj H
                obtain ⟨Ao27, co27, eo27⟩ := Kd.R_slice HO_3.out
                subst eo27
                go_wp2
                go_ret
                exact ⟨by first | rfl | (simp [errW_none, errW_some] <;> rfl) | (simp [*, errW_none, errW_some] <;> rfl), by repeat (first | (with_reducible first | exact HB.out | apply below_alloc | apply pw_below_drewN | apply below_drew1 | refine below_set ?_ GE236.out) | exact HB.out)⟩
            · rw [if_neg c25] at H
              have c25b0 : (t241 == t245) = false := beq_eq_false_iff_ne.mpr c25
              have c25b1 : (t241 != t245) = true := bne_iff_ne.mpr c25
              obtain rfl := Option.some.inj H
              go_wp2
              go_ret
              exact ⟨by first | rfl | (simp [errW_none, errW_some] <;> rfl) | (simp [*, errW_none, errW_some] <;> rfl), by repeat (first | (with_reducible first | exact HB.out | apply below_alloc | apply pw_below_drewN | apply below_drew1 | refine below_set ?_ GE236.out) | exact HB.out)⟩
          · replace c24 := Bool.eq_false_iff.mpr c24
            subst c24
            have H1 : ((udp_Parse.f t238).bind fun bt247 => (if bt247.2.2.2.2 = 0 then ((lychhelp_Udp.f bt247.1 bt247.2.1 bt247.2.2.1 bt247.2.2.2.1 a0_0 a0_1 a0_2 l0_3).bind fun t255 => (some t255)) else (some false))) = some r := by rw [if_neg (show ¬ (false = true) by decide)] at H; exact H
            clear H
            have H := H1
            clear H1
            replace H := Option.bind_eq_some_iff.mp H
            obtain ⟨⟨t247, t248, t249, t250, t253⟩, A280, H⟩ := H
            replace H : (if t253 = 0 then ((lychhelp_Udp.f t247 t248 t249 t250 a0_0 a0_1 a0_2 l0_3).bind fun t255 => (some t255)) else (some false)) = some r := H
            have A28 := Aside0.mk A280
            clear A280
            by_cases c29 : t253 = 0
            · rw [if_pos c29] at H
              have c29b0 : (t253 == 0) = true := beq_iff_eq.mpr c29
              have c29b1 : (t253 != 0) = false := bne_eq_false_iff_eq.mpr c29
              clear c29
              replace H := Option.bind_eq_some_iff.mp H
              obtain ⟨t255, A300, H⟩ := H
              replace H : (some t255) = some r := H
              have A30 := Aside0.mk A300
              clear A300
              obtain rfl := Option.some.inj H
              obtain ⟨Ao31, co31, eo31⟩ := Kd.R_slice HO_3.out
              subst eo31
              go_wp2_with (first | ((with_reducible refine gate_callee (f := 14) rfl ?_); refine goesL_ (some 52) rfl rfl Try.func14 (by kernel_rfl) rfl #[.slice Ao31 t238.length co31] rfl (by (try simp only [List.map_toArray, List.map_cons, List.map_nil]); first | done | rfl | (simp only [List.length_drop, List.length_take]; rfl) | (go_simp; done) | (simp [Act.eval, IntKind.signed]; done) | (simp [Act.eval, IntKind.signed]; rfl)) ?_; (with_reducible refine (udp_Parse.calls _ _ t238 t247 t248 t249 t250 t253 _ ?side1 ?side2 A28.out).mono ?_); (case side1 => repeat (first | exact (Kd.R_reads' HO_3.out).2.2 | (with_reducible refine Kd.C_alloc ?_ _) | (with_reducible refine Kd.C_drewN ?_ _) | (with_reducible refine Kd.C_drew ?_))); (case side2 => exact (Kd.R_reads' HO_3.out).2.1); rintro e w32 ⟨v251, rfl, ho0, hb⟩; refine ⟨_, rfl, ?_⟩; have n0_ := Aside0.mk (Kd.R_elder' (by (with_reducible repeat (first | apply Kd.R_alloc | apply Kd.R_drewN | apply Kd.R_drew)); exact HO_3.out) (Kd.R_base ho0) hb); have n1_ := Aside0.mk (Kd.R_lower (Kd.R_new' ho0 (Kd.R_lt (by (with_reducible repeat (first | apply Kd.R_alloc | apply Kd.R_drewN | apply Kd.R_drew)); exact HO_3.out))) (below_size (by repeat (first | (with_reducible first | exact HB.out | apply below_alloc | apply pw_below_drewN | apply below_drew1 | refine below_set ?_ GE236.out) | exact HB.out)))); have n2_ := Aside0.mk (blk_below (g := gb236) (o := .cells #[.int .u16 a0_0, .int .u16 a0_1, .int .u16 a0_2, .slice A0_3 l0_3.length c0_3] 26 (0, 0)) (by (with_reducible repeat (first | refine blk_drewN ?_ _ | refine blk_drew ?_ | refine blk_alloc ?_ _)); exact BK236.out) hb); have n3_ := Aside0.mk (below_step (by repeat (first | (with_reducible first | exact HB.out | apply below_alloc | apply pw_below_drewN | apply below_drew1 | refine below_set ?_ GE236.out) | exact HB.out)) hb); clear HO_3; clear BK236; clear HB; have HO_3 := n0_; have HO252 := n1_; have BK236 := n2_; have HB := n3_; clear n0_ n1_ n2_ n3_; (try clear hb); (try clear hb2); (try clear hk); (try clear hi); (try clear ho0)) | ((with_reducible refine gate_dst (N := 7) rfl ?_); (try (refine gate_guard (by rfl) ?_; dsimp only)); refine box_event ?hg (N := 7) ?hd (cs := #[.int .u16 0, .int .u16 0, .int .u16 0, .slice none 0 0]) (t := 26) ?hr ?_; (case hd => rfl); (case hg => rfl); (case hr => first | (go_simp; done) | (go_simp; rfl)); intro gb254 hg w33 hbox hb; have n0_ := Aside0.mk (Kd.R_below (by (with_reducible repeat (first | apply Kd.R_alloc | apply Kd.R_drewN | apply Kd.R_drew)); exact HO_3.out) hb); have n1_ := Aside0.mk (Kd.R_below (by (with_reducible repeat (first | apply Kd.R_alloc | apply Kd.R_drewN | apply Kd.R_drew)); exact HO252.out) hb); have n2_ := Aside0.mk (blk_below (g := gb236) (o := .cells #[.int .u16 a0_0, .int .u16 a0_1, .int .u16 a0_2, .slice A0_3 l0_3.length c0_3] 26 (0, 0)) (by (with_reducible repeat (first | refine blk_drewN ?_ _ | refine blk_drew ?_ | refine blk_alloc ?_ _)); exact BK236.out) hb); have n3_ := Aside0.mk (below_step (by repeat (first | (with_reducible first | exact HB.out | apply below_alloc | apply pw_below_drewN | apply below_drew1 | refine below_set ?_ GE236.out) | exact HB.out)) hb); have n4_ := Aside0.mk (hbox); have n5_ := Aside0.mk ((by rw [hg]; exact (below_size (by repeat (first | (with_reducible first | exact HB.out | apply below_alloc | apply pw_below_drewN | apply below_drew1 | refine below_set ?_ GE236.out) | exact HB.out))) : w.heap.size ≤ gb254)); have n6_ := Aside0.mk ((by rw [hg]; exact (below_size (by repeat (first | (with_reducible first | exact HB.out | apply below_alloc | apply pw_below_drewN | apply below_drew1 | refine below_set ?_ GE236.out) | exact HB.out))) : w.heap.size ≤ gb254)); have n7_ := Aside0.mk ((by rw [hg]; exact Nat.ne_of_lt (blk_lt (g := gb236) (o := .cells #[.int .u16 a0_0, .int .u16 a0_1, .int .u16 a0_2, .slice A0_3 l0_3.length c0_3] 26 (0, 0)) (by (with_reducible repeat (first | refine blk_drewN ?_ _ | refine blk_drew ?_ | refine blk_alloc ?_ _)); exact BK236.out)) : gb236 ≠ gb254)); have n8_ := Aside0.mk ((by rw [hg]; exact Nat.ne_of_gt (blk_lt (g := gb236) (o := .cells #[.int .u16 a0_0, .int .u16 a0_1, .int .u16 a0_2, .slice A0_3 l0_3.length c0_3] 26 (0, 0)) (by (with_reducible repeat (first | refine blk_drewN ?_ _ | refine blk_drew ?_ | refine blk_alloc ?_ _)); exact BK236.out)) : gb254 ≠ gb236)); clear HO_3; clear HO252; clear BK236; clear HB; have HO_3 := n0_; have HO252 := n1_; have BK236 := n2_; have HB := n3_; have BK254 := n4_; have GW254 := n5_; have GE254 := n6_; have NB236_254 := n7_; have NB254_236 := n8_; clear n0_ n1_ n2_ n3_ n4_ n5_ n6_ n7_ n8_; clear hb hbox hg; have hnb34 := NB254_236.out; have hnc34 := NB236_254.out; have hcz35_0 : w33.cell? ⟨gb254, 0, none⟩ = some (.int .u16 0) := (blk_cell BK254.out 0).trans rfl; have hcz35_1 : w33.cell? ⟨gb254, 1, none⟩ = some (.int .u16 0) := (blk_cell BK254.out 1).trans rfl; have hcz35_2 : w33.cell? ⟨gb254, 2, none⟩ = some (.int .u16 0) := (blk_cell BK254.out 2).trans rfl; have hcz35_3 : w33.cell? ⟨gb254, 3, none⟩ = some (.slice none 0 0) := (blk_cell BK254.out 3).trans rfl; have hfz35_0 := blk_frozen BK254.out 0; have hfz35_1 := blk_frozen BK254.out 1; have hfz35_2 := blk_frozen BK254.out 2; have hfz35_3 := blk_frozen BK254.out 3; obtain ⟨Ao36, co36, eo36⟩ := Kd.R_slice HO252.out; subst eo36; have hcz37_0 : w33.cell? ⟨gb236, 0, none⟩ = some (.int .u16 a0_0) := (blk_cell BK236.out 0).trans rfl; have hcz37_1 : w33.cell? ⟨gb236, 1, none⟩ = some (.int .u16 a0_1) := (blk_cell BK236.out 1).trans rfl; have hcz37_2 : w33.cell? ⟨gb236, 2, none⟩ = some (.int .u16 a0_2) := (blk_cell BK236.out 2).trans rfl; have hcz37_3 : w33.cell? ⟨gb236, 3, none⟩ = some (.slice A0_3 l0_3.length c0_3) := (blk_cell BK236.out 3).trans rfl; have hfz37_0 := blk_frozen BK236.out 0; have hfz37_1 := blk_frozen BK236.out 1; have hfz37_2 := blk_frozen BK236.out 2; have hfz37_3 := blk_frozen BK236.out 3) | (go_at_call 16; (with_reducible refine (lychhelp_Udp.calls t247 t248 t249 _ _ t250 a0_0 a0_1 a0_2 _ _ l0_3 t255 _ ?side1 ?side2 ?side3 ?side4 A30.out).mono ?_); (case side1 => refine (Kd.R_reads' (e := 5) (base := w.heap.size) (ok := fun k_ => (True ∧ some k_ ≠ (.slice Ao31 t238.length co31 : Value).ownBlock)) (n := t250.length) (c := co36) ?_).2.2; exact (by (with_reducible repeat (first | apply Kd.R_alloc | apply Kd.R_drewN | apply Kd.R_drew)); exact (Kd.R_mono (Kd.R_far (p := ⟨gb254, 3, none⟩) (Kd.R_far (p := ⟨gb254, 2, none⟩) (Kd.R_far (p := ⟨gb254, 1, none⟩) (Kd.R_far (p := ⟨gb254, 0, none⟩) (Kd.R_types HO252.out BK254.out (by decide)) (fun _ hk => hk.2) (.int .u16 t247)) (fun _ hk => hk.2) (.int .u16 t248)) (fun _ hk => hk.2) (.int .u16 t249)) (fun _ hk => hk.2) (.slice Ao36 t250.length co36)) (fun _ h_ => h_.1)))); (case side2 => exact (Kd.R_reads' HO252.out).2.1); (case side3 => exact Kd.C_below HR0_3.out (by repeat (first | (with_reducible first | exact HB.out | apply below_alloc | apply pw_below_drewN | apply below_drew1 | refine below_set ?_ GE236.out | refine below_set ?_ GE254.out) | exact HB.out))); (case side4 => exact HC0_3.out); rintro e w38 ⟨rfl, hb⟩; have n0_ := Aside0.mk (Kd.R_below (by (with_reducible repeat (first | apply Kd.R_alloc | apply Kd.R_drewN | apply Kd.R_drew)); exact (Kd.R_mono (Kd.R_far (p := ⟨gb254, 3, none⟩) (Kd.R_far (p := ⟨gb254, 2, none⟩) (Kd.R_far (p := ⟨gb254, 1, none⟩) (Kd.R_far (p := ⟨gb254, 0, none⟩) (Kd.R_types HO_3.out BK254.out (by decide)) (fun _ hk => hk.2) (.int .u16 t247)) (fun _ hk => hk.2) (.int .u16 t248)) (fun _ hk => hk.2) (.int .u16 t249)) (fun _ hk => hk.2) (.slice Ao36 t250.length co36)) (fun _ h_ => h_.1))) hb); have n1_ := Aside0.mk (Kd.R_below (by (with_reducible repeat (first | apply Kd.R_alloc | apply Kd.R_drewN | apply Kd.R_drew)); exact (Kd.R_mono (Kd.R_far (p := ⟨gb254, 3, none⟩) (Kd.R_far (p := ⟨gb254, 2, none⟩) (Kd.R_far (p := ⟨gb254, 1, none⟩) (Kd.R_far (p := ⟨gb254, 0, none⟩) (Kd.R_types HO252.out BK254.out (by decide)) (fun _ hk => hk.2) (.int .u16 t247)) (fun _ hk => hk.2) (.int .u16 t248)) (fun _ hk => hk.2) (.int .u16 t249)) (fun _ hk => hk.2) (.slice Ao36 t250.length co36)) (fun _ h_ => h_.1))) hb); have n2_ := Aside0.mk (blk_below (g := gb236) (o := .cells #[.int .u16 a0_0, .int .u16 a0_1, .int .u16 a0_2, .slice A0_3 l0_3.length c0_3] 26 (0, 0)) (by (with_reducible repeat (first | refine blk_drewN ?_ _ | refine blk_drew ?_ | refine blk_alloc ?_ _)); refine blk_far ?_ NB236_254.out _; (with_reducible repeat (first | refine blk_drewN ?_ _ | refine blk_drew ?_ | refine blk_alloc ?_ _)); refine blk_far ?_ NB236_254.out _; (with_reducible repeat (first | refine blk_drewN ?_ _ | refine blk_drew ?_ | refine blk_alloc ?_ _)); refine blk_far ?_ NB236_254.out _; (with_reducible repeat (first | refine blk_drewN ?_ _ | refine blk_drew ?_ | refine blk_alloc ?_ _)); refine blk_far ?_ NB236_254.out _; (with_reducible repeat (first | refine blk_drewN ?_ _ | refine blk_drew ?_ | refine blk_alloc ?_ _)); exact BK236.out) hb); have n3_ := Aside0.mk (blk_below (g := gb254) (o := .cells #[.int .u16 t247, .int .u16 t248, .int .u16 t249, .slice Ao36 t250.length co36] 26 (0, 0)) (by (with_reducible repeat (first | refine blk_drewN ?_ _ | refine blk_drew ?_ | refine blk_alloc ?_ _)); refine blk_put (cs := #[.int .u16 t247, .int .u16 t248, .int .u16 t249, .slice none 0 0]) ?_ 3 _ rfl; (with_reducible repeat (first | refine blk_drewN ?_ _ | refine blk_drew ?_ | refine blk_alloc ?_ _)); refine blk_put (cs := #[.int .u16 t247, .int .u16 t248, .int .u16 0, .slice none 0 0]) ?_ 2 _ rfl; (with_reducible repeat (first | refine blk_drewN ?_ _ | refine blk_drew ?_ | refine blk_alloc ?_ _)); refine blk_put (cs := #[.int .u16 t247, .int .u16 0, .int .u16 0, .slice none 0 0]) ?_ 1 _ rfl; (with_reducible repeat (first | refine blk_drewN ?_ _ | refine blk_drew ?_ | refine blk_alloc ?_ _)); refine blk_put (cs := #[.int .u16 0, .int .u16 0, .int .u16 0, .slice none 0 0]) ?_ 0 _ rfl; (with_reducible repeat (first | refine blk_drewN ?_ _ | refine blk_drew ?_ | refine blk_alloc ?_ _)); exact BK254.out) hb); have n4_ := Aside0.mk (below_step (by repeat (first | (with_reducible first | exact HB.out | apply below_alloc | apply pw_below_drewN | apply below_drew1 | refine below_set ?_ GE236.out | refine below_set ?_ GE254.out) | exact HB.out)) hb); clear HO_3; clear HO252; clear BK236; clear BK254; clear HB; have HO_3 := n0_; have HO252 := n1_; have BK236 := n2_; have BK254 := n3_; have HB := n4_; clear n0_ n1_ n2_ n3_ n4_; (try clear hb); (try clear hb2); (try clear hk); (try clear hi)))
              go_ret
              exact ⟨by first | rfl | (simp [errW_none, errW_some] <;> rfl) | (simp [*, errW_none, errW_some] <;> rfl), by repeat (first | (with_reducible first | exact HB.out | apply below_alloc | apply pw_below_drewN | apply below_drew1 | refine below_set ?_ GE236.out | refine below_set ?_ GE254.out) | exact HB.out)⟩
            · rw [if_neg c29] at H
              have c29b0 : (t253 == 0) = false := beq_eq_false_iff_ne.mpr c29
              have c29b1 : (t253 != 0) = true := bne_iff_ne.mpr c29
              obtain rfl := Option.some.inj H
              obtain ⟨Ao39, co39, eo39⟩ := Kd.R_slice HO_3.out
              subst eo39
              go_wp2_with (first | ((with_reducible refine gate_callee (f := 14) rfl ?_); refine goesL_ (some 52) rfl rfl Try.func14 (by kernel_rfl) rfl #[.slice Ao39 t238.length co39] rfl (by (try simp only [List.map_toArray, List.map_cons, List.map_nil]); first | done | rfl | (simp only [List.length_drop, List.length_take]; rfl) | (go_simp; done) | (simp [Act.eval, IntKind.signed]; done) | (simp [Act.eval, IntKind.signed]; rfl)) ?_; (with_reducible refine (udp_Parse.calls _ _ t238 t247 t248 t249 t250 t253 _ ?side1 ?side2 A28.out).mono ?_); (case side1 => repeat (first | exact (Kd.R_reads' HO_3.out).2.2 | (with_reducible refine Kd.C_alloc ?_ _) | (with_reducible refine Kd.C_drewN ?_ _) | (with_reducible refine Kd.C_drew ?_))); (case side2 => exact (Kd.R_reads' HO_3.out).2.1); rintro e w40 ⟨v251, rfl, ho0, hb⟩; refine ⟨_, rfl, ?_⟩; have n0_ := Aside0.mk (Kd.R_elder' (by (with_reducible repeat (first | apply Kd.R_alloc | apply Kd.R_drewN | apply Kd.R_drew)); exact HO_3.out) (Kd.R_base ho0) hb); have n1_ := Aside0.mk (Kd.R_lower (Kd.R_new' ho0 (Kd.R_lt (by (with_reducible repeat (first | apply Kd.R_alloc | apply Kd.R_drewN | apply Kd.R_drew)); exact HO_3.out))) (below_size (by repeat (first | (with_reducible first | exact HB.out | apply below_alloc | apply pw_below_drewN | apply below_drew1 | refine below_set ?_ GE236.out) | exact HB.out)))); have n2_ := Aside0.mk (blk_below (g := gb236) (o := .cells #[.int .u16 a0_0, .int .u16 a0_1, .int .u16 a0_2, .slice A0_3 l0_3.length c0_3] 26 (0, 0)) (by (with_reducible repeat (first | refine blk_drewN ?_ _ | refine blk_drew ?_ | refine blk_alloc ?_ _)); exact BK236.out) hb); have n3_ := Aside0.mk (below_step (by repeat (first | (with_reducible first | exact HB.out | apply below_alloc | apply pw_below_drewN | apply below_drew1 | refine below_set ?_ GE236.out) | exact HB.out)) hb); clear HO_3; clear BK236; clear HB; have HO_3 := n0_; have HO252 := n1_; have BK236 := n2_; have HB := n3_; clear n0_ n1_ n2_ n3_; (try clear hb); (try clear hb2); (try clear hk); (try clear hi); (try clear ho0)) | ((with_reducible refine gate_dst (N := 7) rfl ?_); (try (refine gate_guard (by rfl) ?_; dsimp only)); refine box_event ?hg (N := 7) ?hd (cs := #[.int .u16 0, .int .u16 0, .int .u16 0, .slice none 0 0]) (t := 26) ?hr ?_; (case hd => rfl); (case hg => rfl); (case hr => first | (go_simp; done) | (go_simp; rfl)); intro gb254 hg w41 hbox hb; have n0_ := Aside0.mk (Kd.R_below (by (with_reducible repeat (first | apply Kd.R_alloc | apply Kd.R_drewN | apply Kd.R_drew)); exact HO_3.out) hb); have n1_ := Aside0.mk (Kd.R_below (by (with_reducible repeat (first | apply Kd.R_alloc | apply Kd.R_drewN | apply Kd.R_drew)); exact HO252.out) hb); have n2_ := Aside0.mk (blk_below (g := gb236) (o := .cells #[.int .u16 a0_0, .int .u16 a0_1, .int .u16 a0_2, .slice A0_3 l0_3.length c0_3] 26 (0, 0)) (by (with_reducible repeat (first | refine blk_drewN ?_ _ | refine blk_drew ?_ | refine blk_alloc ?_ _)); exact BK236.out) hb); have n3_ := Aside0.mk (below_step (by repeat (first | (with_reducible first | exact HB.out | apply below_alloc | apply pw_below_drewN | apply below_drew1 | refine below_set ?_ GE236.out) | exact HB.out)) hb); have n4_ := Aside0.mk (hbox); have n5_ := Aside0.mk ((by rw [hg]; exact (below_size (by repeat (first | (with_reducible first | exact HB.out | apply below_alloc | apply pw_below_drewN | apply below_drew1 | refine below_set ?_ GE236.out) | exact HB.out))) : w.heap.size ≤ gb254)); have n6_ := Aside0.mk ((by rw [hg]; exact (below_size (by repeat (first | (with_reducible first | exact HB.out | apply below_alloc | apply pw_below_drewN | apply below_drew1 | refine below_set ?_ GE236.out) | exact HB.out))) : w.heap.size ≤ gb254)); have n7_ := Aside0.mk ((by rw [hg]; exact Nat.ne_of_lt (blk_lt (g := gb236) (o := .cells #[.int .u16 a0_0, .int .u16 a0_1, .int .u16 a0_2, .slice A0_3 l0_3.length c0_3] 26 (0, 0)) (by (with_reducible repeat (first | refine blk_drewN ?_ _ | refine blk_drew ?_ | refine blk_alloc ?_ _)); exact BK236.out)) : gb236 ≠ gb254)); have n8_ := Aside0.mk ((by rw [hg]; exact Nat.ne_of_gt (blk_lt (g := gb236) (o := .cells #[.int .u16 a0_0, .int .u16 a0_1, .int .u16 a0_2, .slice A0_3 l0_3.length c0_3] 26 (0, 0)) (by (with_reducible repeat (first | refine blk_drewN ?_ _ | refine blk_drew ?_ | refine blk_alloc ?_ _)); exact BK236.out)) : gb254 ≠ gb236)); clear HO_3; clear HO252; clear BK236; clear HB; have HO_3 := n0_; have HO252 := n1_; have BK236 := n2_; have HB := n3_; have BK254 := n4_; have GW254 := n5_; have GE254 := n6_; have NB236_254 := n7_; have NB254_236 := n8_; clear n0_ n1_ n2_ n3_ n4_ n5_ n6_ n7_ n8_; clear hb hbox hg; have hnb42 := NB254_236.out; have hnc42 := NB236_254.out; have hcz43_0 : w41.cell? ⟨gb254, 0, none⟩ = some (.int .u16 0) := (blk_cell BK254.out 0).trans rfl; have hcz43_1 : w41.cell? ⟨gb254, 1, none⟩ = some (.int .u16 0) := (blk_cell BK254.out 1).trans rfl; have hcz43_2 : w41.cell? ⟨gb254, 2, none⟩ = some (.int .u16 0) := (blk_cell BK254.out 2).trans rfl; have hcz43_3 : w41.cell? ⟨gb254, 3, none⟩ = some (.slice none 0 0) := (blk_cell BK254.out 3).trans rfl; have hfz43_0 := blk_frozen BK254.out 0; have hfz43_1 := blk_frozen BK254.out 1; have hfz43_2 := blk_frozen BK254.out 2; have hfz43_3 := blk_frozen BK254.out 3; obtain ⟨Ao44, co44, eo44⟩ := Kd.R_slice HO252.out; subst eo44))
              go_ret
              exact ⟨by first | rfl | (simp [errW_none, errW_some] <;> rfl) | (simp [*, errW_none, errW_some] <;> rfl), by repeat (first | (with_reducible first | exact HB.out | apply below_alloc | apply pw_below_drewN | apply below_drew1 | refine below_set ?_ GE236.out | refine below_set ?_ GE254.out) | exact HB.out)⟩
  · replace c3 := Bool.eq_false_iff.mpr c3
    subst c3
    have H1 : (some false) = some r := by rw [if_neg (show ¬ (false = true) by decide)] at H; exact H
    clear H
    have H := H1
    clear H1
    obtain rfl := Option.some.inj H
    go_enter Try.func4, Try.ntmps4
    go_wp2_with (first | ((with_reducible refine gate_dst (N := 1) rfl ?_); (try (refine gate_guard (by rfl) ?_; dsimp only)); refine box_event ?hg (N := 1) ?hd (cs := #[.int .u16 a0_0, .int .u16 a0_1, .int .u16 a0_2, .slice A0_3 l0_3.length c0_3]) (t := 26) ?hr ?_; (case hd => rfl); (case hg => rfl); (case hr => first | (go_simp; done) | (go_simp; rfl)); intro gb236 hg w45 hbox hb; have n0_ := Aside0.mk (below_step (by repeat (first | (with_reducible first | exact HB.out | apply below_alloc | apply pw_below_drewN | apply below_drew1) | exact HB.out)) hb); have n1_ := Aside0.mk (hbox); have n2_ := Aside0.mk ((by rw [hg]; exact (below_size (by repeat (first | (with_reducible first | exact HB.out | apply below_alloc | apply pw_below_drewN | apply below_drew1) | exact HB.out))) : w.heap.size ≤ gb236)); have n3_ := Aside0.mk ((by rw [hg]; exact (below_size (by repeat (first | (with_reducible first | exact HB.out | apply below_alloc | apply pw_below_drewN | apply below_drew1) | exact HB.out))) : w.heap.size ≤ gb236)); clear HB; have HB := n0_; have BK236 := n1_; have GW236 := n2_; have GE236 := n3_; clear n0_ n1_ n2_ n3_; clear hb hbox hg) | ((with_reducible refine gate_callee (f := 13) rfl ?_); refine goesL_ (some 9) rfl rfl Try.func13 (by kernel_rfl) rfl #[] rfl (by (try simp only [List.map_toArray, List.map_cons, List.map_nil]); first | done | rfl | (simp only [List.length_drop, List.length_take]; rfl) | (go_simp; done) | (simp [Act.eval, IntKind.signed]; done) | (simp [Act.eval, IntKind.signed]; rfl)) ?_; (with_reducible refine (lychlaw4_known.calls k  false _ A2.out).mono ?_); rintro e w46 ⟨rfl, hb⟩; refine ⟨_, rfl, ?_⟩; have n0_ := Aside0.mk (blk_below (g := gb236) (o := .cells #[.int .u16 a0_0, .int .u16 a0_1, .int .u16 a0_2, .slice A0_3 l0_3.length c0_3] 26 (0, 0)) (by (with_reducible repeat (first | refine blk_drewN ?_ _ | refine blk_drew ?_ | refine blk_alloc ?_ _)); exact BK236.out) hb); have n1_ := Aside0.mk (below_step (by repeat (first | (with_reducible first | exact HB.out | apply below_alloc | apply pw_below_drewN | apply below_drew1 | refine below_set ?_ GE236.out) | exact HB.out)) hb); clear BK236; clear HB; have BK236 := n0_; have HB := n1_; clear n0_ n1_; (try clear hb); (try clear hb2); (try clear hk); (try clear hi)))
    go_ret
    exact ⟨by first | rfl | (simp [errW_none, errW_some] <;> rfl) | (simp [*, errW_none, errW_some] <;> rfl), by repeat (first | (with_reducible first | exact HB.out | apply below_alloc | apply pw_below_drewN | apply below_drew1 | refine below_set ?_ GE236.out) | exact HB.out)⟩

end Go.Proofs.Ytnodigdpodiphaa.PA
