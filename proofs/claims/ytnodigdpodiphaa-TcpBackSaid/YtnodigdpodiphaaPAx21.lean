-- written by a patched print
import Derived.Test.YtnodigdpodiphaaPAx0
import Derived.Test.YtnodigdpodiphaaPAx4
import Derived.Test.YtnodigdpodiphaaPAx14
import Derived.Test.YtnodigdpodiphaaPAx15
import Derived.Test.YtnodigdpodiphaaPAx16
import Derived.Test.YtnodigdpodiphaaPAx17
import Derived.Test.YtnodigdpodiphaaPAx20
namespace Go.Proofs.Ytnodigdpodiphaa.PA
open Go.RowKit Go.Proofs.YtnodigdpodiphaaW.PrintWords Go.Proofs.YtnodigdpodiphaaW.PrintLast Go.Proofs.YtnodigdpodiphaaW.PrintMore
attribute [local go_sem] max2_int min2_int max_two min_two max_three min_three max_four min_four   -- for this text's walks alone
set_option linter.unusedVariables false
set_option linter.unusedSimpArgs false

/-! ### lychlaw5_TcpBack: function 10 -/
mutual
def lychlaw5_TcpBack.j0 : Nat → Bool → Int → Int → Int → Int → Int → Int → Int → Int → List Int → List Int → Option (Bool)
  | 0, _, _, _, _, _, _, _, _, _, _, _ => none
  | k + 1, x20, x543000, x543001, x543002, x543003, x543004, x543005, x543006, x543007, x543008, x543009 => if x20 = true then (some true) else ((tcp_Bytes.f k x543000 x543001 x543002 x543003 x543004 x543005 x543006 x543007 x543008 x543009).bind fun bt544 => ((lychref1_TcpBytes.f k x543000 x543001 x543002 x543003 x543004 x543005 x543006 x543007 x543008 x543009).bind fun bt548 => (if bt544.2 = bt548.2 then ((lychhelp_Bytes.f bt544.1 bt548.1).bind fun t552 => (if t552 = true then (lychlaw5_TcpBack.j1 k bt544.1 bt544.2 bt548.2 (bt548.2 != 0) x543000 x543001 x543002 x543003 x543004 x543005 x543006 x543007 x543008 x543009) else (lychlaw5_TcpBack.j1 k bt544.1 bt544.2 bt548.2 true x543000 x543001 x543002 x543003 x543004 x543005 x543006 x543007 x543008 x543009))) else (lychlaw5_TcpBack.j1 k bt544.1 bt544.2 bt548.2 true x543000 x543001 x543002 x543003 x543004 x543005 x543006 x543007 x543008 x543009))))
def lychlaw5_TcpBack.j1 : Nat → List Int → Int → Int → Bool → Int → Int → Int → Int → Int → Int → Int → Int → List Int → List Int → Option (Bool)
  | 0, _, _, _, _, _, _, _, _, _, _, _, _, _, _ => none
  | k + 1, x3, x4, x6, x43, x543000, x543001, x543002, x543003, x543004, x543005, x543006, x543007, x543008, x543009 => if x43 = true then (if x4 = x6 then (if x6 = 0 then (none) else (some ((x3.length : Int) == 0))) else (none)) else ((tcp_Parse.f x3).bind fun bt553 => (if bt553.2.2.2.2.2.2.2.2.2.2 = 0 then ((lychhelp_Tcp.f bt553.1 bt553.2.1 bt553.2.2.1 bt553.2.2.2.1 bt553.2.2.2.2.1 bt553.2.2.2.2.2.1 bt553.2.2.2.2.2.2.1 bt553.2.2.2.2.2.2.2.1 bt553.2.2.2.2.2.2.2.2.1 bt553.2.2.2.2.2.2.2.2.2.1 x543000 x543001 x543002 x543003 x543004 x543005 x543006 x543007 x543008 x543009).bind fun t569 => (some t569)) else (none)))
end
def lychlaw5_TcpBack.f (k : Nat) (a0_0 : Int) (a0_1 : Int) (a0_2 : Int) (a0_3 : Int) (a0_4 : Int) (a0_5 : Int) (a0_6 : Int) (a0_7 : Int) (l0_8 : List Int) (l0_9 : List Int) : Option (Bool) := (lychlaw5_known.f k).bind fun t543 => (if t543 = true then (if (l0_9.length : Int) > 3000 then (lychlaw5_TcpBack.j0 k true a0_0 a0_1 a0_2 a0_3 a0_4 a0_5 a0_6 a0_7 l0_8 l0_9) else (lychlaw5_TcpBack.j0 k (decide ((l0_8.length : Int) > 200)) a0_0 a0_1 a0_2 a0_3 a0_4 a0_5 a0_6 a0_7 l0_8 l0_9)) else (none))
theorem lychlaw5_TcpBack.mono_l : ∀ k, (∀ y0 y1 y2 y3 y4 y5 y6 y7 y8 y9 y10, LeO (lychlaw5_TcpBack.j0 k y0 y1 y2 y3 y4 y5 y6 y7 y8 y9 y10) (lychlaw5_TcpBack.j0 (k + 1) y0 y1 y2 y3 y4 y5 y6 y7 y8 y9 y10)) ∧ (∀ y0 y1 y2 y3 y4 y5 y6 y7 y8 y9 y10 y11 y12 y13, LeO (lychlaw5_TcpBack.j1 k y0 y1 y2 y3 y4 y5 y6 y7 y8 y9 y10 y11 y12 y13) (lychlaw5_TcpBack.j1 (k + 1) y0 y1 y2 y3 y4 y5 y6 y7 y8 y9 y10 y11 y12 y13))
  | 0 => ⟨fun _ _ _ _ _ _ _ _ _ _ _ r h => by simp [lychlaw5_TcpBack.j0] at h, fun _ _ _ _ _ _ _ _ _ _ _ _ _ _ r h => by simp [lychlaw5_TcpBack.j1] at h⟩
  | k + 1 => by
    obtain ⟨ih0, ih1⟩ := lychlaw5_TcpBack.mono_l k
    refine ⟨?_, ?_⟩
    · intro y0 y1 y2 y3 y4 y5 y6 y7 y8 y9 y10
      unfold lychlaw5_TcpBack.j0
      repeat' first
      | (with_reducible exact ih0 _ _ _ _ _ _ _ _ _ _ _)
      | (with_reducible exact ih1 _ _ _ _ _ _ _ _ _ _ _ _ _ _)
      | (with_reducible exact lychlaw5_known.mono _)
      | (with_reducible exact lychref1_TcpBytes.mono _ _ _ _ _ _ _ _ _ _ _)
      | (with_reducible exact tcp_Bytes.mono _ _ _ _ _ _ _ _ _ _ _)
      | (with_reducible exact LeO.refl _)
      | (with_reducible exact LeO.none _)
      | (with_reducible refine LeO.ite ?_ ?_)
      | (with_reducible refine LeO.bind ?_ (fun _ => ?_))
      | exact ih0 _ _ _ _ _ _ _ _ _ _ _
      | exact ih1 _ _ _ _ _ _ _ _ _ _ _ _ _ _
      | exact lychlaw5_known.mono _
      | exact lychref1_TcpBytes.mono _ _ _ _ _ _ _ _ _ _ _
      | exact tcp_Bytes.mono _ _ _ _ _ _ _ _ _ _ _
      | exact LeO.none _
      | refine LeO.ite ?_ ?_
      | refine LeO.bind ?_ (fun _ => ?_)
    · intro y0 y1 y2 y3 y4 y5 y6 y7 y8 y9 y10 y11 y12 y13
      unfold lychlaw5_TcpBack.j1
      repeat' first
      | (with_reducible exact ih0 _ _ _ _ _ _ _ _ _ _ _)
      | (with_reducible exact ih1 _ _ _ _ _ _ _ _ _ _ _ _ _ _)
      | (with_reducible exact lychlaw5_known.mono _)
      | (with_reducible exact lychref1_TcpBytes.mono _ _ _ _ _ _ _ _ _ _ _)
      | (with_reducible exact tcp_Bytes.mono _ _ _ _ _ _ _ _ _ _ _)
      | (with_reducible exact LeO.refl _)
      | (with_reducible exact LeO.none _)
      | (with_reducible refine LeO.ite ?_ ?_)
      | (with_reducible refine LeO.bind ?_ (fun _ => ?_))
      | exact ih0 _ _ _ _ _ _ _ _ _ _ _
      | exact ih1 _ _ _ _ _ _ _ _ _ _ _ _ _ _
      | exact lychlaw5_known.mono _
      | exact lychref1_TcpBytes.mono _ _ _ _ _ _ _ _ _ _ _
      | exact tcp_Bytes.mono _ _ _ _ _ _ _ _ _ _ _
      | exact LeO.none _
      | refine LeO.ite ?_ ?_
      | refine LeO.bind ?_ (fun _ => ?_)
theorem lychlaw5_TcpBack.mono : ∀ a0 a1 a2 a3 a4 a5 a6 a7 a8 a9 k, LeO (lychlaw5_TcpBack.f k a0 a1 a2 a3 a4 a5 a6 a7 a8 a9) (lychlaw5_TcpBack.f (k + 1) a0 a1 a2 a3 a4 a5 a6 a7 a8 a9) := by
  intro a0 a1 a2 a3 a4 a5 a6 a7 a8 a9 k
  obtain ⟨ih0, ih1⟩ := lychlaw5_TcpBack.mono_l k
  unfold lychlaw5_TcpBack.f
  repeat' first
      | (with_reducible exact ih0 _ _ _ _ _ _ _ _ _ _ _)
      | (with_reducible exact ih1 _ _ _ _ _ _ _ _ _ _ _ _ _ _)
      | (with_reducible exact lychlaw5_known.mono _)
      | (with_reducible exact lychref1_TcpBytes.mono _ _ _ _ _ _ _ _ _ _ _)
      | (with_reducible exact tcp_Bytes.mono _ _ _ _ _ _ _ _ _ _ _)
      | (with_reducible exact LeO.refl _)
      | (with_reducible exact LeO.none _)
      | (with_reducible refine LeO.ite ?_ ?_)
      | (with_reducible refine LeO.bind ?_ (fun _ => ?_))
      | exact ih0 _ _ _ _ _ _ _ _ _ _ _
      | exact ih1 _ _ _ _ _ _ _ _ _ _ _ _ _ _
      | exact lychlaw5_known.mono _
      | exact lychref1_TcpBytes.mono _ _ _ _ _ _ _ _ _ _ _
      | exact tcp_Bytes.mono _ _ _ _ _ _ _ _ _ _ _
      | exact LeO.none _
      | refine LeO.ite ?_ ?_
      | refine LeO.bind ?_ (fun _ => ?_)
set_option maxHeartbeats 8000000 in
set_option maxRecDepth 100000 in
theorem lychlaw5_TcpBack.calls (k : Nat) (a0_0 : Int) (a0_1 : Int) (a0_2 : Int) (a0_3 : Int) (a0_4 : Int) (a0_5 : Int) (a0_6 : Int) (a0_7 : Int) (A0_8 : Option Addr) (c0_8 : Nat) (l0_8 : List Int) (A0_9 : Option Addr) (c0_9 : Nat) (l0_9 : List Int) (r : Bool) (w : World) (hr0_8 : Kd.C (Kd.int .u8) w A0_8 l0_8.length l0_8) (hc0_8 : l0_8.length ≤ c0_8) (hr0_9 : Kd.C (Kd.int .u8) w A0_9 l0_9.length l0_9) (hc0_9 : l0_9.length ≤ c0_9) (h : lychlaw5_TcpBack.f k a0_0 a0_1 a0_2 a0_3 a0_4 a0_5 a0_6 a0_7 l0_8 l0_9 = some r) :
    Calls Try.prog 10 #[.agg #[.int .u16 a0_0, .int .u16 a0_1, .int .u32 a0_2, .int .u32 a0_3, .int .u8 a0_4, .int .u16 a0_5, .int .u16 a0_6, .int .u16 a0_7, .slice A0_8 l0_8.length c0_8, .slice A0_9 l0_9.length c0_9]] w fun e w' => e = .returned (.bool r) ∧ Below w.heap.size w w' := by
  have hu49 := Try.underlying49
  have HR0_8 := Aside0.mk hr0_8
  have HC0_8 := Aside0.mk hc0_8
  clear hr0_8 hc0_8
  have HR0_9 := Aside0.mk hr0_9
  have HC0_9 := Aside0.mk hc0_9
  clear hr0_9 hc0_9
  have HB := Aside0.mk (Below.refl w.heap.size w)
  have H : ((lychlaw5_known.f k).bind fun t543 => (if t543 = true then (if (l0_9.length : Int) > 3000 then (lychlaw5_TcpBack.j0 k true a0_0 a0_1 a0_2 a0_3 a0_4 a0_5 a0_6 a0_7 l0_8 l0_9) else (lychlaw5_TcpBack.j0 k (decide ((l0_8.length : Int) > 200)) a0_0 a0_1 a0_2 a0_3 a0_4 a0_5 a0_6 a0_7 l0_8 l0_9)) else (none))) = some r := h
  clear h
  replace H := Option.bind_eq_some_iff.mp H
  obtain ⟨t543, A20, H⟩ := H
  replace H : (if t543 = true then (if (l0_9.length : Int) > 3000 then (lychlaw5_TcpBack.j0 k true a0_0 a0_1 a0_2 a0_3 a0_4 a0_5 a0_6 a0_7 l0_8 l0_9) else (lychlaw5_TcpBack.j0 k (decide ((l0_8.length : Int) > 200)) a0_0 a0_1 a0_2 a0_3 a0_4 a0_5 a0_6 a0_7 l0_8 l0_9)) else (none)) = some r := H
  have A2 := Aside0.mk A20
  clear A20
  by_cases c3 : t543 = true
  · subst c3
    have H1 : (if (l0_9.length : Int) > 3000 then (lychlaw5_TcpBack.j0 k true a0_0 a0_1 a0_2 a0_3 a0_4 a0_5 a0_6 a0_7 l0_8 l0_9) else (lychlaw5_TcpBack.j0 k (decide ((l0_8.length : Int) > 200)) a0_0 a0_1 a0_2 a0_3 a0_4 a0_5 a0_6 a0_7 l0_8 l0_9)) = some r := by rw [if_pos rfl] at H; exact H
    clear H
    have H := H1
    clear H1
    have HC4 := Aside0.mk H
    clear H
    go_enter Try.func10, Try.ntmps10
    go_upto_region 3 with (first | ((with_reducible refine gate_dst (N := 1) rfl ?_); (try (refine gate_guard (by rfl) ?_; dsimp only)); refine box_event ?hg (N := 1) ?hd (cs := #[.int .u16 a0_0, .int .u16 a0_1, .int .u32 a0_2, .int .u32 a0_3, .int .u8 a0_4, .int .u16 a0_5, .int .u16 a0_6, .int .u16 a0_7, .slice A0_8 l0_8.length c0_8, .slice A0_9 l0_9.length c0_9]) (t := 49) ?hr ?_; (case hd => rfl); (case hg => rfl); (case hr => first | (go_simp; done) | (go_simp; rfl)); intro gb542 hg w5 hbox hb; have n0_ := Aside0.mk (below_step (by repeat (first | (with_reducible first | exact HB.out | apply below_alloc | apply pw_below_drewN | apply below_drew1) | exact HB.out)) hb); have n1_ := Aside0.mk (hbox); have n2_ := Aside0.mk ((by rw [hg]; exact (below_size (by repeat (first | (with_reducible first | exact HB.out | apply below_alloc | apply pw_below_drewN | apply below_drew1) | exact HB.out))) : w.heap.size ≤ gb542)); have n3_ := Aside0.mk ((by rw [hg]; exact (below_size (by repeat (first | (with_reducible first | exact HB.out | apply below_alloc | apply pw_below_drewN | apply below_drew1) | exact HB.out))) : w.heap.size ≤ gb542)); clear HB; have HB := n0_; have BK542 := n1_; have GW542 := n2_; have GE542 := n3_; clear n0_ n1_ n2_ n3_; clear hb hbox hg) | ((with_reducible refine gate_callee (f := 25) rfl ?_); refine goesL_ (some 9) rfl rfl Try.func25 (by kernel_rfl) rfl #[] rfl (by (try simp only [List.map_toArray, List.map_cons, List.map_nil]); first | done | rfl | (simp only [List.length_drop, List.length_take]; rfl) | (go_simp; done) | (simp [Act.eval, IntKind.signed]; done) | (simp [Act.eval, IntKind.signed]; rfl)) ?_; (with_reducible refine (lychlaw5_known.calls k  true _ A2.out).mono ?_); rintro e w6 ⟨rfl, hb⟩; refine ⟨_, rfl, ?_⟩; have n0_ := Aside0.mk (blk_below (g := gb542) (o := .cells #[.int .u16 a0_0, .int .u16 a0_1, .int .u32 a0_2, .int .u32 a0_3, .int .u8 a0_4, .int .u16 a0_5, .int .u16 a0_6, .int .u16 a0_7, .slice A0_8 l0_8.length c0_8, .slice A0_9 l0_9.length c0_9] 49 (0, 0)) (by (with_reducible repeat (first | refine blk_drewN ?_ _ | refine blk_drew ?_ | refine blk_alloc ?_ _)); exact BK542.out) hb); have n1_ := Aside0.mk (below_step (by repeat (first | (with_reducible first | exact HB.out | apply below_alloc | apply pw_below_drewN | apply below_drew1 | refine below_set ?_ GE542.out) | exact HB.out)) hb); clear BK542; clear HB; have BK542 := n0_; have HB := n1_; clear n0_ n1_; (try clear hb); (try clear hb2); (try clear hk); (try clear hi)))
    (try simp only [Act.put, List.setIfInBounds_toArray, List.set_cons_zero, List.set_cons_succ])
    go_cut [20] (fun v20 wc => ∃ (kq : Nat) (x20_3 : Bool), v20 = .bool x20_3 ∧ Aside0 (lychlaw5_TcpBack.j0 kq x20_3 a0_0 a0_1 a0_2 a0_3 a0_4 a0_5 a0_6 a0_7 l0_8 l0_9 = some r) ∧ Aside0 (kq ≤ k) ∧ Aside0 (wc.heap[gb542]? = some (.cells #[.int .u16 a0_0, .int .u16 a0_1, .int .u32 a0_2, .int .u32 a0_3, .int .u8 a0_4, .int .u16 a0_5, .int .u16 a0_6, .int .u16 a0_7, (.slice A0_8 l0_8.length c0_8), (.slice A0_9 l0_9.length c0_9)] 49 (0, 0))) ∧ Aside0 (Below w.heap.size w wc))
    case first =>
      have H := HC4.out
      clear HC4
      by_cases c7 : (l0_9.length : Int) > 3000
      · rw [if_pos c7] at H
        have c7b0 : decide (3000 < (l0_9.length : Int)) = true := decide_eq_true c7
        have c7b1 : decide (3000 < l0_9.length) = true := decide_eq_true (by omega)
        clear c7
        (first | rw [c7b0] | (simp only [i64_w, i32_w]; rw [c7b0]) | skip)
        have H' := Aside0.mk H
        clear H
        have hcz8_0 : w6.cell? ⟨gb542, 0, none⟩ = some (.int .u16 a0_0) := (blk_cell BK542.out 0).trans rfl
        have hcz8_1 : w6.cell? ⟨gb542, 1, none⟩ = some (.int .u16 a0_1) := (blk_cell BK542.out 1).trans rfl
        have hcz8_2 : w6.cell? ⟨gb542, 2, none⟩ = some (.int .u32 a0_2) := (blk_cell BK542.out 2).trans rfl
        have hcz8_3 : w6.cell? ⟨gb542, 3, none⟩ = some (.int .u32 a0_3) := (blk_cell BK542.out 3).trans rfl
        have hcz8_4 : w6.cell? ⟨gb542, 4, none⟩ = some (.int .u8 a0_4) := (blk_cell BK542.out 4).trans rfl
        have hcz8_5 : w6.cell? ⟨gb542, 5, none⟩ = some (.int .u16 a0_5) := (blk_cell BK542.out 5).trans rfl
        have hcz8_6 : w6.cell? ⟨gb542, 6, none⟩ = some (.int .u16 a0_6) := (blk_cell BK542.out 6).trans rfl
        have hcz8_7 : w6.cell? ⟨gb542, 7, none⟩ = some (.int .u16 a0_7) := (blk_cell BK542.out 7).trans rfl
        have hcz8_8 : w6.cell? ⟨gb542, 8, none⟩ = some (.slice A0_8 l0_8.length c0_8) := (blk_cell BK542.out 8).trans rfl
        have hcz8_9 : w6.cell? ⟨gb542, 9, none⟩ = some (.slice A0_9 l0_9.length c0_9) := (blk_cell BK542.out 9).trans rfl
        have hfz8_0 := blk_frozen BK542.out 0
        have hfz8_1 := blk_frozen BK542.out 1
        have hfz8_2 := blk_frozen BK542.out 2
        have hfz8_3 := blk_frozen BK542.out 3
        have hfz8_4 := blk_frozen BK542.out 4
        have hfz8_5 := blk_frozen BK542.out 5
        have hfz8_6 := blk_frozen BK542.out 6
        have hfz8_7 := blk_frozen BK542.out 7
        have hfz8_8 := blk_frozen BK542.out 8
        have hfz8_9 := blk_frozen BK542.out 9
        go_wp2
        go_meet
        case rel => exact ⟨_, (true), (by first | rfl | (simp; done) | (simp [*]; done)), H', ⟨by first | omega | exact Nat.le_refl _⟩, ⟨by (with_reducible repeat (first | refine blk_drewN ?_ _ | refine blk_drew ?_ | refine blk_alloc ?_ _)); exact BK542.out⟩, ⟨by repeat (first | (with_reducible first | exact HB.out | apply below_alloc | apply pw_below_drewN | apply below_drew1 | refine below_set ?_ GE542.out) | exact HB.out)⟩⟩
      · rw [if_neg c7] at H
        have c7b0 : decide (3000 < (l0_9.length : Int)) = false := decide_eq_false c7
        have c7b1 : decide (3000 < l0_9.length) = false := decide_eq_false (by omega)
        clear c7
        (first | rw [c7b0] | (simp only [i64_w, i32_w]; rw [c7b0]) | skip)
        have H' := Aside0.mk H
        clear H
        have hcz9_0 : w6.cell? ⟨gb542, 0, none⟩ = some (.int .u16 a0_0) := (blk_cell BK542.out 0).trans rfl
        have hcz9_1 : w6.cell? ⟨gb542, 1, none⟩ = some (.int .u16 a0_1) := (blk_cell BK542.out 1).trans rfl
        have hcz9_2 : w6.cell? ⟨gb542, 2, none⟩ = some (.int .u32 a0_2) := (blk_cell BK542.out 2).trans rfl
        have hcz9_3 : w6.cell? ⟨gb542, 3, none⟩ = some (.int .u32 a0_3) := (blk_cell BK542.out 3).trans rfl
        have hcz9_4 : w6.cell? ⟨gb542, 4, none⟩ = some (.int .u8 a0_4) := (blk_cell BK542.out 4).trans rfl
        have hcz9_5 : w6.cell? ⟨gb542, 5, none⟩ = some (.int .u16 a0_5) := (blk_cell BK542.out 5).trans rfl
        have hcz9_6 : w6.cell? ⟨gb542, 6, none⟩ = some (.int .u16 a0_6) := (blk_cell BK542.out 6).trans rfl
        have hcz9_7 : w6.cell? ⟨gb542, 7, none⟩ = some (.int .u16 a0_7) := (blk_cell BK542.out 7).trans rfl
        have hcz9_8 : w6.cell? ⟨gb542, 8, none⟩ = some (.slice A0_8 l0_8.length c0_8) := (blk_cell BK542.out 8).trans rfl
        have hcz9_9 : w6.cell? ⟨gb542, 9, none⟩ = some (.slice A0_9 l0_9.length c0_9) := (blk_cell BK542.out 9).trans rfl
        have hfz9_0 := blk_frozen BK542.out 0
        have hfz9_1 := blk_frozen BK542.out 1
        have hfz9_2 := blk_frozen BK542.out 2
        have hfz9_3 := blk_frozen BK542.out 3
        have hfz9_4 := blk_frozen BK542.out 4
        have hfz9_5 := blk_frozen BK542.out 5
        have hfz9_6 := blk_frozen BK542.out 6
        have hfz9_7 := blk_frozen BK542.out 7
        have hfz9_8 := blk_frozen BK542.out 8
        have hfz9_9 := blk_frozen BK542.out 9
        go_wp2
        go_meet
        case rel => exact ⟨_, (decide ((l0_8.length : Int) > 200)), (by first | rfl | (simp; done) | (simp [*]; done)), H', ⟨by first | omega | exact Nat.le_refl _⟩, ⟨by (with_reducible repeat (first | refine blk_drewN ?_ _ | refine blk_drew ?_ | refine blk_alloc ?_ _)); exact BK542.out⟩, ⟨by repeat (first | (with_reducible first | exact HB.out | apply below_alloc | apply pw_below_drewN | apply below_drew1 | refine below_set ?_ GE542.out) | exact HB.out)⟩⟩
    case rest =>
      clear HC4
      try clear c1
      try clear c2
      try clear p2
      try clear c3
      try clear c7
      try clear c7b0
      try clear c7b1
      try clear hcz8_0
      try clear hcz8_1
      try clear hcz8_2
      try clear hcz8_3
      try clear hcz8_4
      try clear hcz8_5
      try clear hcz8_6
      try clear hcz8_7
      try clear hcz8_8
      try clear hcz8_9
      try clear hcz9_0
      try clear hcz9_1
      try clear hcz9_2
      try clear hcz9_3
      try clear hcz9_4
      try clear hcz9_5
      try clear hcz9_6
      try clear hcz9_7
      try clear hcz9_8
      try clear hcz9_9
      try clear hfz8_0
      try clear hfz8_1
      try clear hfz8_2
      try clear hfz8_3
      try clear hfz8_4
      try clear hfz8_5
      try clear hfz8_6
      try clear hfz8_7
      try clear hfz8_8
      try clear hfz8_9
      try clear hfz9_0
      try clear hfz9_1
      try clear hfz9_2
      try clear hfz9_3
      try clear hfz9_4
      try clear hfz9_5
      try clear hfz9_6
      try clear hfz9_7
      try clear hfz9_8
      try clear hfz9_9
      obtain ⟨kq, x20_3, rfl, HA, HJ3, BK542, HB⟩ := hcut
      cases kq with
      | zero => exact absurd HA.out (by simp [lychlaw5_TcpBack.j0])
      | succ kj3 =>
        have H := HA.out
        clear HA
        simp only [lychlaw5_TcpBack.j0] at H
        by_cases c10 : x20_3 = true
        · subst c10
          have H1 : (some true) = some r := by rw [if_pos rfl] at H; exact H
          clear H
          have H := H1
          clear H1
          obtain rfl := Option.some.inj H
          go_wp2
          go_ret
          exact ⟨by first | rfl | (simp [errW_none, errW_some] <;> rfl) | (simp [*, errW_none, errW_some] <;> rfl), by repeat (first | (with_reducible first | exact HB.out | apply below_alloc | apply pw_below_drewN | apply below_drew1 | refine below_set ?_ GE542.out) | exact HB.out)⟩
        · replace c10 := Bool.eq_false_iff.mpr c10
          subst c10
          have H1 : ((tcp_Bytes.f kj3 a0_0 a0_1 a0_2 a0_3 a0_4 a0_5 a0_6 a0_7 l0_8 l0_9).bind fun bt544 => ((lychref1_TcpBytes.f kj3 a0_0 a0_1 a0_2 a0_3 a0_4 a0_5 a0_6 a0_7 l0_8 l0_9).bind fun bt548 => (if bt544.2 = bt548.2 then ((lychhelp_Bytes.f bt544.1 bt548.1).bind fun t552 => (if t552 = true then (lychlaw5_TcpBack.j1 kj3 bt544.1 bt544.2 bt548.2 (bt548.2 != 0) a0_0 a0_1 a0_2 a0_3 a0_4 a0_5 a0_6 a0_7 l0_8 l0_9) else (lychlaw5_TcpBack.j1 kj3 bt544.1 bt544.2 bt548.2 true a0_0 a0_1 a0_2 a0_3 a0_4 a0_5 a0_6 a0_7 l0_8 l0_9))) else (lychlaw5_TcpBack.j1 kj3 bt544.1 bt544.2 bt548.2 true a0_0 a0_1 a0_2 a0_3 a0_4 a0_5 a0_6 a0_7 l0_8 l0_9)))) = some r := by rw [if_neg (show ¬ (false = true) by decide)] at H; exact H
          clear H
          have H := H1
          clear H1
          replace H := Option.bind_eq_some_iff.mp H
          obtain ⟨⟨t544, t547⟩, A110, H⟩ := H
          replace H : ((lychref1_TcpBytes.f kj3 a0_0 a0_1 a0_2 a0_3 a0_4 a0_5 a0_6 a0_7 l0_8 l0_9).bind fun bt548 => (if t547 = bt548.2 then ((lychhelp_Bytes.f t544 bt548.1).bind fun t552 => (if t552 = true then (lychlaw5_TcpBack.j1 kj3 t544 t547 bt548.2 (bt548.2 != 0) a0_0 a0_1 a0_2 a0_3 a0_4 a0_5 a0_6 a0_7 l0_8 l0_9) else (lychlaw5_TcpBack.j1 kj3 t544 t547 bt548.2 true a0_0 a0_1 a0_2 a0_3 a0_4 a0_5 a0_6 a0_7 l0_8 l0_9))) else (lychlaw5_TcpBack.j1 kj3 t544 t547 bt548.2 true a0_0 a0_1 a0_2 a0_3 a0_4 a0_5 a0_6 a0_7 l0_8 l0_9))) = some r := H
          have A11 := Aside0.mk A110
          clear A110
          replace H := Option.bind_eq_some_iff.mp H
          obtain ⟨⟨t548, t551⟩, A120, H⟩ := H
          replace H : (if t547 = t551 then ((lychhelp_Bytes.f t544 t548).bind fun t552 => (if t552 = true then (lychlaw5_TcpBack.j1 kj3 t544 t547 t551 (t551 != 0) a0_0 a0_1 a0_2 a0_3 a0_4 a0_5 a0_6 a0_7 l0_8 l0_9) else (lychlaw5_TcpBack.j1 kj3 t544 t547 t551 true a0_0 a0_1 a0_2 a0_3 a0_4 a0_5 a0_6 a0_7 l0_8 l0_9))) else (lychlaw5_TcpBack.j1 kj3 t544 t547 t551 true a0_0 a0_1 a0_2 a0_3 a0_4 a0_5 a0_6 a0_7 l0_8 l0_9)) = some r := H
          have A12 := Aside0.mk A120
          clear A120
          have HC13 := Aside0.mk H
          clear H
          have hcz14_0 : wc.cell? ⟨gb542, 0, none⟩ = some (.int .u16 a0_0) := (blk_cell BK542.out 0).trans rfl
          have hcz14_1 : wc.cell? ⟨gb542, 1, none⟩ = some (.int .u16 a0_1) := (blk_cell BK542.out 1).trans rfl
          have hcz14_2 : wc.cell? ⟨gb542, 2, none⟩ = some (.int .u32 a0_2) := (blk_cell BK542.out 2).trans rfl
          have hcz14_3 : wc.cell? ⟨gb542, 3, none⟩ = some (.int .u32 a0_3) := (blk_cell BK542.out 3).trans rfl
          have hcz14_4 : wc.cell? ⟨gb542, 4, none⟩ = some (.int .u8 a0_4) := (blk_cell BK542.out 4).trans rfl
          have hcz14_5 : wc.cell? ⟨gb542, 5, none⟩ = some (.int .u16 a0_5) := (blk_cell BK542.out 5).trans rfl
          have hcz14_6 : wc.cell? ⟨gb542, 6, none⟩ = some (.int .u16 a0_6) := (blk_cell BK542.out 6).trans rfl
          have hcz14_7 : wc.cell? ⟨gb542, 7, none⟩ = some (.int .u16 a0_7) := (blk_cell BK542.out 7).trans rfl
          have hcz14_8 : wc.cell? ⟨gb542, 8, none⟩ = some (.slice A0_8 l0_8.length c0_8) := (blk_cell BK542.out 8).trans rfl
          have hcz14_9 : wc.cell? ⟨gb542, 9, none⟩ = some (.slice A0_9 l0_9.length c0_9) := (blk_cell BK542.out 9).trans rfl
          have hfz14_0 := blk_frozen BK542.out 0
          have hfz14_1 := blk_frozen BK542.out 1
          have hfz14_2 := blk_frozen BK542.out 2
          have hfz14_3 := blk_frozen BK542.out 3
          have hfz14_4 := blk_frozen BK542.out 4
          have hfz14_5 := blk_frozen BK542.out 5
          have hfz14_6 := blk_frozen BK542.out 6
          have hfz14_7 := blk_frozen BK542.out 7
          have hfz14_8 := blk_frozen BK542.out 8
          have hfz14_9 := blk_frozen BK542.out 9
          go_upto_region 7 with (first | ((with_reducible refine gate_callee (f := 29) rfl ?_); refine goesL_ (some 23) rfl rfl Try.func29 (by kernel_rfl) rfl #[.agg #[.int .u16 a0_0, .int .u16 a0_1, .int .u32 a0_2, .int .u32 a0_3, .int .u8 a0_4, .int .u16 a0_5, .int .u16 a0_6, .int .u16 a0_7, .slice A0_8 l0_8.length c0_8, .slice A0_9 l0_9.length c0_9]] rfl (by (try simp only [List.map_toArray, List.map_cons, List.map_nil]); first | done | rfl | (simp only [List.length_drop, List.length_take]; rfl) | (go_simp; done) | (simp [Act.eval, IntKind.signed]; done) | (simp [Act.eval, IntKind.signed]; rfl)) ?_; (with_reducible refine (tcp_Bytes.calls kj3 a0_0 a0_1 a0_2 a0_3 a0_4 a0_5 a0_6 a0_7 (fun k_ => k_ < w.heap.size) _ _ l0_8 (fun k_ => k_ < w.heap.size) _ _ l0_9 t544 t547 _ ?side1 ?side2 A11.out).mono ?_); (case side1 => exact Kd.V_mk HC0_8.out (Kd.F_below (Kd.C_F (Kd.heap_int .u8) HR0_8.out) (by repeat (first | (with_reducible first | exact HB.out | apply below_alloc | apply pw_below_drewN | apply below_drew1 | refine below_set ?_ GE542.out) | exact HB.out)))); (case side2 => exact Kd.V_mk HC0_9.out (Kd.F_below (Kd.C_F (Kd.heap_int .u8) HR0_9.out) (by repeat (first | (with_reducible first | exact HB.out | apply below_alloc | apply pw_below_drewN | apply below_drew1 | refine below_set ?_ GE542.out) | exact HB.out)))); rintro e w15 ⟨v545, rfl, ho0, hb⟩; refine ⟨_, rfl, ?_⟩; have n0_ := Aside0.mk (Kd.R_lower (Kd.R_mono (ok' := fun k_ => True) ho0 (fun _ hk_ => trivial)) (below_size (by repeat (first | (with_reducible first | exact HB.out | apply below_alloc | apply pw_below_drewN | apply below_drew1 | refine below_set ?_ GE542.out) | exact HB.out)))); have n1_ := Aside0.mk (blk_below (g := gb542) (o := .cells #[.int .u16 a0_0, .int .u16 a0_1, .int .u32 a0_2, .int .u32 a0_3, .int .u8 a0_4, .int .u16 a0_5, .int .u16 a0_6, .int .u16 a0_7, .slice A0_8 l0_8.length c0_8, .slice A0_9 l0_9.length c0_9] 49 (0, 0)) (by (with_reducible repeat (first | refine blk_drewN ?_ _ | refine blk_drew ?_ | refine blk_alloc ?_ _)); exact BK542.out) hb); have n2_ := Aside0.mk (below_step (by repeat (first | (with_reducible first | exact HB.out | apply below_alloc | apply pw_below_drewN | apply below_drew1 | refine below_set ?_ GE542.out) | exact HB.out)) hb); clear BK542; clear HB; have HO546 := n0_; have BK542 := n1_; have HB := n2_; clear n0_ n1_ n2_; (try clear hb); (try clear hb2); (try clear hk); (try clear hi); (try clear ho0); have hcz16_0 : w15.cell? ⟨gb542, 0, none⟩ = some (.int .u16 a0_0) := (blk_cell BK542.out 0).trans rfl; have hcz16_1 : w15.cell? ⟨gb542, 1, none⟩ = some (.int .u16 a0_1) := (blk_cell BK542.out 1).trans rfl; have hcz16_2 : w15.cell? ⟨gb542, 2, none⟩ = some (.int .u32 a0_2) := (blk_cell BK542.out 2).trans rfl; have hcz16_3 : w15.cell? ⟨gb542, 3, none⟩ = some (.int .u32 a0_3) := (blk_cell BK542.out 3).trans rfl; have hcz16_4 : w15.cell? ⟨gb542, 4, none⟩ = some (.int .u8 a0_4) := (blk_cell BK542.out 4).trans rfl; have hcz16_5 : w15.cell? ⟨gb542, 5, none⟩ = some (.int .u16 a0_5) := (blk_cell BK542.out 5).trans rfl; have hcz16_6 : w15.cell? ⟨gb542, 6, none⟩ = some (.int .u16 a0_6) := (blk_cell BK542.out 6).trans rfl; have hcz16_7 : w15.cell? ⟨gb542, 7, none⟩ = some (.int .u16 a0_7) := (blk_cell BK542.out 7).trans rfl; have hcz16_8 : w15.cell? ⟨gb542, 8, none⟩ = some (.slice A0_8 l0_8.length c0_8) := (blk_cell BK542.out 8).trans rfl; have hcz16_9 : w15.cell? ⟨gb542, 9, none⟩ = some (.slice A0_9 l0_9.length c0_9) := (blk_cell BK542.out 9).trans rfl; have hfz16_0 := blk_frozen BK542.out 0; have hfz16_1 := blk_frozen BK542.out 1; have hfz16_2 := blk_frozen BK542.out 2; have hfz16_3 := blk_frozen BK542.out 3; have hfz16_4 := blk_frozen BK542.out 4; have hfz16_5 := blk_frozen BK542.out 5; have hfz16_6 := blk_frozen BK542.out 6; have hfz16_7 := blk_frozen BK542.out 7; have hfz16_8 := blk_frozen BK542.out 8; have hfz16_9 := blk_frozen BK542.out 9) | ((with_reducible refine gate_callee (f := 30) rfl ?_); refine goesL_ (some 28) rfl rfl Try.func30 (by kernel_rfl) rfl #[.agg #[.int .u16 a0_0, .int .u16 a0_1, .int .u32 a0_2, .int .u32 a0_3, .int .u8 a0_4, .int .u16 a0_5, .int .u16 a0_6, .int .u16 a0_7, .slice A0_8 l0_8.length c0_8, .slice A0_9 l0_9.length c0_9]] rfl (by (try simp only [List.map_toArray, List.map_cons, List.map_nil]); first | done | rfl | (simp only [List.length_drop, List.length_take]; rfl) | (go_simp; done) | (simp [Act.eval, IntKind.signed]; done) | (simp [Act.eval, IntKind.signed]; rfl)) ?_; (with_reducible refine (lychref1_TcpBytes.calls kj3 a0_0 a0_1 a0_2 a0_3 a0_4 a0_5 a0_6 a0_7 _ _ l0_8 _ _ l0_9 t548 t551 _ ?side1 ?side2 ?side3 ?side4 A12.out).mono ?_); (case side1 => repeat (first | exact (Kd.C_below HR0_8.out HB.out) | (with_reducible refine Kd.C_alloc ?_ _) | (with_reducible refine Kd.C_drewN ?_ _) | (with_reducible refine Kd.C_drew ?_))); (case side2 => exact HC0_8.out); (case side3 => repeat (first | exact (Kd.C_below HR0_9.out HB.out) | (with_reducible refine Kd.C_alloc ?_ _) | (with_reducible refine Kd.C_drewN ?_ _) | (with_reducible refine Kd.C_drew ?_))); (case side4 => exact HC0_9.out); rintro e w17 ⟨v549, rfl, ho0, hb⟩; refine ⟨_, rfl, ?_⟩; have n0_ := Aside0.mk (Kd.R_elder' (by (with_reducible repeat (first | apply Kd.R_alloc | apply Kd.R_drewN | apply Kd.R_drew)); exact HO546.out) (Kd.R_base ho0) hb); have n1_ := Aside0.mk (Kd.R_lower (Kd.R_new' ho0 (Kd.R_lt (by (with_reducible repeat (first | apply Kd.R_alloc | apply Kd.R_drewN | apply Kd.R_drew)); exact HO546.out))) (below_size (by repeat (first | (with_reducible first | exact HB.out | apply below_alloc | apply pw_below_drewN | apply below_drew1 | refine below_set ?_ GE542.out) | exact HB.out)))); have n2_ := Aside0.mk (blk_below (g := gb542) (o := .cells #[.int .u16 a0_0, .int .u16 a0_1, .int .u32 a0_2, .int .u32 a0_3, .int .u8 a0_4, .int .u16 a0_5, .int .u16 a0_6, .int .u16 a0_7, .slice A0_8 l0_8.length c0_8, .slice A0_9 l0_9.length c0_9] 49 (0, 0)) (by (with_reducible repeat (first | refine blk_drewN ?_ _ | refine blk_drew ?_ | refine blk_alloc ?_ _)); exact BK542.out) hb); have n3_ := Aside0.mk (below_step (by repeat (first | (with_reducible first | exact HB.out | apply below_alloc | apply pw_below_drewN | apply below_drew1 | refine below_set ?_ GE542.out) | exact HB.out)) hb); clear HO546; clear BK542; clear HB; have HO546 := n0_; have HO550 := n1_; have BK542 := n2_; have HB := n3_; clear n0_ n1_ n2_ n3_; (try clear hb); (try clear hb2); (try clear hk); (try clear hi); (try clear ho0)))
          (try simp only [Act.put, List.setIfInBounds_toArray, List.set_cons_zero, List.set_cons_succ])
          go_cut [43] (fun v43 wc => ∃ (kq : Nat) (x43_12 : Bool), v43 = .bool x43_12 ∧ Aside0 (lychlaw5_TcpBack.j1 kq t544 t547 t551 x43_12 a0_0 a0_1 a0_2 a0_3 a0_4 a0_5 a0_6 a0_7 l0_8 l0_9 = some r) ∧ Aside0 (kq ≤ kj3) ∧ Aside0 (Kd.R (Kd.int .u8) 5 wc w.heap.size (fun _ => True) v545 t544) ∧ Aside0 (wc.heap[gb542]? = some (.cells #[.int .u16 a0_0, .int .u16 a0_1, .int .u32 a0_2, .int .u32 a0_3, .int .u8 a0_4, .int .u16 a0_5, .int .u16 a0_6, .int .u16 a0_7, (.slice A0_8 l0_8.length c0_8), (.slice A0_9 l0_9.length c0_9)] 49 (0, 0))) ∧ Aside0 (Below w.heap.size w wc))
          case first =>
            have H := HC13.out
            clear HC13
            by_cases c18 : t547 = t551
            · rw [if_pos c18] at H
              have c18b0 : (t547 == t551) = true := beq_iff_eq.mpr c18
              have c18b1 : (t547 != t551) = false := bne_eq_false_iff_eq.mpr c18
              clear c18
              (first | rw [c18b0] | (simp only [i64_w, i32_w]; rw [c18b0]) | skip)
              replace H := Option.bind_eq_some_iff.mp H
              obtain ⟨t552, A190, H⟩ := H
              replace H : (if t552 = true then (lychlaw5_TcpBack.j1 kj3 t544 t547 t551 (t551 != 0) a0_0 a0_1 a0_2 a0_3 a0_4 a0_5 a0_6 a0_7 l0_8 l0_9) else (lychlaw5_TcpBack.j1 kj3 t544 t547 t551 true a0_0 a0_1 a0_2 a0_3 a0_4 a0_5 a0_6 a0_7 l0_8 l0_9)) = some r := H
              have A19 := Aside0.mk A190
              clear A190
              by_cases c20 : t552 = true
              · subst c20
                have H1 : (lychlaw5_TcpBack.j1 kj3 t544 t547 t551 (t551 != 0) a0_0 a0_1 a0_2 a0_3 a0_4 a0_5 a0_6 a0_7 l0_8 l0_9) = some r := by rw [if_pos rfl] at H; exact H
                clear H
                have H := H1
                clear H1
                have H' := Aside0.mk H
                clear H
                obtain ⟨Ao21, co21, eo21⟩ := Kd.R_slice HO546.out
                subst eo21
                obtain ⟨Ao22, co22, eo22⟩ := Kd.R_slice HO550.out
                subst eo22
                go_wp2_with (first | (go_at_call 19; (with_reducible refine (lychhelp_Bytes.calls _ _ t544 _ _ t548 true _ ?side1 ?side2 ?side3 ?side4 A19.out).mono ?_); (case side1 => repeat (first | exact (Kd.R_reads' HO546.out).2.2 | (with_reducible refine Kd.C_alloc ?_ _) | (with_reducible refine Kd.C_drewN ?_ _) | (with_reducible refine Kd.C_drew ?_))); (case side2 => exact (Kd.R_reads' HO546.out).2.1); (case side3 => repeat (first | exact (Kd.R_reads' HO550.out).2.2 | (with_reducible refine Kd.C_alloc ?_ _) | (with_reducible refine Kd.C_drewN ?_ _) | (with_reducible refine Kd.C_drew ?_))); (case side4 => exact (Kd.R_reads' HO550.out).2.1); rintro e w' ⟨rfl, ⟨nd, rfl⟩⟩))
                go_meet
                case rel => exact ⟨_, ((t551 != 0)), (by first | rfl | (simp; done) | (simp [*]; done)), H', ⟨by have := HJ3.out; first | omega | exact Nat.le_refl _⟩, ⟨by (with_reducible repeat (first | apply Kd.R_alloc | apply Kd.R_drewN | apply Kd.R_drew)); exact Kd.R_mono HO546.out (fun _ hk => trivial)⟩, ⟨by (with_reducible repeat (first | refine blk_drewN ?_ _ | refine blk_drew ?_ | refine blk_alloc ?_ _)); exact BK542.out⟩, ⟨by repeat (first | (with_reducible first | exact HB.out | apply below_alloc | apply pw_below_drewN | apply below_drew1 | refine below_set ?_ GE542.out) | exact HB.out)⟩⟩
              · replace c20 := Bool.eq_false_iff.mpr c20
                subst c20
                have H1 : (lychlaw5_TcpBack.j1 kj3 t544 t547 t551 true a0_0 a0_1 a0_2 a0_3 a0_4 a0_5 a0_6 a0_7 l0_8 l0_9) = some r := by rw [if_neg (show ¬ (false = true) by decide)] at H; exact H
                clear H
                have H := H1
                clear H1
                have H' := Aside0.mk H
                clear H
                obtain ⟨Ao23, co23, eo23⟩ := Kd.R_slice HO546.out
                subst eo23
                obtain ⟨Ao24, co24, eo24⟩ := Kd.R_slice HO550.out
                subst eo24
                go_wp2_with (first | (go_at_call 19; (with_reducible refine (lychhelp_Bytes.calls _ _ t544 _ _ t548 false _ ?side1 ?side2 ?side3 ?side4 A19.out).mono ?_); (case side1 => repeat (first | exact (Kd.R_reads' HO546.out).2.2 | (with_reducible refine Kd.C_alloc ?_ _) | (with_reducible refine Kd.C_drewN ?_ _) | (with_reducible refine Kd.C_drew ?_))); (case side2 => exact (Kd.R_reads' HO546.out).2.1); (case side3 => repeat (first | exact (Kd.R_reads' HO550.out).2.2 | (with_reducible refine Kd.C_alloc ?_ _) | (with_reducible refine Kd.C_drewN ?_ _) | (with_reducible refine Kd.C_drew ?_))); (case side4 => exact (Kd.R_reads' HO550.out).2.1); rintro e w' ⟨rfl, ⟨nd, rfl⟩⟩))
                go_meet
                case rel => exact ⟨_, (true), (by first | rfl | (simp; done) | (simp [*]; done)), H', ⟨by have := HJ3.out; first | omega | exact Nat.le_refl _⟩, ⟨by (with_reducible repeat (first | apply Kd.R_alloc | apply Kd.R_drewN | apply Kd.R_drew)); exact Kd.R_mono HO546.out (fun _ hk => trivial)⟩, ⟨by (with_reducible repeat (first | refine blk_drewN ?_ _ | refine blk_drew ?_ | refine blk_alloc ?_ _)); exact BK542.out⟩, ⟨by repeat (first | (with_reducible first | exact HB.out | apply below_alloc | apply pw_below_drewN | apply below_drew1 | refine below_set ?_ GE542.out) | exact HB.out)⟩⟩
            · rw [if_neg c18] at H
              have c18b0 : (t547 == t551) = false := beq_eq_false_iff_ne.mpr c18
              have c18b1 : (t547 != t551) = true := bne_iff_ne.mpr c18
              (first | rw [c18b0] | (simp only [i64_w, i32_w]; rw [c18b0]) | skip)
              have H' := Aside0.mk H
              clear H
              go_wp2
              go_meet
              case rel => exact ⟨_, (true), (by first | rfl | (simp; done) | (simp [*]; done)), H', ⟨by have := HJ3.out; first | omega | exact Nat.le_refl _⟩, ⟨by (with_reducible repeat (first | apply Kd.R_alloc | apply Kd.R_drewN | apply Kd.R_drew)); exact Kd.R_mono HO546.out (fun _ hk => trivial)⟩, ⟨by (with_reducible repeat (first | refine blk_drewN ?_ _ | refine blk_drew ?_ | refine blk_alloc ?_ _)); exact BK542.out⟩, ⟨by repeat (first | (with_reducible first | exact HB.out | apply below_alloc | apply pw_below_drewN | apply below_drew1 | refine below_set ?_ GE542.out) | exact HB.out)⟩⟩
          case rest =>
            clear HC13
            try clear c1
            try clear c2
            try clear p2
            try clear c3
            try clear c7
            try clear c7b0
            try clear c7b1
            try clear c10
            try clear c18
            try clear c18b0
            try clear c18b1
            try clear c20
            try clear hcz14_0
            try clear hcz14_1
            try clear hcz14_2
            try clear hcz14_3
            try clear hcz14_4
            try clear hcz14_5
            try clear hcz14_6
            try clear hcz14_7
            try clear hcz14_8
            try clear hcz14_9
            try clear hcz16_0
            try clear hcz16_1
            try clear hcz16_2
            try clear hcz16_3
            try clear hcz16_4
            try clear hcz16_5
            try clear hcz16_6
            try clear hcz16_7
            try clear hcz16_8
            try clear hcz16_9
            try clear hcz8_0
            try clear hcz8_1
            try clear hcz8_2
            try clear hcz8_3
            try clear hcz8_4
            try clear hcz8_5
            try clear hcz8_6
            try clear hcz8_7
            try clear hcz8_8
            try clear hcz8_9
            try clear hcz9_0
            try clear hcz9_1
            try clear hcz9_2
            try clear hcz9_3
            try clear hcz9_4
            try clear hcz9_5
            try clear hcz9_6
            try clear hcz9_7
            try clear hcz9_8
            try clear hcz9_9
            try clear hfz14_0
            try clear hfz14_1
            try clear hfz14_2
            try clear hfz14_3
            try clear hfz14_4
            try clear hfz14_5
            try clear hfz14_6
            try clear hfz14_7
            try clear hfz14_8
            try clear hfz14_9
            try clear hfz16_0
            try clear hfz16_1
            try clear hfz16_2
            try clear hfz16_3
            try clear hfz16_4
            try clear hfz16_5
            try clear hfz16_6
            try clear hfz16_7
            try clear hfz16_8
            try clear hfz16_9
            try clear hfz8_0
            try clear hfz8_1
            try clear hfz8_2
            try clear hfz8_3
            try clear hfz8_4
            try clear hfz8_5
            try clear hfz8_6
            try clear hfz8_7
            try clear hfz8_8
            try clear hfz8_9
            try clear hfz9_0
            try clear hfz9_1
            try clear hfz9_2
            try clear hfz9_3
            try clear hfz9_4
            try clear hfz9_5
            try clear hfz9_6
            try clear hfz9_7
            try clear hfz9_8
            try clear hfz9_9
            try clear p2
            obtain ⟨kq, x43_12, rfl, HA, HJ12, HO_3, BK542, HB⟩ := hcut
            cases kq with
            | zero => exact absurd HA.out (by simp [lychlaw5_TcpBack.j1])
            | succ kj12 =>
              have H := HA.out
              clear HA
              simp only [lychlaw5_TcpBack.j1] at H
              by_cases c25 : x43_12 = true
              · subst c25
                have H1 : (if t547 = t551 then (if t551 = 0 then (none) else (some ((t544.length : Int) == 0))) else (none)) = some r := by rw [if_pos rfl] at H; exact H
                clear H
                have H := H1
                clear H1
                by_cases c26 : t547 = t551
                · rw [if_pos c26] at H
                  have c26b0 : (t547 == t551) = true := beq_iff_eq.mpr c26
                  have c26b1 : (t547 != t551) = false := bne_eq_false_iff_eq.mpr c26
                  clear c26
                  by_cases c27 : t551 = 0
                  · rw [if_pos c27] at H
                    exact absurd H (by simp)
                  · rw [if_neg c27] at H
                    have c27b0 : (t551 == 0) = false := beq_eq_false_iff_ne.mpr c27
                    have c27b1 : (t551 != 0) = true := bne_iff_ne.mpr c27
                    obtain rfl := Option.some.inj H
                    obtain ⟨Ao28, co28, eo28⟩ := Kd.R_slice HO_3.out
                    subst eo28
                    go_wp2
                    go_ret
                    exact ⟨by first | rfl | (simp [errW_none, errW_some] <;> rfl) | (simp [*, errW_none, errW_some] <;> rfl), by repeat (first | (with_reducible first | exact HB.out | apply below_alloc | apply pw_below_drewN | apply below_drew1 | refine below_set ?_ GE542.out) | exact HB.out)⟩
                · rw [if_neg c26] at H
                  exact absurd H (by simp)
              · replace c25 := Bool.eq_false_iff.mpr c25
                subst c25
                have H1 : ((tcp_Parse.f t544).bind fun bt553 => (if bt553.2.2.2.2.2.2.2.2.2.2 = 0 then ((lychhelp_Tcp.f bt553.1 bt553.2.1 bt553.2.2.1 bt553.2.2.2.1 bt553.2.2.2.2.1 bt553.2.2.2.2.2.1 bt553.2.2.2.2.2.2.1 bt553.2.2.2.2.2.2.2.1 bt553.2.2.2.2.2.2.2.2.1 bt553.2.2.2.2.2.2.2.2.2.1 a0_0 a0_1 a0_2 a0_3 a0_4 a0_5 a0_6 a0_7 l0_8 l0_9).bind fun t569 => (some t569)) else (none))) = some r := by rw [if_neg (show ¬ (false = true) by decide)] at H; exact H
                clear H
                have H := H1
                clear H1
                replace H := Option.bind_eq_some_iff.mp H
                obtain ⟨⟨t553, t554, t555, t556, t557, t558, t559, t560, t561, t564, t567⟩, A290, H⟩ := H
                replace H : (if t567 = 0 then ((lychhelp_Tcp.f t553 t554 t555 t556 t557 t558 t559 t560 t561 t564 a0_0 a0_1 a0_2 a0_3 a0_4 a0_5 a0_6 a0_7 l0_8 l0_9).bind fun t569 => (some t569)) else (none)) = some r := H
                have A29 := Aside0.mk A290
                clear A290
                by_cases c30 : t567 = 0
                · rw [if_pos c30] at H
                  have c30b0 : (t567 == 0) = true := beq_iff_eq.mpr c30
                  have c30b1 : (t567 != 0) = false := bne_eq_false_iff_eq.mpr c30
                  clear c30
                  replace H := Option.bind_eq_some_iff.mp H
                  obtain ⟨t569, A310, H⟩ := H
                  replace H : (some t569) = some r := H
                  have A31 := Aside0.mk A310
                  clear A310
                  obtain rfl := Option.some.inj H
                  obtain ⟨Ao32, co32, eo32⟩ := Kd.R_slice HO_3.out
                  subst eo32
                  go_wp2_with (first | ((with_reducible refine gate_callee (f := 26) rfl ?_); refine goesL_ (some 58) rfl rfl Try.func26 (by kernel_rfl) rfl #[.slice Ao32 t544.length co32] rfl (by (try simp only [List.map_toArray, List.map_cons, List.map_nil]); first | done | rfl | (simp only [List.length_drop, List.length_take]; rfl) | (go_simp; done) | (simp [Act.eval, IntKind.signed]; done) | (simp [Act.eval, IntKind.signed]; rfl)) ?_; (with_reducible refine (tcp_Parse.calls _ _ t544 t553 t554 t555 t556 t557 t558 t559 t560 t561 t564 t567 _ ?side1 ?side2 A29.out).mono ?_); (case side1 => repeat (first | exact (Kd.R_reads' HO_3.out).2.2 | (with_reducible refine Kd.C_alloc ?_ _) | (with_reducible refine Kd.C_drewN ?_ _) | (with_reducible refine Kd.C_drew ?_))); (case side2 => exact (Kd.R_reads' HO_3.out).2.1); rintro e w33 ⟨v562, v565, rfl, ho0, ho1, hb⟩; refine ⟨_, rfl, ?_⟩; have n0_ := Aside0.mk (Kd.R_mono (Kd.R_told (Kd.R_told (Kd.R_old (by (with_reducible repeat (first | apply Kd.R_alloc | apply Kd.R_drewN | apply Kd.R_drew)); exact HO_3.out) hb) (Kd.R_base ho0)) (Kd.R_base ho1)) (fun _ h_ => h_.1)); have n1_ := Aside0.mk (Kd.R_lower (Kd.R_new' ho0 (Kd.R_lt (by (with_reducible repeat (first | apply Kd.R_alloc | apply Kd.R_drewN | apply Kd.R_drew)); exact HO_3.out))) (below_size (by repeat (first | (with_reducible first | exact HB.out | apply below_alloc | apply pw_below_drewN | apply below_drew1 | refine below_set ?_ GE542.out) | exact HB.out)))); have n2_ := Aside0.mk (Kd.R_lower (Kd.R_new' ho1 (Kd.R_lt (by (with_reducible repeat (first | apply Kd.R_alloc | apply Kd.R_drewN | apply Kd.R_drew)); exact HO_3.out))) (below_size (by repeat (first | (with_reducible first | exact HB.out | apply below_alloc | apply pw_below_drewN | apply below_drew1 | refine below_set ?_ GE542.out) | exact HB.out)))); have n3_ := Aside0.mk (blk_below (g := gb542) (o := .cells #[.int .u16 a0_0, .int .u16 a0_1, .int .u32 a0_2, .int .u32 a0_3, .int .u8 a0_4, .int .u16 a0_5, .int .u16 a0_6, .int .u16 a0_7, .slice A0_8 l0_8.length c0_8, .slice A0_9 l0_9.length c0_9] 49 (0, 0)) (by (with_reducible repeat (first | refine blk_drewN ?_ _ | refine blk_drew ?_ | refine blk_alloc ?_ _)); exact BK542.out) hb); have n4_ := Aside0.mk (below_step (by repeat (first | (with_reducible first | exact HB.out | apply below_alloc | apply pw_below_drewN | apply below_drew1 | refine below_set ?_ GE542.out) | exact HB.out)) hb); clear HO_3; clear BK542; clear HB; have HO_3 := n0_; have HO563 := n1_; have HO566 := n2_; have BK542 := n3_; have HB := n4_; clear n0_ n1_ n2_ n3_ n4_; (try clear hb); (try clear hb2); (try clear hk); (try clear hi); (try clear ho0); (try clear ho1)) | ((with_reducible refine gate_dst (N := 7) rfl ?_); (try (refine gate_guard (by rfl) ?_; dsimp only)); refine box_event ?hg (N := 7) ?hd (cs := #[.int .u16 0, .int .u16 0, .int .u32 0, .int .u32 0, .int .u8 0, .int .u16 0, .int .u16 0, .int .u16 0, .slice none 0 0, .slice none 0 0]) (t := 49) ?hr ?_; (case hd => rfl); (case hg => rfl); (case hr => first | (go_simp; done) | (go_simp; rfl)); intro gb568 hg w34 hbox hb; have n0_ := Aside0.mk (Kd.R_below (by (with_reducible repeat (first | apply Kd.R_alloc | apply Kd.R_drewN | apply Kd.R_drew)); exact HO_3.out) hb); have n1_ := Aside0.mk (Kd.R_below (by (with_reducible repeat (first | apply Kd.R_alloc | apply Kd.R_drewN | apply Kd.R_drew)); exact HO563.out) hb); have n2_ := Aside0.mk (Kd.R_below (by (with_reducible repeat (first | apply Kd.R_alloc | apply Kd.R_drewN | apply Kd.R_drew)); exact HO566.out) hb); have n3_ := Aside0.mk (blk_below (g := gb542) (o := .cells #[.int .u16 a0_0, .int .u16 a0_1, .int .u32 a0_2, .int .u32 a0_3, .int .u8 a0_4, .int .u16 a0_5, .int .u16 a0_6, .int .u16 a0_7, .slice A0_8 l0_8.length c0_8, .slice A0_9 l0_9.length c0_9] 49 (0, 0)) (by (with_reducible repeat (first | refine blk_drewN ?_ _ | refine blk_drew ?_ | refine blk_alloc ?_ _)); exact BK542.out) hb); have n4_ := Aside0.mk (below_step (by repeat (first | (with_reducible first | exact HB.out | apply below_alloc | apply pw_below_drewN | apply below_drew1 | refine below_set ?_ GE542.out) | exact HB.out)) hb); have n5_ := Aside0.mk (hbox); have n6_ := Aside0.mk ((by rw [hg]; exact (below_size (by repeat (first | (with_reducible first | exact HB.out | apply below_alloc | apply pw_below_drewN | apply below_drew1 | refine below_set ?_ GE542.out) | exact HB.out))) : w.heap.size ≤ gb568)); have n7_ := Aside0.mk ((by rw [hg]; exact (below_size (by repeat (first | (with_reducible first | exact HB.out | apply below_alloc | apply pw_below_drewN | apply below_drew1 | refine below_set ?_ GE542.out) | exact HB.out))) : w.heap.size ≤ gb568)); have n8_ := Aside0.mk ((by rw [hg]; exact Nat.ne_of_lt (blk_lt (g := gb542) (o := .cells #[.int .u16 a0_0, .int .u16 a0_1, .int .u32 a0_2, .int .u32 a0_3, .int .u8 a0_4, .int .u16 a0_5, .int .u16 a0_6, .int .u16 a0_7, .slice A0_8 l0_8.length c0_8, .slice A0_9 l0_9.length c0_9] 49 (0, 0)) (by (with_reducible repeat (first | refine blk_drewN ?_ _ | refine blk_drew ?_ | refine blk_alloc ?_ _)); exact BK542.out)) : gb542 ≠ gb568)); have n9_ := Aside0.mk ((by rw [hg]; exact Nat.ne_of_gt (blk_lt (g := gb542) (o := .cells #[.int .u16 a0_0, .int .u16 a0_1, .int .u32 a0_2, .int .u32 a0_3, .int .u8 a0_4, .int .u16 a0_5, .int .u16 a0_6, .int .u16 a0_7, .slice A0_8 l0_8.length c0_8, .slice A0_9 l0_9.length c0_9] 49 (0, 0)) (by (with_reducible repeat (first | refine blk_drewN ?_ _ | refine blk_drew ?_ | refine blk_alloc ?_ _)); exact BK542.out)) : gb568 ≠ gb542)); clear HO_3; clear HO563; clear HO566; clear BK542; clear HB; have HO_3 := n0_; have HO563 := n1_; have HO566 := n2_; have BK542 := n3_; have HB := n4_; have BK568 := n5_; have GW568 := n6_; have GE568 := n7_; have NB542_568 := n8_; have NB568_542 := n9_; clear n0_ n1_ n2_ n3_ n4_ n5_ n6_ n7_ n8_ n9_; clear hb hbox hg; have hnb35 := NB568_542.out; have hnc35 := NB542_568.out; have hcz36_0 : w34.cell? ⟨gb568, 0, none⟩ = some (.int .u16 0) := (blk_cell BK568.out 0).trans rfl; have hcz36_1 : w34.cell? ⟨gb568, 1, none⟩ = some (.int .u16 0) := (blk_cell BK568.out 1).trans rfl; have hcz36_2 : w34.cell? ⟨gb568, 2, none⟩ = some (.int .u32 0) := (blk_cell BK568.out 2).trans rfl; have hcz36_3 : w34.cell? ⟨gb568, 3, none⟩ = some (.int .u32 0) := (blk_cell BK568.out 3).trans rfl; have hcz36_4 : w34.cell? ⟨gb568, 4, none⟩ = some (.int .u8 0) := (blk_cell BK568.out 4).trans rfl; have hcz36_5 : w34.cell? ⟨gb568, 5, none⟩ = some (.int .u16 0) := (blk_cell BK568.out 5).trans rfl; have hcz36_6 : w34.cell? ⟨gb568, 6, none⟩ = some (.int .u16 0) := (blk_cell BK568.out 6).trans rfl; have hcz36_7 : w34.cell? ⟨gb568, 7, none⟩ = some (.int .u16 0) := (blk_cell BK568.out 7).trans rfl; have hcz36_8 : w34.cell? ⟨gb568, 8, none⟩ = some (.slice none 0 0) := (blk_cell BK568.out 8).trans rfl; have hcz36_9 : w34.cell? ⟨gb568, 9, none⟩ = some (.slice none 0 0) := (blk_cell BK568.out 9).trans rfl; have hfz36_0 := blk_frozen BK568.out 0; have hfz36_1 := blk_frozen BK568.out 1; have hfz36_2 := blk_frozen BK568.out 2; have hfz36_3 := blk_frozen BK568.out 3; have hfz36_4 := blk_frozen BK568.out 4; have hfz36_5 := blk_frozen BK568.out 5; have hfz36_6 := blk_frozen BK568.out 6; have hfz36_7 := blk_frozen BK568.out 7; have hfz36_8 := blk_frozen BK568.out 8; have hfz36_9 := blk_frozen BK568.out 9; obtain ⟨Ao37, co37, eo37⟩ := Kd.R_slice HO563.out; subst eo37; obtain ⟨Ao38, co38, eo38⟩ := Kd.R_slice HO566.out; subst eo38; have hcz39_0 : w34.cell? ⟨gb542, 0, none⟩ = some (.int .u16 a0_0) := (blk_cell BK542.out 0).trans rfl; have hcz39_1 : w34.cell? ⟨gb542, 1, none⟩ = some (.int .u16 a0_1) := (blk_cell BK542.out 1).trans rfl; have hcz39_2 : w34.cell? ⟨gb542, 2, none⟩ = some (.int .u32 a0_2) := (blk_cell BK542.out 2).trans rfl; have hcz39_3 : w34.cell? ⟨gb542, 3, none⟩ = some (.int .u32 a0_3) := (blk_cell BK542.out 3).trans rfl; have hcz39_4 : w34.cell? ⟨gb542, 4, none⟩ = some (.int .u8 a0_4) := (blk_cell BK542.out 4).trans rfl; have hcz39_5 : w34.cell? ⟨gb542, 5, none⟩ = some (.int .u16 a0_5) := (blk_cell BK542.out 5).trans rfl; have hcz39_6 : w34.cell? ⟨gb542, 6, none⟩ = some (.int .u16 a0_6) := (blk_cell BK542.out 6).trans rfl; have hcz39_7 : w34.cell? ⟨gb542, 7, none⟩ = some (.int .u16 a0_7) := (blk_cell BK542.out 7).trans rfl; have hcz39_8 : w34.cell? ⟨gb542, 8, none⟩ = some (.slice A0_8 l0_8.length c0_8) := (blk_cell BK542.out 8).trans rfl; have hcz39_9 : w34.cell? ⟨gb542, 9, none⟩ = some (.slice A0_9 l0_9.length c0_9) := (blk_cell BK542.out 9).trans rfl; have hfz39_0 := blk_frozen BK542.out 0; have hfz39_1 := blk_frozen BK542.out 1; have hfz39_2 := blk_frozen BK542.out 2; have hfz39_3 := blk_frozen BK542.out 3; have hfz39_4 := blk_frozen BK542.out 4; have hfz39_5 := blk_frozen BK542.out 5; have hfz39_6 := blk_frozen BK542.out 6; have hfz39_7 := blk_frozen BK542.out 7; have hfz39_8 := blk_frozen BK542.out 8; have hfz39_9 := blk_frozen BK542.out 9) | (go_at_call 28; (with_reducible refine (lychhelp_Tcp.calls t553 t554 t555 t556 t557 t558 t559 t560 _ _ t561 _ _ t564 a0_0 a0_1 a0_2 a0_3 a0_4 a0_5 a0_6 a0_7 _ _ l0_8 _ _ l0_9 t569 _ ?side1 ?side2 ?side3 ?side4 ?side5 ?side6 ?side7 ?side8 A31.out).mono ?_); (case side1 => refine (Kd.R_reads' (e := 5) (base := w.heap.size) (ok := fun k_ => (some k_ ≠ (.slice Ao38 t564.length co38 : Value).ownBlock ∧ some k_ ≠ (.slice Ao32 t544.length co32 : Value).ownBlock)) (n := t561.length) (c := co37) ?_).2.2; exact (by (with_reducible repeat (first | apply Kd.R_alloc | apply Kd.R_drewN | apply Kd.R_drew)); exact (Kd.R_mono (Kd.R_far (p := ⟨gb568, 9, none⟩) (Kd.R_far (p := ⟨gb568, 8, none⟩) (Kd.R_far (p := ⟨gb568, 7, none⟩) (Kd.R_far (p := ⟨gb568, 6, none⟩) (Kd.R_far (p := ⟨gb568, 5, none⟩) (Kd.R_far (p := ⟨gb568, 4, none⟩) (Kd.R_far (p := ⟨gb568, 3, none⟩) (Kd.R_far (p := ⟨gb568, 2, none⟩) (Kd.R_far (p := ⟨gb568, 1, none⟩) (Kd.R_far (p := ⟨gb568, 0, none⟩) (Kd.R_types HO563.out BK568.out (by decide)) (fun _ hk => hk.2) (.int .u16 t553)) (fun _ hk => hk.2) (.int .u16 t554)) (fun _ hk => hk.2) (.int .u32 t555)) (fun _ hk => hk.2) (.int .u32 t556)) (fun _ hk => hk.2) (.int .u8 t557)) (fun _ hk => hk.2) (.int .u16 t558)) (fun _ hk => hk.2) (.int .u16 t559)) (fun _ hk => hk.2) (.int .u16 t560)) (fun _ hk => hk.2) (.slice Ao37 t561.length co37)) (fun _ hk => hk.2) (.slice Ao38 t564.length co38)) (fun _ h_ => h_.1)))); (case side2 => exact (Kd.R_reads' HO563.out).2.1); (case side3 => refine (Kd.R_reads' (e := 5) (base := w.heap.size) (ok := fun k_ => (some k_ ≠ (.slice Ao37 t561.length co37 : Value).ownBlock ∧ some k_ ≠ (.slice Ao32 t544.length co32 : Value).ownBlock)) (n := t564.length) (c := co38) ?_).2.2; exact (by (with_reducible repeat (first | apply Kd.R_alloc | apply Kd.R_drewN | apply Kd.R_drew)); exact (Kd.R_mono (Kd.R_far (p := ⟨gb568, 9, none⟩) (Kd.R_far (p := ⟨gb568, 8, none⟩) (Kd.R_far (p := ⟨gb568, 7, none⟩) (Kd.R_far (p := ⟨gb568, 6, none⟩) (Kd.R_far (p := ⟨gb568, 5, none⟩) (Kd.R_far (p := ⟨gb568, 4, none⟩) (Kd.R_far (p := ⟨gb568, 3, none⟩) (Kd.R_far (p := ⟨gb568, 2, none⟩) (Kd.R_far (p := ⟨gb568, 1, none⟩) (Kd.R_far (p := ⟨gb568, 0, none⟩) (Kd.R_types HO566.out BK568.out (by decide)) (fun _ hk => hk.2) (.int .u16 t553)) (fun _ hk => hk.2) (.int .u16 t554)) (fun _ hk => hk.2) (.int .u32 t555)) (fun _ hk => hk.2) (.int .u32 t556)) (fun _ hk => hk.2) (.int .u8 t557)) (fun _ hk => hk.2) (.int .u16 t558)) (fun _ hk => hk.2) (.int .u16 t559)) (fun _ hk => hk.2) (.int .u16 t560)) (fun _ hk => hk.2) (.slice Ao37 t561.length co37)) (fun _ hk => hk.2) (.slice Ao38 t564.length co38)) (fun _ h_ => h_.1)))); (case side4 => exact (Kd.R_reads' HO566.out).2.1); (case side5 => exact Kd.C_below HR0_8.out (by repeat (first | (with_reducible first | exact HB.out | apply below_alloc | apply pw_below_drewN | apply below_drew1 | refine below_set ?_ GE542.out | refine below_set ?_ GE568.out) | exact HB.out))); (case side6 => exact HC0_8.out); (case side7 => exact Kd.C_below HR0_9.out (by repeat (first | (with_reducible first | exact HB.out | apply below_alloc | apply pw_below_drewN | apply below_drew1 | refine below_set ?_ GE542.out | refine below_set ?_ GE568.out) | exact HB.out))); (case side8 => exact HC0_9.out); rintro e w40 ⟨rfl, hb⟩; have n0_ := Aside0.mk (Kd.R_below (by (with_reducible repeat (first | apply Kd.R_alloc | apply Kd.R_drewN | apply Kd.R_drew)); exact (Kd.R_mono (Kd.R_far (p := ⟨gb568, 9, none⟩) (Kd.R_far (p := ⟨gb568, 8, none⟩) (Kd.R_far (p := ⟨gb568, 7, none⟩) (Kd.R_far (p := ⟨gb568, 6, none⟩) (Kd.R_far (p := ⟨gb568, 5, none⟩) (Kd.R_far (p := ⟨gb568, 4, none⟩) (Kd.R_far (p := ⟨gb568, 3, none⟩) (Kd.R_far (p := ⟨gb568, 2, none⟩) (Kd.R_far (p := ⟨gb568, 1, none⟩) (Kd.R_far (p := ⟨gb568, 0, none⟩) (Kd.R_types HO_3.out BK568.out (by decide)) (fun _ hk => hk.2) (.int .u16 t553)) (fun _ hk => hk.2) (.int .u16 t554)) (fun _ hk => hk.2) (.int .u32 t555)) (fun _ hk => hk.2) (.int .u32 t556)) (fun _ hk => hk.2) (.int .u8 t557)) (fun _ hk => hk.2) (.int .u16 t558)) (fun _ hk => hk.2) (.int .u16 t559)) (fun _ hk => hk.2) (.int .u16 t560)) (fun _ hk => hk.2) (.slice Ao37 t561.length co37)) (fun _ hk => hk.2) (.slice Ao38 t564.length co38)) (fun _ h_ => h_.1))) hb); have n1_ := Aside0.mk (Kd.R_below (by (with_reducible repeat (first | apply Kd.R_alloc | apply Kd.R_drewN | apply Kd.R_drew)); exact (Kd.R_mono (Kd.R_far (p := ⟨gb568, 9, none⟩) (Kd.R_far (p := ⟨gb568, 8, none⟩) (Kd.R_far (p := ⟨gb568, 7, none⟩) (Kd.R_far (p := ⟨gb568, 6, none⟩) (Kd.R_far (p := ⟨gb568, 5, none⟩) (Kd.R_far (p := ⟨gb568, 4, none⟩) (Kd.R_far (p := ⟨gb568, 3, none⟩) (Kd.R_far (p := ⟨gb568, 2, none⟩) (Kd.R_far (p := ⟨gb568, 1, none⟩) (Kd.R_far (p := ⟨gb568, 0, none⟩) (Kd.R_types HO563.out BK568.out (by decide)) (fun _ hk => hk.2) (.int .u16 t553)) (fun _ hk => hk.2) (.int .u16 t554)) (fun _ hk => hk.2) (.int .u32 t555)) (fun _ hk => hk.2) (.int .u32 t556)) (fun _ hk => hk.2) (.int .u8 t557)) (fun _ hk => hk.2) (.int .u16 t558)) (fun _ hk => hk.2) (.int .u16 t559)) (fun _ hk => hk.2) (.int .u16 t560)) (fun _ hk => hk.2) (.slice Ao37 t561.length co37)) (fun _ hk => hk.2) (.slice Ao38 t564.length co38)) (fun _ h_ => h_.1))) hb); have n2_ := Aside0.mk (Kd.R_below (by (with_reducible repeat (first | apply Kd.R_alloc | apply Kd.R_drewN | apply Kd.R_drew)); exact (Kd.R_mono (Kd.R_far (p := ⟨gb568, 9, none⟩) (Kd.R_far (p := ⟨gb568, 8, none⟩) (Kd.R_far (p := ⟨gb568, 7, none⟩) (Kd.R_far (p := ⟨gb568, 6, none⟩) (Kd.R_far (p := ⟨gb568, 5, none⟩) (Kd.R_far (p := ⟨gb568, 4, none⟩) (Kd.R_far (p := ⟨gb568, 3, none⟩) (Kd.R_far (p := ⟨gb568, 2, none⟩) (Kd.R_far (p := ⟨gb568, 1, none⟩) (Kd.R_far (p := ⟨gb568, 0, none⟩) (Kd.R_types HO566.out BK568.out (by decide)) (fun _ hk => hk.2) (.int .u16 t553)) (fun _ hk => hk.2) (.int .u16 t554)) (fun _ hk => hk.2) (.int .u32 t555)) (fun _ hk => hk.2) (.int .u32 t556)) (fun _ hk => hk.2) (.int .u8 t557)) (fun _ hk => hk.2) (.int .u16 t558)) (fun _ hk => hk.2) (.int .u16 t559)) (fun _ hk => hk.2) (.int .u16 t560)) (fun _ hk => hk.2) (.slice Ao37 t561.length co37)) (fun _ hk => hk.2) (.slice Ao38 t564.length co38)) (fun _ h_ => h_.1))) hb); have n3_ := Aside0.mk (blk_below (g := gb542) (o := .cells #[.int .u16 a0_0, .int .u16 a0_1, .int .u32 a0_2, .int .u32 a0_3, .int .u8 a0_4, .int .u16 a0_5, .int .u16 a0_6, .int .u16 a0_7, .slice A0_8 l0_8.length c0_8, .slice A0_9 l0_9.length c0_9] 49 (0, 0)) (by (with_reducible repeat (first | refine blk_drewN ?_ _ | refine blk_drew ?_ | refine blk_alloc ?_ _)); refine blk_far ?_ NB542_568.out _; (with_reducible repeat (first | refine blk_drewN ?_ _ | refine blk_drew ?_ | refine blk_alloc ?_ _)); refine blk_far ?_ NB542_568.out _; (with_reducible repeat (first | refine blk_drewN ?_ _ | refine blk_drew ?_ | refine blk_alloc ?_ _)); refine blk_far ?_ NB542_568.out _; (with_reducible repeat (first | refine blk_drewN ?_ _ | refine blk_drew ?_ | refine blk_alloc ?_ _)); refine blk_far ?_ NB542_568.out _; (with_reducible repeat (first | refine blk_drewN ?_ _ | refine blk_drew ?_ | refine blk_alloc ?_ _)); refine blk_far ?_ NB542_568.out _; (with_reducible repeat (first | refine blk_drewN ?_ _ | refine blk_drew ?_ | refine blk_alloc ?_ _)); refine blk_far ?_ NB542_568.out _; (with_reducible repeat (first | refine blk_drewN ?_ _ | refine blk_drew ?_ | refine blk_alloc ?_ _)); refine blk_far ?_ NB542_568.out _; (with_reducible repeat (first | refine blk_drewN ?_ _ | refine blk_drew ?_ | refine blk_alloc ?_ _)); refine blk_far ?_ NB542_568.out _; (with_reducible repeat (first | refine blk_drewN ?_ _ | refine blk_drew ?_ | refine blk_alloc ?_ _)); refine blk_far ?_ NB542_568.out _; (with_reducible repeat (first | refine blk_drewN ?_ _ | refine blk_drew ?_ | refine blk_alloc ?_ _)); refine blk_far ?_ NB542_568.out _; (with_reducible repeat (first | refine blk_drewN ?_ _ | refine blk_drew ?_ | refine blk_alloc ?_ _)); exact BK542.out) hb); have n4_ := Aside0.mk (blk_below (g := gb568) (o := .cells #[.int .u16 t553, .int .u16 t554, .int .u32 t555, .int .u32 t556, .int .u8 t557, .int .u16 t558, .int .u16 t559, .int .u16 t560, .slice Ao37 t561.length co37, .slice Ao38 t564.length co38] 49 (0, 0)) (by (with_reducible repeat (first | refine blk_drewN ?_ _ | refine blk_drew ?_ | refine blk_alloc ?_ _)); refine blk_put (cs := #[.int .u16 t553, .int .u16 t554, .int .u32 t555, .int .u32 t556, .int .u8 t557, .int .u16 t558, .int .u16 t559, .int .u16 t560, .slice Ao37 t561.length co37, .slice none 0 0]) ?_ 9 _ rfl; (with_reducible repeat (first | refine blk_drewN ?_ _ | refine blk_drew ?_ | refine blk_alloc ?_ _)); refine blk_put (cs := #[.int .u16 t553, .int .u16 t554, .int .u32 t555, .int .u32 t556, .int .u8 t557, .int .u16 t558, .int .u16 t559, .int .u16 t560, .slice none 0 0, .slice none 0 0]) ?_ 8 _ rfl; (with_reducible repeat (first | refine blk_drewN ?_ _ | refine blk_drew ?_ | refine blk_alloc ?_ _)); refine blk_put (cs := #[.int .u16 t553, .int .u16 t554, .int .u32 t555, .int .u32 t556, .int .u8 t557, .int .u16 t558, .int .u16 t559, .int .u16 0, .slice none 0 0, .slice none 0 0]) ?_ 7 _ rfl; (with_reducible repeat (first | refine blk_drewN ?_ _ | refine blk_drew ?_ | refine blk_alloc ?_ _)); refine blk_put (cs := #[.int .u16 t553, .int .u16 t554, .int .u32 t555, .int .u32 t556, .int .u8 t557, .int .u16 t558, .int .u16 0, .int .u16 0, .slice none 0 0, .slice none 0 0]) ?_ 6 _ rfl; (with_reducible repeat (first | refine blk_drewN ?_ _ | refine blk_drew ?_ | refine blk_alloc ?_ _)); refine blk_put (cs := #[.int .u16 t553, .int .u16 t554, .int .u32 t555, .int .u32 t556, .int .u8 t557, .int .u16 0, .int .u16 0, .int .u16 0, .slice none 0 0, .slice none 0 0]) ?_ 5 _ rfl; (with_reducible repeat (first | refine blk_drewN ?_ _ | refine blk_drew ?_ | refine blk_alloc ?_ _)); refine blk_put (cs := #[.int .u16 t553, .int .u16 t554, .int .u32 t555, .int .u32 t556, .int .u8 0, .int .u16 0, .int .u16 0, .int .u16 0, .slice none 0 0, .slice none 0 0]) ?_ 4 _ rfl; (with_reducible repeat (first | refine blk_drewN ?_ _ | refine blk_drew ?_ | refine blk_alloc ?_ _)); refine blk_put (cs := #[.int .u16 t553, .int .u16 t554, .int .u32 t555, .int .u32 0, .int .u8 0, .int .u16 0, .int .u16 0, .int .u16 0, .slice none 0 0, .slice none 0 0]) ?_ 3 _ rfl; (with_reducible repeat (first | refine blk_drewN ?_ _ | refine blk_drew ?_ | refine blk_alloc ?_ _)); refine blk_put (cs := #[.int .u16 t553, .int .u16 t554, .int .u32 0, .int .u32 0, .int .u8 0, .int .u16 0, .int .u16 0, .int .u16 0, .slice none 0 0, .slice none 0 0]) ?_ 2 _ rfl; (with_reducible repeat (first | refine blk_drewN ?_ _ | refine blk_drew ?_ | refine blk_alloc ?_ _)); refine blk_put (cs := #[.int .u16 t553, .int .u16 0, .int .u32 0, .int .u32 0, .int .u8 0, .int .u16 0, .int .u16 0, .int .u16 0, .slice none 0 0, .slice none 0 0]) ?_ 1 _ rfl; (with_reducible repeat (first | refine blk_drewN ?_ _ | refine blk_drew ?_ | refine blk_alloc ?_ _)); refine blk_put (cs := #[.int .u16 0, .int .u16 0, .int .u32 0, .int .u32 0, .int .u8 0, .int .u16 0, .int .u16 0, .int .u16 0, .slice none 0 0, .slice none 0 0]) ?_ 0 _ rfl; (with_reducible repeat (first | refine blk_drewN ?_ _ | refine blk_drew ?_ | refine blk_alloc ?_ _)); exact BK568.out) hb); have n5_ := Aside0.mk (below_step (by repeat (first | (with_reducible first | exact HB.out | apply below_alloc | apply pw_below_drewN | apply below_drew1 | refine below_set ?_ GE542.out | refine below_set ?_ GE568.out) | exact HB.out)) hb); clear HO_3; clear HO563; clear HO566; clear BK542; clear BK568; clear HB; have HO_3 := n0_; have HO563 := n1_; have HO566 := n2_; have BK542 := n3_; have BK568 := n4_; have HB := n5_; clear n0_ n1_ n2_ n3_ n4_ n5_; (try clear hb); (try clear hb2); (try clear hk); (try clear hi)))
                  go_ret
                  exact ⟨by first | rfl | (simp [errW_none, errW_some] <;> rfl) | (simp [*, errW_none, errW_some] <;> rfl), by repeat (first | (with_reducible first | exact HB.out | apply below_alloc | apply pw_below_drewN | apply below_drew1 | refine below_set ?_ GE542.out | refine below_set ?_ GE568.out) | exact HB.out)⟩
                · rw [if_neg c30] at H
                  exact absurd H (by simp)
  · replace c3 := Bool.eq_false_iff.mpr c3
    subst c3
    have H1 : (none) = some r := by rw [if_neg (show ¬ (false = true) by decide)] at H; exact H
    clear H
    have H := H1
    clear H1
    exact absurd H (by simp)

end Go.Proofs.Ytnodigdpodiphaa.PA
