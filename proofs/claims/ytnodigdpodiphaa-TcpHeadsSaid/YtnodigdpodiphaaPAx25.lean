-- written by a patched print
import Derived.Test.YtnodigdpodiphaaPAx0
import Derived.Test.YtnodigdpodiphaaPAx24
namespace Go.Proofs.Ytnodigdpodiphaa.PA
open Go.RowKit Go.Proofs.YtnodigdpodiphaaW.PrintWords Go.Proofs.YtnodigdpodiphaaW.PrintLast Go.Proofs.YtnodigdpodiphaaW.PrintMore
attribute [local go_sem] max2_int min2_int max_two min_two max_three min_three max_four min_four   -- for this text's walks alone
set_option linter.unusedVariables false
set_option linter.unusedSimpArgs false

/-! ### tcp_Bytes: function 29 -/
mutual
def tcp_Bytes.j0 : Nat → Bool → Int → Int → Int → Int → Int → Int → Int → Int → List Int → List Int → Option (List Int × Int)
  | 0, _, _, _, _, _, _, _, _, _, _, _ => none
  | k + 1, x7, x364000, x364001, x364002, x364003, x364004, x364005, x364006, x364007, x364008, x364009 => if x7 = true then (some (([] : List Int), 21)) else (if (wrap64 ((wrap64 (20 + (x364008.length : Int))) + (x364009.length : Int))) > 65515 then (some (([] : List Int), 23)) else ((some (([x364002, x364003] : List Int) : List Int)).bind fun y367 => (tcp_Bytes.l0 k (([(x364000 / 256) % 256, (x364000) % 256, (x364001 / 256) % 256, (x364001) % 256] : List Int)) y367 (y367.length : Int) 0 x364000 x364001 x364002 x364003 x364004 x364005 x364006 x364007 x364008 x364009)))
def tcp_Bytes.l0 : Nat → List Int → List Int → Int → Int → Int → Int → Int → Int → Int → Int → Int → Int → List Int → List Int → Option (List Int × Int)
  | 0, _, _, _, _, _, _, _, _, _, _, _, _, _, _ => none
  | k + 1, x4, x48, x49, x50, x364000, x364001, x364002, x364003, x364004, x364005, x364006, x364007, x364008, x364009 => if x50 < x49 then (if 0 ≤ x50 then (if x50 < (x48.length : Int) then ((some (([((rd x48 x50) / 16777216) % 256, ((rd x48 x50) / 65536) % 256, ((rd x48 x50) / 256) % 256, (rd x48 x50) % 256] : List Int) : List Int)).bind fun y371 => (if x4.length + y371.length < 140737488355328 then (tcp_Bytes.l0 k (x4 ++ y371) x48 x49 (wrap64 (x50 + 1)) x364000 x364001 x364002 x364003 x364004 x364005 x364006 x364007 x364008 x364009) else (none))) else (none)) else (none)) else ((some (([((((wrap64 (20 + (x364008.length : Int))) % 256) / 4) * 16) % 256, x364004, (x364005 / 256) % 256, (x364005) % 256, (x364006 / 256) % 256, (x364006) % 256, (x364007 / 256) % 256, (x364007) % 256] : List Int) : List Int)).bind fun y377 => (if x4.length + y377.length < 140737488355328 then ((slices_Concat_byte_byte.f k (([(x4 ++ y377), x364008, x364009] : List (List Int)))).bind fun t386 => (some (t386, 0))) else (none)))
end
def tcp_Bytes.f (k : Nat) (a0_0 : Int) (a0_1 : Int) (a0_2 : Int) (a0_3 : Int) (a0_4 : Int) (a0_5 : Int) (a0_6 : Int) (a0_7 : Int) (l0_8 : List Int) (l0_9 : List Int) : Option (List Int × Int) := if ((l0_8.length : Int) % 4) = 0 then (tcp_Bytes.j0 k (decide ((l0_8.length : Int) > 40)) a0_0 a0_1 a0_2 a0_3 a0_4 a0_5 a0_6 a0_7 l0_8 l0_9) else (tcp_Bytes.j0 k true a0_0 a0_1 a0_2 a0_3 a0_4 a0_5 a0_6 a0_7 l0_8 l0_9)
theorem tcp_Bytes.mono_l : ∀ k, (∀ y0 y1 y2 y3 y4 y5 y6 y7 y8 y9 y10, LeO (tcp_Bytes.j0 k y0 y1 y2 y3 y4 y5 y6 y7 y8 y9 y10) (tcp_Bytes.j0 (k + 1) y0 y1 y2 y3 y4 y5 y6 y7 y8 y9 y10)) ∧ (∀ y0 y1 y2 y3 y4 y5 y6 y7 y8 y9 y10 y11 y12 y13, LeO (tcp_Bytes.l0 k y0 y1 y2 y3 y4 y5 y6 y7 y8 y9 y10 y11 y12 y13) (tcp_Bytes.l0 (k + 1) y0 y1 y2 y3 y4 y5 y6 y7 y8 y9 y10 y11 y12 y13))
  | 0 => ⟨fun _ _ _ _ _ _ _ _ _ _ _ r h => by simp [tcp_Bytes.j0] at h, fun _ _ _ _ _ _ _ _ _ _ _ _ _ _ r h => by simp [tcp_Bytes.l0] at h⟩
  | k + 1 => by
    obtain ⟨ih0, ih1⟩ := tcp_Bytes.mono_l k
    refine ⟨?_, ?_⟩
    · intro y0 y1 y2 y3 y4 y5 y6 y7 y8 y9 y10
      unfold tcp_Bytes.j0
      repeat' first
      | (with_reducible exact ih0 _ _ _ _ _ _ _ _ _ _ _)
      | (with_reducible exact ih1 _ _ _ _ _ _ _ _ _ _ _ _ _ _)
      | (with_reducible exact slices_Concat_byte_byte.mono _ _)
      | (with_reducible exact LeO.refl _)
      | (with_reducible exact LeO.none _)
      | (with_reducible refine LeO.ite ?_ ?_)
      | (with_reducible refine LeO.bind ?_ (fun _ => ?_))
      | exact ih0 _ _ _ _ _ _ _ _ _ _ _
      | exact ih1 _ _ _ _ _ _ _ _ _ _ _ _ _ _
      | exact slices_Concat_byte_byte.mono _ _
      | exact LeO.none _
      | refine LeO.ite ?_ ?_
      | refine LeO.bind ?_ (fun _ => ?_)
    · intro y0 y1 y2 y3 y4 y5 y6 y7 y8 y9 y10 y11 y12 y13
      unfold tcp_Bytes.l0
      repeat' first
      | (with_reducible exact ih0 _ _ _ _ _ _ _ _ _ _ _)
      | (with_reducible exact ih1 _ _ _ _ _ _ _ _ _ _ _ _ _ _)
      | (with_reducible exact slices_Concat_byte_byte.mono _ _)
      | (with_reducible exact LeO.refl _)
      | (with_reducible exact LeO.none _)
      | (with_reducible refine LeO.ite ?_ ?_)
      | (with_reducible refine LeO.bind ?_ (fun _ => ?_))
      | exact ih0 _ _ _ _ _ _ _ _ _ _ _
      | exact ih1 _ _ _ _ _ _ _ _ _ _ _ _ _ _
      | exact slices_Concat_byte_byte.mono _ _
      | exact LeO.none _
      | refine LeO.ite ?_ ?_
      | refine LeO.bind ?_ (fun _ => ?_)
theorem tcp_Bytes.mono : ∀ a0 a1 a2 a3 a4 a5 a6 a7 a8 a9 k, LeO (tcp_Bytes.f k a0 a1 a2 a3 a4 a5 a6 a7 a8 a9) (tcp_Bytes.f (k + 1) a0 a1 a2 a3 a4 a5 a6 a7 a8 a9) := by
  intro a0 a1 a2 a3 a4 a5 a6 a7 a8 a9 k
  obtain ⟨ih0, ih1⟩ := tcp_Bytes.mono_l k
  unfold tcp_Bytes.f
  repeat' first
      | (with_reducible exact ih0 _ _ _ _ _ _ _ _ _ _ _)
      | (with_reducible exact ih1 _ _ _ _ _ _ _ _ _ _ _ _ _ _)
      | (with_reducible exact slices_Concat_byte_byte.mono _ _)
      | (with_reducible exact LeO.refl _)
      | (with_reducible exact LeO.none _)
      | (with_reducible refine LeO.ite ?_ ?_)
      | (with_reducible refine LeO.bind ?_ (fun _ => ?_))
      | exact ih0 _ _ _ _ _ _ _ _ _ _ _
      | exact ih1 _ _ _ _ _ _ _ _ _ _ _ _ _ _
      | exact slices_Concat_byte_byte.mono _ _
      | exact LeO.none _
      | refine LeO.ite ?_ ?_
      | refine LeO.bind ?_ (fun _ => ?_)
set_option maxHeartbeats 8000000 in
set_option maxRecDepth 100000 in
theorem tcp_Bytes.calls (k : Nat) (a0_0 : Int) (a0_1 : Int) (a0_2 : Int) (a0_3 : Int) (a0_4 : Int) (a0_5 : Int) (a0_6 : Int) (a0_7 : Int) (P0_8_ : Nat → Prop) (A0_8 : Option Addr) (c0_8 : Nat) (l0_8 : List Int) (P0_9_ : Nat → Prop) (A0_9 : Option Addr) (c0_9 : Nat) (l0_9 : List Int) (r1 : List Int) (r2 : Int) (w : World) (hs0_8 : Kd.V (Kd.int .u8) 5 w w.heap.size (fun k_ => P0_8_ k_) (.slice A0_8 l0_8.length c0_8) l0_8) (hs0_9 : Kd.V (Kd.int .u8) 5 w w.heap.size (fun k_ => P0_9_ k_) (.slice A0_9 l0_9.length c0_9) l0_9) (h : tcp_Bytes.f k a0_0 a0_1 a0_2 a0_3 a0_4 a0_5 a0_6 a0_7 l0_8 l0_9 = some (r1, r2)) :
    Calls Try.prog 29 #[.agg #[.int .u16 a0_0, .int .u16 a0_1, .int .u32 a0_2, .int .u32 a0_3, .int .u8 a0_4, .int .u16 a0_5, .int .u16 a0_6, .int .u16 a0_7, .slice A0_8 l0_8.length c0_8, .slice A0_9 l0_9.length c0_9]] w fun e w' => ∃ v0_ : Value, e = .returned (.tuple #[v0_, .int .i64 r2]) ∧ Kd.R (Kd.int .u8) 5 w' w.heap.size (fun k_ => (w.heap.size ≤ k_)) v0_ r1 ∧ Below w.heap.size w w' := by
  have hu49 := Try.underlying49
  have HO0_8 := Aside0.mk (show Kd.V (Kd.int .u8) 5 w w.heap.size (fun k_ => ((P0_8_ k_ ∨ P0_9_ k_) ∨ w.heap.size ≤ k_)) (.slice A0_8 l0_8.length c0_8) l0_8 from Kd.V_mono hs0_8 (fun k_ hk => .inl (.inl hk)))
  have HO0_9 := Aside0.mk (show Kd.V (Kd.int .u8) 5 w w.heap.size (fun k_ => ((P0_8_ k_ ∨ P0_9_ k_) ∨ w.heap.size ≤ k_)) (.slice A0_9 l0_9.length c0_9) l0_9 from Kd.V_mono hs0_9 (fun k_ hk => .inl (.inr hk)))
  have HB := Aside0.mk (Below.refl w.heap.size w)
  have H : (if ((l0_8.length : Int) % 4) = 0 then (tcp_Bytes.j0 k (decide ((l0_8.length : Int) > 40)) a0_0 a0_1 a0_2 a0_3 a0_4 a0_5 a0_6 a0_7 l0_8 l0_9) else (tcp_Bytes.j0 k true a0_0 a0_1 a0_2 a0_3 a0_4 a0_5 a0_6 a0_7 l0_8 l0_9)) = some (r1, r2) := h
  clear h
  have HC2 := Aside0.mk H
  clear H
  go_enter Try.func29, Try.ntmps29
  go_upto_region 1 with (first | ((with_reducible refine gate_dst (N := 1) rfl ?_); (try (refine gate_guard (by rfl) ?_; dsimp only)); refine box_event ?hg (N := 1) ?hd (cs := #[.int .u16 a0_0, .int .u16 a0_1, .int .u32 a0_2, .int .u32 a0_3, .int .u8 a0_4, .int .u16 a0_5, .int .u16 a0_6, .int .u16 a0_7, .slice A0_8 l0_8.length c0_8, .slice A0_9 l0_9.length c0_9]) (t := 49) ?hr ?_; (case hd => rfl); (case hg => rfl); (case hr => first | (go_simp; done) | (go_simp; rfl)); intro gb363 hg w3 hbox hb; have n0_ := Aside0.mk (Kd.V_below (Kd.V_elderB (by (with_reducible repeat (first | apply Kd.V_alloc | apply Kd.V_drewN | apply Kd.V_drew)); exact HO0_8.out) gb363 (Nat.le_of_eq hg.symm)) hb); have n1_ := Aside0.mk (Kd.V_below (Kd.V_elderB (by (with_reducible repeat (first | apply Kd.V_alloc | apply Kd.V_drewN | apply Kd.V_drew)); exact HO0_9.out) gb363 (Nat.le_of_eq hg.symm)) hb); have n2_ := Aside0.mk (below_step (by repeat (first | (with_reducible first | exact HB.out | apply below_alloc | apply pw_below_drewN | apply below_drew1) | exact HB.out)) hb); have n3_ := Aside0.mk (hbox); have n4_ := Aside0.mk ((by rw [hg]; exact (below_size (by repeat (first | (with_reducible first | exact HB.out | apply below_alloc | apply pw_below_drewN | apply below_drew1) | exact HB.out))) : w.heap.size ≤ gb363)); have n5_ := Aside0.mk ((by rw [hg]; exact (below_size (by repeat (first | (with_reducible first | exact HB.out | apply below_alloc | apply pw_below_drewN | apply below_drew1) | exact HB.out))) : w.heap.size ≤ gb363)); clear HO0_8; clear HO0_9; clear HB; have HO0_8 := n0_; have HO0_9 := n1_; have HB := n2_; have BK363 := n3_; have GW363 := n4_; have GE363 := n5_; clear n0_ n1_ n2_ n3_ n4_ n5_; clear hb hbox hg))
  (try simp only [Act.put, List.setIfInBounds_toArray, List.set_cons_zero, List.set_cons_succ])
  go_cut [7] (fun v7 wc => ∃ (kq : Nat) (x7_1 : Bool), v7 = .bool x7_1 ∧ Aside0 (tcp_Bytes.j0 kq x7_1 a0_0 a0_1 a0_2 a0_3 a0_4 a0_5 a0_6 a0_7 l0_8 l0_9 = some (r1, r2)) ∧ Aside0 (kq ≤ k) ∧ Aside0 (Kd.V (Kd.int .u8) 5 wc w.heap.size (fun k_ => ((P0_8_ k_ ∨ P0_9_ k_) ∨ w.heap.size ≤ k_) ∧ k_ ≠ gb363) (.slice A0_8 l0_8.length c0_8) l0_8) ∧ Aside0 (Kd.V (Kd.int .u8) 5 wc w.heap.size (fun k_ => ((P0_8_ k_ ∨ P0_9_ k_) ∨ w.heap.size ≤ k_) ∧ k_ ≠ gb363) (.slice A0_9 l0_9.length c0_9) l0_9) ∧ Aside0 (wc.heap[gb363]? = some (.cells #[.int .u16 a0_0, .int .u16 a0_1, .int .u32 a0_2, .int .u32 a0_3, .int .u8 a0_4, .int .u16 a0_5, .int .u16 a0_6, .int .u16 a0_7, (.slice A0_8 l0_8.length c0_8), (.slice A0_9 l0_9.length c0_9)] 49 (0, 0))) ∧ Aside0 (Below w.heap.size w wc))
  case first =>
    have H := HC2.out
    clear HC2
    by_cases c4 : ((l0_8.length : Int) % 4) = 0
    · rw [if_pos c4] at H
      have c4b0 : (((l0_8.length : Int) % 4) == 0) = true := beq_iff_eq.mpr c4
      have c4b1 : (((l0_8.length : Int) % 4) != 0) = false := bne_eq_false_iff_eq.mpr c4
      clear c4
      (first | rw [c4b0] | (simp only [i64_w, i32_w]; rw [c4b0]) | skip)
      have H' := Aside0.mk H
      clear H
      have hcz5_0 : w3.cell? ⟨gb363, 0, none⟩ = some (.int .u16 a0_0) := (blk_cell BK363.out 0).trans rfl
      have hcz5_1 : w3.cell? ⟨gb363, 1, none⟩ = some (.int .u16 a0_1) := (blk_cell BK363.out 1).trans rfl
      have hcz5_2 : w3.cell? ⟨gb363, 2, none⟩ = some (.int .u32 a0_2) := (blk_cell BK363.out 2).trans rfl
      have hcz5_3 : w3.cell? ⟨gb363, 3, none⟩ = some (.int .u32 a0_3) := (blk_cell BK363.out 3).trans rfl
      have hcz5_4 : w3.cell? ⟨gb363, 4, none⟩ = some (.int .u8 a0_4) := (blk_cell BK363.out 4).trans rfl
      have hcz5_5 : w3.cell? ⟨gb363, 5, none⟩ = some (.int .u16 a0_5) := (blk_cell BK363.out 5).trans rfl
      have hcz5_6 : w3.cell? ⟨gb363, 6, none⟩ = some (.int .u16 a0_6) := (blk_cell BK363.out 6).trans rfl
      have hcz5_7 : w3.cell? ⟨gb363, 7, none⟩ = some (.int .u16 a0_7) := (blk_cell BK363.out 7).trans rfl
      have hcz5_8 : w3.cell? ⟨gb363, 8, none⟩ = some (.slice A0_8 l0_8.length c0_8) := (blk_cell BK363.out 8).trans rfl
      have hcz5_9 : w3.cell? ⟨gb363, 9, none⟩ = some (.slice A0_9 l0_9.length c0_9) := (blk_cell BK363.out 9).trans rfl
      have hfz5_0 := blk_frozen BK363.out 0
      have hfz5_1 := blk_frozen BK363.out 1
      have hfz5_2 := blk_frozen BK363.out 2
      have hfz5_3 := blk_frozen BK363.out 3
      have hfz5_4 := blk_frozen BK363.out 4
      have hfz5_5 := blk_frozen BK363.out 5
      have hfz5_6 := blk_frozen BK363.out 6
      have hfz5_7 := blk_frozen BK363.out 7
      have hfz5_8 := blk_frozen BK363.out 8
      have hfz5_9 := blk_frozen BK363.out 9
      go_wp2
      go_meet
      case rel => exact ⟨_, (decide ((l0_8.length : Int) > 40)), (by first | rfl | (simp; done) | (simp [*]; done)), H', ⟨by first | omega | exact Nat.le_refl _⟩, ⟨by (with_reducible repeat (first | apply Kd.V_alloc | apply Kd.V_drewN | apply Kd.V_drew)); exact HO0_8.out⟩, ⟨by (with_reducible repeat (first | apply Kd.V_alloc | apply Kd.V_drewN | apply Kd.V_drew)); exact HO0_9.out⟩, ⟨by (with_reducible repeat (first | refine blk_drewN ?_ _ | refine blk_drew ?_ | refine blk_alloc ?_ _)); exact BK363.out⟩, ⟨by repeat (first | (with_reducible first | exact HB.out | apply below_alloc | apply pw_below_drewN | apply below_drew1 | refine below_set ?_ GE363.out) | exact HB.out)⟩⟩
    · rw [if_neg c4] at H
      have c4b0 : (((l0_8.length : Int) % 4) == 0) = false := beq_eq_false_iff_ne.mpr c4
      have c4b1 : (((l0_8.length : Int) % 4) != 0) = true := bne_iff_ne.mpr c4
      (first | rw [c4b0] | (simp only [i64_w, i32_w]; rw [c4b0]) | skip)
      have H' := Aside0.mk H
      clear H
      have hcz6_0 : w3.cell? ⟨gb363, 0, none⟩ = some (.int .u16 a0_0) := (blk_cell BK363.out 0).trans rfl
      have hcz6_1 : w3.cell? ⟨gb363, 1, none⟩ = some (.int .u16 a0_1) := (blk_cell BK363.out 1).trans rfl
      have hcz6_2 : w3.cell? ⟨gb363, 2, none⟩ = some (.int .u32 a0_2) := (blk_cell BK363.out 2).trans rfl
      have hcz6_3 : w3.cell? ⟨gb363, 3, none⟩ = some (.int .u32 a0_3) := (blk_cell BK363.out 3).trans rfl
      have hcz6_4 : w3.cell? ⟨gb363, 4, none⟩ = some (.int .u8 a0_4) := (blk_cell BK363.out 4).trans rfl
      have hcz6_5 : w3.cell? ⟨gb363, 5, none⟩ = some (.int .u16 a0_5) := (blk_cell BK363.out 5).trans rfl
      have hcz6_6 : w3.cell? ⟨gb363, 6, none⟩ = some (.int .u16 a0_6) := (blk_cell BK363.out 6).trans rfl
      have hcz6_7 : w3.cell? ⟨gb363, 7, none⟩ = some (.int .u16 a0_7) := (blk_cell BK363.out 7).trans rfl
      have hcz6_8 : w3.cell? ⟨gb363, 8, none⟩ = some (.slice A0_8 l0_8.length c0_8) := (blk_cell BK363.out 8).trans rfl
      have hcz6_9 : w3.cell? ⟨gb363, 9, none⟩ = some (.slice A0_9 l0_9.length c0_9) := (blk_cell BK363.out 9).trans rfl
      have hfz6_0 := blk_frozen BK363.out 0
      have hfz6_1 := blk_frozen BK363.out 1
      have hfz6_2 := blk_frozen BK363.out 2
      have hfz6_3 := blk_frozen BK363.out 3
      have hfz6_4 := blk_frozen BK363.out 4
      have hfz6_5 := blk_frozen BK363.out 5
      have hfz6_6 := blk_frozen BK363.out 6
      have hfz6_7 := blk_frozen BK363.out 7
      have hfz6_8 := blk_frozen BK363.out 8
      have hfz6_9 := blk_frozen BK363.out 9
      go_wp2
      go_meet
      case rel => exact ⟨_, (true), (by first | rfl | (simp; done) | (simp [*]; done)), H', ⟨by first | omega | exact Nat.le_refl _⟩, ⟨by (with_reducible repeat (first | apply Kd.V_alloc | apply Kd.V_drewN | apply Kd.V_drew)); exact HO0_8.out⟩, ⟨by (with_reducible repeat (first | apply Kd.V_alloc | apply Kd.V_drewN | apply Kd.V_drew)); exact HO0_9.out⟩, ⟨by (with_reducible repeat (first | refine blk_drewN ?_ _ | refine blk_drew ?_ | refine blk_alloc ?_ _)); exact BK363.out⟩, ⟨by repeat (first | (with_reducible first | exact HB.out | apply below_alloc | apply pw_below_drewN | apply below_drew1 | refine below_set ?_ GE363.out) | exact HB.out)⟩⟩
  case rest =>
    clear HC2
    try clear c2
    try clear p2
    try clear c4
    try clear c4b0
    try clear c4b1
    try clear hcz5_0
    try clear hcz5_1
    try clear hcz5_2
    try clear hcz5_3
    try clear hcz5_4
    try clear hcz5_5
    try clear hcz5_6
    try clear hcz5_7
    try clear hcz5_8
    try clear hcz5_9
    try clear hcz6_0
    try clear hcz6_1
    try clear hcz6_2
    try clear hcz6_3
    try clear hcz6_4
    try clear hcz6_5
    try clear hcz6_6
    try clear hcz6_7
    try clear hcz6_8
    try clear hcz6_9
    try clear hfz5_0
    try clear hfz5_1
    try clear hfz5_2
    try clear hfz5_3
    try clear hfz5_4
    try clear hfz5_5
    try clear hfz5_6
    try clear hfz5_7
    try clear hfz5_8
    try clear hfz5_9
    try clear hfz6_0
    try clear hfz6_1
    try clear hfz6_2
    try clear hfz6_3
    try clear hfz6_4
    try clear hfz6_5
    try clear hfz6_6
    try clear hfz6_7
    try clear hfz6_8
    try clear hfz6_9
    obtain ⟨kq, x7_1, rfl, HA, HJ1, HO_364008, HO_364009, BK363, HB⟩ := hcut
    cases kq with
    | zero => exact absurd HA.out (by simp [tcp_Bytes.j0])
    | succ kj1 =>
      have H := HA.out
      clear HA
      simp only [tcp_Bytes.j0] at H
      by_cases c7 : x7_1 = true
      · subst c7
        have H1 : (some (([] : List Int), 21)) = some (r1, r2) := by rw [if_pos rfl] at H; exact H
        clear H
        have H := H1
        clear H1
        simp only [Option.some.injEq, Prod.mk.injEq] at H
        obtain ⟨rfl, rfl⟩ := H
        go_wp2
        go_ret2
        exact ⟨_, by first | rfl | (simp [errW_none, errW_some] <;> rfl) | (simp [*, errW_none, errW_some] <;> rfl), by first | exact Kd.R_nil _ _ _ _ _ | exact Kd.N_nil _ _ _ _ _ | exact Kd.V_nil _ _ _ _ _ | exact Kd.Q_nil _ _ _ _ _ | exact Kd.S_nil _ _ _ _ _, by repeat (first | (with_reducible first | exact HB.out | apply below_alloc | apply pw_below_drewN | apply below_drew1 | refine below_set ?_ GE363.out) | exact HB.out)⟩
      · replace c7 := Bool.eq_false_iff.mpr c7
        subst c7
        have H1 : (if (wrap64 ((wrap64 (20 + (l0_8.length : Int))) + (l0_9.length : Int))) > 65515 then (some (([] : List Int), 23)) else ((some (([a0_2, a0_3] : List Int) : List Int)).bind fun y367 => (tcp_Bytes.l0 kj1 (([(a0_0 / 256) % 256, (a0_0) % 256, (a0_1 / 256) % 256, (a0_1) % 256] : List Int)) y367 (y367.length : Int) 0 a0_0 a0_1 a0_2 a0_3 a0_4 a0_5 a0_6 a0_7 l0_8 l0_9))) = some (r1, r2) := by rw [if_neg (show ¬ (false = true) by decide)] at H; exact H
        clear H
        have H := H1
        clear H1
        by_cases c8 : (wrap64 ((wrap64 (20 + (l0_8.length : Int))) + (l0_9.length : Int))) > 65515
        · rw [if_pos c8] at H
          have c8b0 : decide (65515 < (wrap64 ((wrap64 (20 + (l0_8.length : Int))) + (l0_9.length : Int)))) = true := decide_eq_true c8
          clear c8
          simp only [Option.some.injEq, Prod.mk.injEq] at H
          obtain ⟨rfl, rfl⟩ := H
          have hcz9_0 : wc.cell? ⟨gb363, 0, none⟩ = some (.int .u16 a0_0) := (blk_cell BK363.out 0).trans rfl
          have hcz9_1 : wc.cell? ⟨gb363, 1, none⟩ = some (.int .u16 a0_1) := (blk_cell BK363.out 1).trans rfl
          have hcz9_2 : wc.cell? ⟨gb363, 2, none⟩ = some (.int .u32 a0_2) := (blk_cell BK363.out 2).trans rfl
          have hcz9_3 : wc.cell? ⟨gb363, 3, none⟩ = some (.int .u32 a0_3) := (blk_cell BK363.out 3).trans rfl
          have hcz9_4 : wc.cell? ⟨gb363, 4, none⟩ = some (.int .u8 a0_4) := (blk_cell BK363.out 4).trans rfl
          have hcz9_5 : wc.cell? ⟨gb363, 5, none⟩ = some (.int .u16 a0_5) := (blk_cell BK363.out 5).trans rfl
          have hcz9_6 : wc.cell? ⟨gb363, 6, none⟩ = some (.int .u16 a0_6) := (blk_cell BK363.out 6).trans rfl
          have hcz9_7 : wc.cell? ⟨gb363, 7, none⟩ = some (.int .u16 a0_7) := (blk_cell BK363.out 7).trans rfl
          have hcz9_8 : wc.cell? ⟨gb363, 8, none⟩ = some (.slice A0_8 l0_8.length c0_8) := (blk_cell BK363.out 8).trans rfl
          have hcz9_9 : wc.cell? ⟨gb363, 9, none⟩ = some (.slice A0_9 l0_9.length c0_9) := (blk_cell BK363.out 9).trans rfl
          have hfz9_0 := blk_frozen BK363.out 0
          have hfz9_1 := blk_frozen BK363.out 1
          have hfz9_2 := blk_frozen BK363.out 2
          have hfz9_3 := blk_frozen BK363.out 3
          have hfz9_4 := blk_frozen BK363.out 4
          have hfz9_5 := blk_frozen BK363.out 5
          have hfz9_6 := blk_frozen BK363.out 6
          have hfz9_7 := blk_frozen BK363.out 7
          have hfz9_8 := blk_frozen BK363.out 8
          have hfz9_9 := blk_frozen BK363.out 9
          go_wp2
          go_ret2
          exact ⟨_, by first | rfl | (simp [errW_none, errW_some] <;> rfl) | (simp [*, errW_none, errW_some] <;> rfl), by first | exact Kd.R_nil _ _ _ _ _ | exact Kd.N_nil _ _ _ _ _ | exact Kd.V_nil _ _ _ _ _ | exact Kd.Q_nil _ _ _ _ _ | exact Kd.S_nil _ _ _ _ _, by repeat (first | (with_reducible first | exact HB.out | apply below_alloc | apply pw_below_drewN | apply below_drew1 | refine below_set ?_ GE363.out) | exact HB.out)⟩
        · rw [if_neg c8] at H
          have c8b0 : decide (65515 < (wrap64 ((wrap64 (20 + (l0_8.length : Int))) + (l0_9.length : Int)))) = false := decide_eq_false c8
          clear c8
          obtain ⟨y364, hy364⟩ : ∃ y_ : List Int, y_ = (([(a0_0 / 256) % 256, (a0_0) % 256, (a0_1 / 256) % 256, (a0_1) % 256] : List Int)) := ⟨_, rfl⟩
          replace H : ((some (([a0_2, a0_3] : List Int) : List Int)).bind fun y367 => (tcp_Bytes.l0 kj1 y364 y367 (y367.length : Int) 0 a0_0 a0_1 a0_2 a0_3 a0_4 a0_5 a0_6 a0_7 l0_8 l0_9)) = some (r1, r2) := by first | (rw [hy364]; with_reducible exact H) | (have H2_ := (Option.bind_some _ _).symm.trans H; rw [hy364]; with_reducible exact H2_) | (have H2_ := (Option.bind_some _ _).symm.trans H; with_reducible exact H2_) | with_reducible exact H | (rw [hy364]; exact H) | exact H
          have Ny364 := Aside0.mk hy364
          clear hy364
          obtain ⟨y367, hy367⟩ : ∃ y_ : List Int, y_ = (([a0_2, a0_3] : List Int)) := ⟨_, rfl⟩
          replace H : (tcp_Bytes.l0 kj1 y364 y367 (y367.length : Int) 0 a0_0 a0_1 a0_2 a0_3 a0_4 a0_5 a0_6 a0_7 l0_8 l0_9) = some (r1, r2) := by first | (rw [hy367]; with_reducible exact H) | (have H2_ := (Option.bind_some _ _).symm.trans H; rw [hy367]; with_reducible exact H2_) | (have H2_ := (Option.bind_some _ _).symm.trans H; with_reducible exact H2_) | with_reducible exact H | (rw [hy367]; exact H) | exact H
          have Ny367 := Aside0.mk hy367
          clear hy367
          have H' := Aside0.mk H
          clear H
          have hcz10_0 : wc.cell? ⟨gb363, 0, none⟩ = some (.int .u16 a0_0) := (blk_cell BK363.out 0).trans rfl
          have hcz10_1 : wc.cell? ⟨gb363, 1, none⟩ = some (.int .u16 a0_1) := (blk_cell BK363.out 1).trans rfl
          have hcz10_2 : wc.cell? ⟨gb363, 2, none⟩ = some (.int .u32 a0_2) := (blk_cell BK363.out 2).trans rfl
          have hcz10_3 : wc.cell? ⟨gb363, 3, none⟩ = some (.int .u32 a0_3) := (blk_cell BK363.out 3).trans rfl
          have hcz10_4 : wc.cell? ⟨gb363, 4, none⟩ = some (.int .u8 a0_4) := (blk_cell BK363.out 4).trans rfl
          have hcz10_5 : wc.cell? ⟨gb363, 5, none⟩ = some (.int .u16 a0_5) := (blk_cell BK363.out 5).trans rfl
          have hcz10_6 : wc.cell? ⟨gb363, 6, none⟩ = some (.int .u16 a0_6) := (blk_cell BK363.out 6).trans rfl
          have hcz10_7 : wc.cell? ⟨gb363, 7, none⟩ = some (.int .u16 a0_7) := (blk_cell BK363.out 7).trans rfl
          have hcz10_8 : wc.cell? ⟨gb363, 8, none⟩ = some (.slice A0_8 l0_8.length c0_8) := (blk_cell BK363.out 8).trans rfl
          have hcz10_9 : wc.cell? ⟨gb363, 9, none⟩ = some (.slice A0_9 l0_9.length c0_9) := (blk_cell BK363.out 9).trans rfl
          have hfz10_0 := blk_frozen BK363.out 0
          have hfz10_1 := blk_frozen BK363.out 1
          have hfz10_2 := blk_frozen BK363.out 2
          have hfz10_3 := blk_frozen BK363.out 3
          have hfz10_4 := blk_frozen BK363.out 4
          have hfz10_5 := blk_frozen BK363.out 5
          have hfz10_6 := blk_frozen BK363.out 6
          have hfz10_7 := blk_frozen BK363.out 7
          have hfz10_8 := blk_frozen BK363.out 8
          have hfz10_9 := blk_frozen BK363.out 9
          go_wp2_with (first | ((with_reducible refine gate_dst (N := 43) rfl ?_); (try (refine gate_guard (by rfl) ?_; dsimp only)); refine Kd.R_lit (Kd.int .u8) _ 5 ?hg (N := 43) ?hd (xs := ([(a0_0 / 256) % 256, (a0_0) % 256, (a0_1 / 256) % 256, (a0_1) % 256] : List Int)) (inner := [.int .u8 ((a0_0 / 256) % 256), .int .u8 ((a0_0) % 256), .int .u8 ((a0_1 / 256) % 256), .int .u8 ((a0_1) % 256)]) (ok := fun _ => True) (okp := fun _ => True) ?hr ?hp (fun _ hk => hk) trivial (Below.refl _ _) (Nat.le_refl _) (by simp) ?_; (case hd => rfl); (case hg => rfl); (case hr => first | (go_simp; done) | (go_simp; simp only [IntKind.wrap_u8, IntKind.wrap_u16, IntKind.wrap_u32]; done) | (go_simp; rfl)); (case hp => exact (Reps.one (show Kd.M (Kd.int .u8) _ _ _ ((a0_0 / 256) % 256) [.int .u8 ((a0_0 / 256) % 256)] from rfl) (Reps.one (show Kd.M (Kd.int .u8) _ _ _ ((a0_0) % 256) [.int .u8 ((a0_0) % 256)] from rfl) (Reps.one (show Kd.M (Kd.int .u8) _ _ _ ((a0_1 / 256) % 256) [.int .u8 ((a0_1 / 256) % 256)] from rfl) (Reps.one (show Kd.M (Kd.int .u8) _ _ _ ((a0_1) % 256) [.int .u8 ((a0_1) % 256)] from rfl) (Reps.none _ _)))))); intro v365 w11 ho12 hb hg_ hnew_; clear hg_ hnew_; (first | rw [← Ny364.out] at ho12 | (simp only [Int.reduceToNat] at ho12; rw [← Ny364.out] at ho12)); have n0_ := Aside0.mk (Kd.V_elder' (by (with_reducible repeat (first | apply Kd.V_alloc | apply Kd.V_drewN | apply Kd.V_drew)); exact HO_364008.out) (Kd.R_base ho12) hb); have n1_ := Aside0.mk (Kd.V_elder' (by (with_reducible repeat (first | apply Kd.V_alloc | apply Kd.V_drewN | apply Kd.V_drew)); exact HO_364009.out) (Kd.R_base ho12) hb); have n2_ := Aside0.mk (Kd.R_lower (Kd.R_newM (M := fun k_ => (w.heap.size ≤ k_)) ho12 (below_size (by repeat (first | (with_reducible first | exact HB.out | apply below_alloc | apply pw_below_drewN | apply below_drew1 | refine below_set ?_ GE363.out) | exact HB.out))) (fun k_ h_ => h_)) (below_size (by repeat (first | (with_reducible first | exact HB.out | apply below_alloc | apply pw_below_drewN | apply below_drew1 | refine below_set ?_ GE363.out) | exact HB.out)))); have n3_ := Aside0.mk (blk_below (g := gb363) (o := .cells #[.int .u16 a0_0, .int .u16 a0_1, .int .u32 a0_2, .int .u32 a0_3, .int .u8 a0_4, .int .u16 a0_5, .int .u16 a0_6, .int .u16 a0_7, .slice A0_8 l0_8.length c0_8, .slice A0_9 l0_9.length c0_9] 49 (0, 0)) (by (with_reducible repeat (first | refine blk_drewN ?_ _ | refine blk_drew ?_ | refine blk_alloc ?_ _)); exact BK363.out) hb); have n4_ := Aside0.mk (below_step (by repeat (first | (with_reducible first | exact HB.out | apply below_alloc | apply pw_below_drewN | apply below_drew1 | refine below_set ?_ GE363.out) | exact HB.out)) hb); clear HO_364008; clear HO_364009; clear BK363; clear HB; have HO_364008 := n0_; have HO_364009 := n1_; have HO366 := n2_; have BK363 := n3_; have HB := n4_; clear n0_ n1_ n2_ n3_ n4_; clear hb ho12; have hcz13_0 : w11.cell? ⟨gb363, 0, none⟩ = some (.int .u16 a0_0) := (blk_cell BK363.out 0).trans rfl; have hcz13_1 : w11.cell? ⟨gb363, 1, none⟩ = some (.int .u16 a0_1) := (blk_cell BK363.out 1).trans rfl; have hcz13_2 : w11.cell? ⟨gb363, 2, none⟩ = some (.int .u32 a0_2) := (blk_cell BK363.out 2).trans rfl; have hcz13_3 : w11.cell? ⟨gb363, 3, none⟩ = some (.int .u32 a0_3) := (blk_cell BK363.out 3).trans rfl; have hcz13_4 : w11.cell? ⟨gb363, 4, none⟩ = some (.int .u8 a0_4) := (blk_cell BK363.out 4).trans rfl; have hcz13_5 : w11.cell? ⟨gb363, 5, none⟩ = some (.int .u16 a0_5) := (blk_cell BK363.out 5).trans rfl; have hcz13_6 : w11.cell? ⟨gb363, 6, none⟩ = some (.int .u16 a0_6) := (blk_cell BK363.out 6).trans rfl; have hcz13_7 : w11.cell? ⟨gb363, 7, none⟩ = some (.int .u16 a0_7) := (blk_cell BK363.out 7).trans rfl; have hcz13_8 : w11.cell? ⟨gb363, 8, none⟩ = some (.slice A0_8 l0_8.length c0_8) := (blk_cell BK363.out 8).trans rfl; have hcz13_9 : w11.cell? ⟨gb363, 9, none⟩ = some (.slice A0_9 l0_9.length c0_9) := (blk_cell BK363.out 9).trans rfl; have hfz13_0 := blk_frozen BK363.out 0; have hfz13_1 := blk_frozen BK363.out 1; have hfz13_2 := blk_frozen BK363.out 2; have hfz13_3 := blk_frozen BK363.out 3; have hfz13_4 := blk_frozen BK363.out 4; have hfz13_5 := blk_frozen BK363.out 5; have hfz13_6 := blk_frozen BK363.out 6; have hfz13_7 := blk_frozen BK363.out 7; have hfz13_8 := blk_frozen BK363.out 8; have hfz13_9 := blk_frozen BK363.out 9) | ((with_reducible refine gate_dst (N := 48) rfl ?_); (try (refine gate_guard (by rfl) ?_; dsimp only)); refine Kd.R_lit (Kd.int .u32) _ 40 ?hg (N := 48) ?hd (xs := ([a0_2, a0_3] : List Int)) (inner := [.int .u32 a0_2, .int .u32 a0_3]) (ok := fun _ => True) (okp := fun _ => True) ?hr ?hp (fun _ hk => hk) trivial (Below.refl _ _) (Nat.le_refl _) (by simp) ?_; (case hd => rfl); (case hg => rfl); (case hr => first | (go_simp; done) | (go_simp; rfl)); (case hp => exact (Reps.one (show Kd.M (Kd.int .u32) _ _ _ a0_2 [.int .u32 a0_2] from rfl) (Reps.one (show Kd.M (Kd.int .u32) _ _ _ a0_3 [.int .u32 a0_3] from rfl) (Reps.none _ _)))); intro v368 w14 ho15 hb hg_ hnew_; clear hg_ hnew_; (first | rw [← Ny367.out] at ho15 | (simp only [Int.reduceToNat] at ho15; rw [← Ny367.out] at ho15)); have n0_ := Aside0.mk (Kd.V_elder' (by (with_reducible repeat (first | apply Kd.V_alloc | apply Kd.V_drewN | apply Kd.V_drew)); exact HO_364008.out) (Kd.R_base ho15) hb); have n1_ := Aside0.mk (Kd.V_elder' (by (with_reducible repeat (first | apply Kd.V_alloc | apply Kd.V_drewN | apply Kd.V_drew)); exact HO_364009.out) (Kd.R_base ho15) hb); have n2_ := Aside0.mk (Kd.R_below (by (with_reducible repeat (first | apply Kd.R_alloc | apply Kd.R_drewN | apply Kd.R_drew)); exact HO366.out) hb); have n3_ := Aside0.mk (Kd.R_lower (Kd.R_newM (M := fun k_ => (w.heap.size ≤ k_)) ho15 (below_size (by repeat (first | (with_reducible first | exact HB.out | apply below_alloc | apply pw_below_drewN | apply below_drew1 | refine below_set ?_ GE363.out) | exact HB.out))) (fun k_ h_ => h_)) (below_size (by repeat (first | (with_reducible first | exact HB.out | apply below_alloc | apply pw_below_drewN | apply below_drew1 | refine below_set ?_ GE363.out) | exact HB.out)))); have n4_ := Aside0.mk (blk_below (g := gb363) (o := .cells #[.int .u16 a0_0, .int .u16 a0_1, .int .u32 a0_2, .int .u32 a0_3, .int .u8 a0_4, .int .u16 a0_5, .int .u16 a0_6, .int .u16 a0_7, .slice A0_8 l0_8.length c0_8, .slice A0_9 l0_9.length c0_9] 49 (0, 0)) (by (with_reducible repeat (first | refine blk_drewN ?_ _ | refine blk_drew ?_ | refine blk_alloc ?_ _)); exact BK363.out) hb); have n5_ := Aside0.mk (below_step (by repeat (first | (with_reducible first | exact HB.out | apply below_alloc | apply pw_below_drewN | apply below_drew1 | refine below_set ?_ GE363.out) | exact HB.out)) hb); clear HO_364008; clear HO_364009; clear HO366; clear BK363; clear HB; have HO_364008 := n0_; have HO_364009 := n1_; have HO366 := n2_; have HO369 := n3_; have BK363 := n4_; have HB := n5_; clear n0_ n1_ n2_ n3_ n4_ n5_; clear hb ho15; obtain ⟨Ao16, co16, eo16⟩ := Kd.R_slice HO369.out; subst eo16))
          go_loopg [4, 50] kj1 (fun kq v4 v50 w' => ∃ (x4_2 : List Int) (x50_2 : Int), v50 = .int .i64 x50_2 ∧ Aside0 (tcp_Bytes.l0 kq x4_2 y367 (y367.length : Int) x50_2 a0_0 a0_1 a0_2 a0_3 a0_4 a0_5 a0_6 a0_7 l0_8 l0_9 = some (r1, r2)) ∧ Aside0 (kq ≤ kj1) ∧ Aside0 (Kd.R (Kd.int .u8) 5 w' w.heap.size (fun k_ => (w.heap.size ≤ k_)) v4 x4_2) ∧ Aside0 (Kd.R (Kd.int .u32) 40 w' w.heap.size (fun k_ => (w.heap.size ≤ k_)) (.slice Ao16 y367.length co16) y367) ∧ Aside0 (Kd.V (Kd.int .u8) 5 w' w.heap.size (fun k_ => ((P0_8_ k_ ∨ P0_9_ k_) ∨ w.heap.size ≤ k_) ∧ some k_ ≠ (v4 : Value).ownBlock ∧ some k_ ≠ ((.slice Ao16 y367.length co16) : Value).ownBlock ∧ k_ ≠ gb363) (.slice A0_8 l0_8.length c0_8) l0_8) ∧ Aside0 (Kd.V (Kd.int .u8) 5 w' w.heap.size (fun k_ => ((P0_8_ k_ ∨ P0_9_ k_) ∨ w.heap.size ≤ k_) ∧ some k_ ≠ (v4 : Value).ownBlock ∧ some k_ ≠ ((.slice Ao16 y367.length co16) : Value).ownBlock ∧ k_ ≠ gb363) (.slice A0_9 l0_9.length c0_9) l0_9) ∧ Aside0 (w'.heap[gb363]? = some (.cells #[.int .u16 a0_0, .int .u16 a0_1, .int .u32 a0_2, .int .u32 a0_3, .int .u8 a0_4, .int .u16 a0_5, .int .u16 a0_6, .int .u16 a0_7, (.slice A0_8 l0_8.length c0_8), (.slice A0_9 l0_9.length c0_9)] 49 (0, 0))) ∧ Aside0 (Below w.heap.size w w'))
          case atStart => exact ⟨(y364), (0), (by first | rfl | (simp; done) | (simp [*]; done)), H', ⟨Nat.le_refl _⟩, ⟨by (with_reducible repeat (first | apply Kd.R_alloc | apply Kd.R_drewN | apply Kd.R_drew)); exact Kd.R_mono HO366.out (fun _ hk => hk.1)⟩, ⟨by (with_reducible repeat (first | apply Kd.R_alloc | apply Kd.R_drewN | apply Kd.R_drew)); exact Kd.R_mono HO369.out (fun _ hk => hk.1)⟩, ⟨by (with_reducible repeat (first | apply Kd.V_alloc | apply Kd.V_drewN | apply Kd.V_drew)); exact Kd.V_mono HO_364008.out (fun _ hk => ⟨hk.1.1.1, ⟨hk.1.2, ⟨hk.2, hk.1.1.2⟩⟩⟩)⟩, ⟨by (with_reducible repeat (first | apply Kd.V_alloc | apply Kd.V_drewN | apply Kd.V_drew)); exact Kd.V_mono HO_364009.out (fun _ hk => ⟨hk.1.1.1, ⟨hk.1.2, ⟨hk.2, hk.1.1.2⟩⟩⟩)⟩, ⟨by (with_reducible repeat (first | refine blk_drewN ?_ _ | refine blk_drew ?_ | refine blk_alloc ?_ _)); exact BK363.out⟩, ⟨by repeat (first | (with_reducible first | exact HB.out | apply below_alloc | apply pw_below_drewN | apply below_drew1 | refine below_set ?_ GE363.out) | exact HB.out)⟩⟩
          case round =>
            clear H'
            try clear c2
            try clear p2
            try clear c4
            try clear c4b0
            try clear c4b1
            try clear p6
            try clear c7
            try clear c8
            try clear c8b0
            try clear hcz10_0
            try clear hcz10_1
            try clear hcz10_2
            try clear hcz10_3
            try clear hcz10_4
            try clear hcz10_5
            try clear hcz10_6
            try clear hcz10_7
            try clear hcz10_8
            try clear hcz10_9
            try clear hcz13_0
            try clear hcz13_1
            try clear hcz13_2
            try clear hcz13_3
            try clear hcz13_4
            try clear hcz13_5
            try clear hcz13_6
            try clear hcz13_7
            try clear hcz13_8
            try clear hcz13_9
            try clear hcz5_0
            try clear hcz5_1
            try clear hcz5_2
            try clear hcz5_3
            try clear hcz5_4
            try clear hcz5_5
            try clear hcz5_6
            try clear hcz5_7
            try clear hcz5_8
            try clear hcz5_9
            try clear hcz6_0
            try clear hcz6_1
            try clear hcz6_2
            try clear hcz6_3
            try clear hcz6_4
            try clear hcz6_5
            try clear hcz6_6
            try clear hcz6_7
            try clear hcz6_8
            try clear hcz6_9
            try clear hcz9_0
            try clear hcz9_1
            try clear hcz9_2
            try clear hcz9_3
            try clear hcz9_4
            try clear hcz9_5
            try clear hcz9_6
            try clear hcz9_7
            try clear hcz9_8
            try clear hcz9_9
            try clear hfz10_0
            try clear hfz10_1
            try clear hfz10_2
            try clear hfz10_3
            try clear hfz10_4
            try clear hfz10_5
            try clear hfz10_6
            try clear hfz10_7
            try clear hfz10_8
            try clear hfz10_9
            try clear hfz13_0
            try clear hfz13_1
            try clear hfz13_2
            try clear hfz13_3
            try clear hfz13_4
            try clear hfz13_5
            try clear hfz13_6
            try clear hfz13_7
            try clear hfz13_8
            try clear hfz13_9
            try clear hfz5_0
            try clear hfz5_1
            try clear hfz5_2
            try clear hfz5_3
            try clear hfz5_4
            try clear hfz5_5
            try clear hfz5_6
            try clear hfz5_7
            try clear hfz5_8
            try clear hfz5_9
            try clear hfz6_0
            try clear hfz6_1
            try clear hfz6_2
            try clear hfz6_3
            try clear hfz6_4
            try clear hfz6_5
            try clear hfz6_6
            try clear hfz6_7
            try clear hfz6_8
            try clear hfz6_9
            try clear hfz9_0
            try clear hfz9_1
            try clear hfz9_2
            try clear hfz9_3
            try clear hfz9_4
            try clear hfz9_5
            try clear hfz9_6
            try clear hfz9_7
            try clear hfz9_8
            try clear hfz9_9
            try clear p2
            obtain ⟨x4_2, x50_2, rfl, HA, HK2, HO_4, HO_48, HO_364008, HO_364009, BK363, HB⟩ := hrel
            cases gk with
            | zero => exact absurd HA.out (by simp [tcp_Bytes.l0])
            | succ k2 =>
              have H := HA.out
              clear HA
              simp only [tcp_Bytes.l0] at H
              by_cases c17 : x50_2 < (y367.length : Int)
              · rw [if_pos c17] at H
                have c17b0 : decide (x50_2 < (y367.length : Int)) = true := decide_eq_true c17
                clear c17
                by_cases c18 : 0 ≤ x50_2
                · rw [if_pos c18] at H
                  have c18b0 : decide (0 ≤ x50_2) = true := decide_eq_true c18
                  clear c18
                  by_cases c19 : x50_2 < (y367.length : Int)
                  · rw [if_pos c19] at H
                    have c19b0 : decide (x50_2 < (y367.length : Int)) = true := decide_eq_true c19
                    clear c19
                    obtain ⟨y371, hy371⟩ : ∃ y_ : List Int, y_ = (([((rd y367 x50_2) / 16777216) % 256, ((rd y367 x50_2) / 65536) % 256, ((rd y367 x50_2) / 256) % 256, (rd y367 x50_2) % 256] : List Int)) := ⟨_, rfl⟩
                    replace H : (if x4_2.length + y371.length < 140737488355328 then (tcp_Bytes.l0 k2 (x4_2 ++ y371) y367 (y367.length : Int) (wrap64 (x50_2 + 1)) a0_0 a0_1 a0_2 a0_3 a0_4 a0_5 a0_6 a0_7 l0_8 l0_9) else (none)) = some (r1, r2) := by first | (rw [hy371]; with_reducible exact H) | (have H2_ := (Option.bind_some _ _).symm.trans H; rw [hy371]; with_reducible exact H2_) | (have H2_ := (Option.bind_some _ _).symm.trans H; with_reducible exact H2_) | with_reducible exact H | (rw [hy371]; exact H) | exact H
                    have Ny371 := Aside0.mk hy371
                    clear hy371
                    by_cases c20 : x4_2.length + y371.length < 140737488355328
                    · rw [if_pos c20] at H
                      have LMc20 := Aside0.mk c20
                      clear c20
                      obtain ⟨y374, hy374⟩ : ∃ y_ : List Int, y_ = (x4_2 ++ y371) := ⟨_, rfl⟩
                      replace H : (tcp_Bytes.l0 k2 y374 y367 (y367.length : Int) (wrap64 (x50_2 + 1)) a0_0 a0_1 a0_2 a0_3 a0_4 a0_5 a0_6 a0_7 l0_8 l0_9) = some (r1, r2) := by first | (rw [hy374]; with_reducible exact H) | (have H2_ := (Option.bind_some _ _).symm.trans H; rw [hy374]; with_reducible exact H2_) | (have H2_ := (Option.bind_some _ _).symm.trans H; with_reducible exact H2_) | with_reducible exact H | (rw [hy374]; exact H) | exact H
                      have Ny374 := Aside0.mk hy374
                      clear hy374
                      have H' := Aside0.mk H
                      clear H
                      have p370 : 0 ≤ (x50_2 : Int) := of_decide_eq_true (by first | (with_reducible assumption) | assumption)
                      have q370 : x50_2 < (y367.length : Int) := of_decide_eq_true (by first | (with_reducible assumption) | assumption)
                      obtain ⟨ad370, e370, hx370_0⟩ := Kd.at_int (Kd.R_reads' HO_48.out).2.2 x50_2 p370 q370
                      cases e370
                      replace p370 := eq_true p370
                      replace q370 := eq_true q370
                      go_wp2_with (first | ((with_reducible refine gate_dst (N := 66) rfl ?_); (try (refine gate_guard (by rfl) ?_; dsimp only)); refine Kd.R_lit (Kd.int .u8) _ 5 ?hg (N := 66) ?hd (xs := ([((rd y367 x50_2) / 16777216) % 256, ((rd y367 x50_2) / 65536) % 256, ((rd y367 x50_2) / 256) % 256, (rd y367 x50_2) % 256] : List Int)) (inner := [.int .u8 (((rd y367 x50_2) / 16777216) % 256), .int .u8 (((rd y367 x50_2) / 65536) % 256), .int .u8 (((rd y367 x50_2) / 256) % 256), .int .u8 ((rd y367 x50_2) % 256)]) (ok := fun _ => True) (okp := fun _ => True) ?hr ?hp (fun _ hk => hk) trivial (Below.refl _ _) (Nat.le_refl _) (by simp) ?_; (case hd => rfl); (case hg => rfl); (case hr => first | (go_simp; done) | (go_simp; simp only [IntKind.wrap_u8, IntKind.wrap_u16, IntKind.wrap_u32]; done) | (go_simp; rfl)); (case hp => exact (Reps.one (show Kd.M (Kd.int .u8) _ _ _ (((rd y367 x50_2) / 16777216) % 256) [.int .u8 (((rd y367 x50_2) / 16777216) % 256)] from rfl) (Reps.one (show Kd.M (Kd.int .u8) _ _ _ (((rd y367 x50_2) / 65536) % 256) [.int .u8 (((rd y367 x50_2) / 65536) % 256)] from rfl) (Reps.one (show Kd.M (Kd.int .u8) _ _ _ (((rd y367 x50_2) / 256) % 256) [.int .u8 (((rd y367 x50_2) / 256) % 256)] from rfl) (Reps.one (show Kd.M (Kd.int .u8) _ _ _ ((rd y367 x50_2) % 256) [.int .u8 ((rd y367 x50_2) % 256)] from rfl) (Reps.none _ _)))))); intro v372 w21 ho22 hb hg_ hnew_; clear hg_ hnew_; (first | rw [← Ny371.out] at ho22 | (simp only [Int.reduceToNat] at ho22; rw [← Ny371.out] at ho22)); have n0_ := Aside0.mk (Kd.R_elder' (by (with_reducible repeat (first | apply Kd.R_alloc | apply Kd.R_drewN | apply Kd.R_drew)); exact HO_4.out) (Kd.R_base ho22) hb); have n1_ := Aside0.mk (Kd.R_below (by (with_reducible repeat (first | apply Kd.R_alloc | apply Kd.R_drewN | apply Kd.R_drew)); exact HO_48.out) hb); have n2_ := Aside0.mk (Kd.V_elder' (by (with_reducible repeat (first | apply Kd.V_alloc | apply Kd.V_drewN | apply Kd.V_drew)); exact HO_364008.out) (Kd.R_base ho22) hb); have n3_ := Aside0.mk (Kd.V_elder' (by (with_reducible repeat (first | apply Kd.V_alloc | apply Kd.V_drewN | apply Kd.V_drew)); exact HO_364009.out) (Kd.R_base ho22) hb); have n4_ := Aside0.mk (Kd.R_lower (Kd.R_new' (Kd.R_newM (M := fun k_ => (w.heap.size ≤ k_)) ho22 (below_size (by repeat (first | (with_reducible first | exact HB.out | apply below_alloc | apply pw_below_drewN | apply below_drew1 | refine below_set ?_ GE363.out) | exact HB.out))) (fun k_ h_ => h_)) (Kd.R_lt (by (with_reducible repeat (first | apply Kd.R_alloc | apply Kd.R_drewN | apply Kd.R_drew)); exact HO_4.out))) (below_size (by repeat (first | (with_reducible first | exact HB.out | apply below_alloc | apply pw_below_drewN | apply below_drew1 | refine below_set ?_ GE363.out) | exact HB.out)))); have n5_ := Aside0.mk (blk_below (g := gb363) (o := .cells #[.int .u16 a0_0, .int .u16 a0_1, .int .u32 a0_2, .int .u32 a0_3, .int .u8 a0_4, .int .u16 a0_5, .int .u16 a0_6, .int .u16 a0_7, .slice A0_8 l0_8.length c0_8, .slice A0_9 l0_9.length c0_9] 49 (0, 0)) (by (with_reducible repeat (first | refine blk_drewN ?_ _ | refine blk_drew ?_ | refine blk_alloc ?_ _)); exact BK363.out) hb); have n6_ := Aside0.mk (below_step (by repeat (first | (with_reducible first | exact HB.out | apply below_alloc | apply pw_below_drewN | apply below_drew1 | refine below_set ?_ GE363.out) | exact HB.out)) hb); clear HO_4; clear HO_48; clear HO_364008; clear HO_364009; clear BK363; clear HB; have HO_4 := n0_; have HO_48 := n1_; have HO_364008 := n2_; have HO_364009 := n3_; have HO373 := n4_; have BK363 := n5_; have HB := n6_; clear n0_ n1_ n2_ n3_ n4_ n5_ n6_; clear hb ho22; obtain ⟨Ao24, co24, eo24⟩ := Kd.R_slice HO373.out; subst eo24) | ((with_reducible refine gate_builtin (b := .append) (xs := #[.tmp 54, .tmp 66]) rfl ?_); (try (refine gate_guard (by rfl) ?_; dsimp only)); at_builtin; refine Kd.R_append_rows (Kd.int .u8) (w0 := w) w.heap.size rfl (.tmp 54) (.tmp 66) 22 5 (.int .u8 0) 1 rfl Try.underlying22 info5 rfl (by decide) (by omega) u4 x4_2 y371 _ _ _ (fun k_ => (w.heap.size ≤ k_) ∧ some k_ ≠ (.slice Ao24 y371.length co24 : Value).ownBlock) (fun _ => False) rfl rfl ?aO ?aR (fun _ _ h => h) (fun _ h => h.elim) ?aF ?aB ?aS ?aL ?_; (case aR => repeat (first | exact (Kd.R_reads' HO373.out).2.2 | (with_reducible refine Kd.C_alloc ?_ _) | (with_reducible refine Kd.C_drewN ?_ _) | (with_reducible refine Kd.C_drew ?_))); (case aB => exact (by repeat (first | (with_reducible first | exact HB.out | apply below_alloc | apply pw_below_drewN | apply below_drew1 | refine below_set ?_ GE363.out) | exact HB.out))); (case aF => exact (fun k_ hk => ⟨(Nat.le_trans (below_size (by repeat (first | (with_reducible first | exact HB.out | apply below_alloc | apply pw_below_drewN | apply below_drew1 | refine below_set ?_ GE363.out) | exact HB.out))) hk), Kd.fresh' (Kd.R_lt (by (with_reducible repeat (first | apply Kd.R_alloc | apply Kd.R_drewN | apply Kd.R_drew)); exact HO373.out)) k_ hk⟩)); (case aO => exact (by (with_reducible repeat (first | apply Kd.R_alloc | apply Kd.R_drewN | apply Kd.R_drew)); exact HO_4.out)); (case aS => exact (below_size (by repeat (first | (with_reducible first | exact HB.out | apply below_alloc | apply pw_below_drewN | apply below_drew1 | refine below_set ?_ GE363.out) | exact HB.out)))); (case aL => have := LMc20.out; omega); intro v375 w23 ho hb hg hat; rw [← Ny374.out] at ho; have n0_ := Aside0.mk (Kd.R_over' (by (with_reducible repeat (first | apply Kd.R_alloc | apply Kd.R_drewN | apply Kd.R_drew)); exact HO_48.out) (Kd.R_typed (by (with_reducible repeat (first | apply Kd.R_alloc | apply Kd.R_drewN | apply Kd.R_drew)); exact HO_4.out)) (by decide) hg); have n1_ := Aside0.mk (Kd.V_afterv (ok := (fun k_ => ((P0_8_ k_ ∨ P0_9_ k_) ∨ w.heap.size ≤ k_) ∧ some k_ ≠ (.slice (some ad370) y367.length co16 : Value).ownBlock ∧ some k_ ≠ (.slice Ao24 y371.length co24 : Value).ownBlock ∧ k_ ≠ gb363)) (by (with_reducible repeat (first | apply Kd.V_alloc | apply Kd.V_drewN | apply Kd.V_drew)); exact Kd.V_mono HO_364008.out (fun _ hk => ⟨⟨hk.1.1, ⟨hk.1.2.2.1, ⟨hk.2, hk.1.2.2.2⟩⟩⟩, hk.1.2.1⟩)) hg hat); have n2_ := Aside0.mk (Kd.V_afterv (ok := (fun k_ => ((P0_8_ k_ ∨ P0_9_ k_) ∨ w.heap.size ≤ k_) ∧ some k_ ≠ (.slice (some ad370) y367.length co16 : Value).ownBlock ∧ some k_ ≠ (.slice Ao24 y371.length co24 : Value).ownBlock ∧ k_ ≠ gb363)) (by (with_reducible repeat (first | apply Kd.V_alloc | apply Kd.V_drewN | apply Kd.V_drew)); exact Kd.V_mono HO_364009.out (fun _ hk => ⟨⟨hk.1.1, ⟨hk.1.2.2.1, ⟨hk.2, hk.1.2.2.2⟩⟩⟩, hk.1.2.1⟩)) hg hat); have n3_ := Aside0.mk (blk_grown (g := gb363) (o := .cells #[.int .u16 a0_0, .int .u16 a0_1, .int .u32 a0_2, .int .u32 a0_3, .int .u8 a0_4, .int .u16 a0_5, .int .u16 a0_6, .int .u16 a0_7, .slice A0_8 l0_8.length c0_8, .slice A0_9 l0_9.length c0_9] 49 (0, 0)) (by (with_reducible repeat (first | refine blk_drewN ?_ _ | refine blk_drew ?_ | refine blk_alloc ?_ _)); exact BK363.out) hg (Kd.R_ne HO_4.out BK363.out (by decide))); have n4_ := Aside0.mk (Kd.R_after (ok := (fun k_ => (w.heap.size ≤ k_))) (by (with_reducible repeat (first | apply Kd.R_alloc | apply Kd.R_drewN | apply Kd.R_drew)); exact Kd.R_mono HO373.out (fun _ hk => ⟨hk.1.1, hk.2⟩)) hg hat); have n5_ := Aside0.mk (hb); have n6_ := Aside0.mk (ho); clear HO_48; clear HO_364008; clear HO_364009; clear BK363; clear HO373; clear HB; clear HO_4; have HO_48 := n0_; have HO_364008 := n1_; have HO_364009 := n2_; have BK363 := n3_; have HO373 := n4_; have HB := n5_; have HO376 := n6_; clear n0_ n1_ n2_ n3_ n4_ n5_ n6_; clear ho hb hg hat))
                      go_roundg k2
                      case measure => have := HJ1.out; have := HK2.out; omega
                      case rel => exact ⟨(y374), (wrap64 (x50_2 + 1)), (by first | rfl | (simp; done) | (simp [*]; done)), H', ⟨by have := HJ1.out; have := HK2.out; omega⟩, ⟨by (with_reducible repeat (first | apply Kd.R_alloc | apply Kd.R_drewN | apply Kd.R_drew)); exact Kd.R_mono HO376.out (fun _ hk => hk.1)⟩, ⟨by (with_reducible repeat (first | apply Kd.R_alloc | apply Kd.R_drewN | apply Kd.R_drew)); exact HO_48.out⟩, ⟨by (with_reducible repeat (first | apply Kd.V_alloc | apply Kd.V_drewN | apply Kd.V_drew)); exact Kd.V_mono HO_364008.out (fun _ hk => ⟨hk.1.1, ⟨hk.2, ⟨hk.1.2.1, hk.1.2.2.2⟩⟩⟩)⟩, ⟨by (with_reducible repeat (first | apply Kd.V_alloc | apply Kd.V_drewN | apply Kd.V_drew)); exact Kd.V_mono HO_364009.out (fun _ hk => ⟨hk.1.1, ⟨hk.2, ⟨hk.1.2.1, hk.1.2.2.2⟩⟩⟩)⟩, ⟨by (with_reducible repeat (first | refine blk_drewN ?_ _ | refine blk_drew ?_ | refine blk_alloc ?_ _)); exact BK363.out⟩, ⟨by repeat (first | (with_reducible first | exact HB.out | apply below_alloc | apply pw_below_drewN | apply below_drew1 | refine below_set ?_ GE363.out) | exact HB.out)⟩⟩
                    · rw [if_neg c20] at H
                      exact absurd H (by simp)
                  · rw [if_neg c19] at H
                    exact absurd H (by simp)
                · rw [if_neg c18] at H
                  exact absurd H (by simp)
              · rw [if_neg c17] at H
                have c17b0 : decide (x50_2 < (y367.length : Int)) = false := decide_eq_false c17
                clear c17
                obtain ⟨y377, hy377⟩ : ∃ y_ : List Int, y_ = (([((((wrap64 (20 + (l0_8.length : Int))) % 256) / 4) * 16) % 256, a0_4, (a0_5 / 256) % 256, (a0_5) % 256, (a0_6 / 256) % 256, (a0_6) % 256, (a0_7 / 256) % 256, (a0_7) % 256] : List Int)) := ⟨_, rfl⟩
                replace H : (if x4_2.length + y377.length < 140737488355328 then ((slices_Concat_byte_byte.f k2 (([(x4_2 ++ y377), l0_8, l0_9] : List (List Int)))).bind fun t386 => (some (t386, 0))) else (none)) = some (r1, r2) := by first | (rw [hy377]; with_reducible exact H) | (have H2_ := (Option.bind_some _ _).symm.trans H; rw [hy377]; with_reducible exact H2_) | (have H2_ := (Option.bind_some _ _).symm.trans H; with_reducible exact H2_) | with_reducible exact H | (rw [hy377]; exact H) | exact H
                have Ny377 := Aside0.mk hy377
                clear hy377
                by_cases c25 : x4_2.length + y377.length < 140737488355328
                · rw [if_pos c25] at H
                  have LMc25 := Aside0.mk c25
                  clear c25
                  obtain ⟨y380, hy380⟩ : ∃ y_ : List Int, y_ = (x4_2 ++ y377) := ⟨_, rfl⟩
                  replace H : ((slices_Concat_byte_byte.f k2 (([y380, l0_8, l0_9] : List (List Int)))).bind fun t386 => (some (t386, 0))) = some (r1, r2) := by first | (rw [hy380]; with_reducible exact H) | (have H2_ := (Option.bind_some _ _).symm.trans H; rw [hy380]; with_reducible exact H2_) | (have H2_ := (Option.bind_some _ _).symm.trans H; with_reducible exact H2_) | with_reducible exact H | (rw [hy380]; exact H) | exact H
                  have Ny380 := Aside0.mk hy380
                  clear hy380
                  obtain ⟨y383, hy383⟩ : ∃ y_ : List (List Int), y_ = (([y380, l0_8, l0_9] : List (List Int))) := ⟨_, rfl⟩
                  replace H : ((slices_Concat_byte_byte.f k2 y383).bind fun t386 => (some (t386, 0))) = some (r1, r2) := by first | (rw [hy383]; with_reducible exact H) | (have H2_ := (Option.bind_some _ _).symm.trans H; rw [hy383]; with_reducible exact H2_) | (have H2_ := (Option.bind_some _ _).symm.trans H; with_reducible exact H2_) | with_reducible exact H | (rw [hy383]; exact H) | exact H
                  have Ny383 := Aside0.mk hy383
                  clear hy383
                  replace H := Option.bind_eq_some_iff.mp H
                  obtain ⟨t386, A260, H⟩ := H
                  replace H : (some (t386, 0)) = some (r1, r2) := H
                  have A26 := Aside0.mk A260
                  clear A260
                  simp only [Option.some.injEq, Prod.mk.injEq] at H
                  obtain ⟨rfl, rfl⟩ := H
                  have hcz27_0 : wr.cell? ⟨gb363, 0, none⟩ = some (.int .u16 a0_0) := (blk_cell BK363.out 0).trans rfl
                  have hcz27_1 : wr.cell? ⟨gb363, 1, none⟩ = some (.int .u16 a0_1) := (blk_cell BK363.out 1).trans rfl
                  have hcz27_2 : wr.cell? ⟨gb363, 2, none⟩ = some (.int .u32 a0_2) := (blk_cell BK363.out 2).trans rfl
                  have hcz27_3 : wr.cell? ⟨gb363, 3, none⟩ = some (.int .u32 a0_3) := (blk_cell BK363.out 3).trans rfl
                  have hcz27_4 : wr.cell? ⟨gb363, 4, none⟩ = some (.int .u8 a0_4) := (blk_cell BK363.out 4).trans rfl
                  have hcz27_5 : wr.cell? ⟨gb363, 5, none⟩ = some (.int .u16 a0_5) := (blk_cell BK363.out 5).trans rfl
                  have hcz27_6 : wr.cell? ⟨gb363, 6, none⟩ = some (.int .u16 a0_6) := (blk_cell BK363.out 6).trans rfl
                  have hcz27_7 : wr.cell? ⟨gb363, 7, none⟩ = some (.int .u16 a0_7) := (blk_cell BK363.out 7).trans rfl
                  have hcz27_8 : wr.cell? ⟨gb363, 8, none⟩ = some (.slice A0_8 l0_8.length c0_8) := (blk_cell BK363.out 8).trans rfl
                  have hcz27_9 : wr.cell? ⟨gb363, 9, none⟩ = some (.slice A0_9 l0_9.length c0_9) := (blk_cell BK363.out 9).trans rfl
                  have hfz27_0 := blk_frozen BK363.out 0
                  have hfz27_1 := blk_frozen BK363.out 1
                  have hfz27_2 := blk_frozen BK363.out 2
                  have hfz27_3 := blk_frozen BK363.out 3
                  have hfz27_4 := blk_frozen BK363.out 4
                  have hfz27_5 := blk_frozen BK363.out 5
                  have hfz27_6 := blk_frozen BK363.out 6
                  have hfz27_7 := blk_frozen BK363.out 7
                  have hfz27_8 := blk_frozen BK363.out 8
                  have hfz27_9 := blk_frozen BK363.out 9
                  go_wp2_with (first | ((with_reducible refine gate_dst (N := 100) rfl ?_); (try (refine gate_guard (by rfl) ?_; dsimp only)); refine Kd.R_lit (Kd.int .u8) _ 5 ?hg (N := 100) ?hd (xs := ([((((wrap64 (20 + (l0_8.length : Int))) % 256) / 4) * 16) % 256, a0_4, (a0_5 / 256) % 256, (a0_5) % 256, (a0_6 / 256) % 256, (a0_6) % 256, (a0_7 / 256) % 256, (a0_7) % 256] : List Int)) (inner := [.int .u8 (((((wrap64 (20 + (l0_8.length : Int))) % 256) / 4) * 16) % 256), .int .u8 a0_4, .int .u8 ((a0_5 / 256) % 256), .int .u8 ((a0_5) % 256), .int .u8 ((a0_6 / 256) % 256), .int .u8 ((a0_6) % 256), .int .u8 ((a0_7 / 256) % 256), .int .u8 ((a0_7) % 256)]) (ok := fun _ => True) (okp := fun _ => True) ?hr ?hp (fun _ hk => hk) trivial (Below.refl _ _) (Nat.le_refl _) (by simp) ?_; (case hd => rfl); (case hg => rfl); (case hr => first | (go_simp; done) | (go_simp; simp only [IntKind.wrap_u8, IntKind.wrap_u16, IntKind.wrap_u32]; done) | (go_simp; rfl)); (case hp => exact (Reps.one (show Kd.M (Kd.int .u8) _ _ _ (((((wrap64 (20 + (l0_8.length : Int))) % 256) / 4) * 16) % 256) [.int .u8 (((((wrap64 (20 + (l0_8.length : Int))) % 256) / 4) * 16) % 256)] from rfl) (Reps.one (show Kd.M (Kd.int .u8) _ _ _ a0_4 [.int .u8 a0_4] from rfl) (Reps.one (show Kd.M (Kd.int .u8) _ _ _ ((a0_5 / 256) % 256) [.int .u8 ((a0_5 / 256) % 256)] from rfl) (Reps.one (show Kd.M (Kd.int .u8) _ _ _ ((a0_5) % 256) [.int .u8 ((a0_5) % 256)] from rfl) (Reps.one (show Kd.M (Kd.int .u8) _ _ _ ((a0_6 / 256) % 256) [.int .u8 ((a0_6 / 256) % 256)] from rfl) (Reps.one (show Kd.M (Kd.int .u8) _ _ _ ((a0_6) % 256) [.int .u8 ((a0_6) % 256)] from rfl) (Reps.one (show Kd.M (Kd.int .u8) _ _ _ ((a0_7 / 256) % 256) [.int .u8 ((a0_7 / 256) % 256)] from rfl) (Reps.one (show Kd.M (Kd.int .u8) _ _ _ ((a0_7) % 256) [.int .u8 ((a0_7) % 256)] from rfl) (Reps.none _ _)))))))))); intro v378 w28 ho29 hb hg_ hnew_; clear hg_ hnew_; (first | rw [← Ny377.out] at ho29 | (simp only [Int.reduceToNat] at ho29; rw [← Ny377.out] at ho29)); have n0_ := Aside0.mk (Kd.R_elder' (by (with_reducible repeat (first | apply Kd.R_alloc | apply Kd.R_drewN | apply Kd.R_drew)); exact HO_4.out) (Kd.R_base ho29) hb); have n1_ := Aside0.mk (Kd.R_below (by (with_reducible repeat (first | apply Kd.R_alloc | apply Kd.R_drewN | apply Kd.R_drew)); exact HO_48.out) hb); have n2_ := Aside0.mk (Kd.V_elder' (by (with_reducible repeat (first | apply Kd.V_alloc | apply Kd.V_drewN | apply Kd.V_drew)); exact HO_364008.out) (Kd.R_base ho29) hb); have n3_ := Aside0.mk (Kd.V_elder' (by (with_reducible repeat (first | apply Kd.V_alloc | apply Kd.V_drewN | apply Kd.V_drew)); exact HO_364009.out) (Kd.R_base ho29) hb); have n4_ := Aside0.mk (Kd.R_lower (Kd.R_new' (Kd.R_newM (M := fun k_ => (w.heap.size ≤ k_)) ho29 (below_size (by repeat (first | (with_reducible first | exact HB.out | apply below_alloc | apply pw_below_drewN | apply below_drew1 | refine below_set ?_ GE363.out) | exact HB.out))) (fun k_ h_ => h_)) (Kd.R_lt (by (with_reducible repeat (first | apply Kd.R_alloc | apply Kd.R_drewN | apply Kd.R_drew)); exact HO_4.out))) (below_size (by repeat (first | (with_reducible first | exact HB.out | apply below_alloc | apply pw_below_drewN | apply below_drew1 | refine below_set ?_ GE363.out) | exact HB.out)))); have n5_ := Aside0.mk (blk_below (g := gb363) (o := .cells #[.int .u16 a0_0, .int .u16 a0_1, .int .u32 a0_2, .int .u32 a0_3, .int .u8 a0_4, .int .u16 a0_5, .int .u16 a0_6, .int .u16 a0_7, .slice A0_8 l0_8.length c0_8, .slice A0_9 l0_9.length c0_9] 49 (0, 0)) (by (with_reducible repeat (first | refine blk_drewN ?_ _ | refine blk_drew ?_ | refine blk_alloc ?_ _)); exact BK363.out) hb); have n6_ := Aside0.mk (below_step (by repeat (first | (with_reducible first | exact HB.out | apply below_alloc | apply pw_below_drewN | apply below_drew1 | refine below_set ?_ GE363.out) | exact HB.out)) hb); clear HO_4; clear HO_48; clear HO_364008; clear HO_364009; clear BK363; clear HB; have HO_4 := n0_; have HO_48 := n1_; have HO_364008 := n2_; have HO_364009 := n3_; have HO379 := n4_; have BK363 := n5_; have HB := n6_; clear n0_ n1_ n2_ n3_ n4_ n5_ n6_; clear hb ho29; obtain ⟨Ao31, co31, eo31⟩ := Kd.R_slice HO379.out; subst eo31) | ((with_reducible refine gate_builtin (b := .append) (xs := #[.tmp 69, .tmp 100]) rfl ?_); (try (refine gate_guard (by rfl) ?_; dsimp only)); at_builtin; refine Kd.R_append_rows (Kd.int .u8) (w0 := w) w.heap.size rfl (.tmp 69) (.tmp 100) 22 5 (.int .u8 0) 1 rfl Try.underlying22 info5 rfl (by decide) (by omega) u4 x4_2 y377 _ _ _ (fun k_ => (w.heap.size ≤ k_) ∧ some k_ ≠ (.slice Ao31 y377.length co31 : Value).ownBlock) (fun _ => False) rfl rfl ?aO ?aR (fun _ _ h => h) (fun _ h => h.elim) ?aF ?aB ?aS ?aL ?_; (case aR => repeat (first | exact (Kd.R_reads' HO379.out).2.2 | (with_reducible refine Kd.C_alloc ?_ _) | (with_reducible refine Kd.C_drewN ?_ _) | (with_reducible refine Kd.C_drew ?_))); (case aB => exact (by repeat (first | (with_reducible first | exact HB.out | apply below_alloc | apply pw_below_drewN | apply below_drew1 | refine below_set ?_ GE363.out) | exact HB.out))); (case aF => exact (fun k_ hk => ⟨(Nat.le_trans (below_size (by repeat (first | (with_reducible first | exact HB.out | apply below_alloc | apply pw_below_drewN | apply below_drew1 | refine below_set ?_ GE363.out) | exact HB.out))) hk), Kd.fresh' (Kd.R_lt (by (with_reducible repeat (first | apply Kd.R_alloc | apply Kd.R_drewN | apply Kd.R_drew)); exact HO379.out)) k_ hk⟩)); (case aO => exact (by (with_reducible repeat (first | apply Kd.R_alloc | apply Kd.R_drewN | apply Kd.R_drew)); exact HO_4.out)); (case aS => exact (below_size (by repeat (first | (with_reducible first | exact HB.out | apply below_alloc | apply pw_below_drewN | apply below_drew1 | refine below_set ?_ GE363.out) | exact HB.out)))); (case aL => have := LMc25.out; omega); intro v381 w30 ho hb hg hat; rw [← Ny380.out] at ho; have n0_ := Aside0.mk (Kd.R_over' (by (with_reducible repeat (first | apply Kd.R_alloc | apply Kd.R_drewN | apply Kd.R_drew)); exact HO_48.out) (Kd.R_typed (by (with_reducible repeat (first | apply Kd.R_alloc | apply Kd.R_drewN | apply Kd.R_drew)); exact HO_4.out)) (by decide) hg); have n1_ := Aside0.mk (Kd.V_afterv (ok := (fun k_ => ((P0_8_ k_ ∨ P0_9_ k_) ∨ w.heap.size ≤ k_) ∧ some k_ ≠ (.slice Ao16 y367.length co16 : Value).ownBlock ∧ some k_ ≠ (.slice Ao31 y377.length co31 : Value).ownBlock ∧ k_ ≠ gb363)) (by (with_reducible repeat (first | apply Kd.V_alloc | apply Kd.V_drewN | apply Kd.V_drew)); exact Kd.V_mono HO_364008.out (fun _ hk => ⟨⟨hk.1.1, ⟨hk.1.2.2.1, ⟨hk.2, hk.1.2.2.2⟩⟩⟩, hk.1.2.1⟩)) hg hat); have n2_ := Aside0.mk (Kd.V_afterv (ok := (fun k_ => ((P0_8_ k_ ∨ P0_9_ k_) ∨ w.heap.size ≤ k_) ∧ some k_ ≠ (.slice Ao16 y367.length co16 : Value).ownBlock ∧ some k_ ≠ (.slice Ao31 y377.length co31 : Value).ownBlock ∧ k_ ≠ gb363)) (by (with_reducible repeat (first | apply Kd.V_alloc | apply Kd.V_drewN | apply Kd.V_drew)); exact Kd.V_mono HO_364009.out (fun _ hk => ⟨⟨hk.1.1, ⟨hk.1.2.2.1, ⟨hk.2, hk.1.2.2.2⟩⟩⟩, hk.1.2.1⟩)) hg hat); have n3_ := Aside0.mk (blk_grown (g := gb363) (o := .cells #[.int .u16 a0_0, .int .u16 a0_1, .int .u32 a0_2, .int .u32 a0_3, .int .u8 a0_4, .int .u16 a0_5, .int .u16 a0_6, .int .u16 a0_7, .slice A0_8 l0_8.length c0_8, .slice A0_9 l0_9.length c0_9] 49 (0, 0)) (by (with_reducible repeat (first | refine blk_drewN ?_ _ | refine blk_drew ?_ | refine blk_alloc ?_ _)); exact BK363.out) hg (Kd.R_ne HO_4.out BK363.out (by decide))); have n4_ := Aside0.mk (Kd.R_after (ok := (fun k_ => (w.heap.size ≤ k_))) (by (with_reducible repeat (first | apply Kd.R_alloc | apply Kd.R_drewN | apply Kd.R_drew)); exact Kd.R_mono HO379.out (fun _ hk => ⟨hk.1.1, hk.2⟩)) hg hat); have n5_ := Aside0.mk (hb); have n6_ := Aside0.mk (ho); clear HO_48; clear HO_364008; clear HO_364009; clear BK363; clear HO379; clear HB; clear HO_4; have HO_48 := n0_; have HO_364008 := n1_; have HO_364009 := n2_; have BK363 := n3_; have HO379 := n4_; have HB := n5_; have HO382 := n6_; clear n0_ n1_ n2_ n3_ n4_ n5_ n6_; clear ho hb hg hat; have hcz32_0 : w30.cell? ⟨gb363, 0, none⟩ = some (.int .u16 a0_0) := (blk_cell BK363.out 0).trans rfl; have hcz32_1 : w30.cell? ⟨gb363, 1, none⟩ = some (.int .u16 a0_1) := (blk_cell BK363.out 1).trans rfl; have hcz32_2 : w30.cell? ⟨gb363, 2, none⟩ = some (.int .u32 a0_2) := (blk_cell BK363.out 2).trans rfl; have hcz32_3 : w30.cell? ⟨gb363, 3, none⟩ = some (.int .u32 a0_3) := (blk_cell BK363.out 3).trans rfl; have hcz32_4 : w30.cell? ⟨gb363, 4, none⟩ = some (.int .u8 a0_4) := (blk_cell BK363.out 4).trans rfl; have hcz32_5 : w30.cell? ⟨gb363, 5, none⟩ = some (.int .u16 a0_5) := (blk_cell BK363.out 5).trans rfl; have hcz32_6 : w30.cell? ⟨gb363, 6, none⟩ = some (.int .u16 a0_6) := (blk_cell BK363.out 6).trans rfl; have hcz32_7 : w30.cell? ⟨gb363, 7, none⟩ = some (.int .u16 a0_7) := (blk_cell BK363.out 7).trans rfl; have hcz32_8 : w30.cell? ⟨gb363, 8, none⟩ = some (.slice A0_8 l0_8.length c0_8) := (blk_cell BK363.out 8).trans rfl; have hcz32_9 : w30.cell? ⟨gb363, 9, none⟩ = some (.slice A0_9 l0_9.length c0_9) := (blk_cell BK363.out 9).trans rfl; have hfz32_0 := blk_frozen BK363.out 0; have hfz32_1 := blk_frozen BK363.out 1; have hfz32_2 := blk_frozen BK363.out 2; have hfz32_3 := blk_frozen BK363.out 3; have hfz32_4 := blk_frozen BK363.out 4; have hfz32_5 := blk_frozen BK363.out 5; have hfz32_6 := blk_frozen BK363.out 6; have hfz32_7 := blk_frozen BK363.out 7; have hfz32_8 := blk_frozen BK363.out 8; have hfz32_9 := blk_frozen BK363.out 9; obtain ⟨Ao33, co33, eo33⟩ := Kd.R_slice HO382.out; subst eo33) | ((with_reducible refine gate_dst (N := 107) rfl ?_); (try (refine gate_guard (by rfl) ?_; dsimp only)); refine Kd.N_lit (Kd.slice 5 (Kd.int .u8)) _ 22 ?hg (N' := 107) ?hd (xs := ([y380, l0_8, l0_9] : List (List Int))) (inner := [.slice Ao33 y380.length co33, .slice A0_8 l0_8.length c0_8, .slice A0_9 l0_9.length c0_9]) (ok := (fun k_ => ((P0_8_ k_ ∨ P0_9_ k_) ∨ w.heap.size ≤ k_) ∧ some k_ ≠ (.slice Ao16 y367.length co16 : Value).ownBlock ∧ some k_ ≠ (.slice Ao31 y377.length co31 : Value).ownBlock ∧ k_ ≠ gb363)) (okp := (fun k_ => ((P0_8_ k_ ∨ P0_9_ k_) ∨ w.heap.size ≤ k_) ∧ some k_ ≠ (.slice Ao16 y367.length co16 : Value).ownBlock ∧ some k_ ≠ (.slice Ao31 y377.length co31 : Value).ownBlock ∧ k_ ≠ gb363)) ?hr ?hp (fun _ hk => hk) ((show ∀ k_, w30.heap.size ≤ k_ → (fun k_ => ((P0_8_ k_ ∨ P0_9_ k_) ∨ w.heap.size ≤ k_) ∧ some k_ ≠ (.slice Ao16 y367.length co16 : Value).ownBlock ∧ some k_ ≠ (.slice Ao31 y377.length co31 : Value).ownBlock ∧ k_ ≠ gb363) k_ from fun k_ hk => ⟨(.inr (Nat.le_trans (below_size (by repeat (first | (with_reducible first | exact HB.out | apply below_alloc | apply pw_below_drewN | apply below_drew1 | refine below_set ?_ GE363.out) | exact HB.out))) hk)), Kd.fresh' (Kd.R_lt (by (with_reducible repeat (first | apply Kd.R_alloc | apply Kd.R_drewN | apply Kd.R_drew)); exact HO_48.out)) k_ hk, Kd.fresh' (Kd.R_lt (by (with_reducible repeat (first | apply Kd.R_alloc | apply Kd.R_drewN | apply Kd.R_drew)); exact HO379.out)) k_ hk, Kd.freshB (g := gb363) (o := .cells #[.int .u16 a0_0, .int .u16 a0_1, .int .u32 a0_2, .int .u32 a0_3, .int .u8 a0_4, .int .u16 a0_5, .int .u16 a0_6, .int .u16 a0_7, .slice A0_8 l0_8.length c0_8, .slice A0_9 l0_9.length c0_9] 49 (0, 0)) (by (with_reducible repeat (first | refine blk_drewN ?_ _ | refine blk_drew ?_ | refine blk_alloc ?_ _)); exact BK363.out) k_ hk⟩) _ (Nat.le_refl _)) (Below.refl _ _) (Nat.le_refl _) (by simp) ?_; (case hd => rfl); (case hg => rfl); (case hr => first | (go_simp; done) | (go_simp; rfl)); (case hp => exact (Reps.one (show Kd.FK (Kd.slice 5 (Kd.int .u8)) _ _ y380 [.slice Ao33 y380.length co33] from (Kd.FK_slice_mk (Kd.R_reads' (Kd.R_mono (ok' := (fun k_ => ((P0_8_ k_ ∨ P0_9_ k_) ∨ w.heap.size ≤ k_) ∧ some k_ ≠ (.slice Ao16 y367.length co16 : Value).ownBlock ∧ some k_ ≠ (.slice Ao31 y377.length co31 : Value).ownBlock ∧ k_ ≠ gb363)) (Kd.R_types (Kd.R_apart' (HO382.out) (Kd.R_typed HO_48.out) (by decide)) BK363.out (by decide)) (fun k_ hk => ⟨(.inr (hk.1.1.1)), ⟨hk.1.2, ⟨hk.1.1.2, hk.2⟩⟩⟩))).2.1 (Kd.R_F (Kd.R_mono (ok' := (fun k_ => ((P0_8_ k_ ∨ P0_9_ k_) ∨ w.heap.size ≤ k_) ∧ some k_ ≠ (.slice Ao16 y367.length co16 : Value).ownBlock ∧ some k_ ≠ (.slice Ao31 y377.length co31 : Value).ownBlock ∧ k_ ≠ gb363)) (Kd.R_types (Kd.R_apart' (HO382.out) (Kd.R_typed HO_48.out) (by decide)) BK363.out (by decide)) (fun k_ hk => ⟨(.inr (hk.1.1.1)), ⟨hk.1.2, ⟨hk.1.1.2, hk.2⟩⟩⟩))))) (Reps.one (show Kd.FK (Kd.slice 5 (Kd.int .u8)) _ _ l0_8 [.slice A0_8 l0_8.length c0_8] from (Kd.FK_slice_mk (Kd.V_reads' (Kd.V_mono (ok' := (fun k_ => ((P0_8_ k_ ∨ P0_9_ k_) ∨ w.heap.size ≤ k_) ∧ some k_ ≠ (.slice Ao16 y367.length co16 : Value).ownBlock ∧ some k_ ≠ (.slice Ao31 y377.length co31 : Value).ownBlock ∧ k_ ≠ gb363)) (HO_364008.out) (fun k_ hk => ⟨hk.1.1, ⟨hk.1.2.1, ⟨hk.1.2.2.1, hk.1.2.2.2⟩⟩⟩))).2.1 (Kd.V_F (Kd.V_mono (ok' := (fun k_ => ((P0_8_ k_ ∨ P0_9_ k_) ∨ w.heap.size ≤ k_) ∧ some k_ ≠ (.slice Ao16 y367.length co16 : Value).ownBlock ∧ some k_ ≠ (.slice Ao31 y377.length co31 : Value).ownBlock ∧ k_ ≠ gb363)) (HO_364008.out) (fun k_ hk => ⟨hk.1.1, ⟨hk.1.2.1, ⟨hk.1.2.2.1, hk.1.2.2.2⟩⟩⟩))))) (Reps.one (show Kd.FK (Kd.slice 5 (Kd.int .u8)) _ _ l0_9 [.slice A0_9 l0_9.length c0_9] from (Kd.FK_slice_mk (Kd.V_reads' (Kd.V_mono (ok' := (fun k_ => ((P0_8_ k_ ∨ P0_9_ k_) ∨ w.heap.size ≤ k_) ∧ some k_ ≠ (.slice Ao16 y367.length co16 : Value).ownBlock ∧ some k_ ≠ (.slice Ao31 y377.length co31 : Value).ownBlock ∧ k_ ≠ gb363)) (HO_364009.out) (fun k_ hk => ⟨hk.1.1, ⟨hk.1.2.1, ⟨hk.1.2.2.1, hk.1.2.2.2⟩⟩⟩))).2.1 (Kd.V_F (Kd.V_mono (ok' := (fun k_ => ((P0_8_ k_ ∨ P0_9_ k_) ∨ w.heap.size ≤ k_) ∧ some k_ ≠ (.slice Ao16 y367.length co16 : Value).ownBlock ∧ some k_ ≠ (.slice Ao31 y377.length co31 : Value).ownBlock ∧ k_ ≠ gb363)) (HO_364009.out) (fun k_ hk => ⟨hk.1.1, ⟨hk.1.2.1, ⟨hk.1.2.2.1, hk.1.2.2.2⟩⟩⟩))))) (Reps.none _ _))))); intro v384 w34 ho35 hb hg_ hnew_; clear hg_ hnew_; (first | rw [← Ny383.out] at ho35 | (simp only [Int.reduceToNat] at ho35; rw [← Ny383.out] at ho35)); have n0_ := Aside0.mk (Kd.R_below (by (with_reducible repeat (first | apply Kd.R_alloc | apply Kd.R_drewN | apply Kd.R_drew)); exact HO_48.out) hb); have n1_ := Aside0.mk (Kd.V_elder' (by (with_reducible repeat (first | apply Kd.V_alloc | apply Kd.V_drewN | apply Kd.V_drew)); exact HO_364008.out) (Kd.N_base ho35) hb); have n2_ := Aside0.mk (Kd.V_elder' (by (with_reducible repeat (first | apply Kd.V_alloc | apply Kd.V_drewN | apply Kd.V_drew)); exact HO_364009.out) (Kd.N_base ho35) hb); have n3_ := Aside0.mk (Kd.R_below (by (with_reducible repeat (first | apply Kd.R_alloc | apply Kd.R_drewN | apply Kd.R_drew)); exact HO379.out) hb); have n4_ := Aside0.mk (Kd.N_lower ho35 (below_size (by repeat (first | (with_reducible first | exact HB.out | apply below_alloc | apply pw_below_drewN | apply below_drew1 | refine below_set ?_ GE363.out) | exact HB.out)))); have n5_ := Aside0.mk (blk_below (g := gb363) (o := .cells #[.int .u16 a0_0, .int .u16 a0_1, .int .u32 a0_2, .int .u32 a0_3, .int .u8 a0_4, .int .u16 a0_5, .int .u16 a0_6, .int .u16 a0_7, .slice A0_8 l0_8.length c0_8, .slice A0_9 l0_9.length c0_9] 49 (0, 0)) (by (with_reducible repeat (first | refine blk_drewN ?_ _ | refine blk_drew ?_ | refine blk_alloc ?_ _)); exact BK363.out) hb); have n6_ := Aside0.mk (below_step (by repeat (first | (with_reducible first | exact HB.out | apply below_alloc | apply pw_below_drewN | apply below_drew1 | refine below_set ?_ GE363.out) | exact HB.out)) hb); clear HO_48; clear HO_364008; clear HO_364009; clear HO379; clear BK363; clear HB; clear HO382; have HO_48 := n0_; have HO_364008 := n1_; have HO_364009 := n2_; have HO379 := n3_; have HO385 := n4_; have BK363 := n5_; have HB := n6_; clear n0_ n1_ n2_ n3_ n4_ n5_ n6_; clear hb ho35; obtain ⟨Ao36, co36, eo36⟩ := Kd.N_slice HO385.out; subst eo36) | ((with_reducible refine gate_callee (f := 45) rfl ?_); refine goesL_ (some 108) rfl rfl Try.func45 (by kernel_rfl) rfl #[.slice Ao36 y383.length co36] rfl (by (try simp only [List.map_toArray, List.map_cons, List.map_nil]); first | done | rfl | (simp only [List.length_drop, List.length_take]; rfl) | (go_simp; done) | (simp [Act.eval, IntKind.signed]; done) | (simp [Act.eval, IntKind.signed]; rfl)) ?_; (with_reducible refine (slices_Concat_byte_byte.calls k2 _ _ y383 t386 _ ?side1 ?side2 A26.out).mono ?_); (case side1 => repeat (first | exact (Kd.N_reads' HO385.out).2.2 | (with_reducible refine Kd.C_alloc ?_ _) | (with_reducible refine Kd.C_drewN ?_ _) | (with_reducible refine Kd.C_drew ?_))); (case side2 => exact (Kd.N_reads' HO385.out).2.1); rintro e w37 ⟨v387, rfl, ho0, hb⟩; refine ⟨_, rfl, ?_⟩; have n0_ := Aside0.mk (Kd.R_below (by (with_reducible repeat (first | apply Kd.R_alloc | apply Kd.R_drewN | apply Kd.R_drew)); exact HO_48.out) hb); have n1_ := Aside0.mk (Kd.V_elder' (by (with_reducible repeat (first | apply Kd.V_alloc | apply Kd.V_drewN | apply Kd.V_drew)); exact HO_364008.out) (Kd.R_base ho0) hb); have n2_ := Aside0.mk (Kd.V_elder' (by (with_reducible repeat (first | apply Kd.V_alloc | apply Kd.V_drewN | apply Kd.V_drew)); exact HO_364009.out) (Kd.R_base ho0) hb); have n3_ := Aside0.mk (Kd.R_elder' (by (with_reducible repeat (first | apply Kd.R_alloc | apply Kd.R_drewN | apply Kd.R_drew)); exact HO379.out) (Kd.R_base ho0) hb); have n4_ := Aside0.mk (Kd.N_elder' (by (with_reducible repeat (first | apply Kd.N_alloc | apply Kd.N_drewN | apply Kd.N_drew)); exact HO385.out) (Kd.R_base ho0) hb); have n5_ := Aside0.mk (Kd.R_lower (Kd.R_new' (Kd.R_newM (M := fun k_ => (w.heap.size ≤ k_)) ho0 (below_size (by repeat (first | (with_reducible first | exact HB.out | apply below_alloc | apply pw_below_drewN | apply below_drew1 | refine below_set ?_ GE363.out) | exact HB.out))) (fun k_ h_ => h_)) (Kd.R_lt (by (with_reducible repeat (first | apply Kd.R_alloc | apply Kd.R_drewN | apply Kd.R_drew)); exact HO379.out))) (below_size (by repeat (first | (with_reducible first | exact HB.out | apply below_alloc | apply pw_below_drewN | apply below_drew1 | refine below_set ?_ GE363.out) | exact HB.out)))); have n6_ := Aside0.mk (blk_below (g := gb363) (o := .cells #[.int .u16 a0_0, .int .u16 a0_1, .int .u32 a0_2, .int .u32 a0_3, .int .u8 a0_4, .int .u16 a0_5, .int .u16 a0_6, .int .u16 a0_7, .slice A0_8 l0_8.length c0_8, .slice A0_9 l0_9.length c0_9] 49 (0, 0)) (by (with_reducible repeat (first | refine blk_drewN ?_ _ | refine blk_drew ?_ | refine blk_alloc ?_ _)); exact BK363.out) hb); have n7_ := Aside0.mk (below_step (by repeat (first | (with_reducible first | exact HB.out | apply below_alloc | apply pw_below_drewN | apply below_drew1 | refine below_set ?_ GE363.out) | exact HB.out)) hb); clear HO_48; clear HO_364008; clear HO_364009; clear HO379; clear HO385; clear BK363; clear HB; have HO_48 := n0_; have HO_364008 := n1_; have HO_364009 := n2_; have HO379 := n3_; have HO385 := n4_; have HO388 := n5_; have BK363 := n6_; have HB := n7_; clear n0_ n1_ n2_ n3_ n4_ n5_ n6_ n7_; (try clear hb); (try clear hb2); (try clear hk); (try clear hi); (try clear ho0)))
                  go_ret2
                  exact ⟨_, by first | rfl | (simp [errW_none, errW_some] <;> rfl) | (simp [*, errW_none, errW_some] <;> rfl), by (with_reducible repeat (first | apply Kd.R_alloc | apply Kd.R_drewN | apply Kd.R_drew)); exact Kd.R_mono HO388.out (fun _ hk => hk.1.1), by repeat (first | (with_reducible first | exact HB.out | apply below_alloc | apply pw_below_drewN | apply below_drew1 | refine below_set ?_ GE363.out) | exact HB.out)⟩
                · rw [if_neg c25] at H
                  exact absurd H (by simp)

end Go.Proofs.Ytnodigdpodiphaa.PA
