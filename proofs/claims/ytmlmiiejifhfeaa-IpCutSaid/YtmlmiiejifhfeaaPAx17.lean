-- written by a patched print
import Derived.Test.YtmlmiiejifhfeaaPAx0
import Derived.Test.YtmlmiiejifhfeaaPAx11
import Derived.Test.YtmlmiiejifhfeaaPAx16
namespace Go.Proofs.Ytmlmiiejifhfeaa.PA
open Go.RowKit Go.Proofs.YtmlmiiejifhfeaaW.PrintWords Go.Proofs.YtmlmiiejifhfeaaW.PrintLast Go.Proofs.YtmlmiiejifhfeaaW.PrintMore
attribute [local go_sem] max2_int min2_int max_two min_two max_three min_three max_four min_four   -- for this text's walks alone
set_option linter.unusedVariables false
set_option linter.unusedSimpArgs false

/-! ### lychref1_IpBytes: function 16 -/
def lychref1_IpBytes.j0 : Nat → Bool → Int → Int → Int → Int → Int → Int → Int → Int → List Int → List Int → Option (List Int × Int)
 | 0, _, _, _, _, _, _, _, _, _, _, _ => none
 | k + 1, x27, x363000, x363001, x363002, x363003, x363004, x363005, x363006, x363007, x363008, x363009 => if x27 = true then (some (([] : List Int), 21)) else (if (x363009.length : Int) > (wrap64 (65535 - (wrap64 (20 + (x363008.length : Int))))) then (some (([] : List Int), 23)) else ((lychref1_Put16.f (([Go.bits .or .u8 64 ((wrap64 (Int.tdiv (wrap64 (20 + (x363008.length : Int))) 4)) % 256), x363000] : List Int)) (IntKind.u16.wrap (wrap64 ((wrap64 (20 + (x363008.length : Int))) + (x363009.length : Int))))).bind fun t366 => ((lychref1_Put16.f t366 x363003).bind fun t369 => ((lychref1_Put16.f t369 (Go.bits .or .u16 (IntKind.u16.wrap ((IntKind.u16.wrap (x363004)) * 8192)) x363005)).bind fun t372 => ((some (([x363001, x363002, 0, 0] : List Int) : List Int)).bind fun y375 => (if t372.length + y375.length < 140737488355328 then ((lychref1_Put32.f (t372 ++ y375) x363006).bind fun t381 => ((lychref1_Put32.f t381 x363007).bind fun t384 => (if t384.length + x363008.length < 140737488355328 then ((some (t384 ++ x363008 : List Int)).bind fun y387 => ((lychref1_Of.f k y387).bind fun t390 => (if 10 < (y387.length : Int) then (if 11 < (y387.length : Int) then ((some ((y387.set (10 : Int).toNat ((t390 / 256) % 256)).set (11 : Int).toNat ((t390) % 256) : List Int)).bind fun y392 => (if y392.length + x363009.length < 140737488355328 then (some ((y392 ++ x363009), 0)) else (none))) else (none)) else (none)))) else (none)))) else (none)))))))
def lychref1_IpBytes.f (k : Nat) (a0_0 : Int) (a0_1 : Int) (a0_2 : Int) (a0_3 : Int) (a0_4 : Int) (a0_5 : Int) (a0_6 : Int) (a0_7 : Int) (l0_8 : List Int) (l0_9 : List Int) : Option (List Int × Int) := if ((l0_8.length : Int) % 4) = 0 then (if (l0_8.length : Int) > 40 then (lychref1_IpBytes.j0 k true a0_0 a0_1 a0_2 a0_3 a0_4 a0_5 a0_6 a0_7 l0_8 l0_9) else (if a0_4 > 7 then (lychref1_IpBytes.j0 k true a0_0 a0_1 a0_2 a0_3 a0_4 a0_5 a0_6 a0_7 l0_8 l0_9) else (lychref1_IpBytes.j0 k (decide (a0_5 > 8191)) a0_0 a0_1 a0_2 a0_3 a0_4 a0_5 a0_6 a0_7 l0_8 l0_9))) else (lychref1_IpBytes.j0 k true a0_0 a0_1 a0_2 a0_3 a0_4 a0_5 a0_6 a0_7 l0_8 l0_9)
theorem lychref1_IpBytes.mono_l : ∀ k, (∀ y0 y1 y2 y3 y4 y5 y6 y7 y8 y9 y10, LeO (lychref1_IpBytes.j0 k y0 y1 y2 y3 y4 y5 y6 y7 y8 y9 y10) (lychref1_IpBytes.j0 (k + 1) y0 y1 y2 y3 y4 y5 y6 y7 y8 y9 y10))
 | 0 => fun _ _ _ _ _ _ _ _ _ _ _ r h => by simp [lychref1_IpBytes.j0] at h
 | k + 1 => by
  have ih0 := lychref1_IpBytes.mono_l k
  ·intro y0 y1 y2 y3 y4 y5 y6 y7 y8 y9 y10
   unfold lychref1_IpBytes.j0
   repeat' first
   | (with_reducible exact ih0 _ _ _ _ _ _ _ _ _ _ _)
   | (with_reducible exact lychref1_Of.mono _ _)
   | (with_reducible exact LeO.refl _)
   | (with_reducible exact LeO.none _)
   | (with_reducible refine LeO.ite ?_ ?_)
   | (with_reducible refine LeO.bind ?_ (fun _ => ?_))
   | exact ih0 _ _ _ _ _ _ _ _ _ _ _
   | exact lychref1_Of.mono _ _
   | exact LeO.none _
   | refine LeO.ite ?_ ?_
   | refine LeO.bind ?_ (fun _ => ?_)
theorem lychref1_IpBytes.mono : ∀ a0 a1 a2 a3 a4 a5 a6 a7 a8 a9 k, LeO (lychref1_IpBytes.f k a0 a1 a2 a3 a4 a5 a6 a7 a8 a9) (lychref1_IpBytes.f (k + 1) a0 a1 a2 a3 a4 a5 a6 a7 a8 a9) := by
 intro a0 a1 a2 a3 a4 a5 a6 a7 a8 a9 k
 have ih0 := lychref1_IpBytes.mono_l k
 unfold lychref1_IpBytes.f
 repeat' first
   | (with_reducible exact ih0 _ _ _ _ _ _ _ _ _ _ _)
   | (with_reducible exact lychref1_Of.mono _ _)
   | (with_reducible exact LeO.refl _)
   | (with_reducible exact LeO.none _)
   | (with_reducible refine LeO.ite ?_ ?_)
   | (with_reducible refine LeO.bind ?_ (fun _ => ?_))
   | exact ih0 _ _ _ _ _ _ _ _ _ _ _
   | exact lychref1_Of.mono _ _
   | exact LeO.none _
   | refine LeO.ite ?_ ?_
   | refine LeO.bind ?_ (fun _ => ?_)
def lychref1_IpBytes.T7 : Bool × List (List Nat × List Nat) := (true, [([], []), ([], []), ([], []), ([2], [2]), ([3], [3]), ([1, 4], [1, 4]), ([5], [5]), ([0, 6], [0, 6]), ([], []), ([8], [8]), ([7, 9, 7], [7, 9]), ([10, 10, 0, 1, 2, 3, 4, 5, 6, 7, 8, 9, 10], [0, 10])])
def lychref1_IpBytes.B7 : List Nat := [0, 0, 0, 4, 12, 30, 62, 127, 0, 256, 1023, 2047]
theorem lychref1_IpBytes.tab7 : rtab .any (opsOf Try.f16 7) = lychref1_IpBytes.T7 := by kernel_rfl
theorem lychref1_IpBytes.bits7 : waitsOk lychref1_IpBytes.T7.2 lychref1_IpBytes.B7 = true := by kernel_rfl
def lychref1_IpBytes.T8 : Bool × List (List Nat × List Nat) := (true, [([], []), ([], []), ([1], [1]), ([2], [2]), ([3], [3]), ([], []), ([5], [5]), ([4, 6], [4, 6]), ([0, 7], [0, 7]), ([], []), ([9], [9]), ([], []), ([11], [11]), ([10, 12], [10, 12]), ([8, 13, 8], [8, 13]), ([14, 14, 0, 1, 2, 3, 4, 5, 6, 7, 8, 9, 10, 11, 12, 13, 14], [0, 14])])
def lychref1_IpBytes.B8 : List Nat := [0, 0, 2, 6, 14, 0, 32, 126, 255, 0, 512, 0, 2048, 7680, 16383, 32767]
theorem lychref1_IpBytes.tab8 : rtab .any (opsOf Try.f16 8) = lychref1_IpBytes.T8 := by kernel_rfl
theorem lychref1_IpBytes.bits8 : waitsOk lychref1_IpBytes.T8.2 lychref1_IpBytes.B8 = true := by kernel_rfl
def lychref1_IpBytes.T9 : Bool × List (List Nat × List Nat) := (true, [([], []), ([], []), ([1], [1]), ([0, 2], [0, 2]), ([], []), ([4], [4]), ([3, 5, 3], [3, 5]), ([], []), ([7], [7]), ([6, 8, 6], [6, 8]), ([9, 9, 0, 1, 2, 3, 4, 5, 6, 7, 8, 9], [0, 9])])
def lychref1_IpBytes.B9 : List Nat := [0, 0, 2, 7, 0, 16, 63, 0, 128, 511, 1023]
theorem lychref1_IpBytes.tab9 : rtab .any (opsOf Try.f16 9) = lychref1_IpBytes.T9 := by kernel_rfl
theorem lychref1_IpBytes.bits9 : waitsOk lychref1_IpBytes.T9.2 lychref1_IpBytes.B9 = true := by kernel_rfl
set_option maxHeartbeats 8000000 in
set_option maxRecDepth 100000 in
theorem lychref1_IpBytes.calls (k : Nat) (a0_0 : Int) (a0_1 : Int) (a0_2 : Int) (a0_3 : Int) (a0_4 : Int) (a0_5 : Int) (a0_6 : Int) (a0_7 : Int) (A0_8 : Option Addr) (c0_8 : Nat) (l0_8 : List Int) (A0_9 : Option Addr) (c0_9 : Nat) (l0_9 : List Int) (r1 : List Int) (r2 : Int) (w : World) (hr0_8 : Kd.C (Kd.int .u8) w A0_8 l0_8.length l0_8) (hc0_8 : l0_8.length ≤ c0_8) (hr0_9 : Kd.C (Kd.int .u8) w A0_9 l0_9.length l0_9) (hc0_9 : l0_9.length ≤ c0_9) (h : lychref1_IpBytes.f k a0_0 a0_1 a0_2 a0_3 a0_4 a0_5 a0_6 a0_7 l0_8 l0_9 = some (r1, r2)) :
  Calls Try.prog 16 #[.agg #[.int .u8 a0_0, .int .u8 a0_1, .int .u8 a0_2, .int .u16 a0_3, .int .u8 a0_4, .int .u16 a0_5, .int .u32 a0_6, .int .u32 a0_7, .slice A0_8 l0_8.length c0_8, .slice A0_9 l0_9.length c0_9]] w fun e w' => ∃ v0_ : Value, e = .returned (.tuple #[v0_, .int .i64 r2]) ∧ Kd.R (Kd.int .u8) 5 w' w.heap.size (fun _ => True) v0_ r1 ∧ Below w.heap.size w w' := by
 have hu30 := Try.underlying30
 have HR0_8 := Aside0.mk hr0_8
 have HC0_8 := Aside0.mk hc0_8
 clear hr0_8 hc0_8
 have HR0_9 := Aside0.mk hr0_9
 have HC0_9 := Aside0.mk hc0_9
 clear hr0_9 hc0_9
 have HB := Aside0.mk (Below.refl w.heap.size w)
 have H : (if ((l0_8.length : Int) % 4) = 0 then (if (l0_8.length : Int) > 40 then (lychref1_IpBytes.j0 k true a0_0 a0_1 a0_2 a0_3 a0_4 a0_5 a0_6 a0_7 l0_8 l0_9) else (if a0_4 > 7 then (lychref1_IpBytes.j0 k true a0_0 a0_1 a0_2 a0_3 a0_4 a0_5 a0_6 a0_7 l0_8 l0_9) else (lychref1_IpBytes.j0 k (decide (a0_5 > 8191)) a0_0 a0_1 a0_2 a0_3 a0_4 a0_5 a0_6 a0_7 l0_8 l0_9))) else (lychref1_IpBytes.j0 k true a0_0 a0_1 a0_2 a0_3 a0_4 a0_5 a0_6 a0_7 l0_8 l0_9)) = some (r1, r2) := h
 clear h
 have HC2 := Aside0.mk H
 clear H
 go_enter Try.func16, Try.ntmps16
 go_upto_region 1 with (first | ((with_reducible refine gate_dst (N := 1) rfl ?_); (try (refine gate_guard (by rfl) ?_; dsimp only)); refine box_event ?hg (N := 1) ?hd (cs := #[.int .u8 a0_0, .int .u8 a0_1, .int .u8 a0_2, .int .u16 a0_3, .int .u8 a0_4, .int .u16 a0_5, .int .u32 a0_6, .int .u32 a0_7, .slice A0_8 l0_8.length c0_8, .slice A0_9 l0_9.length c0_9]) (t := 30) ?hr ?_; (case hd => rfl); (case hg => rfl); (case hr => first | (go_simp; done) | (go_simp; rfl)); intro gb362 hg w3 hbox hb; have n0_ := Aside0.mk (below_step (by repeat (first | (with_reducible first | exact HB.out | apply below_alloc | apply pw_below_drewN | apply below_drew1) | exact HB.out)) hb); have n1_ := Aside0.mk (hbox); have n2_ := Aside0.mk ((by rw [hg]; exact (below_size (by repeat (first | (with_reducible first | exact HB.out | apply below_alloc | apply pw_below_drewN | apply below_drew1) | exact HB.out))) : w.heap.size ≤ gb362)); have n3_ := Aside0.mk ((by rw [hg]; exact (below_size (by repeat (first | (with_reducible first | exact HB.out | apply below_alloc | apply pw_below_drewN | apply below_drew1) | exact HB.out))) : w.heap.size ≤ gb362)); clear HB; have HB := n0_; have BK362 := n1_; have GW362 := n2_; have GE362 := n3_; clear n0_ n1_ n2_ n3_; clear hb hbox hg))
 (try simp only [Act.put, List.setIfInBounds_toArray, List.set_cons_zero, List.set_cons_succ])
 go_cut [27] (fun v27 wc => ∃ (kq : Nat) (x27_1 : Bool), v27 = .bool x27_1 ∧ Aside0 (lychref1_IpBytes.j0 kq x27_1 a0_0 a0_1 a0_2 a0_3 a0_4 a0_5 a0_6 a0_7 l0_8 l0_9 = some (r1, r2)) ∧ Aside0 (kq ≤ k) ∧ Aside0 (wc.heap[gb362]? = some (.cells #[.int .u8 a0_0, .int .u8 a0_1, .int .u8 a0_2, .int .u16 a0_3, .int .u8 a0_4, .int .u16 a0_5, .int .u32 a0_6, .int .u32 a0_7, (.slice A0_8 l0_8.length c0_8), (.slice A0_9 l0_9.length c0_9)] 30 (0, 0))) ∧ Aside0 (Below w.heap.size w wc))
 case first =>
  have H := HC2.out
  clear HC2
  by_cases c4 : ((l0_8.length : Int) % 4) = 0
  ·rw [if_pos c4] at H
   have c4b0 : (((l0_8.length : Int) % 4) == 0) = true := beq_iff_eq.mpr c4
   have c4b1 : (((l0_8.length : Int) % 4) != 0) = false := bne_eq_false_iff_eq.mpr c4
   clear c4
   (first | rw [c4b0] | (simp only [i64_w, i32_w]; rw [c4b0]) | skip)
   by_cases c5 : (l0_8.length : Int) > 40
   ·rw [if_pos c5] at H
    have c5b0 : decide (40 < (l0_8.length : Int)) = true := decide_eq_true c5
    have c5b1 : decide (40 < l0_8.length) = true := decide_eq_true (by omega)
    clear c5
    have H' := Aside0.mk H
    clear H
    have hcz6_0 : w3.cell? ⟨gb362, 0, none⟩ = some (.int .u8 a0_0) := (blk_cell BK362.out 0).trans rfl
    have hcz6_1 : w3.cell? ⟨gb362, 1, none⟩ = some (.int .u8 a0_1) := (blk_cell BK362.out 1).trans rfl
    have hcz6_2 : w3.cell? ⟨gb362, 2, none⟩ = some (.int .u8 a0_2) := (blk_cell BK362.out 2).trans rfl
    have hcz6_3 : w3.cell? ⟨gb362, 3, none⟩ = some (.int .u16 a0_3) := (blk_cell BK362.out 3).trans rfl
    have hcz6_4 : w3.cell? ⟨gb362, 4, none⟩ = some (.int .u8 a0_4) := (blk_cell BK362.out 4).trans rfl
    have hcz6_5 : w3.cell? ⟨gb362, 5, none⟩ = some (.int .u16 a0_5) := (blk_cell BK362.out 5).trans rfl
    have hcz6_6 : w3.cell? ⟨gb362, 6, none⟩ = some (.int .u32 a0_6) := (blk_cell BK362.out 6).trans rfl
    have hcz6_7 : w3.cell? ⟨gb362, 7, none⟩ = some (.int .u32 a0_7) := (blk_cell BK362.out 7).trans rfl
    have hcz6_8 : w3.cell? ⟨gb362, 8, none⟩ = some (.slice A0_8 l0_8.length c0_8) := (blk_cell BK362.out 8).trans rfl
    have hcz6_9 : w3.cell? ⟨gb362, 9, none⟩ = some (.slice A0_9 l0_9.length c0_9) := (blk_cell BK362.out 9).trans rfl
    have hfz6_0 := blk_frozen BK362.out 0
    have hfz6_1 := blk_frozen BK362.out 1
    have hfz6_2 := blk_frozen BK362.out 2
    have hfz6_3 := blk_frozen BK362.out 3
    have hfz6_4 := blk_frozen BK362.out 4
    have hfz6_5 := blk_frozen BK362.out 5
    have hfz6_6 := blk_frozen BK362.out 6
    have hfz6_7 := blk_frozen BK362.out 7
    have hfz6_8 := blk_frozen BK362.out 8
    have hfz6_9 := blk_frozen BK362.out 9
    go_wp2
    go_meet
    case rel => exact ⟨_, (true), (by first | rfl | (simp; done) | (simp [*]; done)), H', ⟨by first | omega | exact Nat.le_refl _⟩, ⟨by (with_reducible repeat (first | refine blk_drewN ?_ _ | refine blk_drew ?_ | refine blk_alloc ?_ _)); exact BK362.out⟩, ⟨by repeat (first | (with_reducible first | exact HB.out | apply below_alloc | apply pw_below_drewN | apply below_drew1 | refine below_set ?_ GE362.out) | exact HB.out)⟩⟩
   ·rw [if_neg c5] at H
    have c5b0 : decide (40 < (l0_8.length : Int)) = false := decide_eq_false c5
    have c5b1 : decide (40 < l0_8.length) = false := decide_eq_false (by omega)
    clear c5
    by_cases c7 : a0_4 > 7
    ·rw [if_pos c7] at H
     have c7b0 : decide (7 < a0_4) = true := decide_eq_true c7
     clear c7
     have H' := Aside0.mk H
     clear H
     have hcz8_0 : w3.cell? ⟨gb362, 0, none⟩ = some (.int .u8 a0_0) := (blk_cell BK362.out 0).trans rfl
     have hcz8_1 : w3.cell? ⟨gb362, 1, none⟩ = some (.int .u8 a0_1) := (blk_cell BK362.out 1).trans rfl
     have hcz8_2 : w3.cell? ⟨gb362, 2, none⟩ = some (.int .u8 a0_2) := (blk_cell BK362.out 2).trans rfl
     have hcz8_3 : w3.cell? ⟨gb362, 3, none⟩ = some (.int .u16 a0_3) := (blk_cell BK362.out 3).trans rfl
     have hcz8_4 : w3.cell? ⟨gb362, 4, none⟩ = some (.int .u8 a0_4) := (blk_cell BK362.out 4).trans rfl
     have hcz8_5 : w3.cell? ⟨gb362, 5, none⟩ = some (.int .u16 a0_5) := (blk_cell BK362.out 5).trans rfl
     have hcz8_6 : w3.cell? ⟨gb362, 6, none⟩ = some (.int .u32 a0_6) := (blk_cell BK362.out 6).trans rfl
     have hcz8_7 : w3.cell? ⟨gb362, 7, none⟩ = some (.int .u32 a0_7) := (blk_cell BK362.out 7).trans rfl
     have hcz8_8 : w3.cell? ⟨gb362, 8, none⟩ = some (.slice A0_8 l0_8.length c0_8) := (blk_cell BK362.out 8).trans rfl
     have hcz8_9 : w3.cell? ⟨gb362, 9, none⟩ = some (.slice A0_9 l0_9.length c0_9) := (blk_cell BK362.out 9).trans rfl
     have hfz8_0 := blk_frozen BK362.out 0
     have hfz8_1 := blk_frozen BK362.out 1
     have hfz8_2 := blk_frozen BK362.out 2
     have hfz8_3 := blk_frozen BK362.out 3
     have hfz8_4 := blk_frozen BK362.out 4
     have hfz8_5 := blk_frozen BK362.out 5
     have hfz8_6 := blk_frozen BK362.out 6
     have hfz8_7 := blk_frozen BK362.out 7
     have hfz8_8 := blk_frozen BK362.out 8
     have hfz8_9 := blk_frozen BK362.out 9
     go_wp2
     go_meet
     case rel => exact ⟨_, (true), (by first | rfl | (simp; done) | (simp [*]; done)), H', ⟨by first | omega | exact Nat.le_refl _⟩, ⟨by (with_reducible repeat (first | refine blk_drewN ?_ _ | refine blk_drew ?_ | refine blk_alloc ?_ _)); exact BK362.out⟩, ⟨by repeat (first | (with_reducible first | exact HB.out | apply below_alloc | apply pw_below_drewN | apply below_drew1 | refine below_set ?_ GE362.out) | exact HB.out)⟩⟩
    ·rw [if_neg c7] at H
     have c7b0 : decide (7 < a0_4) = false := decide_eq_false c7
     clear c7
     have H' := Aside0.mk H
     clear H
     have hcz9_0 : w3.cell? ⟨gb362, 0, none⟩ = some (.int .u8 a0_0) := (blk_cell BK362.out 0).trans rfl
     have hcz9_1 : w3.cell? ⟨gb362, 1, none⟩ = some (.int .u8 a0_1) := (blk_cell BK362.out 1).trans rfl
     have hcz9_2 : w3.cell? ⟨gb362, 2, none⟩ = some (.int .u8 a0_2) := (blk_cell BK362.out 2).trans rfl
     have hcz9_3 : w3.cell? ⟨gb362, 3, none⟩ = some (.int .u16 a0_3) := (blk_cell BK362.out 3).trans rfl
     have hcz9_4 : w3.cell? ⟨gb362, 4, none⟩ = some (.int .u8 a0_4) := (blk_cell BK362.out 4).trans rfl
     have hcz9_5 : w3.cell? ⟨gb362, 5, none⟩ = some (.int .u16 a0_5) := (blk_cell BK362.out 5).trans rfl
     have hcz9_6 : w3.cell? ⟨gb362, 6, none⟩ = some (.int .u32 a0_6) := (blk_cell BK362.out 6).trans rfl
     have hcz9_7 : w3.cell? ⟨gb362, 7, none⟩ = some (.int .u32 a0_7) := (blk_cell BK362.out 7).trans rfl
     have hcz9_8 : w3.cell? ⟨gb362, 8, none⟩ = some (.slice A0_8 l0_8.length c0_8) := (blk_cell BK362.out 8).trans rfl
     have hcz9_9 : w3.cell? ⟨gb362, 9, none⟩ = some (.slice A0_9 l0_9.length c0_9) := (blk_cell BK362.out 9).trans rfl
     have hfz9_0 := blk_frozen BK362.out 0
     have hfz9_1 := blk_frozen BK362.out 1
     have hfz9_2 := blk_frozen BK362.out 2
     have hfz9_3 := blk_frozen BK362.out 3
     have hfz9_4 := blk_frozen BK362.out 4
     have hfz9_5 := blk_frozen BK362.out 5
     have hfz9_6 := blk_frozen BK362.out 6
     have hfz9_7 := blk_frozen BK362.out 7
     have hfz9_8 := blk_frozen BK362.out 8
     have hfz9_9 := blk_frozen BK362.out 9
     go_wp2
     go_meet
     case rel => exact ⟨_, (decide (a0_5 > 8191)), (by first | rfl | (simp; done) | (simp [*]; done)), H', ⟨by first | omega | exact Nat.le_refl _⟩, ⟨by (with_reducible repeat (first | refine blk_drewN ?_ _ | refine blk_drew ?_ | refine blk_alloc ?_ _)); exact BK362.out⟩, ⟨by repeat (first | (with_reducible first | exact HB.out | apply below_alloc | apply pw_below_drewN | apply below_drew1 | refine below_set ?_ GE362.out) | exact HB.out)⟩⟩
  ·rw [if_neg c4] at H
   have c4b0 : (((l0_8.length : Int) % 4) == 0) = false := beq_eq_false_iff_ne.mpr c4
   have c4b1 : (((l0_8.length : Int) % 4) != 0) = true := bne_iff_ne.mpr c4
   (first | rw [c4b0] | (simp only [i64_w, i32_w]; rw [c4b0]) | skip)
   have H' := Aside0.mk H
   clear H
   have hcz10_0 : w3.cell? ⟨gb362, 0, none⟩ = some (.int .u8 a0_0) := (blk_cell BK362.out 0).trans rfl
   have hcz10_1 : w3.cell? ⟨gb362, 1, none⟩ = some (.int .u8 a0_1) := (blk_cell BK362.out 1).trans rfl
   have hcz10_2 : w3.cell? ⟨gb362, 2, none⟩ = some (.int .u8 a0_2) := (blk_cell BK362.out 2).trans rfl
   have hcz10_3 : w3.cell? ⟨gb362, 3, none⟩ = some (.int .u16 a0_3) := (blk_cell BK362.out 3).trans rfl
   have hcz10_4 : w3.cell? ⟨gb362, 4, none⟩ = some (.int .u8 a0_4) := (blk_cell BK362.out 4).trans rfl
   have hcz10_5 : w3.cell? ⟨gb362, 5, none⟩ = some (.int .u16 a0_5) := (blk_cell BK362.out 5).trans rfl
   have hcz10_6 : w3.cell? ⟨gb362, 6, none⟩ = some (.int .u32 a0_6) := (blk_cell BK362.out 6).trans rfl
   have hcz10_7 : w3.cell? ⟨gb362, 7, none⟩ = some (.int .u32 a0_7) := (blk_cell BK362.out 7).trans rfl
   have hcz10_8 : w3.cell? ⟨gb362, 8, none⟩ = some (.slice A0_8 l0_8.length c0_8) := (blk_cell BK362.out 8).trans rfl
   have hcz10_9 : w3.cell? ⟨gb362, 9, none⟩ = some (.slice A0_9 l0_9.length c0_9) := (blk_cell BK362.out 9).trans rfl
   have hfz10_0 := blk_frozen BK362.out 0
   have hfz10_1 := blk_frozen BK362.out 1
   have hfz10_2 := blk_frozen BK362.out 2
   have hfz10_3 := blk_frozen BK362.out 3
   have hfz10_4 := blk_frozen BK362.out 4
   have hfz10_5 := blk_frozen BK362.out 5
   have hfz10_6 := blk_frozen BK362.out 6
   have hfz10_7 := blk_frozen BK362.out 7
   have hfz10_8 := blk_frozen BK362.out 8
   have hfz10_9 := blk_frozen BK362.out 9
   go_wp2
   go_meet
   case rel => exact ⟨_, (true), (by first | rfl | (simp; done) | (simp [*]; done)), H', ⟨by first | omega | exact Nat.le_refl _⟩, ⟨by (with_reducible repeat (first | refine blk_drewN ?_ _ | refine blk_drew ?_ | refine blk_alloc ?_ _)); exact BK362.out⟩, ⟨by repeat (first | (with_reducible first | exact HB.out | apply below_alloc | apply pw_below_drewN | apply below_drew1 | refine below_set ?_ GE362.out) | exact HB.out)⟩⟩
 case rest =>
  clear HC2
  try clear c1
  try clear p2
  try clear c4
  try clear c4b0
  try clear c4b1
  try clear c5
  try clear c5b0
  try clear c5b1
  try clear c7
  try clear c7b0
  try clear hcz10_0
  try clear hcz10_1
  try clear hcz10_2
  try clear hcz10_3
  try clear hcz10_4
  try clear hcz10_5
  try clear hcz10_6
  try clear hcz10_7
  try clear hcz10_8
  try clear hcz10_9
  try clear hcz6_0
  try clear hcz6_1
  try clear hcz6_2
  try clear hcz6_3
  try clear hcz6_4
  try clear hcz6_5
  try clear hcz6_6
  try clear hcz6_7
  try clear hcz6_8
  try clear hcz6_9
  try clear hcz8_0
  try clear hcz8_1
  try clear hcz8_2
  try clear hcz8_3
  try clear hcz8_4
  try clear hcz8_5
  try clear hcz8_6
  try clear hcz8_7
  try clear hcz8_8
  try clear hcz8_9
  try clear hcz9_0
  try clear hcz9_1
  try clear hcz9_2
  try clear hcz9_3
  try clear hcz9_4
  try clear hcz9_5
  try clear hcz9_6
  try clear hcz9_7
  try clear hcz9_8
  try clear hcz9_9
  try clear hfz10_0
  try clear hfz10_1
  try clear hfz10_2
  try clear hfz10_3
  try clear hfz10_4
  try clear hfz10_5
  try clear hfz10_6
  try clear hfz10_7
  try clear hfz10_8
  try clear hfz10_9
  try clear hfz6_0
  try clear hfz6_1
  try clear hfz6_2
  try clear hfz6_3
  try clear hfz6_4
  try clear hfz6_5
  try clear hfz6_6
  try clear hfz6_7
  try clear hfz6_8
  try clear hfz6_9
  try clear hfz8_0
  try clear hfz8_1
  try clear hfz8_2
  try clear hfz8_3
  try clear hfz8_4
  try clear hfz8_5
  try clear hfz8_6
  try clear hfz8_7
  try clear hfz8_8
  try clear hfz8_9
  try clear hfz9_0
  try clear hfz9_1
  try clear hfz9_2
  try clear hfz9_3
  try clear hfz9_4
  try clear hfz9_5
  try clear hfz9_6
  try clear hfz9_7
  try clear hfz9_8
  try clear hfz9_9
  obtain ⟨kq, x27_1, rfl, HA, HJ1, BK362, HB⟩ := hcut
  cases kq with
  | zero => exact absurd HA.out (by simp [lychref1_IpBytes.j0])
  | succ kj1 =>
   have H := HA.out
   clear HA
   simp only [lychref1_IpBytes.j0] at H
   by_cases c11 : x27_1 = true
   ·subst c11
    have H1 : (some (([] : List Int), 21)) = some (r1, r2) := by rw [if_pos rfl] at H; exact H
    clear H
    have H := H1
    clear H1
    simp only [Option.some.injEq, Prod.mk.injEq] at H
    obtain ⟨rfl, rfl⟩ := H
    go_wp2
    go_ret2
    exact ⟨_, by first | rfl | (simp [errW_none, errW_some] <;> rfl) | (simp [*, errW_none, errW_some] <;> rfl), by first | exact Kd.R_nil _ _ _ _ _ | exact Kd.N_nil _ _ _ _ _ | exact Kd.V_nil _ _ _ _ _ | exact Kd.Q_nil _ _ _ _ _ | exact Kd.S_nil _ _ _ _ _, by repeat (first | (with_reducible first | exact HB.out | apply below_alloc | apply pw_below_drewN | apply below_drew1 | refine below_set ?_ GE362.out) | exact HB.out)⟩
   ·replace c11 := Bool.eq_false_iff.mpr c11
    subst c11
    have H1 : (if (l0_9.length : Int) > (wrap64 (65535 - (wrap64 (20 + (l0_8.length : Int))))) then (some (([] : List Int), 23)) else ((lychref1_Put16.f (([Go.bits .or .u8 64 ((wrap64 (Int.tdiv (wrap64 (20 + (l0_8.length : Int))) 4)) % 256), a0_0] : List Int)) (IntKind.u16.wrap (wrap64 ((wrap64 (20 + (l0_8.length : Int))) + (l0_9.length : Int))))).bind fun t366 => ((lychref1_Put16.f t366 a0_3).bind fun t369 => ((lychref1_Put16.f t369 (Go.bits .or .u16 (IntKind.u16.wrap ((IntKind.u16.wrap (a0_4)) * 8192)) a0_5)).bind fun t372 => ((some (([a0_1, a0_2, 0, 0] : List Int) : List Int)).bind fun y375 => (if t372.length + y375.length < 140737488355328 then ((lychref1_Put32.f (t372 ++ y375) a0_6).bind fun t381 => ((lychref1_Put32.f t381 a0_7).bind fun t384 => (if t384.length + l0_8.length < 140737488355328 then ((some (t384 ++ l0_8 : List Int)).bind fun y387 => ((lychref1_Of.f kj1 y387).bind fun t390 => (if 10 < (y387.length : Int) then (if 11 < (y387.length : Int) then ((some ((y387.set (10 : Int).toNat ((t390 / 256) % 256)).set (11 : Int).toNat ((t390) % 256) : List Int)).bind fun y392 => (if y392.length + l0_9.length < 140737488355328 then (some ((y392 ++ l0_9), 0)) else (none))) else (none)) else (none)))) else (none)))) else (none))))))) = some (r1, r2) := by rw [if_neg (show ¬ (false = true) by decide)] at H; exact H
    clear H
    have H := H1
    clear H1
    by_cases c12 : (l0_9.length : Int) > (wrap64 (65535 - (wrap64 (20 + (l0_8.length : Int)))))
    ·rw [if_pos c12] at H
     have c12b0 : decide ((wrap64 (65535 - (wrap64 (20 + (l0_8.length : Int))))) < (l0_9.length : Int)) = true := decide_eq_true c12
     clear c12
     simp only [Option.some.injEq, Prod.mk.injEq] at H
     obtain ⟨rfl, rfl⟩ := H
     have hcz13_0 : wc.cell? ⟨gb362, 0, none⟩ = some (.int .u8 a0_0) := (blk_cell BK362.out 0).trans rfl
     have hcz13_1 : wc.cell? ⟨gb362, 1, none⟩ = some (.int .u8 a0_1) := (blk_cell BK362.out 1).trans rfl
     have hcz13_2 : wc.cell? ⟨gb362, 2, none⟩ = some (.int .u8 a0_2) := (blk_cell BK362.out 2).trans rfl
     have hcz13_3 : wc.cell? ⟨gb362, 3, none⟩ = some (.int .u16 a0_3) := (blk_cell BK362.out 3).trans rfl
     have hcz13_4 : wc.cell? ⟨gb362, 4, none⟩ = some (.int .u8 a0_4) := (blk_cell BK362.out 4).trans rfl
     have hcz13_5 : wc.cell? ⟨gb362, 5, none⟩ = some (.int .u16 a0_5) := (blk_cell BK362.out 5).trans rfl
     have hcz13_6 : wc.cell? ⟨gb362, 6, none⟩ = some (.int .u32 a0_6) := (blk_cell BK362.out 6).trans rfl
     have hcz13_7 : wc.cell? ⟨gb362, 7, none⟩ = some (.int .u32 a0_7) := (blk_cell BK362.out 7).trans rfl
     have hcz13_8 : wc.cell? ⟨gb362, 8, none⟩ = some (.slice A0_8 l0_8.length c0_8) := (blk_cell BK362.out 8).trans rfl
     have hcz13_9 : wc.cell? ⟨gb362, 9, none⟩ = some (.slice A0_9 l0_9.length c0_9) := (blk_cell BK362.out 9).trans rfl
     have hfz13_0 := blk_frozen BK362.out 0
     have hfz13_1 := blk_frozen BK362.out 1
     have hfz13_2 := blk_frozen BK362.out 2
     have hfz13_3 := blk_frozen BK362.out 3
     have hfz13_4 := blk_frozen BK362.out 4
     have hfz13_5 := blk_frozen BK362.out 5
     have hfz13_6 := blk_frozen BK362.out 6
     have hfz13_7 := blk_frozen BK362.out 7
     have hfz13_8 := blk_frozen BK362.out 8
     have hfz13_9 := blk_frozen BK362.out 9
     go_wp2
     go_ret2
     exact ⟨_, by first | rfl | (simp [errW_none, errW_some] <;> rfl) | (simp [*, errW_none, errW_some] <;> rfl), by first | exact Kd.R_nil _ _ _ _ _ | exact Kd.N_nil _ _ _ _ _ | exact Kd.V_nil _ _ _ _ _ | exact Kd.Q_nil _ _ _ _ _ | exact Kd.S_nil _ _ _ _ _, by repeat (first | (with_reducible first | exact HB.out | apply below_alloc | apply pw_below_drewN | apply below_drew1 | refine below_set ?_ GE362.out) | exact HB.out)⟩
    ·rw [if_neg c12] at H
     have c12b0 : decide ((wrap64 (65535 - (wrap64 (20 + (l0_8.length : Int))))) < (l0_9.length : Int)) = false := decide_eq_false c12
     clear c12
     obtain ⟨y363, hy363⟩ : ∃ y_ : List Int, y_ = (([Go.bits .or .u8 64 ((wrap64 (Int.tdiv (wrap64 (20 + (l0_8.length : Int))) 4)) % 256), a0_0] : List Int)) := ⟨_, rfl⟩
     replace H : ((lychref1_Put16.f y363 (IntKind.u16.wrap (wrap64 ((wrap64 (20 + (l0_8.length : Int))) + (l0_9.length : Int))))).bind fun t366 => ((lychref1_Put16.f t366 a0_3).bind fun t369 => ((lychref1_Put16.f t369 (Go.bits .or .u16 (IntKind.u16.wrap ((IntKind.u16.wrap (a0_4)) * 8192)) a0_5)).bind fun t372 => ((some (([a0_1, a0_2, 0, 0] : List Int) : List Int)).bind fun y375 => (if t372.length + y375.length < 140737488355328 then ((lychref1_Put32.f (t372 ++ y375) a0_6).bind fun t381 => ((lychref1_Put32.f t381 a0_7).bind fun t384 => (if t384.length + l0_8.length < 140737488355328 then ((some (t384 ++ l0_8 : List Int)).bind fun y387 => ((lychref1_Of.f kj1 y387).bind fun t390 => (if 10 < (y387.length : Int) then (if 11 < (y387.length : Int) then ((some ((y387.set (10 : Int).toNat ((t390 / 256) % 256)).set (11 : Int).toNat ((t390) % 256) : List Int)).bind fun y392 => (if y392.length + l0_9.length < 140737488355328 then (some ((y392 ++ l0_9), 0)) else (none))) else (none)) else (none)))) else (none)))) else (none)))))) = some (r1, r2) := by first | (rw [hy363]; with_reducible exact H) | (have H2_ := (Option.bind_some _ _).symm.trans H; rw [hy363]; with_reducible exact H2_) | (have H2_ := (Option.bind_some _ _).symm.trans H; with_reducible exact H2_) | with_reducible exact H | (rw [hy363]; exact H) | exact H
     have Ny363 := Aside0.mk hy363
     clear hy363
     replace H := Option.bind_eq_some_iff.mp H
     obtain ⟨t366, A140, H⟩ := H
     replace H : ((lychref1_Put16.f t366 a0_3).bind fun t369 => ((lychref1_Put16.f t369 (Go.bits .or .u16 (IntKind.u16.wrap ((IntKind.u16.wrap (a0_4)) * 8192)) a0_5)).bind fun t372 => ((some (([a0_1, a0_2, 0, 0] : List Int) : List Int)).bind fun y375 => (if t372.length + y375.length < 140737488355328 then ((lychref1_Put32.f (t372 ++ y375) a0_6).bind fun t381 => ((lychref1_Put32.f t381 a0_7).bind fun t384 => (if t384.length + l0_8.length < 140737488355328 then ((some (t384 ++ l0_8 : List Int)).bind fun y387 => ((lychref1_Of.f kj1 y387).bind fun t390 => (if 10 < (y387.length : Int) then (if 11 < (y387.length : Int) then ((some ((y387.set (10 : Int).toNat ((t390 / 256) % 256)).set (11 : Int).toNat ((t390) % 256) : List Int)).bind fun y392 => (if y392.length + l0_9.length < 140737488355328 then (some ((y392 ++ l0_9), 0)) else (none))) else (none)) else (none)))) else (none)))) else (none))))) = some (r1, r2) := H
     have A14 := Aside0.mk A140
     clear A140
     replace H := Option.bind_eq_some_iff.mp H
     obtain ⟨t369, A150, H⟩ := H
     replace H : ((lychref1_Put16.f t369 (Go.bits .or .u16 (IntKind.u16.wrap ((IntKind.u16.wrap (a0_4)) * 8192)) a0_5)).bind fun t372 => ((some (([a0_1, a0_2, 0, 0] : List Int) : List Int)).bind fun y375 => (if t372.length + y375.length < 140737488355328 then ((lychref1_Put32.f (t372 ++ y375) a0_6).bind fun t381 => ((lychref1_Put32.f t381 a0_7).bind fun t384 => (if t384.length + l0_8.length < 140737488355328 then ((some (t384 ++ l0_8 : List Int)).bind fun y387 => ((lychref1_Of.f kj1 y387).bind fun t390 => (if 10 < (y387.length : Int) then (if 11 < (y387.length : Int) then ((some ((y387.set (10 : Int).toNat ((t390 / 256) % 256)).set (11 : Int).toNat ((t390) % 256) : List Int)).bind fun y392 => (if y392.length + l0_9.length < 140737488355328 then (some ((y392 ++ l0_9), 0)) else (none))) else (none)) else (none)))) else (none)))) else (none)))) = some (r1, r2) := H
     have A15 := Aside0.mk A150
     clear A150
     replace H := Option.bind_eq_some_iff.mp H
     obtain ⟨t372, A160, H⟩ := H
     replace H : ((some (([a0_1, a0_2, 0, 0] : List Int) : List Int)).bind fun y375 => (if t372.length + y375.length < 140737488355328 then ((lychref1_Put32.f (t372 ++ y375) a0_6).bind fun t381 => ((lychref1_Put32.f t381 a0_7).bind fun t384 => (if t384.length + l0_8.length < 140737488355328 then ((some (t384 ++ l0_8 : List Int)).bind fun y387 => ((lychref1_Of.f kj1 y387).bind fun t390 => (if 10 < (y387.length : Int) then (if 11 < (y387.length : Int) then ((some ((y387.set (10 : Int).toNat ((t390 / 256) % 256)).set (11 : Int).toNat ((t390) % 256) : List Int)).bind fun y392 => (if y392.length + l0_9.length < 140737488355328 then (some ((y392 ++ l0_9), 0)) else (none))) else (none)) else (none)))) else (none)))) else (none))) = some (r1, r2) := H
     have A16 := Aside0.mk A160
     clear A160
     obtain ⟨y375, hy375⟩ : ∃ y_ : List Int, y_ = (([a0_1, a0_2, 0, 0] : List Int)) := ⟨_, rfl⟩
     replace H : (if t372.length + y375.length < 140737488355328 then ((lychref1_Put32.f (t372 ++ y375) a0_6).bind fun t381 => ((lychref1_Put32.f t381 a0_7).bind fun t384 => (if t384.length + l0_8.length < 140737488355328 then ((some (t384 ++ l0_8 : List Int)).bind fun y387 => ((lychref1_Of.f kj1 y387).bind fun t390 => (if 10 < (y387.length : Int) then (if 11 < (y387.length : Int) then ((some ((y387.set (10 : Int).toNat ((t390 / 256) % 256)).set (11 : Int).toNat ((t390) % 256) : List Int)).bind fun y392 => (if y392.length + l0_9.length < 140737488355328 then (some ((y392 ++ l0_9), 0)) else (none))) else (none)) else (none)))) else (none)))) else (none)) = some (r1, r2) := by first | (rw [hy375]; with_reducible exact H) | (have H2_ := (Option.bind_some _ _).symm.trans H; rw [hy375]; with_reducible exact H2_) | (have H2_ := (Option.bind_some _ _).symm.trans H; with_reducible exact H2_) | with_reducible exact H | (rw [hy375]; exact H) | exact H
     have Ny375 := Aside0.mk hy375
     clear hy375
     by_cases c17 : t372.length + y375.length < 140737488355328
     ·rw [if_pos c17] at H
      have LMc17 := Aside0.mk c17
      clear c17
      obtain ⟨y378, hy378⟩ : ∃ y_ : List Int, y_ = (t372 ++ y375) := ⟨_, rfl⟩
      replace H : ((lychref1_Put32.f y378 a0_6).bind fun t381 => ((lychref1_Put32.f t381 a0_7).bind fun t384 => (if t384.length + l0_8.length < 140737488355328 then ((some (t384 ++ l0_8 : List Int)).bind fun y387 => ((lychref1_Of.f kj1 y387).bind fun t390 => (if 10 < (y387.length : Int) then (if 11 < (y387.length : Int) then ((some ((y387.set (10 : Int).toNat ((t390 / 256) % 256)).set (11 : Int).toNat ((t390) % 256) : List Int)).bind fun y392 => (if y392.length + l0_9.length < 140737488355328 then (some ((y392 ++ l0_9), 0)) else (none))) else (none)) else (none)))) else (none)))) = some (r1, r2) := by first | (rw [hy378]; with_reducible exact H) | (have H2_ := (Option.bind_some _ _).symm.trans H; rw [hy378]; with_reducible exact H2_) | (have H2_ := (Option.bind_some _ _).symm.trans H; with_reducible exact H2_) | with_reducible exact H | (rw [hy378]; exact H) | exact H
      have Ny378 := Aside0.mk hy378
      clear hy378
      replace H := Option.bind_eq_some_iff.mp H
      obtain ⟨t381, A180, H⟩ := H
      replace H : ((lychref1_Put32.f t381 a0_7).bind fun t384 => (if t384.length + l0_8.length < 140737488355328 then ((some (t384 ++ l0_8 : List Int)).bind fun y387 => ((lychref1_Of.f kj1 y387).bind fun t390 => (if 10 < (y387.length : Int) then (if 11 < (y387.length : Int) then ((some ((y387.set (10 : Int).toNat ((t390 / 256) % 256)).set (11 : Int).toNat ((t390) % 256) : List Int)).bind fun y392 => (if y392.length + l0_9.length < 140737488355328 then (some ((y392 ++ l0_9), 0)) else (none))) else (none)) else (none)))) else (none))) = some (r1, r2) := H
      have A18 := Aside0.mk A180
      clear A180
      replace H := Option.bind_eq_some_iff.mp H
      obtain ⟨t384, A190, H⟩ := H
      replace H : (if t384.length + l0_8.length < 140737488355328 then ((some (t384 ++ l0_8 : List Int)).bind fun y387 => ((lychref1_Of.f kj1 y387).bind fun t390 => (if 10 < (y387.length : Int) then (if 11 < (y387.length : Int) then ((some ((y387.set (10 : Int).toNat ((t390 / 256) % 256)).set (11 : Int).toNat ((t390) % 256) : List Int)).bind fun y392 => (if y392.length + l0_9.length < 140737488355328 then (some ((y392 ++ l0_9), 0)) else (none))) else (none)) else (none)))) else (none)) = some (r1, r2) := H
      have A19 := Aside0.mk A190
      clear A190
      by_cases c20 : t384.length + l0_8.length < 140737488355328
      ·rw [if_pos c20] at H
       have LMc20 := Aside0.mk c20
       clear c20
       obtain ⟨y387, hy387⟩ : ∃ y_ : List Int, y_ = (t384 ++ l0_8) := ⟨_, rfl⟩
       replace H : ((lychref1_Of.f kj1 y387).bind fun t390 => (if 10 < (y387.length : Int) then (if 11 < (y387.length : Int) then ((some ((y387.set (10 : Int).toNat ((t390 / 256) % 256)).set (11 : Int).toNat ((t390) % 256) : List Int)).bind fun y392 => (if y392.length + l0_9.length < 140737488355328 then (some ((y392 ++ l0_9), 0)) else (none))) else (none)) else (none))) = some (r1, r2) := by first | (rw [hy387]; with_reducible exact H) | (have H2_ := (Option.bind_some _ _).symm.trans H; rw [hy387]; with_reducible exact H2_) | (have H2_ := (Option.bind_some _ _).symm.trans H; with_reducible exact H2_) | with_reducible exact H | (rw [hy387]; exact H) | exact H
       have Ny387 := Aside0.mk hy387
       clear hy387
       replace H := Option.bind_eq_some_iff.mp H
       obtain ⟨t390, A210, H⟩ := H
       replace H : (if 10 < (y387.length : Int) then (if 11 < (y387.length : Int) then ((some ((y387.set (10 : Int).toNat ((t390 / 256) % 256)).set (11 : Int).toNat ((t390) % 256) : List Int)).bind fun y392 => (if y392.length + l0_9.length < 140737488355328 then (some ((y392 ++ l0_9), 0)) else (none))) else (none)) else (none)) = some (r1, r2) := H
       have A21 := Aside0.mk A210
       clear A210
       by_cases c22 : 10 < (y387.length : Int)
       ·rw [if_pos c22] at H
        have c22b0 : decide (10 < (y387.length : Int)) = true := decide_eq_true c22
        have c22b1 : decide (10 < y387.length) = true := decide_eq_true (by omega)
        clear c22
        obtain ⟨y391, hy391⟩ : ∃ y_ : List Int, y_ = (y387.set (10 : Int).toNat ((t390 / 256) % 256)) := ⟨_, rfl⟩
        replace H : (if 11 < (y387.length : Int) then ((some (y391.set (11 : Int).toNat ((t390) % 256) : List Int)).bind fun y392 => (if y392.length + l0_9.length < 140737488355328 then (some ((y392 ++ l0_9), 0)) else (none))) else (none)) = some (r1, r2) := by first | (rw [hy391]; with_reducible exact H) | (have H2_ := (Option.bind_some _ _).symm.trans H; rw [hy391]; with_reducible exact H2_) | (have H2_ := (Option.bind_some _ _).symm.trans H; with_reducible exact H2_) | with_reducible exact H | (rw [hy391]; exact H) | exact H
        have Ny391 := Aside0.mk hy391
        clear hy391
        by_cases c24 : 11 < (y387.length : Int)
        ·rw [if_pos c24] at H
         have c24b0 : decide (11 < (y387.length : Int)) = true := decide_eq_true c24
         have c24b1 : decide (11 < y387.length) = true := decide_eq_true (by omega)
         clear c24
         obtain ⟨y392, hy392⟩ : ∃ y_ : List Int, y_ = (y391.set (11 : Int).toNat ((t390) % 256)) := ⟨_, rfl⟩
         replace H : (if y392.length + l0_9.length < 140737488355328 then (some ((y392 ++ l0_9), 0)) else (none)) = some (r1, r2) := by first | (rw [hy392]; with_reducible exact H) | (have H2_ := (Option.bind_some _ _).symm.trans H; rw [hy392]; with_reducible exact H2_) | (have H2_ := (Option.bind_some _ _).symm.trans H; with_reducible exact H2_) | with_reducible exact H | (rw [hy392]; exact H) | exact H
         have Ny392 := Aside0.mk hy392
         clear hy392
         by_cases c26 : y392.length + l0_9.length < 140737488355328
         ·rw [if_pos c26] at H
          have LMc26 := Aside0.mk c26
          clear c26
          obtain ⟨y393, hy393⟩ : ∃ y_ : List Int, y_ = (y392 ++ l0_9) := ⟨_, rfl⟩
          replace H : (some (y393, 0)) = some (r1, r2) := by first | (rw [hy393]; with_reducible exact H) | (have H2_ := (Option.bind_some _ _).symm.trans H; rw [hy393]; with_reducible exact H2_) | (have H2_ := (Option.bind_some _ _).symm.trans H; with_reducible exact H2_) | with_reducible exact H | (rw [hy393]; exact H) | exact H
          have Ny393 := Aside0.mk hy393
          clear hy393
          simp only [Option.some.injEq, Prod.mk.injEq] at H
          obtain ⟨rfl, rfl⟩ := H
          have hcz27_0 : wc.cell? ⟨gb362, 0, none⟩ = some (.int .u8 a0_0) := (blk_cell BK362.out 0).trans rfl
          have hcz27_1 : wc.cell? ⟨gb362, 1, none⟩ = some (.int .u8 a0_1) := (blk_cell BK362.out 1).trans rfl
          have hcz27_2 : wc.cell? ⟨gb362, 2, none⟩ = some (.int .u8 a0_2) := (blk_cell BK362.out 2).trans rfl
          have hcz27_3 : wc.cell? ⟨gb362, 3, none⟩ = some (.int .u16 a0_3) := (blk_cell BK362.out 3).trans rfl
          have hcz27_4 : wc.cell? ⟨gb362, 4, none⟩ = some (.int .u8 a0_4) := (blk_cell BK362.out 4).trans rfl
          have hcz27_5 : wc.cell? ⟨gb362, 5, none⟩ = some (.int .u16 a0_5) := (blk_cell BK362.out 5).trans rfl
          have hcz27_6 : wc.cell? ⟨gb362, 6, none⟩ = some (.int .u32 a0_6) := (blk_cell BK362.out 6).trans rfl
          have hcz27_7 : wc.cell? ⟨gb362, 7, none⟩ = some (.int .u32 a0_7) := (blk_cell BK362.out 7).trans rfl
          have hcz27_8 : wc.cell? ⟨gb362, 8, none⟩ = some (.slice A0_8 l0_8.length c0_8) := (blk_cell BK362.out 8).trans rfl
          have hcz27_9 : wc.cell? ⟨gb362, 9, none⟩ = some (.slice A0_9 l0_9.length c0_9) := (blk_cell BK362.out 9).trans rfl
          have hfz27_0 := blk_frozen BK362.out 0
          have hfz27_1 := blk_frozen BK362.out 1
          have hfz27_2 := blk_frozen BK362.out 2
          have hfz27_3 := blk_frozen BK362.out 3
          have hfz27_4 := blk_frozen BK362.out 4
          have hfz27_5 := blk_frozen BK362.out 5
          have hfz27_6 := blk_frozen BK362.out 6
          have hfz27_7 := blk_frozen BK362.out 7
          have hfz27_8 := blk_frozen BK362.out 8
          have hfz27_9 := blk_frozen BK362.out 9
          try go_wp2_with (first | ((with_reducible refine gate_dst (N := 44) rfl ?_); (try (refine gate_guard (by rfl) ?_; dsimp only)); refine Kd.R_lit (Kd.int .u8) _ 5 ?hg (N := 44) ?hd (xs := ([Go.bits .or .u8 64 ((wrap64 (Int.tdiv (wrap64 (20 + (l0_8.length : Int))) 4)) % 256), a0_0] : List Int)) (inner := [.int .u8 (Go.bits .or .u8 64 ((wrap64 (Int.tdiv (wrap64 (20 + (l0_8.length : Int))) 4)) % 256)), .int .u8 a0_0]) (ok := fun _ => True) (okp := fun _ => True) ?hr ?hp (fun _ hk => hk) trivial (Below.refl _ _) (Nat.le_refl _) (by simp) ?_; (case hd => rfl); (case hg => rfl); (case hr => first | (go_simp; done) | (go_simp; simp only [IntKind.wrap_u8, IntKind.wrap_u16, IntKind.wrap_u32]; done) | (go_simp; rfl)); (case hp => exact (Reps.one (show Kd.M (Kd.int .u8) _ _ _ (Go.bits .or .u8 64 ((wrap64 (Int.tdiv (wrap64 (20 + (l0_8.length : Int))) 4)) % 256)) [.int .u8 (Go.bits .or .u8 64 ((wrap64 (Int.tdiv (wrap64 (20 + (l0_8.length : Int))) 4)) % 256))] from rfl) (Reps.one (show Kd.M (Kd.int .u8) _ _ _ a0_0 [.int .u8 a0_0] from rfl) (Reps.none _ _)))); intro v364 w28 ho29 hb hg_ hnew_; clear hg_ hnew_; (first | rw [← Ny363.out] at ho29 | (simp only [Int.reduceToNat] at ho29; rw [← Ny363.out] at ho29)); have n0_ := Aside0.mk (Kd.R_lower ho29 (below_size (by repeat (first | (with_reducible first | exact HB.out | apply below_alloc | apply pw_below_drewN | apply below_drew1 | refine below_set ?_ GE362.out) | exact HB.out)))); have n1_ := Aside0.mk (blk_below (g := gb362) (o := .cells #[.int .u8 a0_0, .int .u8 a0_1, .int .u8 a0_2, .int .u16 a0_3, .int .u8 a0_4, .int .u16 a0_5, .int .u32 a0_6, .int .u32 a0_7, .slice A0_8 l0_8.length c0_8, .slice A0_9 l0_9.length c0_9] 30 (0, 0)) (by (with_reducible repeat (first | refine blk_drewN ?_ _ | refine blk_drew ?_ | refine blk_alloc ?_ _)); exact BK362.out) hb); have n2_ := Aside0.mk (below_step (by repeat (first | (with_reducible first | exact HB.out | apply below_alloc | apply pw_below_drewN | apply below_drew1 | refine below_set ?_ GE362.out) | exact HB.out)) hb); clear BK362; clear HB; have HO365 := n0_; have BK362 := n1_; have HB := n2_; clear n0_ n1_ n2_; clear hb ho29))
          have n0_ := Aside0.mk (Kd.R_drew HO365.out)
          have n1_ := Aside0.mk (blk_drew BK362.out)
          have n2_ := Aside0.mk (below_drew1 HB.out)
          clear HO365
          clear BK362
          clear HB
          have HO365 := n0_
          have BK362 := n1_
          have HB := n2_
          clear n0_ n1_ n2_
          obtain ⟨Ao31, co31, eo31⟩ := Kd.R_slice HO365.out
          (first | subst eo31 | (injection eo31 with f1_ f2_ f3_; have f4_ := f1_.symm; have f5_ := f3_.symm; clear f1_ f2_ f3_; subst f4_; subst f5_))
          refine start_ (n := 12) (S := fun w' => w'.cell? ⟨gb362, 0, none⟩ = some (.int .u8 a0_0) ∧ w'.cell? ⟨gb362, 1, none⟩ = some (.int .u8 a0_1) ∧ w'.cell? ⟨gb362, 2, none⟩ = some (.int .u8 a0_2) ∧ w'.cell? ⟨gb362, 3, none⟩ = some (.int .u16 a0_3) ∧ w'.cell? ⟨gb362, 4, none⟩ = some (.int .u8 a0_4) ∧ w'.cell? ⟨gb362, 5, none⟩ = some (.int .u16 a0_5) ∧ w'.cell? ⟨gb362, 6, none⟩ = some (.int .u32 a0_6) ∧ w'.cell? ⟨gb362, 7, none⟩ = some (.int .u32 a0_7) ∧ w'.cell? ⟨gb362, 8, none⟩ = some (.slice A0_8 l0_8.length c0_8) ∧ w'.cell? ⟨gb362, 9, none⟩ = some (.slice A0_9 l0_9.length c0_9)) (ds := []) #[false, false, false, false, false, false, false, false, false, false, false, false] (by kernel_rfl) rfl rfl ⟨(blk_cell BK362.out 0).trans rfl, (blk_cell BK362.out 1).trans rfl, (blk_cell BK362.out 2).trans rfl, (blk_cell BK362.out 3).trans rfl, (blk_cell BK362.out 4).trans rfl, (blk_cell BK362.out 5).trans rfl, (blk_cell BK362.out 6).trans rfl, (blk_cell BK362.out 7).trans rfl, (blk_cell BK362.out 8).trans rfl, (blk_cell BK362.out 9).trans rfl⟩ (fun hHeld => ?_); refine with_tabW lychref1_IpBytes.tab7 lychref1_IpBytes.bits7 (fun HT_ HW_ => ?_)
          generalize w28.drew = w30 at HO365 BK362 HB hHeld ⊢
          refine pure_ (i := 0) (N := some 45) (v := ?_) (a' := ?_) #[true, false, false, false, false, false, false, false, false, false, false, false] rfl rfl (any_of HT_.out (by kernel_rfl)) (fun _ _ _ h => h) (Or.inl ⟨by rfl, ?_⟩) ?_ ?_
          rotate_left
          ·intro w'
           go_simp
           with_reducible rfl
          rotate_left
          ·simp only [Act.put, List.setIfInBounds_toArray, List.set_cons_zero, List.set_cons_succ, i64_w, i32_w]
           rfl
          refine pure_ (i := 1) (N := some 46) (v := ?_) (a' := ?_) #[true, true, false, false, false, false, false, false, false, false, false, false] rfl rfl (any_of HT_.out (by kernel_rfl)) (fun _ _ _ h => h) (Or.inl ⟨by rfl, ?_⟩) ?_ ?_
          rotate_left
          ·intro w'
           go_simp
           with_reducible rfl
          rotate_left
          ·simp only [Act.put, List.setIfInBounds_toArray, List.set_cons_zero, List.set_cons_succ, i64_w, i32_w]
           rfl
          refine pure_ (i := 2) (N := some 47) (v := ?_) (a' := ?_) #[true, true, true, false, false, false, false, false, false, false, false, false] rfl rfl (any_of HT_.out (by kernel_rfl)) (fun _ _ _ h => h) (Or.inl ⟨by rfl, ?_⟩) ?_ ?_
          rotate_left
          ·intro w'
           go_simp
           with_reducible rfl
          rotate_left
          ·simp only [Act.put, List.setIfInBounds_toArray, List.set_cons_zero, List.set_cons_succ, i64_w, i32_w]
           rfl
          refine pure_ (i := 8) (N := some 53) (v := ?_) (a' := ?_) #[true, true, true, false, false, false, false, false, true, false, false, false] rfl rfl (any_of HT_.out (by kernel_rfl)) (fun _ _ _ h => h) (Or.inl ⟨by rfl, ?_⟩) ?_ ?_
          rotate_left
          ·intro w'
           go_simp
           with_reducible rfl
          rotate_left
          ·simp only [Act.put, List.setIfInBounds_toArray, List.set_cons_zero, List.set_cons_succ, i64_w, i32_w]
           rfl
          refine take_ (i := 3) (N := some 48) (v := ?_) (a' := ?_) #[true, true, true, true, false, false, false, false, true, false, false, false] rfl rfl (take_ofW HT_.out HW_.out (by kernel_rfl)) (fun _ _ _ h => h) (Or.inl ⟨by rfl, ?_⟩) hHeld ?_ ?_
          rotate_left
          ·rintro w' ⟨s0, s1, s2, s3, s4, s5, s6, s7, s8, s9⟩
           go_simp
           with_reducible rfl
          rotate_left
          ·simp only [Act.put, List.setIfInBounds_toArray, List.set_cons_zero, List.set_cons_succ, i64_w, i32_w]
           rfl
          refine pure_ (i := 4) (N := some 49) (v := ?_) (a' := ?_) #[true, true, true, true, true, false, false, false, true, false, false, false] rfl rfl (any_of HT_.out (by kernel_rfl)) (fun _ _ _ h => h) (Or.inl ⟨by rfl, ?_⟩) ?_ ?_
          rotate_left
          ·intro w'
           go_simp
           with_reducible rfl
          rotate_left
          ·simp only [Act.put, List.setIfInBounds_toArray, List.set_cons_zero, List.set_cons_succ, i64_w, i32_w]
           rfl
          refine pure_ (i := 5) (N := some 50) (v := ?_) (a' := ?_) #[true, true, true, true, true, true, false, false, true, false, false, false] rfl rfl (any_of HT_.out (by kernel_rfl)) (fun _ _ _ h => h) (Or.inl ⟨by rfl, ?_⟩) ?_ ?_
          rotate_left
          ·intro w'
           go_simp
           with_reducible rfl
          rotate_left
          ·simp only [Act.put, List.setIfInBounds_toArray, List.set_cons_zero, List.set_cons_succ, i64_w, i32_w]
           rfl
          refine pure_ (i := 6) (N := some 51) (v := ?_) (a' := ?_) #[true, true, true, true, true, true, true, false, true, false, false, false] rfl rfl (any_of HT_.out (by kernel_rfl)) (fun _ _ _ h => h) (Or.inl ⟨by rfl, ?_⟩) ?_ ?_
          rotate_left
          ·intro w'
           go_simp
           with_reducible rfl
          rotate_left
          ·simp only [Act.put, List.setIfInBounds_toArray, List.set_cons_zero, List.set_cons_succ, i64_w, i32_w]
           rfl
          refine take_ (i := 9) (N := some 54) (v := ?_) (a' := ?_) #[true, true, true, true, true, true, true, false, true, true, false, false] rfl rfl (take_ofW HT_.out HW_.out (by kernel_rfl)) (fun _ _ _ h => h) (Or.inl ⟨by rfl, ?_⟩) hHeld ?_ ?_
          rotate_left
          ·rintro w' ⟨s0, s1, s2, s3, s4, s5, s6, s7, s8, s9⟩
           go_simp
           with_reducible rfl
          rotate_left
          ·simp only [Act.put, List.setIfInBounds_toArray, List.set_cons_zero, List.set_cons_succ, i64_w, i32_w]
           rfl
          refine one_ (i := 7) (N := some 52) #[true, true, true, true, true, true, true, true, true, true, false, false] rfl rfl (one_of HT_.out (by kernel_rfl)) (by decide) (fun K hK => ?_)
          refine goes_ Try.func27 (by kernel_rfl) rfl #[.slice Ao31 y363.length co31, .int .u16 (IntKind.u16.wrap (wrap64 ((wrap64 (20 + (l0_8.length : Int))) + (l0_9.length : Int))))] (by rfl) rfl rfl (by (try simp only [List.map_toArray, List.map_cons, List.map_nil]); first | done | rfl | (simp only [List.length_drop, List.length_take]; rfl) | (go_simp; done) | (simp [Act.eval, IntKind.signed]; done) | (simp [Act.eval, IntKind.signed]; rfl)) ?_
          with_reducible refine (lychref1_Put16.calls (fun k_ => some k_ = (.slice Ao31 y363.length co31 : Value).ownBlock) (.slice Ao31 y363.length co31) y363 (IntKind.u16.wrap (wrap64 ((wrap64 (20 + (l0_8.length : Int))) + (l0_9.length : Int)))) t366 w _ ?side1 ?side2 A14.out).mono ?_
          (case side1 => repeat (first | (with_reducible first | exact HB.out | apply below_alloc | apply pw_below_drewN | apply below_drew1 | refine below_set ?_ GE362.out) | exact HB.out))
          (case side2 => exact Kd.R_tight rfl HO365.out)
          rintro e w32 ⟨v367, rfl, ho0, hb, hkp⟩
          refine ⟨_, rfl, ?_⟩
          have n0_ := Aside0.mk (blk_kept (by (with_reducible repeat (first | refine blk_drewN ?_ _ | refine blk_drew ?_ | refine blk_alloc ?_ _)); exact BK362.out) hkp (fun hs_ => (fun e_ => (Kd.R_ne HO365.out BK362.out (by decide)) e_) hs_))
          have n1_ := Aside0.mk (Kd.R_mono (ok' := fun k_ => True) ho0 (fun k_ hk_ => trivial))
          have n2_ := Aside0.mk (hb)
          clear BK362
          clear HB
          clear HO365
          have BK362 := n0_
          have HO368 := n1_
          have HB := n2_
          clear n0_ n1_ n2_
          (try clear hb)
          (try clear hkp)
          (try clear ho0)
          obtain ⟨Ao33, co33, eo33⟩ := Kd.R_slice HO368.out
          (first | subst eo33 | (injection eo33 with f1_ f2_ f3_; have f4_ := f1_.symm; have f5_ := f3_.symm; clear f1_ f2_ f3_; subst f4_; subst f5_))
          refine hK.out _ _ ⟨(blk_cell BK362.out 0).trans rfl, (blk_cell BK362.out 1).trans rfl, (blk_cell BK362.out 2).trans rfl, (blk_cell BK362.out 3).trans rfl, (blk_cell BK362.out 4).trans rfl, (blk_cell BK362.out 5).trans rfl, (blk_cell BK362.out 6).trans rfl, (blk_cell BK362.out 7).trans rfl, (blk_cell BK362.out 8).trans rfl, (blk_cell BK362.out 9).trans rfl⟩ (fun hHeld => ?_)
          clear hK K
          refine norm_ (a' := ?_) ?_ ?_
          rotate_left
          ·show Act.put _ (some 52) _ = _
           simp only [Act.put, List.setIfInBounds_toArray, List.set_cons_zero, List.set_cons_succ, i64_w, i32_w]
           rfl
          refine one_ (i := 10) (N := some 55) #[true, true, true, true, true, true, true, true, true, true, true, false] rfl rfl (one_of HT_.out (by kernel_rfl)) (by decide) (fun K hK => ?_)
          refine goes_ Try.func27 (by kernel_rfl) rfl #[.slice Ao33 t366.length co33, .int .u16 a0_3] (by rfl) rfl rfl (by (try simp only [List.map_toArray, List.map_cons, List.map_nil]); first | done | rfl | (simp only [List.length_drop, List.length_take]; rfl) | (go_simp; done) | (simp [Act.eval, IntKind.signed]; done) | (simp [Act.eval, IntKind.signed]; rfl)) ?_
          with_reducible refine (lychref1_Put16.calls (fun k_ => some k_ = (.slice Ao33 t366.length co33 : Value).ownBlock) (.slice Ao33 t366.length co33) t366 a0_3 t369 w _ ?side1 ?side2 A15.out).mono ?_
          (case side1 => repeat (first | (with_reducible first | exact HB.out | apply below_alloc | apply pw_below_drewN | apply below_drew1 | refine below_set ?_ GE362.out) | exact HB.out))
          (case side2 => exact Kd.R_tight rfl HO368.out)
          rintro e w34 ⟨v370, rfl, ho0, hb, hkp⟩
          refine ⟨_, rfl, ?_⟩
          have n0_ := Aside0.mk (blk_kept (by (with_reducible repeat (first | refine blk_drewN ?_ _ | refine blk_drew ?_ | refine blk_alloc ?_ _)); exact BK362.out) hkp (fun hs_ => (fun e_ => (Kd.R_ne HO368.out BK362.out (by decide)) e_) hs_))
          have n1_ := Aside0.mk (Kd.R_mono (ok' := fun k_ => True) ho0 (fun k_ hk_ => trivial))
          have n2_ := Aside0.mk (hb)
          clear BK362
          clear HB
          clear HO368
          have BK362 := n0_
          have HO371 := n1_
          have HB := n2_
          clear n0_ n1_ n2_
          (try clear hb)
          (try clear hkp)
          (try clear ho0)
          refine hK.out _ _ ⟨(blk_cell BK362.out 0).trans rfl, (blk_cell BK362.out 1).trans rfl, (blk_cell BK362.out 2).trans rfl, (blk_cell BK362.out 3).trans rfl, (blk_cell BK362.out 4).trans rfl, (blk_cell BK362.out 5).trans rfl, (blk_cell BK362.out 6).trans rfl, (blk_cell BK362.out 7).trans rfl, (blk_cell BK362.out 8).trans rfl, (blk_cell BK362.out 9).trans rfl⟩ (fun hHeld => ?_)
          clear hK K
          refine norm_ (a' := ?_) ?_ ?_
          rotate_left
          ·show Act.put _ (some 55) _ = _
           simp only [Act.put, List.setIfInBounds_toArray, List.set_cons_zero, List.set_cons_succ, i64_w, i32_w]
           rfl
          refine pure_ (i := 11) (N := some 5) (v := ?_) (a' := ?_) #[true, true, true, true, true, true, true, true, true, true, true, true] rfl rfl (any_of HT_.out (by kernel_rfl)) (fun _ _ _ h => h) (Or.inl ⟨by rfl, ?_⟩) ?_ ?_
          rotate_left
          ·intro w'
           go_simp
           with_reducible rfl
          rotate_left
          ·simp only [Act.put, List.setIfInBounds_toArray, List.set_cons_zero, List.set_cons_succ, i64_w, i32_w]
           rfl
          refine done_ (done_of HT_.out (by kernel_rfl)) ?_
          obtain ⟨Ao35, co35, eo35⟩ := Kd.R_slice HO371.out
          subst eo35
          try go_wp2
          have n0_ := Aside0.mk (Kd.R_drew HO371.out)
          have n1_ := Aside0.mk (blk_drew BK362.out)
          have n2_ := Aside0.mk (below_drew1 HB.out)
          clear HO371
          clear BK362
          clear HB
          have HO371 := n0_
          have BK362 := n1_
          have HB := n2_
          clear n0_ n1_ n2_
          refine start_ (n := 16) (S := fun w' => w'.cell? ⟨gb362, 0, none⟩ = some (.int .u8 a0_0) ∧ w'.cell? ⟨gb362, 1, none⟩ = some (.int .u8 a0_1) ∧ w'.cell? ⟨gb362, 2, none⟩ = some (.int .u8 a0_2) ∧ w'.cell? ⟨gb362, 3, none⟩ = some (.int .u16 a0_3) ∧ w'.cell? ⟨gb362, 4, none⟩ = some (.int .u8 a0_4) ∧ w'.cell? ⟨gb362, 5, none⟩ = some (.int .u16 a0_5) ∧ w'.cell? ⟨gb362, 6, none⟩ = some (.int .u32 a0_6) ∧ w'.cell? ⟨gb362, 7, none⟩ = some (.int .u32 a0_7) ∧ w'.cell? ⟨gb362, 8, none⟩ = some (.slice A0_8 l0_8.length c0_8) ∧ w'.cell? ⟨gb362, 9, none⟩ = some (.slice A0_9 l0_9.length c0_9)) (ds := []) #[false, false, false, false, false, false, false, false, false, false, false, false, false, false, false, false] (by kernel_rfl) rfl rfl ⟨(blk_cell BK362.out 0).trans rfl, (blk_cell BK362.out 1).trans rfl, (blk_cell BK362.out 2).trans rfl, (blk_cell BK362.out 3).trans rfl, (blk_cell BK362.out 4).trans rfl, (blk_cell BK362.out 5).trans rfl, (blk_cell BK362.out 6).trans rfl, (blk_cell BK362.out 7).trans rfl, (blk_cell BK362.out 8).trans rfl, (blk_cell BK362.out 9).trans rfl⟩ (fun hHeld => ?_); refine with_tabW lychref1_IpBytes.tab8 lychref1_IpBytes.bits8 (fun HT_ HW_ => ?_)
          generalize w34.drew = w36 at HO371 BK362 HB hHeld ⊢
          refine pure_ (i := 0) (N := some 56) (v := ?_) (a' := ?_) #[true, false, false, false, false, false, false, false, false, false, false, false, false, false, false, false] rfl rfl (any_of HT_.out (by kernel_rfl)) (fun _ _ _ h => h) (Or.inl ⟨by rfl, ?_⟩) ?_ ?_
          rotate_left
          ·intro w'
           go_simp
           with_reducible rfl
          rotate_left
          ·simp only [Act.put, List.setIfInBounds_toArray, List.set_cons_zero, List.set_cons_succ, i64_w, i32_w]
           rfl
          refine pure_ (i := 1) (N := some 57) (v := ?_) (a' := ?_) #[true, true, false, false, false, false, false, false, false, false, false, false, false, false, false, false] rfl rfl (any_of HT_.out (by kernel_rfl)) (fun _ _ _ h => h) (Or.inl ⟨by rfl, ?_⟩) ?_ ?_
          rotate_left
          ·intro w'
           go_simp
           with_reducible rfl
          rotate_left
          ·simp only [Act.put, List.setIfInBounds_toArray, List.set_cons_zero, List.set_cons_succ, i64_w, i32_w]
           rfl
          refine pure_ (i := 5) (N := some 61) (v := ?_) (a' := ?_) #[true, true, false, false, false, true, false, false, false, false, false, false, false, false, false, false] rfl rfl (any_of HT_.out (by kernel_rfl)) (fun _ _ _ h => h) (Or.inl ⟨by rfl, ?_⟩) ?_ ?_
          rotate_left
          ·intro w'
           go_simp
           with_reducible rfl
          rotate_left
          ·simp only [Act.put, List.setIfInBounds_toArray, List.set_cons_zero, List.set_cons_succ, i64_w, i32_w]
           rfl
          refine pure_ (i := 9) (N := some 65) (v := ?_) (a' := ?_) #[true, true, false, false, false, true, false, false, false, true, false, false, false, false, false, false] rfl rfl (any_of HT_.out (by kernel_rfl)) (fun _ _ _ h => h) (Or.inl ⟨by rfl, ?_⟩) ?_ ?_
          rotate_left
          ·intro w'
           go_simp
           with_reducible rfl
          rotate_left
          ·simp only [Act.put, List.setIfInBounds_toArray, List.set_cons_zero, List.set_cons_succ, i64_w, i32_w]
           rfl
          refine pure_ (i := 11) (N := some 67) (v := ?_) (a' := ?_) #[true, true, false, false, false, true, false, false, false, true, false, true, false, false, false, false] rfl rfl (any_of HT_.out (by kernel_rfl)) (fun _ _ _ h => h) (Or.inl ⟨by rfl, ?_⟩) ?_ ?_
          rotate_left
          ·intro w'
           go_simp
           with_reducible rfl
          rotate_left
          ·simp only [Act.put, List.setIfInBounds_toArray, List.set_cons_zero, List.set_cons_succ, i64_w, i32_w]
           rfl
          refine take_ (i := 2) (N := some 58) (v := ?_) (a' := ?_) #[true, true, true, false, false, true, false, false, false, true, false, true, false, false, false, false] rfl rfl (take_ofW HT_.out HW_.out (by kernel_rfl)) (fun _ _ _ h => h) (Or.inl ⟨by rfl, ?_⟩) hHeld ?_ ?_
          rotate_left
          ·rintro w' ⟨s0, s1, s2, s3, s4, s5, s6, s7, s8, s9⟩
           go_simp
           with_reducible rfl
          rotate_left
          ·simp only [Act.put, List.setIfInBounds_toArray, List.set_cons_zero, List.set_cons_succ, i64_w, i32_w]
           rfl
          refine pure_ (i := 3) (N := some 59) (v := ?_) (a' := ?_) #[true, true, true, true, false, true, false, false, false, true, false, true, false, false, false, false] rfl rfl (any_of HT_.out (by kernel_rfl)) (fun _ _ _ h => h) (Or.inl ⟨by rfl, ?_⟩) ?_ ?_
          rotate_left
          ·intro w'
           go_simp
           with_reducible rfl
          rotate_left
          ·simp only [Act.put, List.setIfInBounds_toArray, List.set_cons_zero, List.set_cons_succ, i64_w, i32_w]
           rfl
          refine pure_ (i := 4) (N := some 60) (v := ?_) (a' := ?_) #[true, true, true, true, true, true, false, false, false, true, false, true, false, false, false, false] rfl rfl (any_of HT_.out (by kernel_rfl)) (fun _ _ _ h => h) (Or.inl ⟨by rfl, ?_⟩) ?_ ?_
          rotate_left
          ·intro w'
           go_simp
           with_reducible rfl
          rotate_left
          ·simp only [Act.put, List.setIfInBounds_toArray, List.set_cons_zero, List.set_cons_succ, i64_w, i32_w]
           rfl
          refine take_ (i := 6) (N := some 62) (v := ?_) (a' := ?_) #[true, true, true, true, true, true, true, false, false, true, false, true, false, false, false, false] rfl rfl (take_ofW HT_.out HW_.out (by kernel_rfl)) (fun _ _ _ h => h) (Or.inl ⟨by rfl, ?_⟩) hHeld ?_ ?_
          rotate_left
          ·rintro w' ⟨s0, s1, s2, s3, s4, s5, s6, s7, s8, s9⟩
           go_simp
           with_reducible rfl
          rotate_left
          ·simp only [Act.put, List.setIfInBounds_toArray, List.set_cons_zero, List.set_cons_succ, i64_w, i32_w]
           rfl
          refine pure_ (i := 7) (N := some 63) (v := ?_) (a' := ?_) #[true, true, true, true, true, true, true, true, false, true, false, true, false, false, false, false] rfl rfl (any_of HT_.out (by kernel_rfl)) (fun _ _ _ h => h) (Or.inl ⟨by rfl, ?_⟩) ?_ ?_
          rotate_left
          ·intro w'
           go_simp
           with_reducible rfl
          rotate_left
          ·simp only [Act.put, List.setIfInBounds_toArray, List.set_cons_zero, List.set_cons_succ, i64_w, i32_w]
           rfl
          refine take_ (i := 10) (N := some 66) (v := ?_) (a' := ?_) #[true, true, true, true, true, true, true, true, false, true, true, true, false, false, false, false] rfl rfl (take_ofW HT_.out HW_.out (by kernel_rfl)) (fun _ _ _ h => h) (Or.inl ⟨by rfl, ?_⟩) hHeld ?_ ?_
          rotate_left
          ·rintro w' ⟨s0, s1, s2, s3, s4, s5, s6, s7, s8, s9⟩
           go_simp
           with_reducible rfl
          rotate_left
          ·simp only [Act.put, List.setIfInBounds_toArray, List.set_cons_zero, List.set_cons_succ, i64_w, i32_w]
           rfl
          refine take_ (i := 12) (N := some 68) (v := ?_) (a' := ?_) #[true, true, true, true, true, true, true, true, false, true, true, true, true, false, false, false] rfl rfl (take_ofW HT_.out HW_.out (by kernel_rfl)) (fun _ _ _ h => h) (Or.inl ⟨by rfl, ?_⟩) hHeld ?_ ?_
          rotate_left
          ·rintro w' ⟨s0, s1, s2, s3, s4, s5, s6, s7, s8, s9⟩
           go_simp
           with_reducible rfl
          rotate_left
          ·simp only [Act.put, List.setIfInBounds_toArray, List.set_cons_zero, List.set_cons_succ, i64_w, i32_w]
           rfl
          refine join_ (σ := Value × Value) 2 #[true, true, true, true, true, true, true, true, true, true, true, true, true, true, false, false] (fun s_ => [(64, s_.1), (69, s_.2)]) (fun s_ w' => (w'.cell? ⟨gb362, 0, none⟩ = some (.int .u8 a0_0) ∧ w'.cell? ⟨gb362, 1, none⟩ = some (.int .u8 a0_1) ∧ w'.cell? ⟨gb362, 2, none⟩ = some (.int .u8 a0_2) ∧ w'.cell? ⟨gb362, 3, none⟩ = some (.int .u16 a0_3) ∧ w'.cell? ⟨gb362, 4, none⟩ = some (.int .u8 a0_4) ∧ w'.cell? ⟨gb362, 5, none⟩ = some (.int .u16 a0_5) ∧ w'.cell? ⟨gb362, 6, none⟩ = some (.int .u32 a0_6) ∧ w'.cell? ⟨gb362, 7, none⟩ = some (.int .u32 a0_7) ∧ w'.cell? ⟨gb362, 8, none⟩ = some (.slice A0_8 l0_8.length c0_8) ∧ w'.cell? ⟨gb362, 9, none⟩ = some (.slice A0_9 l0_9.length c0_9)) ∧ (Kd.R (Kd.int .u8) 5 w' w.heap.size (fun k_ => some k_ ≠ (s_.2 : Value).ownBlock) s_.1 t372) ∧ (Kd.R (Kd.int .u8) 5 w' w.heap.size (fun k_ => some k_ ≠ (s_.1 : Value).ownBlock) s_.2 y375) ∧ (w'.heap[gb362]? = some (.cells #[.int .u8 a0_0, .int .u8 a0_1, .int .u8 a0_2, .int .u16 a0_3, .int .u8 a0_4, .int .u16 a0_5, .int .u32 a0_6, .int .u32 a0_7, .slice A0_8 l0_8.length c0_8, .slice A0_9 l0_9.length c0_9] 30 (0, 0))) ∧ (Below w.heap.size w w')) ?_ ?_
          rotate_left
          ·intro hCont
           refine two_ (i := 8) (j := 13) (Ni := some 64) (Nj := some 69) #[true, true, true, true, true, true, true, true, true, true, true, true, true, false, false, false] #[true, true, true, true, true, true, true, true, false, true, true, true, true, true, false, false] rfl rfl rfl rfl (two_of HT_.out (by kernel_rfl)) (by decide) (by decide) (fun K hK => ?_) (fun K hK => ?_)
           ·skip
            refine goes_ Try.func27 (by kernel_rfl) rfl #[.slice Ao35 t369.length co35, .int .u16 (Go.bits .or .u16 (IntKind.u16.wrap ((IntKind.u16.wrap (a0_4)) * 8192)) a0_5)] (by rfl) rfl rfl (by (try simp only [List.map_toArray, List.map_cons, List.map_nil]); first | done | rfl | (simp only [List.length_drop, List.length_take]; rfl) | (go_simp; done) | (simp [Act.eval, IntKind.signed]; done) | (simp [Act.eval, IntKind.signed]; rfl)) ?_
            with_reducible refine (lychref1_Put16.calls (fun k_ => some k_ = (.slice Ao35 t369.length co35 : Value).ownBlock) (.slice Ao35 t369.length co35) t369 (Go.bits .or .u16 (IntKind.u16.wrap ((IntKind.u16.wrap (a0_4)) * 8192)) a0_5) t372 w _ ?side1 ?side2 A16.out).mono ?_
            (case side1 => repeat (first | (with_reducible first | exact HB.out | apply below_alloc | apply pw_below_drewN | apply below_drew1 | refine below_set ?_ GE362.out) | exact HB.out))
            (case side2 => exact Kd.R_tight rfl HO371.out)
            rintro e w37 ⟨v373, rfl, ho0, hb, hkp⟩
            refine ⟨_, rfl, ?_⟩
            have n0_ := Aside0.mk (blk_kept (by (with_reducible repeat (first | refine blk_drewN ?_ _ | refine blk_drew ?_ | refine blk_alloc ?_ _)); exact BK362.out) hkp (fun hs_ => (fun e_ => (Kd.R_ne HO371.out BK362.out (by decide)) e_) hs_))
            have n1_ := Aside0.mk (Kd.R_mono (ok' := fun k_ => True) ho0 (fun k_ hk_ => trivial))
            have n2_ := Aside0.mk (hb)
            clear BK362
            clear HB
            clear HO371
            have BK362 := n0_
            have HO374 := n1_
            have HB := n2_
            clear n0_ n1_ n2_
            (try clear hb)
            (try clear hkp)
            (try clear ho0)
            refine hK.out _ _ ⟨(blk_cell BK362.out 0).trans rfl, (blk_cell BK362.out 1).trans rfl, (blk_cell BK362.out 2).trans rfl, (blk_cell BK362.out 3).trans rfl, (blk_cell BK362.out 4).trans rfl, (blk_cell BK362.out 5).trans rfl, (blk_cell BK362.out 6).trans rfl, (blk_cell BK362.out 7).trans rfl, (blk_cell BK362.out 8).trans rfl, (blk_cell BK362.out 9).trans rfl⟩ (fun hHeld => ?_)
            clear hK K
            refine norm_ (a' := ?_) ?_ ?_
            rotate_left
            ·show Act.put _ (some 64) _ = _
             simp only [Act.put, List.setIfInBounds_toArray, List.set_cons_zero, List.set_cons_succ, i64_w, i32_w]
             rfl
            refine one_ (i := 13) (N := some 69) #[true, true, true, true, true, true, true, true, true, true, true, true, true, true, false, false] rfl rfl (one_of HT_.out (by kernel_rfl)) (by decide) (fun K hK => ?_)
            refine Kd.R_lit_step (Kd.int .u8) _ 5 ?hg (N := 69) ?hd (xs := ([a0_1, a0_2, 0, 0] : List Int)) (inner := [.int .u8 a0_1, .int .u8 a0_2, .int .u8 0, .int .u8 0]) (ok := fun _ => True) (okp := fun _ => True) ?hr ?hp (fun _ hk => hk) trivial (Below.refl _ _) (Nat.le_refl _) (by simp) ?_; (case hd => rfl); (case hg => rfl); (case hr => first | (go_simp; done) | (go_simp; rfl)); (case hp => exact (Reps.one (show Kd.M (Kd.int .u8) _ _ _ a0_1 [.int .u8 a0_1] from rfl) (Reps.one (show Kd.M (Kd.int .u8) _ _ _ a0_2 [.int .u8 a0_2] from rfl) (Reps.one (show Kd.M (Kd.int .u8) _ _ _ 0 [.int .u8 0] from rfl) (Reps.one (show Kd.M (Kd.int .u8) _ _ _ 0 [.int .u8 0] from rfl) (Reps.none _ _))))))
            intro v376 w38 ho39 hb hg_ hnew_
            clear hg_ hnew_
            (first | rw [← Ny375.out] at ho39 | (simp only [Int.reduceToNat] at ho39; rw [← Ny375.out] at ho39))
            have n0_ := Aside0.mk (Kd.R_elder' (by (with_reducible repeat (first | apply Kd.R_alloc | apply Kd.R_drewN | apply Kd.R_drew)); exact HO374.out) (Kd.R_base ho39) hb)
            have n1_ := Aside0.mk (Kd.R_lower (Kd.R_new' ho39 (Kd.R_lt (by (with_reducible repeat (first | apply Kd.R_alloc | apply Kd.R_drewN | apply Kd.R_drew)); exact HO374.out))) (below_size (by repeat (first | (with_reducible first | exact HB.out | apply below_alloc | apply pw_below_drewN | apply below_drew1 | refine below_set ?_ GE362.out) | exact HB.out))))
            have n2_ := Aside0.mk (blk_below (g := gb362) (o := .cells #[.int .u8 a0_0, .int .u8 a0_1, .int .u8 a0_2, .int .u16 a0_3, .int .u8 a0_4, .int .u16 a0_5, .int .u32 a0_6, .int .u32 a0_7, .slice A0_8 l0_8.length c0_8, .slice A0_9 l0_9.length c0_9] 30 (0, 0)) (by (with_reducible repeat (first | refine blk_drewN ?_ _ | refine blk_drew ?_ | refine blk_alloc ?_ _)); exact BK362.out) hb)
            have n3_ := Aside0.mk (below_step (by repeat (first | (with_reducible first | exact HB.out | apply below_alloc | apply pw_below_drewN | apply below_drew1 | refine below_set ?_ GE362.out) | exact HB.out)) hb)
            clear HO374
            clear BK362
            clear HB
            have HO374 := n0_
            have HO377 := n1_
            have BK362 := n2_
            have HB := n3_
            clear n0_ n1_ n2_ n3_
            clear hb ho39
            refine hK.out _ _ ⟨(blk_cell BK362.out 0).trans rfl, (blk_cell BK362.out 1).trans rfl, (blk_cell BK362.out 2).trans rfl, (blk_cell BK362.out 3).trans rfl, (blk_cell BK362.out 4).trans rfl, (blk_cell BK362.out 5).trans rfl, (blk_cell BK362.out 6).trans rfl, (blk_cell BK362.out 7).trans rfl, (blk_cell BK362.out 8).trans rfl, (blk_cell BK362.out 9).trans rfl⟩ (fun hHeld => ?_)
            clear hK K
            refine norm_ (a' := ?_) ?_ ?_
            rotate_left
            ·show Act.put _ (some 69) _ = _
             simp only [Act.put, List.setIfInBounds_toArray, List.set_cons_zero, List.set_cons_succ, i64_w, i32_w]
             rfl
            exact norm_ (by simp only [putAll, Act.put, List.setIfInBounds_toArray, List.set_cons_zero, List.set_cons_succ]) (hCont (v373, v376) _ ⟨hHeld, (by (with_reducible repeat (first | apply Kd.R_alloc | apply Kd.R_drewN | apply Kd.R_drew)); exact Kd.R_mono HO374.out (fun _ hk => hk.2)), (by (with_reducible repeat (first | apply Kd.R_alloc | apply Kd.R_drewN | apply Kd.R_drew)); exact Kd.R_mono HO377.out (fun _ hk => hk.2)), (by (with_reducible repeat (first | refine blk_drewN ?_ _ | refine blk_drew ?_ | refine blk_alloc ?_ _)); exact BK362.out), (by repeat (first | (with_reducible first | exact HB.out | apply below_alloc | apply pw_below_drewN | apply below_drew1 | refine below_set ?_ GE362.out) | exact HB.out))⟩)
           ·skip
            refine Kd.R_lit_step (Kd.int .u8) _ 5 ?hg (N := 69) ?hd (xs := ([a0_1, a0_2, 0, 0] : List Int)) (inner := [.int .u8 a0_1, .int .u8 a0_2, .int .u8 0, .int .u8 0]) (ok := fun _ => True) (okp := fun _ => True) ?hr ?hp (fun _ hk => hk) trivial (Below.refl _ _) (Nat.le_refl _) (by simp) ?_; (case hd => rfl); (case hg => rfl); (case hr => first | (go_simp; done) | (go_simp; rfl)); (case hp => exact (Reps.one (show Kd.M (Kd.int .u8) _ _ _ a0_1 [.int .u8 a0_1] from rfl) (Reps.one (show Kd.M (Kd.int .u8) _ _ _ a0_2 [.int .u8 a0_2] from rfl) (Reps.one (show Kd.M (Kd.int .u8) _ _ _ 0 [.int .u8 0] from rfl) (Reps.one (show Kd.M (Kd.int .u8) _ _ _ 0 [.int .u8 0] from rfl) (Reps.none _ _))))))
            intro v376 w37 ho38 hb hg_ hnew_
            clear hg_ hnew_
            (first | rw [← Ny375.out] at ho38 | (simp only [Int.reduceToNat] at ho38; rw [← Ny375.out] at ho38))
            have n0_ := Aside0.mk (Kd.R_elder' (by (with_reducible repeat (first | apply Kd.R_alloc | apply Kd.R_drewN | apply Kd.R_drew)); exact HO371.out) (Kd.R_base ho38) hb)
            have n1_ := Aside0.mk (Kd.R_lower (Kd.R_new' ho38 (Kd.R_lt (by (with_reducible repeat (first | apply Kd.R_alloc | apply Kd.R_drewN | apply Kd.R_drew)); exact HO371.out))) (below_size (by repeat (first | (with_reducible first | exact HB.out | apply below_alloc | apply pw_below_drewN | apply below_drew1 | refine below_set ?_ GE362.out) | exact HB.out))))
            have n2_ := Aside0.mk (blk_below (g := gb362) (o := .cells #[.int .u8 a0_0, .int .u8 a0_1, .int .u8 a0_2, .int .u16 a0_3, .int .u8 a0_4, .int .u16 a0_5, .int .u32 a0_6, .int .u32 a0_7, .slice A0_8 l0_8.length c0_8, .slice A0_9 l0_9.length c0_9] 30 (0, 0)) (by (with_reducible repeat (first | refine blk_drewN ?_ _ | refine blk_drew ?_ | refine blk_alloc ?_ _)); exact BK362.out) hb)
            have n3_ := Aside0.mk (below_step (by repeat (first | (with_reducible first | exact HB.out | apply below_alloc | apply pw_below_drewN | apply below_drew1 | refine below_set ?_ GE362.out) | exact HB.out)) hb)
            clear HO371
            clear BK362
            clear HB
            have HO371 := n0_
            have HO377 := n1_
            have BK362 := n2_
            have HB := n3_
            clear n0_ n1_ n2_ n3_
            clear hb ho38
            refine hK.out _ _ ⟨(blk_cell BK362.out 0).trans rfl, (blk_cell BK362.out 1).trans rfl, (blk_cell BK362.out 2).trans rfl, (blk_cell BK362.out 3).trans rfl, (blk_cell BK362.out 4).trans rfl, (blk_cell BK362.out 5).trans rfl, (blk_cell BK362.out 6).trans rfl, (blk_cell BK362.out 7).trans rfl, (blk_cell BK362.out 8).trans rfl, (blk_cell BK362.out 9).trans rfl⟩ (fun hHeld => ?_)
            clear hK K
            refine norm_ (a' := ?_) ?_ ?_
            rotate_left
            ·show Act.put _ (some 69) _ = _
             simp only [Act.put, List.setIfInBounds_toArray, List.set_cons_zero, List.set_cons_succ, i64_w, i32_w]
             rfl
            refine one_ (i := 8) (N := some 64) #[true, true, true, true, true, true, true, true, true, true, true, true, true, true, false, false] rfl rfl (one_of HT_.out (by kernel_rfl)) (by decide) (fun K hK => ?_)
            refine goes_ Try.func27 (by kernel_rfl) rfl #[.slice Ao35 t369.length co35, .int .u16 (Go.bits .or .u16 (IntKind.u16.wrap ((IntKind.u16.wrap (a0_4)) * 8192)) a0_5)] (by rfl) rfl rfl (by (try simp only [List.map_toArray, List.map_cons, List.map_nil]); first | done | rfl | (simp only [List.length_drop, List.length_take]; rfl) | (go_simp; done) | (simp [Act.eval, IntKind.signed]; done) | (simp [Act.eval, IntKind.signed]; rfl)) ?_
            with_reducible refine (lychref1_Put16.calls (fun k_ => some k_ = (.slice Ao35 t369.length co35 : Value).ownBlock) (.slice Ao35 t369.length co35) t369 (Go.bits .or .u16 (IntKind.u16.wrap ((IntKind.u16.wrap (a0_4)) * 8192)) a0_5) t372 w _ ?side1 ?side2 A16.out).mono ?_
            (case side1 => repeat (first | (with_reducible first | exact HB.out | apply below_alloc | apply pw_below_drewN | apply below_drew1 | refine below_set ?_ GE362.out) | exact HB.out))
            (case side2 => exact Kd.R_tight rfl HO371.out)
            rintro e w39 ⟨v373, rfl, ho0, hb, hkp⟩
            refine ⟨_, rfl, ?_⟩
            have n0_ := Aside0.mk (blk_kept (by (with_reducible repeat (first | refine blk_drewN ?_ _ | refine blk_drew ?_ | refine blk_alloc ?_ _)); exact BK362.out) hkp (fun hs_ => (fun e_ => (Kd.R_ne HO371.out BK362.out (by decide)) e_) hs_))
            have n1_ := Aside0.mk (Kd.R_mono (ok' := fun k_ => some k_ ≠ (v373 : Value).ownBlock) (Kd.R_keptB (HO377.out) hkp (fun k_ hk_ hs_ => (hk_.2) hs_)) (fun k_ hk_ => fun e_ => Or.elim (ho0.1 k_ e_.symm) (fun hs_ => hk_.2.1 hs_) (fun hn_ => Nat.not_le.2 hk_.2.2 hn_)))
            have n2_ := Aside0.mk (Kd.R_mono (ok' := fun k_ => some k_ ≠ (v376 : Value).ownBlock) ho0 (fun k_ hk_ => Or.elim hk_ (fun hs_ => fun e_ => (((HO377.out).1 k_ e_.symm).2) hs_) (fun hn_ => (Kd.fresh' (Kd.R_lt (by (with_reducible repeat (first | apply Kd.R_alloc | apply Kd.R_drewN | apply Kd.R_drew)); exact HO377.out)) k_ hn_))))
            have n3_ := Aside0.mk (hb)
            clear BK362
            clear HO377
            clear HB
            clear HO371
            have BK362 := n0_
            have HO377 := n1_
            have HO374 := n2_
            have HB := n3_
            clear n0_ n1_ n2_ n3_
            (try clear hb)
            (try clear hkp)
            (try clear ho0)
            refine hK.out _ _ ⟨(blk_cell BK362.out 0).trans rfl, (blk_cell BK362.out 1).trans rfl, (blk_cell BK362.out 2).trans rfl, (blk_cell BK362.out 3).trans rfl, (blk_cell BK362.out 4).trans rfl, (blk_cell BK362.out 5).trans rfl, (blk_cell BK362.out 6).trans rfl, (blk_cell BK362.out 7).trans rfl, (blk_cell BK362.out 8).trans rfl, (blk_cell BK362.out 9).trans rfl⟩ (fun hHeld => ?_)
            clear hK K
            refine norm_ (a' := ?_) ?_ ?_
            rotate_left
            ·show Act.put _ (some 64) _ = _
             simp only [Act.put, List.setIfInBounds_toArray, List.set_cons_zero, List.set_cons_succ, i64_w, i32_w]
             rfl
            exact norm_ (by simp only [putAll, Act.put, List.setIfInBounds_toArray, List.set_cons_zero, List.set_cons_succ]) (hCont (v373, v376) _ ⟨hHeld, (by (with_reducible repeat (first | apply Kd.R_alloc | apply Kd.R_drewN | apply Kd.R_drew)); exact HO374.out), (by (with_reducible repeat (first | apply Kd.R_alloc | apply Kd.R_drewN | apply Kd.R_drew)); exact HO377.out), (by (with_reducible repeat (first | refine blk_drewN ?_ _ | refine blk_drew ?_ | refine blk_alloc ?_ _)); exact BK362.out), (by repeat (first | (with_reducible first | exact HB.out | apply below_alloc | apply pw_below_drewN | apply below_drew1 | refine below_set ?_ GE362.out) | exact HB.out))⟩)
          rintro ⟨v373, v376⟩ w40 ⟨hS_, h0_, h1_, h2_, h3_⟩
          have n0_ : Aside0 (Kd.R (Kd.int .u8) 5 w40 w.heap.size (fun k_ => some k_ ≠ (v376 : Value).ownBlock) v373 t372) := ⟨h0_⟩
          have n1_ : Aside0 (Kd.R (Kd.int .u8) 5 w40 w.heap.size (fun k_ => some k_ ≠ (v373 : Value).ownBlock) v376 y375) := ⟨h1_⟩
          have n2_ : Aside0 (w40.heap[gb362]? = some (.cells #[.int .u8 a0_0, .int .u8 a0_1, .int .u8 a0_2, .int .u16 a0_3, .int .u8 a0_4, .int .u16 a0_5, .int .u32 a0_6, .int .u32 a0_7, .slice A0_8 l0_8.length c0_8, .slice A0_9 l0_9.length c0_9] 30 (0, 0))) := ⟨h2_⟩
          have n3_ : Aside0 (Below w.heap.size w w40) := ⟨h3_⟩
          clear HO371
          clear BK362
          clear HB
          clear h0_ h1_ h2_ h3_
          have HO374 := n0_
          have HO377 := n1_
          have BK362 := n2_
          have HB := n3_
          clear n0_ n1_ n2_ n3_
          have hHeld : w40.cell? ⟨gb362, 0, none⟩ = some (.int .u8 a0_0) ∧ w40.cell? ⟨gb362, 1, none⟩ = some (.int .u8 a0_1) ∧ w40.cell? ⟨gb362, 2, none⟩ = some (.int .u8 a0_2) ∧ w40.cell? ⟨gb362, 3, none⟩ = some (.int .u16 a0_3) ∧ w40.cell? ⟨gb362, 4, none⟩ = some (.int .u8 a0_4) ∧ w40.cell? ⟨gb362, 5, none⟩ = some (.int .u16 a0_5) ∧ w40.cell? ⟨gb362, 6, none⟩ = some (.int .u32 a0_6) ∧ w40.cell? ⟨gb362, 7, none⟩ = some (.int .u32 a0_7) ∧ w40.cell? ⟨gb362, 8, none⟩ = some (.slice A0_8 l0_8.length c0_8) ∧ w40.cell? ⟨gb362, 9, none⟩ = some (.slice A0_9 l0_9.length c0_9) := hS_
          obtain ⟨Ao42, co42, eo42⟩ := Kd.R_slice HO377.out
          (first | subst eo42 | (injection eo42 with f1_ f2_ f3_; have f4_ := f1_.symm; have f5_ := f3_.symm; clear f1_ f2_ f3_; subst f4_; subst f5_))
          refine norm_ (a' := ?_) ?_ ?_
          rotate_left
          ·simp only [putAll, Act.put, List.setIfInBounds_toArray, List.set_cons_zero, List.set_cons_succ]
           rfl
          refine one_ (i := 14) (N := some 70) #[true, true, true, true, true, true, true, true, true, true, true, true, true, true, true, false] rfl rfl (one_of HT_.out (by kernel_rfl)) (by decide) (fun K hK => ?_)
          refine Kd.R_append_rows_step (Kd.int .u8) (w0 := w) w.heap.size (by rfl) (.tmp 64) (.tmp 69) 22 5 (.int .u8 0) 1 rfl Try.underlying22 info5 rfl (by decide) (by omega) v373 t372 y375 _ _ _ (fun k_ => some k_ ≠ (.slice Ao42 y375.length co42 : Value).ownBlock) (fun _ => False) rfl rfl ?aO ?aR (fun _ _ h => h) (fun _ h => h.elim) ?aF ?aB ?aS ?aL ?_
          (case aR => repeat (first | exact (Kd.R_reads' HO377.out).2.2 | (with_reducible refine Kd.C_alloc ?_ _) | (with_reducible refine Kd.C_drewN ?_ _) | (with_reducible refine Kd.C_drew ?_)))
          (case aB => exact (by repeat (first | (with_reducible first | exact HB.out | apply below_alloc | apply pw_below_drewN | apply below_drew1 | refine below_set ?_ GE362.out) | exact HB.out)))
          (case aF => exact (fun k_ hk => Kd.fresh' (Kd.R_lt (by (with_reducible repeat (first | apply Kd.R_alloc | apply Kd.R_drewN | apply Kd.R_drew)); exact HO377.out)) k_ hk))
          (case aO => exact (by (with_reducible repeat (first | apply Kd.R_alloc | apply Kd.R_drewN | apply Kd.R_drew)); exact HO374.out))
          (case aS => exact (below_size (by repeat (first | (with_reducible first | exact HB.out | apply below_alloc | apply pw_below_drewN | apply below_drew1 | refine below_set ?_ GE362.out) | exact HB.out))))
          (case aL => have := LMc17.out; omega)
          intro v379 w41 ho hb hg hat
          rw [← Ny378.out] at ho
          have n0_ := Aside0.mk (blk_grown (g := gb362) (o := .cells #[.int .u8 a0_0, .int .u8 a0_1, .int .u8 a0_2, .int .u16 a0_3, .int .u8 a0_4, .int .u16 a0_5, .int .u32 a0_6, .int .u32 a0_7, .slice A0_8 l0_8.length c0_8, .slice A0_9 l0_9.length c0_9] 30 (0, 0)) (by (with_reducible repeat (first | refine blk_drewN ?_ _ | refine blk_drew ?_ | refine blk_alloc ?_ _)); exact BK362.out) hg (Kd.R_ne HO374.out BK362.out (by decide)))
          have n1_ := Aside0.mk (Kd.R_after (ok := (fun _ => True)) (by (with_reducible repeat (first | apply Kd.R_alloc | apply Kd.R_drewN | apply Kd.R_drew)); exact Kd.R_mono HO377.out (fun _ hk => ⟨trivial, hk⟩)) hg hat)
          have n2_ := Aside0.mk (hb)
          have n3_ := Aside0.mk (ho)
          clear BK362
          clear HO377
          clear HB
          clear HO374
          have BK362 := n0_
          have HO377 := n1_
          have HB := n2_
          have HO380 := n3_
          clear n0_ n1_ n2_ n3_
          clear ho hb hg hat
          refine hK.out _ _ ⟨(blk_cell BK362.out 0).trans rfl, (blk_cell BK362.out 1).trans rfl, (blk_cell BK362.out 2).trans rfl, (blk_cell BK362.out 3).trans rfl, (blk_cell BK362.out 4).trans rfl, (blk_cell BK362.out 5).trans rfl, (blk_cell BK362.out 6).trans rfl, (blk_cell BK362.out 7).trans rfl, (blk_cell BK362.out 8).trans rfl, (blk_cell BK362.out 9).trans rfl⟩ (fun hHeld => ?_)
          clear hK K
          refine norm_ (a' := ?_) ?_ ?_
          rotate_left
          ·show Act.put _ (some 70) _ = _
           simp only [Act.put, List.setIfInBounds_toArray, List.set_cons_zero, List.set_cons_succ, i64_w, i32_w]
           rfl
          refine pure_ (i := 15) (N := some 5) (v := ?_) (a' := ?_) #[true, true, true, true, true, true, true, true, true, true, true, true, true, true, true, true] rfl rfl (any_of HT_.out (by kernel_rfl)) (fun _ _ _ h => h) (Or.inl ⟨by rfl, ?_⟩) ?_ ?_
          rotate_left
          ·intro w'
           go_simp
           with_reducible rfl
          rotate_left
          ·simp only [Act.put, List.setIfInBounds_toArray, List.set_cons_zero, List.set_cons_succ, i64_w, i32_w]
           rfl
          refine done_ (done_of HT_.out (by kernel_rfl)) ?_
          try go_wp2
          have n0_ := Aside0.mk (Kd.R_drew HO377.out)
          have n1_ := Aside0.mk (Kd.R_drew HO380.out)
          have n2_ := Aside0.mk (blk_drew BK362.out)
          have n3_ := Aside0.mk (below_drew1 HB.out)
          clear HO377
          clear HO380
          clear BK362
          clear HB
          have HO377 := n0_
          have HO380 := n1_
          have BK362 := n2_
          have HB := n3_
          clear n0_ n1_ n2_ n3_
          obtain ⟨Ao44, co44, eo44⟩ := Kd.R_slice HO380.out
          (first | subst eo44 | (injection eo44 with f1_ f2_ f3_; have f4_ := f1_.symm; have f5_ := f3_.symm; clear f1_ f2_ f3_; subst f4_; subst f5_))
          refine start_ (n := 11) (S := fun w' => w'.cell? ⟨gb362, 0, none⟩ = some (.int .u8 a0_0) ∧ w'.cell? ⟨gb362, 1, none⟩ = some (.int .u8 a0_1) ∧ w'.cell? ⟨gb362, 2, none⟩ = some (.int .u8 a0_2) ∧ w'.cell? ⟨gb362, 3, none⟩ = some (.int .u16 a0_3) ∧ w'.cell? ⟨gb362, 4, none⟩ = some (.int .u8 a0_4) ∧ w'.cell? ⟨gb362, 5, none⟩ = some (.int .u16 a0_5) ∧ w'.cell? ⟨gb362, 6, none⟩ = some (.int .u32 a0_6) ∧ w'.cell? ⟨gb362, 7, none⟩ = some (.int .u32 a0_7) ∧ w'.cell? ⟨gb362, 8, none⟩ = some (.slice A0_8 l0_8.length c0_8) ∧ w'.cell? ⟨gb362, 9, none⟩ = some (.slice A0_9 l0_9.length c0_9)) (ds := []) #[false, false, false, false, false, false, false, false, false, false, false] (by kernel_rfl) rfl rfl ⟨(blk_cell BK362.out 0).trans rfl, (blk_cell BK362.out 1).trans rfl, (blk_cell BK362.out 2).trans rfl, (blk_cell BK362.out 3).trans rfl, (blk_cell BK362.out 4).trans rfl, (blk_cell BK362.out 5).trans rfl, (blk_cell BK362.out 6).trans rfl, (blk_cell BK362.out 7).trans rfl, (blk_cell BK362.out 8).trans rfl, (blk_cell BK362.out 9).trans rfl⟩ (fun hHeld => ?_); refine with_tabW lychref1_IpBytes.tab9 lychref1_IpBytes.bits9 (fun HT_ HW_ => ?_)
          generalize w41.drew = w43 at HO377 HO380 BK362 HB hHeld ⊢
          refine pure_ (i := 0) (N := some 71) (v := ?_) (a' := ?_) #[true, false, false, false, false, false, false, false, false, false, false] rfl rfl (any_of HT_.out (by kernel_rfl)) (fun _ _ _ h => h) (Or.inl ⟨by rfl, ?_⟩) ?_ ?_
          rotate_left
          ·intro w'
           go_simp
           with_reducible rfl
          rotate_left
          ·simp only [Act.put, List.setIfInBounds_toArray, List.set_cons_zero, List.set_cons_succ, i64_w, i32_w]
           rfl
          refine pure_ (i := 1) (N := some 72) (v := ?_) (a' := ?_) #[true, true, false, false, false, false, false, false, false, false, false] rfl rfl (any_of HT_.out (by kernel_rfl)) (fun _ _ _ h => h) (Or.inl ⟨by rfl, ?_⟩) ?_ ?_
          rotate_left
          ·intro w'
           go_simp
           with_reducible rfl
          rotate_left
          ·simp only [Act.put, List.setIfInBounds_toArray, List.set_cons_zero, List.set_cons_succ, i64_w, i32_w]
           rfl
          refine pure_ (i := 4) (N := some 75) (v := ?_) (a' := ?_) #[true, true, false, false, true, false, false, false, false, false, false] rfl rfl (any_of HT_.out (by kernel_rfl)) (fun _ _ _ h => h) (Or.inl ⟨by rfl, ?_⟩) ?_ ?_
          rotate_left
          ·intro w'
           go_simp
           with_reducible rfl
          rotate_left
          ·simp only [Act.put, List.setIfInBounds_toArray, List.set_cons_zero, List.set_cons_succ, i64_w, i32_w]
           rfl
          refine pure_ (i := 7) (N := some 78) (v := ?_) (a' := ?_) #[true, true, false, false, true, false, false, true, false, false, false] rfl rfl (any_of HT_.out (by kernel_rfl)) (fun _ _ _ h => h) (Or.inl ⟨by rfl, ?_⟩) ?_ ?_
          rotate_left
          ·intro w'
           go_simp
           with_reducible rfl
          rotate_left
          ·simp only [Act.put, List.setIfInBounds_toArray, List.set_cons_zero, List.set_cons_succ, i64_w, i32_w]
           rfl
          refine take_ (i := 2) (N := some 73) (v := ?_) (a' := ?_) #[true, true, true, false, true, false, false, true, false, false, false] rfl rfl (take_ofW HT_.out HW_.out (by kernel_rfl)) (fun _ _ _ h => h) (Or.inl ⟨by rfl, ?_⟩) hHeld ?_ ?_
          rotate_left
          ·rintro w' ⟨s0, s1, s2, s3, s4, s5, s6, s7, s8, s9⟩
           go_simp
           with_reducible rfl
          rotate_left
          ·simp only [Act.put, List.setIfInBounds_toArray, List.set_cons_zero, List.set_cons_succ, i64_w, i32_w]
           rfl
          refine take_ (i := 5) (N := some 76) (v := ?_) (a' := ?_) #[true, true, true, false, true, true, false, true, false, false, false] rfl rfl (take_ofW HT_.out HW_.out (by kernel_rfl)) (fun _ _ _ h => h) (Or.inl ⟨by rfl, ?_⟩) hHeld ?_ ?_
          rotate_left
          ·rintro w' ⟨s0, s1, s2, s3, s4, s5, s6, s7, s8, s9⟩
           go_simp
           with_reducible rfl
          rotate_left
          ·simp only [Act.put, List.setIfInBounds_toArray, List.set_cons_zero, List.set_cons_succ, i64_w, i32_w]
           rfl
          refine take_ (i := 8) (N := some 79) (v := ?_) (a' := ?_) #[true, true, true, false, true, true, false, true, true, false, false] rfl rfl (take_ofW HT_.out HW_.out (by kernel_rfl)) (fun _ _ _ h => h) (Or.inl ⟨by rfl, ?_⟩) hHeld ?_ ?_
          rotate_left
          ·rintro w' ⟨s0, s1, s2, s3, s4, s5, s6, s7, s8, s9⟩
           go_simp
           with_reducible rfl
          rotate_left
          ·simp only [Act.put, List.setIfInBounds_toArray, List.set_cons_zero, List.set_cons_succ, i64_w, i32_w]
           rfl
          refine one_ (i := 3) (N := some 74) #[true, true, true, true, true, true, false, true, true, false, false] rfl rfl (one_of HT_.out (by kernel_rfl)) (by decide) (fun K hK => ?_)
          refine goes_ Try.func28 (by kernel_rfl) rfl #[.slice Ao44 y378.length co44, .int .u32 a0_6] (by rfl) rfl rfl (by (try simp only [List.map_toArray, List.map_cons, List.map_nil]); first | done | rfl | (simp only [List.length_drop, List.length_take]; rfl) | (go_simp; done) | (simp [Act.eval, IntKind.signed]; done) | (simp [Act.eval, IntKind.signed]; rfl)) ?_
          with_reducible refine (lychref1_Put32.calls (fun k_ => some k_ = (.slice Ao44 y378.length co44 : Value).ownBlock) (.slice Ao44 y378.length co44) y378 a0_6 t381 w _ ?side1 ?side2 A18.out).mono ?_
          (case side1 => repeat (first | (with_reducible first | exact HB.out | apply below_alloc | apply pw_below_drewN | apply below_drew1 | refine below_set ?_ GE362.out) | exact HB.out))
          (case side2 => exact Kd.R_tight rfl HO380.out)
          rintro e w45 ⟨v382, rfl, ho0, hb, hkp⟩
          refine ⟨_, rfl, ?_⟩
          have n0_ := Aside0.mk (blk_kept (by (with_reducible repeat (first | refine blk_drewN ?_ _ | refine blk_drew ?_ | refine blk_alloc ?_ _)); exact BK362.out) hkp (fun hs_ => (fun e_ => (Kd.R_ne HO380.out BK362.out (by decide)) e_) hs_))
          have n1_ := Aside0.mk (Kd.R_mono (ok' := fun k_ => some k_ ≠ (v382 : Value).ownBlock) (Kd.R_keptB (HO377.out) hkp (fun k_ hk_ hs_ => (hk_.2) hs_)) (fun k_ hk_ => fun e_ => Or.elim (ho0.1 k_ e_.symm) (fun hs_ => hk_.2.1 hs_) (fun hn_ => Nat.not_le.2 hk_.2.2 hn_)))
          have n2_ := Aside0.mk (Kd.R_mono (ok' := fun k_ => some k_ ≠ (.slice Ao42 y375.length co42 : Value).ownBlock) ho0 (fun k_ hk_ => Or.elim hk_ (fun hs_ => fun e_ => (((HO377.out).1 k_ e_.symm).2) hs_) (fun hn_ => (Kd.fresh' (Kd.R_lt (by (with_reducible repeat (first | apply Kd.R_alloc | apply Kd.R_drewN | apply Kd.R_drew)); exact HO377.out)) k_ hn_))))
          have n3_ := Aside0.mk (hb)
          clear BK362
          clear HO377
          clear HB
          clear HO380
          have BK362 := n0_
          have HO377 := n1_
          have HO383 := n2_
          have HB := n3_
          clear n0_ n1_ n2_ n3_
          (try clear hb)
          (try clear hkp)
          (try clear ho0)
          obtain ⟨Ao46, co46, eo46⟩ := Kd.R_slice HO383.out
          (first | subst eo46 | (injection eo46 with f1_ f2_ f3_; have f4_ := f1_.symm; have f5_ := f3_.symm; clear f1_ f2_ f3_; subst f4_; subst f5_))
          refine hK.out _ _ ⟨(blk_cell BK362.out 0).trans rfl, (blk_cell BK362.out 1).trans rfl, (blk_cell BK362.out 2).trans rfl, (blk_cell BK362.out 3).trans rfl, (blk_cell BK362.out 4).trans rfl, (blk_cell BK362.out 5).trans rfl, (blk_cell BK362.out 6).trans rfl, (blk_cell BK362.out 7).trans rfl, (blk_cell BK362.out 8).trans rfl, (blk_cell BK362.out 9).trans rfl⟩ (fun hHeld => ?_)
          clear hK K
          refine norm_ (a' := ?_) ?_ ?_
          rotate_left
          ·show Act.put _ (some 74) _ = _
           simp only [Act.put, List.setIfInBounds_toArray, List.set_cons_zero, List.set_cons_succ, i64_w, i32_w]
           rfl
          refine one_ (i := 6) (N := some 77) #[true, true, true, true, true, true, true, true, true, false, false] rfl rfl (one_of HT_.out (by kernel_rfl)) (by decide) (fun K hK => ?_)
          refine goes_ Try.func28 (by kernel_rfl) rfl #[.slice Ao46 t381.length co46, .int .u32 a0_7] (by rfl) rfl rfl (by (try simp only [List.map_toArray, List.map_cons, List.map_nil]); first | done | rfl | (simp only [List.length_drop, List.length_take]; rfl) | (go_simp; done) | (simp [Act.eval, IntKind.signed]; done) | (simp [Act.eval, IntKind.signed]; rfl)) ?_
          with_reducible refine (lychref1_Put32.calls (fun k_ => some k_ = (.slice Ao46 t381.length co46 : Value).ownBlock) (.slice Ao46 t381.length co46) t381 a0_7 t384 w _ ?side1 ?side2 A19.out).mono ?_
          (case side1 => repeat (first | (with_reducible first | exact HB.out | apply below_alloc | apply pw_below_drewN | apply below_drew1 | refine below_set ?_ GE362.out) | exact HB.out))
          (case side2 => exact Kd.R_tight rfl HO383.out)
          rintro e w47 ⟨v385, rfl, ho0, hb, hkp⟩
          refine ⟨_, rfl, ?_⟩
          have n0_ := Aside0.mk (blk_kept (by (with_reducible repeat (first | refine blk_drewN ?_ _ | refine blk_drew ?_ | refine blk_alloc ?_ _)); exact BK362.out) hkp (fun hs_ => (fun e_ => (Kd.R_ne HO383.out BK362.out (by decide)) e_) hs_))
          have n1_ := Aside0.mk (Kd.R_mono (ok' := fun k_ => some k_ ≠ (v385 : Value).ownBlock) (Kd.R_keptB (HO377.out) hkp (fun k_ hk_ hs_ => (hk_) hs_)) (fun k_ hk_ => fun e_ => Or.elim (ho0.1 k_ e_.symm) (fun hs_ => hk_.2.1 hs_) (fun hn_ => Nat.not_le.2 hk_.2.2 hn_)))
          have n2_ := Aside0.mk (Kd.R_mono (ok' := fun k_ => some k_ ≠ (.slice Ao42 y375.length co42 : Value).ownBlock) ho0 (fun k_ hk_ => Or.elim hk_ (fun hs_ => fun e_ => (((HO377.out).1 k_ e_.symm)) hs_) (fun hn_ => (Kd.fresh' (Kd.R_lt (by (with_reducible repeat (first | apply Kd.R_alloc | apply Kd.R_drewN | apply Kd.R_drew)); exact HO377.out)) k_ hn_))))
          have n3_ := Aside0.mk (hb)
          clear BK362
          clear HO377
          clear HB
          clear HO383
          have BK362 := n0_
          have HO377 := n1_
          have HO386 := n2_
          have HB := n3_
          clear n0_ n1_ n2_ n3_
          (try clear hb)
          (try clear hkp)
          (try clear ho0)
          refine hK.out _ _ ⟨(blk_cell BK362.out 0).trans rfl, (blk_cell BK362.out 1).trans rfl, (blk_cell BK362.out 2).trans rfl, (blk_cell BK362.out 3).trans rfl, (blk_cell BK362.out 4).trans rfl, (blk_cell BK362.out 5).trans rfl, (blk_cell BK362.out 6).trans rfl, (blk_cell BK362.out 7).trans rfl, (blk_cell BK362.out 8).trans rfl, (blk_cell BK362.out 9).trans rfl⟩ (fun hHeld => ?_)
          clear hK K
          refine norm_ (a' := ?_) ?_ ?_
          rotate_left
          ·show Act.put _ (some 77) _ = _
           simp only [Act.put, List.setIfInBounds_toArray, List.set_cons_zero, List.set_cons_succ, i64_w, i32_w]
           rfl
          refine one_ (i := 9) (N := some 80) #[true, true, true, true, true, true, true, true, true, true, false] rfl rfl (one_of HT_.out (by kernel_rfl)) (by decide) (fun K hK => ?_)
          refine Kd.R_append_rows_step (Kd.int .u8) (w0 := w) w.heap.size (by rfl) (.tmp 77) (.tmp 79) 22 5 (.int .u8 0) 1 rfl Try.underlying22 info5 rfl (by decide) (by omega) v385 t384 l0_8 _ _ _ (fun k_ => some k_ ≠ (.slice Ao42 y375.length co42 : Value).ownBlock) (fun _ => False) rfl rfl ?aO ?aR (fun _ _ h => h) (fun _ h => h.elim) ?aF ?aB ?aS ?aL ?_
          (case aR => repeat (first | exact (Kd.C_below HR0_8.out HB.out) | (with_reducible refine Kd.C_alloc ?_ _) | (with_reducible refine Kd.C_drewN ?_ _) | (with_reducible refine Kd.C_drew ?_)))
          (case aB => exact (by repeat (first | (with_reducible first | exact HB.out | apply below_alloc | apply pw_below_drewN | apply below_drew1 | refine below_set ?_ GE362.out) | exact HB.out)))
          (case aF => exact (fun k_ hk => Kd.fresh' (Kd.R_lt (by (with_reducible repeat (first | apply Kd.R_alloc | apply Kd.R_drewN | apply Kd.R_drew)); exact HO377.out)) k_ hk))
          (case aO => exact (by (with_reducible repeat (first | apply Kd.R_alloc | apply Kd.R_drewN | apply Kd.R_drew)); exact HO386.out))
          (case aS => exact (below_size (by repeat (first | (with_reducible first | exact HB.out | apply below_alloc | apply pw_below_drewN | apply below_drew1 | refine below_set ?_ GE362.out) | exact HB.out))))
          (case aL => have := LMc20.out; omega)
          intro v388 w48 ho hb hg hat
          rw [← Ny387.out] at ho
          have n0_ := Aside0.mk (blk_grown (g := gb362) (o := .cells #[.int .u8 a0_0, .int .u8 a0_1, .int .u8 a0_2, .int .u16 a0_3, .int .u8 a0_4, .int .u16 a0_5, .int .u32 a0_6, .int .u32 a0_7, .slice A0_8 l0_8.length c0_8, .slice A0_9 l0_9.length c0_9] 30 (0, 0)) (by (with_reducible repeat (first | refine blk_drewN ?_ _ | refine blk_drew ?_ | refine blk_alloc ?_ _)); exact BK362.out) hg (Kd.R_ne HO386.out BK362.out (by decide)))
          have n1_ := Aside0.mk (Kd.R_after (ok := (fun _ => True)) (by (with_reducible repeat (first | apply Kd.R_alloc | apply Kd.R_drewN | apply Kd.R_drew)); exact Kd.R_mono HO377.out (fun _ hk => ⟨trivial, hk⟩)) hg hat)
          have n2_ := Aside0.mk (hb)
          have n3_ := Aside0.mk (ho)
          clear BK362
          clear HO377
          clear HB
          clear HO386
          have BK362 := n0_
          have HO377 := n1_
          have HB := n2_
          have HO389 := n3_
          clear n0_ n1_ n2_ n3_
          clear ho hb hg hat
          refine hK.out _ _ ⟨(blk_cell BK362.out 0).trans rfl, (blk_cell BK362.out 1).trans rfl, (blk_cell BK362.out 2).trans rfl, (blk_cell BK362.out 3).trans rfl, (blk_cell BK362.out 4).trans rfl, (blk_cell BK362.out 5).trans rfl, (blk_cell BK362.out 6).trans rfl, (blk_cell BK362.out 7).trans rfl, (blk_cell BK362.out 8).trans rfl, (blk_cell BK362.out 9).trans rfl⟩ (fun hHeld => ?_)
          clear hK K
          refine norm_ (a' := ?_) ?_ ?_
          rotate_left
          ·show Act.put _ (some 80) _ = _
           simp only [Act.put, List.setIfInBounds_toArray, List.set_cons_zero, List.set_cons_succ, i64_w, i32_w]
           rfl
          refine pure_ (i := 10) (N := some 5) (v := ?_) (a' := ?_) #[true, true, true, true, true, true, true, true, true, true, true] rfl rfl (any_of HT_.out (by kernel_rfl)) (fun _ _ _ h => h) (Or.inl ⟨by rfl, ?_⟩) ?_ ?_
          rotate_left
          ·intro w'
           go_simp
           with_reducible rfl
          rotate_left
          ·simp only [Act.put, List.setIfInBounds_toArray, List.set_cons_zero, List.set_cons_succ, i64_w, i32_w]
           rfl
          refine done_ (done_of HT_.out (by kernel_rfl)) ?_
          obtain ⟨Ao49, co49, eo49⟩ := Kd.R_slice HO389.out
          subst eo49
          try go_wp2_with (first | ((with_reducible refine gate_callee (f := 11) rfl ?_); refine goesL_ (some 82) rfl rfl Try.func11 (by kernel_rfl) rfl #[.slice Ao49 y387.length co49] rfl (by (try simp only [List.map_toArray, List.map_cons, List.map_nil]); first | done | rfl | (simp only [List.length_drop, List.length_take]; rfl) | (go_simp; done) | (simp [Act.eval, IntKind.signed]; done) | (simp [Act.eval, IntKind.signed]; rfl)) ?_; (with_reducible refine (lychref1_Of.calls kj1 _ _ y387 t390 _ ?side1 ?side2 A21.out).mono ?_); (case side1 => repeat (first | exact (Kd.R_reads' HO389.out).2.2 | (with_reducible refine Kd.C_alloc ?_ _) | (with_reducible refine Kd.C_drewN ?_ _) | (with_reducible refine Kd.C_drew ?_))); (case side2 => exact (Kd.R_reads' HO389.out).2.1); rintro e w50 ⟨rfl, hb⟩; refine ⟨_, rfl, ?_⟩; have n0_ := Aside0.mk (Kd.R_below (by (with_reducible repeat (first | apply Kd.R_alloc | apply Kd.R_drewN | apply Kd.R_drew)); exact HO377.out) hb); have n1_ := Aside0.mk (Kd.R_below (by (with_reducible repeat (first | apply Kd.R_alloc | apply Kd.R_drewN | apply Kd.R_drew)); exact HO389.out) hb); have n2_ := Aside0.mk (blk_below (g := gb362) (o := .cells #[.int .u8 a0_0, .int .u8 a0_1, .int .u8 a0_2, .int .u16 a0_3, .int .u8 a0_4, .int .u16 a0_5, .int .u32 a0_6, .int .u32 a0_7, .slice A0_8 l0_8.length c0_8, .slice A0_9 l0_9.length c0_9] 30 (0, 0)) (by (with_reducible repeat (first | refine blk_drewN ?_ _ | refine blk_drew ?_ | refine blk_alloc ?_ _)); exact BK362.out) hb); have n3_ := Aside0.mk (below_step (by repeat (first | (with_reducible first | exact HB.out | apply below_alloc | apply pw_below_drewN | apply below_drew1 | refine below_set ?_ GE362.out) | exact HB.out)) hb); clear HO377; clear HO389; clear BK362; clear HB; have HO377 := n0_; have HO389 := n1_; have BK362 := n2_; have HB := n3_; clear n0_ n1_ n2_ n3_; (try clear hb); (try clear hb2); (try clear hk); (try clear hi); have p23 : 0 ≤ (10 : Int) := (by omega); have q23 : (10 : Int) < ((y387.length : Int) : Int) := of_decide_eq_true (by first | (with_reducible assumption) | assumption); have qi23 : (10 < y387.length) = True := eq_true (by omega); obtain ⟨go23, co23, eo23, gb23, gl23, cl23, HG23⟩ := Kd.R_form HO389.out (by omega); (first | cases eo23 | (injection eo23 with ea_ en_ ec_; (first | subst ea_ | (injection ea_ with ea_; subst ea_)); subst ec_; clear en_)); have GB23 := Aside0.mk gb23; have GG23 := Aside0.mk HG23; clear gb23 gl23 HG23; obtain ⟨hx23_0, hf23_0⟩ := Kd.R_celln 0 HO389.out (10 : Int) p23 q23; (try rw [show ((10 : Int)).toNat = 10 from rfl] at hx23_0); (try simp only [Nat.reduceMul, Nat.zero_mul, Nat.zero_add, Nat.reduceAdd] at hx23_0); (try rw [show ((10 : Int)).toNat = 10 from rfl] at hf23_0); (try simp only [Nat.reduceMul, Nat.zero_mul, Nat.zero_add, Nat.reduceAdd] at hf23_0); replace p23 := eq_true p23; replace q23 := eq_true q23; obtain ⟨hy51_, hz51_⟩ := Kd.R_celln 0 HO389.out (10 : Int) (by omega) (of_decide_eq_true (by first | (with_reducible assumption) | assumption)); (try simp only [Int.reduceToNat, Int.toNat_zero, Int.toNat_ofNat, Nat.reduceMul, Nat.zero_mul, Nat.zero_add] at hy51_ hz51_); (try rw [show ((10 : Int)).toNat = 10 from rfl] at hy51_); (try rw [show ((10 : Int)).toNat = 10 from rfl] at hz51_); have HP51 := Kd.R_putg HO389.out (10 : Int) ((t390 / 256) % 256)) | ((with_reducible refine gate_store (t := 5) (p := 90) rfl ?_); refine store_event (t := 5) (p := 90) (v := ?vo_w52) (w1 := (w50.setCell ⟨go23, (10 : Int).toNat, none⟩ (.int .u8 ((t390 / 256) % 256)))) ?hg ?ho ?hn ?hr ?_; (case ho => rfl); (case hg => rfl); (case hn => rfl); (case hr => first | (go_simp; done) | (go_simp; rfl)); intro w52 hw; have hg : w50.grownBy w52 (some go23) := (by rw [hw]; exact HP51.2); have hp_ : Kd.R (Kd.int .u8) 5 w52 w.heap.size (fun k_ => some k_ ≠ (.slice Ao42 y375.length co42 : Value).ownBlock) (.slice (some ⟨go23, 0, none⟩) y387.length co49) y391 := (by rw [hw, Ny391.out]; exact HP51.1); clear HP51; have n0_ := Aside0.mk (blk_grown (g := gb362) (o := .cells #[.int .u8 a0_0, .int .u8 a0_1, .int .u8 a0_2, .int .u16 a0_3, .int .u8 a0_4, .int .u16 a0_5, .int .u32 a0_6, .int .u32 a0_7, .slice A0_8 l0_8.length c0_8, .slice A0_9 l0_9.length c0_9] 30 (0, 0)) (by (with_reducible repeat (first | refine blk_drewN ?_ _ | refine blk_drew ?_ | refine blk_alloc ?_ _)); exact BK362.out) hg (Kd.R_ne HO389.out BK362.out (by decide))); have n1_ := Aside0.mk (Kd.R_after (v := (.slice (some ⟨go23, 0, none⟩) y387.length co49)) (v1 := (.slice (some ⟨go23, 0, none⟩) y387.length co49)) (ok := (fun _ => True)) (by (with_reducible repeat (first | apply Kd.R_alloc | apply Kd.R_drewN | apply Kd.R_drew)); exact HO377.out) hg (.inl rfl)); have n2_ := Aside0.mk (hp_); have n3_ := Aside0.mk ((by rw [hw]; exact below_set (HB.out) GB23.out : Below w.heap.size w w52)); clear BK362; clear HO377; clear HO389; clear HB; have BK362 := n0_; have HO377 := n1_; have HO389 := n2_; have HB := n3_; clear n0_ n1_ n2_ n3_; clear hg hw hp_; have p25 : 0 ≤ (11 : Int) := (by omega); have q25 : (11 : Int) < ((y387.length : Int) : Int) := of_decide_eq_true (by first | (with_reducible assumption) | assumption); have qi25 : (11 < y387.length) = True := eq_true (by omega); obtain ⟨hx25_0, hf25_0⟩ := Kd.R_celln 0 HO389.out (11 : Int) p25 q25; (try rw [show ((11 : Int)).toNat = 11 from rfl] at hx25_0); (try simp only [Nat.reduceMul, Nat.zero_mul, Nat.zero_add, Nat.reduceAdd] at hx25_0); (try rw [show ((11 : Int)).toNat = 11 from rfl] at hf25_0); (try simp only [Nat.reduceMul, Nat.zero_mul, Nat.zero_add, Nat.reduceAdd] at hf25_0); replace p25 := eq_true p25; replace q25 := eq_true q25; obtain ⟨hy53_, hz53_⟩ := Kd.R_celln 0 HO389.out (11 : Int) (by omega) (of_decide_eq_true (by first | (with_reducible assumption) | assumption)); (try simp only [Int.reduceToNat, Int.toNat_zero, Int.toNat_ofNat, Nat.reduceMul, Nat.zero_mul, Nat.zero_add] at hy53_ hz53_); (try rw [show ((11 : Int)).toNat = 11 from rfl] at hy53_); (try rw [show ((11 : Int)).toNat = 11 from rfl] at hz53_); have HP53 := Kd.R_putg HO389.out (11 : Int) ((t390) % 256)) | ((with_reducible refine gate_store (t := 5) (p := 91) rfl ?_); refine store_event (t := 5) (p := 91) (v := ?vo_w54) (w1 := (w52.setCell ⟨go23, (11 : Int).toNat, none⟩ (.int .u8 ((t390) % 256)))) ?hg ?ho ?hn ?hr ?_; (case ho => rfl); (case hg => rfl); (case hn => rfl); (case hr => first | (go_simp; done) | (go_simp; rfl)); intro w54 hw; have hg : w52.grownBy w54 (some go23) := (by rw [hw]; exact HP53.2); have hp_ : Kd.R (Kd.int .u8) 5 w54 w.heap.size (fun k_ => some k_ ≠ (.slice Ao42 y375.length co42 : Value).ownBlock) (.slice (some ⟨go23, 0, none⟩) y387.length co49) y392 := (by rw [hw, Ny392.out]; exact HP53.1); clear HP53; have n0_ := Aside0.mk (blk_grown (g := gb362) (o := .cells #[.int .u8 a0_0, .int .u8 a0_1, .int .u8 a0_2, .int .u16 a0_3, .int .u8 a0_4, .int .u16 a0_5, .int .u32 a0_6, .int .u32 a0_7, .slice A0_8 l0_8.length c0_8, .slice A0_9 l0_9.length c0_9] 30 (0, 0)) (by (with_reducible repeat (first | refine blk_drewN ?_ _ | refine blk_drew ?_ | refine blk_alloc ?_ _)); exact BK362.out) hg (Kd.R_ne HO389.out BK362.out (by decide))); have n1_ := Aside0.mk (Kd.R_after (v := (.slice (some ⟨go23, 0, none⟩) y387.length co49)) (v1 := (.slice (some ⟨go23, 0, none⟩) y387.length co49)) (ok := (fun _ => True)) (by (with_reducible repeat (first | apply Kd.R_alloc | apply Kd.R_drewN | apply Kd.R_drew)); exact HO377.out) hg (.inl rfl)); have n2_ := Aside0.mk (hp_); have n3_ := Aside0.mk ((by rw [hw]; exact below_set (HB.out) GB23.out : Below w.heap.size w w54)); clear BK362; clear HO377; clear HO389; clear HB; have BK362 := n0_; have HO377 := n1_; have HO389 := n2_; have HB := n3_; clear n0_ n1_ n2_ n3_; clear hg hw hp_; have hcz55_0 : w54.cell? ⟨gb362, 0, none⟩ = some (.int .u8 a0_0) := (blk_cell BK362.out 0).trans rfl; have hcz55_1 : w54.cell? ⟨gb362, 1, none⟩ = some (.int .u8 a0_1) := (blk_cell BK362.out 1).trans rfl; have hcz55_2 : w54.cell? ⟨gb362, 2, none⟩ = some (.int .u8 a0_2) := (blk_cell BK362.out 2).trans rfl; have hcz55_3 : w54.cell? ⟨gb362, 3, none⟩ = some (.int .u16 a0_3) := (blk_cell BK362.out 3).trans rfl; have hcz55_4 : w54.cell? ⟨gb362, 4, none⟩ = some (.int .u8 a0_4) := (blk_cell BK362.out 4).trans rfl; have hcz55_5 : w54.cell? ⟨gb362, 5, none⟩ = some (.int .u16 a0_5) := (blk_cell BK362.out 5).trans rfl; have hcz55_6 : w54.cell? ⟨gb362, 6, none⟩ = some (.int .u32 a0_6) := (blk_cell BK362.out 6).trans rfl; have hcz55_7 : w54.cell? ⟨gb362, 7, none⟩ = some (.int .u32 a0_7) := (blk_cell BK362.out 7).trans rfl; have hcz55_8 : w54.cell? ⟨gb362, 8, none⟩ = some (.slice A0_8 l0_8.length c0_8) := (blk_cell BK362.out 8).trans rfl; have hcz55_9 : w54.cell? ⟨gb362, 9, none⟩ = some (.slice A0_9 l0_9.length c0_9) := (blk_cell BK362.out 9).trans rfl; have hfz55_0 := blk_frozen BK362.out 0; have hfz55_1 := blk_frozen BK362.out 1; have hfz55_2 := blk_frozen BK362.out 2; have hfz55_3 := blk_frozen BK362.out 3; have hfz55_4 := blk_frozen BK362.out 4; have hfz55_5 := blk_frozen BK362.out 5; have hfz55_6 := blk_frozen BK362.out 6; have hfz55_7 := blk_frozen BK362.out 7; have hfz55_8 := blk_frozen BK362.out 8; have hfz55_9 := blk_frozen BK362.out 9) | ((with_reducible refine gate_builtin (b := .append) (xs := #[.tmp 92, .tmp 94]) rfl ?_); (try (refine gate_guard (by rfl) ?_; dsimp only)); at_builtin; refine Kd.R_append_rows (Kd.int .u8) (w0 := w) w.heap.size rfl (.tmp 92) (.tmp 94) 22 5 (.int .u8 0) 1 rfl Try.underlying22 info5 rfl (by decide) (by omega) (.slice (some ⟨go23, 0, none⟩) y387.length co49) y392 l0_9 _ _ _ (fun k_ => some k_ ≠ (.slice Ao42 y375.length co42 : Value).ownBlock) (fun _ => False) rfl rfl ?aO ?aR (fun _ _ h => h) (fun _ h => h.elim) ?aF ?aB ?aS ?aL ?_; (case aR => repeat (first | exact (Kd.C_below HR0_9.out HB.out) | (with_reducible refine Kd.C_alloc ?_ _) | (with_reducible refine Kd.C_drewN ?_ _) | (with_reducible refine Kd.C_drew ?_))); (case aB => exact (by repeat (first | (with_reducible first | exact HB.out | apply below_alloc | apply pw_below_drewN | apply below_drew1 | refine below_set ?_ GE362.out) | exact HB.out))); (case aF => exact (fun k_ hk => Kd.fresh' (Kd.R_lt (by (with_reducible repeat (first | apply Kd.R_alloc | apply Kd.R_drewN | apply Kd.R_drew)); exact HO377.out)) k_ hk)); (case aO => exact (by (with_reducible repeat (first | apply Kd.R_alloc | apply Kd.R_drewN | apply Kd.R_drew)); exact HO389.out)); (case aS => exact (below_size (by repeat (first | (with_reducible first | exact HB.out | apply below_alloc | apply pw_below_drewN | apply below_drew1 | refine below_set ?_ GE362.out) | exact HB.out)))); (case aL => have := LMc26.out; omega); intro v394 w56 ho hb hg hat; rw [← Ny393.out] at ho; have n0_ := Aside0.mk (blk_grown (g := gb362) (o := .cells #[.int .u8 a0_0, .int .u8 a0_1, .int .u8 a0_2, .int .u16 a0_3, .int .u8 a0_4, .int .u16 a0_5, .int .u32 a0_6, .int .u32 a0_7, .slice A0_8 l0_8.length c0_8, .slice A0_9 l0_9.length c0_9] 30 (0, 0)) (by (with_reducible repeat (first | refine blk_drewN ?_ _ | refine blk_drew ?_ | refine blk_alloc ?_ _)); exact BK362.out) hg (Kd.R_ne HO389.out BK362.out (by decide))); have n1_ := Aside0.mk (Kd.R_after (ok := (fun _ => True)) (by (with_reducible repeat (first | apply Kd.R_alloc | apply Kd.R_drewN | apply Kd.R_drew)); exact HO377.out) hg hat); have n2_ := Aside0.mk (hb); have n3_ := Aside0.mk (ho); clear BK362; clear HO377; clear HB; clear HO389; have BK362 := n0_; have HO377 := n1_; have HB := n2_; have HO395 := n3_; clear n0_ n1_ n2_ n3_; clear ho hb hg hat))
          go_ret2
          exact ⟨_, by first | rfl | (simp [errW_none, errW_some] <;> rfl) | (simp [*, errW_none, errW_some] <;> rfl), by (with_reducible repeat (first | apply Kd.R_alloc | apply Kd.R_drewN | apply Kd.R_drew)); exact Kd.R_mono HO395.out (fun _ hk => trivial), by repeat (first | (with_reducible first | exact HB.out | apply below_alloc | apply pw_below_drewN | apply below_drew1 | refine below_set ?_ GE362.out) | exact HB.out)⟩
         ·rw [if_neg c26] at H
          exact absurd H (by simp)
        ·rw [if_neg c24] at H
         exact absurd H (by simp)
       ·rw [if_neg c22] at H
        exact absurd H (by simp)
      ·rw [if_neg c20] at H
       exact absurd H (by simp)
     ·rw [if_neg c17] at H
      exact absurd H (by simp)

end Go.Proofs.Ytmlmiiejifhfeaa.PA
