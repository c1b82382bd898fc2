-- written by a patched print
import Derived.Test.YtnodigdpodiphaaPAx0
import Derived.Test.YtnodigdpodiphaaPAx6
import Derived.Test.YtnodigdpodiphaaPAx19
namespace Go.Proofs.Ytnodigdpodiphaa.PA
open Go.RowKit Go.Proofs.YtnodigdpodiphaaW.PrintWords Go.Proofs.YtnodigdpodiphaaW.PrintLast Go.Proofs.YtnodigdpodiphaaW.PrintMore
attribute [local go_sem] max2_int min2_int max_two min_two max_three min_three max_four min_four   -- for this text's walks alone
set_option linter.unusedVariables false
set_option linter.unusedSimpArgs false

/-! ### lychref1_TcpBytes: function 30 -/
def lychref1_TcpBytes.j0 : Nat → Bool → Int → Int → Int → Int → Int → Int → Int → Int → List Int → List Int → Option (List Int × Int)
  | 0, _, _, _, _, _, _, _, _, _, _, _ => none
  | k + 1, x16, x509000, x509001, x509002, x509003, x509004, x509005, x509006, x509007, x509008, x509009 => if x16 = true then (some (([] : List Int), 21)) else (if (x509009.length : Int) > (wrap64 (65515 - (wrap64 (20 + (x509008.length : Int))))) then (some (([] : List Int), 23)) else ((lychref1_Put16.f ([] : List Int) x509000).bind fun t509 => ((lychref1_Put16.f t509 x509001).bind fun t512 => ((lychref1_Put32.f t512 x509002).bind fun t515 => ((lychref1_Put32.f t515 x509003).bind fun t518 => ((some (([(((wrap64 (Int.tdiv (wrap64 (20 + (x509008.length : Int))) 4)) % 256) * 16) % 256, x509004] : List Int) : List Int)).bind fun y521 => (if t518.length + y521.length < 140737488355328 then ((lychref1_Put16.f (t518 ++ y521) x509005).bind fun t527 => ((lychref1_Put16.f t527 x509006).bind fun t530 => ((lychref1_Put16.f t530 x509007).bind fun t533 => (if t533.length + x509008.length < 140737488355328 then ((some (t533 ++ x509008 : List Int)).bind fun y536 => (if y536.length + x509009.length < 140737488355328 then (some ((y536 ++ x509009), 0)) else (none))) else (none))))) else (none))))))))
def lychref1_TcpBytes.f (k : Nat) (a0_0 : Int) (a0_1 : Int) (a0_2 : Int) (a0_3 : Int) (a0_4 : Int) (a0_5 : Int) (a0_6 : Int) (a0_7 : Int) (l0_8 : List Int) (l0_9 : List Int) : Option (List Int × Int) := if ((l0_8.length : Int) % 4) = 0 then (lychref1_TcpBytes.j0 k (decide ((l0_8.length : Int) > 40)) a0_0 a0_1 a0_2 a0_3 a0_4 a0_5 a0_6 a0_7 l0_8 l0_9) else (lychref1_TcpBytes.j0 k true a0_0 a0_1 a0_2 a0_3 a0_4 a0_5 a0_6 a0_7 l0_8 l0_9)
theorem lychref1_TcpBytes.mono_l : ∀ k, (∀ y0 y1 y2 y3 y4 y5 y6 y7 y8 y9 y10, LeO (lychref1_TcpBytes.j0 k y0 y1 y2 y3 y4 y5 y6 y7 y8 y9 y10) (lychref1_TcpBytes.j0 (k + 1) y0 y1 y2 y3 y4 y5 y6 y7 y8 y9 y10))
  | 0 => fun _ _ _ _ _ _ _ _ _ _ _ r h => by simp [lychref1_TcpBytes.j0] at h
  | k + 1 => by
    have ih0 := lychref1_TcpBytes.mono_l k
    · intro y0 y1 y2 y3 y4 y5 y6 y7 y8 y9 y10
      unfold lychref1_TcpBytes.j0
      repeat' first
      | (with_reducible exact ih0 _ _ _ _ _ _ _ _ _ _ _)
      | (with_reducible exact LeO.refl _)
      | (with_reducible exact LeO.none _)
      | (with_reducible refine LeO.ite ?_ ?_)
      | (with_reducible refine LeO.bind ?_ (fun _ => ?_))
      | exact ih0 _ _ _ _ _ _ _ _ _ _ _
      | exact LeO.none _
      | refine LeO.ite ?_ ?_
      | refine LeO.bind ?_ (fun _ => ?_)
theorem lychref1_TcpBytes.mono : ∀ a0 a1 a2 a3 a4 a5 a6 a7 a8 a9 k, LeO (lychref1_TcpBytes.f k a0 a1 a2 a3 a4 a5 a6 a7 a8 a9) (lychref1_TcpBytes.f (k + 1) a0 a1 a2 a3 a4 a5 a6 a7 a8 a9) := by
  intro a0 a1 a2 a3 a4 a5 a6 a7 a8 a9 k
  have ih0 := lychref1_TcpBytes.mono_l k
  unfold lychref1_TcpBytes.f
  repeat' first
      | (with_reducible exact ih0 _ _ _ _ _ _ _ _ _ _ _)
      | (with_reducible exact LeO.refl _)
      | (with_reducible exact LeO.none _)
      | (with_reducible refine LeO.ite ?_ ?_)
      | (with_reducible refine LeO.bind ?_ (fun _ => ?_))
      | exact ih0 _ _ _ _ _ _ _ _ _ _ _
      | exact LeO.none _
      | refine LeO.ite ?_ ?_
      | refine LeO.bind ?_ (fun _ => ?_)
def lychref1_TcpBytes.T6 : Bool × List (List Nat × List Nat) := (true, [([], []), ([0], [0]), ([1], [1]), ([], []), ([3], [3]), ([2, 4, 2], [2, 4]), ([], []), ([6], [6]), ([5, 7, 5], [5, 7]), ([], []), ([9], [9]), ([8, 10, 8], [8, 10]), ([11, 11, 0, 1, 2, 3, 4, 5, 6, 7, 8, 9, 10, 11], [11])])
def lychref1_TcpBytes.B6 : List Nat := [0, 1, 3, 0, 8, 31, 0, 64, 255, 0, 512, 2047, 4095]
theorem lychref1_TcpBytes.tab6 : rtab .any (opsOf Try.f30 6) = lychref1_TcpBytes.T6 := by kernel_rfl
theorem lychref1_TcpBytes.bits6 : waitsOk lychref1_TcpBytes.T6.2 lychref1_TcpBytes.B6 = true := by kernel_rfl
def lychref1_TcpBytes.T7 : Bool × List (List Nat × List Nat) := (true, [([], []), ([], []), ([1], [1]), ([2], [2]), ([3], [3]), ([], []), ([5], [5]), ([4, 6], [4, 6]), ([0, 7], [0, 7]), ([], []), ([9], [9]), ([8, 10, 8], [8, 10]), ([11, 11, 0, 1, 2, 3, 4, 5, 6, 7, 8, 9, 10, 11], [0, 11])])
def lychref1_TcpBytes.B7 : List Nat := [0, 0, 2, 6, 14, 0, 32, 126, 255, 0, 512, 2047, 4095]
theorem lychref1_TcpBytes.tab7 : rtab .any (opsOf Try.f30 7) = lychref1_TcpBytes.T7 := by kernel_rfl
theorem lychref1_TcpBytes.bits7 : waitsOk lychref1_TcpBytes.T7.2 lychref1_TcpBytes.B7 = true := by kernel_rfl
def lychref1_TcpBytes.T8 : Bool × List (List Nat × List Nat) := (true, [([], []), ([], []), ([1], [1]), ([0, 2], [0, 2]), ([], []), ([4], [4]), ([3, 5, 3], [3, 5]), ([6, 6, 0, 1, 2, 3, 4, 5, 6], [0, 6])])
def lychref1_TcpBytes.B8 : List Nat := [0, 0, 2, 7, 0, 16, 63, 127]
theorem lychref1_TcpBytes.tab8 : rtab .any (opsOf Try.f30 8) = lychref1_TcpBytes.T8 := by kernel_rfl
theorem lychref1_TcpBytes.bits8 : waitsOk lychref1_TcpBytes.T8.2 lychref1_TcpBytes.B8 = true := by kernel_rfl
def lychref1_TcpBytes.T9 : Bool × List (List Nat × List Nat) := (true, [([], []), ([], []), ([1], [1]), ([0, 2], [0, 2]), ([], []), ([4], [4]), ([3, 5, 3], [3, 5]), ([6, 6, 0, 1, 2, 3, 4, 5, 6], [6]), ([7, 0, 1, 2, 3, 4, 5, 6, 7], [])])
def lychref1_TcpBytes.B9 : List Nat := [0, 0, 2, 7, 0, 16, 63, 127, 255]
theorem lychref1_TcpBytes.tab9 : rtab .any (opsOf Try.f30 9) = lychref1_TcpBytes.T9 := by kernel_rfl
theorem lychref1_TcpBytes.bits9 : waitsOk lychref1_TcpBytes.T9.2 lychref1_TcpBytes.B9 = true := by kernel_rfl
set_option maxHeartbeats 8000000 in
set_option maxRecDepth 100000 in
theorem lychref1_TcpBytes.calls (k : Nat) (a0_0 : Int) (a0_1 : Int) (a0_2 : Int) (a0_3 : Int) (a0_4 : Int) (a0_5 : Int) (a0_6 : Int) (a0_7 : Int) (A0_8 : Option Addr) (c0_8 : Nat) (l0_8 : List Int) (A0_9 : Option Addr) (c0_9 : Nat) (l0_9 : List Int) (r1 : List Int) (r2 : Int) (w : World) (hr0_8 : Kd.C (Kd.int .u8) w A0_8 l0_8.length l0_8) (hc0_8 : l0_8.length ≤ c0_8) (hr0_9 : Kd.C (Kd.int .u8) w A0_9 l0_9.length l0_9) (hc0_9 : l0_9.length ≤ c0_9) (h : lychref1_TcpBytes.f k a0_0 a0_1 a0_2 a0_3 a0_4 a0_5 a0_6 a0_7 l0_8 l0_9 = some (r1, r2)) :
    Calls Try.prog 30 #[.agg #[.int .u16 a0_0, .int .u16 a0_1, .int .u32 a0_2, .int .u32 a0_3, .int .u8 a0_4, .int .u16 a0_5, .int .u16 a0_6, .int .u16 a0_7, .slice A0_8 l0_8.length c0_8, .slice A0_9 l0_9.length c0_9]] w fun e w' => ∃ v0_ : Value, e = .returned (.tuple #[v0_, .int .i64 r2]) ∧ Kd.R (Kd.int .u8) 5 w' w.heap.size (fun _ => True) v0_ r1 ∧ Below w.heap.size w w' := by
  have hu49 := Try.underlying49
  have HR0_8 := Aside0.mk hr0_8
  have HC0_8 := Aside0.mk hc0_8
  clear hr0_8 hc0_8
  have HR0_9 := Aside0.mk hr0_9
  have HC0_9 := Aside0.mk hc0_9
  clear hr0_9 hc0_9
  have HB := Aside0.mk (Below.refl w.heap.size w)
  have H : (if ((l0_8.length : Int) % 4) = 0 then (lychref1_TcpBytes.j0 k (decide ((l0_8.length : Int) > 40)) a0_0 a0_1 a0_2 a0_3 a0_4 a0_5 a0_6 a0_7 l0_8 l0_9) else (lychref1_TcpBytes.j0 k true a0_0 a0_1 a0_2 a0_3 a0_4 a0_5 a0_6 a0_7 l0_8 l0_9)) = some (r1, r2) := h
  clear h
  have HC2 := Aside0.mk H
  clear H
  go_enter Try.func30, Try.ntmps30
  go_upto_region 1 with (first | ((with_reducible refine gate_dst (N := 1) rfl ?_); (try (refine gate_guard (by rfl) ?_; dsimp only)); refine box_event ?hg (N := 1) ?hd (cs := #[.int .u16 a0_0, .int .u16 a0_1, .int .u32 a0_2, .int .u32 a0_3, .int .u8 a0_4, .int .u16 a0_5, .int .u16 a0_6, .int .u16 a0_7, .slice A0_8 l0_8.length c0_8, .slice A0_9 l0_9.length c0_9]) (t := 49) ?hr ?_; (case hd => rfl); (case hg => rfl); (case hr => first | (go_simp; done) | (go_simp; rfl)); intro gb508 hg w3 hbox hb; have n0_ := Aside0.mk (below_step (by repeat (first | (with_reducible first | exact HB.out | apply below_alloc | apply pw_below_drewN | apply below_drew1) | exact HB.out)) hb); have n1_ := Aside0.mk (hbox); have n2_ := Aside0.mk ((by rw [hg]; exact (below_size (by repeat (first | (with_reducible first | exact HB.out | apply below_alloc | apply pw_below_drewN | apply below_drew1) | exact HB.out))) : w.heap.size ≤ gb508)); have n3_ := Aside0.mk ((by rw [hg]; exact (below_size (by repeat (first | (with_reducible first | exact HB.out | apply below_alloc | apply pw_below_drewN | apply below_drew1) | exact HB.out))) : w.heap.size ≤ gb508)); clear HB; have HB := n0_; have BK508 := n1_; have GW508 := n2_; have GE508 := n3_; clear n0_ n1_ n2_ n3_; clear hb hbox hg))
  (try simp only [Act.put, List.setIfInBounds_toArray, List.set_cons_zero, List.set_cons_succ])
  go_cut [16] (fun v16 wc => ∃ (kq : Nat) (x16_1 : Bool), v16 = .bool x16_1 ∧ Aside0 (lychref1_TcpBytes.j0 kq x16_1 a0_0 a0_1 a0_2 a0_3 a0_4 a0_5 a0_6 a0_7 l0_8 l0_9 = some (r1, r2)) ∧ Aside0 (kq ≤ k) ∧ Aside0 (wc.heap[gb508]? = some (.cells #[.int .u16 a0_0, .int .u16 a0_1, .int .u32 a0_2, .int .u32 a0_3, .int .u8 a0_4, .int .u16 a0_5, .int .u16 a0_6, .int .u16 a0_7, (.slice A0_8 l0_8.length c0_8), (.slice A0_9 l0_9.length c0_9)] 49 (0, 0))) ∧ Aside0 (Below w.heap.size w wc))
  case first =>
    have H := HC2.out
    clear HC2
    by_cases c4 : ((l0_8.length : Int) % 4) = 0
    · rw [if_pos c4] at H
      have c4b0 : (((l0_8.length : Int) % 4) == 0) = true := beq_iff_eq.mpr c4
      have c4b1 : (((l0_8.length : Int) % 4) != 0) = false := bne_eq_false_iff_eq.mpr c4
      clear c4
      (first | rw [c4b0] | (simp only [i64_w, i32_w]; rw [c4b0]) | skip)
      have H' := Aside0.mk H
      clear H
      have hcz5_0 : w3.cell? ⟨gb508, 0, none⟩ = some (.int .u16 a0_0) := (blk_cell BK508.out 0).trans rfl
      have hcz5_1 : w3.cell? ⟨gb508, 1, none⟩ = some (.int .u16 a0_1) := (blk_cell BK508.out 1).trans rfl
      have hcz5_2 : w3.cell? ⟨gb508, 2, none⟩ = some (.int .u32 a0_2) := (blk_cell BK508.out 2).trans rfl
      have hcz5_3 : w3.cell? ⟨gb508, 3, none⟩ = some (.int .u32 a0_3) := (blk_cell BK508.out 3).trans rfl
      have hcz5_4 : w3.cell? ⟨gb508, 4, none⟩ = some (.int .u8 a0_4) := (blk_cell BK508.out 4).trans rfl
      have hcz5_5 : w3.cell? ⟨gb508, 5, none⟩ = some (.int .u16 a0_5) := (blk_cell BK508.out 5).trans rfl
      have hcz5_6 : w3.cell? ⟨gb508, 6, none⟩ = some (.int .u16 a0_6) := (blk_cell BK508.out 6).trans rfl
      have hcz5_7 : w3.cell? ⟨gb508, 7, none⟩ = some (.int .u16 a0_7) := (blk_cell BK508.out 7).trans rfl
      have hcz5_8 : w3.cell? ⟨gb508, 8, none⟩ = some (.slice A0_8 l0_8.length c0_8) := (blk_cell BK508.out 8).trans rfl
      have hcz5_9 : w3.cell? ⟨gb508, 9, none⟩ = some (.slice A0_9 l0_9.length c0_9) := (blk_cell BK508.out 9).trans rfl
      have hfz5_0 := blk_frozen BK508.out 0
      have hfz5_1 := blk_frozen BK508.out 1
      have hfz5_2 := blk_frozen BK508.out 2
      have hfz5_3 := blk_frozen BK508.out 3
      have hfz5_4 := blk_frozen BK508.out 4
      have hfz5_5 := blk_frozen BK508.out 5
      have hfz5_6 := blk_frozen BK508.out 6
      have hfz5_7 := blk_frozen BK508.out 7
      have hfz5_8 := blk_frozen BK508.out 8
      have hfz5_9 := blk_frozen BK508.out 9
      go_wp2
      go_meet
      case rel => exact ⟨_, (decide ((l0_8.length : Int) > 40)), (by first | rfl | (simp; done) | (simp [*]; done)), H', ⟨by first | omega | exact Nat.le_refl _⟩, ⟨by (with_reducible repeat (first | refine blk_drewN ?_ _ | refine blk_drew ?_ | refine blk_alloc ?_ _)); exact BK508.out⟩, ⟨by repeat (first | (with_reducible first | exact HB.out | apply below_alloc | apply pw_below_drewN | apply below_drew1 | refine below_set ?_ GE508.out) | exact HB.out)⟩⟩
    · rw [if_neg c4] at H
      have c4b0 : (((l0_8.length : Int) % 4) == 0) = false := beq_eq_false_iff_ne.mpr c4
      have c4b1 : (((l0_8.length : Int) % 4) != 0) = true := bne_iff_ne.mpr c4
      (first | rw [c4b0] | (simp only [i64_w, i32_w]; rw [c4b0]) | skip)
      have H' := Aside0.mk H
      clear H
      have hcz6_0 : w3.cell? ⟨gb508, 0, none⟩ = some (.int .u16 a0_0) := (blk_cell BK508.out 0).trans rfl
      have hcz6_1 : w3.cell? ⟨gb508, 1, none⟩ = some (.int .u16 a0_1) := (blk_cell BK508.out 1).trans rfl
      have hcz6_2 : w3.cell? ⟨gb508, 2, none⟩ = some (.int .u32 a0_2) := (blk_cell BK508.out 2).trans rfl
      have hcz6_3 : w3.cell? ⟨gb508, 3, none⟩ = some (.int .u32 a0_3) := (blk_cell BK508.out 3).trans rfl
      have hcz6_4 : w3.cell? ⟨gb508, 4, none⟩ = some (.int .u8 a0_4) := (blk_cell BK508.out 4).trans rfl
      have hcz6_5 : w3.cell? ⟨gb508, 5, none⟩ = some (.int .u16 a0_5) := (blk_cell BK508.out 5).trans rfl
      have hcz6_6 : w3.cell? ⟨gb508, 6, none⟩ = some (.int .u16 a0_6) := (blk_cell BK508.out 6).trans rfl
      have hcz6_7 : w3.cell? ⟨gb508, 7, none⟩ = some (.int .u16 a0_7) := (blk_cell BK508.out 7).trans rfl
      have hcz6_8 : w3.cell? ⟨gb508, 8, none⟩ = some (.slice A0_8 l0_8.length c0_8) := (blk_cell BK508.out 8).trans rfl
      have hcz6_9 : w3.cell? ⟨gb508, 9, none⟩ = some (.slice A0_9 l0_9.length c0_9) := (blk_cell BK508.out 9).trans rfl
      have hfz6_0 := blk_frozen BK508.out 0
      have hfz6_1 := blk_frozen BK508.out 1
      have hfz6_2 := blk_frozen BK508.out 2
      have hfz6_3 := blk_frozen BK508.out 3
      have hfz6_4 := blk_frozen BK508.out 4
      have hfz6_5 := blk_frozen BK508.out 5
      have hfz6_6 := blk_frozen BK508.out 6
      have hfz6_7 := blk_frozen BK508.out 7
      have hfz6_8 := blk_frozen BK508.out 8
      have hfz6_9 := blk_frozen BK508.out 9
      go_wp2
      go_meet
      case rel => exact ⟨_, (true), (by first | rfl | (simp; done) | (simp [*]; done)), H', ⟨by first | omega | exact Nat.le_refl _⟩, ⟨by (with_reducible repeat (first | refine blk_drewN ?_ _ | refine blk_drew ?_ | refine blk_alloc ?_ _)); exact BK508.out⟩, ⟨by repeat (first | (with_reducible first | exact HB.out | apply below_alloc | apply pw_below_drewN | apply below_drew1 | refine below_set ?_ GE508.out) | exact HB.out)⟩⟩
  case rest =>
    clear HC2
    try clear p2
    try clear c3
    try clear c4
    try clear c4b0
    try clear c4b1
    try clear hcz5_0
    try clear hcz5_1
    try clear hcz5_2
    try clear hcz5_3
    try clear hcz5_4
    try clear hcz5_5
    try clear hcz5_6
    try clear hcz5_7
    try clear hcz5_8
    try clear hcz5_9
    try clear hcz6_0
    try clear hcz6_1
    try clear hcz6_2
    try clear hcz6_3
    try clear hcz6_4
    try clear hcz6_5
    try clear hcz6_6
    try clear hcz6_7
    try clear hcz6_8
    try clear hcz6_9
    try clear hfz5_0
    try clear hfz5_1
    try clear hfz5_2
    try clear hfz5_3
    try clear hfz5_4
    try clear hfz5_5
    try clear hfz5_6
    try clear hfz5_7
    try clear hfz5_8
    try clear hfz5_9
    try clear hfz6_0
    try clear hfz6_1
    try clear hfz6_2
    try clear hfz6_3
    try clear hfz6_4
    try clear hfz6_5
    try clear hfz6_6
    try clear hfz6_7
    try clear hfz6_8
    try clear hfz6_9
    obtain ⟨kq, x16_1, rfl, HA, HJ1, BK508, HB⟩ := hcut
    cases kq with
    | zero => exact absurd HA.out (by simp [lychref1_TcpBytes.j0])
    | succ kj1 =>
      have H := HA.out
      clear HA
      simp only [lychref1_TcpBytes.j0] at H
      by_cases c7 : x16_1 = true
      · subst c7
        have H1 : (some (([] : List Int), 21)) = some (r1, r2) := by rw [if_pos rfl] at H; exact H
        clear H
        have H := H1
        clear H1
        simp only [Option.some.injEq, Prod.mk.injEq] at H
        obtain ⟨rfl, rfl⟩ := H
        go_wp2
        go_ret2
        exact ⟨_, by first | rfl | (simp [errW_none, errW_some] <;> rfl) | (simp [*, errW_none, errW_some] <;> rfl), by first | exact Kd.R_nil _ _ _ _ _ | exact Kd.N_nil _ _ _ _ _ | exact Kd.V_nil _ _ _ _ _ | exact Kd.Q_nil _ _ _ _ _ | exact Kd.S_nil _ _ _ _ _, by repeat (first | (with_reducible first | exact HB.out | apply below_alloc | apply pw_below_drewN | apply below_drew1 | refine below_set ?_ GE508.out) | exact HB.out)⟩
      · replace c7 := Bool.eq_false_iff.mpr c7
        subst c7
        have H1 : (if (l0_9.length : Int) > (wrap64 (65515 - (wrap64 (20 + (l0_8.length : Int))))) then (some (([] : List Int), 23)) else ((lychref1_Put16.f ([] : List Int) a0_0).bind fun t509 => ((lychref1_Put16.f t509 a0_1).bind fun t512 => ((lychref1_Put32.f t512 a0_2).bind fun t515 => ((lychref1_Put32.f t515 a0_3).bind fun t518 => ((some (([(((wrap64 (Int.tdiv (wrap64 (20 + (l0_8.length : Int))) 4)) % 256) * 16) % 256, a0_4] : List Int) : List Int)).bind fun y521 => (if t518.length + y521.length < 140737488355328 then ((lychref1_Put16.f (t518 ++ y521) a0_5).bind fun t527 => ((lychref1_Put16.f t527 a0_6).bind fun t530 => ((lychref1_Put16.f t530 a0_7).bind fun t533 => (if t533.length + l0_8.length < 140737488355328 then ((some (t533 ++ l0_8 : List Int)).bind fun y536 => (if y536.length + l0_9.length < 140737488355328 then (some ((y536 ++ l0_9), 0)) else (none))) else (none))))) else (none)))))))) = some (r1, r2) := by rw [if_neg (show ¬ (false = true) by decide)] at H; exact H
        clear H
        have H := H1
        clear H1
        by_cases c8 : (l0_9.length : Int) > (wrap64 (65515 - (wrap64 (20 + (l0_8.length : Int)))))
        · rw [if_pos c8] at H
          have c8b0 : decide ((wrap64 (65515 - (wrap64 (20 + (l0_8.length : Int))))) < (l0_9.length : Int)) = true := decide_eq_true c8
          clear c8
          simp only [Option.some.injEq, Prod.mk.injEq] at H
          obtain ⟨rfl, rfl⟩ := H
          have hcz9_0 : wc.cell? ⟨gb508, 0, none⟩ = some (.int .u16 a0_0) := (blk_cell BK508.out 0).trans rfl
          have hcz9_1 : wc.cell? ⟨gb508, 1, none⟩ = some (.int .u16 a0_1) := (blk_cell BK508.out 1).trans rfl
          have hcz9_2 : wc.cell? ⟨gb508, 2, none⟩ = some (.int .u32 a0_2) := (blk_cell BK508.out 2).trans rfl
          have hcz9_3 : wc.cell? ⟨gb508, 3, none⟩ = some (.int .u32 a0_3) := (blk_cell BK508.out 3).trans rfl
          have hcz9_4 : wc.cell? ⟨gb508, 4, none⟩ = some (.int .u8 a0_4) := (blk_cell BK508.out 4).trans rfl
          have hcz9_5 : wc.cell? ⟨gb508, 5, none⟩ = some (.int .u16 a0_5) := (blk_cell BK508.out 5).trans rfl
          have hcz9_6 : wc.cell? ⟨gb508, 6, none⟩ = some (.int .u16 a0_6) := (blk_cell BK508.out 6).trans rfl
          have hcz9_7 : wc.cell? ⟨gb508, 7, none⟩ = some (.int .u16 a0_7) := (blk_cell BK508.out 7).trans rfl
          have hcz9_8 : wc.cell? ⟨gb508, 8, none⟩ = some (.slice A0_8 l0_8.length c0_8) := (blk_cell BK508.out 8).trans rfl
          have hcz9_9 : wc.cell? ⟨gb508, 9, none⟩ = some (.slice A0_9 l0_9.length c0_9) := (blk_cell BK508.out 9).trans rfl
          have hfz9_0 := blk_frozen BK508.out 0
          have hfz9_1 := blk_frozen BK508.out 1
          have hfz9_2 := blk_frozen BK508.out 2
          have hfz9_3 := blk_frozen BK508.out 3
          have hfz9_4 := blk_frozen BK508.out 4
          have hfz9_5 := blk_frozen BK508.out 5
          have hfz9_6 := blk_frozen BK508.out 6
          have hfz9_7 := blk_frozen BK508.out 7
          have hfz9_8 := blk_frozen BK508.out 8
          have hfz9_9 := blk_frozen BK508.out 9
          go_wp2
          go_ret2
          exact ⟨_, by first | rfl | (simp [errW_none, errW_some] <;> rfl) | (simp [*, errW_none, errW_some] <;> rfl), by first | exact Kd.R_nil _ _ _ _ _ | exact Kd.N_nil _ _ _ _ _ | exact Kd.V_nil _ _ _ _ _ | exact Kd.Q_nil _ _ _ _ _ | exact Kd.S_nil _ _ _ _ _, by repeat (first | (with_reducible first | exact HB.out | apply below_alloc | apply pw_below_drewN | apply below_drew1 | refine below_set ?_ GE508.out) | exact HB.out)⟩
        · rw [if_neg c8] at H
          have c8b0 : decide ((wrap64 (65515 - (wrap64 (20 + (l0_8.length : Int))))) < (l0_9.length : Int)) = false := decide_eq_false c8
          clear c8
          replace H := Option.bind_eq_some_iff.mp H
          obtain ⟨t509, A100, H⟩ := H
          replace H : ((lychref1_Put16.f t509 a0_1).bind fun t512 => ((lychref1_Put32.f t512 a0_2).bind fun t515 => ((lychref1_Put32.f t515 a0_3).bind fun t518 => ((some (([(((wrap64 (Int.tdiv (wrap64 (20 + (l0_8.length : Int))) 4)) % 256) * 16) % 256, a0_4] : List Int) : List Int)).bind fun y521 => (if t518.length + y521.length < 140737488355328 then ((lychref1_Put16.f (t518 ++ y521) a0_5).bind fun t527 => ((lychref1_Put16.f t527 a0_6).bind fun t530 => ((lychref1_Put16.f t530 a0_7).bind fun t533 => (if t533.length + l0_8.length < 140737488355328 then ((some (t533 ++ l0_8 : List Int)).bind fun y536 => (if y536.length + l0_9.length < 140737488355328 then (some ((y536 ++ l0_9), 0)) else (none))) else (none))))) else (none)))))) = some (r1, r2) := H
          have A10 := Aside0.mk A100
          clear A100
          replace H := Option.bind_eq_some_iff.mp H
          obtain ⟨t512, A110, H⟩ := H
          replace H : ((lychref1_Put32.f t512 a0_2).bind fun t515 => ((lychref1_Put32.f t515 a0_3).bind fun t518 => ((some (([(((wrap64 (Int.tdiv (wrap64 (20 + (l0_8.length : Int))) 4)) % 256) * 16) % 256, a0_4] : List Int) : List Int)).bind fun y521 => (if t518.length + y521.length < 140737488355328 then ((lychref1_Put16.f (t518 ++ y521) a0_5).bind fun t527 => ((lychref1_Put16.f t527 a0_6).bind fun t530 => ((lychref1_Put16.f t530 a0_7).bind fun t533 => (if t533.length + l0_8.length < 140737488355328 then ((some (t533 ++ l0_8 : List Int)).bind fun y536 => (if y536.length + l0_9.length < 140737488355328 then (some ((y536 ++ l0_9), 0)) else (none))) else (none))))) else (none))))) = some (r1, r2) := H
          have A11 := Aside0.mk A110
          clear A110
          replace H := Option.bind_eq_some_iff.mp H
          obtain ⟨t515, A120, H⟩ := H
          replace H : ((lychref1_Put32.f t515 a0_3).bind fun t518 => ((some (([(((wrap64 (Int.tdiv (wrap64 (20 + (l0_8.length : Int))) 4)) % 256) * 16) % 256, a0_4] : List Int) : List Int)).bind fun y521 => (if t518.length + y521.length < 140737488355328 then ((lychref1_Put16.f (t518 ++ y521) a0_5).bind fun t527 => ((lychref1_Put16.f t527 a0_6).bind fun t530 => ((lychref1_Put16.f t530 a0_7).bind fun t533 => (if t533.length + l0_8.length < 140737488355328 then ((some (t533 ++ l0_8 : List Int)).bind fun y536 => (if y536.length + l0_9.length < 140737488355328 then (some ((y536 ++ l0_9), 0)) else (none))) else (none))))) else (none)))) = some (r1, r2) := H
          have A12 := Aside0.mk A120
          clear A120
          replace H := Option.bind_eq_some_iff.mp H
          obtain ⟨t518, A130, H⟩ := H
          replace H : ((some (([(((wrap64 (Int.tdiv (wrap64 (20 + (l0_8.length : Int))) 4)) % 256) * 16) % 256, a0_4] : List Int) : List Int)).bind fun y521 => (if t518.length + y521.length < 140737488355328 then ((lychref1_Put16.f (t518 ++ y521) a0_5).bind fun t527 => ((lychref1_Put16.f t527 a0_6).bind fun t530 => ((lychref1_Put16.f t530 a0_7).bind fun t533 => (if t533.length + l0_8.length < 140737488355328 then ((some (t533 ++ l0_8 : List Int)).bind fun y536 => (if y536.length + l0_9.length < 140737488355328 then (some ((y536 ++ l0_9), 0)) else (none))) else (none))))) else (none))) = some (r1, r2) := H
          have A13 := Aside0.mk A130
          clear A130
          obtain ⟨y521, hy521⟩ : ∃ y_ : List Int, y_ = (([(((wrap64 (Int.tdiv (wrap64 (20 + (l0_8.length : Int))) 4)) % 256) * 16) % 256, a0_4] : List Int)) := ⟨_, rfl⟩
          replace H : (if t518.length + y521.length < 140737488355328 then ((lychref1_Put16.f (t518 ++ y521) a0_5).bind fun t527 => ((lychref1_Put16.f t527 a0_6).bind fun t530 => ((lychref1_Put16.f t530 a0_7).bind fun t533 => (if t533.length + l0_8.length < 140737488355328 then ((some (t533 ++ l0_8 : List Int)).bind fun y536 => (if y536.length + l0_9.length < 140737488355328 then (some ((y536 ++ l0_9), 0)) else (none))) else (none))))) else (none)) = some (r1, r2) := by first | (rw [hy521]; with_reducible exact H) | (have H2_ := (Option.bind_some _ _).symm.trans H; rw [hy521]; with_reducible exact H2_) | (have H2_ := (Option.bind_some _ _).symm.trans H; with_reducible exact H2_) | with_reducible exact H | (rw [hy521]; exact H) | exact H
          have Ny521 := Aside0.mk hy521
          clear hy521
          by_cases c14 : t518.length + y521.length < 140737488355328
          · rw [if_pos c14] at H
            have LMc14 := Aside0.mk c14
            clear c14
            obtain ⟨y524, hy524⟩ : ∃ y_ : List Int, y_ = (t518 ++ y521) := ⟨_, rfl⟩
            replace H : ((lychref1_Put16.f y524 a0_5).bind fun t527 => ((lychref1_Put16.f t527 a0_6).bind fun t530 => ((lychref1_Put16.f t530 a0_7).bind fun t533 => (if t533.length + l0_8.length < 140737488355328 then ((some (t533 ++ l0_8 : List Int)).bind fun y536 => (if y536.length + l0_9.length < 140737488355328 then (some ((y536 ++ l0_9), 0)) else (none))) else (none))))) = some (r1, r2) := by first | (rw [hy524]; with_reducible exact H) | (have H2_ := (Option.bind_some _ _).symm.trans H; rw [hy524]; with_reducible exact H2_) | (have H2_ := (Option.bind_some _ _).symm.trans H; with_reducible exact H2_) | with_reducible exact H | (rw [hy524]; exact H) | exact H
            have Ny524 := Aside0.mk hy524
            clear hy524
            replace H := Option.bind_eq_some_iff.mp H
            obtain ⟨t527, A150, H⟩ := H
            replace H : ((lychref1_Put16.f t527 a0_6).bind fun t530 => ((lychref1_Put16.f t530 a0_7).bind fun t533 => (if t533.length + l0_8.length < 140737488355328 then ((some (t533 ++ l0_8 : List Int)).bind fun y536 => (if y536.length + l0_9.length < 140737488355328 then (some ((y536 ++ l0_9), 0)) else (none))) else (none)))) = some (r1, r2) := H
            have A15 := Aside0.mk A150
            clear A150
            replace H := Option.bind_eq_some_iff.mp H
            obtain ⟨t530, A160, H⟩ := H
            replace H : ((lychref1_Put16.f t530 a0_7).bind fun t533 => (if t533.length + l0_8.length < 140737488355328 then ((some (t533 ++ l0_8 : List Int)).bind fun y536 => (if y536.length + l0_9.length < 140737488355328 then (some ((y536 ++ l0_9), 0)) else (none))) else (none))) = some (r1, r2) := H
            have A16 := Aside0.mk A160
            clear A160
            replace H := Option.bind_eq_some_iff.mp H
            obtain ⟨t533, A170, H⟩ := H
            replace H : (if t533.length + l0_8.length < 140737488355328 then ((some (t533 ++ l0_8 : List Int)).bind fun y536 => (if y536.length + l0_9.length < 140737488355328 then (some ((y536 ++ l0_9), 0)) else (none))) else (none)) = some (r1, r2) := H
            have A17 := Aside0.mk A170
            clear A170
            by_cases c18 : t533.length + l0_8.length < 140737488355328
            · rw [if_pos c18] at H
              have LMc18 := Aside0.mk c18
              clear c18
              obtain ⟨y536, hy536⟩ : ∃ y_ : List Int, y_ = (t533 ++ l0_8) := ⟨_, rfl⟩
              replace H : (if y536.length + l0_9.length < 140737488355328 then (some ((y536 ++ l0_9), 0)) else (none)) = some (r1, r2) := by first | (rw [hy536]; with_reducible exact H) | (have H2_ := (Option.bind_some _ _).symm.trans H; rw [hy536]; with_reducible exact H2_) | (have H2_ := (Option.bind_some _ _).symm.trans H; with_reducible exact H2_) | with_reducible exact H | (rw [hy536]; exact H) | exact H
              have Ny536 := Aside0.mk hy536
              clear hy536
              by_cases c19 : y536.length + l0_9.length < 140737488355328
              · rw [if_pos c19] at H
                have LMc19 := Aside0.mk c19
                clear c19
                obtain ⟨y539, hy539⟩ : ∃ y_ : List Int, y_ = (y536 ++ l0_9) := ⟨_, rfl⟩
                replace H : (some (y539, 0)) = some (r1, r2) := by first | (rw [hy539]; with_reducible exact H) | (have H2_ := (Option.bind_some _ _).symm.trans H; rw [hy539]; with_reducible exact H2_) | (have H2_ := (Option.bind_some _ _).symm.trans H; with_reducible exact H2_) | with_reducible exact H | (rw [hy539]; exact H) | exact H
                have Ny539 := Aside0.mk hy539
                clear hy539
                simp only [Option.some.injEq, Prod.mk.injEq] at H
                obtain ⟨rfl, rfl⟩ := H
                have hcz20_0 : wc.cell? ⟨gb508, 0, none⟩ = some (.int .u16 a0_0) := (blk_cell BK508.out 0).trans rfl
                have hcz20_1 : wc.cell? ⟨gb508, 1, none⟩ = some (.int .u16 a0_1) := (blk_cell BK508.out 1).trans rfl
                have hcz20_2 : wc.cell? ⟨gb508, 2, none⟩ = some (.int .u32 a0_2) := (blk_cell BK508.out 2).trans rfl
                have hcz20_3 : wc.cell? ⟨gb508, 3, none⟩ = some (.int .u32 a0_3) := (blk_cell BK508.out 3).trans rfl
                have hcz20_4 : wc.cell? ⟨gb508, 4, none⟩ = some (.int .u8 a0_4) := (blk_cell BK508.out 4).trans rfl
                have hcz20_5 : wc.cell? ⟨gb508, 5, none⟩ = some (.int .u16 a0_5) := (blk_cell BK508.out 5).trans rfl
                have hcz20_6 : wc.cell? ⟨gb508, 6, none⟩ = some (.int .u16 a0_6) := (blk_cell BK508.out 6).trans rfl
                have hcz20_7 : wc.cell? ⟨gb508, 7, none⟩ = some (.int .u16 a0_7) := (blk_cell BK508.out 7).trans rfl
                have hcz20_8 : wc.cell? ⟨gb508, 8, none⟩ = some (.slice A0_8 l0_8.length c0_8) := (blk_cell BK508.out 8).trans rfl
                have hcz20_9 : wc.cell? ⟨gb508, 9, none⟩ = some (.slice A0_9 l0_9.length c0_9) := (blk_cell BK508.out 9).trans rfl
                have hfz20_0 := blk_frozen BK508.out 0
                have hfz20_1 := blk_frozen BK508.out 1
                have hfz20_2 := blk_frozen BK508.out 2
                have hfz20_3 := blk_frozen BK508.out 3
                have hfz20_4 := blk_frozen BK508.out 4
                have hfz20_5 := blk_frozen BK508.out 5
                have hfz20_6 := blk_frozen BK508.out 6
                have hfz20_7 := blk_frozen BK508.out 7
                have hfz20_8 := blk_frozen BK508.out 8
                have hfz20_9 := blk_frozen BK508.out 9
                try go_wp2
                have n0_ := Aside0.mk (blk_drew BK508.out)
                have n1_ := Aside0.mk (below_drew1 HB.out)
                clear BK508
                clear HB
                have BK508 := n0_
                have HB := n1_
                clear n0_ n1_
                refine start_ (n := 13) (S := fun w' => w'.cell? ⟨gb508, 0, none⟩ = some (.int .u16 a0_0) ∧ w'.cell? ⟨gb508, 1, none⟩ = some (.int .u16 a0_1) ∧ w'.cell? ⟨gb508, 2, none⟩ = some (.int .u32 a0_2) ∧ w'.cell? ⟨gb508, 3, none⟩ = some (.int .u32 a0_3) ∧ w'.cell? ⟨gb508, 4, none⟩ = some (.int .u8 a0_4) ∧ w'.cell? ⟨gb508, 5, none⟩ = some (.int .u16 a0_5) ∧ w'.cell? ⟨gb508, 6, none⟩ = some (.int .u16 a0_6) ∧ w'.cell? ⟨gb508, 7, none⟩ = some (.int .u16 a0_7) ∧ w'.cell? ⟨gb508, 8, none⟩ = some (.slice A0_8 l0_8.length c0_8) ∧ w'.cell? ⟨gb508, 9, none⟩ = some (.slice A0_9 l0_9.length c0_9)) (ds := []) #[false, false, false, false, false, false, false, false, false, false, false, false, false] (by kernel_rfl) rfl rfl ⟨(blk_cell BK508.out 0).trans rfl, (blk_cell BK508.out 1).trans rfl, (blk_cell BK508.out 2).trans rfl, (blk_cell BK508.out 3).trans rfl, (blk_cell BK508.out 4).trans rfl, (blk_cell BK508.out 5).trans rfl, (blk_cell BK508.out 6).trans rfl, (blk_cell BK508.out 7).trans rfl, (blk_cell BK508.out 8).trans rfl, (blk_cell BK508.out 9).trans rfl⟩ (fun hHeld => ?_); refine with_tabW lychref1_TcpBytes.tab6 lychref1_TcpBytes.bits6 (fun HT_ HW_ => ?_)
                generalize wc.drew = w21 at BK508 HB hHeld ⊢
                refine pure_ (i := 0) (N := some 27) (v := ?_) (a' := ?_) #[true, false, false, false, false, false, false, false, false, false, false, false, false] rfl rfl (any_of HT_.out (by kernel_rfl)) (fun _ _ _ h => h) (Or.inl ⟨by rfl, ?_⟩) ?_ ?_
                rotate_left
                · intro w'
                  go_simp
                  with_reducible rfl
                rotate_left
                · simp only [Act.put, List.setIfInBounds_toArray, List.set_cons_zero, List.set_cons_succ, i64_w, i32_w]
                  rfl
                refine pure_ (i := 3) (N := some 30) (v := ?_) (a' := ?_) #[true, false, false, true, false, false, false, false, false, false, false, false, false] rfl rfl (any_of HT_.out (by kernel_rfl)) (fun _ _ _ h => h) (Or.inl ⟨by rfl, ?_⟩) ?_ ?_
                rotate_left
                · intro w'
                  go_simp
                  with_reducible rfl
                rotate_left
                · simp only [Act.put, List.setIfInBounds_toArray, List.set_cons_zero, List.set_cons_succ, i64_w, i32_w]
                  rfl
                refine pure_ (i := 6) (N := some 33) (v := ?_) (a' := ?_) #[true, false, false, true, false, false, true, false, false, false, false, false, false] rfl rfl (any_of HT_.out (by kernel_rfl)) (fun _ _ _ h => h) (Or.inl ⟨by rfl, ?_⟩) ?_ ?_
                rotate_left
                · intro w'
                  go_simp
                  with_reducible rfl
                rotate_left
                · simp only [Act.put, List.setIfInBounds_toArray, List.set_cons_zero, List.set_cons_succ, i64_w, i32_w]
                  rfl
                refine pure_ (i := 9) (N := some 36) (v := ?_) (a' := ?_) #[true, false, false, true, false, false, true, false, false, true, false, false, false] rfl rfl (any_of HT_.out (by kernel_rfl)) (fun _ _ _ h => h) (Or.inl ⟨by rfl, ?_⟩) ?_ ?_
                rotate_left
                · intro w'
                  go_simp
                  with_reducible rfl
                rotate_left
                · simp only [Act.put, List.setIfInBounds_toArray, List.set_cons_zero, List.set_cons_succ, i64_w, i32_w]
                  rfl
                refine take_ (i := 1) (N := some 28) (v := ?_) (a' := ?_) #[true, true, false, true, false, false, true, false, false, true, false, false, false] rfl rfl (take_ofW HT_.out HW_.out (by kernel_rfl)) (fun _ _ _ h => h) (Or.inl ⟨by rfl, ?_⟩) hHeld ?_ ?_
                rotate_left
                · rintro w' ⟨s0, s1, s2, s3, s4, s5, s6, s7, s8, s9⟩
                  go_simp
                  with_reducible rfl
                rotate_left
                · simp only [Act.put, List.setIfInBounds_toArray, List.set_cons_zero, List.set_cons_succ, i64_w, i32_w]
                  rfl
                refine take_ (i := 4) (N := some 31) (v := ?_) (a' := ?_) #[true, true, false, true, true, false, true, false, false, true, false, false, false] rfl rfl (take_ofW HT_.out HW_.out (by kernel_rfl)) (fun _ _ _ h => h) (Or.inl ⟨by rfl, ?_⟩) hHeld ?_ ?_
                rotate_left
                · rintro w' ⟨s0, s1, s2, s3, s4, s5, s6, s7, s8, s9⟩
                  go_simp
                  with_reducible rfl
                rotate_left
                · simp only [Act.put, List.setIfInBounds_toArray, List.set_cons_zero, List.set_cons_succ, i64_w, i32_w]
                  rfl
                refine take_ (i := 7) (N := some 34) (v := ?_) (a' := ?_) #[true, true, false, true, true, false, true, true, false, true, false, false, false] rfl rfl (take_ofW HT_.out HW_.out (by kernel_rfl)) (fun _ _ _ h => h) (Or.inl ⟨by rfl, ?_⟩) hHeld ?_ ?_
                rotate_left
                · rintro w' ⟨s0, s1, s2, s3, s4, s5, s6, s7, s8, s9⟩
                  go_simp
                  with_reducible rfl
                rotate_left
                · simp only [Act.put, List.setIfInBounds_toArray, List.set_cons_zero, List.set_cons_succ, i64_w, i32_w]
                  rfl
                refine take_ (i := 10) (N := some 37) (v := ?_) (a' := ?_) #[true, true, false, true, true, false, true, true, false, true, true, false, false] rfl rfl (take_ofW HT_.out HW_.out (by kernel_rfl)) (fun _ _ _ h => h) (Or.inl ⟨by rfl, ?_⟩) hHeld ?_ ?_
                rotate_left
                · rintro w' ⟨s0, s1, s2, s3, s4, s5, s6, s7, s8, s9⟩
                  go_simp
                  with_reducible rfl
                rotate_left
                · simp only [Act.put, List.setIfInBounds_toArray, List.set_cons_zero, List.set_cons_succ, i64_w, i32_w]
                  rfl
                refine one_ (i := 2) (N := some 29) #[true, true, true, true, true, false, true, true, false, true, true, false, false] rfl rfl (one_of HT_.out (by kernel_rfl)) (by decide) (fun K hK => ?_)
                refine goes_ Try.func35 (by kernel_rfl) rfl #[.slice none 0 0, .int .u16 a0_0] (by rfl) rfl rfl (by (try simp only [List.map_toArray, List.map_cons, List.map_nil]); first | done | rfl | (simp only [List.length_drop, List.length_take]; rfl) | (go_simp; done) | (simp [Act.eval, IntKind.signed]; done) | (simp [Act.eval, IntKind.signed]; rfl)) ?_
                refine (lychref1_Put16.calls (fun k_ => some k_ = (.slice none 0 0 : Value).ownBlock) (.slice none 0 0) ([] : List Int) a0_0 t509 w _ ?side1 ?side2 A10.out).mono ?_
                (case side1 => repeat (first | (with_reducible first | exact HB.out | apply below_alloc | apply pw_below_drewN | apply below_drew1 | refine below_set ?_ GE508.out) | exact HB.out))
                (case side2 => exact Kd.R_nil _ _ _ _ _)
                rintro e w22 ⟨v510, rfl, ho0, hb, hkp⟩
                refine ⟨_, rfl, ?_⟩
                have n0_ := Aside0.mk (blk_kept (by (with_reducible repeat (first | refine blk_drewN ?_ _ | refine blk_drew ?_ | refine blk_alloc ?_ _)); exact BK508.out) hkp (fun hs_ => (fun e_ => by simp [Value.ownBlock] at e_) hs_))
                have n1_ := Aside0.mk (Kd.R_mono (ok' := fun k_ => True) ho0 (fun k_ hk_ => trivial))
                have n2_ := Aside0.mk (hb)
                clear BK508
                clear HB
                have BK508 := n0_
                have HO511 := n1_
                have HB := n2_
                clear n0_ n1_ n2_
                (try clear hb)
                (try clear hkp)
                (try clear ho0)
                obtain ⟨Ao23, co23, eo23⟩ := Kd.R_slice HO511.out
                (first | subst eo23 | (injection eo23 with f1_ f2_ f3_; have f4_ := f1_.symm; have f5_ := f3_.symm; clear f1_ f2_ f3_; subst f4_; subst f5_))
                refine hK.out _ _ ⟨(blk_cell BK508.out 0).trans rfl, (blk_cell BK508.out 1).trans rfl, (blk_cell BK508.out 2).trans rfl, (blk_cell BK508.out 3).trans rfl, (blk_cell BK508.out 4).trans rfl, (blk_cell BK508.out 5).trans rfl, (blk_cell BK508.out 6).trans rfl, (blk_cell BK508.out 7).trans rfl, (blk_cell BK508.out 8).trans rfl, (blk_cell BK508.out 9).trans rfl⟩ (fun hHeld => ?_)
                clear hK K
                refine norm_ (a' := ?_) ?_ ?_
                rotate_left
                · show Act.put _ (some 29) _ = _
                  simp only [Act.put, List.setIfInBounds_toArray, List.set_cons_zero, List.set_cons_succ, i64_w, i32_w]
                  rfl
                refine one_ (i := 5) (N := some 32) #[true, true, true, true, true, true, true, true, false, true, true, false, false] rfl rfl (one_of HT_.out (by kernel_rfl)) (by decide) (fun K hK => ?_)
                refine goes_ Try.func35 (by kernel_rfl) rfl #[.slice Ao23 t509.length co23, .int .u16 a0_1] (by rfl) rfl rfl (by (try simp only [List.map_toArray, List.map_cons, List.map_nil]); first | done | rfl | (simp only [List.length_drop, List.length_take]; rfl) | (go_simp; done) | (simp [Act.eval, IntKind.signed]; done) | (simp [Act.eval, IntKind.signed]; rfl)) ?_
                with_reducible refine (lychref1_Put16.calls (fun k_ => some k_ = (.slice Ao23 t509.length co23 : Value).ownBlock) (.slice Ao23 t509.length co23) t509 a0_1 t512 w _ ?side1 ?side2 A11.out).mono ?_
                (case side1 => repeat (first | (with_reducible first | exact HB.out | apply below_alloc | apply pw_below_drewN | apply below_drew1 | refine below_set ?_ GE508.out) | exact HB.out))
                (case side2 => exact Kd.R_tight rfl HO511.out)
                rintro e w24 ⟨v513, rfl, ho0, hb, hkp⟩
                refine ⟨_, rfl, ?_⟩
                have n0_ := Aside0.mk (blk_kept (by (with_reducible repeat (first | refine blk_drewN ?_ _ | refine blk_drew ?_ | refine blk_alloc ?_ _)); exact BK508.out) hkp (fun hs_ => (fun e_ => (Kd.R_ne HO511.out BK508.out (by decide)) e_) hs_))
                have n1_ := Aside0.mk (Kd.R_mono (ok' := fun k_ => True) ho0 (fun k_ hk_ => trivial))
                have n2_ := Aside0.mk (hb)
                clear BK508
                clear HB
                clear HO511
                have BK508 := n0_
                have HO514 := n1_
                have HB := n2_
                clear n0_ n1_ n2_
                (try clear hb)
                (try clear hkp)
                (try clear ho0)
                obtain ⟨Ao25, co25, eo25⟩ := Kd.R_slice HO514.out
                (first | subst eo25 | (injection eo25 with f1_ f2_ f3_; have f4_ := f1_.symm; have f5_ := f3_.symm; clear f1_ f2_ f3_; subst f4_; subst f5_))
                refine hK.out _ _ ⟨(blk_cell BK508.out 0).trans rfl, (blk_cell BK508.out 1).trans rfl, (blk_cell BK508.out 2).trans rfl, (blk_cell BK508.out 3).trans rfl, (blk_cell BK508.out 4).trans rfl, (blk_cell BK508.out 5).trans rfl, (blk_cell BK508.out 6).trans rfl, (blk_cell BK508.out 7).trans rfl, (blk_cell BK508.out 8).trans rfl, (blk_cell BK508.out 9).trans rfl⟩ (fun hHeld => ?_)
                clear hK K
                refine norm_ (a' := ?_) ?_ ?_
                rotate_left
                · show Act.put _ (some 32) _ = _
                  simp only [Act.put, List.setIfInBounds_toArray, List.set_cons_zero, List.set_cons_succ, i64_w, i32_w]
                  rfl
                refine one_ (i := 8) (N := some 35) #[true, true, true, true, true, true, true, true, true, true, true, false, false] rfl rfl (one_of HT_.out (by kernel_rfl)) (by decide) (fun K hK => ?_)
                refine goes_ Try.func46 (by kernel_rfl) rfl #[.slice Ao25 t512.length co25, .int .u32 a0_2] (by rfl) rfl rfl (by (try simp only [List.map_toArray, List.map_cons, List.map_nil]); first | done | rfl | (simp only [List.length_drop, List.length_take]; rfl) | (go_simp; done) | (simp [Act.eval, IntKind.signed]; done) | (simp [Act.eval, IntKind.signed]; rfl)) ?_
                with_reducible refine (lychref1_Put32.calls (fun k_ => some k_ = (.slice Ao25 t512.length co25 : Value).ownBlock) (.slice Ao25 t512.length co25) t512 a0_2 t515 w _ ?side1 ?side2 A12.out).mono ?_
                (case side1 => repeat (first | (with_reducible first | exact HB.out | apply below_alloc | apply pw_below_drewN | apply below_drew1 | refine below_set ?_ GE508.out) | exact HB.out))
                (case side2 => exact Kd.R_tight rfl HO514.out)
                rintro e w26 ⟨v516, rfl, ho0, hb, hkp⟩
                refine ⟨_, rfl, ?_⟩
                have n0_ := Aside0.mk (blk_kept (by (with_reducible repeat (first | refine blk_drewN ?_ _ | refine blk_drew ?_ | refine blk_alloc ?_ _)); exact BK508.out) hkp (fun hs_ => (fun e_ => (Kd.R_ne HO514.out BK508.out (by decide)) e_) hs_))
                have n1_ := Aside0.mk (Kd.R_mono (ok' := fun k_ => True) ho0 (fun k_ hk_ => trivial))
                have n2_ := Aside0.mk (hb)
                clear BK508
                clear HB
                clear HO514
                have BK508 := n0_
                have HO517 := n1_
                have HB := n2_
                clear n0_ n1_ n2_
                (try clear hb)
                (try clear hkp)
                (try clear ho0)
                obtain ⟨Ao27, co27, eo27⟩ := Kd.R_slice HO517.out
                (first | subst eo27 | (injection eo27 with f1_ f2_ f3_; have f4_ := f1_.symm; have f5_ := f3_.symm; clear f1_ f2_ f3_; subst f4_; subst f5_))
                refine hK.out _ _ ⟨(blk_cell BK508.out 0).trans rfl, (blk_cell BK508.out 1).trans rfl, (blk_cell BK508.out 2).trans rfl, (blk_cell BK508.out 3).trans rfl, (blk_cell BK508.out 4).trans rfl, (blk_cell BK508.out 5).trans rfl, (blk_cell BK508.out 6).trans rfl, (blk_cell BK508.out 7).trans rfl, (blk_cell BK508.out 8).trans rfl, (blk_cell BK508.out 9).trans rfl⟩ (fun hHeld => ?_)
                clear hK K
                refine norm_ (a' := ?_) ?_ ?_
                rotate_left
                · show Act.put _ (some 35) _ = _
                  simp only [Act.put, List.setIfInBounds_toArray, List.set_cons_zero, List.set_cons_succ, i64_w, i32_w]
                  rfl
                refine one_ (i := 11) (N := some 38) #[true, true, true, true, true, true, true, true, true, true, true, true, false] rfl rfl (one_of HT_.out (by kernel_rfl)) (by decide) (fun K hK => ?_)
                refine goes_ Try.func46 (by kernel_rfl) rfl #[.slice Ao27 t515.length co27, .int .u32 a0_3] (by rfl) rfl rfl (by (try simp only [List.map_toArray, List.map_cons, List.map_nil]); first | done | rfl | (simp only [List.length_drop, List.length_take]; rfl) | (go_simp; done) | (simp [Act.eval, IntKind.signed]; done) | (simp [Act.eval, IntKind.signed]; rfl)) ?_
                with_reducible refine (lychref1_Put32.calls (fun k_ => some k_ = (.slice Ao27 t515.length co27 : Value).ownBlock) (.slice Ao27 t515.length co27) t515 a0_3 t518 w _ ?side1 ?side2 A13.out).mono ?_
                (case side1 => repeat (first | (with_reducible first | exact HB.out | apply below_alloc | apply pw_below_drewN | apply below_drew1 | refine below_set ?_ GE508.out) | exact HB.out))
                (case side2 => exact Kd.R_tight rfl HO517.out)
                rintro e w28 ⟨v519, rfl, ho0, hb, hkp⟩
                refine ⟨_, rfl, ?_⟩
                have n0_ := Aside0.mk (blk_kept (by (with_reducible repeat (first | refine blk_drewN ?_ _ | refine blk_drew ?_ | refine blk_alloc ?_ _)); exact BK508.out) hkp (fun hs_ => (fun e_ => (Kd.R_ne HO517.out BK508.out (by decide)) e_) hs_))
                have n1_ := Aside0.mk (Kd.R_mono (ok' := fun k_ => True) ho0 (fun k_ hk_ => trivial))
                have n2_ := Aside0.mk (hb)
                clear BK508
                clear HB
                clear HO517
                have BK508 := n0_
                have HO520 := n1_
                have HB := n2_
                clear n0_ n1_ n2_
                (try clear hb)
                (try clear hkp)
                (try clear ho0)
                refine hK.out _ _ ⟨(blk_cell BK508.out 0).trans rfl, (blk_cell BK508.out 1).trans rfl, (blk_cell BK508.out 2).trans rfl, (blk_cell BK508.out 3).trans rfl, (blk_cell BK508.out 4).trans rfl, (blk_cell BK508.out 5).trans rfl, (blk_cell BK508.out 6).trans rfl, (blk_cell BK508.out 7).trans rfl, (blk_cell BK508.out 8).trans rfl, (blk_cell BK508.out 9).trans rfl⟩ (fun hHeld => ?_)
                clear hK K
                refine norm_ (a' := ?_) ?_ ?_
                rotate_left
                · show Act.put _ (some 38) _ = _
                  simp only [Act.put, List.setIfInBounds_toArray, List.set_cons_zero, List.set_cons_succ, i64_w, i32_w]
                  rfl
                refine pure_ (i := 12) (N := some 5) (v := ?_) (a' := ?_) #[true, true, true, true, true, true, true, true, true, true, true, true, true] rfl rfl (any_of HT_.out (by kernel_rfl)) (fun _ _ _ h => h) (Or.inl ⟨by rfl, ?_⟩) ?_ ?_
                rotate_left
                · intro w'
                  go_simp
                  with_reducible rfl
                rotate_left
                · simp only [Act.put, List.setIfInBounds_toArray, List.set_cons_zero, List.set_cons_succ, i64_w, i32_w]
                  rfl
                refine done_ (done_of HT_.out (by kernel_rfl)) ?_
                try go_wp2
                have n0_ := Aside0.mk (Kd.R_drew HO520.out)
                have n1_ := Aside0.mk (blk_drew BK508.out)
                have n2_ := Aside0.mk (below_drew1 HB.out)
                clear HO520
                clear BK508
                clear HB
                have HO520 := n0_
                have BK508 := n1_
                have HB := n2_
                clear n0_ n1_ n2_
                refine start_ (n := 13) (S := fun w' => w'.cell? ⟨gb508, 0, none⟩ = some (.int .u16 a0_0) ∧ w'.cell? ⟨gb508, 1, none⟩ = some (.int .u16 a0_1) ∧ w'.cell? ⟨gb508, 2, none⟩ = some (.int .u32 a0_2) ∧ w'.cell? ⟨gb508, 3, none⟩ = some (.int .u32 a0_3) ∧ w'.cell? ⟨gb508, 4, none⟩ = some (.int .u8 a0_4) ∧ w'.cell? ⟨gb508, 5, none⟩ = some (.int .u16 a0_5) ∧ w'.cell? ⟨gb508, 6, none⟩ = some (.int .u16 a0_6) ∧ w'.cell? ⟨gb508, 7, none⟩ = some (.int .u16 a0_7) ∧ w'.cell? ⟨gb508, 8, none⟩ = some (.slice A0_8 l0_8.length c0_8) ∧ w'.cell? ⟨gb508, 9, none⟩ = some (.slice A0_9 l0_9.length c0_9)) (ds := []) #[false, false, false, false, false, false, false, false, false, false, false, false, false] (by kernel_rfl) rfl rfl ⟨(blk_cell BK508.out 0).trans rfl, (blk_cell BK508.out 1).trans rfl, (blk_cell BK508.out 2).trans rfl, (blk_cell BK508.out 3).trans rfl, (blk_cell BK508.out 4).trans rfl, (blk_cell BK508.out 5).trans rfl, (blk_cell BK508.out 6).trans rfl, (blk_cell BK508.out 7).trans rfl, (blk_cell BK508.out 8).trans rfl, (blk_cell BK508.out 9).trans rfl⟩ (fun hHeld => ?_); refine with_tabW lychref1_TcpBytes.tab7 lychref1_TcpBytes.bits7 (fun HT_ HW_ => ?_)
                generalize w28.drew = w29 at HO520 BK508 HB hHeld ⊢
                refine pure_ (i := 0) (N := some 39) (v := ?_) (a' := ?_) #[true, false, false, false, false, false, false, false, false, false, false, false, false] rfl rfl (any_of HT_.out (by kernel_rfl)) (fun _ _ _ h => h) (Or.inl ⟨by rfl, ?_⟩) ?_ ?_
                rotate_left
                · intro w'
                  go_simp
                  with_reducible rfl
                rotate_left
                · simp only [Act.put, List.setIfInBounds_toArray, List.set_cons_zero, List.set_cons_succ, i64_w, i32_w]
                  rfl
                refine pure_ (i := 1) (N := some 40) (v := ?_) (a' := ?_) #[true, true, false, false, false, false, false, false, false, false, false, false, false] rfl rfl (any_of HT_.out (by kernel_rfl)) (fun _ _ _ h => h) (Or.inl ⟨by rfl, ?_⟩) ?_ ?_
                rotate_left
                · intro w'
                  go_simp
                  with_reducible rfl
                rotate_left
                · simp only [Act.put, List.setIfInBounds_toArray, List.set_cons_zero, List.set_cons_succ, i64_w, i32_w]
                  rfl
                refine pure_ (i := 2) (N := some 41) (v := ?_) (a' := ?_) #[true, true, true, false, false, false, false, false, false, false, false, false, false] rfl rfl (any_of HT_.out (by kernel_rfl)) (fun _ _ _ h => h) (Or.inl ⟨by rfl, ?_⟩) ?_ ?_
                rotate_left
                · intro w'
                  go_simp
                  with_reducible rfl
                rotate_left
                · simp only [Act.put, List.setIfInBounds_toArray, List.set_cons_zero, List.set_cons_succ, i64_w, i32_w]
                  rfl
                refine pure_ (i := 3) (N := some 42) (v := ?_) (a' := ?_) #[true, true, true, true, false, false, false, false, false, false, false, false, false] rfl rfl (any_of HT_.out (by kernel_rfl)) (fun _ _ _ h => h) (Or.inl ⟨by rfl, ?_⟩) ?_ ?_
                rotate_left
                · intro w'
                  go_simp
                  with_reducible rfl
                rotate_left
                · simp only [Act.put, List.setIfInBounds_toArray, List.set_cons_zero, List.set_cons_succ, i64_w, i32_w]
                  rfl
                refine pure_ (i := 4) (N := some 43) (v := ?_) (a' := ?_) #[true, true, true, true, true, false, false, false, false, false, false, false, false] rfl rfl (any_of HT_.out (by kernel_rfl)) (fun _ _ _ h => h) (Or.inl ⟨by rfl, ?_⟩) ?_ ?_
                rotate_left
                · intro w'
                  go_simp
                  with_reducible rfl
                rotate_left
                · simp only [Act.put, List.setIfInBounds_toArray, List.set_cons_zero, List.set_cons_succ, i64_w, i32_w]
                  rfl
                refine pure_ (i := 5) (N := some 44) (v := ?_) (a' := ?_) #[true, true, true, true, true, true, false, false, false, false, false, false, false] rfl rfl (any_of HT_.out (by kernel_rfl)) (fun _ _ _ h => h) (Or.inl ⟨by rfl, ?_⟩) ?_ ?_
                rotate_left
                · intro w'
                  go_simp
                  with_reducible rfl
                rotate_left
                · simp only [Act.put, List.setIfInBounds_toArray, List.set_cons_zero, List.set_cons_succ, i64_w, i32_w]
                  rfl
                refine pure_ (i := 9) (N := some 48) (v := ?_) (a' := ?_) #[true, true, true, true, true, true, false, false, false, true, false, false, false] rfl rfl (any_of HT_.out (by kernel_rfl)) (fun _ _ _ h => h) (Or.inl ⟨by rfl, ?_⟩) ?_ ?_
                rotate_left
                · intro w'
                  go_simp
                  with_reducible rfl
                rotate_left
                · simp only [Act.put, List.setIfInBounds_toArray, List.set_cons_zero, List.set_cons_succ, i64_w, i32_w]
                  rfl
                refine take_ (i := 6) (N := some 45) (v := ?_) (a' := ?_) #[true, true, true, true, true, true, true, false, false, true, false, false, false] rfl rfl (take_ofW HT_.out HW_.out (by kernel_rfl)) (fun _ _ _ h => h) (Or.inl ⟨by rfl, ?_⟩) hHeld ?_ ?_
                rotate_left
                · rintro w' ⟨s0, s1, s2, s3, s4, s5, s6, s7, s8, s9⟩
                  go_simp
                  with_reducible rfl
                rotate_left
                · simp only [Act.put, List.setIfInBounds_toArray, List.set_cons_zero, List.set_cons_succ, i64_w, i32_w]
                  rfl
                refine take_ (i := 10) (N := some 49) (v := ?_) (a' := ?_) #[true, true, true, true, true, true, true, false, false, true, true, false, false] rfl rfl (take_ofW HT_.out HW_.out (by kernel_rfl)) (fun _ _ _ h => h) (Or.inl ⟨by rfl, ?_⟩) hHeld ?_ ?_
                rotate_left
                · rintro w' ⟨s0, s1, s2, s3, s4, s5, s6, s7, s8, s9⟩
                  go_simp
                  with_reducible rfl
                rotate_left
                · simp only [Act.put, List.setIfInBounds_toArray, List.set_cons_zero, List.set_cons_succ, i64_w, i32_w]
                  rfl
                refine one_ (i := 7) (N := some 46) #[true, true, true, true, true, true, true, true, false, true, true, false, false] rfl rfl (one_of HT_.out (by kernel_rfl)) (by decide) (fun K hK => ?_)
                refine Kd.R_lit_step (Kd.int .u8) _ 5 ?hg (N := 46) ?hd (xs := ([(((wrap64 (Int.tdiv (wrap64 (20 + (l0_8.length : Int))) 4)) % 256) * 16) % 256, a0_4] : List Int)) (inner := [.int .u8 ((((wrap64 (Int.tdiv (wrap64 (20 + (l0_8.length : Int))) 4)) % 256) * 16) % 256), .int .u8 a0_4]) (ok := fun _ => True) (okp := fun _ => True) ?hr ?hp (fun _ hk => hk) trivial (Below.refl _ _) (Nat.le_refl _) (by simp) ?_; (case hd => rfl); (case hg => rfl); (case hr => first | (go_simp; done) | (go_simp; simp only [IntKind.wrap_u8, IntKind.wrap_u16, IntKind.wrap_u32]; done) | (go_simp; rfl)); (case hp => exact (Reps.one (show Kd.M (Kd.int .u8) _ _ _ ((((wrap64 (Int.tdiv (wrap64 (20 + (l0_8.length : Int))) 4)) % 256) * 16) % 256) [.int .u8 ((((wrap64 (Int.tdiv (wrap64 (20 + (l0_8.length : Int))) 4)) % 256) * 16) % 256)] from rfl) (Reps.one (show Kd.M (Kd.int .u8) _ _ _ a0_4 [.int .u8 a0_4] from rfl) (Reps.none _ _))))
                intro v522 w30 ho31 hb hg_ hnew_
                clear hg_ hnew_
                (first | rw [← Ny521.out] at ho31 | (simp only [Int.reduceToNat] at ho31; rw [← Ny521.out] at ho31))
                have n0_ := Aside0.mk (Kd.R_elder' (by (with_reducible repeat (first | apply Kd.R_alloc | apply Kd.R_drewN | apply Kd.R_drew)); exact HO520.out) (Kd.R_base ho31) hb)
                have n1_ := Aside0.mk (Kd.R_lower (Kd.R_new' ho31 (Kd.R_lt (by (with_reducible repeat (first | apply Kd.R_alloc | apply Kd.R_drewN | apply Kd.R_drew)); exact HO520.out))) (below_size (by repeat (first | (with_reducible first | exact HB.out | apply below_alloc | apply pw_below_drewN | apply below_drew1 | refine below_set ?_ GE508.out) | exact HB.out))))
                have n2_ := Aside0.mk (blk_below (g := gb508) (o := .cells #[.int .u16 a0_0, .int .u16 a0_1, .int .u32 a0_2, .int .u32 a0_3, .int .u8 a0_4, .int .u16 a0_5, .int .u16 a0_6, .int .u16 a0_7, .slice A0_8 l0_8.length c0_8, .slice A0_9 l0_9.length c0_9] 49 (0, 0)) (by (with_reducible repeat (first | refine blk_drewN ?_ _ | refine blk_drew ?_ | refine blk_alloc ?_ _)); exact BK508.out) hb)
                have n3_ := Aside0.mk (below_step (by repeat (first | (with_reducible first | exact HB.out | apply below_alloc | apply pw_below_drewN | apply below_drew1 | refine below_set ?_ GE508.out) | exact HB.out)) hb)
                clear HO520
                clear BK508
                clear HB
                have HO520 := n0_
                have HO523 := n1_
                have BK508 := n2_
                have HB := n3_
                clear n0_ n1_ n2_ n3_
                clear hb ho31
                obtain ⟨Ao33, co33, eo33⟩ := Kd.R_slice HO523.out
                (first | subst eo33 | (injection eo33 with f1_ f2_ f3_; have f4_ := f1_.symm; have f5_ := f3_.symm; clear f1_ f2_ f3_; subst f4_; subst f5_))
                refine hK.out _ _ ⟨(blk_cell BK508.out 0).trans rfl, (blk_cell BK508.out 1).trans rfl, (blk_cell BK508.out 2).trans rfl, (blk_cell BK508.out 3).trans rfl, (blk_cell BK508.out 4).trans rfl, (blk_cell BK508.out 5).trans rfl, (blk_cell BK508.out 6).trans rfl, (blk_cell BK508.out 7).trans rfl, (blk_cell BK508.out 8).trans rfl, (blk_cell BK508.out 9).trans rfl⟩ (fun hHeld => ?_)
                clear hK K
                refine norm_ (a' := ?_) ?_ ?_
                rotate_left
                · show Act.put _ (some 46) _ = _
                  simp only [Act.put, List.setIfInBounds_toArray, List.set_cons_zero, List.set_cons_succ, i64_w, i32_w]
                  rfl
                refine one_ (i := 8) (N := some 47) #[true, true, true, true, true, true, true, true, true, true, true, false, false] rfl rfl (one_of HT_.out (by kernel_rfl)) (by decide) (fun K hK => ?_)
                refine Kd.R_append_rows_step (Kd.int .u8) (w0 := w) w.heap.size (by rfl) (.tmp 39) (.tmp 46) 22 5 (.int .u8 0) 1 rfl Try.underlying22 info5 rfl (by decide) (by omega) v519 t518 y521 _ _ _ (fun k_ => some k_ ≠ (.slice Ao33 y521.length co33 : Value).ownBlock) (fun _ => False) rfl rfl ?aO ?aR (fun _ _ h => h) (fun _ h => h.elim) ?aF ?aB ?aS ?aL ?_
                (case aR => repeat (first | exact (Kd.R_reads' HO523.out).2.2 | (with_reducible refine Kd.C_alloc ?_ _) | (with_reducible refine Kd.C_drewN ?_ _) | (with_reducible refine Kd.C_drew ?_)))
                (case aB => exact (by repeat (first | (with_reducible first | exact HB.out | apply below_alloc | apply pw_below_drewN | apply below_drew1 | refine below_set ?_ GE508.out) | exact HB.out)))
                (case aF => exact (fun k_ hk => Kd.fresh' (Kd.R_lt (by (with_reducible repeat (first | apply Kd.R_alloc | apply Kd.R_drewN | apply Kd.R_drew)); exact HO523.out)) k_ hk))
                (case aO => exact (by (with_reducible repeat (first | apply Kd.R_alloc | apply Kd.R_drewN | apply Kd.R_drew)); exact Kd.R_mono HO520.out (fun _ hk => hk.2)))
                (case aS => exact (below_size (by repeat (first | (with_reducible first | exact HB.out | apply below_alloc | apply pw_below_drewN | apply below_drew1 | refine below_set ?_ GE508.out) | exact HB.out))))
                (case aL => have := LMc14.out; omega)
                intro v525 w32 ho hb hg hat
                rw [← Ny524.out] at ho
                have n0_ := Aside0.mk (blk_grown (g := gb508) (o := .cells #[.int .u16 a0_0, .int .u16 a0_1, .int .u32 a0_2, .int .u32 a0_3, .int .u8 a0_4, .int .u16 a0_5, .int .u16 a0_6, .int .u16 a0_7, .slice A0_8 l0_8.length c0_8, .slice A0_9 l0_9.length c0_9] 49 (0, 0)) (by (with_reducible repeat (first | refine blk_drewN ?_ _ | refine blk_drew ?_ | refine blk_alloc ?_ _)); exact BK508.out) hg (Kd.R_ne HO520.out BK508.out (by decide)))
                have n1_ := Aside0.mk (Kd.R_after (ok := (fun _ => True)) (by (with_reducible repeat (first | apply Kd.R_alloc | apply Kd.R_drewN | apply Kd.R_drew)); exact HO523.out) hg hat)
                have n2_ := Aside0.mk (hb)
                have n3_ := Aside0.mk (ho)
                clear BK508
                clear HO523
                clear HB
                clear HO520
                have BK508 := n0_
                have HO523 := n1_
                have HB := n2_
                have HO526 := n3_
                clear n0_ n1_ n2_ n3_
                clear ho hb hg hat
                obtain ⟨Ao34, co34, eo34⟩ := Kd.R_slice HO526.out
                (first | subst eo34 | (injection eo34 with f1_ f2_ f3_; have f4_ := f1_.symm; have f5_ := f3_.symm; clear f1_ f2_ f3_; subst f4_; subst f5_))
                refine hK.out _ _ ⟨(blk_cell BK508.out 0).trans rfl, (blk_cell BK508.out 1).trans rfl, (blk_cell BK508.out 2).trans rfl, (blk_cell BK508.out 3).trans rfl, (blk_cell BK508.out 4).trans rfl, (blk_cell BK508.out 5).trans rfl, (blk_cell BK508.out 6).trans rfl, (blk_cell BK508.out 7).trans rfl, (blk_cell BK508.out 8).trans rfl, (blk_cell BK508.out 9).trans rfl⟩ (fun hHeld => ?_)
                clear hK K
                refine norm_ (a' := ?_) ?_ ?_
                rotate_left
                · show Act.put _ (some 47) _ = _
                  simp only [Act.put, List.setIfInBounds_toArray, List.set_cons_zero, List.set_cons_succ, i64_w, i32_w]
                  rfl
                refine one_ (i := 11) (N := some 50) #[true, true, true, true, true, true, true, true, true, true, true, true, false] rfl rfl (one_of HT_.out (by kernel_rfl)) (by decide) (fun K hK => ?_)
                refine goes_ Try.func35 (by kernel_rfl) rfl #[.slice Ao34 y524.length co34, .int .u16 a0_5] (by rfl) rfl rfl (by (try simp only [List.map_toArray, List.map_cons, List.map_nil]); first | done | rfl | (simp only [List.length_drop, List.length_take]; rfl) | (go_simp; done) | (simp [Act.eval, IntKind.signed]; done) | (simp [Act.eval, IntKind.signed]; rfl)) ?_
                with_reducible refine (lychref1_Put16.calls (fun k_ => some k_ = (.slice Ao34 y524.length co34 : Value).ownBlock) (.slice Ao34 y524.length co34) y524 a0_5 t527 w _ ?side1 ?side2 A15.out).mono ?_
                (case side1 => repeat (first | (with_reducible first | exact HB.out | apply below_alloc | apply pw_below_drewN | apply below_drew1 | refine below_set ?_ GE508.out) | exact HB.out))
                (case side2 => exact Kd.R_tight rfl HO526.out)
                rintro e w35 ⟨v528, rfl, ho0, hb, hkp⟩
                refine ⟨_, rfl, ?_⟩
                have n0_ := Aside0.mk (blk_kept (by (with_reducible repeat (first | refine blk_drewN ?_ _ | refine blk_drew ?_ | refine blk_alloc ?_ _)); exact BK508.out) hkp (fun hs_ => (fun e_ => (Kd.R_ne HO526.out BK508.out (by decide)) e_) hs_))
                have n1_ := Aside0.mk (Kd.R_mono (ok' := fun k_ => some k_ ≠ (v528 : Value).ownBlock) (Kd.R_keptB (HO523.out) hkp (fun k_ hk_ hs_ => (hk_.2) hs_)) (fun k_ hk_ => fun e_ => Or.elim (ho0.1 k_ e_.symm) (fun hs_ => hk_.2.1 hs_) (fun hn_ => Nat.not_le.2 hk_.2.2 hn_)))
                have n2_ := Aside0.mk (Kd.R_mono (ok' := fun k_ => some k_ ≠ (.slice Ao33 y521.length co33 : Value).ownBlock) ho0 (fun k_ hk_ => Or.elim hk_ (fun hs_ => fun e_ => (((HO523.out).1 k_ e_.symm).2) hs_) (fun hn_ => (Kd.fresh' (Kd.R_lt (by (with_reducible repeat (first | apply Kd.R_alloc | apply Kd.R_drewN | apply Kd.R_drew)); exact HO523.out)) k_ hn_))))
                have n3_ := Aside0.mk (hb)
                clear BK508
                clear HO523
                clear HB
                clear HO526
                have BK508 := n0_
                have HO523 := n1_
                have HO529 := n2_
                have HB := n3_
                clear n0_ n1_ n2_ n3_
                (try clear hb)
                (try clear hkp)
                (try clear ho0)
                refine hK.out _ _ ⟨(blk_cell BK508.out 0).trans rfl, (blk_cell BK508.out 1).trans rfl, (blk_cell BK508.out 2).trans rfl, (blk_cell BK508.out 3).trans rfl, (blk_cell BK508.out 4).trans rfl, (blk_cell BK508.out 5).trans rfl, (blk_cell BK508.out 6).trans rfl, (blk_cell BK508.out 7).trans rfl, (blk_cell BK508.out 8).trans rfl, (blk_cell BK508.out 9).trans rfl⟩ (fun hHeld => ?_)
                clear hK K
                refine norm_ (a' := ?_) ?_ ?_
                rotate_left
                · show Act.put _ (some 50) _ = _
                  simp only [Act.put, List.setIfInBounds_toArray, List.set_cons_zero, List.set_cons_succ, i64_w, i32_w]
                  rfl
                refine pure_ (i := 12) (N := some 5) (v := ?_) (a' := ?_) #[true, true, true, true, true, true, true, true, true, true, true, true, true] rfl rfl (any_of HT_.out (by kernel_rfl)) (fun _ _ _ h => h) (Or.inl ⟨by rfl, ?_⟩) ?_ ?_
                rotate_left
                · intro w'
                  go_simp
                  with_reducible rfl
                rotate_left
                · simp only [Act.put, List.setIfInBounds_toArray, List.set_cons_zero, List.set_cons_succ, i64_w, i32_w]
                  rfl
                refine done_ (done_of HT_.out (by kernel_rfl)) ?_
                try go_wp2
                have n0_ := Aside0.mk (Kd.R_drew HO523.out)
                have n1_ := Aside0.mk (Kd.R_drew HO529.out)
                have n2_ := Aside0.mk (blk_drew BK508.out)
                have n3_ := Aside0.mk (below_drew1 HB.out)
                clear HO523
                clear HO529
                clear BK508
                clear HB
                have HO523 := n0_
                have HO529 := n1_
                have BK508 := n2_
                have HB := n3_
                clear n0_ n1_ n2_ n3_
                obtain ⟨Ao37, co37, eo37⟩ := Kd.R_slice HO529.out
                (first | subst eo37 | (injection eo37 with f1_ f2_ f3_; have f4_ := f1_.symm; have f5_ := f3_.symm; clear f1_ f2_ f3_; subst f4_; subst f5_))
                refine start_ (n := 8) (S := fun w' => w'.cell? ⟨gb508, 0, none⟩ = some (.int .u16 a0_0) ∧ w'.cell? ⟨gb508, 1, none⟩ = some (.int .u16 a0_1) ∧ w'.cell? ⟨gb508, 2, none⟩ = some (.int .u32 a0_2) ∧ w'.cell? ⟨gb508, 3, none⟩ = some (.int .u32 a0_3) ∧ w'.cell? ⟨gb508, 4, none⟩ = some (.int .u8 a0_4) ∧ w'.cell? ⟨gb508, 5, none⟩ = some (.int .u16 a0_5) ∧ w'.cell? ⟨gb508, 6, none⟩ = some (.int .u16 a0_6) ∧ w'.cell? ⟨gb508, 7, none⟩ = some (.int .u16 a0_7) ∧ w'.cell? ⟨gb508, 8, none⟩ = some (.slice A0_8 l0_8.length c0_8) ∧ w'.cell? ⟨gb508, 9, none⟩ = some (.slice A0_9 l0_9.length c0_9)) (ds := []) #[false, false, false, false, false, false, false, false] (by kernel_rfl) rfl rfl ⟨(blk_cell BK508.out 0).trans rfl, (blk_cell BK508.out 1).trans rfl, (blk_cell BK508.out 2).trans rfl, (blk_cell BK508.out 3).trans rfl, (blk_cell BK508.out 4).trans rfl, (blk_cell BK508.out 5).trans rfl, (blk_cell BK508.out 6).trans rfl, (blk_cell BK508.out 7).trans rfl, (blk_cell BK508.out 8).trans rfl, (blk_cell BK508.out 9).trans rfl⟩ (fun hHeld => ?_); refine with_tabW lychref1_TcpBytes.tab8 lychref1_TcpBytes.bits8 (fun HT_ HW_ => ?_)
                generalize w35.drew = w36 at HO523 HO529 BK508 HB hHeld ⊢
                refine pure_ (i := 0) (N := some 51) (v := ?_) (a' := ?_) #[true, false, false, false, false, false, false, false] rfl rfl (any_of HT_.out (by kernel_rfl)) (fun _ _ _ h => h) (Or.inl ⟨by rfl, ?_⟩) ?_ ?_
                rotate_left
                · intro w'
                  go_simp
                  with_reducible rfl
                rotate_left
                · simp only [Act.put, List.setIfInBounds_toArray, List.set_cons_zero, List.set_cons_succ, i64_w, i32_w]
                  rfl
                refine pure_ (i := 1) (N := some 52) (v := ?_) (a' := ?_) #[true, true, false, false, false, false, false, false] rfl rfl (any_of HT_.out (by kernel_rfl)) (fun _ _ _ h => h) (Or.inl ⟨by rfl, ?_⟩) ?_ ?_
                rotate_left
                · intro w'
                  go_simp
                  with_reducible rfl
                rotate_left
                · simp only [Act.put, List.setIfInBounds_toArray, List.set_cons_zero, List.set_cons_succ, i64_w, i32_w]
                  rfl
                refine pure_ (i := 4) (N := some 55) (v := ?_) (a' := ?_) #[true, true, false, false, true, false, false, false] rfl rfl (any_of HT_.out (by kernel_rfl)) (fun _ _ _ h => h) (Or.inl ⟨by rfl, ?_⟩) ?_ ?_
                rotate_left
                · intro w'
                  go_simp
                  with_reducible rfl
                rotate_left
                · simp only [Act.put, List.setIfInBounds_toArray, List.set_cons_zero, List.set_cons_succ, i64_w, i32_w]
                  rfl
                refine take_ (i := 2) (N := some 53) (v := ?_) (a' := ?_) #[true, true, true, false, true, false, false, false] rfl rfl (take_ofW HT_.out HW_.out (by kernel_rfl)) (fun _ _ _ h => h) (Or.inl ⟨by rfl, ?_⟩) hHeld ?_ ?_
                rotate_left
                · rintro w' ⟨s0, s1, s2, s3, s4, s5, s6, s7, s8, s9⟩
                  go_simp
                  with_reducible rfl
                rotate_left
                · simp only [Act.put, List.setIfInBounds_toArray, List.set_cons_zero, List.set_cons_succ, i64_w, i32_w]
                  rfl
                refine take_ (i := 5) (N := some 56) (v := ?_) (a' := ?_) #[true, true, true, false, true, true, false, false] rfl rfl (take_ofW HT_.out HW_.out (by kernel_rfl)) (fun _ _ _ h => h) (Or.inl ⟨by rfl, ?_⟩) hHeld ?_ ?_
                rotate_left
                · rintro w' ⟨s0, s1, s2, s3, s4, s5, s6, s7, s8, s9⟩
                  go_simp
                  with_reducible rfl
                rotate_left
                · simp only [Act.put, List.setIfInBounds_toArray, List.set_cons_zero, List.set_cons_succ, i64_w, i32_w]
                  rfl
                refine one_ (i := 3) (N := some 54) #[true, true, true, true, true, true, false, false] rfl rfl (one_of HT_.out (by kernel_rfl)) (by decide) (fun K hK => ?_)
                refine goes_ Try.func35 (by kernel_rfl) rfl #[.slice Ao37 t527.length co37, .int .u16 a0_6] (by rfl) rfl rfl (by (try simp only [List.map_toArray, List.map_cons, List.map_nil]); first | done | rfl | (simp only [List.length_drop, List.length_take]; rfl) | (go_simp; done) | (simp [Act.eval, IntKind.signed]; done) | (simp [Act.eval, IntKind.signed]; rfl)) ?_
                with_reducible refine (lychref1_Put16.calls (fun k_ => some k_ = (.slice Ao37 t527.length co37 : Value).ownBlock) (.slice Ao37 t527.length co37) t527 a0_6 t530 w _ ?side1 ?side2 A16.out).mono ?_
                (case side1 => repeat (first | (with_reducible first | exact HB.out | apply below_alloc | apply pw_below_drewN | apply below_drew1 | refine below_set ?_ GE508.out) | exact HB.out))
                (case side2 => exact Kd.R_tight rfl HO529.out)
                rintro e w38 ⟨v531, rfl, ho0, hb, hkp⟩
                refine ⟨_, rfl, ?_⟩
                have n0_ := Aside0.mk (blk_kept (by (with_reducible repeat (first | refine blk_drewN ?_ _ | refine blk_drew ?_ | refine blk_alloc ?_ _)); exact BK508.out) hkp (fun hs_ => (fun e_ => (Kd.R_ne HO529.out BK508.out (by decide)) e_) hs_))
                have n1_ := Aside0.mk (Kd.R_mono (ok' := fun k_ => some k_ ≠ (v531 : Value).ownBlock) (Kd.R_keptB (HO523.out) hkp (fun k_ hk_ hs_ => (hk_) hs_)) (fun k_ hk_ => fun e_ => Or.elim (ho0.1 k_ e_.symm) (fun hs_ => hk_.2.1 hs_) (fun hn_ => Nat.not_le.2 hk_.2.2 hn_)))
                have n2_ := Aside0.mk (Kd.R_mono (ok' := fun k_ => some k_ ≠ (.slice Ao33 y521.length co33 : Value).ownBlock) ho0 (fun k_ hk_ => Or.elim hk_ (fun hs_ => fun e_ => (((HO523.out).1 k_ e_.symm)) hs_) (fun hn_ => (Kd.fresh' (Kd.R_lt (by (with_reducible repeat (first | apply Kd.R_alloc | apply Kd.R_drewN | apply Kd.R_drew)); exact HO523.out)) k_ hn_))))
                have n3_ := Aside0.mk (hb)
                clear BK508
                clear HO523
                clear HB
                clear HO529
                have BK508 := n0_
                have HO523 := n1_
                have HO532 := n2_
                have HB := n3_
                clear n0_ n1_ n2_ n3_
                (try clear hb)
                (try clear hkp)
                (try clear ho0)
                obtain ⟨Ao39, co39, eo39⟩ := Kd.R_slice HO532.out
                (first | subst eo39 | (injection eo39 with f1_ f2_ f3_; have f4_ := f1_.symm; have f5_ := f3_.symm; clear f1_ f2_ f3_; subst f4_; subst f5_))
                refine hK.out _ _ ⟨(blk_cell BK508.out 0).trans rfl, (blk_cell BK508.out 1).trans rfl, (blk_cell BK508.out 2).trans rfl, (blk_cell BK508.out 3).trans rfl, (blk_cell BK508.out 4).trans rfl, (blk_cell BK508.out 5).trans rfl, (blk_cell BK508.out 6).trans rfl, (blk_cell BK508.out 7).trans rfl, (blk_cell BK508.out 8).trans rfl, (blk_cell BK508.out 9).trans rfl⟩ (fun hHeld => ?_)
                clear hK K
                refine norm_ (a' := ?_) ?_ ?_
                rotate_left
                · show Act.put _ (some 54) _ = _
                  simp only [Act.put, List.setIfInBounds_toArray, List.set_cons_zero, List.set_cons_succ, i64_w, i32_w]
                  rfl
                refine one_ (i := 6) (N := some 57) #[true, true, true, true, true, true, true, false] rfl rfl (one_of HT_.out (by kernel_rfl)) (by decide) (fun K hK => ?_)
                refine goes_ Try.func35 (by kernel_rfl) rfl #[.slice Ao39 t530.length co39, .int .u16 a0_7] (by rfl) rfl rfl (by (try simp only [List.map_toArray, List.map_cons, List.map_nil]); first | done | rfl | (simp only [List.length_drop, List.length_take]; rfl) | (go_simp; done) | (simp [Act.eval, IntKind.signed]; done) | (simp [Act.eval, IntKind.signed]; rfl)) ?_
                with_reducible refine (lychref1_Put16.calls (fun k_ => some k_ = (.slice Ao39 t530.length co39 : Value).ownBlock) (.slice Ao39 t530.length co39) t530 a0_7 t533 w _ ?side1 ?side2 A17.out).mono ?_
                (case side1 => repeat (first | (with_reducible first | exact HB.out | apply below_alloc | apply pw_below_drewN | apply below_drew1 | refine below_set ?_ GE508.out) | exact HB.out))
                (case side2 => exact Kd.R_tight rfl HO532.out)
                rintro e w40 ⟨v534, rfl, ho0, hb, hkp⟩
                refine ⟨_, rfl, ?_⟩
                have n0_ := Aside0.mk (blk_kept (by (with_reducible repeat (first | refine blk_drewN ?_ _ | refine blk_drew ?_ | refine blk_alloc ?_ _)); exact BK508.out) hkp (fun hs_ => (fun e_ => (Kd.R_ne HO532.out BK508.out (by decide)) e_) hs_))
                have n1_ := Aside0.mk (Kd.R_mono (ok' := fun k_ => some k_ ≠ (v534 : Value).ownBlock) (Kd.R_keptB (HO523.out) hkp (fun k_ hk_ hs_ => (hk_) hs_)) (fun k_ hk_ => fun e_ => Or.elim (ho0.1 k_ e_.symm) (fun hs_ => hk_.2.1 hs_) (fun hn_ => Nat.not_le.2 hk_.2.2 hn_)))
                have n2_ := Aside0.mk (Kd.R_mono (ok' := fun k_ => some k_ ≠ (.slice Ao33 y521.length co33 : Value).ownBlock) ho0 (fun k_ hk_ => Or.elim hk_ (fun hs_ => fun e_ => (((HO523.out).1 k_ e_.symm)) hs_) (fun hn_ => (Kd.fresh' (Kd.R_lt (by (with_reducible repeat (first | apply Kd.R_alloc | apply Kd.R_drewN | apply Kd.R_drew)); exact HO523.out)) k_ hn_))))
                have n3_ := Aside0.mk (hb)
                clear BK508
                clear HO523
                clear HB
                clear HO532
                have BK508 := n0_
                have HO523 := n1_
                have HO535 := n2_
                have HB := n3_
                clear n0_ n1_ n2_ n3_
                (try clear hb)
                (try clear hkp)
                (try clear ho0)
                refine hK.out _ _ ⟨(blk_cell BK508.out 0).trans rfl, (blk_cell BK508.out 1).trans rfl, (blk_cell BK508.out 2).trans rfl, (blk_cell BK508.out 3).trans rfl, (blk_cell BK508.out 4).trans rfl, (blk_cell BK508.out 5).trans rfl, (blk_cell BK508.out 6).trans rfl, (blk_cell BK508.out 7).trans rfl, (blk_cell BK508.out 8).trans rfl, (blk_cell BK508.out 9).trans rfl⟩ (fun hHeld => ?_)
                clear hK K
                refine norm_ (a' := ?_) ?_ ?_
                rotate_left
                · show Act.put _ (some 57) _ = _
                  simp only [Act.put, List.setIfInBounds_toArray, List.set_cons_zero, List.set_cons_succ, i64_w, i32_w]
                  rfl
                refine pure_ (i := 7) (N := some 5) (v := ?_) (a' := ?_) #[true, true, true, true, true, true, true, true] rfl rfl (any_of HT_.out (by kernel_rfl)) (fun _ _ _ h => h) (Or.inl ⟨by rfl, ?_⟩) ?_ ?_
                rotate_left
                · intro w'
                  go_simp
                  with_reducible rfl
                rotate_left
                · simp only [Act.put, List.setIfInBounds_toArray, List.set_cons_zero, List.set_cons_succ, i64_w, i32_w]
                  rfl
                refine done_ (done_of HT_.out (by kernel_rfl)) ?_
                try go_wp2
                have n0_ := Aside0.mk (Kd.R_drew HO523.out)
                have n1_ := Aside0.mk (Kd.R_drew HO535.out)
                have n2_ := Aside0.mk (blk_drew BK508.out)
                have n3_ := Aside0.mk (below_drew1 HB.out)
                clear HO523
                clear HO535
                clear BK508
                clear HB
                have HO523 := n0_
                have HO535 := n1_
                have BK508 := n2_
                have HB := n3_
                clear n0_ n1_ n2_ n3_
                refine start_ (n := 9) (S := fun w' => w'.cell? ⟨gb508, 0, none⟩ = some (.int .u16 a0_0) ∧ w'.cell? ⟨gb508, 1, none⟩ = some (.int .u16 a0_1) ∧ w'.cell? ⟨gb508, 2, none⟩ = some (.int .u32 a0_2) ∧ w'.cell? ⟨gb508, 3, none⟩ = some (.int .u32 a0_3) ∧ w'.cell? ⟨gb508, 4, none⟩ = some (.int .u8 a0_4) ∧ w'.cell? ⟨gb508, 5, none⟩ = some (.int .u16 a0_5) ∧ w'.cell? ⟨gb508, 6, none⟩ = some (.int .u16 a0_6) ∧ w'.cell? ⟨gb508, 7, none⟩ = some (.int .u16 a0_7) ∧ w'.cell? ⟨gb508, 8, none⟩ = some (.slice A0_8 l0_8.length c0_8) ∧ w'.cell? ⟨gb508, 9, none⟩ = some (.slice A0_9 l0_9.length c0_9)) (ds := []) #[false, false, false, false, false, false, false, false, false] (by kernel_rfl) rfl rfl ⟨(blk_cell BK508.out 0).trans rfl, (blk_cell BK508.out 1).trans rfl, (blk_cell BK508.out 2).trans rfl, (blk_cell BK508.out 3).trans rfl, (blk_cell BK508.out 4).trans rfl, (blk_cell BK508.out 5).trans rfl, (blk_cell BK508.out 6).trans rfl, (blk_cell BK508.out 7).trans rfl, (blk_cell BK508.out 8).trans rfl, (blk_cell BK508.out 9).trans rfl⟩ (fun hHeld => ?_); refine with_tabW lychref1_TcpBytes.tab9 lychref1_TcpBytes.bits9 (fun HT_ HW_ => ?_)
                generalize w40.drew = w41 at HO523 HO535 BK508 HB hHeld ⊢
                refine pure_ (i := 0) (N := some 58) (v := ?_) (a' := ?_) #[true, false, false, false, false, false, false, false, false] rfl rfl (any_of HT_.out (by kernel_rfl)) (fun _ _ _ h => h) (Or.inl ⟨by rfl, ?_⟩) ?_ ?_
                rotate_left
                · intro w'
                  go_simp
                  with_reducible rfl
                rotate_left
                · simp only [Act.put, List.setIfInBounds_toArray, List.set_cons_zero, List.set_cons_succ, i64_w, i32_w]
                  rfl
                refine pure_ (i := 1) (N := some 59) (v := ?_) (a' := ?_) #[true, true, false, false, false, false, false, false, false] rfl rfl (any_of HT_.out (by kernel_rfl)) (fun _ _ _ h => h) (Or.inl ⟨by rfl, ?_⟩) ?_ ?_
                rotate_left
                · intro w'
                  go_simp
                  with_reducible rfl
                rotate_left
                · simp only [Act.put, List.setIfInBounds_toArray, List.set_cons_zero, List.set_cons_succ, i64_w, i32_w]
                  rfl
                refine pure_ (i := 4) (N := some 62) (v := ?_) (a' := ?_) #[true, true, false, false, true, false, false, false, false] rfl rfl (any_of HT_.out (by kernel_rfl)) (fun _ _ _ h => h) (Or.inl ⟨by rfl, ?_⟩) ?_ ?_
                rotate_left
                · intro w'
                  go_simp
                  with_reducible rfl
                rotate_left
                · simp only [Act.put, List.setIfInBounds_toArray, List.set_cons_zero, List.set_cons_succ, i64_w, i32_w]
                  rfl
                refine take_ (i := 2) (N := some 60) (v := ?_) (a' := ?_) #[true, true, true, false, true, false, false, false, false] rfl rfl (take_ofW HT_.out HW_.out (by kernel_rfl)) (fun _ _ _ h => h) (Or.inl ⟨by rfl, ?_⟩) hHeld ?_ ?_
                rotate_left
                · rintro w' ⟨s0, s1, s2, s3, s4, s5, s6, s7, s8, s9⟩
                  go_simp
                  with_reducible rfl
                rotate_left
                · simp only [Act.put, List.setIfInBounds_toArray, List.set_cons_zero, List.set_cons_succ, i64_w, i32_w]
                  rfl
                refine take_ (i := 5) (N := some 63) (v := ?_) (a' := ?_) #[true, true, true, false, true, true, false, false, false] rfl rfl (take_ofW HT_.out HW_.out (by kernel_rfl)) (fun _ _ _ h => h) (Or.inl ⟨by rfl, ?_⟩) hHeld ?_ ?_
                rotate_left
                · rintro w' ⟨s0, s1, s2, s3, s4, s5, s6, s7, s8, s9⟩
                  go_simp
                  with_reducible rfl
                rotate_left
                · simp only [Act.put, List.setIfInBounds_toArray, List.set_cons_zero, List.set_cons_succ, i64_w, i32_w]
                  rfl
                refine one_ (i := 3) (N := some 61) #[true, true, true, true, true, true, false, false, false] rfl rfl (one_of HT_.out (by kernel_rfl)) (by decide) (fun K hK => ?_)
                refine Kd.R_append_rows_step (Kd.int .u8) (w0 := w) w.heap.size (by rfl) (.tmp 58) (.tmp 60) 22 5 (.int .u8 0) 1 rfl Try.underlying22 info5 rfl (by decide) (by omega) v534 t533 l0_8 _ _ _ (fun k_ => some k_ ≠ (.slice Ao33 y521.length co33 : Value).ownBlock) (fun _ => False) rfl rfl ?aO ?aR (fun _ _ h => h) (fun _ h => h.elim) ?aF ?aB ?aS ?aL ?_
                (case aR => repeat (first | exact (Kd.C_below HR0_8.out HB.out) | (with_reducible refine Kd.C_alloc ?_ _) | (with_reducible refine Kd.C_drewN ?_ _) | (with_reducible refine Kd.C_drew ?_)))
                (case aB => exact (by repeat (first | (with_reducible first | exact HB.out | apply below_alloc | apply pw_below_drewN | apply below_drew1 | refine below_set ?_ GE508.out) | exact HB.out)))
                (case aF => exact (fun k_ hk => Kd.fresh' (Kd.R_lt (by (with_reducible repeat (first | apply Kd.R_alloc | apply Kd.R_drewN | apply Kd.R_drew)); exact HO523.out)) k_ hk))
                (case aO => exact (by (with_reducible repeat (first | apply Kd.R_alloc | apply Kd.R_drewN | apply Kd.R_drew)); exact HO535.out))
                (case aS => exact (below_size (by repeat (first | (with_reducible first | exact HB.out | apply below_alloc | apply pw_below_drewN | apply below_drew1 | refine below_set ?_ GE508.out) | exact HB.out))))
                (case aL => have := LMc18.out; omega)
                intro v537 w42 ho hb hg hat
                rw [← Ny536.out] at ho
                have n0_ := Aside0.mk (blk_grown (g := gb508) (o := .cells #[.int .u16 a0_0, .int .u16 a0_1, .int .u32 a0_2, .int .u32 a0_3, .int .u8 a0_4, .int .u16 a0_5, .int .u16 a0_6, .int .u16 a0_7, .slice A0_8 l0_8.length c0_8, .slice A0_9 l0_9.length c0_9] 49 (0, 0)) (by (with_reducible repeat (first | refine blk_drewN ?_ _ | refine blk_drew ?_ | refine blk_alloc ?_ _)); exact BK508.out) hg (Kd.R_ne HO535.out BK508.out (by decide)))
                have n1_ := Aside0.mk (Kd.R_after (ok := (fun _ => True)) (by (with_reducible repeat (first | apply Kd.R_alloc | apply Kd.R_drewN | apply Kd.R_drew)); exact Kd.R_mono HO523.out (fun _ hk => ⟨trivial, hk⟩)) hg hat)
                have n2_ := Aside0.mk (hb)
                have n3_ := Aside0.mk (ho)
                clear BK508
                clear HO523
                clear HB
                clear HO535
                have BK508 := n0_
                have HO523 := n1_
                have HB := n2_
                have HO538 := n3_
                clear n0_ n1_ n2_ n3_
                clear ho hb hg hat
                refine hK.out _ _ ⟨(blk_cell BK508.out 0).trans rfl, (blk_cell BK508.out 1).trans rfl, (blk_cell BK508.out 2).trans rfl, (blk_cell BK508.out 3).trans rfl, (blk_cell BK508.out 4).trans rfl, (blk_cell BK508.out 5).trans rfl, (blk_cell BK508.out 6).trans rfl, (blk_cell BK508.out 7).trans rfl, (blk_cell BK508.out 8).trans rfl, (blk_cell BK508.out 9).trans rfl⟩ (fun hHeld => ?_)
                clear hK K
                refine norm_ (a' := ?_) ?_ ?_
                rotate_left
                · show Act.put _ (some 61) _ = _
                  simp only [Act.put, List.setIfInBounds_toArray, List.set_cons_zero, List.set_cons_succ, i64_w, i32_w]
                  rfl
                refine one_ (i := 6) (N := some 64) #[true, true, true, true, true, true, true, false, false] rfl rfl (one_of HT_.out (by kernel_rfl)) (by decide) (fun K hK => ?_)
                refine Kd.R_append_rows_step (Kd.int .u8) (w0 := w) w.heap.size (by rfl) (.tmp 61) (.tmp 63) 22 5 (.int .u8 0) 1 rfl Try.underlying22 info5 rfl (by decide) (by omega) v537 y536 l0_9 _ _ _ (fun k_ => some k_ ≠ (.slice Ao33 y521.length co33 : Value).ownBlock) (fun _ => False) rfl rfl ?aO ?aR (fun _ _ h => h) (fun _ h => h.elim) ?aF ?aB ?aS ?aL ?_
                (case aR => repeat (first | exact (Kd.C_below HR0_9.out HB.out) | (with_reducible refine Kd.C_alloc ?_ _) | (with_reducible refine Kd.C_drewN ?_ _) | (with_reducible refine Kd.C_drew ?_)))
                (case aB => exact (by repeat (first | (with_reducible first | exact HB.out | apply below_alloc | apply pw_below_drewN | apply below_drew1 | refine below_set ?_ GE508.out) | exact HB.out)))
                (case aF => exact (fun k_ hk => Kd.fresh' (Kd.R_lt (by (with_reducible repeat (first | apply Kd.R_alloc | apply Kd.R_drewN | apply Kd.R_drew)); exact HO523.out)) k_ hk))
                (case aO => exact (by (with_reducible repeat (first | apply Kd.R_alloc | apply Kd.R_drewN | apply Kd.R_drew)); exact HO538.out))
                (case aS => exact (below_size (by repeat (first | (with_reducible first | exact HB.out | apply below_alloc | apply pw_below_drewN | apply below_drew1 | refine below_set ?_ GE508.out) | exact HB.out))))
                (case aL => have := LMc19.out; omega)
                intro v540 w43 ho hb hg hat
                rw [← Ny539.out] at ho
                have n0_ := Aside0.mk (blk_grown (g := gb508) (o := .cells #[.int .u16 a0_0, .int .u16 a0_1, .int .u32 a0_2, .int .u32 a0_3, .int .u8 a0_4, .int .u16 a0_5, .int .u16 a0_6, .int .u16 a0_7, .slice A0_8 l0_8.length c0_8, .slice A0_9 l0_9.length c0_9] 49 (0, 0)) (by (with_reducible repeat (first | refine blk_drewN ?_ _ | refine blk_drew ?_ | refine blk_alloc ?_ _)); exact BK508.out) hg (Kd.R_ne HO538.out BK508.out (by decide)))
                have n1_ := Aside0.mk (Kd.R_after (ok := (fun _ => True)) (by (with_reducible repeat (first | apply Kd.R_alloc | apply Kd.R_drewN | apply Kd.R_drew)); exact HO523.out) hg hat)
                have n2_ := Aside0.mk (hb)
                have n3_ := Aside0.mk (ho)
                clear BK508
                clear HO523
                clear HB
                clear HO538
                have BK508 := n0_
                have HO523 := n1_
                have HB := n2_
                have HO541 := n3_
                clear n0_ n1_ n2_ n3_
                clear ho hb hg hat
                refine hK.out _ _ ⟨(blk_cell BK508.out 0).trans rfl, (blk_cell BK508.out 1).trans rfl, (blk_cell BK508.out 2).trans rfl, (blk_cell BK508.out 3).trans rfl, (blk_cell BK508.out 4).trans rfl, (blk_cell BK508.out 5).trans rfl, (blk_cell BK508.out 6).trans rfl, (blk_cell BK508.out 7).trans rfl, (blk_cell BK508.out 8).trans rfl, (blk_cell BK508.out 9).trans rfl⟩ (fun hHeld => ?_)
                clear hK K
                refine norm_ (a' := ?_) ?_ ?_
                rotate_left
                · show Act.put _ (some 64) _ = _
                  simp only [Act.put, List.setIfInBounds_toArray, List.set_cons_zero, List.set_cons_succ, i64_w, i32_w]
                  rfl
                refine pure_ (i := 7) (N := some 2) (v := ?_) (a' := ?_) #[true, true, true, true, true, true, true, true, false] rfl rfl (any_of HT_.out (by kernel_rfl)) (fun _ _ _ h => h) (Or.inl ⟨by rfl, ?_⟩) ?_ ?_
                rotate_left
                · intro w'
                  go_simp
                  with_reducible rfl
                rotate_left
                · simp only [Act.put, List.setIfInBounds_toArray, List.set_cons_zero, List.set_cons_succ, i64_w, i32_w]
                  rfl
                refine pure_ (i := 8) (N := some 3) (v := ?_) (a' := ?_) #[true, true, true, true, true, true, true, true, true] rfl rfl (any_of HT_.out (by kernel_rfl)) (fun _ _ _ h => h) (Or.inl ⟨by rfl, ?_⟩) ?_ ?_
                rotate_left
                · intro w'
                  go_simp
                  with_reducible rfl
                rotate_left
                · simp only [Act.put, List.setIfInBounds_toArray, List.set_cons_zero, List.set_cons_succ, i64_w, i32_w]
                  rfl
                refine done_ (done_of HT_.out (by kernel_rfl)) ?_
                try go_wp2
                go_ret2
                exact ⟨_, by first | rfl | (simp [errW_none, errW_some] <;> rfl) | (simp [*, errW_none, errW_some] <;> rfl), by (with_reducible repeat (first | apply Kd.R_alloc | apply Kd.R_drewN | apply Kd.R_drew)); exact Kd.R_mono HO541.out (fun _ hk => trivial), by repeat (first | (with_reducible first | exact HB.out | apply below_alloc | apply pw_below_drewN | apply below_drew1 | refine below_set ?_ GE508.out) | exact HB.out)⟩
              · rw [if_neg c19] at H
                exact absurd H (by simp)
            · rw [if_neg c18] at H
              exact absurd H (by simp)
          · rw [if_neg c14] at H
            exact absurd H (by simp)

end Go.Proofs.Ytnodigdpodiphaa.PA
