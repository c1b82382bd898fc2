/- Texts of this claim, merged: PBx52, PBx53, RwLk, PBx54, RwPt0, RwLookV, RwLkI, RwLkB, RwPtI, PBx9, RwChg0, RwChgV, RwHd, RwHop, RwInr0, RwInr1. -/
import Derived.Test.YtkmimamminddiaaZib
import Derived.Deep.Cut
import Derived.Deep.CutRange
import Derived.Deep.CutBlock
import Derived.Deep.WholeRow
set_option maxHeartbeats 40000000
set_option maxRecDepth 100000
set_option linter.unusedVariables false
set_option linter.unusedSimpArgs false
namespace Go.Proofs.Ytkmimamminddiaa.PB
open Go.RowKit Go.Proofs.YtkmimamminddiaaW.PrintWords Go.Proofs.YtkmimamminddiaaW.PrintLast Go.Proofs.YtkmimamminddiaaW.PrintMore
attribute [local go_sem] max2_int min2_int max_two min_two max_three min_three max_four min_four
mutual
def rewrite_within.j0 : Nat -> List Int -> Int -> Bool -> Option (Int × Bool)
 | 0, _, _, _ => none
 | k + 1, x0, x4, x29 => if x29 = true then (some (0, false)) else (if 9 < (x0.length : Int) then (if (rd x0 9) = 17 then (rewrite_within.j1 k x0 x4 (rd x0 9) ((rd x0 9) == 17)) else (rewrite_within.j1 k x0 x4 (rd x0 9) ((rd x0 9) == 6))) else (none))
def rewrite_within.j1 : Nat -> List Int -> Int -> Int -> Bool -> Option (Int × Bool)
 | 0, _, _, _, _ => none
 | k + 1, x0, x4, x32, x33 => if x33 = true then (some (x4, true)) else (if x32 = 1 then (if 0 <= x4 then (if x4 <= (x0.length : Int) then ((rewrite_echo.f (x0.drop (x4 : Int).toNat)).bind fun t688 => (some (x4, t688))) else (none)) else (none)) else (some (0, false)))
end
def rewrite_within.f (k : Nat) (l0 : List Int) : Option (Int × Bool) := if (l0.length : Int) < 20 then (some (0, false)) else (if 0 < (l0.length : Int) then (if ((rd l0 0) / 16) = 4 then (if (wrap64 (4 * (wrap64 (Go.bits .and .u8 (rd l0 0) 15)))) < 20 then (rewrite_within.j0 k l0 (wrap64 (4 * (wrap64 (Go.bits .and .u8 (rd l0 0) 15)))) true) else (rewrite_within.j0 k l0 (wrap64 (4 * (wrap64 (Go.bits .and .u8 (rd l0 0) 15)))) (decide ((l0.length : Int) < (wrap64 ((wrap64 (4 * (wrap64 (Go.bits .and .u8 (rd l0 0) 15)))) + 8)))))) else (rewrite_within.j0 k l0 (wrap64 (4 * (wrap64 (Go.bits .and .u8 (rd l0 0) 15)))) true)) else (none))
theorem rewrite_within.calls (k : Nat) (A0 : Option Addr) (c0 : Nat) (l0 : List Int) (r1 : Int) (r2 : Bool) (w : World) (hr0 : Kd.C (Kd.int .u8) w A0 l0.length l0) (hc0 : l0.length <= c0) (h : rewrite_within.f k l0 = some (r1, r2)) :
  Calls Try.prog 86 #[.slice A0 l0.length c0] w fun e w' => e = .returned (.tuple #[.int .i64 r1, .bool r2]) /\ Below w.heap.size w w' := by
 have HR0 := Aside0.mk hr0; have HC0 := Aside0.mk hc0; clear hr0 hc0; have HB := Aside0.mk (Below.refl w.heap.size w); have H : (if (l0.length : Int) < 20 then (some (0, false)) else (if 0 < (l0.length : Int) then (if ((rd l0 0) / 16) = 4 then (if (wrap64 (4 * (wrap64 (Go.bits .and .u8 (rd l0 0) 15)))) < 20 then (rewrite_within.j0 k l0 (wrap64 (4 * (wrap64 (Go.bits .and .u8 (rd l0 0) 15)))) true) else (rewrite_within.j0 k l0 (wrap64 (4 * (wrap64 (Go.bits .and .u8 (rd l0 0) 15)))) (decide ((l0.length : Int) < (wrap64 ((wrap64 (4 * (wrap64 (Go.bits .and .u8 (rd l0 0) 15)))) + 8)))))) else (rewrite_within.j0 k l0 (wrap64 (4 * (wrap64 (Go.bits .and .u8 (rd l0 0) 15)))) true)) else (none))) = some (r1, r2) := h; clear h
 by_cases c2 : (l0.length : Int) < 20
 ·rw [if_pos c2] at H
  have c2b0 : decide ((l0.length : Int) < 20) = true := decide_eq_true c2; have c2b1 : decide (l0.length < 20) = true := decide_eq_true (by omega); clear c2; simp only [Option.some.injEq, Prod.mk.injEq] at H
  obtain ⟨rfl, rfl⟩ := H
  go_enter Try.func86, Try.ntmps86
  go_wp2
  go_ret2
  exact ⟨by first | rfl | (simp [errW_none, errW_some] <;> rfl) | (simp [*, errW_none, errW_some] <;> rfl), bz HB⟩
 ·rw [if_neg c2] at H
  have c2b0 : decide ((l0.length : Int) < 20) = false := decide_eq_false c2; have c2b1 : decide (l0.length < 20) = false := decide_eq_false (by omega); clear c2
  by_cases c3 : 0 < (l0.length : Int)
  ·rw [if_pos c3] at H
   have c3b0 : decide (0 < (l0.length : Int)) = true := decide_eq_true c3; have c3b1 : decide (0 < l0.length) = true := decide_eq_true (by omega); clear c3; have HC4 := Aside0.mk H; clear H; have p684 : 0 <= (0 : Int) := (by omega)
   have q684 : 0 < (l0.length : Int) := odt; obtain ⟨ad684, e684, hx684_0⟩ := Kd.at_int HR0.out 0 p684 q684
   cases e684
   have qi684 : (0 < l0.length) = True := eq_true (by omega)
   (try rw [show ((0 : Int)).toNat = 0 from rfl] at hx684_0)
   (try rw [Addr.add_zero'] at hx684_0)
   replace p684 := eq_true p684; replace q684 := eq_true q684
   go_enter Try.func86, Try.ntmps86
   go_upto_region 4 with (fail)
   go_cut [29] (fun v29 wc => ∃ (kq : Nat) (x29_3 : Bool), v29 = .bool x29_3 /\ Aside0 (rewrite_within.j0 kq l0 (wrap64 (4 * (wrap64 (Go.bits .and .u8 (rd l0 0) 15)))) x29_3 = some (r1, r2)) /\ Aside0 (kq <= k) /\ Aside0 (Below w.heap.size w wc))
   case first =>
    have H := HC4.out; clear HC4
    by_cases c5 : ((rd l0 0) / 16) = 4
    ·rw [if_pos c5] at H
     have c5b0 : (((rd l0 0) / 16) == 4) = true := beq_iff_eq.mpr c5; have c5b1 : (((rd l0 0) / 16) != 4) = false := bne_eq_false_iff_eq.mpr c5; clear c5
     (first | rw [c5b0] | (simp only [i64_w, i32_w]; rw [c5b0]) | skip)
     by_cases c6 : (wrap64 (4 * (wrap64 (Go.bits .and .u8 (rd l0 0) 15)))) < 20
     ·rw [if_pos c6] at H
      have c6b0 : decide ((wrap64 (4 * (wrap64 (Go.bits .and .u8 (rd l0 0) 15)))) < 20) = true := decide_eq_true c6; clear c6; have H' := Aside0.mk H; clear H; have p685 : 0 <= (0 : Int) := (by omega)
      have q685 : 0 < (l0.length : Int) := odt; obtain ⟨ad685, e685, hx685_0⟩ := Kd.at_int HR0.out 0 p685 q685; obtain rfl : ad684 = ad685 := (by injection e685)
      have qi685 : (0 < l0.length) = True := eq_true (by omega)
      (try rw [show ((0 : Int)).toNat = 0 from rfl] at hx685_0)
      (try rw [Addr.add_zero'] at hx685_0)
      replace hx685_0 := (HB.out.cell (World.block_lt_of_cell? w _ hx685_0)).trans hx685_0; replace p685 := eq_true p685; replace q685 := eq_true q685
      go_wp2
      go_meet
      case rel => exact ⟨_, (true), (by first | rfl | (simp; done) | (simp [*]; done)), H', ⟨by first | omega | exact Nat.le_refl _⟩, ⟨bz HB⟩⟩
     ·rw [if_neg c6] at H
      have c6b0 : decide ((wrap64 (4 * (wrap64 (Go.bits .and .u8 (rd l0 0) 15)))) < 20) = false := decide_eq_false c6; clear c6; have H' := Aside0.mk H; clear H; have p685 : 0 <= (0 : Int) := (by omega)
      have q685 : 0 < (l0.length : Int) := odt; obtain ⟨ad685, e685, hx685_0⟩ := Kd.at_int HR0.out 0 p685 q685; obtain rfl : ad684 = ad685 := (by injection e685)
      have qi685 : (0 < l0.length) = True := eq_true (by omega)
      (try rw [show ((0 : Int)).toNat = 0 from rfl] at hx685_0)
      (try rw [Addr.add_zero'] at hx685_0)
      replace hx685_0 := (HB.out.cell (World.block_lt_of_cell? w _ hx685_0)).trans hx685_0; replace p685 := eq_true p685; replace q685 := eq_true q685
      go_wp2
      go_meet
      case rel => exact ⟨_, (decide ((l0.length : Int) < (wrap64 ((wrap64 (4 * (wrap64 (Go.bits .and .u8 (rd l0 0) 15)))) + 8)))), (by first | rfl | (simp; done) | (simp [*]; done)), H', ⟨by first | omega | exact Nat.le_refl _⟩, ⟨bz HB⟩⟩
    ·rw [if_neg c5] at H
     have c5b0 : (((rd l0 0) / 16) == 4) = false := beq_eq_false_iff_ne.mpr c5; have c5b1 : (((rd l0 0) / 16) != 4) = true := bne_iff_ne.mpr c5
     (first | rw [c5b0] | (simp only [i64_w, i32_w]; rw [c5b0]) | skip)
     have H' := Aside0.mk H; clear H; have p685 : 0 <= (0 : Int) := (by omega)
     have q685 : 0 < (l0.length : Int) := odt; obtain ⟨ad685, e685, hx685_0⟩ := Kd.at_int HR0.out 0 p685 q685; obtain rfl : ad684 = ad685 := (by injection e685)
     have qi685 : (0 < l0.length) = True := eq_true (by omega)
     (try rw [show ((0 : Int)).toNat = 0 from rfl] at hx685_0)
     (try rw [Addr.add_zero'] at hx685_0)
     replace hx685_0 := (HB.out.cell (World.block_lt_of_cell? w _ hx685_0)).trans hx685_0; replace p685 := eq_true p685; replace q685 := eq_true q685
     go_wp2
     go_meet
     case rel => exact ⟨_, (true), (by first | rfl | (simp; done) | (simp [*]; done)), H', ⟨by first | omega | exact Nat.le_refl _⟩, ⟨bz HB⟩⟩
   case rest =>
    clear HC4
    try clear c2
    try clear c2b0
    try clear c2b1
    try clear c3
    try clear c3b0
    try clear c3b1
    try clear hx684_0
    try clear p684
    try clear q684
    obtain ⟨kq, x29_3, rfl, HA, HJ3, HB⟩ := hcut
    cases kq with
    | zero => exact absurd HA.out (by simp [rewrite_within.j0])
    | succ kj3 =>
     have H := HA.out; clear HA; simp only [rewrite_within.j0] at H
     by_cases c7 : x29_3 = true
     ·subst c7
      have H1 : (some (0, false)) = some (r1, r2) := by rw [if_pos rfl] at H; exact H
      clear H; have H := H1; clear H1; simp only [Option.some.injEq, Prod.mk.injEq] at H
      obtain ⟨rfl, rfl⟩ := H
      go_wp2
      go_ret2
      exact ⟨by first | rfl | (simp [errW_none, errW_some] <;> rfl) | (simp [*, errW_none, errW_some] <;> rfl), bz HB⟩
     ·replace c7 := Bool.eq_false_iff.mpr c7
      subst c7; have H1 : (if 9 < (l0.length : Int) then (if (rd l0 9) = 17 then (rewrite_within.j1 kj3 l0 (wrap64 (4 * (wrap64 (Go.bits .and .u8 (rd l0 0) 15)))) (rd l0 9) ((rd l0 9) == 17)) else (rewrite_within.j1 kj3 l0 (wrap64 (4 * (wrap64 (Go.bits .and .u8 (rd l0 0) 15)))) (rd l0 9) ((rd l0 9) == 6))) else (none)) = some (r1, r2) := by rw [if_neg (show ¬ (false = true) by decide)] at H; exact H
      clear H; have H := H1; clear H1
      by_cases c8 : 9 < (l0.length : Int)
      ·rw [if_pos c8] at H
       have c8b0 : decide (9 < (l0.length : Int)) = true := decide_eq_true c8; have c8b1 : decide (9 < l0.length) = true := decide_eq_true (by omega); clear c8; have HC9 := Aside0.mk H; clear H; have p686 : 0 <= (9 : Int) := (by omega)
       have q686 : 9 < (l0.length : Int) := odt; obtain ⟨ad686, e686, hx686_0⟩ := Kd.at_int HR0.out 9 p686 q686; obtain rfl : ad684 = ad686 := (by injection e686)
       (try simp only [show (9 : Int).toNat = 9 from rfl, Nat.reduceMul, Nat.reduceEqDiff, Go.Addr.add, ↓reduceIte] at hx686_0)
       have qi686 : (9 < l0.length) = True := eq_true (by omega)
       (try rw [show ((9 : Int)).toNat = 9 from rfl] at hx686_0)
       replace hx686_0 := (HB.out.cell (World.block_lt_of_cell? w _ hx686_0)).trans hx686_0; replace p686 := eq_true p686; replace q686 := eq_true q686
       go_upto_if 33 with (fail)
       go_cut [33] (fun v33 wc => ∃ (kq : Nat) (x33_8 : Bool), v33 = .bool x33_8 /\ Aside0 (rewrite_within.j1 kq l0 (wrap64 (4 * (wrap64 (Go.bits .and .u8 (rd l0 0) 15)))) (rd l0 9) x33_8 = some (r1, r2)) /\ Aside0 (kq <= kj3) /\ Aside0 (Below w.heap.size w wc))
       case first =>
        have H := HC9.out; clear HC9
        by_cases c10 : (rd l0 9) = 17
        ·rw [if_pos c10] at H
         have c10b0 : ((rd l0 9) == 17) = true := beq_iff_eq.mpr c10; have c10b1 : ((rd l0 9) != 17) = false := bne_eq_false_iff_eq.mpr c10; clear c10
         (first | rw [c10b0] | (simp only [i64_w, i32_w]; rw [c10b0]) | skip)
         have H' := Aside0.mk H; clear H
         go_wp2
         go_meet
         case rel => exact ⟨_, (((rd l0 9) == 17)), (by first | rfl | (simp; done) | (simp [*]; done)), H', ⟨by have := HJ3.out; first | omega | exact Nat.le_refl _⟩, ⟨bz HB⟩⟩
        ·rw [if_neg c10] at H
         have c10b0 : ((rd l0 9) == 17) = false := beq_eq_false_iff_ne.mpr c10; have c10b1 : ((rd l0 9) != 17) = true := bne_iff_ne.mpr c10
         (first | rw [c10b0] | (simp only [i64_w, i32_w]; rw [c10b0]) | skip)
         have H' := Aside0.mk H; clear H
         go_wp2
         go_meet
         case rel => exact ⟨_, (((rd l0 9) == 6)), (by first | rfl | (simp; done) | (simp [*]; done)), H', ⟨by have := HJ3.out; first | omega | exact Nat.le_refl _⟩, ⟨bz HB⟩⟩
       case rest =>
        clear HC9
        try clear c2
        try clear c2b0
        try clear c2b1
        try clear c3
        try clear c3b0
        try clear c3b1
        try clear c7
        try clear c8
        try clear c8b0
        try clear c8b1
        try clear hx684_0
        try clear hx686_0
        try clear p684
        try clear p686
        try clear q684
        try clear q686
        obtain ⟨kq, x33_8, rfl, HA, HJ8, HB⟩ := hcut
        cases kq with
        | zero => exact absurd HA.out (by simp [rewrite_within.j1])
        | succ kj8 =>
         have H := HA.out; clear HA; simp only [rewrite_within.j1] at H
         by_cases c11 : x33_8 = true
         ·subst c11
          have H1 : (some ((wrap64 (4 * (wrap64 (Go.bits .and .u8 (rd l0 0) 15)))), true)) = some (r1, r2) := by rw [if_pos rfl] at H; exact H
          clear H; have H := H1; clear H1; simp only [Option.some.injEq, Prod.mk.injEq] at H
          obtain ⟨rfl, rfl⟩ := H
          go_wp2
          go_ret2
          exact ⟨by first | rfl | (simp [errW_none, errW_some] <;> rfl) | (simp [*, errW_none, errW_some] <;> rfl), bz HB⟩
         ·replace c11 := Bool.eq_false_iff.mpr c11
          subst c11; have H1 : (if (rd l0 9) = 1 then (if 0 <= (wrap64 (4 * (wrap64 (Go.bits .and .u8 (rd l0 0) 15)))) then (if (wrap64 (4 * (wrap64 (Go.bits .and .u8 (rd l0 0) 15)))) <= (l0.length : Int) then ((rewrite_echo.f (l0.drop ((wrap64 (4 * (wrap64 (Go.bits .and .u8 (rd l0 0) 15)))) : Int).toNat)).bind fun t688 => (some ((wrap64 (4 * (wrap64 (Go.bits .and .u8 (rd l0 0) 15)))), t688))) else (none)) else (none)) else (some (0, false))) = some (r1, r2) := by rw [if_neg (show ¬ (false = true) by decide)] at H; exact H
          clear H; have H := H1; clear H1
          by_cases c12 : (rd l0 9) = 1
          ·rw [if_pos c12] at H
           have c12b0 : ((rd l0 9) == 1) = true := beq_iff_eq.mpr c12; have c12b1 : ((rd l0 9) != 1) = false := bne_eq_false_iff_eq.mpr c12; clear c12; obtain ⟨ji13, hji13⟩ : ∃ j_ : Int, (wrap64 (4 * (wrap64 (Go.bits .and .u8 (rd l0 0) 15)))) = j_ := ⟨_, rfl⟩
           replace H : (if 0 <= (ji13) then (if (ji13) <= (l0.length : Int) then ((rewrite_echo.f (l0.drop ((ji13) : Int).toNat)).bind fun t688 => (some ((ji13), t688))) else (none)) else (none)) = some (r1, r2) := by first | (rw [hji13] at H; exact H) | (simp only [hji13] at H |-; exact H)
           have hji13w : (IntKind.i64.wrap (4 * (wrap64 (Go.bits .and .u8 (rd l0 0) 15)))) = ji13 := (i64_w _).trans hji13
           by_cases c14 : 0 <= (ji13)
           ·rw [if_pos c14] at H
            have c14b0 := eq_true c14; have c14b1 : decide (0 <= (ji13)) = true := decide_eq_true c14; clear c14
            by_cases c15 : (ji13) <= (l0.length : Int)
            ·rw [if_pos c15] at H
             have c15b0 := eq_true c15; have c15b1 : decide ((ji13) <= (l0.length : Int)) = true := decide_eq_true c15; clear c15; replace H := Option.bind_eq_some_iff.mp H; obtain ⟨t688, A160, H⟩ := H
             (try dsimp -simprocs only at H)
             have A16 := Aside0.mk A160; clear A160; simp only [Option.some.injEq, Prod.mk.injEq] at H
             obtain ⟨rfl, rfl⟩ := H; obtain ⟨i017, hi017, _, hsz17, _⟩ := info_parts info5; obtain ⟨A17, hcut17, hA17, hC17⟩ := print_drop_of (P := Try.prog) (Value.int .u8) 0 23 5 .i64 Try.underlying23 hi017 hsz17 (some ad684) c0 l0 (ji13) odt odt HC0.out; have HR687 := Aside0.mk (Kd.C_of_reads (h1 := fun _ => rfl) (hA17 _ (Kd.reads_of_C HR0.out))); have HC687 := Aside0.mk hC17; clear hA17 hC17 hi017 hsz17
             go_wp2_with (first | ((with_reducible refine gate_callee (f := 114) rfl ?_); refine goesL_ (some 43) rfl rfl Try.func114 (by kernel_rfl) rfl #[.slice A17 (l0.drop ((ji13) : Int).toNat).length (c0 - (ji13).toNat)] rfl (by (try simp only [List.map_toArray, List.map_cons, List.map_nil]); first | done | (rw [show (l0.drop ((ji13) : Int).toNat).length = (l0.length - (ji13).toNat) from List.length_drop] <;> rfl) | (simp only [hji13]; rfl) | rfl | (simp only [List.length_drop, List.length_take]; rfl) | (go_simp; done) | (simp [Act.eval, IntKind.signed]; done) | (simp [Act.eval, IntKind.signed]; rfl)) ?_; (with_reducible refine (rewrite_echo.calls _ _ (l0.drop ((ji13) : Int).toNat) t688 _ ?side1 ?side2 A16.out).mono ?_); (case side1 => exact Kd.C_below HR687.out (bz HB)); (case side2 => exact HC687.out); rintro e w18 ⟨rfl, hb⟩; refine ⟨_, rfl, ?_⟩; have n0_ := Aside0.mk (below_step (bz HB) hb); clear HB; have HB := n0_; clear n0_; (try clear hb); (try clear hb2); (try clear hk); (try clear hi)))
             go_ret2
             exact ⟨by first | rfl | (simp [errW_none, errW_some] <;> rfl) | (simp only [<- hji13]; first | rfl | (simp [errW_none, errW_some] <;> rfl)) | (simp [*, errW_none, errW_some] <;> rfl), bz HB⟩
            ·rw [if_neg c15] at H
             exact absurd H (by simp)
           ·rw [if_neg c14] at H
            exact absurd H (by simp)
          ·rw [if_neg c12] at H
           have c12b0 : ((rd l0 9) == 1) = false := beq_eq_false_iff_ne.mpr c12; have c12b1 : ((rd l0 9) != 1) = true := bne_iff_ne.mpr c12; simp only [Option.some.injEq, Prod.mk.injEq] at H
           obtain ⟨rfl, rfl⟩ := H
           go_wp2
           go_ret2
           exact ⟨by first | rfl | (simp [errW_none, errW_some] <;> rfl) | (simp [*, errW_none, errW_some] <;> rfl), bz HB⟩
      ·rw [if_neg c8] at H
       exact absurd H (by simp)
  ·rw [if_neg c3] at H
   exact absurd H (by simp)
def rewrite_two.f (l0 : List Int) : Option (Int) := if 0 < (l0.length : Int) then (if 1 < (l0.length : Int) then (some (Go.bits .or .u16 (IntKind.u16.wrap ((IntKind.u16.wrap (rd l0 0)) * 256)) (IntKind.u16.wrap (rd l0 1)))) else (none)) else (none)
theorem rewrite_two.calls (A0 : Option Addr) (c0 : Nat) (l0 : List Int) (r : Int) (w : World) (hr0 : Kd.C (Kd.int .u8) w A0 l0.length l0) (hc0 : l0.length <= c0) (h : rewrite_two.f l0 = some r) :
  Calls Try.prog 87 #[.slice A0 l0.length c0] w fun e w' => e = .returned (.int .u16 r) /\ Drawn0 w w' := by
 have HR0 := Aside0.mk hr0; have HC0 := Aside0.mk hc0; clear hr0 hc0; have H : (if 0 < (l0.length : Int) then (if 1 < (l0.length : Int) then (some (Go.bits .or .u16 (IntKind.u16.wrap ((IntKind.u16.wrap (rd l0 0)) * 256)) (IntKind.u16.wrap (rd l0 1)))) else (none)) else (none)) = some r := h; clear h
 by_cases c2 : 0 < (l0.length : Int)
 ·rw [if_pos c2] at H
  have c2b0 : decide (0 < (l0.length : Int)) = true := decide_eq_true c2; have c2b1 : decide (0 < l0.length) = true := decide_eq_true (by omega); clear c2
  by_cases c3 : 1 < (l0.length : Int)
  ·rw [if_pos c3] at H
   have c3b0 : decide (1 < (l0.length : Int)) = true := decide_eq_true c3; have c3b1 : decide (1 < l0.length) = true := decide_eq_true (by omega); clear c3; obtain rfl := Option.some.inj H; have p689 : 0 <= (0 : Int) := (by omega)
   have q689 : 0 < (l0.length : Int) := odt; obtain ⟨ad689, e689, hx689_0⟩ := Kd.at_int HR0.out 0 p689 q689
   cases e689
   have qi689 : (0 < l0.length) = True := eq_true (by omega)
   (try rw [show ((0 : Int)).toNat = 0 from rfl] at hx689_0)
   (try rw [Addr.add_zero'] at hx689_0)
   replace p689 := eq_true p689; replace q689 := eq_true q689; have p690 : 0 <= (1 : Int) := (by omega)
   have q690 : 1 < (l0.length : Int) := odt; obtain ⟨ad690, e690, hx690_0⟩ := Kd.at_int HR0.out 1 p690 q690; obtain rfl : ad689 = ad690 := (by injection e690)
   (try simp only [show (1 : Int).toNat = 1 from rfl, Nat.reduceMul, Nat.reduceEqDiff, Go.Addr.add, ↓reduceIte] at hx690_0)
   have qi690 : (1 < l0.length) = True := eq_true (by omega)
   (try rw [show ((1 : Int)).toNat = 1 from rfl] at hx690_0)
   replace p690 := eq_true p690; replace q690 := eq_true q690
   go_enter Try.func87, Try.ntmps87
   go_wp2
   repeat (go_quiet (fail); try go_wp2)
   go_ret
   exact ⟨by first | rfl | (simp; done) | (simp [*]; done), by repeat (first | exact Drawn0.refl _ | apply Drawn0.step)⟩
  ·rw [if_neg c3] at H
   exact absurd H (by simp)
 ·rw [if_neg c2] at H
  exact absurd H (by simp)
def rewrite_four.f (l0 : List Int) : Option (Int) := (rewrite_two.f l0).bind fun t691 => (if 2 <= (l0.length : Int) then ((rewrite_two.f (l0.drop 2)).bind fun t693 => (some (Go.bits .or .u32 ((((t691) % 4294967296) * 65536) % 4294967296) ((t693) % 4294967296)))) else (none))
theorem rewrite_four.calls (A0 : Option Addr) (c0 : Nat) (l0 : List Int) (r : Int) (w : World) (hr0 : Kd.C (Kd.int .u8) w A0 l0.length l0) (hc0 : l0.length <= c0) (h : rewrite_four.f l0 = some r) :
  Calls Try.prog 124 #[.slice A0 l0.length c0] w fun e w' => e = .returned (.int .u32 r) /\ Drawn0 w w' := by
 have HR0 := Aside0.mk hr0; have HC0 := Aside0.mk hc0; clear hr0 hc0; have H : ((rewrite_two.f l0).bind fun t691 => (if 2 <= (l0.length : Int) then ((rewrite_two.f (l0.drop 2)).bind fun t693 => (some (Go.bits .or .u32 ((((t691) % 4294967296) * 65536) % 4294967296) ((t693) % 4294967296)))) else (none))) = some r := h; clear h; replace H := Option.bind_eq_some_iff.mp H; obtain ⟨t691, A20, H⟩ := H
 (try dsimp -simprocs only at H)
 have A2 := Aside0.mk A20; clear A20
 by_cases c3 : 2 <= (l0.length : Int)
 ·rw [if_pos c3] at H
  have c3b0 := eq_true c3; have c3b1 : decide (2 <= (l0.length : Int)) = true := decide_eq_true c3; clear c3; replace H := Option.bind_eq_some_iff.mp H; obtain ⟨t693, A40, H⟩ := H
  (try dsimp -simprocs only at H)
  have A4 := Aside0.mk A40; clear A40; obtain rfl := Option.some.inj H
  go_enter Try.func124, Try.ntmps124
  go_wp2_with (first | (go_at_call 87; (with_reducible refine (rewrite_two.calls _ _ l0 t691 _ ?side1 ?side2 A2.out).mono ?_); (case side1 => repeat (first | exact HR0.out | (with_reducible refine Kd.C_alloc ?_ _) | (with_reducible refine Kd.C_drewN ?_ _) | (with_reducible refine Kd.C_drew ?_))); (case side2 => exact HC0.out); rintro e w' ⟨rfl, ⟨nd, rfl⟩⟩; (try first | exact ⟨rfl, _, World.drewN_drewN _ _ _⟩ | exact ⟨rfl, _, Eq.trans (World.drewN_drewN _ _ _) (congrArg (World.drewN _) (Nat.add_assoc _ _ _))⟩); obtain ⟨i05, hi05, _, hsz5, _⟩ := info_parts info5; obtain ⟨A5, hcut5, hA5, hC5⟩ := print_drop_of (P := Try.prog) (Value.int .u8) 0 23 5 .i64 Try.underlying23 hi05 hsz5 A0 c0 l0 2 (by omega) odt HC0.out; have HR692 := Aside0.mk (Kd.C_of_reads (h1 := fun _ => rfl) (hA5 _ (Kd.reads_of_C HR0.out))); have HC692 := Aside0.mk hC5; clear hA5 hC5 hi05 hsz5) | (go_at_call 87; refine calls_of_args (args' := #[.slice A5 (l0.drop 2).length (c0 - 2)]) (by first | (rw [show (l0.drop 2).length = (l0.length - 2) from List.length_drop]; done) | rfl | (simp; done)) ?_; (with_reducible refine (rewrite_two.calls _ _ (l0.drop 2) t693 _ ?side1 ?side2 A4.out).mono ?_); (case side1 => repeat (first | exact HR692.out | (with_reducible refine Kd.C_alloc ?_ _) | (with_reducible refine Kd.C_drewN ?_ _) | (with_reducible refine Kd.C_drew ?_))); (case side2 => exact HC692.out); rintro e w' ⟨rfl, ⟨nd, rfl⟩⟩; (try first | exact ⟨rfl, _, World.drewN_drewN _ _ _⟩ | exact ⟨rfl, _, Eq.trans (World.drewN_drewN _ _ _) (congrArg (World.drewN _) (Nat.add_assoc _ _ _))⟩)))
  repeat (go_quiet (first | (go_at_call 87; (with_reducible refine (rewrite_two.calls _ _ l0 t691 _ ?side1 ?side2 A2.out).mono ?_); (case side1 => repeat (first | exact HR0.out | (with_reducible refine Kd.C_alloc ?_ _) | (with_reducible refine Kd.C_drewN ?_ _) | (with_reducible refine Kd.C_drew ?_))); (case side2 => exact HC0.out); rintro e w' ⟨rfl, ⟨nd, rfl⟩⟩; (try first | exact ⟨rfl, _, World.drewN_drewN _ _ _⟩ | exact ⟨rfl, _, Eq.trans (World.drewN_drewN _ _ _) (congrArg (World.drewN _) (Nat.add_assoc _ _ _))⟩); obtain ⟨i05, hi05, _, hsz5, _⟩ := info_parts info5; obtain ⟨A5, hcut5, hA5, hC5⟩ := print_drop_of (P := Try.prog) (Value.int .u8) 0 23 5 .i64 Try.underlying23 hi05 hsz5 A0 c0 l0 2 (by omega) odt HC0.out; have HR692 := Aside0.mk (Kd.C_of_reads (h1 := fun _ => rfl) (hA5 _ (Kd.reads_of_C HR0.out))); have HC692 := Aside0.mk hC5; clear hA5 hC5 hi05 hsz5) | (go_at_call 87; refine calls_of_args (args' := #[.slice A5 (l0.drop 2).length (c0 - 2)]) (by first | (rw [show (l0.drop 2).length = (l0.length - 2) from List.length_drop]; done) | rfl | (simp; done)) ?_; (with_reducible refine (rewrite_two.calls _ _ (l0.drop 2) t693 _ ?side1 ?side2 A4.out).mono ?_); (case side1 => repeat (first | exact HR692.out | (with_reducible refine Kd.C_alloc ?_ _) | (with_reducible refine Kd.C_drewN ?_ _) | (with_reducible refine Kd.C_drew ?_))); (case side2 => exact HC692.out); rintro e w' ⟨rfl, ⟨nd, rfl⟩⟩; (try first | exact ⟨rfl, _, World.drewN_drewN _ _ _⟩ | exact ⟨rfl, _, Eq.trans (World.drewN_drewN _ _ _) (congrArg (World.drewN _) (Nat.add_assoc _ _ _))⟩))); try go_wp2_with (first | (go_at_call 87; (with_reducible refine (rewrite_two.calls _ _ l0 t691 _ ?side1 ?side2 A2.out).mono ?_); (case side1 => repeat (first | exact HR0.out | (with_reducible refine Kd.C_alloc ?_ _) | (with_reducible refine Kd.C_drewN ?_ _) | (with_reducible refine Kd.C_drew ?_))); (case side2 => exact HC0.out); rintro e w' ⟨rfl, ⟨nd, rfl⟩⟩; (try first | exact ⟨rfl, _, World.drewN_drewN _ _ _⟩ | exact ⟨rfl, _, Eq.trans (World.drewN_drewN _ _ _) (congrArg (World.drewN _) (Nat.add_assoc _ _ _))⟩); obtain ⟨i05, hi05, _, hsz5, _⟩ := info_parts info5; obtain ⟨A5, hcut5, hA5, hC5⟩ := print_drop_of (P := Try.prog) (Value.int .u8) 0 23 5 .i64 Try.underlying23 hi05 hsz5 A0 c0 l0 2 (by omega) odt HC0.out; have HR692 := Aside0.mk (Kd.C_of_reads (h1 := fun _ => rfl) (hA5 _ (Kd.reads_of_C HR0.out))); have HC692 := Aside0.mk hC5; clear hA5 hC5 hi05 hsz5) | (go_at_call 87; refine calls_of_args (args' := #[.slice A5 (l0.drop 2).length (c0 - 2)]) (by first | (rw [show (l0.drop 2).length = (l0.length - 2) from List.length_drop]; done) | rfl | (simp; done)) ?_; (with_reducible refine (rewrite_two.calls _ _ (l0.drop 2) t693 _ ?side1 ?side2 A4.out).mono ?_); (case side1 => repeat (first | exact HR692.out | (with_reducible refine Kd.C_alloc ?_ _) | (with_reducible refine Kd.C_drewN ?_ _) | (with_reducible refine Kd.C_drew ?_))); (case side2 => exact HC692.out); rintro e w' ⟨rfl, ⟨nd, rfl⟩⟩; (try first | exact ⟨rfl, _, World.drewN_drewN _ _ _⟩ | exact ⟨rfl, _, Eq.trans (World.drewN_drewN _ _ _) (congrArg (World.drewN _) (Nat.add_assoc _ _ _))⟩))))
  go_ret
  exact ⟨by first | rfl | (simp; done) | (simp [*]; done), by repeat (first | exact Drawn0.refl _ | apply Drawn0.step)⟩
 ·rw [if_neg c3] at H
  exact absurd H (by simp)
attribute [local go_sem] max2_int min2_int max_two min_two max_three min_three max_four min_four
def rewrite_inner.f (k : Nat) (l0 : List Int) : Option ((List (S65)) × Bool) := (rewrite_within.f k l0).bind fun bt694 => (if bt694.2 = true then (if 0 <= bt694.1 then (if bt694.1 <= (l0.length : Int) then ((rewrite_two.f (l0.drop (bt694.1 : Int).toNat)).bind fun t697 => (if 0 <= (wrap64 (bt694.1 + 2)) then (if (wrap64 (bt694.1 + 2)) <= (l0.length : Int) then ((rewrite_two.f (l0.drop ((wrap64 (bt694.1 + 2)) : Int).toNat)).bind fun t699 => (if 9 < (l0.length : Int) then (if (rd l0 9) = 1 then (if 0 <= (wrap64 (bt694.1 + 4)) then (if (wrap64 (bt694.1 + 4)) <= (l0.length : Int) then ((rewrite_two.f (l0.drop ((wrap64 (bt694.1 + 4)) : Int).toNat)).bind fun t702 => (if 12 <= (l0.length : Int) then ((rewrite_four.f (l0.drop 12)).bind fun t704 => (if 16 <= (l0.length : Int) then ((rewrite_four.f (l0.drop 16)).bind fun t706 => (some ((([(⟨t704, t702⟩ : S65), (⟨t706, t702⟩ : S65)] : List (S65))), true))) else (none))) else (none))) else (none)) else (none)) else (if 12 <= (l0.length : Int) then ((rewrite_four.f (l0.drop 12)).bind fun t711 => (if 16 <= (l0.length : Int) then ((rewrite_four.f (l0.drop 16)).bind fun t713 => (some ((([(⟨t711, t697⟩ : S65), (⟨t713, t699⟩ : S65)] : List (S65))), true))) else (none))) else (none))) else (none))) else (none)) else (none))) else (none)) else (none)) else (some (([] : List (S65)), false)))
def rewrite_inner.T4 : Bool × List (List Nat × List Nat) := (true, [([], []), ([], []), ([0, 1], [0, 1]), ([2], [2]), ([], []), ([], []), ([5], [5]), ([4, 6], [4, 6]), ([7, 3], [7]), ([3, 8, 0, 1, 2, 3], [3]), ([8, 9, 0, 1, 2, 3, 4, 5, 6, 7, 8, 9], [8])])
def rewrite_inner.B4 : List Nat := [0, 0, 3, 7, 0, 0, 32, 112, 255, 511, 1023]
theorem rewrite_inner.tab4 : rtab .any (opsOf Try.f104 4) = rewrite_inner.T4 := by kernel_rfl
theorem rewrite_inner.bits4 : waitsOk rewrite_inner.T4.2 rewrite_inner.B4 = true := by kernel_rfl
def rewrite_inner.T8 : Bool × List (List Nat × List Nat) := (true, [([], []), ([0], [0]), ([1], [1]), ([], []), ([2, 3], [2, 3]), ([], []), ([5], [5]), ([6, 2], [6]), ([], []), ([7, 8], [7, 8]), ([4, 9], [4, 9]), ([10, 7, 0, 1, 2, 3, 4, 5, 6, 7, 8, 9, 10], [10]), ([11, 0, 1, 2, 3, 4, 5, 6, 7, 8, 9, 10, 11], [])])
def rewrite_inner.B8 : List Nat := [0, 1, 3, 0, 15, 0, 32, 103, 0, 487, 1023, 2047, 4095]
theorem rewrite_inner.tab8 : rtab .any (opsOf Try.f104 8) = rewrite_inner.T8 := by kernel_rfl
theorem rewrite_inner.bits8 : waitsOk rewrite_inner.T8.2 rewrite_inner.B8 = true := by kernel_rfl
theorem rewrite_inner.calls (k : Nat) (A0 : Option Addr) (c0 : Nat) (l0 : List Int) (r1 : List (S65)) (r2 : Bool) (w : World) (hr0 : Kd.C (Kd.int .u8) w A0 l0.length l0) (hc0 : l0.length <= c0) (h : rewrite_inner.f k l0 = some (r1, r2)) :
  Calls Try.prog 104 #[.slice A0 l0.length c0] w fun e w' => ∃ v0_ : Value, e = .returned (.tuple #[v0_, .bool r2]) /\ Kd.R k65 65 w' w.heap.size (fun _ => True) v0_ r1 /\ Below w.heap.size w w' := by
 have hu65 := Try.underlying65; have HR0 := Aside0.mk hr0; have HC0 := Aside0.mk hc0; clear hr0 hc0; have HB := Aside0.mk (Below.refl w.heap.size w)
 have H : ((rewrite_within.f k l0).bind fun bt694 => (if bt694.2 = true then (if 0 <= bt694.1 then (if bt694.1 <= (l0.length : Int) then ((rewrite_two.f (l0.drop (bt694.1 : Int).toNat)).bind fun t697 => (if 0 <= (wrap64 (bt694.1 + 2)) then (if (wrap64 (bt694.1 + 2)) <= (l0.length : Int) then ((rewrite_two.f (l0.drop ((wrap64 (bt694.1 + 2)) : Int).toNat)).bind fun t699 => (if 9 < (l0.length : Int) then (if (rd l0 9) = 1 then (if 0 <= (wrap64 (bt694.1 + 4)) then (if (wrap64 (bt694.1 + 4)) <= (l0.length : Int) then ((rewrite_two.f (l0.drop ((wrap64 (bt694.1 + 4)) : Int).toNat)).bind fun t702 => (if 12 <= (l0.length : Int) then ((rewrite_four.f (l0.drop 12)).bind fun t704 => (if 16 <= (l0.length : Int) then ((rewrite_four.f (l0.drop 16)).bind fun t706 => (some ((([(⟨t704, t702⟩ : S65), (⟨t706, t702⟩ : S65)] : List (S65))), true))) else (none))) else (none))) else (none)) else (none)) else (if 12 <= (l0.length : Int) then ((rewrite_four.f (l0.drop 12)).bind fun t711 => (if 16 <= (l0.length : Int) then ((rewrite_four.f (l0.drop 16)).bind fun t713 => (some ((([(⟨t711, t697⟩ : S65), (⟨t713, t699⟩ : S65)] : List (S65))), true))) else (none))) else (none))) else (none))) else (none)) else (none))) else (none)) else (none)) else (some (([] : List (S65)), false)))) = some (r1, r2) := h
 clear h; replace H := Option.bind_eq_some_iff.mp H; obtain ⟨⟨t694, t695⟩, A20, H⟩ := H
 (try dsimp -simprocs only at H)
 have A2 := Aside0.mk A20; clear A20
 by_cases c3 : t695 = true
 ·subst c3
  have H1 : (if 0 <= t694 then (if t694 <= (l0.length : Int) then ((rewrite_two.f (l0.drop (t694 : Int).toNat)).bind fun t697 => (if 0 <= (wrap64 (t694 + 2)) then (if (wrap64 (t694 + 2)) <= (l0.length : Int) then ((rewrite_two.f (l0.drop ((wrap64 (t694 + 2)) : Int).toNat)).bind fun t699 => (if 9 < (l0.length : Int) then (if (rd l0 9) = 1 then (if 0 <= (wrap64 (t694 + 4)) then (if (wrap64 (t694 + 4)) <= (l0.length : Int) then ((rewrite_two.f (l0.drop ((wrap64 (t694 + 4)) : Int).toNat)).bind fun t702 => (if 12 <= (l0.length : Int) then ((rewrite_four.f (l0.drop 12)).bind fun t704 => (if 16 <= (l0.length : Int) then ((rewrite_four.f (l0.drop 16)).bind fun t706 => (some ((([(⟨t704, t702⟩ : S65), (⟨t706, t702⟩ : S65)] : List (S65))), true))) else (none))) else (none))) else (none)) else (none)) else (if 12 <= (l0.length : Int) then ((rewrite_four.f (l0.drop 12)).bind fun t711 => (if 16 <= (l0.length : Int) then ((rewrite_four.f (l0.drop 16)).bind fun t713 => (some ((([(⟨t711, t697⟩ : S65), (⟨t713, t699⟩ : S65)] : List (S65))), true))) else (none))) else (none))) else (none))) else (none)) else (none))) else (none)) else (none)) = some (r1, r2) := by rw [if_pos rfl] at H; exact H
  clear H; have H := H1; clear H1
  by_cases c4 : 0 <= t694
  ·rw [if_pos c4] at H
   have c4b0 := eq_true c4; have c4b1 : decide (0 <= t694) = true := decide_eq_true c4; clear c4
   by_cases c5 : t694 <= (l0.length : Int)
   ·rw [if_pos c5] at H
    have c5b0 := eq_true c5; have c5b1 : decide (t694 <= (l0.length : Int)) = true := decide_eq_true c5; clear c5; replace H := Option.bind_eq_some_iff.mp H; obtain ⟨t697, A60, H⟩ := H
    (try dsimp -simprocs only at H)
    have A6 := Aside0.mk A60; clear A60; obtain ⟨ji7, hji7⟩ : ∃ j_ : Int, (wrap64 (t694 + 2)) = j_ := ⟨_, rfl⟩
    replace H : (if 0 <= (ji7) then (if (ji7) <= (l0.length : Int) then ((rewrite_two.f (l0.drop ((ji7) : Int).toNat)).bind fun t699 => (if 9 < (l0.length : Int) then (if (rd l0 9) = 1 then (if 0 <= (wrap64 (t694 + 4)) then (if (wrap64 (t694 + 4)) <= (l0.length : Int) then ((rewrite_two.f (l0.drop ((wrap64 (t694 + 4)) : Int).toNat)).bind fun t702 => (if 12 <= (l0.length : Int) then ((rewrite_four.f (l0.drop 12)).bind fun t704 => (if 16 <= (l0.length : Int) then ((rewrite_four.f (l0.drop 16)).bind fun t706 => (some ((([(⟨t704, t702⟩ : S65), (⟨t706, t702⟩ : S65)] : List (S65))), true))) else (none))) else (none))) else (none)) else (none)) else (if 12 <= (l0.length : Int) then ((rewrite_four.f (l0.drop 12)).bind fun t711 => (if 16 <= (l0.length : Int) then ((rewrite_four.f (l0.drop 16)).bind fun t713 => (some ((([(⟨t711, t697⟩ : S65), (⟨t713, t699⟩ : S65)] : List (S65))), true))) else (none))) else (none))) else (none))) else (none)) else (none)) = some (r1, r2) := by first | (rw [hji7] at H; exact H) | (simp only [hji7] at H |-; exact H)
    (try rw [hji7] at A2)
    (try rw [hji7] at A6)
    have hji7w : (IntKind.i64.wrap (t694 + 2)) = ji7 := (i64_w _).trans hji7
    by_cases c8 : 0 <= (ji7)
    ·rw [if_pos c8] at H
     have c8b0 := eq_true c8; have c8b1 : decide (0 <= (ji7)) = true := decide_eq_true c8; clear c8
     by_cases c9 : (ji7) <= (l0.length : Int)
     ·rw [if_pos c9] at H
      have c9b0 := eq_true c9; have c9b1 : decide ((ji7) <= (l0.length : Int)) = true := decide_eq_true c9; clear c9; replace H := Option.bind_eq_some_iff.mp H; obtain ⟨t699, A100, H⟩ := H
      (try dsimp -simprocs only at H)
      have A10 := Aside0.mk A100; clear A100
      by_cases c11 : 9 < (l0.length : Int)
      ·rw [if_pos c11] at H
       have c11b0 : decide (9 < (l0.length : Int)) = true := decide_eq_true c11; have c11b1 : decide (9 < l0.length) = true := decide_eq_true (by omega); clear c11
       by_cases c12 : (rd l0 9) = 1
       ·rw [if_pos c12] at H
        have c12b0 : ((rd l0 9) == 1) = true := beq_iff_eq.mpr c12; have c12b1 : ((rd l0 9) != 1) = false := bne_eq_false_iff_eq.mpr c12; clear c12; obtain ⟨ji13, hji13⟩ : ∃ j_ : Int, (wrap64 (t694 + 4)) = j_ := ⟨_, rfl⟩
        replace H : (if 0 <= (ji13) then (if (ji13) <= (l0.length : Int) then ((rewrite_two.f (l0.drop ((ji13) : Int).toNat)).bind fun t702 => (if 12 <= (l0.length : Int) then ((rewrite_four.f (l0.drop 12)).bind fun t704 => (if 16 <= (l0.length : Int) then ((rewrite_four.f (l0.drop 16)).bind fun t706 => (some ((([(⟨t704, t702⟩ : S65), (⟨t706, t702⟩ : S65)] : List (S65))), true))) else (none))) else (none))) else (none)) else (none)) = some (r1, r2) := by first | (rw [hji13] at H; exact H) | (simp only [hji13] at H |-; exact H)
        (try rw [hji13] at A2)
        (try rw [hji13] at A6)
        (try rw [hji13] at A10)
        have hji13w : (IntKind.i64.wrap (t694 + 4)) = ji13 := (i64_w _).trans hji13
        by_cases c14 : 0 <= (ji13)
        ·rw [if_pos c14] at H
         have c14b0 := eq_true c14; have c14b1 : decide (0 <= (ji13)) = true := decide_eq_true c14; clear c14
         by_cases c15 : (ji13) <= (l0.length : Int)
         ·rw [if_pos c15] at H
          have c15b0 := eq_true c15; have c15b1 : decide ((ji13) <= (l0.length : Int)) = true := decide_eq_true c15; clear c15; replace H := Option.bind_eq_some_iff.mp H; obtain ⟨t702, A160, H⟩ := H
          (try dsimp -simprocs only at H)
          have A16 := Aside0.mk A160; clear A160
          by_cases c17 : 12 <= (l0.length : Int)
          ·rw [if_pos c17] at H
           have c17b0 := eq_true c17; have c17b1 : decide (12 <= (l0.length : Int)) = true := decide_eq_true c17; clear c17; replace H := Option.bind_eq_some_iff.mp H; obtain ⟨t704, A180, H⟩ := H
           (try dsimp -simprocs only at H)
           have A18 := Aside0.mk A180; clear A180
           by_cases c19 : 16 <= (l0.length : Int)
           ·rw [if_pos c19] at H
            have c19b0 := eq_true c19; have c19b1 : decide (16 <= (l0.length : Int)) = true := decide_eq_true c19; clear c19; replace H := Option.bind_eq_some_iff.mp H; obtain ⟨t706, A200, H⟩ := H
            (try dsimp -simprocs only at H)
            have A20 := Aside0.mk A200; clear A200; obtain ⟨y707, hy707⟩ : ∃ y_ : List (S65), y_ = (([(⟨t704, t702⟩ : S65), (⟨t706, t702⟩ : S65)] : List (S65))) := ⟨_, rfl⟩
            rw [<- hy707] at H
            have Ny707 := Aside0.mk hy707; clear hy707; simp only [Option.some.injEq, Prod.mk.injEq] at H
            obtain ⟨rfl, rfl⟩ := H
            go_enter Try.func104, Try.ntmps104
            try go_wp2_with (first | ((with_reducible refine gate_callee (f := 86) rfl ?_); refine gL 10 Try.func86 #[.slice A0 l0.length c0] ?_; (with_reducible refine (rewrite_within.calls k _ _ l0 t694 true _ ?side1 ?side2 A2.out).mono ?_); (case side1 => repeat (first | exact HR0.out | (with_reducible refine Kd.C_alloc ?_ _) | (with_reducible refine Kd.C_drewN ?_ _) | (with_reducible refine Kd.C_drew ?_))); (case side2 => exact HC0.out); rintro e w21 ⟨rfl, hb⟩; refine ⟨_, rfl, ?_⟩; have n0_ := Aside0.mk (below_step (bz HB) hb); clear HB; have HB := n0_; clear n0_; (try clear hb); (try clear hb2); (try clear hk); (try clear hi)))
            have n0_ := Aside0.mk (below_drew1 HB.out); clear HB; have HB := n0_; clear n0_; obtain ⟨i023, hi023, _, hsz23, _⟩ := info_parts info5; obtain ⟨A23, hcut23, hA23, hC23⟩ := print_drop_of (P := Try.prog) (Value.int .u8) 0 23 5 .i64 Try.underlying23 hi023 hsz23 A0 c0 l0 t694 odt odt HC0.out; have HR696 := Aside0.mk (Kd.C_of_reads (h1 := fun _ => rfl) (hA23 _ (Kd.reads_of_C HR0.out))); have HC696 := Aside0.mk hC23; clear hA23 hC23 hi023 hsz23; obtain ⟨i024, hi024, _, hsz24, _⟩ := info_parts info5
            obtain ⟨A24, hcut24, hA24, hC24⟩ := print_drop_of (P := Try.prog) (Value.int .u8) 0 23 5 .i64 Try.underlying23 hi024 hsz24 A0 c0 l0 (ji7) odt odt HC0.out; have HR698 := Aside0.mk (Kd.C_of_reads (h1 := fun _ => rfl) (hA24 _ (Kd.reads_of_C HR0.out))); have HC698 := Aside0.mk hC24; clear hA24 hC24 hi024 hsz24; refine start_ (n := 11) (S := fun w' => True) (ds := []) #[false, false, false, false, false, false, false, false, false, false, false] (by kernel_rfl) rfl rfl trivial (fun hHeld => ?_); refine with_tabW rewrite_inner.tab4 rewrite_inner.bits4 (fun HT_ HW_ => ?_); generalize w21.drew = w22 at HB HR696 HR698 hHeld |-
            refine pz 0 15 HT_ ?_; refine pz 1 16 HT_ ?_; refine pz 2 17 HT_ ?_; refine pz 4 19 HT_ ?_; refine pz 5 20 HT_ ?_; refine pz 6 21 HT_ ?_; refine pz 7 22 HT_ ?_; refine oz 3 (some 18) HT_ (fun K hK => ?_); refine goes_ Try.func87 (by kernel_rfl) rfl #[.slice A23 (l0.drop (t694 : Int).toNat).length (c0 - t694.toNat)] (by rfl) rfl rfl (by (try simp only [List.map_toArray, List.map_cons, List.map_nil]); first | done | (rw [show (l0.drop (t694 : Int).toNat).length = (l0.length - t694.toNat) from List.length_drop] <;> rfl) | rfl | (simp only [List.length_drop, List.length_take]; rfl) | (go_simp; done) | (simp [Act.eval, IntKind.signed]; done) | (simp [Act.eval, IntKind.signed]; rfl)) ?_
            with_reducible refine (rewrite_two.calls _ _ (l0.drop (t694 : Int).toNat) t697 _ ?side1 ?side2 A6.out).mono ?_
            (case side1 => exact Kd.C_below HR696.out (bz HB))
            (case side2 => exact HC696.out)
            rintro e w' ⟨rfl, ⟨nd, rfl⟩⟩; refine ⟨_, rfl, ?_⟩; refine hK.out _ _ trivial (fun hHeld => ?_); clear hK K; refine nz 18 ?_; refine oz 8 (some 23) HT_ (fun K hK => ?_); refine goes_ Try.func87 (by kernel_rfl) rfl #[.slice A24 (l0.drop ((ji7) : Int).toNat).length (c0 - (ji7).toNat)] (by rfl) rfl rfl (by (try simp only [List.map_toArray, List.map_cons, List.map_nil]); first | done | (rw [show (l0.drop ((ji7) : Int).toNat).length = (l0.length - (ji7).toNat) from List.length_drop] <;> rfl) | (simp only [hji7]; rfl) | rfl | (simp only [List.length_drop, List.length_take]; rfl) | (go_simp; done) | (simp [Act.eval, IntKind.signed]; done) | (simp [Act.eval, IntKind.signed]; rfl)) ?_
            with_reducible refine (rewrite_two.calls _ _ (l0.drop ((ji7) : Int).toNat) t699 _ ?side1 ?side2 A10.out).mono ?_
            (case side1 => exact Kd.C_below HR698.out (bz HB))
            (case side2 => exact HC698.out)
            rintro e w' ⟨rfl, ⟨nd, rfl⟩⟩; refine ⟨_, rfl, ?_⟩; refine hK.out _ _ trivial (fun hHeld => ?_); clear hK K; refine nz 23 ?_; refine pz 9 6 HT_ ?_; refine pz 10 7 HT_ ?_; refine dz HT_ ?_; have p700 : 0 <= (9 : Int) := (by omega)
            have q700 : 9 < (l0.length : Int) := odt; obtain ⟨ad700, e700, hx700_0⟩ := Kd.at_int HR0.out 9 p700 q700
            cases e700
            (try simp only [show (9 : Int).toNat = 9 from rfl, Nat.reduceMul, Nat.reduceEqDiff, Go.Addr.add, ↓reduceIte] at hx700_0)
            have qi700 : (9 < l0.length) = True := eq_true (by omega)
            (try rw [show ((9 : Int)).toNat = 9 from rfl] at hx700_0)
            replace hx700_0 := (HB.out.cell (World.block_lt_of_cell? w _ hx700_0)).trans hx700_0; replace p700 := eq_true p700; replace q700 := eq_true q700; obtain ⟨i025, hi025, _, hsz25, _⟩ := info_parts info5; obtain ⟨A25, hcut25, hA25, hC25⟩ := print_drop_of (P := Try.prog) (Value.int .u8) 0 23 5 .i64 Try.underlying23 hi025 hsz25 (some ad700) c0 l0 (ji13) odt odt HC0.out; have HR701 := Aside0.mk (Kd.C_of_reads (h1 := fun _ => rfl) (hA25 _ (Kd.reads_of_C HR0.out))); have HC701 := Aside0.mk hC25; clear hA25 hC25 hi025 hsz25
            try go_wp2_with (first | ((with_reducible refine gate_callee (f := 87) rfl ?_); refine goesL_ (some 32) rfl rfl Try.func87 (by kernel_rfl) rfl #[.slice A25 (l0.drop ((ji13) : Int).toNat).length (c0 - (ji13).toNat)] rfl (by (try simp only [List.map_toArray, List.map_cons, List.map_nil]); first | done | (rw [show (l0.drop ((ji13) : Int).toNat).length = (l0.length - (ji13).toNat) from List.length_drop] <;> rfl) | (simp only [hji13]; rfl) | rfl | (simp only [List.length_drop, List.length_take]; rfl) | (go_simp; done) | (simp [Act.eval, IntKind.signed]; done) | (simp [Act.eval, IntKind.signed]; rfl)) ?_; (with_reducible refine (rewrite_two.calls _ _ (l0.drop ((ji13) : Int).toNat) t702 _ ?side1 ?side2 A16.out).mono ?_); (case side1 => exact Kd.C_below HR701.out (bz HB)); (case side2 => exact HC701.out); rintro e w' ⟨rfl, ⟨nd, rfl⟩⟩; refine ⟨_, rfl, ?_⟩))
            (try (rw [drewN_self w22]; generalize hq_ : World.drewN w22 _ = w22; have n0_ : Aside0 (Below w.heap.size w w22) := ⟨by rw [<- hq_]; exact bz HB⟩; clear HB hq_; have HB := n0_; clear n0_))
            have n0_ := Aside0.mk (below_drew1 HB.out); clear HB; have HB := n0_; clear n0_; obtain ⟨i027, hi027, _, hsz27, _⟩ := info_parts info5; obtain ⟨A27, hcut27, hA27, hC27⟩ := print_drop_of (P := Try.prog) (Value.int .u8) 0 23 5 .i64 Try.underlying23 hi027 hsz27 (some ad700) c0 l0 12 (by omega) odt HC0.out; have HR703 := Aside0.mk (Kd.C_of_reads (h1 := fun _ => rfl) (hA27 _ (Kd.reads_of_C HR0.out))); have HC703 := Aside0.mk hC27; clear hA27 hC27 hi027 hsz27; obtain ⟨i028, hi028, _, hsz28, _⟩ := info_parts info5; obtain ⟨A28, hcut28, hA28, hC28⟩ := print_drop_of (P := Try.prog) (Value.int .u8) 0 23 5 .i64 Try.underlying23 hi028 hsz28 (some ad700) c0 l0 16 (by omega) odt HC0.out
            have HR705 := Aside0.mk (Kd.C_of_reads (h1 := fun _ => rfl) (hA28 _ (Kd.reads_of_C HR0.out))); have HC705 := Aside0.mk hC28; clear hA28 hC28 hi028 hsz28; refine start_ (n := 13) (S := fun w' => True) (ds := []) #[false, false, false, false, false, false, false, false, false, false, false, false, false] (by kernel_rfl) rfl rfl trivial (fun hHeld => ?_); refine with_tabW rewrite_inner.tab8 rewrite_inner.bits8 (fun HT_ HW_ => ?_); generalize w22.drew = w26 at HB HR703 HR705 hHeld |-
            refine pz 0 34 HT_ ?_; refine pz 1 35 HT_ ?_; refine pz 3 37 HT_ ?_; refine pz 5 39 HT_ ?_; refine pz 6 40 HT_ ?_; refine pz 8 42 HT_ ?_; refine oz 2 (some 36) HT_ (fun K hK => ?_); refine goes_ Try.func124 (by kernel_rfl) rfl #[.slice A27 (l0.drop 12).length (c0 - 12)] (by rfl) rfl rfl (by (try simp only [List.map_toArray, List.map_cons, List.map_nil]); first | done | (rw [show (l0.drop 12).length = (l0.length - 12) from List.length_drop] <;> rfl) | rfl | (simp only [List.length_drop, List.length_take]; rfl) | (go_simp; done) | (simp [Act.eval, IntKind.signed]; done) | (simp [Act.eval, IntKind.signed]; rfl)) ?_
            with_reducible refine (rewrite_four.calls _ _ (l0.drop 12) t704 _ ?side1 ?side2 A18.out).mono ?_
            (case side1 => exact Kd.C_below HR703.out (bz HB))
            (case side2 => exact HC703.out)
            rintro e w' ⟨rfl, ⟨nd, rfl⟩⟩; refine ⟨_, rfl, ?_⟩; refine hK.out _ _ trivial (fun hHeld => ?_); clear hK K; refine nz 36 ?_; refine pz 4 38 HT_ ?_; refine oz 7 (some 41) HT_ (fun K hK => ?_); refine goes_ Try.func124 (by kernel_rfl) rfl #[.slice A28 (l0.drop 16).length (c0 - 16)] (by rfl) rfl rfl (by (try simp only [List.map_toArray, List.map_cons, List.map_nil]); first | done | (rw [show (l0.drop 16).length = (l0.length - 16) from List.length_drop] <;> rfl) | rfl | (simp only [List.length_drop, List.length_take]; rfl) | (go_simp; done) | (simp [Act.eval, IntKind.signed]; done) | (simp [Act.eval, IntKind.signed]; rfl)) ?_
            with_reducible refine (rewrite_four.calls _ _ (l0.drop 16) t706 _ ?side1 ?side2 A20.out).mono ?_
            (case side1 => exact Kd.C_below HR705.out (bz HB))
            (case side2 => exact HC705.out)
            rintro e w' ⟨rfl, ⟨nd, rfl⟩⟩; refine ⟨_, rfl, ?_⟩; refine hK.out _ _ trivial (fun hHeld => ?_); clear hK K; refine nz 41 ?_; refine pz 9 43 HT_ ?_; refine oz 10 (some 44) HT_ (fun K hK => ?_)
            refine Kd.R_lit_step k65 _ 65 ?hg (N := 44) ?hd (xs := ([(⟨t704, t702⟩ : S65), (⟨t706, t702⟩ : S65)] : List (S65))) (inner := [.int .u32 t704, .int .u16 t702, .int .u32 t706, .int .u16 t702]) (ok := fun _ => True) (okp := fun _ => True) ?hr ?hp (fun _ hk => hk) trivial (Below.refl _ _) (Nat.le_refl _) (by simp) ?_; (case hd => rfl); (case hg => rfl); (case hr => first | (go_simp; done) | (go_simp; rfl)); (case hp => exact (Reps.c2 (show Kd.M k65 _ _ _ (⟨t704, t702⟩ : S65) [.int .u32 t704, .int .u16 t702] from (k65_mkM _ _ _ (⟨t704, t702⟩ : S65) )) (Reps.c2 (show Kd.M k65 _ _ _ (⟨t706, t702⟩ : S65) [.int .u32 t706, .int .u16 t702] from (k65_mkM _ _ _ (⟨t706, t702⟩ : S65) )) (Reps.none _ _)))); intro v708 w29 ho30 hb hg_ hnew_; clear hg_ hnew_
            (first | rw [<- Ny707.out] at ho30 | (simp only [Int.reduceToNat] at ho30; rw [<- Ny707.out] at ho30))
            have n0_ := Aside0.mk (Kd.R_lower ho30 (below_size (bz HB))); have n1_ := Aside0.mk (below_step (bz HB) hb); clear HB; have HO709 := n0_; have HB := n1_; clear n0_ n1_; clear hb ho30; refine hK.out _ _ trivial (fun hHeld => ?_); clear hK K; refine nz 44 ?_; refine pz 11 2 HT_ ?_; refine pz 12 3 HT_ ?_; refine dz HT_ ?_
            try go_wp2
            go_ret2
            exact ⟨_, by first | rfl | (simp [errW_none, errW_some] <;> rfl) | (simp only [<- hji7, <- hji13]; first | rfl | (simp [errW_none, errW_some] <;> rfl)) | (simp [*, errW_none, errW_some] <;> rfl), by (with_reducible repeat (first | apply Kd.R_alloc | apply Kd.R_drewN | apply Kd.R_drew)); exact HO709.out, bz HB⟩
           ·rw [if_neg c19] at H
            exact absurd H (by simp)
          ·rw [if_neg c17] at H
           exact absurd H (by simp)
         ·rw [if_neg c15] at H
          exact absurd H (by simp)
        ·rw [if_neg c14] at H
         exact absurd H (by simp)
       ·rw [if_neg c12] at H
        have c12b0 : ((rd l0 9) == 1) = false := beq_eq_false_iff_ne.mpr c12; have c12b1 : ((rd l0 9) != 1) = true := bne_iff_ne.mpr c12
        by_cases c31 : 12 <= (l0.length : Int)
        ·rw [if_pos c31] at H
         have c31b0 := eq_true c31; have c31b1 : decide (12 <= (l0.length : Int)) = true := decide_eq_true c31; clear c31; replace H := Option.bind_eq_some_iff.mp H; obtain ⟨t711, A320, H⟩ := H
         (try dsimp -simprocs only at H)
         have A32 := Aside0.mk A320; clear A320
         by_cases c33 : 16 <= (l0.length : Int)
         ·rw [if_pos c33] at H
          have c33b0 := eq_true c33; have c33b1 : decide (16 <= (l0.length : Int)) = true := decide_eq_true c33; clear c33; replace H := Option.bind_eq_some_iff.mp H; obtain ⟨t713, A340, H⟩ := H
          (try dsimp -simprocs only at H)
          have A34 := Aside0.mk A340; clear A340; obtain ⟨y714, hy714⟩ : ∃ y_ : List (S65), y_ = (([(⟨t711, t697⟩ : S65), (⟨t713, t699⟩ : S65)] : List (S65))) := ⟨_, rfl⟩
          rw [<- hy714] at H
          have Ny714 := Aside0.mk hy714; clear hy714; simp only [Option.some.injEq, Prod.mk.injEq] at H
          obtain ⟨rfl, rfl⟩ := H
          go_enter Try.func104, Try.ntmps104
          try go_wp2_with (first | ((with_reducible refine gate_callee (f := 86) rfl ?_); refine gL 10 Try.func86 #[.slice A0 l0.length c0] ?_; (with_reducible refine (rewrite_within.calls k _ _ l0 t694 true _ ?side1 ?side2 A2.out).mono ?_); (case side1 => repeat (first | exact HR0.out | (with_reducible refine Kd.C_alloc ?_ _) | (with_reducible refine Kd.C_drewN ?_ _) | (with_reducible refine Kd.C_drew ?_))); (case side2 => exact HC0.out); rintro e w35 ⟨rfl, hb⟩; refine ⟨_, rfl, ?_⟩; have n0_ := Aside0.mk (below_step (bz HB) hb); clear HB; have HB := n0_; clear n0_; (try clear hb); (try clear hb2); (try clear hk); (try clear hi)))
          have n0_ := Aside0.mk (below_drew1 HB.out); clear HB; have HB := n0_; clear n0_; obtain ⟨i037, hi037, _, hsz37, _⟩ := info_parts info5; obtain ⟨A37, hcut37, hA37, hC37⟩ := print_drop_of (P := Try.prog) (Value.int .u8) 0 23 5 .i64 Try.underlying23 hi037 hsz37 A0 c0 l0 t694 odt odt HC0.out; have HR696 := Aside0.mk (Kd.C_of_reads (h1 := fun _ => rfl) (hA37 _ (Kd.reads_of_C HR0.out))); have HC696 := Aside0.mk hC37; clear hA37 hC37 hi037 hsz37; obtain ⟨i038, hi038, _, hsz38, _⟩ := info_parts info5
          obtain ⟨A38, hcut38, hA38, hC38⟩ := print_drop_of (P := Try.prog) (Value.int .u8) 0 23 5 .i64 Try.underlying23 hi038 hsz38 A0 c0 l0 (ji7) odt odt HC0.out; have HR698 := Aside0.mk (Kd.C_of_reads (h1 := fun _ => rfl) (hA38 _ (Kd.reads_of_C HR0.out))); have HC698 := Aside0.mk hC38; clear hA38 hC38 hi038 hsz38; refine start_ (n := 11) (S := fun w' => True) (ds := []) #[false, false, false, false, false, false, false, false, false, false, false] (by kernel_rfl) rfl rfl trivial (fun hHeld => ?_); refine with_tabW rewrite_inner.tab4 rewrite_inner.bits4 (fun HT_ HW_ => ?_); generalize w35.drew = w36 at HB HR696 HR698 hHeld |-
          refine pz 0 15 HT_ ?_; refine pz 1 16 HT_ ?_; refine pz 2 17 HT_ ?_; refine pz 4 19 HT_ ?_; refine pz 5 20 HT_ ?_; refine pz 6 21 HT_ ?_; refine pz 7 22 HT_ ?_; refine oz 3 (some 18) HT_ (fun K hK => ?_); refine goes_ Try.func87 (by kernel_rfl) rfl #[.slice A37 (l0.drop (t694 : Int).toNat).length (c0 - t694.toNat)] (by rfl) rfl rfl (by (try simp only [List.map_toArray, List.map_cons, List.map_nil]); first | done | (rw [show (l0.drop (t694 : Int).toNat).length = (l0.length - t694.toNat) from List.length_drop] <;> rfl) | rfl | (simp only [List.length_drop, List.length_take]; rfl) | (go_simp; done) | (simp [Act.eval, IntKind.signed]; done) | (simp [Act.eval, IntKind.signed]; rfl)) ?_
          with_reducible refine (rewrite_two.calls _ _ (l0.drop (t694 : Int).toNat) t697 _ ?side1 ?side2 A6.out).mono ?_
          (case side1 => exact Kd.C_below HR696.out (bz HB))
          (case side2 => exact HC696.out)
          rintro e w' ⟨rfl, ⟨nd, rfl⟩⟩; refine ⟨_, rfl, ?_⟩; refine hK.out _ _ trivial (fun hHeld => ?_); clear hK K; refine nz 18 ?_; refine oz 8 (some 23) HT_ (fun K hK => ?_); refine goes_ Try.func87 (by kernel_rfl) rfl #[.slice A38 (l0.drop ((ji7) : Int).toNat).length (c0 - (ji7).toNat)] (by rfl) rfl rfl (by (try simp only [List.map_toArray, List.map_cons, List.map_nil]); first | done | (rw [show (l0.drop ((ji7) : Int).toNat).length = (l0.length - (ji7).toNat) from List.length_drop] <;> rfl) | (simp only [hji7]; rfl) | rfl | (simp only [List.length_drop, List.length_take]; rfl) | (go_simp; done) | (simp [Act.eval, IntKind.signed]; done) | (simp [Act.eval, IntKind.signed]; rfl)) ?_
          with_reducible refine (rewrite_two.calls _ _ (l0.drop ((ji7) : Int).toNat) t699 _ ?side1 ?side2 A10.out).mono ?_
          (case side1 => exact Kd.C_below HR698.out (bz HB))
          (case side2 => exact HC698.out)
          rintro e w' ⟨rfl, ⟨nd, rfl⟩⟩; refine ⟨_, rfl, ?_⟩; refine hK.out _ _ trivial (fun hHeld => ?_); clear hK K; refine nz 23 ?_; refine pz 9 6 HT_ ?_; refine pz 10 7 HT_ ?_; refine dz HT_ ?_; have p700 : 0 <= (9 : Int) := (by omega)
          have q700 : 9 < (l0.length : Int) := odt; obtain ⟨ad700, e700, hx700_0⟩ := Kd.at_int HR0.out 9 p700 q700
          cases e700
          (try simp only [show (9 : Int).toNat = 9 from rfl, Nat.reduceMul, Nat.reduceEqDiff, Go.Addr.add, ↓reduceIte] at hx700_0)
          have qi700 : (9 < l0.length) = True := eq_true (by omega)
          (try rw [show ((9 : Int)).toNat = 9 from rfl] at hx700_0)
          replace hx700_0 := (HB.out.cell (World.block_lt_of_cell? w _ hx700_0)).trans hx700_0; replace p700 := eq_true p700; replace q700 := eq_true q700
          try go_wp2
          (try (rw [drewN_self w36]; generalize hq_ : World.drewN w36 _ = w36; have n0_ : Aside0 (Below w.heap.size w w36) := ⟨by rw [<- hq_]; exact bz HB⟩; clear HB hq_; have HB := n0_; clear n0_))
          have n0_ := Aside0.mk (below_drew1 HB.out); clear HB; have HB := n0_; clear n0_; obtain ⟨i040, hi040, _, hsz40, _⟩ := info_parts info5; obtain ⟨A40, hcut40, hA40, hC40⟩ := print_drop_of (P := Try.prog) (Value.int .u8) 0 23 5 .i64 Try.underlying23 hi040 hsz40 (some ad700) c0 l0 12 (by omega) odt HC0.out; have HR710 := Aside0.mk (Kd.C_of_reads (h1 := fun _ => rfl) (hA40 _ (Kd.reads_of_C HR0.out))); have HC710 := Aside0.mk hC40; clear hA40 hC40 hi040 hsz40; obtain ⟨i041, hi041, _, hsz41, _⟩ := info_parts info5; obtain ⟨A41, hcut41, hA41, hC41⟩ := print_drop_of (P := Try.prog) (Value.int .u8) 0 23 5 .i64 Try.underlying23 hi041 hsz41 (some ad700) c0 l0 16 (by omega) odt HC0.out
          have HR712 := Aside0.mk (Kd.C_of_reads (h1 := fun _ => rfl) (hA41 _ (Kd.reads_of_C HR0.out))); have HC712 := Aside0.mk hC41; clear hA41 hC41 hi041 hsz41; refine start_ (n := 13) (S := fun w' => True) (ds := []) #[false, false, false, false, false, false, false, false, false, false, false, false, false] (by kernel_rfl) rfl rfl trivial (fun hHeld => ?_); refine with_tabW rewrite_inner.tab8 rewrite_inner.bits8 (fun HT_ HW_ => ?_); generalize w36.drew = w39 at HB HR710 HR712 hHeld |-
          refine pz 0 34 HT_ ?_; refine pz 1 35 HT_ ?_; refine pz 3 37 HT_ ?_; refine pz 5 39 HT_ ?_; refine pz 6 40 HT_ ?_; refine pz 8 42 HT_ ?_; refine oz 2 (some 36) HT_ (fun K hK => ?_); refine goes_ Try.func124 (by kernel_rfl) rfl #[.slice A40 (l0.drop 12).length (c0 - 12)] (by rfl) rfl rfl (by (try simp only [List.map_toArray, List.map_cons, List.map_nil]); first | done | (rw [show (l0.drop 12).length = (l0.length - 12) from List.length_drop] <;> rfl) | rfl | (simp only [List.length_drop, List.length_take]; rfl) | (go_simp; done) | (simp [Act.eval, IntKind.signed]; done) | (simp [Act.eval, IntKind.signed]; rfl)) ?_
          with_reducible refine (rewrite_four.calls _ _ (l0.drop 12) t711 _ ?side1 ?side2 A32.out).mono ?_
          (case side1 => exact Kd.C_below HR710.out (bz HB))
          (case side2 => exact HC710.out)
          rintro e w' ⟨rfl, ⟨nd, rfl⟩⟩; refine ⟨_, rfl, ?_⟩; refine hK.out _ _ trivial (fun hHeld => ?_); clear hK K; refine nz 36 ?_; refine pz 4 38 HT_ ?_; refine oz 7 (some 41) HT_ (fun K hK => ?_); refine goes_ Try.func124 (by kernel_rfl) rfl #[.slice A41 (l0.drop 16).length (c0 - 16)] (by rfl) rfl rfl (by (try simp only [List.map_toArray, List.map_cons, List.map_nil]); first | done | (rw [show (l0.drop 16).length = (l0.length - 16) from List.length_drop] <;> rfl) | rfl | (simp only [List.length_drop, List.length_take]; rfl) | (go_simp; done) | (simp [Act.eval, IntKind.signed]; done) | (simp [Act.eval, IntKind.signed]; rfl)) ?_
          with_reducible refine (rewrite_four.calls _ _ (l0.drop 16) t713 _ ?side1 ?side2 A34.out).mono ?_
          (case side1 => exact Kd.C_below HR712.out (bz HB))
          (case side2 => exact HC712.out)
          rintro e w' ⟨rfl, ⟨nd, rfl⟩⟩; refine ⟨_, rfl, ?_⟩; refine hK.out _ _ trivial (fun hHeld => ?_); clear hK K; refine nz 41 ?_; refine pz 9 43 HT_ ?_; refine oz 10 (some 44) HT_ (fun K hK => ?_)
          refine Kd.R_lit_step k65 _ 65 ?hg (N := 44) ?hd (xs := ([(⟨t711, t697⟩ : S65), (⟨t713, t699⟩ : S65)] : List (S65))) (inner := [.int .u32 t711, .int .u16 t697, .int .u32 t713, .int .u16 t699]) (ok := fun _ => True) (okp := fun _ => True) ?hr ?hp (fun _ hk => hk) trivial (Below.refl _ _) (Nat.le_refl _) (by simp) ?_; (case hd => rfl); (case hg => rfl); (case hr => first | (go_simp; done) | (go_simp; rfl)); (case hp => exact (Reps.c2 (show Kd.M k65 _ _ _ (⟨t711, t697⟩ : S65) [.int .u32 t711, .int .u16 t697] from (k65_mkM _ _ _ (⟨t711, t697⟩ : S65) )) (Reps.c2 (show Kd.M k65 _ _ _ (⟨t713, t699⟩ : S65) [.int .u32 t713, .int .u16 t699] from (k65_mkM _ _ _ (⟨t713, t699⟩ : S65) )) (Reps.none _ _)))); intro v715 w42 ho43 hb hg_ hnew_; clear hg_ hnew_
          (first | rw [<- Ny714.out] at ho43 | (simp only [Int.reduceToNat] at ho43; rw [<- Ny714.out] at ho43))
          have n0_ := Aside0.mk (Kd.R_lower ho43 (below_size (bz HB))); have n1_ := Aside0.mk (below_step (bz HB) hb); clear HB; have HO716 := n0_; have HB := n1_; clear n0_ n1_; clear hb ho43; refine hK.out _ _ trivial (fun hHeld => ?_); clear hK K; refine nz 44 ?_; refine pz 11 2 HT_ ?_; refine pz 12 3 HT_ ?_; refine dz HT_ ?_
          try go_wp2
          go_ret2
          exact ⟨_, by first | rfl | (simp [errW_none, errW_some] <;> rfl) | (simp only [<- hji7]; first | rfl | (simp [errW_none, errW_some] <;> rfl)) | (simp [*, errW_none, errW_some] <;> rfl), by (with_reducible repeat (first | apply Kd.R_alloc | apply Kd.R_drewN | apply Kd.R_drew)); exact HO716.out, bz HB⟩
         ·rw [if_neg c33] at H
          exact absurd H (by simp)
        ·rw [if_neg c31] at H
         exact absurd H (by simp)
      ·rw [if_neg c11] at H
       exact absurd H (by simp)
     ·rw [if_neg c9] at H
      exact absurd H (by simp)
    ·rw [if_neg c8] at H
     exact absurd H (by simp)
   ·rw [if_neg c5] at H
    exact absurd H (by simp)
  ·rw [if_neg c4] at H
   exact absurd H (by simp)
 ·replace c3 := Bool.eq_false_iff.mpr c3
  subst c3; have H1 : (some (([] : List (S65)), false)) = some (r1, r2) := by rw [if_neg (show ¬ (false = true) by decide)] at H; exact H
  clear H; have H := H1; clear H1; simp only [Option.some.injEq, Prod.mk.injEq] at H
  obtain ⟨rfl, rfl⟩ := H
  go_enter Try.func104, Try.ntmps104
  go_wp2_with (first | ((with_reducible refine gate_callee (f := 86) rfl ?_); refine gL 10 Try.func86 #[.slice A0 l0.length c0] ?_; (with_reducible refine (rewrite_within.calls k _ _ l0 t694 false _ ?side1 ?side2 A2.out).mono ?_); (case side1 => repeat (first | exact HR0.out | (with_reducible refine Kd.C_alloc ?_ _) | (with_reducible refine Kd.C_drewN ?_ _) | (with_reducible refine Kd.C_drew ?_))); (case side2 => exact HC0.out); rintro e w44 ⟨rfl, hb⟩; refine ⟨_, rfl, ?_⟩; have n0_ := Aside0.mk (below_step (bz HB) hb); clear HB; have HB := n0_; clear n0_; (try clear hb); (try clear hb2); (try clear hk); (try clear hi)))
  go_ret2
  exact ⟨_, by first | rfl | (simp [errW_none, errW_some] <;> rfl) | (simp [*, errW_none, errW_some] <;> rfl), by first | exact Kd.R_nil _ _ _ _ _ | exact Kd.N_nil _ _ _ _ _ | exact Kd.V_nil _ _ _ _ _ | exact Kd.Q_nil _ _ _ _ _ | exact Kd.S_nil _ _ _ _ _, bz HB⟩
def icmp_Error.f (a0_0 : Int) (a0_1 : Int) (a0_2 : Int) (a0_3 : Int) (l0_4 : List Int) : Option (Bool) := (icmp_kind.f a0_0).bind fun t718 => (some (t718 == 3))
theorem icmp_Error.calls (a0_0 : Int) (a0_1 : Int) (a0_2 : Int) (a0_3 : Int) (A0_4 : Option Addr) (c0_4 : Nat) (l0_4 : List Int) (r : Bool) (w : World) (hr0_4 : Kd.C (Kd.int .u8) w A0_4 l0_4.length l0_4) (hc0_4 : l0_4.length <= c0_4) (h : icmp_Error.f a0_0 a0_1 a0_2 a0_3 l0_4 = some r) :
  Calls Try.prog 106 #[.agg #[.int .u8 a0_0, .int .u8 a0_1, .int .u16 a0_2, .int .u32 a0_3, .slice A0_4 l0_4.length c0_4]] w fun e w' => e = .returned (.bool r) /\ Below w.heap.size w w' := by
 have hu101 := Try.underlying101; have HR0_4 := Aside0.mk hr0_4; have HC0_4 := Aside0.mk hc0_4; clear hr0_4 hc0_4; have HB := Aside0.mk (Below.refl w.heap.size w); have H : ((icmp_kind.f a0_0).bind fun t718 => (some (t718 == 3))) = some r := h; clear h; replace H := Option.bind_eq_some_iff.mp H; obtain ⟨t718, A20, H⟩ := H
 (try dsimp -simprocs only at H)
 have A2 := Aside0.mk A20; clear A20; obtain rfl := Option.some.inj H
 go_enter Try.func106, Try.ntmps106
 go_wp2_with (first | ((with_reducible refine gate_callee (f := 125) rfl ?_); refine gL 5 Try.func125 #[.int .u8 a0_0] ?_; (with_reducible refine (icmp_kind.calls a0_0 t718 _ A2.out).mono ?_); rintro e w' ⟨rfl, ⟨nd, rfl⟩⟩; refine ⟨_, rfl, ?_⟩))
 go_ret
 exact ⟨by first | rfl | (simp [errW_none, errW_some] <;> rfl) | (simp [*, errW_none, errW_some] <;> rfl), bz HB⟩
def udp_Sum.f (k : Nat) (a0 : Int) (a1 : Int) (a2_0 : Int) (a2_1 : Int) (a2_2 : Int) (l2_3 : List Int) : Option (Int) := (udp_total.f k a0 a1 a2_0 a2_1 0 l2_3).bind fun bt720 => (if bt720.2 = true then (if bt720.1 = 65535 then (some bt720.1) else (some (Go.bits .xor .u16 IntKind.u16.max bt720.1))) else (some 0))
theorem inR179 (v b : Value) (w : World) : (callMethod (.iface 179 v) "lych/rewrite.right" #[b]).run Try.prog w = .ok (.enter 156 #[v, b]) w := by kernel_rfl
attribute [local go_sem] inR179
theorem inP179 (v : Value) (w : World) : (callMethod (.iface 179 v) "lych/rewrite.proto" #[]).run Try.prog w = .ok (.enter 155 #[v]) w := by kernel_rfl
attribute [local go_sem] inP179
theorem inR181 (v b : Value) (w : World) : (callMethod (.iface 181 v) "lych/rewrite.right" #[b]).run Try.prog w = .ok (.enter 158 #[v, b]) w := by kernel_rfl
attribute [local go_sem] inR181
theorem inP181 (v : Value) (w : World) : (callMethod (.iface 181 v) "lych/rewrite.proto" #[]).run Try.prog w = .ok (.enter 157 #[v]) w := by kernel_rfl
attribute [local go_sem] inP181
theorem inR183 (v b : Value) (w : World) : (callMethod (.iface 183 v) "lych/rewrite.right" #[b]).run Try.prog w = .ok (.enter 161 #[v, b]) w := by kernel_rfl
attribute [local go_sem] inR183
theorem inP183 (v : Value) (w : World) : (callMethod (.iface 183 v) "lych/rewrite.proto" #[]).run Try.prog w = .ok (.enter 160 #[v]) w := by kernel_rfl
attribute [local go_sem] inP183
theorem inT179 (v : Value) (w : World) : (Instr.typeAssert (.iface 179 v) 130 179 false).run Try.prog w = .ok v w := by kernel_rfl
attribute [local go_sem] inT179
theorem inT181 (v : Value) (w : World) : (Instr.typeAssert (.iface 181 v) 130 181 false).run Try.prog w = .ok v w := by kernel_rfl
attribute [local go_sem] inT181
theorem inT183 (v : Value) (w : World) : (Instr.typeAssert (.iface 183 v) 130 183 false).run Try.prog w = .ok v w := by kernel_rfl
attribute [local go_sem] inT183
theorem inF179 (c0 c1 c2 c3 : Value) (w : World) : (Instr.field 179 (.agg #[c0, c1, c2, c3]) 0).run Try.prog w = .ok (.agg #[c0, c1, c2, c3]) w := by kernel_rfl
attribute [local go_sem] inF179
theorem inF181 (c0 c1 c2 c3 c4 c5 c6 c7 c8 c9 : Value) (w : World) : (Instr.field 181 (.agg #[c0, c1, c2, c3, c4, c5, c6, c7, c8, c9]) 0).run Try.prog w = .ok (.agg #[c0, c1, c2, c3, c4, c5, c6, c7, c8, c9]) w := by kernel_rfl
attribute [local go_sem] inF181
theorem inF183 (c0 c1 c2 c3 c4 : Value) (w : World) : (Instr.field 183 (.agg #[c0, c1, c2, c3, c4]) 0).run Try.prog w = .ok (.agg #[c0, c1, c2, c3, c4]) w := by kernel_rfl
attribute [local go_sem] inF183
theorem results_ctct {P : Program} {fn : Func} {p u p2 u2 : Tmp} {ty ty2 : TypeId} (h : fn.results = #[.cell p ty, .tmp u, .cell p2 ty2, .tmp u2]) (tmps : Array Value) (w : World) (g g2 : Nat) (t t2 : TypeId) (cs cs2 : Array Value) (fr fr2 : Nat × Nat) (d d2 : TypeDesc)
  (hp : tmps.getD p undef = .pointer (some ⟨g, 0, none⟩)) (hg : w.heap[g]? = some (.cells cs t fr)) (hu : P.underlying ty = some d) (hd : (match d with | .struct _ | .array _ _ => true | _ => false) = true) (hi : (P.info? ty).map (·.size) = some cs.size)
  (hp2 : tmps.getD p2 undef = .pointer (some ⟨g2, 0, none⟩)) (hg2 : w.heap[g2]? = some (.cells cs2 t2 fr2)) (hu2 : P.underlying ty2 = some d2) (hd2 : (match d2 with | .struct _ | .array _ _ => true | _ => false) = true) (hi2 : (P.info? ty2).map (·.size) = some cs2.size) :
  (results fn tmps).run P w = .ok (.tuple #[.agg cs, tmps.getD u undef, .agg cs2, tmps.getD u2 undef]) w := by
 have h1 : tmps[p]?.getD undef = .pointer (some ⟨g, 0, none⟩) := by simpa using hp
 have h2 : tmps[p2]?.getD undef = .pointer (some ⟨g2, 0, none⟩) := by simpa using hp2
 simp [results, h, h1, h2, asAddr, run_loadVar_row w g t ty cs fr d hg hu hd hi, run_loadVar_row w g2 t2 ty2 cs2 fr2 d2 hg2 hu2 hd2 hi2]
theorem results_cct {P : Program} {fn : Func} {p p2 u2 : Tmp} {ty ty2 : TypeId} (h : fn.results = #[.cell p ty, .cell p2 ty2, .tmp u2]) (tmps : Array Value) (w : World) (g g2 : Nat) (t t2 : TypeId) (cs cs2 : Array Value) (fr fr2 : Nat × Nat) (d d2 : TypeDesc)
  (hp : tmps.getD p undef = .pointer (some ⟨g, 0, none⟩)) (hg : w.heap[g]? = some (.cells cs t fr)) (hu : P.underlying ty = some d) (hd : (match d with | .struct _ | .array _ _ => true | _ => false) = true) (hi : (P.info? ty).map (·.size) = some cs.size)
  (hp2 : tmps.getD p2 undef = .pointer (some ⟨g2, 0, none⟩)) (hg2 : w.heap[g2]? = some (.cells cs2 t2 fr2)) (hu2 : P.underlying ty2 = some d2) (hd2 : (match d2 with | .struct _ | .array _ _ => true | _ => false) = true) (hi2 : (P.info? ty2).map (·.size) = some cs2.size) :
  (results fn tmps).run P w = .ok (.tuple #[.agg cs, .agg cs2, tmps.getD u2 undef]) w := by
 have h1 : tmps[p]?.getD undef = .pointer (some ⟨g, 0, none⟩) := by simpa using hp
 have h2 : tmps[p2]?.getD undef = .pointer (some ⟨g2, 0, none⟩) := by simpa using hp2
 simp [results, h, h1, h2, asAddr, run_loadVar_row w g t ty cs fr d hg hu hd hi, run_loadVar_row w g2 t2 ty2 cs2 fr2 d2 hg2 hu2 hd2 hi2]
inductive RB where
 | no
 | udp (us ud uc : Int) (ub : List Int)
 | tcp (ts td tq ta tf tw tc tu : Int) (to_ tb : List Int)
 | icmp (mt mc ms mr : Int) (mb : List Int)
structure LK where
 (a t pr i fl of_ s d : Int) (o b : List Int) (x : RB) (sp dp ff : Int) (inn : List S65) (e : Int)
def LK.err (e : Int) : LK := ⟨0, 0, 0, 0, 0, 0, 0, 0, [], [], .no, 0, 0, 0, [], e⟩
def RB.V (w : World) (base : Nat) (v : Value) : RB -> Prop
 | .no => v = .nilIface
 | .udp us ud uc ub => ∃ v3 : Value, v = .iface 179 (.agg #[.int .u16 us, .int .u16 ud, .int .u16 uc, v3]) /\ Kd.R (Kd.int .u8) 5 w base (fun _ => True) v3 ub
 | .tcp ts td tq ta tf tw tc tu to_ tb => ∃ v8 v9 : Value, v = .iface 181 (.agg #[.int .u16 ts, .int .u16 td, .int .u32 tq, .int .u32 ta, .int .u8 tf, .int .u16 tw, .int .u16 tc, .int .u16 tu, v8, v9]) /\ Kd.R (Kd.int .u8) 5 w base (fun _ => True) v8 to_ /\ Kd.R (Kd.int .u8) 5 w base (fun _ => True) v9 tb
 | .icmp mt mc ms mr mb => ∃ v4 : Value, v = .iface 183 (.agg #[.int .u8 mt, .int .u8 mc, .int .u16 ms, .int .u32 mr, v4]) /\ Kd.R (Kd.int .u8) 5 w base (fun _ => True) v4 mb
def lookIcmp (k : Nat) (a t i fl of_ s d : Int) (o b : List Int) : Option LK :=
 (icmp_Parse.f b).bind fun ⟨mt, mc, ms, mr, mb, e⟩ => if e = 0 then (icmp_Right.f k mt mc ms mr mb).bind fun r => if r = true then
  (rewrite_inner.f k mb).bind fun ⟨l, ok⟩ => (icmp_Echo.f mt mc ms mr mb).bind fun ec => if ec = true then some ⟨a, t, 1, i, fl, of_, s, d, o, b, .icmp mt mc ms mr mb, mr / 65536 % 65536, mr / 65536 % 65536, 0, [], 0⟩
  else (icmp_Error.f mt mc ms mr mb).bind fun er => if er = true then (if ok = true then some ⟨a, t, 1, i, fl, of_, s, d, o, b, .icmp mt mc ms mr mb, 0, 0, 0, l, 0⟩ else some (LK.err 21)) else some (LK.err 21)
  else some (LK.err 22) else some (LK.err e)
def LK.Post (r : LK) (base : Nat) (w0 : World) (e : Ending) (w' : World) : Prop :=
 ∃ v8 v9 vx vi : Value, e = .returned (.tuple #[.agg #[.int .u8 r.a, .int .u8 r.t, .int .u8 r.pr, .int .u16 r.i, .int .u8 r.fl, .int .u16 r.of_, .int .u32 r.s, .int .u32 r.d, v8, v9], vx, .agg #[.int .u8 r.pr, .int .u32 r.s, .int .u16 r.sp, .int .u32 r.d, .int .u16 r.dp, .int .u8 r.ff, vi], .int .i64 r.e]) /\ Kd.R (Kd.int .u8) 5 w' base (fun _ => True) v8 r.o /\ Kd.R (Kd.int .u8) 5 w' base (fun _ => True) v9 r.b /\ r.x.V w' base vx /\ Kd.R k65 65 w' base (fun _ => True) vi r.inn /\ Below base w0 w'
def look.R9.T : Bool × List (List Nat × List Nat) := (true, [([], []), ([], []), ([0, 0], [0]), ([2, 0, 2], []), ([1, 3, 0, 1, 2, 3], [1]), ([4, 0, 1, 2, 3, 4], [])])
theorem look.R9.tab : rtab .any (opsOf Try.f69 9) = look.R9.T := by kernel_rfl
theorem look.R9.bits : waitsOk look.R9.T.2 [0, 0, 1, 5, 15, 31] = true := by kernel_rfl
def look.R21.T : Bool × List (List Nat × List Nat) := (true, [([], []), ([0], [0]), ([1], [1]), ([], []), ([3], [3]), ([4], [4]), ([0, 1, 2], []), ([6, 0, 1, 2], [6]), ([7, 2, 0, 1, 2], [2, 7]), ([0, 1, 2, 3, 4, 5, 6, 7, 8], []), ([9, 0, 1, 2, 3, 4, 5, 6, 7, 8], [9]), ([10, 5, 8, 0, 1, 2, 3, 4, 5, 6, 7, 8], [5, 10])])
theorem look.R21.tab : rtab .any (opsOf Try.f69 21) = look.R21.T := by kernel_rfl
theorem look.R21.bits : waitsOk look.R21.T.2 [0, 1, 3, 0, 8, 24, 7, 71, 199, 511, 1023, 2047] = true := by kernel_rfl
def look.R25.T : Bool × List (List Nat × List Nat) := (true, [([], []), ([], []), ([], []), ([0, 0], [0]), ([1, 3, 0, 1, 3], [1]), ([2, 4, 0, 1, 2, 3, 4], [2]), ([5, 0, 1, 2, 3, 4, 5], [])])
theorem look.R25.tab : rtab .any (opsOf Try.f69 25) = look.R25.T := by kernel_rfl
theorem look.R25.bits : waitsOk look.R25.T.2 [0, 0, 0, 1, 11, 31, 63] = true := by kernel_rfl
def look.R7.T : Bool × List (List Nat × List Nat) := (true, [([], []), ([], []), ([], []), ([0, 0], [0]), ([3, 0, 3], []), ([1, 4, 0, 1, 3, 4], [1]), ([2, 5, 0, 1, 2, 3, 4, 5], [2])])
theorem look.R7.tab : rtab .any (opsOf Try.f69 7) = look.R7.T := by kernel_rfl
theorem look.R7.bits : waitsOk look.R7.T.2 [0, 0, 0, 1, 9, 27, 63] = true := by kernel_rfl
def look.R24.T : Bool × List (List Nat × List Nat) := (true, [([], []), ([0], [0]), ([1], [1]), ([], []), ([3], [3]), ([4], [4]), ([], []), ([6], [6]), ([7], [7]), ([0, 1, 2], []), ([9, 0, 1, 2], [9]), ([10, 2, 0, 1, 2], [2, 10]), ([0, 1, 2, 3, 4, 5, 9, 10, 11], []), ([12, 0, 1, 2, 3, 4, 5, 9, 10, 11], [12]), ([13, 5, 11, 0, 1, 2, 3, 4, 5, 9, 10, 11], [5, 13]), ([0, 1, 2, 3, 4, 5, 6, 7, 8, 9, 10, 11, 12, 13, 14], []), ([15, 8, 14, 0, 1, 2, 3, 4, 5, 6, 7, 8, 9, 10, 11, 12, 13, 14], [8, 15])])
theorem look.R24.tab : rtab .any (opsOf Try.f69 24) = look.R24.T := by kernel_rfl
theorem look.R24.bits : waitsOk look.R24.T.2 [0, 1, 3, 0, 8, 24, 0, 64, 192, 7, 519, 1543, 3647, 7743, 15935, 32767, 65535] = true := by kernel_rfl
def look.R16.T : Bool × List (List Nat × List Nat) := (true, [([], []), ([0], [0]), ([1], [1]), ([2], [2]), ([], []), ([4], [4]), ([5], [5]), ([6], [6]), ([0, 1, 2, 3], []), ([8, 0, 1, 2, 3], [8]), ([9, 3, 0, 1, 2, 3], [3, 9]), ([0, 1, 2, 3, 4, 5, 6, 7, 8, 9, 10], []), ([11, 0, 1, 2, 3, 4, 5, 6, 7, 8, 9, 10], [11]), ([12, 7, 10, 0, 1, 2, 3, 4, 5, 6, 7, 8, 9, 10], [7, 12])])
theorem look.R16.tab : rtab .any (opsOf Try.f69 16) = look.R16.T := by kernel_rfl
theorem look.R16.bits : waitsOk look.R16.T.2 [0, 1, 3, 7, 0, 16, 48, 112, 15, 271, 783, 2047, 4095, 8191] = true := by kernel_rfl
def look.R18.T : Bool × List (List Nat × List Nat) := (true, [([], []), ([], []), ([0, 0], [0]), ([2, 0, 2], []), ([1, 3, 0, 1, 2, 3], [1]), ([4, 0, 1, 2, 3, 4], [])])
theorem look.R18.tab : rtab .any (opsOf Try.f69 18) = look.R18.T := by kernel_rfl
theorem look.R18.bits : waitsOk look.R18.T.2 [0, 0, 1, 5, 15, 31] = true := by kernel_rfl
def look.R4.T : Bool × List (List Nat × List Nat) := (true, [([], []), ([], []), ([], []), ([0, 0], [0]), ([3, 0, 3], []), ([1, 4, 0, 1, 3, 4], [1]), ([2, 5, 0, 1, 2, 3, 4, 5], [2])])
theorem look.R4.tab : rtab .any (opsOf Try.f69 4) = look.R4.T := by kernel_rfl
theorem look.R4.bits : waitsOk look.R4.T.2 [0, 0, 0, 1, 9, 27, 63] = true := by kernel_rfl
attribute [local go_sem] max2_int min2_int max_two min_two max_three min_three max_four min_four
def tcp_Sum.f (k : Nat) (a0 : Int) (a1 : Int) (a2_0 : Int) (a2_1 : Int) (a2_2 : Int) (a2_3 : Int) (a2_4 : Int) (a2_5 : Int) (a2_6 : Int) (a2_7 : Int) (l2_8 : List Int) (l2_9 : List Int) : Option (Int) := (tcp_total.f k a0 a1 a2_0 a2_1 a2_2 a2_3 a2_4 a2_5 0 a2_7 l2_8 l2_9).bind fun bt723 => (if bt723.2 = true then (some (Go.bits .xor .u16 IntKind.u16.max bt723.1)) else (some 0))
def icmp_Sum.f (k : Nat) (a0_0 : Int) (a0_1 : Int) (a0_2 : Int) (a0_3 : Int) (l0_4 : List Int) : Option (Int) := (icmp_Bytes.f a0_0 a0_1 0 a0_3 l0_4).bind fun bt726 => (if bt726.2 = 0 then ((sum_Of.f k bt726.1).bind fun t730 => (some t730)) else (some 0))
theorem icmp_Sum.calls (k : Nat) (a0_0 : Int) (a0_1 : Int) (a0_2 : Int) (a0_3 : Int) (A0_4 : Option Addr) (c0_4 : Nat) (l0_4 : List Int) (r : Int) (w : World) (hr0_4 : Kd.C (Kd.int .u8) w A0_4 l0_4.length l0_4) (hc0_4 : l0_4.length <= c0_4) (h : icmp_Sum.f k a0_0 a0_1 a0_2 a0_3 l0_4 = some r) :
  Calls Try.prog 111 #[.agg #[.int .u8 a0_0, .int .u8 a0_1, .int .u16 a0_2, .int .u32 a0_3, .slice A0_4 l0_4.length c0_4]] w fun e w' => e = .returned (.int .u16 r) /\ Below w.heap.size w w' := by
 have hu101 := Try.underlying101; have HR0_4 := Aside0.mk hr0_4; have HC0_4 := Aside0.mk hc0_4; clear hr0_4 hc0_4; have HB := Aside0.mk (Below.refl w.heap.size w); have H : ((icmp_Bytes.f a0_0 a0_1 0 a0_3 l0_4).bind fun bt726 => (if bt726.2 = 0 then ((sum_Of.f k bt726.1).bind fun t730 => (some t730)) else (some 0))) = some r := h; clear h; replace H := Option.bind_eq_some_iff.mp H; obtain ⟨⟨t726, t729⟩, A20, H⟩ := H
 (try dsimp -simprocs only at H)
 have A2 := Aside0.mk A20; clear A20
 by_cases c3 : t729 = 0
 ·rw [if_pos c3] at H
  have c3b0 : (t729 == 0) = true := beq_iff_eq.mpr c3; have c3b1 : (t729 != 0) = false := bne_eq_false_iff_eq.mpr c3; clear c3; replace H := Option.bind_eq_some_iff.mp H; obtain ⟨t730, A40, H⟩ := H
  (try dsimp -simprocs only at H)
  have A4 := Aside0.mk A40; clear A40; obtain rfl := Option.some.inj H
  go_enter Try.func111, Try.ntmps111
  go_wp2_with (first | ((with_reducible refine gate_dst (N := 1) rfl ?_); refine box_event ?hg (N := 1) ?hd (cs := #[.int .u8 a0_0, .int .u8 a0_1, .int .u16 a0_2, .int .u32 a0_3, .slice A0_4 l0_4.length c0_4]) (t := 101) ?hr ?_; (case hd => rfl); (case hg => rfl); (case hr => first | (go_simp; done) | (go_simp; rfl)); intro gb725 hg w5 hbox hb; have n0_ := Aside0.mk (below_step (bz HB) hb); have n1_ := Aside0.mk (hbox); have n2_ := Aside0.mk ((by rw [hg]; exact (below_size (bz HB)) : w.heap.size <= gb725)); have n3_ := Aside0.mk ((by rw [hg]; exact (below_size (bz HB)) : w.heap.size <= gb725)); clear HB; have HB := n0_; have BK725 := n1_; have GW725 := n2_; have GE725 := n3_; clear n0_ n1_ n2_ n3_; clear hb hbox hg; have hcz6_0 : w5.cell? ⟨gb725, 0, none⟩ = some (.int .u8 a0_0) := cz BK725.out 0 rfl; have hcz6_1 : w5.cell? ⟨gb725, 1, none⟩ = some (.int .u8 a0_1) := cz BK725.out 1 rfl; have hcz6_2 : w5.cell? ⟨gb725, 2, none⟩ = some (.int .u16 a0_2) := cz BK725.out 2 rfl; have hcz6_3 : w5.cell? ⟨gb725, 3, none⟩ = some (.int .u32 a0_3) := cz BK725.out 3 rfl; have hcz6_4 : w5.cell? ⟨gb725, 4, none⟩ = some (.slice A0_4 l0_4.length c0_4) := cz BK725.out 4 rfl; have hfz6_0 := blk_frozen BK725.out 0; have hfz6_1 := blk_frozen BK725.out 1; have hfz6_2 := blk_frozen BK725.out 2; have hfz6_3 := blk_frozen BK725.out 3; have hfz6_4 := blk_frozen BK725.out 4) | ((with_reducible refine gate_callee (f := 112) rfl ?_); refine gL 8 Try.func112 #[.agg #[.int .u8 a0_0, .int .u8 a0_1, .int .u16 0, .int .u32 a0_3, .slice A0_4 l0_4.length c0_4]] ?_; (with_reducible refine (icmp_Bytes.calls a0_0 a0_1 0 a0_3 _ _ l0_4 t726 t729 _ ?side1 ?side2 A2.out).mono ?_); (case side1 => exact Kd.C_below HR0_4.out (bz HB)); (case side2 => exact HC0_4.out); rintro e w7 ⟨v727, rfl, ho0, hb⟩; refine ⟨_, rfl, ?_⟩; have n0_ := Aside0.mk (Kd.R_lower ho0 (below_size (bz HB))); have n1_ := Aside0.mk (blk_below (g := gb725) (o := .cells #[.int .u8 a0_0, .int .u8 a0_1, .int .u16 0, .int .u32 a0_3, .slice A0_4 l0_4.length c0_4] 101 (0, 0)) (by (with_reducible repeat (first | refine blk_drewN ?_ _ | refine blk_drew ?_ | refine blk_alloc ?_ _)); refine blk_put (cs := #[.int .u8 a0_0, .int .u8 a0_1, .int .u16 a0_2, .int .u32 a0_3, .slice A0_4 l0_4.length c0_4]) ?_ 2 _ rfl; (with_reducible repeat (first | refine blk_drewN ?_ _ | refine blk_drew ?_ | refine blk_alloc ?_ _)); exact BK725.out) hb); have n2_ := Aside0.mk (below_step (bz HB) hb); clear BK725; clear HB; have HO728 := n0_; have BK725 := n1_; have HB := n2_; clear n0_ n1_ n2_; (try clear hb); (try clear hb2); (try clear hk); (try clear hi); (try clear ho0); obtain ⟨Ao8, co8, eo8⟩ := Kd.R_slice HO728.out; subst eo8) | ((with_reducible refine gate_callee (f := 90) rfl ?_); refine gL 14 Try.func90 #[.slice Ao8 t726.length co8] ?_; (with_reducible refine (sum_Of.calls k _ _ t726 t730 _ ?side1 ?side2 A4.out).mono ?_); (case side1 => repeat (first | exact (Kd.R_reads' HO728.out).2.2 | (with_reducible refine Kd.C_alloc ?_ _) | (with_reducible refine Kd.C_drewN ?_ _) | (with_reducible refine Kd.C_drew ?_))); (case side2 => exact (Kd.R_reads' HO728.out).2.1); rintro e w9 ⟨rfl, hb⟩; refine ⟨_, rfl, ?_⟩; have n0_ := Aside0.mk (Kd.R_below (Kd.rz HO728) hb); have n1_ := Aside0.mk (blk_below (kz BK725) hb); have n2_ := Aside0.mk (below_step (bz HB) hb); clear HO728; clear BK725; clear HB; have HO728 := n0_; have BK725 := n1_; have HB := n2_; clear n0_ n1_ n2_; (try clear hb); (try clear hb2); (try clear hk); (try clear hi)))
  go_ret
  exact ⟨by first | rfl | (simp [errW_none, errW_some] <;> rfl) | (simp [*, errW_none, errW_some] <;> rfl), bz HB⟩
 ·rw [if_neg c3] at H
  have c3b0 : (t729 == 0) = false := beq_eq_false_iff_ne.mpr c3; have c3b1 : (t729 != 0) = true := bne_iff_ne.mpr c3; obtain rfl := Option.some.inj H
  go_enter Try.func111, Try.ntmps111
  go_wp2_with (first | ((with_reducible refine gate_dst (N := 1) rfl ?_); refine box_event ?hg (N := 1) ?hd (cs := #[.int .u8 a0_0, .int .u8 a0_1, .int .u16 a0_2, .int .u32 a0_3, .slice A0_4 l0_4.length c0_4]) (t := 101) ?hr ?_; (case hd => rfl); (case hg => rfl); (case hr => first | (go_simp; done) | (go_simp; rfl)); intro gb725 hg w10 hbox hb; have n0_ := Aside0.mk (below_step (bz HB) hb); have n1_ := Aside0.mk (hbox); have n2_ := Aside0.mk ((by rw [hg]; exact (below_size (bz HB)) : w.heap.size <= gb725)); have n3_ := Aside0.mk ((by rw [hg]; exact (below_size (bz HB)) : w.heap.size <= gb725)); clear HB; have HB := n0_; have BK725 := n1_; have GW725 := n2_; have GE725 := n3_; clear n0_ n1_ n2_ n3_; clear hb hbox hg; have hcz11_0 : w10.cell? ⟨gb725, 0, none⟩ = some (.int .u8 a0_0) := cz BK725.out 0 rfl; have hcz11_1 : w10.cell? ⟨gb725, 1, none⟩ = some (.int .u8 a0_1) := cz BK725.out 1 rfl; have hcz11_2 : w10.cell? ⟨gb725, 2, none⟩ = some (.int .u16 a0_2) := cz BK725.out 2 rfl; have hcz11_3 : w10.cell? ⟨gb725, 3, none⟩ = some (.int .u32 a0_3) := cz BK725.out 3 rfl; have hcz11_4 : w10.cell? ⟨gb725, 4, none⟩ = some (.slice A0_4 l0_4.length c0_4) := cz BK725.out 4 rfl; have hfz11_0 := blk_frozen BK725.out 0; have hfz11_1 := blk_frozen BK725.out 1; have hfz11_2 := blk_frozen BK725.out 2; have hfz11_3 := blk_frozen BK725.out 3; have hfz11_4 := blk_frozen BK725.out 4) | ((with_reducible refine gate_callee (f := 112) rfl ?_); refine gL 8 Try.func112 #[.agg #[.int .u8 a0_0, .int .u8 a0_1, .int .u16 0, .int .u32 a0_3, .slice A0_4 l0_4.length c0_4]] ?_; (with_reducible refine (icmp_Bytes.calls a0_0 a0_1 0 a0_3 _ _ l0_4 t726 t729 _ ?side1 ?side2 A2.out).mono ?_); (case side1 => exact Kd.C_below HR0_4.out (bz HB)); (case side2 => exact HC0_4.out); rintro e w12 ⟨v727, rfl, ho0, hb⟩; refine ⟨_, rfl, ?_⟩; have n0_ := Aside0.mk (Kd.R_lower ho0 (below_size (bz HB))); have n1_ := Aside0.mk (blk_below (g := gb725) (o := .cells #[.int .u8 a0_0, .int .u8 a0_1, .int .u16 0, .int .u32 a0_3, .slice A0_4 l0_4.length c0_4] 101 (0, 0)) (by (with_reducible repeat (first | refine blk_drewN ?_ _ | refine blk_drew ?_ | refine blk_alloc ?_ _)); refine blk_put (cs := #[.int .u8 a0_0, .int .u8 a0_1, .int .u16 a0_2, .int .u32 a0_3, .slice A0_4 l0_4.length c0_4]) ?_ 2 _ rfl; (with_reducible repeat (first | refine blk_drewN ?_ _ | refine blk_drew ?_ | refine blk_alloc ?_ _)); exact BK725.out) hb); have n2_ := Aside0.mk (below_step (bz HB) hb); clear BK725; clear HB; have HO728 := n0_; have BK725 := n1_; have HB := n2_; clear n0_ n1_ n2_; (try clear hb); (try clear hb2); (try clear hk); (try clear hi); (try clear ho0)))
  go_ret
  exact ⟨by first | rfl | (simp [errW_none, errW_some] <;> rfl) | (simp [*, errW_none, errW_some] <;> rfl), bz HB⟩
def rewrite_own.f (l0 : List Int) : Option (List Int × Int) := if 2 <= (l0.length : Int) then ((rewrite_two.f (l0.drop 2)).bind fun t734 => (if 0 <= t734 then (if t734 <= (l0.length : Int) then ((slices_Clone_byte_byte.f (l0.take (t734 : Int).toNat)).bind fun t736 => (if 0 < (l0.length : Int) then (some (t736, wrap64 (4 * (wrap64 (Go.bits .and .u8 (rd l0 0) 15))))) else (none))) else (none)) else (none))) else (none)
def rewrite_own.T1 : Bool × List (List Nat × List Nat) := (true, [([], []), ([], []), ([1], [1]), ([2], [2]), ([0, 3], [0, 3]), ([4, 3], [4]), ([], []), ([6], [6]), ([7], [7]), ([8], [8]), ([9], [9]), ([10], [10]), ([5, 5, 0, 1, 2, 3, 4, 5], [5]), ([11, 12, 0, 1, 2, 3, 4, 5, 6, 7, 8, 9, 10, 11, 12], [11])])
def rewrite_own.B1 : List Nat := [0, 0, 2, 6, 15, 31, 0, 64, 192, 448, 960, 1984, 63, 8191]
theorem rewrite_own.tab1 : rtab .any (opsOf Try.f77 1) = rewrite_own.T1 := by kernel_rfl
theorem rewrite_own.bits1 : waitsOk rewrite_own.T1.2 rewrite_own.B1 = true := by kernel_rfl
theorem rewrite_own.calls (A0 : Option Addr) (c0 : Nat) (l0 : List Int) (r1 : List Int) (r2 : Int) (w : World) (hr0 : Kd.C (Kd.int .u8) w A0 l0.length l0) (hc0 : l0.length <= c0) (h : rewrite_own.f l0 = some (r1, r2)) :
  Calls Try.prog 77 #[.slice A0 l0.length c0] w fun e w' => ∃ v0_ : Value, e = .returned (.tuple #[v0_, .int .i64 r2]) /\ Kd.R (Kd.int .u8) 5 w' w.heap.size (fun _ => True) v0_ r1 /\ Below w.heap.size w w' := by
 have HR0 := Aside0.mk hr0; have HC0 := Aside0.mk hc0; clear hr0 hc0; have HB := Aside0.mk (Below.refl w.heap.size w); have H : (if 2 <= (l0.length : Int) then ((rewrite_two.f (l0.drop 2)).bind fun t734 => (if 0 <= t734 then (if t734 <= (l0.length : Int) then ((slices_Clone_byte_byte.f (l0.take (t734 : Int).toNat)).bind fun t736 => (if 0 < (l0.length : Int) then (some (t736, wrap64 (4 * (wrap64 (Go.bits .and .u8 (rd l0 0) 15))))) else (none))) else (none)) else (none))) else (none)) = some (r1, r2) := h; clear h
 by_cases c2 : 2 <= (l0.length : Int)
 ·rw [if_pos c2] at H
  have c2b0 := eq_true c2; have c2b1 : decide (2 <= (l0.length : Int)) = true := decide_eq_true c2; clear c2; replace H := Option.bind_eq_some_iff.mp H; obtain ⟨t734, A30, H⟩ := H
  (try dsimp -simprocs only at H)
  have A3 := Aside0.mk A30; clear A30
  by_cases c4 : 0 <= t734
  ·rw [if_pos c4] at H
   have c4b0 := eq_true c4; have c4b1 : decide (0 <= t734) = true := decide_eq_true c4; clear c4
   by_cases c5 : t734 <= (l0.length : Int)
   ·rw [if_pos c5] at H
    have c5b0 := eq_true c5; have c5b1 : decide (t734 <= (l0.length : Int)) = true := decide_eq_true c5; clear c5; replace H := Option.bind_eq_some_iff.mp H; obtain ⟨t736, A60, H⟩ := H
    (try dsimp -simprocs only at H)
    have A6 := Aside0.mk A60; clear A60
    by_cases c7 : 0 < (l0.length : Int)
    ·rw [if_pos c7] at H
     have c7b0 : decide (0 < (l0.length : Int)) = true := decide_eq_true c7; have c7b1 : decide (0 < l0.length) = true := decide_eq_true (by omega); clear c7; simp only [Option.some.injEq, Prod.mk.injEq] at H
     obtain ⟨rfl, rfl⟩ := H
     go_enter Try.func77, Try.ntmps77
     try go_wp2
     have n0_ := Aside0.mk (below_drew1 HB.out); clear HB; have HB := n0_; clear n0_; obtain ⟨i09, hi09, _, hsz9, _⟩ := info_parts info5; obtain ⟨A9, hcut9, hA9, hC9⟩ := print_drop_of (P := Try.prog) (Value.int .u8) 0 23 5 .i64 Try.underlying23 hi09 hsz9 A0 c0 l0 2 (by omega) odt HC0.out; have HR733 := Aside0.mk (Kd.C_of_reads (h1 := fun _ => rfl) (hA9 _ (Kd.reads_of_C HR0.out))); have HC733 := Aside0.mk hC9; clear hA9 hC9 hi09 hsz9; have p739 : 0 <= (0 : Int) := (by omega)
     have q739 : 0 < (l0.length : Int) := odt; obtain ⟨ad739, e739, hx739_0⟩ := Kd.at_int HR0.out 0 p739 q739; have hw739_0 := hx739_0
     (try rw [show ((0 : Int)).toNat = 0 from rfl] at hw739_0)
     (try rw [show 0 * 1 = 0 from rfl] at hw739_0)
     (try rw [Addr.add_zero'] at hw739_0)
     cases e739
     have qi739 : (0 < l0.length) = True := eq_true (by omega)
     (try rw [show ((0 : Int)).toNat = 0 from rfl] at hx739_0)
     (try rw [Addr.add_zero'] at hx739_0)
     replace hx739_0 := (HB.out.cell (World.block_lt_of_cell? w _ hx739_0)).trans hx739_0; replace p739 := eq_true p739; replace q739 := eq_true q739; refine start_ (n := 14) (S := fun w' => w'.cell? ad739 = some (.int .u8 (rd l0 0))) (ds := []) #[false, false, false, false, false, false, false, false, false, false, false, false, false, false] (by kernel_rfl) rfl rfl (((HB.out.cell (World.block_lt_of_cell? w _ hw739_0)).trans hw739_0)) (fun hHeld => ?_); refine with_tabW rewrite_own.tab1 rewrite_own.bits1 (fun HT_ HW_ => ?_); generalize w.drew = w8 at HB HR733 hx739_0 hHeld |-
     refine pz 0 4 HT_ ?_; refine pz 1 5 HT_ ?_; refine pz 2 6 HT_ ?_; refine pz 6 10 HT_ ?_; refine pz 7 11 HT_ ?_; refine tz 8 12 HT_ HW_ hHeld ?_; refine pz 9 13 HT_ ?_; refine pz 10 14 HT_ ?_; refine pz 11 15 HT_ ?_; refine oz 3 (some 7) HT_ (fun K hK => ?_); refine goes_ Try.func87 (by kernel_rfl) rfl #[.slice A9 (l0.drop 2).length (c0 - 2)] (by rfl) rfl rfl (by (try simp only [List.map_toArray, List.map_cons, List.map_nil]); first | done | (rw [show (l0.drop 2).length = (l0.length - 2) from List.length_drop] <;> rfl) | rfl | (simp only [List.length_drop, List.length_take]; rfl) | (go_simp; done) | (simp [Act.eval, IntKind.signed]; done) | (simp [Act.eval, IntKind.signed]; rfl)) ?_
     with_reducible refine (rewrite_two.calls _ _ (l0.drop 2) t734 _ ?side1 ?side2 A3.out).mono ?_
     (case side1 => exact Kd.C_below HR733.out (bz HB))
     (case side2 => exact HC733.out)
     rintro e w' ⟨rfl, ⟨nd, rfl⟩⟩; refine ⟨_, rfl, ?_⟩; obtain ⟨i010, hi010, _, hsz10, _⟩ := info_parts info5; obtain ⟨hcut10, hA10, hC10⟩ := print_take_of (P := Try.prog) (Value.int .u8) 0 23 5 .u16 Try.underlying23 hi010 hsz10 (some ad739) c0 l0 t734 odt odt HC0.out; have HR735 := Aside0.mk (Kd.C_of_reads (h1 := fun _ => rfl) (hA10 _ (Kd.reads_of_C HR0.out))); have HC735 := Aside0.mk hC10; clear hA10 hC10 hi010 hsz10; refine hK.out _ _ (((HB.out.cell (World.block_lt_of_cell? w _ hw739_0)).trans hw739_0)) (fun hHeld => ?_); clear hK K; refine nz 7 ?_; refine pz 4 8 HT_ ?_; refine oz 5 (some 9) HT_ (fun K hK => ?_)
     refine goes_ Try.func97 (by kernel_rfl) rfl #[.slice (some ad739) (l0.take (t734 : Int).toNat).length c0] (by rfl) rfl rfl (by (try simp only [List.map_toArray, List.map_cons, List.map_nil]); first | done | (rw [show (l0.take (t734 : Int).toNat).length = t734.toNat from (by rw [List.length_take]; have h_ : (t734 : Int) <= (l0.length : Int) := odt; omega)] <;> rfl) | rfl | (simp only [List.length_drop, List.length_take]; rfl) | (go_simp; done) | (simp [Act.eval, IntKind.signed]; done) | (simp [Act.eval, IntKind.signed]; rfl)) ?_
     with_reducible refine (slices_Clone_byte_byte.calls _ _ (l0.take (t734 : Int).toNat) t736 _ ?side1 ?side2 A6.out).mono ?_
     (case side1 => exact Kd.C_below HR735.out (bz HB))
     (case side2 => exact HC735.out)
     rintro e w11 ⟨v737, rfl, ho0, hb⟩; refine ⟨_, rfl, ?_⟩; have n0_ := Aside0.mk (Kd.R_lower ho0 (below_size (bz HB))); have n1_ := Aside0.mk (below_step (bz HB) hb); clear HB; have HO738 := n0_; have HB := n1_; clear n0_ n1_
     (try clear hb)
     (try clear hb2)
     (try clear hk)
     (try clear hi)
     (try clear ho0)
     refine hK.out _ _ (((HB.out.cell (World.block_lt_of_cell? w _ hw739_0)).trans hw739_0)) (fun hHeld => ?_); clear hK K; refine nz 9 ?_; refine pz 12 2 HT_ ?_; refine pz 13 3 HT_ ?_; refine dz HT_ ?_
     try go_wp2
     go_ret2
     exact ⟨_, by first | rfl | (simp [errW_none, errW_some] <;> rfl) | (simp [*, errW_none, errW_some] <;> rfl), by (with_reducible repeat (first | apply Kd.R_alloc | apply Kd.R_drewN | apply Kd.R_drew)); exact HO738.out, bz HB⟩
    ·rw [if_neg c7] at H
     exact absurd H (by simp)
   ·rw [if_neg c5] at H
    exact absurd H (by simp)
  ·rw [if_neg c4] at H
   exact absurd H (by simp)
 ·rw [if_neg c2] at H
  exact absurd H (by simp)
def sum_Update.f (k : Nat) (a0 : Int) (a1 : Int) (a2 : Int) : Option (Int) := (sum_Fold.f k ((Go.bits .xor .u16 IntKind.u16.max a0 + (Go.bits .xor .u16 IntKind.u16.max a1) + (a2)) % 4294967296)).bind fun t768 => (some (Go.bits .xor .u16 IntKind.u16.max t768))
theorem sum_Update.calls (k : Nat) (a0 : Int) (a1 : Int) (a2 : Int) (r : Int) (w : World) (h : sum_Update.f k a0 a1 a2 = some r) :
  Calls Try.prog 88 #[.int .u16 a0, .int .u16 a1, .int .u16 a2] w fun e w' => e = .returned (.int .u16 r) /\ Drawn0 w w' := by
 have hsg_u16 : IntKind.u16.signed = false := rfl; have H : ((sum_Fold.f k ((Go.bits .xor .u16 IntKind.u16.max a0 + (Go.bits .xor .u16 IntKind.u16.max a1) + (a2)) % 4294967296)).bind fun t768 => (some (Go.bits .xor .u16 IntKind.u16.max t768))) = some r := h; clear h; replace H := Option.bind_eq_some_iff.mp H; obtain ⟨t768, A40, H⟩ := H
 (try dsimp -simprocs only at H)
 have A4 := Aside0.mk A40; clear A40; obtain rfl := Option.some.inj H
 go_enter Try.func88, Try.ntmps88
 go_wp2_with (first | ((with_reducible refine gate_callee (f := 115) rfl ?_); refine gL 17 Try.func115 #[.int .u32 ((Go.bits .xor .u16 IntKind.u16.max a0 + (Go.bits .xor .u16 IntKind.u16.max a1) + (a2)) % 4294967296)] ?_; (with_reducible refine (sum_Fold.calls k ((Go.bits .xor .u16 IntKind.u16.max a0 + (Go.bits .xor .u16 IntKind.u16.max a1) + (a2)) % 4294967296) t768 _ A4.out).mono ?_); rintro e w' ⟨rfl, ⟨nd, rfl⟩⟩; refine ⟨_, rfl, ?_⟩))
 go_ret
 exact ⟨by first | rfl | (simp; done) | (simp [*]; done), by repeat (first | exact Drawn0.refl _ | apply Drawn0.step)⟩
attribute [local go_sem] inR179
attribute [local go_sem] inP179
attribute [local go_sem] inR181
attribute [local go_sem] inP181
attribute [local go_sem] inR183
attribute [local go_sem] inP183
attribute [local go_sem] inT179
attribute [local go_sem] inT181
attribute [local go_sem] inT183
attribute [local go_sem] inF179
attribute [local go_sem] inF181
attribute [local go_sem] inF183
theorem RB.V_below {w w1 : World} {base : Nat} {v : Value} {x : RB} (h : x.V w base v) (hb : Below w.heap.size w w1) : x.V w1 base v := by
 cases x with
 | no => exact h
 | udp => obtain ⟨v3, e, h3⟩ := h; exact ⟨v3, e, Kd.R_below h3 hb⟩
 | tcp => obtain ⟨v8, v9, e, h8, h9⟩ := h; exact ⟨v8, v9, e, Kd.R_below h8 hb, Kd.R_below h9 hb⟩
 | icmp => obtain ⟨v4, e, h4⟩ := h; exact ⟨v4, e, Kd.R_below h4 hb⟩
theorem RB.V_off {W w1 : World} {base : Nat} {v : Value} {x : RB} {g t : Nat} {ds : Array Value} (h : Off W w1 g) (hx : x.V W base v) (hg : W.heap[g]? = some (.cells ds t (0, 0))) (ht : 5 ≠ t) : x.V w1 base v := by
 cases x with
 | no => exact hx
 | udp => obtain ⟨v3, e, h3⟩ := hx; exact ⟨v3, e, Off.R h h3 hg ht⟩
 | tcp => obtain ⟨v8, v9, e, h8, h9⟩ := hx; exact ⟨v8, v9, e, Off.R h h8 hg ht, Off.R h h9 hg ht⟩
 | icmp => obtain ⟨v4, e, h4⟩ := hx; exact ⟨v4, e, Off.R h h4 hg ht⟩
theorem mV {w w1 : World} {base : Nat} {v : Value} {x : RB} (h : Aside0 (x.V w base v)) (hb : Below w.heap.size w w1) : Aside0 (x.V w1 base v) := ⟨RB.V_below h.out hb⟩
theorem oV {W w1 : World} {base : Nat} {v : Value} {x : RB} {g t : Nat} {ds : Array Value} (o : Off W w1 g) (h : Aside0 (x.V W base v)) (hg : Aside0 (W.heap[g]? = some (.cells ds t (0, 0)))) (ht : 5 ≠ t) : Aside0 (x.V w1 base v) := ⟨RB.V_off o h.out hg.out ht⟩
def pointed.f (k : Nat) (si sp di dp : Int) : RB -> Option (List Int)
 | .no => none
 | .udp _ _ uc ub => if uc = 0 then (udp_Bytes.f sp dp uc ub).bind fun r => some r.1 else (udp_Sum.f k si di sp dp uc ub).bind fun c => (udp_Bytes.f sp dp c ub).bind fun r => some r.1
 | .tcp _ _ tq ta tf tw tc tu to_ tb => (tcp_Sum.f k si di sp dp tq ta tf tw tc tu to_ tb).bind fun c => (tcp_Bytes.f k sp dp tq ta tf tw c tu to_ tb).bind fun r => some r.1
 | .icmp mt mc ms mr mb => (icmp_Echo.f mt mc ms mr mb).bind fun ec => if ec = true then (icmp_Sum.f k mt mc ms (Go.bits .or .u32 (Go.bits .and .u32 mr 65535) (sp % 4294967296 * 65536 % 4294967296)) mb).bind fun c => (icmp_Bytes.f mt mc c (Go.bits .or .u32 (Go.bits .and .u32 mr 65535) (sp % 4294967296 * 65536 % 4294967296)) mb).bind fun r => some r.1
  else (icmp_Sum.f k mt mc ms mr mb).bind fun c => (icmp_Bytes.f mt mc c mr mb).bind fun r => some r.1
def pointed.R10.T : Bool × List (List Nat × List Nat) := (true, [([], []), ([0], [0]), ([], []), ([2], [2]), ([0, 1], []), ([4, 1, 0, 1], [1, 4]), ([0, 1, 2, 3, 4, 5], []), ([6, 3, 5, 0, 1, 2, 3, 4, 5], [3, 6])])
theorem pointed.R10.tab : rtab .any (opsOf Try.f70 10) = pointed.R10.T := by kernel_rfl
theorem pointed.R10.bits : waitsOk pointed.R10.T.2 [0, 1, 0, 4, 3, 19, 63, 127] = true := by kernel_rfl
def pointed.R16.T : Bool × List (List Nat × List Nat) := (true, [([], []), ([0], [0]), ([], []), ([2], [2]), ([0, 1], []), ([4, 1, 0, 1], [1, 4]), ([0, 1, 2, 3, 4, 5], []), ([6, 3, 5, 0, 1, 2, 3, 4, 5], [3, 6])])
theorem pointed.R16.tab : rtab .any (opsOf Try.f70 16) = pointed.R16.T := by kernel_rfl
theorem pointed.R16.bits : waitsOk pointed.R16.T.2 [0, 1, 0, 4, 3, 19, 63, 127] = true := by kernel_rfl
attribute [local go_sem] inR179
attribute [local go_sem] inP179
attribute [local go_sem] inR181
attribute [local go_sem] inP181
attribute [local go_sem] inR183
attribute [local go_sem] inP183
attribute [local go_sem] inT179
attribute [local go_sem] inT181
attribute [local go_sem] inT183
attribute [local go_sem] inF179
attribute [local go_sem] inF181
attribute [local go_sem] inF183
def Look.R2.T : Bool × List (List Nat × List Nat) := (true, [([], []), ([], []), ([], []), ([0, 0], [0]), ([1, 3, 0, 1, 3], [1]), ([2, 4, 0, 1, 2, 3, 4], [2])])
theorem Look.R2.tab : rtab .any (opsOf Try.f36 2) = Look.R2.T := by kernel_rfl
theorem Look.R2.bits : waitsOk Look.R2.T.2 [0, 0, 0, 1, 11, 31] = true := by kernel_rfl
def LK.Told (r : LK) (base : Nat) (w0 : World) (e : Ending) (w' : World) : Prop :=
 ∃ v8 v9 vi : Value, e = .returned (.tuple #[.agg #[.int .u8 r.a, .int .u8 r.t, .int .u8 r.pr, .int .u16 r.i, .int .u8 r.fl, .int .u16 r.of_, .int .u32 r.s, .int .u32 r.d, v8, v9], .agg #[.int .u8 r.pr, .int .u32 r.s, .int .u16 r.sp, .int .u32 r.d, .int .u16 r.dp, .int .u8 r.ff, vi], .int .i64 r.e]) /\ Kd.R (Kd.int .u8) 5 w' base (fun _ => True) v8 r.o /\ Kd.R (Kd.int .u8) 5 w' base (fun _ => True) v9 r.b /\ Kd.R k65 65 w' base (fun _ => True) vi r.inn /\ Below base w0 w'
theorem rewrite_Look.via (A : Option Addr) (c : Nat) (l : List Int) (r : LK) (w : World) (hC : Kd.C (Kd.int .u8) w A l.length l) (hL : l.length <= c) (h69 : ∀ w2 : World, Kd.C (Kd.int .u8) w2 A l.length l -> Calls Try.prog 69 #[.slice A l.length c] w2 fun e w' => r.Post w2.heap.size w2 e w') :
  Calls Try.prog 36 #[.slice A l.length c] w fun e w' => r.Told w.heap.size w e w' := by
 have hu65 := Try.underlying65; have hu73 := Try.underlying73; have hu76 := Try.underlying76; obtain ⟨a, t, pr, i, fl, of_, s, d, o, b, x, sp, dp, ff, inn, e_⟩ := r; have HB := Aside0.mk (Below.refl w.heap.size w); have HC := Aside0.mk hC; have HL := Aside0.mk hL; have HP := Aside0.mk h69; have HI65 : Aside0 ((Try.prog.info? 65).map (·.size) = some 2) := ⟨by kernel_rfl⟩
 have HI73 : Aside0 ((Try.prog.info? 73).map (·.size) = some 10) := ⟨by kernel_rfl⟩
 have HI76 : Aside0 ((Try.prog.info? 76).map (·.size) = some 7) := ⟨by kernel_rfl⟩
 clear hC hL h69
 go_enter Try.func36, Try.ntmps36
 go_upto_region 1 with (first | ((with_reducible refine gate_dst (N := 2) rfl ?_); refine box_event ?hg_ (N := 2) ?hd_ (cs := #[.int .u8 0, .int .u8 0, .int .u8 0, .int .u16 0, .int .u8 0, .int .u16 0, .int .u32 0, .int .u32 0, .slice none 0 0, .slice none 0 0]) (t := 73) ?hr_ ?_; (case hd_ => rfl); (case hg_ => rfl); (case hr_ => first | (go_simp; done) | (go_simp; rfl)); intro gr hgg_ w1 hbox_ hbb_; have GHXr := Aside0.mk (show w.heap.size <= gr by rw [hgg_]; exact below_size HB.out); have HXr := Aside0.mk hbox_; have hb_ := hbb_; replace HB := mB HB hb_; clear hb_; clear hgg_ hbox_ hbb_) | ((with_reducible refine gate_dst (N := 3) rfl ?_); refine box_event ?hg_ (N := 3) ?hd_ (cs := #[.int .u8 0, .int .u32 0, .int .u16 0, .int .u32 0, .int .u16 0, .int .u8 0, .slice none 0 0]) (t := 76) ?hr_ ?_; (case hd_ => rfl); (case hg_ => rfl); (case hr_ => first | (go_simp; done) | (go_simp; rfl)); intro gq hgg_ w2 hbox_ hbb_; have GHXq := Aside0.mk (show w.heap.size <= gq by rw [hgg_]; exact below_size HB.out); have HXq := Aside0.mk hbox_; have hb_ := hbb_; replace HB := mB HB hb_; replace HXr := mX HXr hb_; clear hb_; clear hgg_ hbox_ hbb_))
 go_wp2_with fail
 refine (HP.out _ (Kd.C_below HC.out HB.out)).mono ?_; rintro ev w3 hpost; obtain ⟨vo, vb, vx, vi, rfl, ho, ho2, hx, hi, hb⟩ := hpost; dsimp only at ho ho2 hx hi
 have HRo := rLow ho HB; obtain ⟨Ao, co, rfl, _, _⟩ := Kd.R_reads ho; clear ho; have HRb := rLow ho2 HB; obtain ⟨Ab, cb, rfl, _, _⟩ := Kd.R_reads ho2; clear ho2; have HRi := Aside0.mk (Kd.R_lower hi (below_size HB.out)); obtain ⟨Ai, ci, rfl, _, _⟩ := Kd.R_reads hi; clear hi; clear hx; have hb_ := hb; replace HB := mB HB hb_; replace HXr := mX HXr hb_; replace HXq := mX HXq hb_; clear hb_; clear hb HP
 (try dsimp only)
 go_upto_region 2 with (first | ((with_reducible refine gate_dst (N := 5) rfl ?_); refine box_event ?hg_ (N := 5) ?hd_ (cs := #[.int .u8 0, .int .u8 0, .int .u8 0, .int .u16 0, .int .u8 0, .int .u16 0, .int .u32 0, .int .u32 0, .slice none 0 0, .slice none 0 0]) (t := 73) ?hr_ ?_; (case hd_ => rfl); (case hg_ => rfl); (case hr_ => first | (go_simp; done) | (go_simp; rfl)); intro gp hgg_ w4 hbox_ hbb_; have GHXp := Aside0.mk (show w.heap.size <= gp by rw [hgg_]; exact below_size HB.out); have HXp := Aside0.mk hbox_; have NE_HXr_HXp : Aside0 (gr ≠ gp) := ⟨by rw [hgg_]; exact (blk_less HXr).out⟩; have hb_ := hbb_; replace HB := mB HB hb_; replace HXr := mX HXr hb_; replace HXq := mX HXq hb_; replace HRo := mR HRo hb_; replace HRb := mR HRb hb_; replace HRi := mI HRi hb_; clear hb_; clear hgg_ hbox_ hbb_) | ((with_reducible refine gate_dst (N := 7) rfl ?_); refine box_event ?hg_ (N := 7) ?hd_ (cs := #[.int .u8 0, .int .u32 0, .int .u16 0, .int .u32 0, .int .u16 0, .int .u8 0, .slice none 0 0]) (t := 76) ?hr_ ?_; (case hd_ => rfl); (case hg_ => rfl); (case hr_ => first | (go_simp; done) | (go_simp; rfl)); intro gf hgg_ w5 hbox_ hbb_; have GHXf := Aside0.mk (show w.heap.size <= gf by rw [hgg_]; exact below_size HB.out); have HXf := Aside0.mk hbox_; have NE_HXq_HXf : Aside0 (gq ≠ gf) := ⟨by rw [hgg_]; exact (blk_less HXq).out⟩; have hb_ := hbb_; replace HB := mB HB hb_; replace HXr := mX HXr hb_; replace HXq := mX HXq hb_; replace HRo := mR HRo hb_; replace HRb := mR HRb hb_; replace HRi := mI HRi hb_; replace HXp := mX HXp hb_; clear hb_; clear hgg_ hbox_ hbb_) | ((refine rw_putrow rfl rfl rfl rfl rfl HXp.out HI73.out rfl (by simp [Value.oneCell']) ?_); intro w6 hs_ off_; replace HXr := oN off_ HXr NE_HXr_HXp; replace HXq := oX off_ HXq HXp (by decide); replace HRo := oR off_ HRo HXp (by decide); replace HRb := oR off_ HRb HXp (by decide); replace HRi := oI off_ HRi HXp (by decide); replace HXf := oX off_ HXf HXp (by decide); replace HB := oB off_ HB GHXp; clear off_; replace HXp := Aside0.mk hs_; clear hs_) | ((refine rw_putrow rfl rfl rfl rfl rfl HXf.out HI76.out rfl (by simp [Value.oneCell']) ?_); intro w7 hs_ off_; replace HXr := oX off_ HXr HXf (by decide); replace HXq := oN off_ HXq NE_HXq_HXf; replace HRo := oR off_ HRo HXf (by decide); replace HRb := oR off_ HRb HXf (by decide); replace HRi := oI off_ HRi HXf (by decide); replace HXp := oX off_ HXp HXf (by decide); replace HB := oB off_ HB GHXf; clear off_; replace HXf := Aside0.mk hs_; clear hs_))
 refine start_ (n := 6) (S := fun w' => w'.heap[gp]? = some (.cells #[.int .u8 a, .int .u8 t, .int .u8 pr, .int .u16 i, .int .u8 fl, .int .u16 of_, .int .u32 s, .int .u32 d, .slice Ao o.length co, .slice Ab b.length cb] 73 (0, 0)) /\ w'.heap[gf]? = some (.cells #[.int .u8 pr, .int .u32 s, .int .u16 sp, .int .u32 d, .int .u16 dp, .int .u8 ff, .slice Ai inn.length ci] 76 (0, 0))) (ds := []) #[false, false, false, false, false, false] (by kernel_rfl) rfl rfl ⟨HXp.out, HXf.out⟩ (fun hHeld => ?_); refine with_tabW Look.R2.tab Look.R2.bits (fun HT_ HW_ => ?_); have hb_ := below_drew1 (Below.refl w7.heap.size w7); replace HB := mB HB hb_; replace HXr := mX HXr hb_; replace HXq := mX HXq hb_; replace HRo := mR HRo hb_; replace HRb := mR HRb hb_; replace HRi := mI HRi hb_; replace HXp := mX HXp hb_; replace HXf := mX HXf hb_; clear hb_
 generalize w7.drew = w8 at HB HXr HXq HRo HRb HRi HXp HXf hHeld |-
 refine pz 2 18 HT_ ?_; refine tv 0 16 (.agg #[.int .u8 a, .int .u8 t, .int .u8 pr, .int .u16 i, .int .u8 fl, .int .u16 of_, .int .u32 s, .int .u32 d, .slice Ao o.length co, .slice Ab b.length cb]) HT_ HW_ hHeld ?_ ?_
 ·intro w' s0
  obtain ⟨s0, s1⟩ := s0; exact rw_load (p := .tmp 5) (ty := 73) (by rfl) (by rfl) s0 hu73 (by rfl) HI73.out
 refine nz 16 ?_; refine tv 1 17 (.agg #[.int .u8 pr, .int .u32 s, .int .u16 sp, .int .u32 d, .int .u16 dp, .int .u8 ff, .slice Ai inn.length ci]) HT_ HW_ hHeld ?_ ?_
 ·intro w' s0
  obtain ⟨s0, s1⟩ := s0; exact rw_load (p := .tmp 7) (ty := 76) (by rfl) (by rfl) s1 hu76 (by rfl) HI76.out
 refine nz 17 ?_; refine oz 3 (none) HT_ (fun K hK => ?_); refine skip_row (by rfl) (by rfl) rfl rfl rfl HXr.out HI73.out rfl (by simp [Value.oneCell']) ?_; intro w9 hs_ off_; replace HXq := oX off_ HXq HXr (by decide); replace HRo := oR off_ HRo HXr (by decide); replace HRb := oR off_ HRb HXr (by decide); replace HRi := oI off_ HRi HXr (by decide); replace HXp := oN off_ HXp (ne_sym NE_HXr_HXp); replace HXf := oX off_ HXf HXr (by decide); replace HB := oB off_ HB GHXr; clear off_; replace HXr := Aside0.mk hs_; clear hs_; refine hK.out _ _ ⟨HXp.out, HXf.out⟩ (fun hHeld => ?_); clear hK K; refine oz 4 (none) HT_ (fun K hK => ?_); refine skip_row (by rfl) (by rfl) rfl rfl rfl HXq.out HI76.out rfl (by simp [Value.oneCell']) ?_; intro w10 hs_ off_; replace HXr := oX off_ HXr HXq (by decide); replace HRo := oR off_ HRo HXq (by decide); replace HRb := oR off_ HRb HXq (by decide)
 replace HRi := oI off_ HRi HXq (by decide); replace HXp := oX off_ HXp HXq (by decide); replace HXf := oN off_ HXf (ne_sym NE_HXq_HXf); replace HB := oB off_ HB GHXq; clear off_; replace HXq := Aside0.mk hs_; clear hs_; refine hK.out _ _ ⟨HXp.out, HXf.out⟩ (fun hHeld => ?_); clear hK K; refine pz 5 4 HT_ ?_; refine dz HT_ ?_; clear HT_ HW_ hHeld
 (try dsimp only)
 go_wp2
 (try simp only [Exit.inBlock, Exit.then])
 refine bodyPost_ret (results_cct rfl _ _ gr gq 73 76 #[.int .u8 a, .int .u8 t, .int .u8 pr, .int .u16 i, .int .u8 fl, .int .u16 of_, .int .u32 s, .int .u32 d, .slice Ao o.length co, .slice Ab b.length cb] #[.int .u8 pr, .int .u32 s, .int .u16 sp, .int .u32 d, .int .u16 dp, .int .u8 ff, .slice Ai inn.length ci] (0, 0) (0, 0) _ _ rfl HXr.out hu73 rfl HI73.out rfl HXq.out hu76 rfl HI76.out) rfl ?_; exact ⟨_, _, _, rfl, HRo.out, HRb.out, HRi.out, HB.out⟩
attribute [local go_sem] inR179
attribute [local go_sem] inP179
attribute [local go_sem] inR181
attribute [local go_sem] inP181
attribute [local go_sem] inR183
attribute [local go_sem] inP183
attribute [local go_sem] inT179
attribute [local go_sem] inT181
attribute [local go_sem] inT183
attribute [local go_sem] inF179
attribute [local go_sem] inF181
attribute [local go_sem] inF183
theorem look.lk_icmp (k : Nat) (A : Option Addr) (c : Nat) (l : List Int) (a t i fl of_ s d : Int) (o b : List Int) (r : LK) (w : World) (hC : Kd.C (Kd.int .u8) w A l.length l) (hL : l.length <= c) (hP : ip_Parse.f k l = some (a, t, 1, i, fl, of_, s, d, o, b, 0)) (h : lookIcmp k a t i fl of_ s d o b = some r) :
  Calls Try.prog 69 #[.slice A l.length c] w fun e w' => r.Post w.heap.size w e w' := by
 have hu73 := Try.underlying73; have hu76 := Try.underlying76; have hu83 := Try.underlying83; have hu137 := Try.underlying137; have hu101 := Try.underlying101; have hu179 := Try.underlying179; have hu181 := Try.underlying181; have hu183 := Try.underlying183; have HB := Aside0.mk (Below.refl w.heap.size w); have HC := Aside0.mk hC; have HL := Aside0.mk hL; have HP := Aside0.mk hP; have HF := Aside0.mk h; have HI73 : Aside0 ((Try.prog.info? 73).map (·.size) = some 10) := ⟨by kernel_rfl⟩
 have HI76 : Aside0 ((Try.prog.info? 76).map (·.size) = some 7) := ⟨by kernel_rfl⟩
 have HI83 : Aside0 ((Try.prog.info? 83).map (·.size) = some 4) := ⟨by kernel_rfl⟩
 have HI137 : Aside0 ((Try.prog.info? 137).map (·.size) = some 10) := ⟨by kernel_rfl⟩
 have HI101 : Aside0 ((Try.prog.info? 101).map (·.size) = some 5) := ⟨by kernel_rfl⟩
 have HI179 : Aside0 ((Try.prog.info? 179).map (·.size) = some 4) := ⟨by kernel_rfl⟩
 have HI181 : Aside0 ((Try.prog.info? 181).map (·.size) = some 10) := ⟨by kernel_rfl⟩
 have HI183 : Aside0 ((Try.prog.info? 183).map (·.size) = some 5) := ⟨by kernel_rfl⟩
 clear hC hL hP h
 go_enter Try.func69, Try.ntmps69
 go_upto_region 2 with (first | ((with_reducible refine gate_dst (N := 2) rfl ?_); refine box_event ?hg_ (N := 2) ?hd_ (cs := #[.int .u8 0, .int .u8 0, .int .u8 0, .int .u16 0, .int .u8 0, .int .u16 0, .int .u32 0, .int .u32 0, .slice none 0 0, .slice none 0 0]) (t := 73) ?hr_ ?_; (case hd_ => rfl); (case hg_ => rfl); (case hr_ => first | (go_simp; done) | (go_simp; rfl)); intro gi hgg_ w1 hbox_ hbb_; have GHXi := Aside0.mk (show w.heap.size <= gi by rw [hgg_]; exact below_size HB.out); have HXi := Aside0.mk hbox_; have hb_ := hbb_; replace HB := mB HB hb_; clear hb_; clear hgg_ hbox_ hbb_) | ((with_reducible refine gate_dst (N := 4) rfl ?_); refine box_event ?hg_ (N := 4) ?hd_ (cs := #[.int .u8 0, .int .u32 0, .int .u16 0, .int .u32 0, .int .u16 0, .int .u8 0, .slice none 0 0]) (t := 76) ?hr_ ?_; (case hd_ => rfl); (case hg_ => rfl); (case hr_ => first | (go_simp; done) | (go_simp; rfl)); intro gq hgg_ w2 hbox_ hbb_; have GHXq := Aside0.mk (show w.heap.size <= gq by rw [hgg_]; exact below_size HB.out); have HXq := Aside0.mk hbox_; have hb_ := hbb_; replace HB := mB HB hb_; replace HXi := mX HXi hb_; clear hb_; clear hgg_ hbox_ hbb_) | ((refine rw_newrow rfl rfl rfl rfl rfl HI76.out rfl (by simp [Value.oneCell']) ?_); intro x_new hx_ hbn_))
 revert x_new hx_ hbn_; intro w3 hx_ hbn_; have HXn : Aside0 (w3.heap[w2.heap.size]? = some (.cells #[.int .u8 0, .int .u32 0, .int .u16 0, .int .u32 0, .int .u16 0, .int .u8 0, .slice none 0 0] 76 (0, 0))) := ⟨hx_⟩
 have GHXn := bsz HB; have NE_HXq_HXn := blk_less HXq; have hb_ := hbn_; replace HB := mB HB hb_; replace HXi := mX HXi hb_; replace HXq := mX HXq hb_; clear hb_; clear hx_ hbn_; generalize w2.heap.size = gn at HXn GHXn NE_HXq_HXn |-
 go_wp2_with fail
 refine (ip_Parse.calls k A c l a t 1 i fl of_ s d o b 0 _ (Kd.C_below HC.out HB.out) HL.out HP.out).mono ?_; rintro ev w4 ⟨vo, vb, rfl, ho, ho2, hb⟩; have HRo := rLow ho HB; obtain ⟨Ao, co, rfl, _, _⟩ := Kd.R_reads ho; clear ho; have HRb := rLow ho2 HB; obtain ⟨Ab, cb, rfl, _, _⟩ := Kd.R_reads ho2; clear ho2; have hb_ := hb; replace HB := mB HB hb_; replace HXi := mX HXi hb_; replace HXq := mX HXq hb_; replace HXn := mX HXn hb_; clear hb_; clear hb HP HC HL
 (try dsimp only)
 go_upto_region 3 with (((refine rw_newrow rfl rfl rfl rfl rfl HI73.out rfl (by simp [Value.oneCell']) ?_); intro x_new hx_ hbn_))
 revert x_new hx_ hbn_; intro w5 hx_ hbn_; have HXp : Aside0 (w5.heap[w4.heap.size]? = some (.cells #[.int .u8 a, .int .u8 t, .int .u8 1, .int .u16 i, .int .u8 fl, .int .u16 of_, .int .u32 s, .int .u32 d, .slice Ao o.length co, .slice Ab b.length cb] 73 (0, 0))) := ⟨hx_⟩
 have GHXp := bsz HB; have NE_HXi_HXp := blk_less HXi; have hb_ := hbn_; replace HB := mB HB hb_; replace HXi := mX HXi hb_; replace HXq := mX HXq hb_; replace HXn := mX HXn hb_; replace HRo := mR HRo hb_; replace HRb := mR HRb hb_; clear hb_; clear hx_ hbn_; generalize w4.heap.size = gp at HXp GHXp NE_HXi_HXp |-
 have H : lookIcmp k a t i fl of_ s d o b = some r := HF.out; clear HF; unfold lookIcmp at H
 obtain ⟨⟨mt, mc, ms, mr, mb, e2⟩, hp, H⟩ := rw_bind H; dsimp only at H
 have HG := Aside0.mk H; clear H; have he1 : ((0 : Int) == 0) = true := rfl; have he2 : ((0 : Int) != 0) = false := rfl
 (try dsimp only)
 go_wp2_with (refine Kd.event_run rfl (rw_load rfl rfl HXp.out Try.underlying73 rfl HI73.out) ?_)
 clear he1 he2; refine (rewrite_of.of_icmp a t i fl of_ s d Ao o.length co Ab cb b mt mc ms mr e2 mb _ (Kd.R_reads' HRb.out).2.2 (Kd.R_reads' HRb.out).2.1 hp).mono ?_; rintro ev w6 ⟨vmb, rfl, hmb, hb⟩; clear hp; have HRmb := rLow hmb HB; obtain ⟨Amb, cmb, rfl, _, _⟩ := Kd.R_reads hmb; clear hmb; have hb_ := hb; replace HB := mB HB hb_; replace HXi := mX HXi hb_; replace HXq := mX HXq hb_; replace HXn := mX HXn hb_; replace HRo := mR HRo hb_; replace HRb := mR HRb hb_; replace HXp := mX HXp hb_; clear hb_; clear hb; have H := HG.out; clear HG
 by_cases ce : e2 = 0
 ·have ce1 : (e2 == 0) = true := beq_iff_eq.2 ce
  have ce2 : (e2 != 0) = false := by rw [bne, ce1]; rfl
  rw [if_pos ce] at H
  clear ce; obtain ⟨rt, hr, H⟩ := rw_bind H; have HG := Aside0.mk H; clear H
  (try dsimp only)
  go_wp2_with (refine Kd.event_run rfl (rw_load rfl rfl HXp.out Try.underlying73 rfl HI73.out) ?_)
  refine (rewrite_message_right.calls k mt mc ms mr Amb cmb mb a t 1 i fl of_ s d Ao co o Ab cb b rt _ (Kd.R_reads' HRmb.out).2.2 (Kd.R_reads' HRmb.out).2.1 (Kd.R_reads' HRo.out).2.2 (Kd.R_reads' HRo.out).2.1 (Kd.R_reads' HRb.out).2.2 (Kd.R_reads' HRb.out).2.1 (by unfold rewrite_message_right.f; rw [hr]; rfl)).mono ?_; rintro ev w7 ⟨rfl, hb⟩; clear hr; have hb_ := hb; replace HB := mB HB hb_; replace HXi := mX HXi hb_; replace HXq := mX HXq hb_; replace HXn := mX HXn hb_; replace HRo := mR HRo hb_; replace HRb := mR HRb hb_; replace HXp := mX HXp hb_; replace HRmb := mR HRmb hb_; clear hb_; clear hb; have H := HG.out; clear HG
  cases rt with
  | false =>
   rw [if_neg (by decide)] at H
   obtain rfl := Option.some.inj H
   (try dsimp only)
   go_upto_region 9 with (fail)
   refine start_ (n := 6) (S := fun w' => w'.heap[gn]? = some (.cells #[.int .u8 0, .int .u32 0, .int .u16 0, .int .u32 0, .int .u16 0, .int .u8 0, .slice none 0 0] 76 (0, 0))) (ds := []) #[false, false, false, false, false, false] (by kernel_rfl) rfl rfl HXn.out (fun hHeld => ?_); refine with_tabW look.R9.tab look.R9.bits (fun HT_ HW_ => ?_); have hb_ := below_drew1 (Below.refl w7.heap.size w7); replace HB := mB HB hb_; replace HXi := mX HXi hb_; replace HXq := mX HXq hb_; replace HXn := mX HXn hb_; replace HRo := mR HRo hb_; replace HRb := mR HRb hb_; replace HXp := mX HXp hb_; replace HRmb := mR HRmb hb_; clear hb_; generalize w7.drew = w8 at HB HXi HXq HXn HRo HRb HXp HRmb hHeld |-
   refine pz 0 41 HT_ ?_; refine tv 1 42 (.agg #[.int .u8 0, .int .u32 0, .int .u16 0, .int .u32 0, .int .u16 0, .int .u8 0, .slice none 0 0]) HT_ HW_ hHeld ?_ ?_
   ·intro w' s0
    exact rw_load (p := .tmp 6) (ty := 76) (by rfl) (by rfl) s0 hu76 (by rfl) HI76.out
   refine nz 42 ?_; refine oz 2 (none) HT_ (fun K hK => ?_); refine skip_row (by rfl) (by rfl) rfl rfl rfl HXi.out HI73.out rfl (by simp [Value.oneCell']) ?_; intro w9 hs_ off_; replace HXq := oX off_ HXq HXi (by decide); replace HXn := oX off_ HXn HXi (by decide); replace HRo := oR off_ HRo HXi (by decide); replace HRb := oR off_ HRb HXi (by decide); replace HXp := oN off_ HXp (ne_sym NE_HXi_HXp); replace HRmb := oR off_ HRmb HXi (by decide); replace HB := oB off_ HB GHXi; clear off_; replace HXi := Aside0.mk hs_; clear hs_; refine hK.out _ _ HXn.out (fun hHeld => ?_); clear hK K; refine pz 3 3 HT_ ?_; refine oz 4 (none) HT_ (fun K hK => ?_); refine skip_row (by rfl) (by rfl) rfl rfl rfl HXq.out HI76.out rfl (by simp [Value.oneCell']) ?_; intro w10 hs_ off_; replace HXi := oX off_ HXi HXq (by decide); replace HXn := oN off_ HXn (ne_sym NE_HXq_HXn)
   replace HRo := oR off_ HRo HXq (by decide); replace HRb := oR off_ HRb HXq (by decide); replace HXp := oX off_ HXp HXq (by decide); replace HRmb := oR off_ HRmb HXq (by decide); replace HB := oB off_ HB GHXq; clear off_; replace HXq := Aside0.mk hs_; clear hs_; refine hK.out _ _ HXn.out (fun hHeld => ?_); clear hK K; refine pz 5 5 HT_ ?_; refine dz HT_ ?_; clear HT_ HW_ hHeld
   (try dsimp only)
   go_wp2
   (try simp only [Exit.inBlock, Exit.then])
   refine bodyPost_ret (results_ctct rfl _ _ gi gq 73 76 #[.int .u8 0, .int .u8 0, .int .u8 0, .int .u16 0, .int .u8 0, .int .u16 0, .int .u32 0, .int .u32 0, .slice none 0 0, .slice none 0 0] #[.int .u8 0, .int .u32 0, .int .u16 0, .int .u32 0, .int .u16 0, .int .u8 0, .slice none 0 0] (0, 0) (0, 0) _ _ rfl HXi.out hu73 rfl HI73.out rfl HXq.out hu76 rfl HI76.out) rfl ?_; exact ⟨_, _, _, _, rfl, Kd.R_nil _ _ _ _ _, Kd.R_nil _ _ _ _ _, rfl, Kd.R_nil _ _ _ _ _, HB.out⟩
  | true =>
   rw [if_pos rfl] at H
   have HG := Aside0.mk H; clear H
   (try dsimp only)
   have gp_2 := cz HXp.out 2 rfl; have gp_6 := cz HXp.out 6 rfl; have gp_7 := cz HXp.out 7 rfl
   go_upto_region 11 with (((refine rw_newrow rfl rfl rfl rfl rfl HI76.out rfl (by simp [Value.oneCell']) ?_); intro x_new hx_ hbn_))
   clear gp_2 gp_6 gp_7; revert x_new hx_ hbn_; intro w8 hx_ hbn_; have HXf : Aside0 (w8.heap[w7.heap.size]? = some (.cells #[.int .u8 1, .int .u32 s, .int .u16 0, .int .u32 d, .int .u16 0, .int .u8 0, .slice none 0 0] 76 (0, 0))) := ⟨hx_⟩
   have GHXf := bsz HB; have NE_HXq_HXf := blk_less HXq; have NE_HXn_HXf := blk_less HXn; have hb_ := hbn_; replace HB := mB HB hb_; replace HXi := mX HXi hb_; replace HXq := mX HXq hb_; replace HXn := mX HXn hb_; replace HRo := mR HRo hb_; replace HRb := mR HRb hb_; replace HXp := mX HXp hb_; replace HRmb := mR HRmb hb_; clear hb_; clear hx_ hbn_; generalize w7.heap.size = gf at HXf GHXf NE_HXq_HXf NE_HXn_HXf |-
   go_wp2_with fail
   refine (rewrite_message_proto.calls mt mc ms mr Amb cmb mb 1 _ (Kd.R_reads' HRmb.out).2.2 (Kd.R_reads' HRmb.out).2.1 rfl).mono ?_; rintro ev w9 ⟨rfl, hb⟩; have hb_ := hb; replace HB := mB HB hb_; replace HXi := mX HXi hb_; replace HXq := mX HXq hb_; replace HXn := mX HXn hb_; replace HRo := mR HRo hb_; replace HRb := mR HRb hb_; replace HXp := mX HXp hb_; replace HRmb := mR HRmb hb_; replace HXf := mX HXf hb_; clear hb_; clear hb
   (try dsimp only)
   go_upto_region 13 with (((refine rw_newrow rfl rfl rfl rfl rfl HI101.out rfl (by simp [Value.oneCell']) ?_); intro x_new hx_ hbn_))
   revert x_new hx_ hbn_; intro w10 hx_ hbn_; have HXm : Aside0 (w10.heap[w9.heap.size]? = some (.cells #[.int .u8 mt, .int .u8 mc, .int .u16 ms, .int .u32 mr, .slice Amb mb.length cmb] 101 (0, 0))) := ⟨hx_⟩
   have GHXm := bsz HB; have hb_ := hbn_; replace HB := mB HB hb_; replace HXi := mX HXi hb_; replace HXq := mX HXq hb_; replace HXn := mX HXn hb_; replace HRo := mR HRo hb_; replace HRb := mR HRb hb_; replace HXp := mX HXp hb_; replace HRmb := mR HRmb hb_; replace HXf := mX HXf hb_; clear hb_; clear hx_ hbn_; generalize w9.heap.size = gm at HXm GHXm |-
   have gm_4 := cz HXm.out 4 rfl; have H := HG.out; clear HG; obtain ⟨⟨il, ok⟩, hin, H⟩ := rw_bind H; dsimp only at H
   have HG := Aside0.mk H; clear H
   go_wp2_with fail
   clear gm_4; refine (rewrite_inner.calls k Amb cmb mb il ok _ (Kd.R_reads' HRmb.out).2.2 (Kd.R_reads' HRmb.out).2.1 hin).mono ?_; rintro ev w11 ⟨vi, rfl, hi, hb⟩; clear hin; have HRi := Aside0.mk (Kd.R_lower hi (below_size HB.out)); obtain ⟨Ai, ci, rfl, _, _⟩ := Kd.R_reads hi; clear hi; have hb_ := hb; replace HB := mB HB hb_; replace HXi := mX HXi hb_; replace HXq := mX HXq hb_; replace HXn := mX HXn hb_; replace HRo := mR HRo hb_; replace HRb := mR HRb hb_; replace HXp := mX HXp hb_; replace HRmb := mR HRmb hb_; replace HXf := mX HXf hb_; replace HXm := mX HXm hb_; clear hb_; clear hb; have H := HG.out; clear HG; obtain ⟨ec, hec, H⟩ := rw_bind H; have HG := Aside0.mk H; clear H
   (try dsimp only)
   go_wp2_with (refine Kd.event_run rfl (rw_load rfl rfl HXm.out Try.underlying101 rfl HI101.out) ?_)
   refine (icmp_Echo.calls mt mc ms mr Amb cmb mb ec _ (Kd.R_reads' HRmb.out).2.2 (Kd.R_reads' HRmb.out).2.1 hec).mono ?_; rintro ev w12 ⟨rfl, hb⟩; clear hec; have hb_ := hb; replace HB := mB HB hb_; replace HXi := mX HXi hb_; replace HXq := mX HXq hb_; replace HXn := mX HXn hb_; replace HRo := mR HRo hb_; replace HRb := mR HRb hb_; replace HXp := mX HXp hb_; replace HRmb := mR HRmb hb_; replace HXf := mX HXf hb_; replace HXm := mX HXm hb_; replace HRi := mI HRi hb_; clear hb_; clear hb; have H := HG.out; clear HG
   cases ec with
   | false =>
    rw [if_neg (by decide)] at H
    obtain ⟨er, her, H⟩ := rw_bind H; have HG := Aside0.mk H; clear H
    (try dsimp only)
    go_wp2_with (refine Kd.event_run rfl (rw_load rfl rfl HXm.out Try.underlying101 rfl HI101.out) ?_)
    refine (icmp_Error.calls mt mc ms mr Amb cmb mb er _ (Kd.R_reads' HRmb.out).2.2 (Kd.R_reads' HRmb.out).2.1 her).mono ?_; rintro ev w13 ⟨rfl, hb⟩; clear her; have hb_ := hb; replace HB := mB HB hb_; replace HXi := mX HXi hb_; replace HXq := mX HXq hb_; replace HXn := mX HXn hb_; replace HRo := mR HRo hb_; replace HRb := mR HRb hb_; replace HXp := mX HXp hb_; replace HRmb := mR HRmb hb_; replace HXf := mX HXf hb_; replace HXm := mX HXm hb_; replace HRi := mI HRi hb_; clear hb_; clear hb; have H := HG.out; clear HG
    cases er with
    | false =>
     rw [if_neg (by decide)] at H
     obtain rfl := Option.some.inj H
     (try dsimp only)
     go_upto_region 18 with (fail)
     refine start_ (n := 6) (S := fun w' => w'.heap[gn]? = some (.cells #[.int .u8 0, .int .u32 0, .int .u16 0, .int .u32 0, .int .u16 0, .int .u8 0, .slice none 0 0] 76 (0, 0))) (ds := []) #[false, false, false, false, false, false] (by kernel_rfl) rfl rfl HXn.out (fun hHeld => ?_); refine with_tabW look.R18.tab look.R18.bits (fun HT_ HW_ => ?_); have hb_ := below_drew1 (Below.refl w13.heap.size w13); replace HB := mB HB hb_; replace HXi := mX HXi hb_; replace HXq := mX HXq hb_; replace HXn := mX HXn hb_; replace HRo := mR HRo hb_; replace HRb := mR HRb hb_; replace HXp := mX HXp hb_; replace HRmb := mR HRmb hb_; replace HXf := mX HXf hb_; replace HXm := mX HXm hb_; replace HRi := mI HRi hb_; clear hb_; generalize w13.drew = w14 at HB HXi HXq HXn HRo HRb HXp HRmb HXf HXm HRi hHeld |-
     refine pz 0 88 HT_ ?_; refine tv 1 89 (.agg #[.int .u8 0, .int .u32 0, .int .u16 0, .int .u32 0, .int .u16 0, .int .u8 0, .slice none 0 0]) HT_ HW_ hHeld ?_ ?_
     ·intro w' s0
      exact rw_load (p := .tmp 6) (ty := 76) (by rfl) (by rfl) s0 hu76 (by rfl) HI76.out
     refine nz 89 ?_; refine oz 2 (none) HT_ (fun K hK => ?_); refine skip_row (by rfl) (by rfl) rfl rfl rfl HXi.out HI73.out rfl (by simp [Value.oneCell']) ?_; intro w15 hs_ off_; replace HXq := oX off_ HXq HXi (by decide); replace HXn := oX off_ HXn HXi (by decide); replace HRo := oR off_ HRo HXi (by decide); replace HRb := oR off_ HRb HXi (by decide); replace HXp := oN off_ HXp (ne_sym NE_HXi_HXp); replace HRmb := oR off_ HRmb HXi (by decide); replace HXf := oX off_ HXf HXi (by decide); replace HXm := oX off_ HXm HXi (by decide); replace HRi := oI off_ HRi HXi (by decide); replace HB := oB off_ HB GHXi; clear off_; replace HXi := Aside0.mk hs_; clear hs_; refine hK.out _ _ HXn.out (fun hHeld => ?_); clear hK K; refine pz 3 3 HT_ ?_; refine oz 4 (none) HT_ (fun K hK => ?_); refine skip_row (by rfl) (by rfl) rfl rfl rfl HXq.out HI76.out rfl (by simp [Value.oneCell']) ?_
     intro w16 hs_ off_; replace HXi := oX off_ HXi HXq (by decide); replace HXn := oN off_ HXn (ne_sym NE_HXq_HXn); replace HRo := oR off_ HRo HXq (by decide); replace HRb := oR off_ HRb HXq (by decide); replace HXp := oX off_ HXp HXq (by decide); replace HRmb := oR off_ HRmb HXq (by decide); replace HXf := oN off_ HXf (ne_sym NE_HXq_HXf); replace HXm := oX off_ HXm HXq (by decide); replace HRi := oI off_ HRi HXq (by decide); replace HB := oB off_ HB GHXq; clear off_; replace HXq := Aside0.mk hs_; clear hs_; refine hK.out _ _ HXn.out (fun hHeld => ?_); clear hK K; refine pz 5 5 HT_ ?_; refine dz HT_ ?_; clear HT_ HW_ hHeld
     (try dsimp only)
     go_wp2
     (try simp only [Exit.inBlock, Exit.then])
     refine bodyPost_ret (results_ctct rfl _ _ gi gq 73 76 #[.int .u8 0, .int .u8 0, .int .u8 0, .int .u16 0, .int .u8 0, .int .u16 0, .int .u32 0, .int .u32 0, .slice none 0 0, .slice none 0 0] #[.int .u8 0, .int .u32 0, .int .u16 0, .int .u32 0, .int .u16 0, .int .u8 0, .slice none 0 0] (0, 0) (0, 0) _ _ rfl HXi.out hu73 rfl HI73.out rfl HXq.out hu76 rfl HI76.out) rfl ?_; exact ⟨_, _, _, _, rfl, Kd.R_nil _ _ _ _ _, Kd.R_nil _ _ _ _ _, rfl, Kd.R_nil _ _ _ _ _, HB.out⟩
    | true =>
     rw [if_pos rfl] at H
     cases ok with
     | false =>
      rw [if_neg (by decide)] at H
      obtain rfl := Option.some.inj H
      (try dsimp only)
      go_upto_region 18 with (fail)
      refine start_ (n := 6) (S := fun w' => w'.heap[gn]? = some (.cells #[.int .u8 0, .int .u32 0, .int .u16 0, .int .u32 0, .int .u16 0, .int .u8 0, .slice none 0 0] 76 (0, 0))) (ds := []) #[false, false, false, false, false, false] (by kernel_rfl) rfl rfl HXn.out (fun hHeld => ?_); refine with_tabW look.R18.tab look.R18.bits (fun HT_ HW_ => ?_); have hb_ := below_drew1 (Below.refl w13.heap.size w13); replace HB := mB HB hb_; replace HXi := mX HXi hb_; replace HXq := mX HXq hb_; replace HXn := mX HXn hb_; replace HRo := mR HRo hb_; replace HRb := mR HRb hb_; replace HXp := mX HXp hb_; replace HRmb := mR HRmb hb_; replace HXf := mX HXf hb_; replace HXm := mX HXm hb_; replace HRi := mI HRi hb_; clear hb_; generalize w13.drew = w14 at HB HXi HXq HXn HRo HRb HXp HRmb HXf HXm HRi hHeld |-
      refine pz 0 88 HT_ ?_; refine tv 1 89 (.agg #[.int .u8 0, .int .u32 0, .int .u16 0, .int .u32 0, .int .u16 0, .int .u8 0, .slice none 0 0]) HT_ HW_ hHeld ?_ ?_
      ·intro w' s0
       exact rw_load (p := .tmp 6) (ty := 76) (by rfl) (by rfl) s0 hu76 (by rfl) HI76.out
      refine nz 89 ?_; refine oz 2 (none) HT_ (fun K hK => ?_); refine skip_row (by rfl) (by rfl) rfl rfl rfl HXi.out HI73.out rfl (by simp [Value.oneCell']) ?_; intro w15 hs_ off_; replace HXq := oX off_ HXq HXi (by decide); replace HXn := oX off_ HXn HXi (by decide); replace HRo := oR off_ HRo HXi (by decide); replace HRb := oR off_ HRb HXi (by decide); replace HXp := oN off_ HXp (ne_sym NE_HXi_HXp); replace HRmb := oR off_ HRmb HXi (by decide); replace HXf := oX off_ HXf HXi (by decide); replace HXm := oX off_ HXm HXi (by decide); replace HRi := oI off_ HRi HXi (by decide); replace HB := oB off_ HB GHXi; clear off_; replace HXi := Aside0.mk hs_; clear hs_; refine hK.out _ _ HXn.out (fun hHeld => ?_); clear hK K; refine pz 3 3 HT_ ?_; refine oz 4 (none) HT_ (fun K hK => ?_); refine skip_row (by rfl) (by rfl) rfl rfl rfl HXq.out HI76.out rfl (by simp [Value.oneCell']) ?_
      intro w16 hs_ off_; replace HXi := oX off_ HXi HXq (by decide); replace HXn := oN off_ HXn (ne_sym NE_HXq_HXn); replace HRo := oR off_ HRo HXq (by decide); replace HRb := oR off_ HRb HXq (by decide); replace HXp := oX off_ HXp HXq (by decide); replace HRmb := oR off_ HRmb HXq (by decide); replace HXf := oN off_ HXf (ne_sym NE_HXq_HXf); replace HXm := oX off_ HXm HXq (by decide); replace HRi := oI off_ HRi HXq (by decide); replace HB := oB off_ HB GHXq; clear off_; replace HXq := Aside0.mk hs_; clear hs_; refine hK.out _ _ HXn.out (fun hHeld => ?_); clear hK K; refine pz 5 5 HT_ ?_; refine dz HT_ ?_; clear HT_ HW_ hHeld
      (try dsimp only)
      go_wp2
      (try simp only [Exit.inBlock, Exit.then])
      refine bodyPost_ret (results_ctct rfl _ _ gi gq 73 76 #[.int .u8 0, .int .u8 0, .int .u8 0, .int .u16 0, .int .u8 0, .int .u16 0, .int .u32 0, .int .u32 0, .slice none 0 0, .slice none 0 0] #[.int .u8 0, .int .u32 0, .int .u16 0, .int .u32 0, .int .u16 0, .int .u8 0, .slice none 0 0] (0, 0) (0, 0) _ _ rfl HXi.out hu73 rfl HI73.out rfl HXq.out hu76 rfl HI76.out) rfl ?_; exact ⟨_, _, _, _, rfl, Kd.R_nil _ _ _ _ _, Kd.R_nil _ _ _ _ _, rfl, Kd.R_nil _ _ _ _ _, HB.out⟩
     | true =>
      rw [if_pos rfl] at H
      obtain rfl := Option.some.inj H
      (try dsimp only)
      go_upto_region 25 with (((refine rw_set rfl rfl (i := 6) (v := .slice Ai il.length ci) (cs' := #[.int .u8 1, .int .u32 s, .int .u16 0, .int .u32 d, .int .u16 0, .int .u8 0, .slice Ai il.length ci]) HXf.out rfl ?hr_ ?_); (case hr_ => (have m_ := (blk_cell HXf.out 6).trans (rfl : _ = some (.slice none 0 0 : Value))); (have mf_ := blk_frozen HXf.out 6); first | (go_simp; done) | (go_simp; rfl)); intro w14 hs_ off_; replace HXi := oX off_ HXi HXf (by decide); replace HXq := oN off_ HXq NE_HXq_HXf; replace HXn := oN off_ HXn NE_HXn_HXf; replace HRo := oR off_ HRo HXf (by decide); replace HRb := oR off_ HRb HXf (by decide); replace HXp := oX off_ HXp HXf (by decide); replace HRmb := oR off_ HRmb HXf (by decide); replace HXm := oX off_ HXm HXf (by decide); replace HRi := oI off_ HRi HXf (by decide); replace HB := oB off_ HB GHXf; clear off_; replace HXf := Aside0.mk hs_; clear hs_))
      (try dsimp only)
      go_upto_region 25 with (fail)
      refine start_ (n := 7) (S := fun w' => w'.heap[gp]? = some (.cells #[.int .u8 a, .int .u8 t, .int .u8 1, .int .u16 i, .int .u8 fl, .int .u16 of_, .int .u32 s, .int .u32 d, .slice Ao o.length co, .slice Ab b.length cb] 73 (0, 0)) /\ w'.heap[gf]? = some (.cells #[.int .u8 1, .int .u32 s, .int .u16 0, .int .u32 d, .int .u16 0, .int .u8 0, .slice Ai il.length ci] 76 (0, 0))) (ds := []) #[false, false, false, false, false, false, false] (by kernel_rfl) rfl rfl ⟨HXp.out, HXf.out⟩ (fun hHeld => ?_); refine with_tabW look.R25.tab look.R25.bits (fun HT_ HW_ => ?_); have hb_ := below_drew1 (Below.refl w14.heap.size w14); replace HB := mB HB hb_; replace HXi := mX HXi hb_; replace HXq := mX HXq hb_; replace HXn := mX HXn hb_; replace HRo := mR HRo hb_; replace HRb := mR HRb hb_; replace HXp := mX HXp hb_; replace HRmb := mR HRmb hb_; replace HXf := mX HXf hb_; replace HXm := mX HXm hb_
      replace HRi := mI HRi hb_; clear hb_; generalize w14.drew = w15 at HB HXi HXq HXn HRo HRb HXp HRmb HXf HXm HRi hHeld |-
      refine pz 1 123 HT_ ?_; refine tv 0 122 (.agg #[.int .u8 a, .int .u8 t, .int .u8 1, .int .u16 i, .int .u8 fl, .int .u16 of_, .int .u32 s, .int .u32 d, .slice Ao o.length co, .slice Ab b.length cb]) HT_ HW_ hHeld ?_ ?_
      ·intro w' s0
       obtain ⟨s0, s1⟩ := s0; exact rw_load (p := .tmp 7) (ty := 73) (by rfl) (by rfl) s0 hu73 (by rfl) HI73.out
      refine nz 122 ?_; refine tv 2 124 (.agg #[.int .u8 1, .int .u32 s, .int .u16 0, .int .u32 d, .int .u16 0, .int .u8 0, .slice Ai il.length ci]) HT_ HW_ hHeld ?_ ?_
      ·intro w' s0
       obtain ⟨s0, s1⟩ := s0; exact rw_load (p := .tmp 10) (ty := 76) (by rfl) (by rfl) s1 hu76 (by rfl) HI76.out
      refine nz 124 ?_; refine oz 3 (none) HT_ (fun K hK => ?_); refine skip_row (by rfl) (by rfl) rfl rfl rfl HXi.out HI73.out rfl (by simp [Value.oneCell']) ?_; intro w16 hs_ off_; replace HXq := oX off_ HXq HXi (by decide); replace HXn := oX off_ HXn HXi (by decide); replace HRo := oR off_ HRo HXi (by decide); replace HRb := oR off_ HRb HXi (by decide); replace HXp := oN off_ HXp (ne_sym NE_HXi_HXp); replace HRmb := oR off_ HRmb HXi (by decide); replace HXf := oX off_ HXf HXi (by decide); replace HXm := oX off_ HXm HXi (by decide); replace HRi := oI off_ HRi HXi (by decide); replace HB := oB off_ HB GHXi; clear off_; replace HXi := Aside0.mk hs_; clear hs_; refine hK.out _ _ ⟨HXp.out, HXf.out⟩ (fun hHeld => ?_); clear hK K; refine pz 4 3 HT_ ?_; refine oz 5 (none) HT_ (fun K hK => ?_); refine skip_row (by rfl) (by rfl) rfl rfl rfl HXq.out HI76.out rfl (by simp [Value.oneCell']) ?_
      intro w17 hs_ off_; replace HXi := oX off_ HXi HXq (by decide); replace HXn := oN off_ HXn (ne_sym NE_HXq_HXn); replace HRo := oR off_ HRo HXq (by decide); replace HRb := oR off_ HRb HXq (by decide); replace HXp := oX off_ HXp HXq (by decide); replace HRmb := oR off_ HRmb HXq (by decide); replace HXf := oN off_ HXf (ne_sym NE_HXq_HXf); replace HXm := oX off_ HXm HXq (by decide); replace HRi := oI off_ HRi HXq (by decide); replace HB := oB off_ HB GHXq; clear off_; replace HXq := Aside0.mk hs_; clear hs_; refine hK.out _ _ ⟨HXp.out, HXf.out⟩ (fun hHeld => ?_); clear hK K; refine pz 6 5 HT_ ?_; refine dz HT_ ?_; clear HT_ HW_ hHeld
      (try dsimp only)
      go_wp2
      (try simp only [Exit.inBlock, Exit.then])
      refine bodyPost_ret (results_ctct rfl _ _ gi gq 73 76 #[.int .u8 a, .int .u8 t, .int .u8 1, .int .u16 i, .int .u8 fl, .int .u16 of_, .int .u32 s, .int .u32 d, .slice Ao o.length co, .slice Ab b.length cb] #[.int .u8 1, .int .u32 s, .int .u16 0, .int .u32 d, .int .u16 0, .int .u8 0, .slice Ai il.length ci] (0, 0) (0, 0) _ _ rfl HXi.out hu73 rfl HI73.out rfl HXq.out hu76 rfl HI76.out) rfl ?_; exact ⟨_, _, _, _, rfl, HRo.out, HRb.out, ⟨_, rfl, HRmb.out⟩, HRi.out, HB.out⟩
   | true =>
    rw [if_pos rfl] at H
    obtain rfl := Option.some.inj H
    (try dsimp only)
    go_upto_region 16 with (fail)
    refine start_ (n := 14) (S := fun w' => w'.cell? ⟨gm, 3, none⟩ = some (.int .u32 mr)) (ds := []) #[false, false, false, false, false, false, false, false, false, false, false, false, false, false] (by kernel_rfl) rfl rfl ((blk_cell HXm.out 3).trans rfl) (fun hHeld => ?_); refine with_tabW look.R16.tab look.R16.bits (fun HT_ HW_ => ?_); have hb_ := below_drew1 (Below.refl w12.heap.size w12); replace HB := mB HB hb_; replace HXi := mX HXi hb_; replace HXq := mX HXq hb_; replace HXn := mX HXn hb_; replace HRo := mR HRo hb_; replace HRb := mR HRb hb_; replace HXp := mX HXp hb_; replace HRmb := mR HRmb hb_; replace HXf := mX HXf hb_; replace HXm := mX HXm hb_; replace HRi := mI HRi hb_; clear hb_; generalize w12.drew = w13 at HB HXi HXq HXn HRo HRb HXp HRmb HXf HXm HRi hHeld |-
    refine pz 0 68 HT_ ?_; refine pz 4 72 HT_ ?_; refine tz 1 69 HT_ HW_ hHeld ?_; refine pz 2 70 HT_ ?_; refine pz 3 71 HT_ ?_; refine pz 8 76 HT_ ?_; refine pz 9 77 HT_ ?_; refine tz 5 73 HT_ HW_ hHeld ?_; refine pz 6 74 HT_ ?_; refine pz 7 75 HT_ ?_; refine oz 10 (none) HT_ (fun K hK => ?_); refine skip_cell (i := 2) (v := .int .u16 (mr / 65536 % 65536)) (cs' := #[.int .u8 1, .int .u32 s, .int .u16 (mr / 65536 % 65536), .int .u32 d, .int .u16 0, .int .u8 0, .slice none 0 0]) (by rfl) (by rfl) HXf.out rfl (by (have m_ := (blk_cell HXf.out 2).trans (rfl : _ = some (.int .u16 0 : Value))); (have mf_ := blk_frozen HXf.out 2); first | (go_simp; done) | (go_simp; rfl)) ?_; intro w14 hs_ off_; replace HXi := oX off_ HXi HXf (by decide); replace HXq := oN off_ HXq NE_HXq_HXf; replace HXn := oN off_ HXn NE_HXn_HXf; replace HRo := oR off_ HRo HXf (by decide)
    replace HRb := oR off_ HRb HXf (by decide); replace HXp := oX off_ HXp HXf (by decide); replace HRmb := oR off_ HRmb HXf (by decide); replace HXm := oX off_ HXm HXf (by decide); replace HRi := oI off_ HRi HXf (by decide); replace HB := oB off_ HB GHXf; clear off_; replace HXf := Aside0.mk hs_; clear hs_; refine hK.out _ _ ((blk_cell HXm.out 3).trans rfl) (fun hHeld => ?_); clear hK K; refine pz 11 78 HT_ ?_; refine pz 12 79 HT_ ?_; refine oz 13 (none) HT_ (fun K hK => ?_); refine skip_cell (i := 4) (v := .int .u16 (mr / 65536 % 65536)) (cs' := #[.int .u8 1, .int .u32 s, .int .u16 (mr / 65536 % 65536), .int .u32 d, .int .u16 (mr / 65536 % 65536), .int .u8 0, .slice none 0 0]) (by rfl) (by rfl) HXf.out rfl (by (have m_ := (blk_cell HXf.out 4).trans (rfl : _ = some (.int .u16 0 : Value))); (have mf_ := blk_frozen HXf.out 4); first | (go_simp; done) | (go_simp; rfl)) ?_
    intro w15 hs_ off_; replace HXi := oX off_ HXi HXf (by decide); replace HXq := oN off_ HXq NE_HXq_HXf; replace HXn := oN off_ HXn NE_HXn_HXf; replace HRo := oR off_ HRo HXf (by decide); replace HRb := oR off_ HRb HXf (by decide); replace HXp := oX off_ HXp HXf (by decide); replace HRmb := oR off_ HRmb HXf (by decide); replace HXm := oX off_ HXm HXf (by decide); replace HRi := oI off_ HRi HXf (by decide); replace HB := oB off_ HB GHXf; clear off_; replace HXf := Aside0.mk hs_; clear hs_; refine hK.out _ _ ((blk_cell HXm.out 3).trans rfl) (fun hHeld => ?_); clear hK K; refine dz HT_ ?_; clear HT_ HW_ hHeld
    (try dsimp only)
    go_upto_region 25 with (fail)
    refine start_ (n := 7) (S := fun w' => w'.heap[gp]? = some (.cells #[.int .u8 a, .int .u8 t, .int .u8 1, .int .u16 i, .int .u8 fl, .int .u16 of_, .int .u32 s, .int .u32 d, .slice Ao o.length co, .slice Ab b.length cb] 73 (0, 0)) /\ w'.heap[gf]? = some (.cells #[.int .u8 1, .int .u32 s, .int .u16 (mr / 65536 % 65536), .int .u32 d, .int .u16 (mr / 65536 % 65536), .int .u8 0, .slice none 0 0] 76 (0, 0))) (ds := []) #[false, false, false, false, false, false, false] (by kernel_rfl) rfl rfl ⟨HXp.out, HXf.out⟩ (fun hHeld => ?_); refine with_tabW look.R25.tab look.R25.bits (fun HT_ HW_ => ?_); have hb_ := below_drew1 (Below.refl w15.heap.size w15); replace HB := mB HB hb_; replace HXi := mX HXi hb_; replace HXq := mX HXq hb_; replace HXn := mX HXn hb_; replace HRo := mR HRo hb_; replace HRb := mR HRb hb_; replace HXp := mX HXp hb_; replace HRmb := mR HRmb hb_; replace HXf := mX HXf hb_
    replace HXm := mX HXm hb_; replace HRi := mI HRi hb_; clear hb_; generalize w15.drew = w16 at HB HXi HXq HXn HRo HRb HXp HRmb HXf HXm HRi hHeld |-
    refine pz 1 123 HT_ ?_; refine tv 0 122 (.agg #[.int .u8 a, .int .u8 t, .int .u8 1, .int .u16 i, .int .u8 fl, .int .u16 of_, .int .u32 s, .int .u32 d, .slice Ao o.length co, .slice Ab b.length cb]) HT_ HW_ hHeld ?_ ?_
    ·intro w' s0
     obtain ⟨s0, s1⟩ := s0; exact rw_load (p := .tmp 7) (ty := 73) (by rfl) (by rfl) s0 hu73 (by rfl) HI73.out
    refine nz 122 ?_; refine tv 2 124 (.agg #[.int .u8 1, .int .u32 s, .int .u16 (mr / 65536 % 65536), .int .u32 d, .int .u16 (mr / 65536 % 65536), .int .u8 0, .slice none 0 0]) HT_ HW_ hHeld ?_ ?_
    ·intro w' s0
     obtain ⟨s0, s1⟩ := s0; exact rw_load (p := .tmp 10) (ty := 76) (by rfl) (by rfl) s1 hu76 (by rfl) HI76.out
    refine nz 124 ?_; refine oz 3 (none) HT_ (fun K hK => ?_); refine skip_row (by rfl) (by rfl) rfl rfl rfl HXi.out HI73.out rfl (by simp [Value.oneCell']) ?_; intro w17 hs_ off_; replace HXq := oX off_ HXq HXi (by decide); replace HXn := oX off_ HXn HXi (by decide); replace HRo := oR off_ HRo HXi (by decide); replace HRb := oR off_ HRb HXi (by decide); replace HXp := oN off_ HXp (ne_sym NE_HXi_HXp); replace HRmb := oR off_ HRmb HXi (by decide); replace HXf := oX off_ HXf HXi (by decide); replace HXm := oX off_ HXm HXi (by decide); replace HRi := oI off_ HRi HXi (by decide); replace HB := oB off_ HB GHXi; clear off_; replace HXi := Aside0.mk hs_; clear hs_; refine hK.out _ _ ⟨HXp.out, HXf.out⟩ (fun hHeld => ?_); clear hK K; refine pz 4 3 HT_ ?_; refine oz 5 (none) HT_ (fun K hK => ?_); refine skip_row (by rfl) (by rfl) rfl rfl rfl HXq.out HI76.out rfl (by simp [Value.oneCell']) ?_
    intro w18 hs_ off_; replace HXi := oX off_ HXi HXq (by decide); replace HXn := oN off_ HXn (ne_sym NE_HXq_HXn); replace HRo := oR off_ HRo HXq (by decide); replace HRb := oR off_ HRb HXq (by decide); replace HXp := oX off_ HXp HXq (by decide); replace HRmb := oR off_ HRmb HXq (by decide); replace HXf := oN off_ HXf (ne_sym NE_HXq_HXf); replace HXm := oX off_ HXm HXq (by decide); replace HRi := oI off_ HRi HXq (by decide); replace HB := oB off_ HB GHXq; clear off_; replace HXq := Aside0.mk hs_; clear hs_; refine hK.out _ _ ⟨HXp.out, HXf.out⟩ (fun hHeld => ?_); clear hK K; refine pz 6 5 HT_ ?_; refine dz HT_ ?_; clear HT_ HW_ hHeld
    (try dsimp only)
    go_wp2
    (try simp only [Exit.inBlock, Exit.then])
    refine bodyPost_ret (results_ctct rfl _ _ gi gq 73 76 #[.int .u8 a, .int .u8 t, .int .u8 1, .int .u16 i, .int .u8 fl, .int .u16 of_, .int .u32 s, .int .u32 d, .slice Ao o.length co, .slice Ab b.length cb] #[.int .u8 1, .int .u32 s, .int .u16 (mr / 65536 % 65536), .int .u32 d, .int .u16 (mr / 65536 % 65536), .int .u8 0, .slice none 0 0] (0, 0) (0, 0) _ _ rfl HXi.out hu73 rfl HI73.out rfl HXq.out hu76 rfl HI76.out) rfl ?_; exact ⟨_, _, _, _, rfl, HRo.out, HRb.out, ⟨_, rfl, HRmb.out⟩, Kd.R_nil _ _ _ _ _, HB.out⟩
 ·have ce1 : (e2 == 0) = false := beq_eq_false_iff_ne.2 ce
  have ce2 : (e2 != 0) = true := bne_iff_ne.2 ce; rw [if_neg ce] at H
  clear ce; obtain rfl := Option.some.inj H
  (try dsimp only)
  go_upto_region 7 with (fail)
  refine start_ (n := 7) (S := fun w' => w'.heap[gn]? = some (.cells #[.int .u8 0, .int .u32 0, .int .u16 0, .int .u32 0, .int .u16 0, .int .u8 0, .slice none 0 0] 76 (0, 0))) (ds := []) #[false, false, false, false, false, false, false] (by kernel_rfl) rfl rfl HXn.out (fun hHeld => ?_); refine with_tabW look.R7.tab look.R7.bits (fun HT_ HW_ => ?_); have hb_ := below_drew1 (Below.refl w6.heap.size w6); replace HB := mB HB hb_; replace HXi := mX HXi hb_; replace HXq := mX HXq hb_; replace HXn := mX HXn hb_; replace HRo := mR HRo hb_; replace HRb := mR HRb hb_; replace HXp := mX HXp hb_; replace HRmb := mR HRmb hb_; clear hb_; generalize w6.drew = w7 at HB HXi HXq HXn HRo HRb HXp HRmb hHeld |-
  refine pz 0 34 HT_ ?_; refine pz 2 36 HT_ ?_; refine tv 1 35 (.agg #[.int .u8 0, .int .u32 0, .int .u16 0, .int .u32 0, .int .u16 0, .int .u8 0, .slice none 0 0]) HT_ HW_ hHeld ?_ ?_
  ·intro w' s0
   exact rw_load (p := .tmp 6) (ty := 76) (by rfl) (by rfl) s0 hu76 (by rfl) HI76.out
  refine nz 35 ?_; refine oz 3 (none) HT_ (fun K hK => ?_); refine skip_row (by rfl) (by rfl) rfl rfl rfl HXi.out HI73.out rfl (by simp [Value.oneCell']) ?_; intro w8 hs_ off_; replace HXq := oX off_ HXq HXi (by decide); replace HXn := oX off_ HXn HXi (by decide); replace HRo := oR off_ HRo HXi (by decide); replace HRb := oR off_ HRb HXi (by decide); replace HXp := oN off_ HXp (ne_sym NE_HXi_HXp); replace HRmb := oR off_ HRmb HXi (by decide); replace HB := oB off_ HB GHXi; clear off_; replace HXi := Aside0.mk hs_; clear hs_; refine hK.out _ _ HXn.out (fun hHeld => ?_); clear hK K; refine pz 4 3 HT_ ?_; refine oz 5 (none) HT_ (fun K hK => ?_); refine skip_row (by rfl) (by rfl) rfl rfl rfl HXq.out HI76.out rfl (by simp [Value.oneCell']) ?_; intro w9 hs_ off_; replace HXi := oX off_ HXi HXq (by decide); replace HXn := oN off_ HXn (ne_sym NE_HXq_HXn)
  replace HRo := oR off_ HRo HXq (by decide); replace HRb := oR off_ HRb HXq (by decide); replace HXp := oX off_ HXp HXq (by decide); replace HRmb := oR off_ HRmb HXq (by decide); replace HB := oB off_ HB GHXq; clear off_; replace HXq := Aside0.mk hs_; clear hs_; refine hK.out _ _ HXn.out (fun hHeld => ?_); clear hK K; refine pz 6 5 HT_ ?_; refine dz HT_ ?_; clear HT_ HW_ hHeld
  (try dsimp only)
  go_wp2
  (try simp only [Exit.inBlock, Exit.then])
  refine bodyPost_ret (results_ctct rfl _ _ gi gq 73 76 #[.int .u8 0, .int .u8 0, .int .u8 0, .int .u16 0, .int .u8 0, .int .u16 0, .int .u32 0, .int .u32 0, .slice none 0 0, .slice none 0 0] #[.int .u8 0, .int .u32 0, .int .u16 0, .int .u32 0, .int .u16 0, .int .u8 0, .slice none 0 0] (0, 0) (0, 0) _ _ rfl HXi.out hu73 rfl HI73.out rfl HXq.out hu76 rfl HI76.out) rfl ?_; exact ⟨_, _, _, _, rfl, Kd.R_nil _ _ _ _ _, Kd.R_nil _ _ _ _ _, rfl, Kd.R_nil _ _ _ _ _, HB.out⟩
attribute [local go_sem] inR179
attribute [local go_sem] inP179
attribute [local go_sem] inR181
attribute [local go_sem] inP181
attribute [local go_sem] inR183
attribute [local go_sem] inP183
attribute [local go_sem] inT179
attribute [local go_sem] inT181
attribute [local go_sem] inT183
attribute [local go_sem] inF179
attribute [local go_sem] inF181
attribute [local go_sem] inF183
theorem look.lk_bad (k : Nat) (A : Option Addr) (c : Nat) (l : List Int) (a t pr i fl of_ s d : Int) (o b : List Int) (e_ : Int) (w : World) (hC : Kd.C (Kd.int .u8) w A l.length l) (hL : l.length <= c) (hP : ip_Parse.f k l = some (a, t, pr, i, fl, of_, s, d, o, b, e_)) (he : ¬ e_ = 0) :
  Calls Try.prog 69 #[.slice A l.length c] w fun e w' => (LK.err e_).Post w.heap.size w e w' := by
 have hu73 := Try.underlying73; have hu76 := Try.underlying76; have HB := Aside0.mk (Below.refl w.heap.size w); have HC := Aside0.mk hC; have HL := Aside0.mk hL; have HP := Aside0.mk hP; have HI73 : Aside0 ((Try.prog.info? 73).map (·.size) = some 10) := ⟨by kernel_rfl⟩
 have HI76 : Aside0 ((Try.prog.info? 76).map (·.size) = some 7) := ⟨by kernel_rfl⟩
 clear hC hL hP
 go_enter Try.func69, Try.ntmps69
 go_upto_region 2 with (first | ((with_reducible refine gate_dst (N := 2) rfl ?_); refine box_event ?hg_ (N := 2) ?hd_ (cs := #[.int .u8 0, .int .u8 0, .int .u8 0, .int .u16 0, .int .u8 0, .int .u16 0, .int .u32 0, .int .u32 0, .slice none 0 0, .slice none 0 0]) (t := 73) ?hr_ ?_; (case hd_ => rfl); (case hg_ => rfl); (case hr_ => first | (go_simp; done) | (go_simp; rfl)); intro gi hgg_ w1 hbox_ hbb_; have GHXi := Aside0.mk (show w.heap.size <= gi by rw [hgg_]; exact below_size HB.out); have HXi := Aside0.mk hbox_; have hb_ := hbb_; replace HB := mB HB hb_; clear hb_; clear hgg_ hbox_ hbb_) | ((with_reducible refine gate_dst (N := 4) rfl ?_); refine box_event ?hg_ (N := 4) ?hd_ (cs := #[.int .u8 0, .int .u32 0, .int .u16 0, .int .u32 0, .int .u16 0, .int .u8 0, .slice none 0 0]) (t := 76) ?hr_ ?_; (case hd_ => rfl); (case hg_ => rfl); (case hr_ => first | (go_simp; done) | (go_simp; rfl)); intro gq hgg_ w2 hbox_ hbb_; have GHXq := Aside0.mk (show w.heap.size <= gq by rw [hgg_]; exact below_size HB.out); have HXq := Aside0.mk hbox_; have hb_ := hbb_; replace HB := mB HB hb_; replace HXi := mX HXi hb_; clear hb_; clear hgg_ hbox_ hbb_) | ((refine rw_newrow rfl rfl rfl rfl rfl HI76.out rfl (by simp [Value.oneCell']) ?_); intro x_new hx_ hbn_))
 revert x_new hx_ hbn_; intro w3 hx_ hbn_; have HXn : Aside0 (w3.heap[w2.heap.size]? = some (.cells #[.int .u8 0, .int .u32 0, .int .u16 0, .int .u32 0, .int .u16 0, .int .u8 0, .slice none 0 0] 76 (0, 0))) := ⟨hx_⟩
 have GHXn := bsz HB; have NE_HXq_HXn := blk_less HXq; have hb_ := hbn_; replace HB := mB HB hb_; replace HXi := mX HXi hb_; replace HXq := mX HXq hb_; clear hb_; clear hx_ hbn_; generalize w2.heap.size = gn at HXn GHXn NE_HXq_HXn |-
 go_wp2_with fail
 refine (ip_Parse.calls k A c l a t pr i fl of_ s d o b e_ _ (Kd.C_below HC.out HB.out) HL.out HP.out).mono ?_; rintro ev w4 ⟨vo, vb, rfl, ho, ho2, hb⟩; have HRo := rLow ho HB; obtain ⟨Ao, co, rfl, _, _⟩ := Kd.R_reads ho; clear ho; have HRb := rLow ho2 HB; obtain ⟨Ab, cb, rfl, _, _⟩ := Kd.R_reads ho2; clear ho2; have hb_ := hb; replace HB := mB HB hb_; replace HXi := mX HXi hb_; replace HXq := mX HXq hb_; replace HXn := mX HXn hb_; clear hb_; clear hb HP HC HL
 (try dsimp only)
 go_upto_region 3 with (((refine rw_newrow rfl rfl rfl rfl rfl HI73.out rfl (by simp [Value.oneCell']) ?_); intro x_new hx_ hbn_))
 revert x_new hx_ hbn_; intro w5 hx_ hbn_; have HXp : Aside0 (w5.heap[w4.heap.size]? = some (.cells #[.int .u8 a, .int .u8 t, .int .u8 pr, .int .u16 i, .int .u8 fl, .int .u16 of_, .int .u32 s, .int .u32 d, .slice Ao o.length co, .slice Ab b.length cb] 73 (0, 0))) := ⟨hx_⟩
 have GHXp := bsz HB; have NE_HXi_HXp := blk_less HXi; have hb_ := hbn_; replace HB := mB HB hb_; replace HXi := mX HXi hb_; replace HXq := mX HXq hb_; replace HXn := mX HXn hb_; replace HRo := mR HRo hb_; replace HRb := mR HRb hb_; clear hb_; clear hx_ hbn_; generalize w4.heap.size = gp at HXp GHXp NE_HXi_HXp |-
 have he1 : (e_ == 0) = false := beq_eq_false_iff_ne.2 he; have he2 : (e_ != 0) = true := bne_iff_ne.2 he; clear he; have H : some (LK.err e_) = some (LK.err e_) := rfl
 (try dsimp only)
 go_upto_region 4 with (fail)
 refine start_ (n := 7) (S := fun w' => w'.heap[gn]? = some (.cells #[.int .u8 0, .int .u32 0, .int .u16 0, .int .u32 0, .int .u16 0, .int .u8 0, .slice none 0 0] 76 (0, 0))) (ds := []) #[false, false, false, false, false, false, false] (by kernel_rfl) rfl rfl HXn.out (fun hHeld => ?_); refine with_tabW look.R4.tab look.R4.bits (fun HT_ HW_ => ?_); have hb_ := below_drew1 (Below.refl w5.heap.size w5); replace HB := mB HB hb_; replace HXi := mX HXi hb_; replace HXq := mX HXq hb_; replace HXn := mX HXn hb_; replace HRo := mR HRo hb_; replace HRb := mR HRb hb_; replace HXp := mX HXp hb_; clear hb_; generalize w5.drew = w6 at HB HXi HXq HXn HRo HRb HXp hHeld |-
 refine pz 0 24 HT_ ?_; refine pz 2 26 HT_ ?_; refine tv 1 25 (.agg #[.int .u8 0, .int .u32 0, .int .u16 0, .int .u32 0, .int .u16 0, .int .u8 0, .slice none 0 0]) HT_ HW_ hHeld ?_ ?_
 ·intro w' s0
  exact rw_load (p := .tmp 6) (ty := 76) (by rfl) (by rfl) s0 hu76 (by rfl) HI76.out
 refine nz 25 ?_; refine oz 3 (none) HT_ (fun K hK => ?_); refine skip_row (by rfl) (by rfl) rfl rfl rfl HXi.out HI73.out rfl (by simp [Value.oneCell']) ?_; intro w7 hs_ off_; replace HXq := oX off_ HXq HXi (by decide); replace HXn := oX off_ HXn HXi (by decide); replace HRo := oR off_ HRo HXi (by decide); replace HRb := oR off_ HRb HXi (by decide); replace HXp := oN off_ HXp (ne_sym NE_HXi_HXp); replace HB := oB off_ HB GHXi; clear off_; replace HXi := Aside0.mk hs_; clear hs_; refine hK.out _ _ HXn.out (fun hHeld => ?_); clear hK K; refine pz 4 3 HT_ ?_; refine oz 5 (none) HT_ (fun K hK => ?_); refine skip_row (by rfl) (by rfl) rfl rfl rfl HXq.out HI76.out rfl (by simp [Value.oneCell']) ?_; intro w8 hs_ off_; replace HXi := oX off_ HXi HXq (by decide); replace HXn := oN off_ HXn (ne_sym NE_HXq_HXn); replace HRo := oR off_ HRo HXq (by decide); replace HRb := oR off_ HRb HXq (by decide)
 replace HXp := oX off_ HXp HXq (by decide); replace HB := oB off_ HB GHXq; clear off_; replace HXq := Aside0.mk hs_; clear hs_; refine hK.out _ _ HXn.out (fun hHeld => ?_); clear hK K; refine pz 6 5 HT_ ?_; refine dz HT_ ?_; clear HT_ HW_ hHeld
 (try dsimp only)
 go_wp2
 (try simp only [Exit.inBlock, Exit.then])
 refine bodyPost_ret (results_ctct rfl _ _ gi gq 73 76 #[.int .u8 0, .int .u8 0, .int .u8 0, .int .u16 0, .int .u8 0, .int .u16 0, .int .u32 0, .int .u32 0, .slice none 0 0, .slice none 0 0] #[.int .u8 0, .int .u32 0, .int .u16 0, .int .u32 0, .int .u16 0, .int .u8 0, .slice none 0 0] (0, 0) (0, 0) _ _ rfl HXi.out hu73 rfl HI73.out rfl HXq.out hu76 rfl HI76.out) rfl ?_; exact ⟨_, _, _, _, rfl, Kd.R_nil _ _ _ _ _, Kd.R_nil _ _ _ _ _, rfl, Kd.R_nil _ _ _ _ _, HB.out⟩
attribute [local go_sem] inR179
attribute [local go_sem] inP179
attribute [local go_sem] inR181
attribute [local go_sem] inP181
attribute [local go_sem] inR183
attribute [local go_sem] inP183
attribute [local go_sem] inT179
attribute [local go_sem] inT181
attribute [local go_sem] inT183
attribute [local go_sem] inF179
attribute [local go_sem] inF181
attribute [local go_sem] inF183
theorem pointed.pt_icmp (k : Nat) (si sp di dp : Int) (mt mc ms mr : Int) (mb : List Int) (vmb : Value) (r : List Int) (w : World) {base : Nat} (hmb : Kd.R (Kd.int .u8) 5 w base (fun _ => True) vmb mb) (H : pointed.f k si sp di dp (.icmp mt mc ms mr mb) = some r) :
  Calls Try.prog 70 #[.iface 183 (.agg #[.int .u8 mt, .int .u8 mc, .int .u16 ms, .int .u32 mr, vmb]), .agg #[.int .u32 si, .int .u16 sp], .agg #[.int .u32 di, .int .u16 dp]] w fun e w' => ∃ vz : Value, e = .returned vz /\ Kd.R (Kd.int .u8) 5 w' w.heap.size (fun _ => True) vz r /\ Below w.heap.size w w' := by
 have hu65 := Try.underlying65; have hu83 := Try.underlying83; have hu137 := Try.underlying137; have hu101 := Try.underlying101; have hu179 := Try.underlying179; have hu181 := Try.underlying181; have hu183 := Try.underlying183; unfold pointed.f at H
 have HB := Aside0.mk (Below.refl w.heap.size w); have HI65 : Aside0 ((Try.prog.info? 65).map (·.size) = some 2) := ⟨by kernel_rfl⟩
 have HI83 : Aside0 ((Try.prog.info? 83).map (·.size) = some 4) := ⟨by kernel_rfl⟩
 have HI137 : Aside0 ((Try.prog.info? 137).map (·.size) = some 10) := ⟨by kernel_rfl⟩
 have HI101 : Aside0 ((Try.prog.info? 101).map (·.size) = some 5) := ⟨by kernel_rfl⟩
 have HI179 : Aside0 ((Try.prog.info? 179).map (·.size) = some 4) := ⟨by kernel_rfl⟩
 have HI181 : Aside0 ((Try.prog.info? 181).map (·.size) = some 10) := ⟨by kernel_rfl⟩
 have HI183 : Aside0 ((Try.prog.info? 183).map (·.size) = some 5) := ⟨by kernel_rfl⟩
 obtain ⟨Amb, cmb, rfl, _, _⟩ := Kd.R_reads hmb; have HRmb := Aside0.mk hmb; clear hmb; have HG := Aside0.mk H; clear H
 go_enter Try.func70, Try.ntmps70
 go_upto_region 2 with (first | ((with_reducible refine gate_dst (N := 4) rfl ?_); refine box_event ?hg_ (N := 4) ?hd_ (cs := #[.int .u32 si, .int .u16 sp]) (t := 65) ?hr_ ?_; (case hd_ => rfl); (case hg_ => rfl); (case hr_ => first | (go_simp; done) | (go_simp; rfl)); intro gs hgg_ w1 hbox_ hbb_; have GHXs := Aside0.mk (show w.heap.size <= gs by rw [hgg_]; exact below_size HB.out); have HXs := Aside0.mk hbox_; have hb_ := hbb_; replace HB := mB HB hb_; replace HRmb := mR HRmb hb_; clear hb_; clear hgg_ hbox_ hbb_) | ((with_reducible refine gate_dst (N := 5) rfl ?_); refine box_event ?hg_ (N := 5) ?hd_ (cs := #[.int .u32 di, .int .u16 dp]) (t := 65) ?hr_ ?_; (case hd_ => rfl); (case hg_ => rfl); (case hr_ => first | (go_simp; done) | (go_simp; rfl)); intro gd hgg_ w2 hbox_ hbb_; have GHXd := Aside0.mk (show w.heap.size <= gd by rw [hgg_]; exact below_size HB.out); have HXd := Aside0.mk hbox_; have NE_HXs_HXd : Aside0 (gs ≠ gd) := ⟨by rw [hgg_]; exact (blk_less HXs).out⟩; have hb_ := hbb_; replace HB := mB HB hb_; replace HRmb := mR HRmb hb_; replace HXs := mX HXs hb_; clear hb_; clear hgg_ hbox_ hbb_))
 go_wp2_with fail
 refine (rewrite_message_proto.calls mt mc ms mr Amb cmb mb 1 _ (Kd.R_reads' HRmb.out).2.2 (Kd.R_reads' HRmb.out).2.1 rfl).mono ?_; rintro ev w3 ⟨rfl, hb⟩; have hb_ := hb; replace HB := mB HB hb_; replace HRmb := mR HRmb hb_; replace HXs := mX HXs hb_; replace HXd := mX HXd hb_; clear hb_; clear hb
 (try dsimp only)
 go_upto_region 4 with (((refine rw_newrow rfl rfl rfl rfl rfl HI101.out rfl (by simp [Value.oneCell']) ?_); intro x_new hx_ hbn_))
 revert x_new hx_ hbn_; intro w4 hx_ hbn_; have HXu : Aside0 (w4.heap[w3.heap.size]? = some (.cells #[.int .u8 mt, .int .u8 mc, .int .u16 ms, .int .u32 mr, .slice Amb mb.length cmb] 101 (0, 0))) := ⟨hx_⟩
 have GHXu := bsz HB; have hb_ := hbn_; replace HB := mB HB hb_; replace HRmb := mR HRmb hb_; replace HXs := mX HXs hb_; replace HXd := mX HXd hb_; clear hb_; clear hx_ hbn_; generalize w3.heap.size = gu at HXu GHXu |-
 have H := HG.out; clear HG; obtain ⟨ec, hec, H⟩ := rw_bind H; have HG := Aside0.mk H; clear H
 (try dsimp only)
 go_wp2_with (refine Kd.event_run rfl (rw_load rfl rfl HXu.out Try.underlying101 rfl HI101.out) ?_)
 refine (icmp_Echo.calls mt mc ms mr Amb cmb mb ec _ (Kd.R_reads' HRmb.out).2.2 (Kd.R_reads' HRmb.out).2.1 hec).mono ?_; rintro ev w5 ⟨rfl, hb⟩; clear hec; have hb_ := hb; replace HB := mB HB hb_; replace HRmb := mR HRmb hb_; replace HXs := mX HXs hb_; replace HXd := mX HXd hb_; replace HXu := mX HXu hb_; clear hb_; clear hb; have H := HG.out; clear HG
 cases ec with
 | false =>
  rw [if_neg (by decide)] at H
  (try dsimp only)
  obtain ⟨s, hs, H⟩ := rw_bind H; have HG := Aside0.mk H; clear H
  go_wp2_with (refine Kd.event_run rfl (rw_load rfl rfl HXu.out Try.underlying101 rfl HI101.out) ?_)
  refine (icmp_Sum.calls k mt mc ms mr Amb cmb mb s _ (Kd.R_reads' HRmb.out).2.2 (Kd.R_reads' HRmb.out).2.1 hs).mono ?_; rintro ev w6 ⟨rfl, hb⟩; clear hs; have hb_ := hb; replace HB := mB HB hb_; replace HRmb := mR HRmb hb_; replace HXs := mX HXs hb_; replace HXd := mX HXd hb_; replace HXu := mX HXu hb_; clear hb_; clear hb
  (try dsimp only)
  go_upto_region 7 with (((refine rw_set rfl rfl (i := 2) (v := .int .u16 s) (cs' := #[.int .u8 mt, .int .u8 mc, .int .u16 s, .int .u32 mr, .slice Amb mb.length cmb]) HXu.out rfl ?hr_ ?_); (case hr_ => (have m_ := (blk_cell HXu.out 2).trans (rfl : _ = some (.int .u16 ms : Value))); (have mf_ := blk_frozen HXu.out 2); first | (go_simp; done) | (go_simp; rfl)); intro w7 hs_ off_; replace HRmb := oR off_ HRmb HXu (by decide); replace HXs := oX off_ HXs HXu (by decide); replace HXd := oX off_ HXd HXu (by decide); replace HB := oB off_ HB GHXu; clear off_; replace HXu := Aside0.mk hs_; clear hs_))
  have H := HG.out; clear HG; obtain ⟨⟨rz, re⟩, hz, H⟩ := rw_bind H; obtain rfl := Option.some.inj H
  (try dsimp only)
  go_wp2_with (refine Kd.event_run rfl (rw_load rfl rfl HXu.out Try.underlying101 rfl HI101.out) ?_)
  refine (icmp_Bytes.calls mt mc s mr Amb cmb mb rz re _ (Kd.R_reads' HRmb.out).2.2 (Kd.R_reads' HRmb.out).2.1 hz).mono ?_; rintro ev w8 ⟨vz, rfl, ho, hb⟩; clear hz; have HRz := rLow ho HB; clear ho; have hb_ := hb; replace HB := mB HB hb_; replace HRmb := mR HRmb hb_; replace HXs := mX HXs hb_; replace HXd := mX HXd hb_; replace HXu := mX HXu hb_; clear hb_; clear hb
  (try dsimp only)
  go_wp2
  (try simp only [Exit.inBlock, Exit.then])
  go_ret
  exact ⟨_, rfl, HRz.out, HB.out⟩
 | true =>
  rw [if_pos rfl] at H
  have HG := Aside0.mk H; clear H; have gu_3 := cz HXu.out 3 rfl; have gs_1 := cz HXs.out 1 rfl
  (try dsimp only)
  go_upto_region 6 with (((refine rw_set rfl rfl (i := 3) (v := .int .u32 (Go.bits .or .u32 (Go.bits .and .u32 mr 65535) (sp % 4294967296 * 65536 % 4294967296))) (cs' := #[.int .u8 mt, .int .u8 mc, .int .u16 ms, .int .u32 (Go.bits .or .u32 (Go.bits .and .u32 mr 65535) (sp % 4294967296 * 65536 % 4294967296)), .slice Amb mb.length cmb]) HXu.out rfl ?hr_ ?_); (case hr_ => (have m_ := (blk_cell HXu.out 3).trans (rfl : _ = some (.int .u32 mr : Value))); (have mf_ := blk_frozen HXu.out 3); first | (go_simp; done) | (go_simp; rfl)); intro w6 hs_ off_; replace HRmb := oR off_ HRmb HXu (by decide); replace HXs := oX off_ HXs HXu (by decide); replace HXd := oX off_ HXd HXu (by decide); replace HB := oB off_ HB GHXu; clear off_; replace HXu := Aside0.mk hs_; clear hs_))
  clear gu_3 gs_1; have H := HG.out; clear HG; obtain ⟨s, hs, H⟩ := rw_bind H; have HG := Aside0.mk H; clear H
  go_wp2_with (refine Kd.event_run rfl (rw_load rfl rfl HXu.out Try.underlying101 rfl HI101.out) ?_)
  refine (icmp_Sum.calls k mt mc ms (Go.bits .or .u32 (Go.bits .and .u32 mr 65535) (sp % 4294967296 * 65536 % 4294967296)) Amb cmb mb s _ (Kd.R_reads' HRmb.out).2.2 (Kd.R_reads' HRmb.out).2.1 hs).mono ?_; rintro ev w7 ⟨rfl, hb⟩; clear hs; have hb_ := hb; replace HB := mB HB hb_; replace HRmb := mR HRmb hb_; replace HXs := mX HXs hb_; replace HXd := mX HXd hb_; replace HXu := mX HXu hb_; clear hb_; clear hb
  (try dsimp only)
  go_upto_region 7 with (((refine rw_set rfl rfl (i := 2) (v := .int .u16 s) (cs' := #[.int .u8 mt, .int .u8 mc, .int .u16 s, .int .u32 (Go.bits .or .u32 (Go.bits .and .u32 mr 65535) (sp % 4294967296 * 65536 % 4294967296)), .slice Amb mb.length cmb]) HXu.out rfl ?hr_ ?_); (case hr_ => (have m_ := (blk_cell HXu.out 2).trans (rfl : _ = some (.int .u16 ms : Value))); (have mf_ := blk_frozen HXu.out 2); first | (go_simp; done) | (go_simp; rfl)); intro w8 hs_ off_; replace HRmb := oR off_ HRmb HXu (by decide); replace HXs := oX off_ HXs HXu (by decide); replace HXd := oX off_ HXd HXu (by decide); replace HB := oB off_ HB GHXu; clear off_; replace HXu := Aside0.mk hs_; clear hs_))
  have H := HG.out; clear HG; obtain ⟨⟨rz, re⟩, hz, H⟩ := rw_bind H; obtain rfl := Option.some.inj H
  (try dsimp only)
  go_wp2_with (refine Kd.event_run rfl (rw_load rfl rfl HXu.out Try.underlying101 rfl HI101.out) ?_)
  refine (icmp_Bytes.calls mt mc s (Go.bits .or .u32 (Go.bits .and .u32 mr 65535) (sp % 4294967296 * 65536 % 4294967296)) Amb cmb mb rz re _ (Kd.R_reads' HRmb.out).2.2 (Kd.R_reads' HRmb.out).2.1 hz).mono ?_; rintro ev w9 ⟨vz, rfl, ho, hb⟩; clear hz; have HRz := rLow ho HB; clear ho; have hb_ := hb; replace HB := mB HB hb_; replace HRmb := mR HRmb hb_; replace HXs := mX HXs hb_; replace HXd := mX HXd hb_; replace HXu := mX HXu hb_; clear hb_; clear hb
  (try dsimp only)
  go_wp2
  (try simp only [Exit.inBlock, Exit.then])
  go_ret
  exact ⟨_, rfl, HRz.out, HB.out⟩
attribute [local go_sem] max2_int min2_int max_two min_two max_three min_three max_four min_four
mutual
def ip_Bytes.j0 : Nat -> Int -> Bool -> Int -> Int -> Int -> Int -> Int -> Int -> Int -> Int -> List Int -> List Int -> Option (List Int × Int)
 | 0, _, _, _, _, _, _, _, _, _, _, _, _ => none
 | k + 1, x4, x15, x153000, x153001, x153002, x153003, x153004, x153005, x153006, x153007, x153008, x153009 => if x15 = true then (some (([] : List Int), 21)) else (if (x153009.length : Int) > (wrap64 (65535 - x4)) then (some (([] : List Int), 23)) else ((some (([x153006, x153007] : List Int) : List Int)).bind fun y156 => (ip_Bytes.l0 k (([Go.bits .or .u8 64 ((wrap64 (Int.tdiv x4 4)) % 256), x153000, ((wrap64 (x4 + (x153009.length : Int))) / 256) % 256, (wrap64 (x4 + (x153009.length : Int))) % 256, (x153003 / 256) % 256, (x153003) % 256, ((Go.bits .or .u16 (IntKind.u16.wrap ((IntKind.u16.wrap (x153004)) * 8192)) x153005) / 256) % 256, (Go.bits .or .u16 (IntKind.u16.wrap ((IntKind.u16.wrap (x153004)) * 8192)) x153005) % 256, x153001, x153002, 0, 0] : List Int)) y156 (y156.length : Int) 0 x153000 x153001 x153002 x153003 x153004 x153005 x153006 x153007 x153008 x153009)))
def ip_Bytes.l0 : Nat -> List Int -> List Int -> Int -> Int -> Int -> Int -> Int -> Int -> Int -> Int -> Int -> Int -> List Int -> List Int -> Option (List Int × Int)
 | 0, _, _, _, _, _, _, _, _, _, _, _, _, _, _ => none
 | k + 1, x7, x88, x89, x90, x153000, x153001, x153002, x153003, x153004, x153005, x153006, x153007, x153008, x153009 => if x90 < x89 then (if 0 <= x90 then (if x90 < (x88.length : Int) then ((some (([((rd x88 x90) / 16777216) % 256, ((rd x88 x90) / 65536) % 256, ((rd x88 x90) / 256) % 256, (rd x88 x90) % 256] : List Int) : List Int)).bind fun y160 => (if x7.length + y160.length < 140737488355328 then (ip_Bytes.l0 k (x7 ++ y160) x88 x89 (wrap64 (x90 + 1)) x153000 x153001 x153002 x153003 x153004 x153005 x153006 x153007 x153008 x153009) else (none))) else (none)) else (none)) else (if x7.length + x153008.length < 140737488355328 then ((some (x7 ++ x153008 : List Int)).bind fun y166 => ((sum_Of.f k y166).bind fun t169 => (if 10 < (y166.length : Int) then (if 11 < (y166.length : Int) then ((some ((y166.set (10 : Int).toNat ((t169 / 256) % 256)).set (11 : Int).toNat ((t169) % 256) : List Int)).bind fun y171 => (if y171.length + x153009.length < 140737488355328 then (some ((y171 ++ x153009), 0)) else (none))) else (none)) else (none)))) else (none))
end
def ip_Bytes.f (k : Nat) (a0_0 : Int) (a0_1 : Int) (a0_2 : Int) (a0_3 : Int) (a0_4 : Int) (a0_5 : Int) (a0_6 : Int) (a0_7 : Int) (l0_8 : List Int) (l0_9 : List Int) : Option (List Int × Int) := if ((l0_8.length : Int) % 4) = 0 then (if (l0_8.length : Int) > 40 then (ip_Bytes.j0 k (wrap64 (20 + (l0_8.length : Int))) true a0_0 a0_1 a0_2 a0_3 a0_4 a0_5 a0_6 a0_7 l0_8 l0_9) else (if a0_4 > 7 then (ip_Bytes.j0 k (wrap64 (20 + (l0_8.length : Int))) true a0_0 a0_1 a0_2 a0_3 a0_4 a0_5 a0_6 a0_7 l0_8 l0_9) else (ip_Bytes.j0 k (wrap64 (20 + (l0_8.length : Int))) (decide (a0_5 > 8191)) a0_0 a0_1 a0_2 a0_3 a0_4 a0_5 a0_6 a0_7 l0_8 l0_9))) else (ip_Bytes.j0 k (wrap64 (20 + (l0_8.length : Int))) true a0_0 a0_1 a0_2 a0_3 a0_4 a0_5 a0_6 a0_7 l0_8 l0_9)
theorem ip_Bytes.calls (k : Nat) (a0_0 : Int) (a0_1 : Int) (a0_2 : Int) (a0_3 : Int) (a0_4 : Int) (a0_5 : Int) (a0_6 : Int) (a0_7 : Int) (A0_8 : Option Addr) (c0_8 : Nat) (l0_8 : List Int) (A0_9 : Option Addr) (c0_9 : Nat) (l0_9 : List Int) (r1 : List Int) (r2 : Int) (w : World) (hr0_8 : Kd.C (Kd.int .u8) w A0_8 l0_8.length l0_8) (hc0_8 : l0_8.length <= c0_8) (hr0_9 : Kd.C (Kd.int .u8) w A0_9 l0_9.length l0_9) (hc0_9 : l0_9.length <= c0_9) (h : ip_Bytes.f k a0_0 a0_1 a0_2 a0_3 a0_4 a0_5 a0_6 a0_7 l0_8 l0_9 = some (r1, r2)) :
  Calls Try.prog 71 #[.agg #[.int .u8 a0_0, .int .u8 a0_1, .int .u8 a0_2, .int .u16 a0_3, .int .u8 a0_4, .int .u16 a0_5, .int .u32 a0_6, .int .u32 a0_7, .slice A0_8 l0_8.length c0_8, .slice A0_9 l0_9.length c0_9]] w fun e w' => ∃ v0_ : Value, e = .returned (.tuple #[v0_, .int .i64 r2]) /\ Kd.R (Kd.int .u8) 5 w' w.heap.size (fun _ => True) v0_ r1 /\ Below w.heap.size w w' := by
 have hu73 := Try.underlying73; have HR0_8 := Aside0.mk hr0_8; have HC0_8 := Aside0.mk hc0_8; clear hr0_8 hc0_8; have HR0_9 := Aside0.mk hr0_9; have HC0_9 := Aside0.mk hc0_9; clear hr0_9 hc0_9; have HB := Aside0.mk (Below.refl w.heap.size w); have H : (if ((l0_8.length : Int) % 4) = 0 then (if (l0_8.length : Int) > 40 then (ip_Bytes.j0 k (wrap64 (20 + (l0_8.length : Int))) true a0_0 a0_1 a0_2 a0_3 a0_4 a0_5 a0_6 a0_7 l0_8 l0_9) else (if a0_4 > 7 then (ip_Bytes.j0 k (wrap64 (20 + (l0_8.length : Int))) true a0_0 a0_1 a0_2 a0_3 a0_4 a0_5 a0_6 a0_7 l0_8 l0_9) else (ip_Bytes.j0 k (wrap64 (20 + (l0_8.length : Int))) (decide (a0_5 > 8191)) a0_0 a0_1 a0_2 a0_3 a0_4 a0_5 a0_6 a0_7 l0_8 l0_9))) else (ip_Bytes.j0 k (wrap64 (20 + (l0_8.length : Int))) true a0_0 a0_1 a0_2 a0_3 a0_4 a0_5 a0_6 a0_7 l0_8 l0_9)) = some (r1, r2) := h; clear h; have HC2 := Aside0.mk H; clear H
 go_enter Try.func71, Try.ntmps71
 go_upto_region 2 with (first | ((with_reducible refine gate_dst (N := 1) rfl ?_); (try (refine gate_guard (by rfl) ?_; dsimp only)); refine box_event ?hg (N := 1) ?hd (cs := #[.int .u8 a0_0, .int .u8 a0_1, .int .u8 a0_2, .int .u16 a0_3, .int .u8 a0_4, .int .u16 a0_5, .int .u32 a0_6, .int .u32 a0_7, .slice A0_8 l0_8.length c0_8, .slice A0_9 l0_9.length c0_9]) (t := 73) ?hr ?_; (case hd => rfl); (case hg => rfl); (case hr => first | (go_simp; done) | (go_simp; rfl)); intro gb152 hg w3 hbox hb; have n0_ := Aside0.mk (below_step (bz HB) hb); have n1_ := Aside0.mk (hbox); have n2_ := Aside0.mk ((by rw [hg]; exact (below_size (bz HB)) : w.heap.size <= gb152)); have n3_ := Aside0.mk ((by rw [hg]; exact (below_size (bz HB)) : w.heap.size <= gb152)); clear HB; have HB := n0_; have BK152 := n1_; have GW152 := n2_; have GE152 := n3_; clear n0_ n1_ n2_ n3_; clear hb hbox hg; have hcz4_0 : w3.cell? ⟨gb152, 0, none⟩ = some (.int .u8 a0_0) := cz BK152.out 0 rfl; have hcz4_1 : w3.cell? ⟨gb152, 1, none⟩ = some (.int .u8 a0_1) := cz BK152.out 1 rfl; have hcz4_2 : w3.cell? ⟨gb152, 2, none⟩ = some (.int .u8 a0_2) := cz BK152.out 2 rfl; have hcz4_3 : w3.cell? ⟨gb152, 3, none⟩ = some (.int .u16 a0_3) := cz BK152.out 3 rfl; have hcz4_4 : w3.cell? ⟨gb152, 4, none⟩ = some (.int .u8 a0_4) := cz BK152.out 4 rfl; have hcz4_5 : w3.cell? ⟨gb152, 5, none⟩ = some (.int .u16 a0_5) := cz BK152.out 5 rfl; have hcz4_6 : w3.cell? ⟨gb152, 6, none⟩ = some (.int .u32 a0_6) := cz BK152.out 6 rfl; have hcz4_7 : w3.cell? ⟨gb152, 7, none⟩ = some (.int .u32 a0_7) := cz BK152.out 7 rfl; have hcz4_8 : w3.cell? ⟨gb152, 8, none⟩ = some (.slice A0_8 l0_8.length c0_8) := cz BK152.out 8 rfl; have hcz4_9 : w3.cell? ⟨gb152, 9, none⟩ = some (.slice A0_9 l0_9.length c0_9) := cz BK152.out 9 rfl; have hfz4_0 := blk_frozen BK152.out 0; have hfz4_1 := blk_frozen BK152.out 1; have hfz4_2 := blk_frozen BK152.out 2; have hfz4_3 := blk_frozen BK152.out 3; have hfz4_4 := blk_frozen BK152.out 4; have hfz4_5 := blk_frozen BK152.out 5; have hfz4_6 := blk_frozen BK152.out 6; have hfz4_7 := blk_frozen BK152.out 7; have hfz4_8 := blk_frozen BK152.out 8; have hfz4_9 := blk_frozen BK152.out 9))
 (try simp only [Act.put, List.setIfInBounds_toArray, List.set_cons_zero, List.set_cons_succ])
 go_cut [15] (fun v15 wc => ∃ (kq : Nat) (x15_1 : Bool), v15 = .bool x15_1 /\ Aside0 (ip_Bytes.j0 kq (wrap64 (20 + (l0_8.length : Int))) x15_1 a0_0 a0_1 a0_2 a0_3 a0_4 a0_5 a0_6 a0_7 l0_8 l0_9 = some (r1, r2)) /\ Aside0 (kq <= k) /\ Aside0 (wc.heap[gb152]? = some (.cells #[.int .u8 a0_0, .int .u8 a0_1, .int .u8 a0_2, .int .u16 a0_3, .int .u8 a0_4, .int .u16 a0_5, .int .u32 a0_6, .int .u32 a0_7, (.slice A0_8 l0_8.length c0_8), (.slice A0_9 l0_9.length c0_9)] 73 (0, 0))) /\ Aside0 (Below w.heap.size w wc))
 case first =>
  have H := HC2.out; clear HC2
  by_cases c5 : ((l0_8.length : Int) % 4) = 0
  ·rw [if_pos c5] at H
   have c5b0 : (((l0_8.length : Int) % 4) == 0) = true := beq_iff_eq.mpr c5; have c5b1 : (((l0_8.length : Int) % 4) != 0) = false := bne_eq_false_iff_eq.mpr c5; clear c5
   (first | rw [c5b0] | (simp only [i64_w, i32_w]; rw [c5b0]) | skip)
   by_cases c6 : (l0_8.length : Int) > 40
   ·rw [if_pos c6] at H
    have c6b0 : decide (40 < (l0_8.length : Int)) = true := decide_eq_true c6; have c6b1 : decide (40 < l0_8.length) = true := decide_eq_true (by omega); clear c6; have H' := Aside0.mk H; clear H; have hcz7_0_ := cs10 BK152.out; have hfz7_0_ := blk_frozen BK152.out
    go_wp2
    repeat (go_quiet (fail); try go_wp2)
    go_meet
    case rel => exact ⟨_, (true), (by first | rfl | (simp; done) | (simp [*]; done)), H', ⟨by first | omega | exact Nat.le_refl _⟩, ⟨kz BK152⟩, ⟨bz HB⟩⟩
   ·rw [if_neg c6] at H
    have c6b0 : decide (40 < (l0_8.length : Int)) = false := decide_eq_false c6; have c6b1 : decide (40 < l0_8.length) = false := decide_eq_false (by omega); clear c6
    by_cases c8 : a0_4 > 7
    ·rw [if_pos c8] at H
     have c8b0 : decide (7 < a0_4) = true := decide_eq_true c8; clear c8; have H' := Aside0.mk H; clear H; have hcz9_0_ := cs10 BK152.out; have hfz9_0_ := blk_frozen BK152.out
     go_wp2
     repeat (go_quiet (fail); try go_wp2)
     go_meet
     case rel => exact ⟨_, (true), (by first | rfl | (simp; done) | (simp [*]; done)), H', ⟨by first | omega | exact Nat.le_refl _⟩, ⟨kz BK152⟩, ⟨bz HB⟩⟩
    ·rw [if_neg c8] at H
     have c8b0 : decide (7 < a0_4) = false := decide_eq_false c8; clear c8; have H' := Aside0.mk H; clear H; have hcz10_0_ := cs10 BK152.out; have hfz10_0_ := blk_frozen BK152.out
     go_wp2
     repeat (go_quiet (fail); try go_wp2)
     go_meet
     case rel => exact ⟨_, (decide (a0_5 > 8191)), (by first | rfl | (simp; done) | (simp [*]; done)), H', ⟨by first | omega | exact Nat.le_refl _⟩, ⟨kz BK152⟩, ⟨bz HB⟩⟩
  ·rw [if_neg c5] at H
   have c5b0 : (((l0_8.length : Int) % 4) == 0) = false := beq_eq_false_iff_ne.mpr c5; have c5b1 : (((l0_8.length : Int) % 4) != 0) = true := bne_iff_ne.mpr c5
   (first | rw [c5b0] | (simp only [i64_w, i32_w]; rw [c5b0]) | skip)
   have H' := Aside0.mk H; clear H; have hcz11_0_ := cs10 BK152.out; have hfz11_0_ := blk_frozen BK152.out
   go_wp2
   repeat (go_quiet (fail); try go_wp2)
   go_meet
   case rel => exact ⟨_, (true), (by first | rfl | (simp; done) | (simp [*]; done)), H', ⟨by first | omega | exact Nat.le_refl _⟩, ⟨kz BK152⟩, ⟨bz HB⟩⟩
 case rest =>
  clear HC2
  try clear hcz4_0
  try clear hcz4_1
  try clear hcz4_2
  try clear hcz4_3
  try clear hcz4_4
  try clear hcz4_5
  try clear hcz4_6
  try clear hcz4_7
  try clear hcz4_8
  try clear hcz4_9
  try clear hfz4_0
  try clear hfz4_1
  try clear hfz4_2
  try clear hfz4_3
  try clear hfz4_4
  try clear hfz4_5
  try clear hfz4_6
  try clear hfz4_7
  try clear hfz4_8
  try clear hfz4_9
  obtain ⟨kq, x15_1, rfl, HA, HJ1, BK152, HB⟩ := hcut
  cases kq with
  | zero => exact absurd HA.out (by simp [ip_Bytes.j0])
  | succ kj1 =>
   have H := HA.out; clear HA; simp only [ip_Bytes.j0] at H
   by_cases c12 : x15_1 = true
   ·subst c12
    have H1 : (some (([] : List Int), 21)) = some (r1, r2) := by rw [if_pos rfl] at H; exact H
    clear H; have H := H1; clear H1; simp only [Option.some.injEq, Prod.mk.injEq] at H
    obtain ⟨rfl, rfl⟩ := H
    go_wp2
    repeat (go_quiet (fail); try go_wp2)
    go_ret2
    exact ⟨_, by first | rfl | (simp [errW_none, errW_some] <;> rfl) | (simp [*, errW_none, errW_some] <;> rfl), by first | exact Kd.R_nil _ _ _ _ _ | exact Kd.N_nil _ _ _ _ _ | exact Kd.V_nil _ _ _ _ _ | exact Kd.Q_nil _ _ _ _ _ | exact Kd.S_nil _ _ _ _ _, bz HB⟩
   ·replace c12 := Bool.eq_false_iff.mpr c12
    subst c12; have H1 : (if (l0_9.length : Int) > (wrap64 (65535 - (wrap64 (20 + (l0_8.length : Int))))) then (some (([] : List Int), 23)) else ((some (([a0_6, a0_7] : List Int) : List Int)).bind fun y156 => (ip_Bytes.l0 kj1 (([Go.bits .or .u8 64 ((wrap64 (Int.tdiv (wrap64 (20 + (l0_8.length : Int))) 4)) % 256), a0_0, ((wrap64 ((wrap64 (20 + (l0_8.length : Int))) + (l0_9.length : Int))) / 256) % 256, (wrap64 ((wrap64 (20 + (l0_8.length : Int))) + (l0_9.length : Int))) % 256, (a0_3 / 256) % 256, (a0_3) % 256, ((Go.bits .or .u16 (IntKind.u16.wrap ((IntKind.u16.wrap (a0_4)) * 8192)) a0_5) / 256) % 256, (Go.bits .or .u16 (IntKind.u16.wrap ((IntKind.u16.wrap (a0_4)) * 8192)) a0_5) % 256, a0_1, a0_2, 0, 0] : List Int)) y156 (y156.length : Int) 0 a0_0 a0_1 a0_2 a0_3 a0_4 a0_5 a0_6 a0_7 l0_8 l0_9))) = some (r1, r2) := by rw [if_neg (show ¬ (false = true) by decide)] at H; exact H
    clear H; have H := H1; clear H1
    by_cases c13 : (l0_9.length : Int) > (wrap64 (65535 - (wrap64 (20 + (l0_8.length : Int)))))
    ·rw [if_pos c13] at H
     have c13b0 : decide ((wrap64 (65535 - (wrap64 (20 + (l0_8.length : Int))))) < (l0_9.length : Int)) = true := decide_eq_true c13; clear c13; simp only [Option.some.injEq, Prod.mk.injEq] at H
     obtain ⟨rfl, rfl⟩ := H; have hcz14_0_ := cs10 BK152.out; have hfz14_0_ := blk_frozen BK152.out
     go_wp2
     repeat (go_quiet (fail); try go_wp2)
     go_ret2
     exact ⟨_, by first | rfl | (simp [errW_none, errW_some] <;> rfl) | (simp [*, errW_none, errW_some] <;> rfl), by first | exact Kd.R_nil _ _ _ _ _ | exact Kd.N_nil _ _ _ _ _ | exact Kd.V_nil _ _ _ _ _ | exact Kd.Q_nil _ _ _ _ _ | exact Kd.S_nil _ _ _ _ _, bz HB⟩
    ·rw [if_neg c13] at H
     have c13b0 : decide ((wrap64 (65535 - (wrap64 (20 + (l0_8.length : Int))))) < (l0_9.length : Int)) = false := decide_eq_false c13; clear c13; obtain ⟨y153, hy153⟩ : ∃ y_ : List Int, y_ = (([Go.bits .or .u8 64 ((wrap64 (Int.tdiv (wrap64 (20 + (l0_8.length : Int))) 4)) % 256), a0_0, ((wrap64 ((wrap64 (20 + (l0_8.length : Int))) + (l0_9.length : Int))) / 256) % 256, (wrap64 ((wrap64 (20 + (l0_8.length : Int))) + (l0_9.length : Int))) % 256, (a0_3 / 256) % 256, (a0_3) % 256, ((Go.bits .or .u16 (IntKind.u16.wrap ((IntKind.u16.wrap (a0_4)) * 8192)) a0_5) / 256) % 256, (Go.bits .or .u16 (IntKind.u16.wrap ((IntKind.u16.wrap (a0_4)) * 8192)) a0_5) % 256, a0_1, a0_2, 0, 0] : List Int)) := ⟨_, rfl⟩
     rw [<- hy153] at H
     have Ny153 := Aside0.mk hy153; clear hy153; obtain ⟨y156, hy156⟩ : ∃ y_ : List Int, y_ = (([a0_6, a0_7] : List Int)) := ⟨_, rfl⟩
     rw [<- hy156] at H
     have Ny156 := Aside0.mk hy156; clear hy156; have H' := Aside0.mk H; clear H; have hcz15_0_ := cs10 BK152.out; have hfz15_0_ := blk_frozen BK152.out
     go_wp2_with (first | ((with_reducible refine gate_dst (N := 88) rfl ?_); (try (refine gate_guard (by rfl) ?_; dsimp only)); refine Kd.R_lit (Kd.int .u32) _ 27 ?hg (N := 88) ?hd (xs := ([a0_6, a0_7] : List Int)) (inner := [.int .u32 a0_6, .int .u32 a0_7]) (ok := fun _ => True) (okp := fun _ => True) ?hr ?hp (fun _ hk => hk) trivial (Below.refl _ _) (Nat.le_refl _) (by simp) ?_; (case hd => rfl); (case hg => rfl); (case hr => first | (go_simp; done) | (go_simp; rfl)); (case hp => exact (Reps.one (show Kd.M (Kd.int .u32) _ _ _ a0_6 [.int .u32 a0_6] from rfl) (Reps.one (show Kd.M (Kd.int .u32) _ _ _ a0_7 [.int .u32 a0_7] from rfl) (Reps.none _ _)))); intro v157 w19 ho20 hb hg_ hnew_; clear hg_ hnew_; (first | rw [<- Ny156.out] at ho20 | (simp only [Int.reduceToNat] at ho20; rw [<- Ny156.out] at ho20)); have n0_ := Aside0.mk (Kd.R_below (Kd.rz HO155) hb); have n1_ := Aside0.mk (Kd.R_lower ho20 (below_size (bz HB))); have n2_ := Aside0.mk (blk_below (kz BK152) hb); have n3_ := Aside0.mk (below_step (bz HB) hb); clear HO155; clear BK152; clear HB; have HO155 := n0_; have HO158 := n1_; have BK152 := n2_; have HB := n3_; clear n0_ n1_ n2_ n3_; clear hb ho20; obtain ⟨Ao21, co21, eo21⟩ := Kd.R_slice HO158.out; subst eo21))
     repeat (go_quiet (first | ((with_reducible refine gate_dst (N := 88) rfl ?_); (try (refine gate_guard (by rfl) ?_; dsimp only)); refine Kd.R_lit (Kd.int .u32) _ 27 ?hg (N := 88) ?hd (xs := ([a0_6, a0_7] : List Int)) (inner := [.int .u32 a0_6, .int .u32 a0_7]) (ok := fun _ => True) (okp := fun _ => True) ?hr ?hp (fun _ hk => hk) trivial (Below.refl _ _) (Nat.le_refl _) (by simp) ?_; (case hd => rfl); (case hg => rfl); (case hr => first | (go_simp; done) | (go_simp; rfl)); (case hp => exact (Reps.one (show Kd.M (Kd.int .u32) _ _ _ a0_6 [.int .u32 a0_6] from rfl) (Reps.one (show Kd.M (Kd.int .u32) _ _ _ a0_7 [.int .u32 a0_7] from rfl) (Reps.none _ _)))); intro v157 w19 ho20 hb hg_ hnew_; clear hg_ hnew_; (first | rw [<- Ny156.out] at ho20 | (simp only [Int.reduceToNat] at ho20; rw [<- Ny156.out] at ho20)); have n0_ := Aside0.mk (Kd.R_below (Kd.rz HO155) hb); have n1_ := Aside0.mk (Kd.R_lower ho20 (below_size (bz HB))); have n2_ := Aside0.mk (blk_below (kz BK152) hb); have n3_ := Aside0.mk (below_step (bz HB) hb); clear HO155; clear BK152; clear HB; have HO155 := n0_; have HO158 := n1_; have BK152 := n2_; have HB := n3_; clear n0_ n1_ n2_ n3_; clear hb ho20; obtain ⟨Ao21, co21, eo21⟩ := Kd.R_slice HO158.out; subst eo21)); try go_wp2_with (first | ((with_reducible refine gate_dst (N := 83) rfl ?_); (try (refine gate_guard (by rfl) ?_; dsimp only)); refine Kd.R_lit (Kd.int .u8) _ 5 ?hg (N := 83) ?hd (xs := ([Go.bits .or .u8 64 ((wrap64 (Int.tdiv (wrap64 (20 + (l0_8.length : Int))) 4)) % 256), a0_0, ((wrap64 ((wrap64 (20 + (l0_8.length : Int))) + (l0_9.length : Int))) / 256) % 256, (wrap64 ((wrap64 (20 + (l0_8.length : Int))) + (l0_9.length : Int))) % 256, (a0_3 / 256) % 256, (a0_3) % 256, ((Go.bits .or .u16 (IntKind.u16.wrap ((IntKind.u16.wrap (a0_4)) * 8192)) a0_5) / 256) % 256, (Go.bits .or .u16 (IntKind.u16.wrap ((IntKind.u16.wrap (a0_4)) * 8192)) a0_5) % 256, a0_1, a0_2, 0, 0] : List Int)) (inner := [.int .u8 (Go.bits .or .u8 64 ((wrap64 (Int.tdiv (wrap64 (20 + (l0_8.length : Int))) 4)) % 256)), .int .u8 a0_0, .int .u8 (((wrap64 ((wrap64 (20 + (l0_8.length : Int))) + (l0_9.length : Int))) / 256) % 256), .int .u8 ((wrap64 ((wrap64 (20 + (l0_8.length : Int))) + (l0_9.length : Int))) % 256), .int .u8 ((a0_3 / 256) % 256), .int .u8 ((a0_3) % 256), .int .u8 (((Go.bits .or .u16 (IntKind.u16.wrap ((IntKind.u16.wrap (a0_4)) * 8192)) a0_5) / 256) % 256), .int .u8 ((Go.bits .or .u16 (IntKind.u16.wrap ((IntKind.u16.wrap (a0_4)) * 8192)) a0_5) % 256), .int .u8 a0_1, .int .u8 a0_2, .int .u8 0, .int .u8 0]) (ok := fun _ => True) (okp := fun _ => True) ?hr ?hp (fun _ hk => hk) trivial (Below.refl _ _) (Nat.le_refl _) (by simp) ?_; (case hd => rfl); (case hg => rfl); (case hr => first | (go_simp; done) | (go_simp; simp only [IntKind.wrap_u8, IntKind.wrap_u16, IntKind.wrap_u32]; done) | (go_simp; rfl)); (case hp => exact (Reps.one (show Kd.M (Kd.int .u8) _ _ _ (Go.bits .or .u8 64 ((wrap64 (Int.tdiv (wrap64 (20 + (l0_8.length : Int))) 4)) % 256)) [.int .u8 (Go.bits .or .u8 64 ((wrap64 (Int.tdiv (wrap64 (20 + (l0_8.length : Int))) 4)) % 256))] from rfl) (Reps.one (show Kd.M (Kd.int .u8) _ _ _ a0_0 [.int .u8 a0_0] from rfl) (Reps.one (show Kd.M (Kd.int .u8) _ _ _ (((wrap64 ((wrap64 (20 + (l0_8.length : Int))) + (l0_9.length : Int))) / 256) % 256) [.int .u8 (((wrap64 ((wrap64 (20 + (l0_8.length : Int))) + (l0_9.length : Int))) / 256) % 256)] from rfl) (Reps.one (show Kd.M (Kd.int .u8) _ _ _ ((wrap64 ((wrap64 (20 + (l0_8.length : Int))) + (l0_9.length : Int))) % 256) [.int .u8 ((wrap64 ((wrap64 (20 + (l0_8.length : Int))) + (l0_9.length : Int))) % 256)] from rfl) (Reps.one (show Kd.M (Kd.int .u8) _ _ _ ((a0_3 / 256) % 256) [.int .u8 ((a0_3 / 256) % 256)] from rfl) (Reps.one (show Kd.M (Kd.int .u8) _ _ _ ((a0_3) % 256) [.int .u8 ((a0_3) % 256)] from rfl) (Reps.one (show Kd.M (Kd.int .u8) _ _ _ (((Go.bits .or .u16 (IntKind.u16.wrap ((IntKind.u16.wrap (a0_4)) * 8192)) a0_5) / 256) % 256) [.int .u8 (((Go.bits .or .u16 (IntKind.u16.wrap ((IntKind.u16.wrap (a0_4)) * 8192)) a0_5) / 256) % 256)] from rfl) (Reps.one (show Kd.M (Kd.int .u8) _ _ _ ((Go.bits .or .u16 (IntKind.u16.wrap ((IntKind.u16.wrap (a0_4)) * 8192)) a0_5) % 256) [.int .u8 ((Go.bits .or .u16 (IntKind.u16.wrap ((IntKind.u16.wrap (a0_4)) * 8192)) a0_5) % 256)] from rfl) (Reps.one (show Kd.M (Kd.int .u8) _ _ _ a0_1 [.int .u8 a0_1] from rfl) (Reps.one (show Kd.M (Kd.int .u8) _ _ _ a0_2 [.int .u8 a0_2] from rfl) (Reps.one (show Kd.M (Kd.int .u8) _ _ _ 0 [.int .u8 0] from rfl) (Reps.one (show Kd.M (Kd.int .u8) _ _ _ 0 [.int .u8 0] from rfl) (Reps.none _ _)))))))))))))); intro v154 w16 ho17 hb hg_ hnew_; clear hg_ hnew_; (first | rw [<- Ny153.out] at ho17 | (simp only [Int.reduceToNat] at ho17; rw [<- Ny153.out] at ho17)); have n0_ := Aside0.mk (Kd.R_lower ho17 (below_size (bz HB))); have n1_ := Aside0.mk (blk_below (kz BK152) hb); have n2_ := Aside0.mk (below_step (bz HB) hb); clear BK152; clear HB; have HO155 := n0_; have BK152 := n1_; have HB := n2_; clear n0_ n1_ n2_; clear hb ho17; have hcz18_0 : w16.cell? ⟨gb152, 0, none⟩ = some (.int .u8 a0_0) := cz BK152.out 0 rfl; have hcz18_1 : w16.cell? ⟨gb152, 1, none⟩ = some (.int .u8 a0_1) := cz BK152.out 1 rfl; have hcz18_2 : w16.cell? ⟨gb152, 2, none⟩ = some (.int .u8 a0_2) := cz BK152.out 2 rfl; have hcz18_3 : w16.cell? ⟨gb152, 3, none⟩ = some (.int .u16 a0_3) := cz BK152.out 3 rfl; have hcz18_4 : w16.cell? ⟨gb152, 4, none⟩ = some (.int .u8 a0_4) := cz BK152.out 4 rfl; have hcz18_5 : w16.cell? ⟨gb152, 5, none⟩ = some (.int .u16 a0_5) := cz BK152.out 5 rfl; have hcz18_6 : w16.cell? ⟨gb152, 6, none⟩ = some (.int .u32 a0_6) := cz BK152.out 6 rfl; have hcz18_7 : w16.cell? ⟨gb152, 7, none⟩ = some (.int .u32 a0_7) := cz BK152.out 7 rfl; have hcz18_8 : w16.cell? ⟨gb152, 8, none⟩ = some (.slice A0_8 l0_8.length c0_8) := cz BK152.out 8 rfl; have hcz18_9 : w16.cell? ⟨gb152, 9, none⟩ = some (.slice A0_9 l0_9.length c0_9) := cz BK152.out 9 rfl; have hfz18_0 := blk_frozen BK152.out 0; have hfz18_1 := blk_frozen BK152.out 1; have hfz18_2 := blk_frozen BK152.out 2; have hfz18_3 := blk_frozen BK152.out 3; have hfz18_4 := blk_frozen BK152.out 4; have hfz18_5 := blk_frozen BK152.out 5; have hfz18_6 := blk_frozen BK152.out 6; have hfz18_7 := blk_frozen BK152.out 7; have hfz18_8 := blk_frozen BK152.out 8; have hfz18_9 := blk_frozen BK152.out 9) | ((with_reducible refine gate_dst (N := 88) rfl ?_); (try (refine gate_guard (by rfl) ?_; dsimp only)); refine Kd.R_lit (Kd.int .u32) _ 27 ?hg (N := 88) ?hd (xs := ([a0_6, a0_7] : List Int)) (inner := [.int .u32 a0_6, .int .u32 a0_7]) (ok := fun _ => True) (okp := fun _ => True) ?hr ?hp (fun _ hk => hk) trivial (Below.refl _ _) (Nat.le_refl _) (by simp) ?_; (case hd => rfl); (case hg => rfl); (case hr => first | (go_simp; done) | (go_simp; rfl)); (case hp => exact (Reps.one (show Kd.M (Kd.int .u32) _ _ _ a0_6 [.int .u32 a0_6] from rfl) (Reps.one (show Kd.M (Kd.int .u32) _ _ _ a0_7 [.int .u32 a0_7] from rfl) (Reps.none _ _)))); intro v157 w19 ho20 hb hg_ hnew_; clear hg_ hnew_; (first | rw [<- Ny156.out] at ho20 | (simp only [Int.reduceToNat] at ho20; rw [<- Ny156.out] at ho20)); have n0_ := Aside0.mk (Kd.R_below (Kd.rz HO155) hb); have n1_ := Aside0.mk (Kd.R_lower ho20 (below_size (bz HB))); have n2_ := Aside0.mk (blk_below (kz BK152) hb); have n3_ := Aside0.mk (below_step (bz HB) hb); clear HO155; clear BK152; clear HB; have HO155 := n0_; have HO158 := n1_; have BK152 := n2_; have HB := n3_; clear n0_ n1_ n2_ n3_; clear hb ho20; obtain ⟨Ao21, co21, eo21⟩ := Kd.R_slice HO158.out; subst eo21)))
     go_loopg [7, 90] kj1 (fun kq v7 v90 w' => ∃ (x7_2 : List Int) (x90_2 : Int), v90 = .int .i64 x90_2 /\ Aside0 (ip_Bytes.l0 kq x7_2 y156 (y156.length : Int) x90_2 a0_0 a0_1 a0_2 a0_3 a0_4 a0_5 a0_6 a0_7 l0_8 l0_9 = some (r1, r2)) /\ Aside0 (kq <= kj1) /\ Aside0 (Kd.R (Kd.int .u8) 5 w' w.heap.size (fun _ => True) v7 x7_2) /\ Aside0 (Kd.R (Kd.int .u32) 27 w' w.heap.size (fun _ => True) (.slice Ao21 y156.length co21) y156) /\ Aside0 (w'.heap[gb152]? = some (.cells #[.int .u8 a0_0, .int .u8 a0_1, .int .u8 a0_2, .int .u16 a0_3, .int .u8 a0_4, .int .u16 a0_5, .int .u32 a0_6, .int .u32 a0_7, (.slice A0_8 l0_8.length c0_8), (.slice A0_9 l0_9.length c0_9)] 73 (0, 0))) /\ Aside0 (Below w.heap.size w w'))
     case atStart => exact ⟨(y153), (0), (by first | rfl | (simp; done) | (simp [*]; done)), H', ⟨Nat.le_refl _⟩, ⟨Kd.rz HO155⟩, ⟨Kd.rz HO158⟩, ⟨kz BK152⟩, ⟨bz HB⟩⟩
     case round =>
      clear H'
      try clear c12
      try clear c13
      try clear c13b0
      try clear hcz15_0_
      try clear hcz18_0
      try clear hcz18_1
      try clear hcz18_2
      try clear hcz18_3
      try clear hcz18_4
      try clear hcz18_5
      try clear hcz18_6
      try clear hcz18_7
      try clear hcz18_8
      try clear hcz18_9
      try clear hcz4_0
      try clear hcz4_1
      try clear hcz4_2
      try clear hcz4_3
      try clear hcz4_4
      try clear hcz4_5
      try clear hcz4_6
      try clear hcz4_7
      try clear hcz4_8
      try clear hcz4_9
      try clear hfz15_0_
      try clear hfz18_0
      try clear hfz18_1
      try clear hfz18_2
      try clear hfz18_3
      try clear hfz18_4
      try clear hfz18_5
      try clear hfz18_6
      try clear hfz18_7
      try clear hfz18_8
      try clear hfz18_9
      try clear hfz4_0
      try clear hfz4_1
      try clear hfz4_2
      try clear hfz4_3
      try clear hfz4_4
      try clear hfz4_5
      try clear hfz4_6
      try clear hfz4_7
      try clear hfz4_8
      try clear hfz4_9
      obtain ⟨x7_2, x90_2, rfl, HA, HK2, HO_7, HO_88, BK152, HB⟩ := hrel
      cases gk with
      | zero => exact absurd HA.out (by simp [ip_Bytes.l0])
      | succ k2 =>
       have H := HA.out; clear HA; simp only [ip_Bytes.l0] at H
       by_cases c22 : x90_2 < (y156.length : Int)
       ·rw [if_pos c22] at H
        have c22b0 : decide (x90_2 < (y156.length : Int)) = true := decide_eq_true c22; clear c22
        by_cases c23 : 0 <= x90_2
        ·rw [if_pos c23] at H
         have c23b0 : decide (0 <= x90_2) = true := decide_eq_true c23; clear c23
         by_cases c24 : x90_2 < (y156.length : Int)
         ·rw [if_pos c24] at H
          have c24b0 : decide (x90_2 < (y156.length : Int)) = true := decide_eq_true c24; clear c24; obtain ⟨y160, hy160⟩ : ∃ y_ : List Int, y_ = (([((rd y156 x90_2) / 16777216) % 256, ((rd y156 x90_2) / 65536) % 256, ((rd y156 x90_2) / 256) % 256, (rd y156 x90_2) % 256] : List Int)) := ⟨_, rfl⟩
          replace H : (if x7_2.length + y160.length < 140737488355328 then (ip_Bytes.l0 k2 (x7_2 ++ y160) y156 (y156.length : Int) (wrap64 (x90_2 + 1)) a0_0 a0_1 a0_2 a0_3 a0_4 a0_5 a0_6 a0_7 l0_8 l0_9) else (none)) = some (r1, r2) := by first | (rw [hy160]; with_reducible exact H) | (have H2_ := (Option.bind_some _ _).symm.trans H; rw [hy160]; with_reducible exact H2_) | (have H2_ := (Option.bind_some _ _).symm.trans H; with_reducible exact H2_) | with_reducible exact H | (rw [hy160]; exact H) | exact H
          have Ny160 := Aside0.mk hy160; clear hy160
          by_cases c25 : x7_2.length + y160.length < 140737488355328
          ·rw [if_pos c25] at H
           have LMc25 := Aside0.mk c25; clear c25; obtain ⟨y163, hy163⟩ : ∃ y_ : List Int, y_ = (x7_2 ++ y160) := ⟨_, rfl⟩
           replace H : (ip_Bytes.l0 k2 y163 y156 (y156.length : Int) (wrap64 (x90_2 + 1)) a0_0 a0_1 a0_2 a0_3 a0_4 a0_5 a0_6 a0_7 l0_8 l0_9) = some (r1, r2) := by first | (rw [hy163]; with_reducible exact H) | (have H2_ := (Option.bind_some _ _).symm.trans H; rw [hy163]; with_reducible exact H2_) | (have H2_ := (Option.bind_some _ _).symm.trans H; with_reducible exact H2_) | with_reducible exact H | (rw [hy163]; exact H) | exact H
           have Ny163 := Aside0.mk hy163; clear hy163; have H' := Aside0.mk H; clear H; have p159 : 0 <= (x90_2 : Int) := odt; have q159 : x90_2 < (y156.length : Int) := odt; obtain ⟨ad159, e159, hx159_0⟩ := Kd.at_int (Kd.R_reads' HO_88.out).2.2 x90_2 p159 q159
           cases e159
           replace p159 := eq_true p159; replace q159 := eq_true q159
           go_wp2_with (first | ((with_reducible refine gate_dst (N := 106) rfl ?_); (try (refine gate_guard (by rfl) ?_; dsimp only)); refine Kd.R_lit (Kd.int .u8) _ 5 ?hg (N := 106) ?hd (xs := ([((rd y156 x90_2) / 16777216) % 256, ((rd y156 x90_2) / 65536) % 256, ((rd y156 x90_2) / 256) % 256, (rd y156 x90_2) % 256] : List Int)) (inner := [.int .u8 (((rd y156 x90_2) / 16777216) % 256), .int .u8 (((rd y156 x90_2) / 65536) % 256), .int .u8 (((rd y156 x90_2) / 256) % 256), .int .u8 ((rd y156 x90_2) % 256)]) (ok := fun _ => True) (okp := fun _ => True) ?hr ?hp (fun _ hk => hk) trivial (Below.refl _ _) (Nat.le_refl _) (by simp) ?_; (case hd => rfl); (case hg => rfl); (case hr => first | (go_simp; done) | (go_simp; simp only [IntKind.wrap_u8, IntKind.wrap_u16, IntKind.wrap_u32]; done) | (go_simp; rfl)); (case hp => exact (Reps.one (show Kd.M (Kd.int .u8) _ _ _ (((rd y156 x90_2) / 16777216) % 256) [.int .u8 (((rd y156 x90_2) / 16777216) % 256)] from rfl) (Reps.one (show Kd.M (Kd.int .u8) _ _ _ (((rd y156 x90_2) / 65536) % 256) [.int .u8 (((rd y156 x90_2) / 65536) % 256)] from rfl) (Reps.one (show Kd.M (Kd.int .u8) _ _ _ (((rd y156 x90_2) / 256) % 256) [.int .u8 (((rd y156 x90_2) / 256) % 256)] from rfl) (Reps.one (show Kd.M (Kd.int .u8) _ _ _ ((rd y156 x90_2) % 256) [.int .u8 ((rd y156 x90_2) % 256)] from rfl) (Reps.none _ _)))))); intro v161 w26 ho27 hb hg_ hnew_; clear hg_ hnew_; (first | rw [<- Ny160.out] at ho27 | (simp only [Int.reduceToNat] at ho27; rw [<- Ny160.out] at ho27)); have n0_ := Aside0.mk (Kd.R_elder' (Kd.rz HO_7) (Kd.R_base ho27) hb); have n1_ := Aside0.mk (Kd.R_below (Kd.rz HO_88) hb); have n2_ := Aside0.mk (Kd.R_lower (Kd.R_new' ho27 (Kd.R_lt (Kd.rz HO_7))) (below_size (bz HB))); have n3_ := Aside0.mk (blk_below (kz BK152) hb); have n4_ := Aside0.mk (below_step (bz HB) hb); clear HO_7; clear HO_88; clear BK152; clear HB; have HO_7 := n0_; have HO_88 := n1_; have HO162 := n2_; have BK152 := n3_; have HB := n4_; clear n0_ n1_ n2_ n3_ n4_; clear hb ho27; obtain ⟨Ao29, co29, eo29⟩ := Kd.R_slice HO162.out; subst eo29) | ((with_reducible refine gate_builtin (b := .append) (xs := #[.tmp 94, .tmp 106]) rfl ?_); (try (refine gate_guard (by rfl) ?_; dsimp only)); at_builtin; refine Kd.R_append_rows (Kd.int .u8) (w0 := w) w.heap.size rfl (.tmp 94) (.tmp 106) 23 5 (.int .u8 0) 1 rfl Try.underlying23 info5 rfl (by decide) (by omega) u7 x7_2 y160 _ _ _ (fun k_ => some k_ ≠ (.slice Ao29 y160.length co29 : Value).ownBlock) (fun _ => False) rfl rfl ?aO ?aR (fun _ _ h => h) (fun _ h => h.elim) ?aF ?aB ?aS ?aL ?_; (case aR => repeat (first | exact (Kd.R_reads' HO162.out).2.2 | (with_reducible refine Kd.C_alloc ?_ _) | (with_reducible refine Kd.C_drewN ?_ _) | (with_reducible refine Kd.C_drew ?_))); (case aB => exact bz HB); (case aF => exact (fun k_ hk => Kd.fresh' (Kd.R_lt (Kd.rz HO162)) k_ hk)); (case aO => exact (by (with_reducible repeat (first | apply Kd.R_alloc | apply Kd.R_drewN | apply Kd.R_drew)); exact Kd.R_mono HO_7.out (fun _ hk => hk.2))); (case aS => exact (below_size (bz HB))); (case aL => have := LMc25.out; omega); intro v164 w28 ho hb hg hat; rw [<- Ny163.out] at ho; have n0_ := Aside0.mk (Kd.R_over' (Kd.rz HO_88) (Kd.R_typed (Kd.rz HO_7)) (by decide) hg); have n1_ := Aside0.mk (blk_grown (kz BK152) hg (Kd.R_ne HO_7.out BK152.out (by decide))); have n2_ := Aside0.mk (Kd.R_after (ok := (fun _ => True)) (Kd.rz HO162) hg hat); have n3_ := Aside0.mk (hb); have n4_ := Aside0.mk (ho); clear HO_88; clear BK152; clear HO162; clear HB; clear HO_7; have HO_88 := n0_; have BK152 := n1_; have HO162 := n2_; have HB := n3_; have HO165 := n4_; clear n0_ n1_ n2_ n3_ n4_; clear ho hb hg hat))
           go_roundg k2
           case measure => have := HJ1.out; have := HK2.out; omega
           case rel => exact ⟨(y163), (wrap64 (x90_2 + 1)), (by first | rfl | (simp; done) | (simp [*]; done)), H', ⟨by have := HJ1.out; have := HK2.out; omega⟩, ⟨by (with_reducible repeat (first | apply Kd.R_alloc | apply Kd.R_drewN | apply Kd.R_drew)); exact Kd.R_mono HO165.out (fun _ hk => trivial)⟩, ⟨Kd.rz HO_88⟩, ⟨kz BK152⟩, ⟨bz HB⟩⟩
          ·rw [if_neg c25] at H
           exact absurd H (by simp)
         ·rw [if_neg c24] at H
          exact absurd H (by simp)
        ·rw [if_neg c23] at H
         exact absurd H (by simp)
       ·rw [if_neg c22] at H
        have c22b0 : decide (x90_2 < (y156.length : Int)) = false := decide_eq_false c22; clear c22
        by_cases c30 : x7_2.length + l0_8.length < 140737488355328
        ·rw [if_pos c30] at H
         have LMc30 := Aside0.mk c30; clear c30; obtain ⟨y166, hy166⟩ : ∃ y_ : List Int, y_ = (x7_2 ++ l0_8) := ⟨_, rfl⟩
         replace H : ((sum_Of.f k2 y166).bind fun t169 => (if 10 < (y166.length : Int) then (if 11 < (y166.length : Int) then ((some ((y166.set (10 : Int).toNat ((t169 / 256) % 256)).set (11 : Int).toNat ((t169) % 256) : List Int)).bind fun y171 => (if y171.length + l0_9.length < 140737488355328 then (some ((y171 ++ l0_9), 0)) else (none))) else (none)) else (none))) = some (r1, r2) := by first | (rw [hy166]; with_reducible exact H) | (have H2_ := (Option.bind_some _ _).symm.trans H; rw [hy166]; with_reducible exact H2_) | (have H2_ := (Option.bind_some _ _).symm.trans H; with_reducible exact H2_) | with_reducible exact H | (rw [hy166]; exact H) | exact H
         have Ny166 := Aside0.mk hy166; clear hy166; replace H := Option.bind_eq_some_iff.mp H; obtain ⟨t169, A310, H⟩ := H; replace H : (if 10 < (y166.length : Int) then (if 11 < (y166.length : Int) then ((some ((y166.set (10 : Int).toNat ((t169 / 256) % 256)).set (11 : Int).toNat ((t169) % 256) : List Int)).bind fun y171 => (if y171.length + l0_9.length < 140737488355328 then (some ((y171 ++ l0_9), 0)) else (none))) else (none)) else (none)) = some (r1, r2) := H; have A31 := Aside0.mk A310; clear A310
         by_cases c32 : 10 < (y166.length : Int)
         ·rw [if_pos c32] at H
          have c32b0 : decide (10 < (y166.length : Int)) = true := decide_eq_true c32; have c32b1 : decide (10 < y166.length) = true := decide_eq_true (by omega); clear c32; obtain ⟨y170, hy170⟩ : ∃ y_ : List Int, y_ = (y166.set (10 : Int).toNat ((t169 / 256) % 256)) := ⟨_, rfl⟩
          rw [<- hy170] at H
          have Ny170 := Aside0.mk hy170; clear hy170
          by_cases c34 : 11 < (y166.length : Int)
          ·rw [if_pos c34] at H
           have c34b0 : decide (11 < (y166.length : Int)) = true := decide_eq_true c34; have c34b1 : decide (11 < y166.length) = true := decide_eq_true (by omega); clear c34; obtain ⟨y171, hy171⟩ : ∃ y_ : List Int, y_ = (y170.set (11 : Int).toNat ((t169) % 256)) := ⟨_, rfl⟩
           replace H : (if y171.length + l0_9.length < 140737488355328 then (some ((y171 ++ l0_9), 0)) else (none)) = some (r1, r2) := by first | (rw [hy171]; with_reducible exact H) | (have H2_ := (Option.bind_some _ _).symm.trans H; rw [hy171]; with_reducible exact H2_) | (have H2_ := (Option.bind_some _ _).symm.trans H; with_reducible exact H2_) | with_reducible exact H | (rw [hy171]; exact H) | exact H
           have Ny171 := Aside0.mk hy171; clear hy171
           by_cases c36 : y171.length + l0_9.length < 140737488355328
           ·rw [if_pos c36] at H
            have LMc36 := Aside0.mk c36; clear c36; obtain ⟨y172, hy172⟩ : ∃ y_ : List Int, y_ = (y171 ++ l0_9) := ⟨_, rfl⟩
            replace H : (some (y172, 0)) = some (r1, r2) := by first | (rw [hy172]; with_reducible exact H) | (have H2_ := (Option.bind_some _ _).symm.trans H; rw [hy172]; with_reducible exact H2_) | (have H2_ := (Option.bind_some _ _).symm.trans H; with_reducible exact H2_) | with_reducible exact H | (rw [hy172]; exact H) | exact H
            have Ny172 := Aside0.mk hy172; clear hy172; simp only [Option.some.injEq, Prod.mk.injEq] at H
            obtain ⟨rfl, rfl⟩ := H; have hcz37_0_ := cs10 BK152.out; have hfz37_0_ := blk_frozen BK152.out
            go_wp2_with (first | ((with_reducible refine gate_builtin (b := .append) (xs := #[.tmp 109, .tmp 111]) rfl ?_); (try (refine gate_guard (by rfl) ?_; dsimp only)); at_builtin; refine Kd.R_append_rows (Kd.int .u8) (w0 := w) w.heap.size rfl (.tmp 109) (.tmp 111) 23 5 (.int .u8 0) 1 rfl Try.underlying23 info5 rfl (by decide) (by omega) u7 x7_2 l0_8 _ _ _ (fun _ => True) (fun _ => False) rfl rfl ?aO ?aR (fun _ _ h => h) (fun _ h => h.elim) ?aF ?aB ?aS ?aL ?_; (case aR => exact Kd.C_below HR0_8.out (bz HB)); (case aB => exact bz HB); (case aF => exact (fun _ _ => trivial)); (case aO => exact (Kd.rz HO_7)); (case aS => exact (below_size (bz HB))); (case aL => have := LMc30.out; omega); intro v167 w38 ho hb hg hat; rw [<- Ny166.out] at ho; have n0_ := Aside0.mk (Kd.R_over' (Kd.rz HO_88) (Kd.R_typed (Kd.rz HO_7)) (by decide) hg); have n1_ := Aside0.mk (blk_grown (kz BK152) hg (Kd.R_ne HO_7.out BK152.out (by decide))); have n2_ := Aside0.mk (hb); have n3_ := Aside0.mk (ho); clear HO_88; clear BK152; clear HB; clear HO_7; have HO_88 := n0_; have BK152 := n1_; have HB := n2_; have HO168 := n3_; clear n0_ n1_ n2_ n3_; clear ho hb hg hat; obtain ⟨Ao39, co39, eo39⟩ := Kd.R_slice HO168.out; subst eo39) | (go_at_call 90; (with_reducible refine (sum_Of.calls k2 _ _ y166 t169 _ ?side1 ?side2 A31.out).mono ?_); (case side1 => repeat (first | exact (Kd.R_reads' HO168.out).2.2 | (with_reducible refine Kd.C_alloc ?_ _) | (with_reducible refine Kd.C_drewN ?_ _) | (with_reducible refine Kd.C_drew ?_))); (case side2 => exact (Kd.R_reads' HO168.out).2.1); rintro e w40 ⟨rfl, hb⟩; have n0_ := Aside0.mk (Kd.R_below (Kd.rz HO_88) hb); have n1_ := Aside0.mk (Kd.R_below (Kd.rz HO168) hb); have n2_ := Aside0.mk (blk_below (kz BK152) hb); have n3_ := Aside0.mk (below_step (bz HB) hb); clear HO_88; clear HO168; clear BK152; clear HB; have HO_88 := n0_; have HO168 := n1_; have BK152 := n2_; have HB := n3_; clear n0_ n1_ n2_ n3_; (try clear hb); (try clear hb2); (try clear hk); (try clear hi); have p33 : 0 <= (10 : Int) := (by omega); have q33 : (10 : Int) < ((y166.length : Int) : Int) := odt; have qi33 : (10 < y166.length) = True := eq_true (by omega); obtain ⟨go33, co33, eo33, gb33, gl33, cl33, HG33⟩ := Kd.R_form HO168.out (by omega); (first | cases eo33 | (injection eo33 with ea_ en_ ec_; (first | subst ea_ | (injection ea_ with ea_; subst ea_)); subst ec_; clear en_)); have GB33 := Aside0.mk gb33; have GG33 := Aside0.mk HG33; clear gb33 gl33 HG33; obtain ⟨hx33_0, hf33_0⟩ := Kd.R_celln 0 HO168.out (10 : Int) p33 q33; (try rw [show ((10 : Int)).toNat = 10 from rfl] at hx33_0); (try simp only [Nat.reduceMul, Nat.zero_mul, Nat.zero_add, Nat.reduceAdd] at hx33_0); (try rw [show ((10 : Int)).toNat = 10 from rfl] at hf33_0); (try simp only [Nat.reduceMul, Nat.zero_mul, Nat.zero_add, Nat.reduceAdd] at hf33_0); replace p33 := eq_true p33; replace q33 := eq_true q33; obtain ⟨hy41_, hz41_⟩ := Kd.R_celln 0 HO168.out (10 : Int) (by omega) odt; (try simp only [Int.reduceToNat, Int.toNat_zero, Int.toNat_ofNat, Nat.reduceMul, Nat.zero_mul, Nat.zero_add] at hy41_ hz41_); (try rw [show ((10 : Int)).toNat = 10 from rfl] at hy41_); (try rw [show ((10 : Int)).toNat = 10 from rfl] at hz41_); have HP41 := Kd.R_putg HO168.out (10 : Int) ((t169 / 256) % 256)) | ((with_reducible refine gate_store (t := 5) (p := 122) rfl ?_); (try (rw [drewN_self w40]; generalize hq_ : World.drewN w40 _ = w40; have n0_ := Aside0.mk (Kd.R_at hq_ HO_88.out); have n1_ := Aside0.mk (Kd.R_at hq_ HO168.out); have n2_ := Aside0.mk (blk_at hq_ BK152.out); have n3_ := Aside0.mk (below_at hq_ HB.out); clear hq_ HO_88 HO168 BK152 HB; have HO_88 := n0_; have HO168 := n1_; have BK152 := n2_; have HB := n3_; clear n0_ n1_ n2_ n3_; (try (obtain ⟨hy41_, hz41_⟩ := Kd.R_celln 0 HO168.out (10 : Int) (by omega) odt)); (try (try simp only [Int.reduceToNat, Int.toNat_zero, Int.toNat_ofNat, Nat.reduceMul, Nat.zero_mul, Nat.zero_add] at hy41_ hz41_)); (try (try rw [show ((10 : Int)).toNat = 10 from rfl] at hy41_)); (try (try rw [show ((10 : Int)).toNat = 10 from rfl] at hz41_)); (try (have HP41 := Kd.R_putg HO168.out (10 : Int) ((t169 / 256) % 256))))); refine store_event (t := 5) (p := 122) (v := ?vo_w42) (w1 := (w40.setCell ⟨go33, (10 : Int).toNat, none⟩ (.int .u8 ((t169 / 256) % 256)))) ?hg ?ho ?hn ?hr ?_; (case ho => rfl); (case hg => rfl); (case hn => rfl); (case hr => first | (go_simp; done) | (go_simp; rfl)); intro w42 hw; have hg : w40.grownBy w42 (some go33) := (by rw [hw]; exact HP41.2); have hp_ : Kd.R (Kd.int .u8) 5 w42 w.heap.size (fun _ => True) (.slice (some ⟨go33, 0, none⟩) y166.length co39) y170 := (by rw [hw, Ny170.out]; exact HP41.1); clear HP41; have n0_ := Aside0.mk (Kd.R_over' (v := (.slice (some ⟨go33, 0, none⟩) y166.length co39)) (Kd.rz HO_88) (Kd.R_typed HO168.out) (by decide) hg); have n1_ := Aside0.mk (blk_grown (kz BK152) hg (Kd.R_ne HO168.out BK152.out (by decide))); have n2_ := Aside0.mk (hp_); have n3_ := Aside0.mk ((by rw [hw]; exact below_set (HB.out) GB33.out : Below w.heap.size w w42)); clear HO_88; clear BK152; clear HO168; clear HB; have HO_88 := n0_; have BK152 := n1_; have HO168 := n2_; have HB := n3_; clear n0_ n1_ n2_ n3_; clear hg hw hp_; have p35 : 0 <= (11 : Int) := (by omega); have q35 : (11 : Int) < ((y166.length : Int) : Int) := odt; have qi35 : (11 < y166.length) = True := eq_true (by omega); obtain ⟨hx35_0, hf35_0⟩ := Kd.R_celln 0 HO168.out (11 : Int) p35 q35; (try rw [show ((11 : Int)).toNat = 11 from rfl] at hx35_0); (try simp only [Nat.reduceMul, Nat.zero_mul, Nat.zero_add, Nat.reduceAdd] at hx35_0); (try rw [show ((11 : Int)).toNat = 11 from rfl] at hf35_0); (try simp only [Nat.reduceMul, Nat.zero_mul, Nat.zero_add, Nat.reduceAdd] at hf35_0); replace p35 := eq_true p35; replace q35 := eq_true q35; obtain ⟨hy43_, hz43_⟩ := Kd.R_celln 0 HO168.out (11 : Int) (by omega) odt; (try simp only [Int.reduceToNat, Int.toNat_zero, Int.toNat_ofNat, Nat.reduceMul, Nat.zero_mul, Nat.zero_add] at hy43_ hz43_); (try rw [show ((11 : Int)).toNat = 11 from rfl] at hy43_); (try rw [show ((11 : Int)).toNat = 11 from rfl] at hz43_); have HP43 := Kd.R_putg HO168.out (11 : Int) ((t169) % 256)) | ((with_reducible refine gate_store (t := 5) (p := 123) rfl ?_); (try (rw [drewN_self w42]; generalize hq_ : World.drewN w42 _ = w42; have n0_ := Aside0.mk (Kd.R_at hq_ HO_88.out); have n1_ := Aside0.mk (Kd.R_at hq_ HO168.out); have n2_ := Aside0.mk (blk_at hq_ BK152.out); have n3_ := Aside0.mk (below_at hq_ HB.out); clear hq_ HO_88 HO168 BK152 HB; have HO_88 := n0_; have HO168 := n1_; have BK152 := n2_; have HB := n3_; clear n0_ n1_ n2_ n3_; (try (obtain ⟨hy43_, hz43_⟩ := Kd.R_celln 0 HO168.out (11 : Int) (by omega) odt)); (try (try simp only [Int.reduceToNat, Int.toNat_zero, Int.toNat_ofNat, Nat.reduceMul, Nat.zero_mul, Nat.zero_add] at hy43_ hz43_)); (try (try rw [show ((11 : Int)).toNat = 11 from rfl] at hy43_)); (try (try rw [show ((11 : Int)).toNat = 11 from rfl] at hz43_)); (try (have HP43 := Kd.R_putg HO168.out (11 : Int) ((t169) % 256))))); refine store_event (t := 5) (p := 123) (v := ?vo_w44) (w1 := (w42.setCell ⟨go33, (11 : Int).toNat, none⟩ (.int .u8 ((t169) % 256)))) ?hg ?ho ?hn ?hr ?_; (case ho => rfl); (case hg => rfl); (case hn => rfl); (case hr => first | (go_simp; done) | (go_simp; rfl)); intro w44 hw; have hg : w42.grownBy w44 (some go33) := (by rw [hw]; exact HP43.2); have hp_ : Kd.R (Kd.int .u8) 5 w44 w.heap.size (fun _ => True) (.slice (some ⟨go33, 0, none⟩) y166.length co39) y171 := (by rw [hw, Ny171.out]; exact HP43.1); clear HP43; have n0_ := Aside0.mk (Kd.R_over' (v := (.slice (some ⟨go33, 0, none⟩) y166.length co39)) (Kd.rz HO_88) (Kd.R_typed HO168.out) (by decide) hg); have n1_ := Aside0.mk (blk_grown (kz BK152) hg (Kd.R_ne HO168.out BK152.out (by decide))); have n2_ := Aside0.mk (hp_); have n3_ := Aside0.mk ((by rw [hw]; exact below_set (HB.out) GB33.out : Below w.heap.size w w44)); clear HO_88; clear BK152; clear HO168; clear HB; have HO_88 := n0_; have BK152 := n1_; have HO168 := n2_; have HB := n3_; clear n0_ n1_ n2_ n3_; clear hg hw hp_; have hcz45_0 : w44.cell? ⟨gb152, 0, none⟩ = some (.int .u8 a0_0) := cz BK152.out 0 rfl; have hcz45_1 : w44.cell? ⟨gb152, 1, none⟩ = some (.int .u8 a0_1) := cz BK152.out 1 rfl; have hcz45_2 : w44.cell? ⟨gb152, 2, none⟩ = some (.int .u8 a0_2) := cz BK152.out 2 rfl; have hcz45_3 : w44.cell? ⟨gb152, 3, none⟩ = some (.int .u16 a0_3) := cz BK152.out 3 rfl; have hcz45_4 : w44.cell? ⟨gb152, 4, none⟩ = some (.int .u8 a0_4) := cz BK152.out 4 rfl; have hcz45_5 : w44.cell? ⟨gb152, 5, none⟩ = some (.int .u16 a0_5) := cz BK152.out 5 rfl; have hcz45_6 : w44.cell? ⟨gb152, 6, none⟩ = some (.int .u32 a0_6) := cz BK152.out 6 rfl; have hcz45_7 : w44.cell? ⟨gb152, 7, none⟩ = some (.int .u32 a0_7) := cz BK152.out 7 rfl; have hcz45_8 : w44.cell? ⟨gb152, 8, none⟩ = some (.slice A0_8 l0_8.length c0_8) := cz BK152.out 8 rfl; have hcz45_9 : w44.cell? ⟨gb152, 9, none⟩ = some (.slice A0_9 l0_9.length c0_9) := cz BK152.out 9 rfl; have hfz45_0 := blk_frozen BK152.out 0; have hfz45_1 := blk_frozen BK152.out 1; have hfz45_2 := blk_frozen BK152.out 2; have hfz45_3 := blk_frozen BK152.out 3; have hfz45_4 := blk_frozen BK152.out 4; have hfz45_5 := blk_frozen BK152.out 5; have hfz45_6 := blk_frozen BK152.out 6; have hfz45_7 := blk_frozen BK152.out 7; have hfz45_8 := blk_frozen BK152.out 8; have hfz45_9 := blk_frozen BK152.out 9) | ((with_reducible refine gate_builtin (b := .append) (xs := #[.tmp 124, .tmp 126]) rfl ?_); (try (refine gate_guard (by rfl) ?_; dsimp only)); at_builtin; refine Kd.R_append_rows (Kd.int .u8) (w0 := w) w.heap.size rfl (.tmp 124) (.tmp 126) 23 5 (.int .u8 0) 1 rfl Try.underlying23 info5 rfl (by decide) (by omega) (.slice (some ⟨go33, 0, none⟩) y166.length co39) y171 l0_9 _ _ _ (fun _ => True) (fun _ => False) rfl rfl ?aO ?aR (fun _ _ h => h) (fun _ h => h.elim) ?aF ?aB ?aS ?aL ?_; (case aR => exact Kd.C_below HR0_9.out (bz HB)); (case aB => exact bz HB); (case aF => exact (fun _ _ => trivial)); (case aO => exact (Kd.rz HO168)); (case aS => exact (below_size (bz HB))); (case aL => have := LMc36.out; omega); intro v173 w46 ho hb hg hat; rw [<- Ny172.out] at ho; have n0_ := Aside0.mk (Kd.R_over' (Kd.rz HO_88) (Kd.R_typed (Kd.rz HO168)) (by decide) hg); have n1_ := Aside0.mk (blk_grown (kz BK152) hg (Kd.R_ne HO168.out BK152.out (by decide))); have n2_ := Aside0.mk (hb); have n3_ := Aside0.mk (ho); clear HO_88; clear BK152; clear HB; clear HO168; have HO_88 := n0_; have BK152 := n1_; have HB := n2_; have HO174 := n3_; clear n0_ n1_ n2_ n3_; clear ho hb hg hat))
            go_ret2
            exact ⟨_, by first | rfl | (simp [errW_none, errW_some] <;> rfl) | (simp [*, errW_none, errW_some] <;> rfl), by (with_reducible repeat (first | apply Kd.R_alloc | apply Kd.R_drewN | apply Kd.R_drew)); exact HO174.out, bz HB⟩
           ·rw [if_neg c36] at H
            exact absurd H (by simp)
          ·rw [if_neg c34] at H
           exact absurd H (by simp)
         ·rw [if_neg c32] at H
          exact absurd H (by simp)
        ·rw [if_neg c30] at H
         exact absurd H (by simp)
attribute [local go_sem] inR179
attribute [local go_sem] inP179
attribute [local go_sem] inR181
attribute [local go_sem] inP181
attribute [local go_sem] inR183
attribute [local go_sem] inP183
attribute [local go_sem] inT179
attribute [local go_sem] inT181
attribute [local go_sem] inT183
attribute [local go_sem] inF179
attribute [local go_sem] inF181
attribute [local go_sem] inF183
def changeG (k : Nat) (r : LK) (si sp di dp : Int) (py : Option (List Int)) : Option (List Int × Int) :=
 if r.e = 0 then
  if r.pr = 1 /\ (0 < r.inn.length /\ ¬ (sp = 0 /\ dp = 0) \/ ¬ sp = dp) then some ([], 21)
  else py.bind fun y => ip_Bytes.f k r.a r.t r.pr r.i r.fl r.of_ si di r.o y
 else some ([], r.e)
attribute [local go_sem] inR179
attribute [local go_sem] inP179
attribute [local go_sem] inR181
attribute [local go_sem] inP181
attribute [local go_sem] inR183
attribute [local go_sem] inP183
attribute [local go_sem] inT179
attribute [local go_sem] inT181
attribute [local go_sem] inT183
attribute [local go_sem] inF179
attribute [local go_sem] inF181
attribute [local go_sem] inF183
def Change.R6.T : Bool × List (List Nat × List Nat) := (true, [([], []), ([0], [0]), ([], []), ([2], [2]), ([], []), ([], []), ([], []), ([4, 5, 6], [4, 5, 6]), ([0, 1], []), ([8, 1, 7, 0, 1], [1, 8]), ([0, 1, 2, 3, 8, 9], []), ([10, 3, 9, 0, 1, 2, 3, 8, 9], [3, 10]), ([0, 1, 2, 3, 4, 5, 6, 7, 8, 9, 10, 11], []), ([12, 7, 11, 0, 1, 2, 3, 4, 5, 6, 7, 8, 9, 10, 11], [7, 12])])
theorem Change.R6.tab : rtab .any (opsOf Try.f32 6) = Change.R6.T := by kernel_rfl
theorem Change.R6.bits : waitsOk Change.R6.T.2 [0, 1, 0, 4, 0, 0, 0, 112, 3, 499, 1023, 2047, 4095, 8191] = true := by kernel_rfl
theorem rewrite_Change.via (k : Nat) (A : Option Addr) (c : Nat) (l : List Int) (r : LK) (si ps di pd : Int) (py : Option (List Int)) (rb : List Int) (re : Int) (w : World) (hC : Kd.C (Kd.int .u8) w A l.length l) (hL : l.length <= c) (h69 : ∀ w2 : World, Kd.C (Kd.int .u8) w2 A l.length l -> Calls Try.prog 69 #[.slice A l.length c] w2 fun e w' => r.Post w2.heap.size w2 e w') (h70 : ∀ y : List Int, py = some y -> ∀ (w2 : World) (vx : Value) (base : Nat), r.x.V w2 base vx -> Calls Try.prog 70 #[vx, .agg #[.int .u32 si, .int .u16 ps], .agg #[.int .u32 di, .int .u16 pd]] w2 fun e w' => ∃ vz : Value, e = .returned vz /\ Kd.R (Kd.int .u8) 5 w' w2.heap.size (fun _ => True) vz y /\ Below w2.heap.size w2 w') (h : changeG k r si ps di pd py = some (rb, re)) :
  Calls Try.prog 32 #[.slice A l.length c, .agg #[.int .u32 si, .int .u16 ps], .agg #[.int .u32 di, .int .u16 pd]] w fun e w' => ∃ vr : Value, e = .returned (.tuple #[vr, .int .i64 re]) /\ Kd.R (Kd.int .u8) 5 w' w.heap.size (fun _ => True) vr rb /\ Below w.heap.size w w' := by
 have hu65 := Try.underlying65; have hu73 := Try.underlying73; have hu76 := Try.underlying76; unfold changeG at h
 obtain ⟨a, t, pr, i, fl, of_, s, d, o, b, x, sp, dp, ff, inn, e_⟩ := r; have HB := Aside0.mk (Below.refl w.heap.size w); have HC := Aside0.mk hC; have HL := Aside0.mk hL; have HP := Aside0.mk h69; have H70 := Aside0.mk h70; have HF := Aside0.mk h; have HI65 : Aside0 ((Try.prog.info? 65).map (·.size) = some 2) := ⟨by kernel_rfl⟩
 have HI73 : Aside0 ((Try.prog.info? 73).map (·.size) = some 10) := ⟨by kernel_rfl⟩
 have HI76 : Aside0 ((Try.prog.info? 76).map (·.size) = some 7) := ⟨by kernel_rfl⟩
 clear hC hL h h69 h70
 go_enter Try.func32, Try.ntmps32
 go_upto_region 1 with (first | ((with_reducible refine gate_dst (N := 4) rfl ?_); refine box_event ?hg_ (N := 4) ?hd_ (cs := #[.int .u32 si, .int .u16 ps]) (t := 65) ?hr_ ?_; (case hd_ => rfl); (case hg_ => rfl); (case hr_ => first | (go_simp; done) | (go_simp; rfl)); intro gs hgg_ w1 hbox_ hbb_; have GHXs := Aside0.mk (show w.heap.size <= gs by rw [hgg_]; exact below_size HB.out); have HXs := Aside0.mk hbox_; have hb_ := hbb_; replace HB := mB HB hb_; clear hb_; clear hgg_ hbox_ hbb_) | ((with_reducible refine gate_dst (N := 5) rfl ?_); refine box_event ?hg_ (N := 5) ?hd_ (cs := #[.int .u32 di, .int .u16 pd]) (t := 65) ?hr_ ?_; (case hd_ => rfl); (case hg_ => rfl); (case hr_ => first | (go_simp; done) | (go_simp; rfl)); intro gd hgg_ w2 hbox_ hbb_; have GHXd := Aside0.mk (show w.heap.size <= gd by rw [hgg_]; exact below_size HB.out); have HXd := Aside0.mk hbox_; have NE_HXs_HXd : Aside0 (gs ≠ gd) := ⟨by rw [hgg_]; exact (blk_less HXs).out⟩; have hb_ := hbb_; replace HB := mB HB hb_; replace HXs := mX HXs hb_; clear hb_; clear hgg_ hbox_ hbb_))
 go_wp2_with fail
 refine (HP.out _ (Kd.C_below HC.out HB.out)).mono ?_; rintro ev w3 hpost; obtain ⟨vo, vb, vx, vi, rfl, ho, ho2, hx, hi, hb⟩ := hpost; dsimp only at ho ho2 hx hi
 have HRo := rLow ho HB; obtain ⟨Ao, co, rfl, _, _⟩ := Kd.R_reads ho; clear ho; have HRb := rLow ho2 HB; obtain ⟨Ab, cb, rfl, _, _⟩ := Kd.R_reads ho2; clear ho2; have HRi := Aside0.mk (Kd.R_lower hi (below_size HB.out)); obtain ⟨Ai, ci, rfl, _, _⟩ := Kd.R_reads hi; clear hi; have HV := Aside0.mk hx; clear hx; have hb_ := hb; replace HB := mB HB hb_; replace HXs := mX HXs hb_; replace HXd := mX HXd hb_; clear hb_; clear hb HP
 (try dsimp only)
 go_upto_region 2 with (first | ((with_reducible refine gate_dst (N := 8) rfl ?_); refine box_event ?hg_ (N := 8) ?hd_ (cs := #[.int .u8 0, .int .u8 0, .int .u8 0, .int .u16 0, .int .u8 0, .int .u16 0, .int .u32 0, .int .u32 0, .slice none 0 0, .slice none 0 0]) (t := 73) ?hr_ ?_; (case hd_ => rfl); (case hg_ => rfl); (case hr_ => first | (go_simp; done) | (go_simp; rfl)); intro gp hgg_ w4 hbox_ hbb_; have GHXp := Aside0.mk (show w.heap.size <= gp by rw [hgg_]; exact below_size HB.out); have HXp := Aside0.mk hbox_; have hb_ := hbb_; replace HB := mB HB hb_; replace HXs := mX HXs hb_; replace HXd := mX HXd hb_; replace HRo := mR HRo hb_; replace HRb := mR HRb hb_; replace HRi := mI HRi hb_; replace HV := mV HV hb_; clear hb_; clear hgg_ hbox_ hbb_) | ((with_reducible refine gate_dst (N := 10) rfl ?_); refine box_event ?hg_ (N := 10) ?hd_ (cs := #[.int .u8 0, .int .u32 0, .int .u16 0, .int .u32 0, .int .u16 0, .int .u8 0, .slice none 0 0]) (t := 76) ?hr_ ?_; (case hd_ => rfl); (case hg_ => rfl); (case hr_ => first | (go_simp; done) | (go_simp; rfl)); intro gf hgg_ w5 hbox_ hbb_; have GHXf := Aside0.mk (show w.heap.size <= gf by rw [hgg_]; exact below_size HB.out); have HXf := Aside0.mk hbox_; have hb_ := hbb_; replace HB := mB HB hb_; replace HXs := mX HXs hb_; replace HXd := mX HXd hb_; replace HRo := mR HRo hb_; replace HRb := mR HRb hb_; replace HRi := mI HRi hb_; replace HV := mV HV hb_; replace HXp := mX HXp hb_; clear hb_; clear hgg_ hbox_ hbb_) | ((refine rw_putrow rfl rfl rfl rfl rfl HXp.out HI73.out rfl (by simp [Value.oneCell']) ?_); intro w6 hs_ off_; replace HXs := oX off_ HXs HXp (by decide); replace HXd := oX off_ HXd HXp (by decide); replace HRo := oR off_ HRo HXp (by decide); replace HRb := oR off_ HRb HXp (by decide); replace HRi := oI off_ HRi HXp (by decide); replace HV := oV off_ HV HXp (by decide); replace HXf := oX off_ HXf HXp (by decide); replace HB := oB off_ HB GHXp; clear off_; replace HXp := Aside0.mk hs_; clear hs_) | ((refine rw_putrow rfl rfl rfl rfl rfl HXf.out HI76.out rfl (by simp [Value.oneCell']) ?_); intro w7 hs_ off_; replace HXs := oX off_ HXs HXf (by decide); replace HXd := oX off_ HXd HXf (by decide); replace HRo := oR off_ HRo HXf (by decide); replace HRb := oR off_ HRb HXf (by decide); replace HRi := oI off_ HRi HXf (by decide); replace HV := oV off_ HV HXf (by decide); replace HXp := oX off_ HXp HXf (by decide); replace HB := oB off_ HB GHXf; clear off_; replace HXf := Aside0.mk hs_; clear hs_))
 have H := HF.out; clear HF
 (try dsimp only at H)
 by_cases ce : e_ = 0
 ·have ce1 : (e_ == 0) = true := beq_iff_eq.2 ce
  have ce2 : (e_ != 0) = false := by rw [bne, ce1]; rfl
  rw [if_pos ce] at H
  clear ce; have gf_0 := cz HXf.out 0 rfl; have gf_6 := cz HXf.out 6 rfl; have gs_1 := cz HXs.out 1 rfl; have gd_1 := cz HXd.out 1 rfl
  by_cases hc : pr = 1 /\ (0 < inn.length /\ ¬ (ps = 0 /\ pd = 0) \/ ¬ ps = pd)
  ·rw [if_pos hc] at H
   simp only [Option.some.injEq, Prod.mk.injEq] at H
   obtain ⟨rfl, rfl⟩ := H; have h3 : (pr = 1 /\ 0 < inn.length /\ ps = 0 /\ ¬ pd = 0) \/ (pr = 1 /\ 0 < inn.length /\ ¬ ps = 0) \/ (pr = 1 /\ ¬ 0 < inn.length /\ ¬ ps = pd) := by omega
   clear hc
   rcases h3 with ⟨np, ni, ns, nd⟩ | ⟨np, ni, ns⟩ | ⟨np, ni, ne⟩
   ·have np1 : (pr == 1) = true := beq_iff_eq.2 np; have np2 : (pr != 1) = false := (by rw [bne, np1]; rfl); have ni1 : decide (0 < (inn.length : Int)) = true := decide_eq_true (by omega); have ni2 : decide (0 < inn.length) = true := decide_eq_true (by omega); have ns1 : (ps == 0) = true := beq_iff_eq.2 ns; have ns2 : (ps != 0) = false := (by rw [bne, ns1]; rfl); have nd1 : (pd == 0) = false := beq_eq_false_iff_ne.2 nd; have nd2 : (pd != 0) = true := bne_iff_ne.2 nd; clear np ni ns nd; (try dsimp only); go_wp2; (try simp only [Exit.inBlock, Exit.then]); go_ret2; exact ⟨_, rfl, Kd.R_nil _ _ _ _ _, HB.out⟩
   ·have np1 : (pr == 1) = true := beq_iff_eq.2 np; have np2 : (pr != 1) = false := (by rw [bne, np1]; rfl); have ni1 : decide (0 < (inn.length : Int)) = true := decide_eq_true (by omega); have ni2 : decide (0 < inn.length) = true := decide_eq_true (by omega); have ns1 : (ps == 0) = false := beq_eq_false_iff_ne.2 ns; have ns2 : (ps != 0) = true := bne_iff_ne.2 ns; clear np ni ns; (try dsimp only); go_wp2; (try simp only [Exit.inBlock, Exit.then]); go_ret2; exact ⟨_, rfl, Kd.R_nil _ _ _ _ _, HB.out⟩
   ·have np1 : (pr == 1) = true := beq_iff_eq.2 np; have np2 : (pr != 1) = false := (by rw [bne, np1]; rfl); have ni1 : decide (0 < (inn.length : Int)) = false := decide_eq_false (by omega); have ni2 : decide (0 < inn.length) = false := decide_eq_false (by omega); have ne1 : (ps == pd) = false := beq_eq_false_iff_ne.2 ne; have ne2 : (ps != pd) = true := bne_iff_ne.2 ne; clear np ni ne; (try dsimp only); go_wp2; (try simp only [Exit.inBlock, Exit.then]); go_ret2; exact ⟨_, rfl, Kd.R_nil _ _ _ _ _, HB.out⟩
  ·rw [if_neg hc] at H
   obtain ⟨y, hy, H⟩ := rw_bind H; have HY := Aside0.mk hy; have HG := Aside0.mk H; clear hy H; have h3 : (¬ pr = 1) \/ (pr = 1 /\ 0 < inn.length /\ ps = 0 /\ pd = 0) \/ (pr = 1 /\ ¬ 0 < inn.length /\ ps = pd) := by omega
   clear hc
   rcases h3 with np | ⟨np, ni, ns, nd⟩ | ⟨np, ni, ne⟩
   all_goals first
    | (have np1 : (pr == 1) = false := beq_eq_false_iff_ne.2 np; have np2 : (pr != 1) = true := bne_iff_ne.2 np; clear np; (try dsimp only); go_upto_region 6 with (fail); clear np1 np2)
    | (have np1 : (pr == 1) = true := beq_iff_eq.2 np; have np2 : (pr != 1) = false := (by rw [bne, np1]; rfl); have ni1 : decide (0 < (inn.length : Int)) = true := decide_eq_true (by omega); have ni2 : decide (0 < inn.length) = true := decide_eq_true (by omega); have ns1 : (ps == 0) = true := beq_iff_eq.2 ns; have ns2 : (ps != 0) = false := (by rw [bne, ns1]; rfl); have nd1 : (pd == 0) = true := beq_iff_eq.2 nd; have nd2 : (pd != 0) = false := (by rw [bne, nd1]; rfl); have ne : ps = pd := (by omega); have ne1 : (ps == pd) = true := beq_iff_eq.2 ne; have ne2 : (ps != pd) = false := (by rw [bne, ne1]; rfl); clear np ni ns nd ne; (try dsimp only); go_upto_region 6 with (fail); clear np1 np2 ni1 ni2 ns1 ns2 nd1 nd2 ne1 ne2)
    | (have np1 : (pr == 1) = true := beq_iff_eq.2 np; have np2 : (pr != 1) = false := (by rw [bne, np1]; rfl); have ni1 : decide (0 < (inn.length : Int)) = false := decide_eq_false (by omega); have ni2 : decide (0 < inn.length) = false := decide_eq_false (by omega); have ne1 : (ps == pd) = true := beq_iff_eq.2 ne; have ne2 : (ps != pd) = false := (by rw [bne, ne1]; rfl); clear np ni ne; (try dsimp only); go_upto_region 6 with (fail); clear np1 np2 ni1 ni2 ne1 ne2)
   all_goals
    clear gf_0 gf_6 gs_1 gd_1; refine start_ (n := 14) (S := fun w' => w'.heap[gs]? = some (.cells #[.int .u32 si, .int .u16 ps] 65 (0, 0)) /\ w'.heap[gd]? = some (.cells #[.int .u32 di, .int .u16 pd] 65 (0, 0))) (ds := []) #[false, false, false, false, false, false, false, false, false, false, false, false, false, false] (by kernel_rfl) rfl rfl ⟨HXs.out, HXd.out⟩ (fun hHeld => ?_); refine with_tabW Change.R6.tab Change.R6.bits (fun HT_ HW_ => ?_); have hb_ := below_drew1 (Below.refl w7.heap.size w7); replace HB := mB HB hb_; replace HXs := mX HXs hb_; replace HXd := mX HXd hb_; replace HRo := mR HRo hb_; replace HRb := mR HRb hb_; replace HRi := mI HRi hb_; replace HV := mV HV hb_; replace HXp := mX HXp hb_; replace HXf := mX HXf hb_; clear hb_; generalize w7.drew = w8 at HB HXs HXd HRo HRb HRi HV HXp HXf hHeld |-
    refine pz 0 48 HT_ ?_; refine pz 2 50 HT_ ?_; refine pz 4 52 HT_ ?_; refine take_ (i := 1) (N := some 49) (v := ?_) (a' := ?_) #[true, true, true, false, true, false, false, false, false, false, false, false, false, false] rfl rfl (take_ofW HT_.out HW_.out (by kernel_rfl)) (fun _ _ _ h => h) (Or.inl ⟨by rfl, ?_⟩) hHeld ?_ ?_
    rotate_left
    ·intro w' s0
     obtain ⟨s0, s1⟩ := s0; have s0_ := (blk_cell s0 0).trans (rfl : _ = some (.int .u32 si : Value))
     go_simp
     with_reducible rfl
    rotate_left
    ·simp only [ps_]
     rfl
    refine pz 8 56 HT_ ?_; refine take_ (i := 3) (N := some 51) (v := ?_) (a' := ?_) #[true, true, true, true, true, false, false, false, true, false, false, false, false, false] rfl rfl (take_ofW HT_.out HW_.out (by kernel_rfl)) (fun _ _ _ h => h) (Or.inl ⟨by rfl, ?_⟩) hHeld ?_ ?_
    rotate_left
    ·intro w' s0
     obtain ⟨s0, s1⟩ := s0; have s0_ := (blk_cell s1 0).trans (rfl : _ = some (.int .u32 di : Value))
     go_simp
     with_reducible rfl
    rotate_left
    ·simp only [ps_]
     rfl
    refine tv 5 53 (.agg #[.int .u32 si, .int .u16 ps]) HT_ HW_ hHeld ?_ ?_
    ·intro w' s0
     obtain ⟨s0, s1⟩ := s0; exact rw_load (p := .tmp 4) (ty := 65) (by rfl) (by rfl) s0 hu65 (by rfl) HI65.out
    refine nz 53 ?_; refine tv 6 54 (.agg #[.int .u32 di, .int .u16 pd]) HT_ HW_ hHeld ?_ ?_
    ·intro w' s0
     obtain ⟨s0, s1⟩ := s0; exact rw_load (p := .tmp 5) (ty := 65) (by rfl) (by rfl) s1 hu65 (by rfl) HI65.out
    refine nz 54 ?_; refine oz 7 (some 55) HT_ (fun K hK => ?_); refine goes_ Try.func70 (by kernel_rfl) rfl #[vx, .agg #[.int .u32 si, .int .u16 ps], .agg #[.int .u32 di, .int .u16 pd]] (by rfl) rfl rfl (by first | rfl | (go_simp; done) | (go_simp; rfl) | (go_simp; decide)) ?_; refine (H70.out y HY.out _ vx _ HV.out).mono ?_; rintro ev w9 ⟨vy, rfl, ho, hb⟩; have HRy := Aside0.mk (Kd.R_lower ho (below_size HB.out)); obtain ⟨Ay, cy, rfl, _, _⟩ := Kd.R_reads ho; clear ho HY; have hb_ := hb; replace HB := mB HB hb_; replace HXs := mX HXs hb_; replace HXd := mX HXd hb_; replace HRo := mR HRo hb_; replace HRb := mR HRb hb_; replace HRi := mI HRi hb_; replace HV := mV HV hb_; replace HXp := mX HXp hb_; replace HXf := mX HXf hb_; clear hb_; clear hb; refine ⟨_, rfl, ?_⟩; refine hK.out _ _ ⟨HXs.out, HXd.out⟩ (fun hHeld => ?_); clear hK K; refine nz 55 ?_; refine oz 9 (none) HT_ (fun K hK => ?_)
    refine skip_cell (i := 6) (v := .int .u32 si) (cs' := #[.int .u8 a, .int .u8 t, .int .u8 pr, .int .u16 i, .int .u8 fl, .int .u16 of_, .int .u32 si, .int .u32 d, .slice Ao o.length co, .slice Ab b.length cb]) (by rfl) (by rfl) HXp.out rfl (by (have m_ := (blk_cell HXp.out 6).trans (rfl : _ = some (.int .u32 s : Value))); (have mf_ := blk_frozen HXp.out 6); first | (go_simp; done) | (go_simp; rfl)) ?_; intro w10 hs_ off_; replace HXs := oX off_ HXs HXp (by decide); replace HXd := oX off_ HXd HXp (by decide); replace HRo := oR off_ HRo HXp (by decide); replace HRb := oR off_ HRb HXp (by decide); replace HRi := oI off_ HRi HXp (by decide); replace HV := oV off_ HV HXp (by decide); replace HXf := oX off_ HXf HXp (by decide); replace HRy := oR off_ HRy HXp (by decide); replace HB := oB off_ HB GHXp; clear off_; replace HXp := Aside0.mk hs_; clear hs_
    refine hK.out _ _ ⟨HXs.out, HXd.out⟩ (fun hHeld => ?_); clear hK K; refine pz 10 57 HT_ ?_; refine oz 11 (none) HT_ (fun K hK => ?_); refine skip_cell (i := 7) (v := .int .u32 di) (cs' := #[.int .u8 a, .int .u8 t, .int .u8 pr, .int .u16 i, .int .u8 fl, .int .u16 of_, .int .u32 si, .int .u32 di, .slice Ao o.length co, .slice Ab b.length cb]) (by rfl) (by rfl) HXp.out rfl (by (have m_ := (blk_cell HXp.out 7).trans (rfl : _ = some (.int .u32 d : Value))); (have mf_ := blk_frozen HXp.out 7); first | (go_simp; done) | (go_simp; rfl)) ?_; intro w11 hs_ off_; replace HXs := oX off_ HXs HXp (by decide); replace HXd := oX off_ HXd HXp (by decide); replace HRo := oR off_ HRo HXp (by decide); replace HRb := oR off_ HRb HXp (by decide); replace HRi := oI off_ HRi HXp (by decide); replace HV := oV off_ HV HXp (by decide); replace HXf := oX off_ HXf HXp (by decide)
    replace HRy := oR off_ HRy HXp (by decide); replace HB := oB off_ HB GHXp; clear off_; replace HXp := Aside0.mk hs_; clear hs_; refine hK.out _ _ ⟨HXs.out, HXd.out⟩ (fun hHeld => ?_); clear hK K; refine pz 12 58 HT_ ?_; refine oz 13 (none) HT_ (fun K hK => ?_); refine skip_cell (i := 9) (v := .slice Ay y.length cy) (cs' := #[.int .u8 a, .int .u8 t, .int .u8 pr, .int .u16 i, .int .u8 fl, .int .u16 of_, .int .u32 si, .int .u32 di, .slice Ao o.length co, .slice Ay y.length cy]) (by rfl) (by rfl) HXp.out rfl (by (have m_ := (blk_cell HXp.out 9).trans (rfl : _ = some (.slice Ab b.length cb : Value))); (have mf_ := blk_frozen HXp.out 9); first | (go_simp; done) | (go_simp; rfl)) ?_; intro w12 hs_ off_; replace HXs := oX off_ HXs HXp (by decide); replace HXd := oX off_ HXd HXp (by decide); replace HRo := oR off_ HRo HXp (by decide); replace HRb := oR off_ HRb HXp (by decide)
    replace HRi := oI off_ HRi HXp (by decide); replace HV := oV off_ HV HXp (by decide); replace HXf := oX off_ HXf HXp (by decide); replace HRy := oR off_ HRy HXp (by decide); replace HB := oB off_ HB GHXp; clear off_; replace HXp := Aside0.mk hs_; clear hs_; refine hK.out _ _ ⟨HXs.out, HXd.out⟩ (fun hHeld => ?_); clear hK K; refine dz HT_ ?_; clear HT_ HW_ hHeld; have H := HG.out; clear HG
    (try dsimp only)
    go_wp2_with (refine Kd.event_run rfl (rw_load rfl rfl HXp.out Try.underlying73 rfl HI73.out) ?_)
    refine (ip_Bytes.calls k a t pr i fl of_ si di Ao co o Ay cy y rb re _ (Kd.R_reads' HRo.out).2.2 (Kd.R_reads' HRo.out).2.1 (Kd.R_reads' HRy.out).2.2 (Kd.R_reads' HRy.out).2.1 H).mono ?_; rintro ev w13 ⟨vr, rfl, ho, hb⟩; have HRr := Aside0.mk (Kd.R_lower ho (below_size HB.out)); clear ho; have hb_ := hb; replace HB := mB HB hb_; replace HXs := mX HXs hb_; replace HXd := mX HXd hb_; replace HRo := mR HRo hb_; replace HRb := mR HRb hb_; replace HRi := mI HRi hb_; replace HV := mV HV hb_; replace HXp := mX HXp hb_; replace HXf := mX HXf hb_; replace HRy := mR HRy hb_; clear hb_; clear hb
    (try dsimp only)
    go_wp2
    (try simp only [Exit.inBlock, Exit.then])
    go_ret2
    exact ⟨_, rfl, HRr.out, HB.out⟩
 ·have ce1 : (e_ == 0) = false := beq_eq_false_iff_ne.2 ce
  have ce2 : (e_ != 0) = true := bne_iff_ne.2 ce; rw [if_neg ce] at H
  clear ce; simp only [Option.some.injEq, Prod.mk.injEq] at H
  obtain ⟨rfl, rfl⟩ := H
  (try dsimp only)
  go_wp2
  (try simp only [Exit.inBlock, Exit.then])
  go_ret2
  exact ⟨_, rfl, Kd.R_nil _ _ _ _ _, HB.out⟩
theorem rw_add (g o j : Nat) : (⟨g, o, none⟩ : Addr).add j = ⟨g, o + j, none⟩ := by
 unfold Addr.add
 split <;> simp_all
theorem rw_sub {w : World} {base c g n e : Nat} {ok : Nat -> Prop} {xs : List Int} (hR : Kd.R (Kd.int .u8) e w base ok (.slice (some ⟨g, 0, none⟩) n c) xs) (j : Nat) (hj : j < xs.length) : Kd.C (Kd.int .u8) w (some ⟨g, j, none⟩) (xs.drop j).length (xs.drop j) := by
 obtain ⟨h1, h2, h3⟩ := Kd.R_reads' hR; have h := Kd.C_drop (m := j) (c := c) h3 (Nat.le_of_lt hj) (by omega); rw [if_neg (by omega)] at h
 have e1 : (Kd.int .u8).sz = 1 := rfl; rw [e1] at h
 simp only [Option.map_some, rw_add, Nat.zero_add, Nat.mul_one] at h
 exact h
theorem rw_pre {w : World} {base c g n e : Nat} {ok : Nat -> Prop} {xs : List Int} (hR : Kd.R (Kd.int .u8) e w base ok (.slice (some ⟨g, 0, none⟩) n c) xs) (m : Nat) (hm : m <= xs.length) : Kd.C (Kd.int .u8) w (some ⟨g, 0, none⟩) (xs.take m).length (xs.take m) := Kd.C_take (Kd.R_reads' hR).2.2 hm
theorem rw_from {P : Program} (t e : TypeId) (kh : IntKind) {i : TypeInfo} (ht : P.underlying t = some (.slice e)) (hi : P.info? e = some i) (hs : i.size = 1) (g o n c : Nat) (x : Int) (j : Nat) (hx : x = (j : Int)) (hm : j <= n) (hc : j < c) : ∀ W : World, (Instr.slice t (.slice (some ⟨g, o, none⟩) n c) (some (.int kh x)) none none).run P W = .ok (.slice (some ⟨g, o + j, none⟩) (n - j) (c - j)) W := by
 subst hx; intro W; have h := cut_from (P := P) t e kh ht hi 1 hs (some ⟨g, o, none⟩) n c (j : Int) (by omega) (by omega) W; rw [Int.toNat_natCast, if_neg (by omega)] at h
 simp only [Option.map_some, rw_add, Nat.mul_one] at h
 exact h
theorem Off.trans {W w1 w2 : World} {g : Nat} (h : Off W w1 g) (h2 : Off w1 w2 g) : Off W w2 g := ⟨h2.os.trans h.os, h2.tape.trans h.tape, h2.output.trans h.output, h2.size.trans h.size, fun k hk => (h2.far k hk).trans (h.far k hk)⟩
theorem rw_slice_l {P : Program} {o : Oper} {ev : Operand -> Value} {W : World} {t e : TypeId} (hu : P.underlying t = some (.slice e)) {x lo : Operand} {vx vl r : Value} (ho : o.op = .slice t x (some lo) none none) (hx : ev x = vx) (hl : ev lo = vl) (h : (Instr.slice t vx (some vl) none none).run P W = .ok r W) : (execOp ev o).run P W = .ok (.value r) W := by
 unfold execOp; simp only [ho, Option.map_some, Option.map_none, hx, hl]
 simp [Instr.sliceAt, underlying, hu, h, Sem.run_bind, Result.andThen]
theorem rw_slice_h {P : Program} {o : Oper} {ev : Operand -> Value} {W : World} {t e : TypeId} (hu : P.underlying t = some (.slice e)) {x lo : Operand} {vx vl r : Value} (ho : o.op = .slice t x none (some lo) none) (hx : ev x = vx) (hl : ev lo = vl) (h : (Instr.slice t vx none (some vl) none).run P W = .ok r W) : (execOp ev o).run P W = .ok (.value r) W := by
 unfold execOp; simp only [ho, Option.map_some, Option.map_none, hx, hl]
 simp [Instr.sliceAt, underlying, hu, h, Sem.run_bind, Result.andThen]
def put2L (xs : List Int) (j : Nat) (a : Int) : List Int := (xs.set j (a / 256 % 256)).set (j + 1) (a % 256)
theorem put2L_length (xs : List Int) (j : Nat) (a : Int) : (put2L xs j a).length = xs.length := by unfold put2L; rw [List.length_set, List.length_set]
theorem put2_at (g j m c c2 base : Nat) (ok : Nat -> Prop) (xs : List Int) (n : Nat) (a1 : Int) (w : World) (hR : Kd.R (Kd.int .u8) 5 w base ok (.slice (some ⟨g, 0, none⟩) n c) xs) (hj : j + 2 <= n) (hm : 2 <= m) :
  Calls Try.prog 89 #[.slice (some ⟨g, j, none⟩) m c2, .int .u16 a1] w fun e w' => e = .returned (.tuple #[]) /\ Kd.R (Kd.int .u8) 5 w' base ok (.slice (some ⟨g, 0, none⟩) n c) (put2L xs j a1) /\ Off w w' g := by
 obtain ⟨hc0, hf0⟩ := Kd.R_celln (0 : Int) hR (j : Int) (by omega) (by omega); have hR1 := Kd.R_putn hR (j : Int) (a1 / 256 % 256); obtain ⟨hc1, hf1⟩ := Kd.R_celln (0 : Int) hR1 ((j + 1 : Nat) : Int) (by omega) (by omega); have hR2 := Kd.R_putn hR1 ((j + 1 : Nat) : Int) (a1 % 256); rw [Int.toNat_natCast] at hc0 hf0 hR1 hc1 hf1 hR2
 rw [Int.toNat_natCast] at hc1 hf1 hR2
 have HR := Aside0.mk hR2; have HO1 := Aside0.mk (Off.setCell w g j (.int .u8 (a1 / 256 % 256))); have b0 : decide (0 < (m : Int)) = true := decide_eq_true (by omega); have b1 : decide (0 < m) = true := decide_eq_true (by omega); have b2 : decide (1 < (m : Int)) = true := decide_eq_true (by omega); have b3 : decide (1 < m) = true := decide_eq_true (by omega); have b4 : (0 < m) = True := eq_true (by omega); have b5 : (1 < m) = True := eq_true (by omega); have b6 : ((m : Int) <= 1) = False := eq_false (by omega); have b7 : (m <= 1) = False := eq_false (by omega); have b8 : ((1 : Int) < (m : Int)) = True := eq_true (by omega); have HC0 := Aside0.mk hc0; have HF0 := Aside0.mk hf0; have HC1 := Aside0.mk hc1; have HF1 := Aside0.mk hf1; clear hR hR1 hR2 hj hm hc0 hf0 hc1 hf1
 go_enter Try.func89, Try.ntmps89
 go_wp2_with (first | ((refine rw_skip rfl rfl (w1 := w.setCell ⟨g, j, none⟩ (.int .u8 (a1 / 256 % 256))) ?hr_ ?_); (case hr_ => (have m_ := HC0.out); (have mf_ := HF0.out); first | (go_simp; done) | (go_simp; rfl)); have HO2 := Aside0.mk (HO1.out.trans (Off.setCell (w.setCell ⟨g, j, none⟩ (.int .u8 (a1 / 256 % 256))) g (j + 1) (.int .u8 (a1 % 256)))); clear HO1; (have m_ := HC1.out); (have mf_ := HF1.out); generalize hw1 : w.setCell ⟨g, j, none⟩ (.int .u8 (a1 / 256 % 256)) = w1 at HR m_ mf_ HO2 |-; clear hw1) | ((refine rw_skip rfl rfl (w1 := w1.setCell ⟨g, j + 1, none⟩ (.int .u8 (a1 % 256))) ?hr_ ?_); (case hr_ => first | (go_simp; done) | (go_simp; rfl))))
 first | go_end0 | ((try simp only [Exit.inBlock, Exit.then]); refine bodyPost_ret (results_none rfl _ _ _) rfl ?_)
 exact ⟨rfl, HR.out, HO2.out⟩
def headed.f (k : Nat) (l : List Int) (head : Nat) : Option (List Int) := (sum_Of.f k ((put2L l 10 0).take head)).bind fun c => some (put2L (put2L l 10 0) 10 c)
def headed.R2.T : Bool × List (List Nat × List Nat) := (true, [([], []), ([0], [0]), ([], []), ([], []), ([2, 3], [2, 3]), ([4], [4]), ([1, 5, 5], [1, 5])])
theorem headed.R2.tab : rtab .any (opsOf Try.f78 2) = headed.R2.T := by kernel_rfl
theorem headed.R2.bits : waitsOk headed.R2.T.2 [0, 1, 0, 0, 12, 28, 63] = true := by kernel_rfl
theorem headed.calls (k g n c hd : Nat) (l r : List Int) (w0 w : World) (hR : Kd.R (Kd.int .u8) 5 w w0.heap.size (fun _ => True) (.slice (some ⟨g, 0, none⟩) n c) l) (hB : Below w0.heap.size w0 w) (hg : w0.heap.size <= g) (h12 : 12 <= n) (hhd : hd <= n) (h : headed.f k l hd = some r) :
  Calls Try.prog 78 #[.slice (some ⟨g, 0, none⟩) n c, .int .i64 (hd : Int)] w fun e w' => e = .returned (.slice (some ⟨g, 0, none⟩) n c) /\ Kd.R (Kd.int .u8) 5 w' w0.heap.size (fun _ => True) (.slice (some ⟨g, 0, none⟩) n c) r /\ Below w0.heap.size w0 w' := by
 unfold headed.f at h
 obtain ⟨i0, hi0, _, hsz, _⟩ := info_parts info5; obtain ⟨s, hs, h⟩ := rw_bind h; obtain rfl := Option.some.inj h; have hl := (Kd.R_reads' hR).1; have hc := (Kd.R_reads' hR).2.1; have hcut := rw_from (P := Try.prog) 23 5 .i64 Try.underlying23 hi0 hsz g 0 n c 10 10 rfl (by omega) (by omega); have hcut2 := rw_cut (P := Try.prog) 23 5 .i64 Try.underlying23 hi0 (some ⟨g, 0, none⟩) n c (hd : Int) hd rfl (by omega) hc; rw [Nat.zero_add] at hcut
 have HCUT := Aside0.mk hcut; have HCUT2 := Aside0.mk hcut2; have HR := Aside0.mk hR; have HB := Aside0.mk hB; have HG := Aside0.mk hg; have HS := Aside0.mk hs; have HLH : Aside0 (hd <= (put2L l 10 0).length) := ⟨by rw [put2L_length]; omega⟩
 have HTL : Aside0 (((put2L l 10 0).take hd).length = hd) := ⟨by rw [List.length_take, put2L_length]; omega⟩
 have HLC : Aside0 (((put2L l 10 0).take hd).length <= c) := ⟨by rw [HTL.out]; omega⟩
 have HN12 : Aside0 (10 + 2 <= n) := ⟨by omega⟩
 have HN2 : Aside0 (2 <= n - 10) := ⟨by omega⟩
 clear hR hB hg hs hl hc hcut2 hi0 hsz h12 hhd
 go_enter Try.func78, Try.ntmps78
 go_wp2_with fail
 clear hcut; refine (put2_at g 10 (n - 10) c (c - 10) w0.heap.size (fun _ => True) l n 0 _ HR.out HN12.out HN2.out).mono ?_; rintro e w1 ⟨rfl, hr, ho⟩; have n_HR := Aside0.mk hr; have n_HB := Aside0.mk (Off.below ho HB.out HG.out); clear HR HB hr ho; have HR := n_HR; have HB := n_HB; clear n_HR n_HB
 (try dsimp only)
 go_upto_region 2 with (fail)
 refine start_ (n := 7) (S := fun _ => True) (ds := []) #[false, false, false, false, false, false, false] (by kernel_rfl) rfl rfl trivial (fun hHeld => ?_); refine with_tabW headed.R2.tab headed.R2.bits (fun HT_ HW_ => ?_); have hb_ := below_drew1 (Below.refl w1.heap.size w1); have n_HR := Aside0.mk (Kd.R_below HR.out hb_); have n_HB := Aside0.mk (below_step HB.out hb_); clear HR HB hb_; have HR := n_HR; have HB := n_HB; clear n_HR n_HB; generalize w1.drew = w2 at HR HB hHeld |-
 refine pz 0 8 HT_ ?_; refine pv 1 9 (.slice (some ⟨g, 10, none⟩) (n - 10) (c - 10)) HT_ ?_ ?_
 ·intro w'
  exact rw_slice_l (vx := .slice (some ⟨g, 0, none⟩) n c) (vl := .int .i64 10) Try.underlying23 (by rfl) (by rfl) (by rfl) (HCUT.out w')
 refine nz 9 ?_; refine pz 2 10 HT_ ?_; refine pz 3 11 HT_ ?_; refine pv 4 12 (.slice (some ⟨g, 0, none⟩) hd c) HT_ ?_ ?_
 ·intro w'
  exact rw_slice_h (vx := .slice (some ⟨g, 0, none⟩) n c) (vl := .int .i64 (hd : Int)) Try.underlying23 (by rfl) (by rfl) (by rfl) (HCUT2.out w')
 refine nz 12 ?_; refine oz 5 (some 13) HT_ (fun K hK => ?_); refine goes_ Try.func90 (by kernel_rfl) rfl #[.slice (some ⟨g, 0, none⟩) hd c] (by rfl) rfl rfl (by first | rfl | (go_simp; done) | (go_simp; rfl) | (go_simp; decide)) ?_; have h90 := sum_Of.calls k (some ⟨g, 0, none⟩) c ((put2L l 10 0).take hd) s _ (rw_pre HR.out hd HLH.out) HLC.out HS.out; rw [HTL.out] at h90
 refine h90.mono ?_; clear h90; rintro e w3 ⟨rfl, hb⟩; have n_HR := Aside0.mk (Kd.R_below HR.out hb); have n_HB := Aside0.mk (below_step HB.out hb); clear HR HB hb; have HR := n_HR; have HB := n_HB; clear n_HR n_HB; refine ⟨_, rfl, ?_⟩; refine hK.out _ _ trivial (fun hHeld => ?_); clear hK K; refine nz 13 ?_; refine oz 6 (some 14) HT_ (fun K hK => ?_); refine goes_ Try.func89 (by kernel_rfl) rfl #[.slice (some ⟨g, 10, none⟩) (n - 10) (c - 10), .int .u16 s] (by rfl) rfl rfl (by first | rfl | (go_simp; done) | (go_simp; rfl) | (go_simp; decide)) ?_; refine (put2_at g 10 (n - 10) c (c - 10) w0.heap.size (fun _ => True) (put2L l 10 0) n s _ HR.out HN12.out HN2.out).mono ?_; rintro e w4 ⟨rfl, hr, ho⟩; have n_HR := Aside0.mk hr; have n_HB := Aside0.mk (Off.below ho HB.out HG.out); clear HR HB hr ho; have HR := n_HR; have HB := n_HB; clear n_HR n_HB; refine ⟨_, rfl, ?_⟩
 refine hK.out _ _ trivial (fun hHeld => ?_); clear hK K; refine nz 14 ?_; refine dz HT_ ?_; clear HT_ HW_ hHeld
 (try dsimp only)
 go_wp2
 (try simp only [Exit.inBlock, Exit.then])
 go_ret
 exact ⟨rfl, HR.out, HB.out⟩
def rewrite_Hop.f (k : Nat) (l : List Int) : Option (List Int × Int) :=
 (ip_Parse.f k l).bind fun ⟨_, t, _, _, _, _, _, _, _, _, e⟩ => if e = 0 then
  if t = 0 then some ([], 21) else (rewrite_own.f l).bind fun ⟨x, hd⟩ => if 12 <= x.length /\ 0 <= hd /\ hd <= (x.length : Int) then (headed.f k (x.set 8 ((rd x 8 - 1) % 256)) hd.toNat).bind fun y => some (y, 0) else none
 else some ([], e)
theorem rewrite_Hop.calls (k : Nat) (A : Option Addr) (c : Nat) (l : List Int) (rb : List Int) (re : Int) (w : World) (hC : Kd.C (Kd.int .u8) w A l.length l) (hL : l.length <= c) (h : rewrite_Hop.f k l = some (rb, re)) :
  Calls Try.prog 34 #[.slice A l.length c] w fun e w' => ∃ vr : Value, e = .returned (.tuple #[vr, .int .i64 re]) /\ Kd.R (Kd.int .u8) 5 w' w.heap.size (fun _ => True) vr rb /\ Below w.heap.size w w' := by
 have hu73 := Try.underlying73; unfold rewrite_Hop.f at h
 obtain ⟨⟨a, t, pr, i, fl, of_, s, d, o, b, e_⟩, hp, h⟩ := rw_bind h; have HB := Aside0.mk (Below.refl w.heap.size w); have HC := Aside0.mk hC; have HL := Aside0.mk hL; have HP := Aside0.mk hp; have HF := Aside0.mk h; have HI73 : Aside0 ((Try.prog.info? 73).map (·.size) = some 10) := ⟨by kernel_rfl⟩
 clear hC hL h hp
 go_enter Try.func34, Try.ntmps34
 go_wp2_with fail
 refine (ip_Parse.calls k A c l a t pr i fl of_ s d o b e_ _ (Kd.C_below HC.out HB.out) HL.out HP.out).mono ?_; rintro ev w1 ⟨vo, vb, rfl, ho, ho2, hb⟩; have HRo := rLow ho HB; obtain ⟨Ao, co, rfl, _, _⟩ := Kd.R_reads ho; clear ho; have HRb := rLow ho2 HB; obtain ⟨Ab, cb, rfl, _, _⟩ := Kd.R_reads ho2; clear ho2; have hb_ := hb; replace HB := mB HB hb_; clear hb_; clear hb HP HRo HRb
 (try dsimp only)
 go_upto_region 2 with (((refine rw_newrow rfl rfl rfl rfl rfl HI73.out rfl (by simp [Value.oneCell']) ?_); intro x_new hx_ hbn_))
 revert x_new hx_ hbn_; intro w2 hx_ hbn_; have HXp : Aside0 (w2.heap[w1.heap.size]? = some (.cells #[.int .u8 a, .int .u8 t, .int .u8 pr, .int .u16 i, .int .u8 fl, .int .u16 of_, .int .u32 s, .int .u32 d, .slice Ao o.length co, .slice Ab b.length cb] 73 (0, 0))) := ⟨hx_⟩
 have GHXp := bsz HB; have hb_ := hbn_; replace HB := mB HB hb_; clear hb_; clear hx_ hbn_; generalize w1.heap.size = gp at HXp GHXp |-
 have gp_1 : w2.cell? ⟨gp, 1, none⟩ = some (.int .u8 t) := (blk_cell HXp.out 1).trans rfl; have H := HF.out; clear HF
 (try dsimp only at H)
 by_cases ce : e_ = 0
 ·have ce1 : (e_ == 0) = true := beq_iff_eq.2 ce
  have ce2 : (e_ != 0) = false := by rw [bne, ce1]; rfl
  rw [if_pos ce] at H
  clear ce
  by_cases ct : t = 0
  ·have ct1 : (t == 0) = true := beq_iff_eq.2 ct
   have ct2 : (t != 0) = false := by rw [bne, ct1]; rfl
   rw [if_pos ct] at H
   clear ct; simp only [Option.some.injEq, Prod.mk.injEq] at H
   obtain ⟨rfl, rfl⟩ := H
   (try dsimp only)
   go_wp2
   (try simp only [Exit.inBlock, Exit.then])
   go_ret2
   exact ⟨_, rfl, Kd.R_nil _ _ _ _ _, HB.out⟩
  ·have ct1 : (t == 0) = false := beq_eq_false_iff_ne.2 ct
   have ct2 : (t != 0) = true := bne_iff_ne.2 ct; rw [if_neg ct] at H
   clear ct; obtain ⟨⟨x, hd⟩, hx, H⟩ := rw_bind H; dsimp only at H
   have HG := Aside0.mk H; clear H
   (try dsimp only)
   go_wp2_with fail
   clear gp_1; refine (rewrite_own.calls A c l x hd _ (Kd.C_below HC.out HB.out) HL.out hx).mono ?_; rintro ev w3 ⟨vx, rfl, ho, hb⟩; have HRx := Aside0.mk (Kd.R_lower ho (below_size HB.out)); clear ho hx; have hb_ := hb; replace HB := mB HB hb_; replace HXp := mX HXp hb_; clear hb_; clear HXp; clear hb; have H := HG.out; clear HG
   by_cases hxl : 12 <= x.length /\ 0 <= hd /\ hd <= (x.length : Int)
   case neg => rw [if_neg hxl] at H; cases H
   rw [if_pos hxl] at H
   obtain ⟨h12, hd0, hdx⟩ := hxl; obtain ⟨m, rfl⟩ : ∃ m : Nat, hd = (m : Int) := ⟨hd.toNat, (Int.toNat_of_nonneg hd0).symm⟩
   rw [Int.toNat_natCast] at H
   obtain ⟨r, hr, H⟩ := rw_bind H; simp only [Option.some.injEq, Prod.mk.injEq] at H
   obtain ⟨rfl, rfl⟩ := H; obtain ⟨go, cap, rfl, hgo, _, _⟩ := Kd.R_form HRx.out (show 0 < x.length by omega); obtain ⟨hc0, hf0⟩ := Kd.R_celln (0 : Int) HRx.out ((8 : Nat) : Int) (by omega) (by omega); have hR1 := Kd.R_putn HRx.out ((8 : Nat) : Int) ((rd x 8 - 1) % 256); rw [Int.toNat_natCast] at hc0 hf0 hR1
   have HS0 : Aside0 (w3.cell? ⟨go, 8, none⟩ = some (.int .u8 (rd x 8))) := ⟨hc0⟩
   have HF0 := Aside0.mk hf0; have HRn := Aside0.mk hR1; have HGO := Aside0.mk hgo; have HNX := Aside0.mk h12; have HMX : Aside0 (m <= x.length) := ⟨by omega⟩
   have HRR := Aside0.mk hr; have b0 : decide (8 < (x.length : Int)) = true := decide_eq_true (by omega); have b1 : decide (8 < x.length) = true := decide_eq_true (by omega); have b6 : ((x.length : Int) <= 8) = False := eq_false (by omega); have b7 : (x.length <= 8) = False := eq_false (by omega); have b8 : ((8 : Int) < (x.length : Int)) = True := eq_true (by omega); clear hc0 hf0 hR1 hgo h12 hd0 hdx hr; have hs0 := HS0.out; have hfs0 := HF0.out
   (try dsimp only)
   go_upto_region 8 with ((refine rw_skip rfl rfl (w1 := w3.setCell ⟨go, 8, none⟩ (.int .u8 ((rd x 8 - 1) % 256))) ?hr_ ?_); (case hr_ => first | (go_simp; done) | (go_simp; rfl)))
   clear hs0 hfs0 HS0 HF0 b0 b1 b6 b7 b8; have n_HB := Aside0.mk (Off.below (Off.setCell w3 go 8 (.int .u8 ((rd x 8 - 1) % 256))) HB.out HGO.out); clear HB HRx; have HB := n_HB; clear n_HB; generalize w3.setCell ⟨go, 8, none⟩ (.int .u8 ((rd x 8 - 1) % 256)) = w9 at HB HRn |-
   go_wp2_with fail
   refine (headed.calls k go x.length cap m (x.set 8 ((rd x 8 - 1) % 256)) r w _ HRn.out HB.out HGO.out HNX.out HMX.out HRR.out).mono ?_; rintro ev w10 ⟨rfl, ho, hb⟩; have HRr := Aside0.mk ho; have n_HB := Aside0.mk hb; clear ho hb HRn HRR
   (try dsimp only)
   go_wp2
   (try simp only [Exit.inBlock, Exit.then])
   go_ret2
   exact ⟨_, rfl, HRr.out, n_HB.out⟩
 ·have ce1 : (e_ == 0) = false := beq_eq_false_iff_ne.2 ce
  have ce2 : (e_ != 0) = true := bne_iff_ne.2 ce; rw [if_neg ce] at H
  clear ce; simp only [Option.some.injEq, Prod.mk.injEq] at H
  obtain ⟨rfl, rfl⟩ := H
  (try dsimp only)
  go_wp2
  (try simp only [Exit.inBlock, Exit.then])
  go_ret2
  exact ⟨_, rfl, Kd.R_nil _ _ _ _ _, HB.out⟩
def innL (k a : Nat) : List Int -> Nat -> Int -> List Int -> Option (Int × List Int)
 | [], _, x, out => some (x, out)
 | n :: ns, j, x, out => (rewrite_two.f (out.drop (a + 12 + 2 * j))).bind fun o => (sum_Update.f k x o n).bind fun x' => innL k a ns (j + 1) x' (put2L out (a + 12 + 2 * j) n)
def innW (si di : Int) : List Int := [si / 65536 % 65536, si % 65536, di / 65536 % 65536, di % 65536]
def innP (v : Int) (out : List Int) (a h : Nat) (sp dp : Int) : List Int := if v = 1 then put2L out (a + (h + 4)) sp else put2L (put2L out (a + h) sp) (a + (h + 2)) dp
def innG (k : Nat) (out : List Int) (hd : Nat) (si sp di dp : Int) : Option (List Int × Int) :=
 (rewrite_within.f k (out.drop (hd + 8))).bind fun q => if rd out ((hd + 8 + 9 : Nat) : Int) = 1 /\ ¬ sp = dp then some ([], 21) else
  (rewrite_two.f (out.drop (hd + 8 + 10))).bind fun x0 => (innL k (hd + 8) (innW si di) 0 x0 out).bind fun p =>
  (sum_Of.f k ((put2L (innP (rd out ((hd + 8 + 9 : Nat) : Int)) (put2L p.2 (hd + 8 + 10) p.1) (hd + 8) q.1.toNat sp dp) (hd + 2) 0).drop hd)).bind fun s => some (put2L (put2L (innP (rd out ((hd + 8 + 9 : Nat) : Int)) (put2L p.2 (hd + 8 + 10) p.1) (hd + 8) q.1.toNat sp dp) (hd + 2) 0) (hd + 2) s, 0)
def innF (k : Nat) (r : LK) (l : List Int) (si sp di dp : Int) : Option (List Int × Int) :=
 if r.e = 0 then (rewrite_own.f l).bind fun q => if r.inn.length = 0 then some ([], 21) else innG k q.1 q.2.toNat si sp di dp else some ([], r.e)
def Keep5 (W W2 : World) : Prop := ∀ (g' t' : Nat) (cs : Array Value) (f : Nat × Nat), t' ≠ 5 -> W.heap[g']? = some (.cells cs t' f) -> W2.heap[g']? = some (.cells cs t' f)
section
variable {w0 w : World} {g n c : Nat} {xs : List Int}
theorem row_len (hR : Aside0 (Kd.R (Kd.int .u8) 5 w w0.heap.size (fun _ => True) (.slice (some ⟨g, 0, none⟩) n c) xs)) : xs.length = n := (Kd.R_reads' hR.out).1.symm
theorem two_row (hR : Aside0 (Kd.R (Kd.int .u8) 5 w w0.heap.size (fun _ => True) (.slice (some ⟨g, 0, none⟩) n c) xs)) (j m c2 : Nat) (r : Int) (hm : m = n - j) (hj : j < n) (hc : m <= c2) (h : rewrite_two.f (xs.drop j) = some r) : Calls Try.prog 87 #[.slice (some ⟨g, j, none⟩) m c2] w fun e w' => e = .returned (.int .u16 r) /\ Drawn0 w w' := by
 have hl := row_len hR; have h2 := rewrite_two.calls (some ⟨g, j, none⟩) c2 (xs.drop j) r w (rw_sub hR.out j (by omega)) (by rw [List.length_drop]; omega) h
 rwa [List.length_drop, hl, <- hm] at h2
theorem within_row (hR : Aside0 (Kd.R (Kd.int .u8) 5 w w0.heap.size (fun _ => True) (.slice (some ⟨g, 0, none⟩) n c) xs)) (k j m c2 : Nat) (r : Int) (ok : Bool) (hm : m = n - j) (hj : j < n) (hc : m <= c2) (h : rewrite_within.f k (xs.drop j) = some (r, ok)) : Calls Try.prog 86 #[.slice (some ⟨g, j, none⟩) m c2] w fun e w' => e = .returned (.tuple #[.int .i64 r, .bool ok]) /\ Below w.heap.size w w' := by
 have hl := row_len hR; have h2 := rewrite_within.calls k (some ⟨g, j, none⟩) c2 (xs.drop j) r ok w (rw_sub hR.out j (by omega)) (by rw [List.length_drop]; omega) h
 rwa [List.length_drop, hl, <- hm] at h2
theorem of_row (hR : Aside0 (Kd.R (Kd.int .u8) 5 w w0.heap.size (fun _ => True) (.slice (some ⟨g, 0, none⟩) n c) xs)) (k j m c2 : Nat) (r : Int) (hm : m = n - j) (hj : j < n) (hc : m <= c2) (h : sum_Of.f k (xs.drop j) = some r) : Calls Try.prog 90 #[.slice (some ⟨g, j, none⟩) m c2] w fun e w' => e = .returned (.int .u16 r) /\ Below w.heap.size w w' := by
 have hl := row_len hR; have h2 := sum_Of.calls k (some ⟨g, j, none⟩) c2 (xs.drop j) r w (rw_sub hR.out j (by omega)) (by rw [List.length_drop]; omega) h
 rwa [List.length_drop, hl, <- hm] at h2
theorem put2_row (hR : Aside0 (Kd.R (Kd.int .u8) 5 w w0.heap.size (fun _ => True) (.slice (some ⟨g, 0, none⟩) n c) xs)) (hB : Aside0 (Below w0.heap.size w0 w)) (j m c2 : Nat) (v : Int) (hj : j + 2 <= n) (hm : 2 <= m) : Calls Try.prog 89 #[.slice (some ⟨g, j, none⟩) m c2, .int .u16 v] w fun e w' => e = .returned (.tuple #[]) /\ Aside0 (Kd.R (Kd.int .u8) 5 w' w0.heap.size (fun _ => True) (.slice (some ⟨g, 0, none⟩) n c) (put2L xs j v)) /\ Aside0 (Below w0.heap.size w0 w') /\ Keep5 w w' := by
 have hl := row_len hR; obtain ⟨g', cap, hv, hb, _, cells, hc⟩ := Kd.R_form hR.out (by omega)
 obtain ⟨rfl, _, _⟩ : g = g' /\ n = xs.length /\ c = cap := by injection hv with h1 h2 h3; injection h1 with h1; injection h1 with h1; exact ⟨h1, h2, h3⟩
 refine (put2_at g j m c c2 _ _ xs n v w hR.out hj hm).mono ?_; rintro e w' ⟨rfl, hr, ho⟩; exact ⟨rfl, ⟨hr⟩, ⟨Off.below ho hB.out hb⟩, fun g' t' cs f ht hx => Off.blk ho hx hc ht⟩
end
end Go.Proofs.Ytkmimamminddiaa.PB
