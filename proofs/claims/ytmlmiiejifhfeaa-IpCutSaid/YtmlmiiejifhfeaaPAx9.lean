-- written by a patched print
import Derived.Test.YtmlmiiejifhfeaaPAx0
namespace Go.Proofs.Ytmlmiiejifhfeaa.PA
open Go.RowKit Go.Proofs.YtmlmiiejifhfeaaW.PrintWords Go.Proofs.YtmlmiiejifhfeaaW.PrintLast Go.Proofs.YtmlmiiejifhfeaaW.PrintMore
attribute [local go_sem] max2_int min2_int max_two min_two max_three min_three max_four min_four   -- for this text's walks alone
set_option linter.unusedVariables false
set_option linter.unusedSimpArgs false

/-! ### lychlaw3_first: function 10 -/
def lychlaw3_first.f (l0 : List Int) : Option (Int) := if (l0.length : Int) = 0 then (some 0) else (if 0 < (l0.length : Int) then (some (rd l0 0)) else (none))
set_option maxHeartbeats 8000000 in
set_option maxRecDepth 100000 in
theorem lychlaw3_first.calls (A0 : Option Addr) (c0 : Nat) (l0 : List Int) (r : Int) (w : World) (hr0 : Kd.C (Kd.int .u8) w A0 l0.length l0) (hc0 : l0.length ≤ c0) (h : lychlaw3_first.f l0 = some r) :
  Calls Try.prog 10 #[.slice A0 l0.length c0] w fun e w' => e = .returned (.int .u8 r) ∧ Drawn0 w w' := by
 have HR0 := Aside0.mk hr0
 have HC0 := Aside0.mk hc0
 clear hr0 hc0
 have H : (if (l0.length : Int) = 0 then (some 0) else (if 0 < (l0.length : Int) then (some (rd l0 0)) else (none))) = some r := h
 clear h
 by_cases c2 : (l0.length : Int) = 0
 ·rw [if_pos c2] at H
  have c2b0 : ((l0.length : Int) == 0) = true := beq_iff_eq.mpr c2
  have c2b1 : ((l0.length : Int) != 0) = false := bne_eq_false_iff_eq.mpr c2
  clear c2
  obtain rfl := Option.some.inj H
  go_enter Try.func10, Try.ntmps10
  go_wp2
  go_ret
  exact ⟨by first | rfl | (simp; done) | (simp [*]; done), by repeat (first | exact Drawn0.refl _ | apply Drawn0.step)⟩
 ·rw [if_neg c2] at H
  have c2b0 : ((l0.length : Int) == 0) = false := beq_eq_false_iff_ne.mpr c2
  have c2b1 : ((l0.length : Int) != 0) = true := bne_iff_ne.mpr c2
  have c2b2 : ¬ (l0 = []) := fun h_ => c2 (by rw [h_]; rfl)
  by_cases c3 : 0 < (l0.length : Int)
  ·rw [if_pos c3] at H
   have c3b0 : decide (0 < (l0.length : Int)) = true := decide_eq_true c3
   have c3b1 : decide (0 < l0.length) = true := decide_eq_true (by omega)
   clear c3
   obtain rfl := Option.some.inj H
   have p223 : 0 ≤ (0 : Int) := (by omega)
   have q223 : 0 < (l0.length : Int) := of_decide_eq_true (by first | (with_reducible assumption) | assumption)
   obtain ⟨ad223, e223, hx223_0⟩ := Kd.at_int HR0.out 0 p223 q223
   cases e223
   have qi223 : (0 < l0.length) = True := eq_true (by omega)
   (try rw [show ((0 : Int)).toNat = 0 from rfl] at hx223_0)
   (try rw [Addr.add_zero'] at hx223_0)
   replace p223 := eq_true p223
   replace q223 := eq_true q223
   go_enter Try.func10, Try.ntmps10
   go_wp2
   go_ret
   exact ⟨by first | rfl | (simp; done) | (simp [*]; done), by repeat (first | exact Drawn0.refl _ | apply Drawn0.step)⟩
  ·rw [if_neg c3] at H
   exact absurd H (by simp)

/-! ### lychref1_Fold: function 19 -/
def lychref1_Fold.l0 : Nat → Int → Option (Int)
 | 0, _ => none
 | k + 1, x0 => if (x0 / 65536) = 0 then (some (IntKind.u16.wrap (x0))) else (lychref1_Fold.l0 k (((x0 / 65536) + (Go.bits .and .u32 x0 65535)) % 4294967296))
def lychref1_Fold.f (k : Nat) (a0 : Int) : Option (Int) := lychref1_Fold.l0 k a0
theorem lychref1_Fold.mono_l : ∀ k, (∀ y0, LeO (lychref1_Fold.l0 k y0) (lychref1_Fold.l0 (k + 1) y0))
 | 0 => fun _ r h => by simp [lychref1_Fold.l0] at h
 | k + 1 => by
  have ih0 := lychref1_Fold.mono_l k
  ·intro y0
   unfold lychref1_Fold.l0
   repeat' first
   | (with_reducible exact ih0 _)
   | (with_reducible exact LeO.refl _)
   | (with_reducible exact LeO.none _)
   | (with_reducible refine LeO.ite ?_ ?_)
   | (with_reducible refine LeO.bind ?_ (fun _ => ?_))
   | exact ih0 _
   | exact LeO.none _
   | refine LeO.ite ?_ ?_
   | refine LeO.bind ?_ (fun _ => ?_)
theorem lychref1_Fold.mono : ∀ a0 k, LeO (lychref1_Fold.f k a0) (lychref1_Fold.f (k + 1) a0) := by
 intro a0 k
 have ih0 := lychref1_Fold.mono_l k
 unfold lychref1_Fold.f
 repeat' first
   | (with_reducible exact ih0 _)
   | (with_reducible exact LeO.refl _)
   | (with_reducible exact LeO.none _)
   | (with_reducible refine LeO.ite ?_ ?_)
   | (with_reducible refine LeO.bind ?_ (fun _ => ?_))
   | exact ih0 _
   | exact LeO.none _
   | refine LeO.ite ?_ ?_
   | refine LeO.bind ?_ (fun _ => ?_)
set_option maxHeartbeats 8000000 in
set_option maxRecDepth 100000 in
theorem lychref1_Fold.calls (k : Nat) (a0 : Int) (r : Int) (w : World) (h : lychref1_Fold.f k a0 = some r) :
  Calls Try.prog 19 #[.int .u32 a0] w fun e w' => e = .returned (.int .u16 r) ∧ Drawn0 w w' := by
 have H : (lychref1_Fold.l0 k a0) = some r := h
 clear h
 have H' := Aside0.mk H
 clear H
 go_enter Try.func19, Try.ntmps19
 go_wp2
 go_loopg [0] k (fun kq v0 w' => ∃ (x0_1 : Int), v0 = .int .u32 x0_1 ∧ Aside0 (lychref1_Fold.l0 kq x0_1 = some r) ∧ Aside0 (kq ≤ k) ∧ Drawn0 w w')
 case atStart => exact ⟨(a0), (by first | rfl | (simp; done) | (simp [*]; done)), H', ⟨Nat.le_refl _⟩, by repeat (first | exact Drawn0.refl _ | apply Drawn0.step)⟩
 case round =>
  clear H'
  try clear c1
  obtain ⟨x0_1, rfl, HA, HK1, ⟨m1, rfl⟩⟩ := hrel
  cases gk with
  | zero => exact absurd HA.out (by simp [lychref1_Fold.l0])
  | succ k1 =>
   have H := HA.out
   clear HA
   simp only [lychref1_Fold.l0] at H
   by_cases c2 : (x0_1 / 65536) = 0
   ·rw [if_pos c2] at H
    have c2b0 : ((x0_1 / 65536) == 0) = true := beq_iff_eq.mpr c2
    have c2b1 : ((x0_1 / 65536) != 0) = false := bne_eq_false_iff_eq.mpr c2
    clear c2
    obtain rfl := Option.some.inj H
    go_wp2
    go_ret
    exact ⟨by first | rfl | (simp; done) | (simp [*]; done), by repeat (first | exact Drawn0.refl _ | apply Drawn0.step)⟩
   ·rw [if_neg c2] at H
    have c2b0 : ((x0_1 / 65536) == 0) = false := beq_eq_false_iff_ne.mpr c2
    have c2b1 : ((x0_1 / 65536) != 0) = true := bne_iff_ne.mpr c2
    have H' := Aside0.mk H
    clear H
    go_wp2
    go_roundg k1
    case measure => have := HK1.out; omega
    case rel => exact ⟨(((x0_1 / 65536) + (Go.bits .and .u32 x0_1 65535)) % 4294967296), (by first | rfl | (simp; done) | (simp [*]; done)), H', ⟨by have := HK1.out; omega⟩, by repeat (first | exact Drawn0.refl _ | apply Drawn0.step)⟩

end Go.Proofs.Ytmlmiiejifhfeaa.PA
