-- written by a patched print
import Derived.Test.YtnodigdpodiphaaPAx0
namespace Go.Proofs.Ytnodigdpodiphaa.PA
open Go.RowKit Go.Proofs.YtnodigdpodiphaaW.PrintWords Go.Proofs.YtnodigdpodiphaaW.PrintLast Go.Proofs.YtnodigdpodiphaaW.PrintMore
attribute [local go_sem] max2_int min2_int max_two min_two max_three min_three max_four min_four   -- for this text's walks alone
set_option linter.unusedVariables false
set_option linter.unusedSimpArgs false

/-! ### tcp_two: function 42 -/
def tcp_two.f (l0 : List Int) : Option (Int) := if 0 < (l0.length : Int) then (if 1 < (l0.length : Int) then (some (Go.bits .or .u16 (IntKind.u16.wrap ((IntKind.u16.wrap (rd l0 0)) * 256)) (IntKind.u16.wrap (rd l0 1)))) else (none)) else (none)
set_option maxHeartbeats 8000000 in
set_option maxRecDepth 100000 in
theorem tcp_two.calls (A0 : Option Addr) (c0 : Nat) (l0 : List Int) (r : Int) (w : World) (hr0 : Kd.C (Kd.int .u8) w A0 l0.length l0) (hc0 : l0.length ≤ c0) (h : tcp_two.f l0 = some r) :
    Calls Try.prog 42 #[.slice A0 l0.length c0] w fun e w' => e = .returned (.int .u16 r) ∧ Drawn0 w w' := by
  have HR0 := Aside0.mk hr0
  have HC0 := Aside0.mk hc0
  clear hr0 hc0
  have H : (if 0 < (l0.length : Int) then (if 1 < (l0.length : Int) then (some (Go.bits .or .u16 (IntKind.u16.wrap ((IntKind.u16.wrap (rd l0 0)) * 256)) (IntKind.u16.wrap (rd l0 1)))) else (none)) else (none)) = some r := h
  clear h
  by_cases c2 : 0 < (l0.length : Int)
  · rw [if_pos c2] at H
    have c2b0 : decide (0 < (l0.length : Int)) = true := decide_eq_true c2
    have c2b1 : decide (0 < l0.length) = true := decide_eq_true (by omega)
    clear c2
    by_cases c3 : 1 < (l0.length : Int)
    · rw [if_pos c3] at H
      have c3b0 : decide (1 < (l0.length : Int)) = true := decide_eq_true c3
      have c3b1 : decide (1 < l0.length) = true := decide_eq_true (by omega)
      clear c3
      obtain rfl := Option.some.inj H
      have p328 : 0 ≤ (0 : Int) := (by omega)
      have q328 : 0 < (l0.length : Int) := of_decide_eq_true (by first | (with_reducible assumption) | assumption)
      obtain ⟨ad328, e328, hx328_0⟩ := Kd.at_int HR0.out 0 p328 q328
      cases e328
      have qi328 : (0 < l0.length) = True := eq_true (by omega)
      (try rw [show ((0 : Int)).toNat = 0 from rfl] at hx328_0)
      (try rw [Addr.add_zero'] at hx328_0)
      replace p328 := eq_true p328
      replace q328 := eq_true q328
      have p329 : 0 ≤ (1 : Int) := (by omega)
      have q329 : 1 < (l0.length : Int) := of_decide_eq_true (by first | (with_reducible assumption) | assumption)
      obtain ⟨ad329, e329, hx329_0⟩ := Kd.at_int HR0.out 1 p329 q329
      obtain rfl : ad328 = ad329 := (by injection e329)
      (try simp only [show (1 : Int).toNat = 1 from rfl, Nat.reduceMul, Nat.reduceEqDiff, Go.Addr.add, ↓reduceIte] at hx329_0)
      have qi329 : (1 < l0.length) = True := eq_true (by omega)
      (try rw [show ((1 : Int)).toNat = 1 from rfl] at hx329_0)
      replace p329 := eq_true p329
      replace q329 := eq_true q329
      go_enter Try.func42, Try.ntmps42
      go_wp2
      repeat (go_quiet (fail); try go_wp2)
      go_ret
      exact ⟨by first | rfl | (simp; done) | (simp [*]; done), by repeat (first | exact Drawn0.refl _ | apply Drawn0.step)⟩
    · rw [if_neg c3] at H
      exact absurd H (by simp)
  · rw [if_neg c2] at H
    exact absurd H (by simp)

/-! ### tcp_four: function 43 -/
def tcp_four.f (l0 : List Int) : Option (Int) := if 4 ≤ l0.length then ((tcp_two.f ((l0.take 2).drop 0)).bind fun t1 => (tcp_two.f ((l0.take 4).drop 2)).bind fun t2 => some (Go.bits .or .u32 (((t1 % 4294967296) * 65536) % 4294967296) (t2 % 4294967296))) else none
set_option maxHeartbeats 8000000 in
set_option maxRecDepth 100000 in
theorem tcp_four.calls (A0 : Option Addr) (c0 : Nat) (l0 : List Int) (r : Int) (w : World) (hr0 : Kd.C (Kd.int .u8) w A0 l0.length l0) (hc0 : l0.length ≤ c0) (h : tcp_four.f l0 = some r) :
    Calls Try.prog 43 #[.slice A0 l0.length c0] w fun e w' => e = .returned (.int .u32 r) ∧ Drawn0 w w' := by
  unfold tcp_four.f at h
  by_cases c4 : 4 ≤ l0.length
  · rw [if_pos c4] at h
    obtain ⟨t1, A1, h⟩ := Option.bind_eq_some_iff.mp h
    obtain ⟨t2, A2, h⟩ := Option.bind_eq_some_iff.mp h
    obtain rfl := Option.some.inj h
    clear h
    obtain ⟨i0, hi0, _, hsz, _⟩ := info_parts info5
    obtain ⟨B1, hcut1, hA1, hC1⟩ := print_mid3_of (P := Try.prog) (Value.int .u8) 0 22 5 .i64 .i64 .i64 Try.underlying22 hi0 hsz A0 c0 l0 0 2 (by omega) (by omega) (by omega) hc0
    obtain ⟨B2, hcut2, hA2, hC2⟩ := print_mid3_of (P := Try.prog) (Value.int .u8) 0 22 5 .i64 .i64 .i64 Try.underlying22 hi0 hsz A0 c0 l0 2 4 (by omega) (by omega) (by omega) hc0
    have e1 : ((l0.take (2 : Int).toNat).drop (0 : Int).toNat).length = 2 := by rw [List.length_drop, List.length_take]; simp; omega
    have e2 : ((l0.take (4 : Int).toNat).drop (2 : Int).toNat).length = 2 := by rw [List.length_drop, List.length_take]; simp; omega
    have r1 := Kd.C_of_reads (h1 := fun _ => rfl) (hA1 _ (Kd.reads_of_C hr0))
    have r2 := Kd.C_of_reads (h1 := fun _ => rfl) (hA2 _ (Kd.reads_of_C hr0))
    have T1 : ∀ n, Calls Try.prog 42 #[.slice B1 2 2] (w.drewN n) fun e w' => e = .returned (.int .u16 t1) ∧ Drawn0 (w.drewN n) w' := fun n => by
      have := tcp_two.calls B1 2 _ t1 (w.drewN n) (Kd.C_drewN r1 n) (by rw [e1]; exact Nat.le_refl _) A1
      rw [e1] at this
      exact this
    have T2 : ∀ n, Calls Try.prog 42 #[.slice B2 2 2] (w.drewN n) fun e w' => e = .returned (.int .u16 t2) ∧ Drawn0 (w.drewN n) w' := fun n => by
      have := tcp_two.calls B2 2 _ t2 (w.drewN n) (Kd.C_drewN r2 n) (by rw [e2]; exact Nat.le_refl _) A2
      rw [e2] at this
      exact this
    rw [e1] at hcut1
    rw [e2] at hcut2
    replace hcut1 : ∀ W : World, (Instr.slice 22 (.slice A0 l0.length c0) (some (.int .i64 0)) (some (.int .i64 2)) (some (.int .i64 2))).run Try.prog W = .ok (.slice B1 2 2) W := hcut1
    replace hcut2 : ∀ W : World, (Instr.slice 22 (.slice A0 l0.length c0) (some (.int .i64 2)) (some (.int .i64 4)) (some (.int .i64 4))).run Try.prog W = .ok (.slice B2 2 2) W := hcut2
    have H1 := Aside0.mk T1
    have H2 := Aside0.mk T2
    clear T1 T2 e1 e2 r1 r2 hA1 hA2 hC1 hC2 A1 A2 hr0 hi0 hsz
    go_enter Try.func43, Try.ntmps43
    go_wp2_with fail
    go_quiet ((first
      | (go_at_call 42; (with_reducible refine (H1.out _).mono ?_); rintro e w' ⟨rfl, ⟨nd, rfl⟩⟩; exact ⟨rfl, _, rfl⟩)
      | (go_at_call 42; (with_reducible refine (H2.out _).mono ?_); rintro e w' ⟨rfl, ⟨nd, rfl⟩⟩; exact ⟨rfl, _, rfl⟩)
      | (go_at_call 42; (with_reducible refine (H1.out _).mono ?_); rintro e w' ⟨rfl, ⟨nd, rfl⟩⟩; exact ⟨rfl, _, World.drewN_drewN _ _ _⟩)
      | (go_at_call 42; (with_reducible refine (H2.out _).mono ?_); rintro e w' ⟨rfl, ⟨nd, rfl⟩⟩; exact ⟨rfl, _, World.drewN_drewN _ _ _⟩)
      | (go_at_call 42; (with_reducible refine (H1.out _).mono ?_); rintro e w' ⟨rfl, ⟨nd, rfl⟩⟩; exact ⟨rfl, _, Eq.trans (World.drewN_drewN _ _ _) (congrArg (World.drewN _) (Nat.add_assoc _ _ _))⟩)
      | (go_at_call 42; (with_reducible refine (H2.out _).mono ?_); rintro e w' ⟨rfl, ⟨nd, rfl⟩⟩; exact ⟨rfl, _, Eq.trans (World.drewN_drewN _ _ _) (congrArg (World.drewN _) (Nat.add_assoc _ _ _))⟩)))
    go_wp2
    go_ret
    exact ⟨by first | rfl | (simp; done) | (simp [*]; done), by repeat (first | exact Drawn0.refl _ | apply Drawn0.step)⟩
  · rw [if_neg c4] at h
    cases h

end Go.Proofs.Ytnodigdpodiphaa.PA
