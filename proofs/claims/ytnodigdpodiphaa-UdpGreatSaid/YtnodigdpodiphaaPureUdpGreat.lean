/- UdpGreat, the plain statement: for every input the printed law returns true. -/
import Derived.Test.YtnodigdpodiphaaPAx10
import Derived.Test.YtnodigdpodiphaaPureUdpsC
namespace Go.Proofs.Ytnodigdpodiphaa.Pure
set_option linter.unusedVariables false
set_option linter.unusedSimpArgs false
open Go.RowKit Go.Proofs.Ytnodigdpodiphaa.PA Go.Proofs.YtnodigdpodiphaaW.PrintWords Go.Proofs.YtnodigdpodiphaaW.PrintLast
open Go.Proofs.Ytnodigdpodiphaa.Spec Go.Proofs.Ytnodigdpodiphaa.BytesEq

theorem UdpGreat : lychlaw4_UdpGreat.Pure := by
  intro n hn
  have hn := i64_wf hn
  obtain ⟨K, hK⟩ : ∃ K : Nat, 100 ≤ K := ⟨100, Nat.le_refl _⟩
  refine ⟨K, ?_⟩
  obtain ⟨p, hp, hp5⟩ := place_eq n 5 (by omega) (by omega) hn
  unfold lychlaw4_UdpGreat.f
  rw [uknown K hK, Option.bind_some, if_pos rfl, hp, Option.bind_some]
  obtain ⟨q, hq⟩ : ∃ q : Int, q = 65525 + (p : Int) := ⟨_, rfl⟩
  have e1 : wrap64 (65525 + (p : Int)) = q := by rw [wrap64_id (by omega) (by omega), hq]
  have e2 : wrap64 (q + 8) = q + 8 := wrap64_id (by omega) (by omega)
  obtain ⟨z, hz⟩ : ∃ z, z = List.replicate q.toNat (0 : Int) := ⟨_, rfl⟩
  have hl : (z.length : Int) = q := by rw [hz, List.length_replicate]; omega
  rw [e1, e2, ← hz]
  clear hz
  rw [if_pos (by omega), if_pos (by omega), ubytes_eq _ _ _ (by omega)]
  by_cases h : q > 65527
  · rw [if_pos (by omega), Option.bind_some, if_pos h]
    simp
  · rw [if_neg (by omega), Option.bind_some, if_neg h]
    simp only [if_true]
    congr 1
    rw [beq_iff_eq, ubytes_length]
    omega
end Go.Proofs.Ytnodigdpodiphaa.Pure
