/- TcpGreat, the plain statement: for every input the printed law returns true. -/
import Derived.Test.YtnodigdpodiphaaPAx22
import Derived.Test.YtnodigdpodiphaaPureTcpsC
namespace Go.Proofs.Ytnodigdpodiphaa.Pure
set_option linter.unusedVariables false
set_option linter.unusedSimpArgs false
open Go.RowKit Go.Proofs.Ytnodigdpodiphaa.PA Go.Proofs.YtnodigdpodiphaaW.PrintWords Go.Proofs.YtnodigdpodiphaaW.PrintLast
open Go.Proofs.Ytnodigdpodiphaa.Spec Go.Proofs.Ytnodigdpodiphaa.BytesEq

theorem TcpGreat : lychlaw5_TcpGreat.Pure := by
  intro n hn
  have hn := i64_wf hn
  obtain ⟨K, hK⟩ : ∃ K : Nat, 100 ≤ K := ⟨100, Nat.le_refl _⟩
  refine ⟨K, ?_⟩
  obtain ⟨p, hp, hp5⟩ := place_eq n 5 (by omega) (by omega) hn
  unfold lychlaw5_TcpGreat.f
  rw [tknown K hK, Option.bind_some, if_pos rfl, hp, Option.bind_some]
  obtain ⟨q, hq⟩ : ∃ q : Int, q = 65493 + (p : Int) := ⟨_, rfl⟩
  have e1 : wrap64 (65493 + (p : Int)) = q := by rw [wrap64_id (by omega) (by omega), hq]
  have e2 : wrap64 (q + 20) = q + 20 := wrap64_id (by omega) (by omega)
  obtain ⟨z, hz⟩ : ∃ z, z = List.replicate q.toNat (0 : Int) := ⟨_, rfl⟩
  have hl : (z.length : Int) = q := by rw [hz, List.length_replicate]; omega
  rw [e1, e2, ← hz]
  clear hz
  rw [if_pos (by omega), if_pos (by omega), tbytes_eq (by decide) (by omega) _ (by omega), Option.bind_some]
  have hne : ¬ ((([] : List Int).length : Int) % 4 ≠ 0 ∨ (([] : List Int).length : Int) > 40) := by simp
  have ht : tout 0 0 0 0 0 0 0 0 [] z = if q > 65495 then ([], 23) else (tbytes 0 0 0 0 0 0 0 0 [] z, 0) := by
    unfold tout
    rw [if_neg hne, hl, List.length_nil]
    by_cases h : q > 65495
    · rw [if_pos h, if_pos (by omega)]
    · rw [if_neg h, if_neg (by omega)]
  by_cases h : q > 65495
  · rw [if_pos h] at ht
    rw [ht, if_pos h]
    rfl
  · rw [if_neg h] at ht
    rw [ht, if_neg h, if_pos rfl]
    congr 1
    rw [beq_iff_eq]
    unfold tbytes
    rw [List.length_append, thead_length, List.nil_append]
    omega
end Go.Proofs.Ytnodigdpodiphaa.Pure
