/- IcmpGreat, the plain statement: for every input the printed law returns true. -/
import Derived.Test.YtnfgmcjgmccggaaPAx11
import Derived.Test.YtnfgmcjgmccggaaPureIcmpsC
namespace Go.Proofs.Ytnfgmcjgmccggaa.Pure
set_option linter.unusedVariables false
set_option linter.unusedSimpArgs false
open Go.RowKit Go.Proofs.Ytnfgmcjgmccggaa.PA Go.Proofs.YtnfgmcjgmccggaaW.PrintWords Go.Proofs.YtnfgmcjgmccggaaW.PrintLast
open Go.Proofs.Ytnfgmcjgmccggaa.Spec Go.Proofs.Ytnfgmcjgmccggaa.BytesEq

theorem IcmpGreat : lychlaw6_IcmpGreat.Pure := by
  intro n hn
  have hn := i64_wf hn
  obtain ⟨K, hK⟩ : ∃ K : Nat, 100 ≤ K := ⟨100, Nat.le_refl _⟩
  refine ⟨K, ?_⟩
  obtain ⟨p, hp, hp5⟩ := place_eq n 5 (by omega) (by omega) hn
  unfold lychlaw6_IcmpGreat.f
  rw [iknown K hK, Option.bind_some, if_pos rfl, hp, Option.bind_some]
  obtain ⟨q, hq⟩ : ∃ q : Int, q = 65505 + (p : Int) := ⟨_, rfl⟩
  have e1 : wrap64 (65505 + (p : Int)) = q := by rw [wrap64_id (by omega) (by omega), hq]
  have e2 : wrap64 (q + 8) = q + 8 := wrap64_id (by omega) (by omega)
  obtain ⟨z, hz⟩ : ∃ z, z = List.replicate q.toNat (0 : Int) := ⟨_, rfl⟩
  have hl : (z.length : Int) = q := by rw [hz, List.length_replicate]; omega
  rw [e1, e2, ← hz]
  clear hz
  rw [if_pos (by omega), if_pos (by omega), ibytes_eq _ _ _ _ (by omega)]
  by_cases h : q > 65507
  · rw [if_pos (by omega)]
    simp only [Option.bind_some]
    rw [if_pos h, isumf_big _ _ _ _ _ _ (by omega) (by omega)]
    simp
  · rw [if_neg (by omega)]
    simp only [Option.bind_some, if_true]
    rw [if_neg h]
    congr 1
    rw [beq_iff_eq, ibytes_length]
    omega
end Go.Proofs.Ytnfgmcjgmccggaa.Pure
