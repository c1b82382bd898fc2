/- IcmpKinds, the plain statement: for every input the printed law returns true. -/
import Derived.Test.YtnfgmcjgmccggaaPAx7
import Derived.Test.YtnfgmcjgmccggaaPureIcmpsC
namespace Go.Proofs.Ytnfgmcjgmccggaa.Pure
set_option linter.unusedVariables false
set_option linter.unusedSimpArgs false
open Go.RowKit Go.Proofs.Ytnfgmcjgmccggaa.PA Go.Proofs.YtnfgmcjgmccggaaW.PrintWords Go.Proofs.YtnfgmcjgmccggaaW.PrintLast
open Go.Proofs.Ytnfgmcjgmccggaa.Spec Go.Proofs.Ytnfgmcjgmccggaa.BytesEq

theorem IcmpKinds : lychlaw6_IcmpKinds.Pure := by
  intro t c r ht hc hr
  obtain ⟨K, hK⟩ : ∃ K : Nat, 4000 ≤ K := ⟨4000, Nat.le_refl _⟩
  refine ⟨K, ?_⟩
  unfold lychlaw6_IcmpKinds.f
  rw [iknown K (by omega)]
  unfold icmp_Echo.f icmp_Error.f icmp_kind.f
  simp only [Option.bind_some, if_true]
  by_cases h0 : t = 0
  · subst h0; simp
  · by_cases h8 : t = 8
    · subst h8; simp
    · by_cases h3 : t = 3
      · subst h3; simp
      · by_cases h11 : t = 11
        · subst h11; simp
        · by_cases h12 : t = 12
          · subst h12; simp
          · simp [h0, h8, h3, h11, h12]
end Go.Proofs.Ytnfgmcjgmccggaa.Pure
