/- IcmpReads, the plain statement: for every input the printed law returns true. -/
import Derived.Test.YtnfgmcjgmccggaaPAx4
import Derived.Test.YtnfgmcjgmccggaaPureIcmpsC
namespace Go.Proofs.Ytnfgmcjgmccggaa.Pure
set_option linter.unusedVariables false
set_option linter.unusedSimpArgs false
open Go.RowKit Go.Proofs.Ytnfgmcjgmccggaa.PA Go.Proofs.YtnfgmcjgmccggaaW.PrintWords Go.Proofs.YtnfgmcjgmccggaaW.PrintLast
open Go.Proofs.Ytnfgmcjgmccggaa.Spec Go.Proofs.Ytnfgmcjgmccggaa.BytesEq

theorem IcmpReads : lychlaw6_IcmpReads.Pure := by
  intro l _ hl hb
  have h := isB_wf hb
  obtain ⟨K, hK⟩ : ∃ K : Nat, 4000 ≤ K := ⟨4000, Nat.le_refl _⟩
  refine ⟨K, ?_⟩
  unfold lychlaw6_IcmpReads.f
  rw [iknown K (by omega)]
  simp only [Option.bind_some, if_true]
  by_cases hc : (l.length : Int) > 3000
  · rw [if_pos hc]
  · rw [if_neg hc, iparse_eq h (by omega), riparse_eq h (by omega)]
    simp only [Option.bind_some, if_true, icmp_refl]
    obtain ⟨x, e1, e2⟩ := echo_eq (imsg l).1 (imsg l).2.1 (imsg l).2.2.1 (imsg l).2.2.2.1 (imsg l).2.2.1 (imsg l).2.2.2.1 (imsg l).2.2.2.2.1 (imsg l).2.2.2.2.1
    obtain ⟨y, e3, e4⟩ := error_eq (imsg l).1 (imsg l).2.1 (imsg l).2.2.1 (imsg l).2.2.2.1 (imsg l).2.1 (imsg l).2.2.1 (imsg l).2.2.2.1 (imsg l).2.2.2.2.1 (imsg l).2.2.2.2.1
    rw [e1, e2]
    simp only [Option.bind_some, beq_self_eq_true, if_true]
    rw [e3, e4]
    simp only [Option.bind_some, beq_self_eq_true]
end Go.Proofs.Ytnfgmcjgmccggaa.Pure
