/- EthReads, the plain statement: for every input the printed law returns true. -/
import Derived.Test.YtnfgmcjgmccggaaPAx8
import Derived.Test.YtnfgmcjgmccggaaPureEthsC
namespace Go.Proofs.Ytnfgmcjgmccggaa.Pure
set_option linter.unusedVariables false
set_option linter.unusedSimpArgs false
open Go.RowKit Go.Proofs.Ytnfgmcjgmccggaa.PA Go.Proofs.YtnfgmcjgmccggaaW.PrintWords Go.Proofs.YtnfgmcjgmccggaaW.PrintLast
open Go.Proofs.Ytnfgmcjgmccggaa.Spec Go.Proofs.Ytnfgmcjgmccggaa.BytesEq

theorem EthReads : lychlaw2_EthReads.Pure := by
  intro l a _ hl hb ha
  have h := isB_wf hb
  have ha := u16_wf ha
  unfold lychlaw2_EthReads.f
  rw [eknown, Option.bind_some, if_pos rfl]
  by_cases hc : (l.length : Int) > 2000
  · rw [if_pos hc]
  · have em : Int.tmod a 2000 = a % 2000 := Int.tmod_eq_emod_of_nonneg ha.1
    obtain ⟨z, hz⟩ : ∃ z, z = l ++ List.replicate (a % 2000).toNat (0 : Int) := ⟨_, rfl⟩
    have hzB : IsB z := by rw [hz]; exact h.append (IsB.replicate _)
    have hzl : z.length ≤ 1000000000 := by rw [hz, List.length_append, List.length_replicate]; omega
    rw [if_neg hc, if_pos (by rw [List.length_nil]; omega), Option.bind_some, List.nil_append, em, if_pos (by omega), if_pos (by omega), Option.bind_some, ← hz]
    clear hz
    rw [eparse_eq hzB hzl, Option.bind_some, reparse_eq hzB hzl, Option.bind_some, if_pos rfl, eth_refl, Option.bind_some]
end Go.Proofs.Ytnfgmcjgmccggaa.Pure
