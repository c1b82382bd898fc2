/- EthOnce, the plain statement: for every input the printed law returns true. -/
import Derived.Test.YtnfgmcjgmccggaaPAx14
import Derived.Test.YtnfgmcjgmccggaaPureEthsC
namespace Go.Proofs.Ytnfgmcjgmccggaa.Pure
set_option linter.unusedVariables false
set_option linter.unusedSimpArgs false
open Go.RowKit Go.Proofs.Ytnfgmcjgmccggaa.PA Go.Proofs.YtnfgmcjgmccggaaW.PrintWords Go.Proofs.YtnfgmcjgmccggaaW.PrintLast
open Go.Proofs.Ytnfgmcjgmccggaa.Spec Go.Proofs.Ytnfgmcjgmccggaa.BytesEq

theorem EthOnce : lychlaw2_EthOnce.Pure := by
  intro l _ hl hb
  have h := isB_wf hb
  refine ⟨100, ?_⟩
  unfold lychlaw2_EthOnce.f
  rw [eknown, Option.bind_some, if_pos rfl]
  by_cases hc : (l.length : Int) > 2000
  · rw [if_pos hc]
  · rw [if_neg hc, eparse_eq h (by omega), Option.bind_some]
    by_cases c1 : (l.length : Int) > 1600
    · have e : eseg l = (0, 0, 0, 0, 0, 0, 0, 0, 0, 0, 0, 0, 0, [], 23) := by unfold eseg; rw [if_pos c1]
      rw [e, if_neg (by decide)]
    · by_cases c2 : (l.length : Int) < 14
      · have e : eseg l = (0, 0, 0, 0, 0, 0, 0, 0, 0, 0, 0, 0, 0, [], 20) := by unfold eseg; rw [if_neg c1, if_pos c2]
        rw [e, if_neg (by decide)]
      · have e : eseg l = (l.getD 0 0, l.getD 1 0, l.getD 2 0, l.getD 3 0, l.getD 4 0, l.getD 5 0, l.getD 6 0, l.getD 7 0, l.getD 8 0, l.getD 9 0, l.getD 10 0, l.getD 11 0, g16 l 12, l.drop 14, 0) := by unfold eseg; rw [if_neg c1, if_neg c2]
        have hd : ((l.drop 14).length : Int) ≤ 1586 := by rw [List.length_drop]; omega
        have eo : eout (l.getD 0 0) (l.getD 1 0) (l.getD 2 0) (l.getD 3 0) (l.getD 4 0) (l.getD 5 0) (l.getD 6 0) (l.getD 7 0) (l.getD 8 0) (l.getD 9 0) (l.getD 10 0) (l.getD 11 0) (g16 l 12) (l.drop 14) = (l, 0) := by
          unfold eout
          rw [if_neg (by omega), ebytes_eseg l h (by omega)]
        rw [e]
        dsimp only
        rw [if_pos rfl, ebytes_eq (by omega) 100 (by omega), Option.bind_some, eo]
        dsimp only
        rw [if_pos rfl, bytes_refl, Option.bind_some]
end Go.Proofs.Ytnfgmcjgmccggaa.Pure
