/- TcpReads, the plain statement: for every input the printed law returns true. -/
import Derived.Test.YtnodigdpodiphaaPAx18
import Derived.Test.YtnodigdpodiphaaPureTcpsC
namespace Go.Proofs.Ytnodigdpodiphaa.Pure
set_option linter.unusedVariables false
set_option linter.unusedSimpArgs false
open Go.RowKit Go.Proofs.Ytnodigdpodiphaa.PA Go.Proofs.YtnodigdpodiphaaW.PrintWords Go.Proofs.YtnodigdpodiphaaW.PrintLast
open Go.Proofs.Ytnodigdpodiphaa.Spec Go.Proofs.Ytnodigdpodiphaa.BytesEq

theorem TcpReads : lychlaw5_TcpReads.Pure := by
  intro l _ hl hb
  have h := isB_wf hb
  obtain ⟨K, hK⟩ : ∃ K : Nat, 4000 ≤ K := ⟨4000, Nat.le_refl _⟩
  refine ⟨K, ?_⟩
  unfold lychlaw5_TcpReads.f
  rw [tknown K (by omega)]
  simp only [Option.bind_some, if_true]
  by_cases hc : (l.length : Int) > 3000
  · rw [if_pos hc]
  · rw [if_neg hc, tparse_eq h (by omega), rtparse_eq h (by omega)]
    simp only [Option.bind_some, if_true, tcp_refl]
end Go.Proofs.Ytnodigdpodiphaa.Pure
