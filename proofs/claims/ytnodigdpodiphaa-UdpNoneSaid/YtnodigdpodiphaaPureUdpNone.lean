/- UdpNone, the plain statement: for every input the printed law returns true. -/
import Derived.Test.YtnodigdpodiphaaPAx12
import Derived.Test.YtnodigdpodiphaaStatUdpNone
import Derived.Test.YtnodigdpodiphaaPureUdpsC
namespace Go.Proofs.Ytnodigdpodiphaa.Pure
set_option linter.unusedVariables false
set_option linter.unusedSimpArgs false
open Go.RowKit Go.Proofs.Ytnodigdpodiphaa.PA Go.Proofs.YtnodigdpodiphaaW.PrintWords Go.Proofs.YtnodigdpodiphaaW.PrintLast
open Go.Proofs.Ytnodigdpodiphaa.Spec Go.Proofs.Ytnodigdpodiphaa.BytesEq

theorem UdpNone : UdpNonePure := by
  intro a b s d c l ha hb hs hd hc _ hB
  have ha := u32_wf ha
  have hb := u32_wf hb
  have hs := u16_wf hs
  have hd := u16_wf hd
  have h := isB_wf hB
  obtain ⟨K, hK⟩ : ∃ K : Nat, 4000 ≤ K := ⟨4000, Nat.le_refl _⟩
  refine ⟨K, ?_⟩
  unfold lychlaw4_UdpNone.f
  rw [uknown K (by omega)]
  simp only [Option.bind_some, if_true]
  by_cases hc2 : (l.length : Int) > 1000
  · rw [if_pos hc2]
  · have hS := usumS_pos (s := s) (d := d) ha.1 hb.1 hs.1 hd.1 h
    have hu := usum_range hS
    rw [if_neg hc2, usum_eq ha hb hs hd h (by omega) K hK, uright_eq ha hb hs hd (by omega) h (by omega) K hK]
    simp only [Option.bind_some]
    rw [if_pos (by simp)]
    congr 1
    rw [bne_iff_ne]; omega
end Go.Proofs.Ytnodigdpodiphaa.Pure
