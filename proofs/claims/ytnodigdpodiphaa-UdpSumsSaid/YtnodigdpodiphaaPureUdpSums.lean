/- UdpSums, the plain statement: for every input the printed law returns true. -/
import Derived.Test.YtnodigdpodiphaaPAx8
import Derived.Test.YtnodigdpodiphaaStatUdpSums
import Derived.Test.YtnodigdpodiphaaPureUdpsC
namespace Go.Proofs.Ytnodigdpodiphaa.Pure
set_option linter.unusedVariables false
set_option linter.unusedSimpArgs false
open Go.RowKit Go.Proofs.Ytnodigdpodiphaa.PA Go.Proofs.YtnodigdpodiphaaW.PrintWords Go.Proofs.YtnodigdpodiphaaW.PrintLast
open Go.Proofs.Ytnodigdpodiphaa.Spec Go.Proofs.Ytnodigdpodiphaa.BytesEq

theorem UdpSums : UdpSumsPure := by
  intro a b s d c l o ha hb hs hd hc _ hB ho
  have ha := u32_wf ha
  have hb := u32_wf hb
  have hs := u16_wf hs
  have hd := u16_wf hd
  have hc := u16_wf hc
  have ho := u16_wf ho
  have h := isB_wf hB
  obtain ⟨K, hK⟩ : ∃ K : Nat, 4000 ≤ K := ⟨4000, Nat.le_refl _⟩
  refine ⟨K + 1, ?_⟩
  unfold lychlaw4_UdpSums.f
  rw [uknown (K + 1) (by omega)]
  simp only [Option.bind_some, if_true]
  by_cases hc2 : (l.length : Int) > 3000
  · rw [if_pos hc2]
  · have hS := usumS_pos (s := s) (d := d) ha.1 hb.1 hs.1 hd.1 h
    have hu := usum_range hS
    rw [if_neg hc2, usum_eq ha hb hs hd h (by omega) (K + 1) (by omega), rusum_eq ha hb hs hd h (by omega) (K + 1) (by omega), uright_eq ha hb hs hd hc h (by omega) (K + 1) (by omega), ruright_eq ha hb hs hd hc h (by omega) (K + 1) (by omega)]
    simp only [Option.bind_some, if_true, bne_self_eq_false, lychlaw4_UdpSums.j0]
    rw [if_neg (by decide), rubytes_eq _ _ _ (by omega), if_neg (by omega)]
    simp only [Option.bind_some, if_true]
    rw [uright_eq ha hb hs hd (by omega) h (by omega) K hK, uright_eq ha hb hs hd ho h (by omega) K hK]
    simp only [Option.bind_some]
    rw [if_pos (by simp)]
    by_cases e : o = usum (usumS a b s d l)
    · rw [if_pos e, decide_eq_true (.inr e)]
      rfl
    · rw [if_neg e]
      congr 1
      simp only [e, or_false]
      by_cases z : o = 0 <;> simp [z]
end Go.Proofs.Ytnodigdpodiphaa.Pure
