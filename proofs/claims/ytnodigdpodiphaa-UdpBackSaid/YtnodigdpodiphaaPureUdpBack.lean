/- UdpBack, the plain statement: for every input the printed law returns true. -/
import Derived.Test.YtnodigdpodiphaaPAx6
import Derived.Test.YtnodigdpodiphaaStatUdpBack
import Derived.Test.YtnodigdpodiphaaPureUdpsC
namespace Go.Proofs.Ytnodigdpodiphaa.Pure
set_option linter.unusedVariables false
set_option linter.unusedSimpArgs false
open Go.RowKit Go.Proofs.Ytnodigdpodiphaa.PA Go.Proofs.YtnodigdpodiphaaW.PrintWords Go.Proofs.YtnodigdpodiphaaW.PrintLast
open Go.Proofs.Ytnodigdpodiphaa.Spec Go.Proofs.Ytnodigdpodiphaa.BytesEq

theorem UdpBack : UdpBackPure := by
  intro s d c l hs hd hc _ hb
  have hs := u16_wf hs
  have hd := u16_wf hd
  have hc := u16_wf hc
  have h := isB_wf hb
  obtain ⟨K, hK⟩ : ∃ K : Nat, 4000 ≤ K := ⟨4000, Nat.le_refl _⟩
  refine ⟨K + 1, ?_⟩
  unfold lychlaw4_UdpBack.f
  rw [uknown (K + 1) (by omega)]
  simp only [Option.bind_some, if_true]
  by_cases hc2 : (l.length : Int) > 3000
  · rw [if_pos hc2]
  · rw [if_neg hc2, ubytes_eq _ _ _ (by omega), rubytes_eq _ _ _ (by omega), if_neg (by omega)]
    simp only [Option.bind_some, if_true, bytes_refl, bne_self_eq_false, lychlaw4_UdpBack.j0]
    rw [if_neg (by decide), uparse_eq (ubytes_isB h) (by rw [ubytes_length]; omega), udg_ubytes hs hd hc (by omega)]
    simp only [Option.bind_some, if_true, udp_refl]
end Go.Proofs.Ytnodigdpodiphaa.Pure
