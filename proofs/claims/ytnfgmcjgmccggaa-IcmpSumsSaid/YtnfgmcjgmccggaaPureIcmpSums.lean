/- IcmpSums, the plain statement: for every input the printed law returns true. -/
import Derived.Test.YtnfgmcjgmccggaaPAx9
import Derived.Test.YtnfgmcjgmccggaaStatIcmpSums
import Derived.Test.YtnfgmcjgmccggaaPureIcmpsC
namespace Go.Proofs.Ytnfgmcjgmccggaa.Pure
set_option linter.unusedVariables false
set_option linter.unusedSimpArgs false
open Go.RowKit Go.Proofs.Ytnfgmcjgmccggaa.PA Go.Proofs.YtnfgmcjgmccggaaW.PrintWords Go.Proofs.YtnfgmcjgmccggaaW.PrintLast
open Go.Proofs.Ytnfgmcjgmccggaa.Spec Go.Proofs.Ytnfgmcjgmccggaa.BytesEq

theorem IcmpSums : IcmpSumsPure := by
  intro t c s r l o ht hc hs hr _ hb ho
  have ht := u8_wf ht
  have hc := u8_wf hc
  have hs := u16_wf hs
  have hr := u32_wf hr
  have ho := u16_wf ho
  have h := isB_wf hb
  obtain ⟨K, hK⟩ : ∃ K : Nat, 4000 ≤ K := ⟨4000, Nat.le_refl _⟩
  refine ⟨K + 1, ?_⟩
  unfold lychlaw6_IcmpSums.f
  rw [iknown (K + 1) (by omega)]
  simp only [Option.bind_some, if_true]
  by_cases hc2 : (l.length : Int) > 3000
  · rw [if_pos hc2]
  · have hB := ibytes_isB (s := 0) (r := r) ht hc h
    have hr1 := iright_eq (s := s) (r := r) ht hc h (by omega) (K + 1) (by omega)
    have hr2 := iright_eq (s := ck (ibytes t c 0 r l)) (r := r) ht hc h (by omega) K hK
    have hr3 := iright_eq (s := o) (r := r) ht hc h (by omega) K hK
    rw [iown t c r l hB] at hr2
    rw [if_neg hc2, isumf_eq t c s r l (K + 1) (by omega) (by omega) hB, risumf_eq t c s r l (K + 1) (by omega) (by omega) hB, hr1.1, hr1.2]
    generalize ck (ibytes t c 0 r l) = x at hr2 ⊢
    simp only [Option.bind_some, if_true, bne_self_eq_false]
    simp only [lychlaw6_IcmpSums.j0]
    simp [hr2.1, hr2.2, hr3.1, hr3.2]
end Go.Proofs.Ytnfgmcjgmccggaa.Pure
