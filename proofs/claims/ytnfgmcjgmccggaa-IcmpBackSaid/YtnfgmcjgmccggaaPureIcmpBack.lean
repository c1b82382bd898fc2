/- IcmpBack, the plain statement: for every input the printed law returns true. -/
import Derived.Test.YtnfgmcjgmccggaaPAx6
import Derived.Test.YtnfgmcjgmccggaaStatIcmpBack
import Derived.Test.YtnfgmcjgmccggaaPureIcmpsC
namespace Go.Proofs.Ytnfgmcjgmccggaa.Pure
set_option linter.unusedVariables false
set_option linter.unusedSimpArgs false
open Go.RowKit Go.Proofs.Ytnfgmcjgmccggaa.PA Go.Proofs.YtnfgmcjgmccggaaW.PrintWords Go.Proofs.YtnfgmcjgmccggaaW.PrintLast
open Go.Proofs.Ytnfgmcjgmccggaa.Spec Go.Proofs.Ytnfgmcjgmccggaa.BytesEq

theorem IcmpBack : IcmpBackPure := by
  intro t c s r l ht hc hs hr _ hb
  have ht := u8_wf ht
  have hc := u8_wf hc
  have hs := u16_wf hs
  have hr := u32_wf hr
  have h := isB_wf hb
  obtain ⟨K, hK⟩ : ∃ K : Nat, 4000 ≤ K := ⟨4000, Nat.le_refl _⟩
  refine ⟨K, ?_⟩
  unfold lychlaw6_IcmpBack.f
  rw [iknown K (by omega)]
  simp only [Option.bind_some, if_true]
  by_cases hc2 : (l.length : Int) > 3000
  · rw [if_pos hc2]
  · rw [if_neg hc2, ibytes_eq _ _ _ _ (by omega), ribytes_eq _ _ _ _ (by omega), if_neg (by omega)]
    simp only [Option.bind_some]
    rw [iparse_eq (ibytes_isB ht hc h) (by rw [ibytes_length]; omega), imsg_ibytes hs hr]
    simp only [Option.bind_some, if_true, bytes_refl, icmp_refl]
end Go.Proofs.Ytnfgmcjgmccggaa.Pure
