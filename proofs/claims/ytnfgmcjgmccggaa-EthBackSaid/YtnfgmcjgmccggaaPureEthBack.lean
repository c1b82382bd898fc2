/- EthBack, the plain statement: for every input the printed law returns true. -/
import Derived.Test.YtnfgmcjgmccggaaPAx13
import Derived.Test.YtnfgmcjgmccggaaStatEthBack
import Derived.Test.YtnfgmcjgmccggaaPureEthsC
namespace Go.Proofs.Ytnfgmcjgmccggaa.Pure
set_option linter.unusedVariables false
set_option linter.unusedSimpArgs false
open Go.RowKit Go.Proofs.Ytnfgmcjgmccggaa.PA Go.Proofs.YtnfgmcjgmccggaaW.PrintWords Go.Proofs.YtnfgmcjgmccggaaW.PrintLast
open Go.Proofs.Ytnfgmcjgmccggaa.Spec Go.Proofs.Ytnfgmcjgmccggaa.BytesEq

theorem EthBack : EthBackPure := by
  intro a0 a1 a2 a3 a4 a5 a6 a7 a8 a9 a10 a11 t l m ha0 ha1 ha2 ha3 ha4 ha5 ha6 ha7 ha8 ha9 ha10 ha11 ht _ hl hm
  have ht := u16_wf ht
  have hl := isB_wf hl
  have hm := u16_wf hm
  have ha0 := u8_wf ha0
  have ha1 := u8_wf ha1
  have ha2 := u8_wf ha2
  have ha3 := u8_wf ha3
  have ha4 := u8_wf ha4
  have ha5 := u8_wf ha5
  have ha6 := u8_wf ha6
  have ha7 := u8_wf ha7
  have ha8 := u8_wf ha8
  have ha9 := u8_wf ha9
  have ha10 := u8_wf ha10
  have ha11 := u8_wf ha11
  refine ⟨101, ?_⟩
  unfold lychlaw2_EthBack.f
  rw [eknown, Option.bind_some, if_pos rfl]
  by_cases c1 : (l.length : Int) > 2000
  · rw [if_pos c1]
  · have em : Int.tmod m 1700 = m % 1700 := Int.tmod_eq_emod_of_nonneg hm.1
    obtain ⟨z, hz⟩ : ∃ z, z = l ++ List.replicate (m % 1700).toNat (0 : Int) := ⟨_, rfl⟩
    have hzB : IsB z := by rw [hz]; exact hl.append (IsB.replicate _)
    have hzl : z.length ≤ 1000000000 := by rw [hz, List.length_append, List.length_replicate]; omega
    rw [if_neg c1, if_pos (by rw [List.length_nil]; omega), Option.bind_some, List.nil_append, em, if_pos (by omega), if_pos (by omega), Option.bind_some, ← hz]
    clear hz
    rw [ebytes_eq hzl 101 (by omega), Option.bind_some, rebytes_eq hzl, Option.bind_some, if_pos rfl, bytes_refl, Option.bind_some, lychlaw2_EthBack.j0, if_neg (by decide)]
    by_cases c2 : (z.length : Int) > 1586
    · have e : eout a0 a1 a2 a3 a4 a5 a6 a7 a8 a9 a10 a11 t z = ([], 23) := by unfold eout; rw [if_pos c2]
      rw [e, if_neg (by decide), decide_eq_true c2]
    · have e : eout a0 a1 a2 a3 a4 a5 a6 a7 a8 a9 a10 a11 t z = (ebytes a0 a1 a2 a3 a4 a5 a6 a7 a8 a9 a10 a11 t z, 0) := by unfold eout; rw [if_neg c2]
      have hB : IsB (ebytes a0 a1 a2 a3 a4 a5 a6 a7 a8 a9 a10 a11 t z) := by
        unfold ebytes
        refine IsB.append ?_ (IsB.append ?_ (IsB.append ?_ hzB))
        · repeat (first | exact .nil | refine .cons (by omega) ?_)
        · repeat (first | exact .nil | refine .cons (by omega) ?_)
        · repeat (first | exact .nil | refine .cons (by omega) ?_)
      have hL : (ebytes a0 a1 a2 a3 a4 a5 a6 a7 a8 a9 a10 a11 t z).length = 14 + z.length := ebytes_length
      rw [e, if_pos rfl, eparse_eq hB (by rw [hL]; omega), Option.bind_some, eseg_bytes ht (by omega)]
      dsimp only
      rw [if_pos rfl, eth_refl, Option.bind_some]
end Go.Proofs.Ytnfgmcjgmccggaa.Pure
