/- EthBounds, the plain statement: for every input the printed law returns true. -/
import Derived.Test.YtnfgmcjgmccggaaPAx15
import Derived.Test.YtnfgmcjgmccggaaPureEthsC
namespace Go.Proofs.Ytnfgmcjgmccggaa.Pure
set_option linter.unusedVariables false
set_option linter.unusedSimpArgs false
open Go.RowKit Go.Proofs.Ytnfgmcjgmccggaa.PA Go.Proofs.YtnfgmcjgmccggaaW.PrintWords Go.Proofs.YtnfgmcjgmccggaaW.PrintLast
open Go.Proofs.Ytnfgmcjgmccggaa.Spec Go.Proofs.Ytnfgmcjgmccggaa.BytesEq

theorem EthBounds : lychlaw2_EthBounds.Pure := by
  intro a ha
  have ha := u16_wf ha
  refine ⟨100, ?_⟩
  unfold lychlaw2_EthBounds.f
  have em : wrap64 (Int.tmod a 1700) = a % 1700 := by rw [Int.tmod_eq_emod_of_nonneg ha.1, wrap64_id (by omega) (by omega)]
  rw [eknown, Option.bind_some, if_pos rfl, em]
  obtain ⟨n, hn⟩ : ∃ n : Int, n = a % 1700 := ⟨_, rfl⟩
  have hn0 : 0 ≤ n ∧ n < 1700 := by omega
  rw [← hn]
  clear hn em
  obtain ⟨z, hz⟩ : ∃ z, z = List.replicate n.toNat (0 : Int) := ⟨_, rfl⟩
  have hzl : (z.length : Int) = n := by rw [hz, List.length_replicate]; omega
  have hzB : IsB z := by rw [hz]; exact IsB.replicate _
  have g2 : n.toNat ≤ 281474976710656 := by omega
  have ew : wrap64 (n + 14) = n + 14 := wrap64_id (by omega) (by omega)
  rw [← hz, ew]
  clear hz
  have hel : ∀ x : List Int × Int, x = eout 0 0 0 0 0 0 0 0 0 0 0 0 0 z → (((x.2 == 23) == (decide (n + 14 > 1600))) = true ∧ (x.2 = 0 → (some ((x.1.length : Int) == n + 14) : Option Bool) = some true)) := by
    intro x hx
    subst hx
    unfold eout
    rw [hzl]
    by_cases c : n > 1586
    · rw [if_pos c, decide_eq_true (by omega)]
      exact ⟨rfl, fun h => absurd h (by decide)⟩
    · rw [if_neg c, decide_eq_false (by omega)]
      refine ⟨rfl, fun _ => ?_⟩
      congr 1
      rw [beq_iff_eq, ebytes_length]
      omega
  obtain ⟨x, hx⟩ : ∃ x, x = eout 0 0 0 0 0 0 0 0 0 0 0 0 0 z := ⟨_, rfl⟩
  have hxx := hel x hx
  have last : (if ((x.2 == 23) == (decide (n + 14 > 1600))) = true then (if x.2 = 0 then (some ((x.1.length : Int) == n + 14)) else (some true)) else (none)) = some true := by
    rw [if_pos hxx.1]
    by_cases c : x.2 = 0
    · rw [if_pos c]; exact hxx.2 c
    · rw [if_neg c]
  rw [if_pos hn0.1, if_pos g2, eparse_eq hzB (by omega), Option.bind_some]
  by_cases c1 : n > 1600
  · have e : eseg z = (0, 0, 0, 0, 0, 0, 0, 0, 0, 0, 0, 0, 0, [], 23) := by unfold eseg; rw [if_pos (by omega)]
    rw [if_pos c1, ebytes_eq (by omega) 100 (by omega), Option.bind_some, e, if_pos rfl, ← hx]
    exact last
  · rw [if_neg c1]
    by_cases c2 : n < 14
    · have e : eseg z = (0, 0, 0, 0, 0, 0, 0, 0, 0, 0, 0, 0, 0, [], 20) := by unfold eseg; rw [if_neg (by omega), if_pos (by omega)]
      rw [if_pos c2, ebytes_eq (by omega) 100 (by omega), Option.bind_some, e, if_pos rfl, ← hx]
      exact last
    · have e : (eseg z).2.2.2.2.2.2.2.2.2.2.2.2.2.2 = 0 := by unfold eseg; rw [if_neg (by omega), if_neg (by omega)]
      rw [if_neg c2, ebytes_eq (by omega) 100 (by omega), Option.bind_some, if_pos e, ← hx]
      exact last
end Go.Proofs.Ytnfgmcjgmccggaa.Pure
