/- UdpLengths, the plain statement: for every input the printed law returns true. -/
import Derived.Test.YtnodigdpodiphaaPAx11
import Derived.Test.YtnodigdpodiphaaPureUdpsC
namespace Go.Proofs.Ytnodigdpodiphaa.Pure
set_option linter.unusedVariables false
set_option linter.unusedSimpArgs false
open Go.RowKit Go.Proofs.Ytnodigdpodiphaa.PA Go.Proofs.YtnodigdpodiphaaW.PrintWords Go.Proofs.YtnodigdpodiphaaW.PrintLast
open Go.Proofs.Ytnodigdpodiphaa.Spec Go.Proofs.Ytnodigdpodiphaa.BytesEq

theorem UdpLengths : lychlaw4_UdpLengths.Pure := by
  intro l n _ hl hB hn
  have hn := u16_wf hn
  have h := isB_wf hB
  obtain ⟨K, hK⟩ : ∃ K : Nat, 4000 ≤ K := ⟨4000, Nat.le_refl _⟩
  refine ⟨K, ?_⟩
  unfold lychlaw4_UdpLengths.f
  rw [uknown K (by omega), Option.bind_some, if_pos rfl]
  by_cases hc2 : (l.length : Int) > 500
  · rw [if_pos hc2]
  · have hL := ubytes_length 1 2 3 l
    rw [if_neg hc2, ubytes_eq _ _ _ (by omega), if_neg (by omega), Option.bind_some]
    obtain ⟨m, hm⟩ : ∃ m : Int, m = 8 + (l.length : Int) := ⟨_, rfl⟩
    rw [show ((ubytes 1 2 3 l).length : Int) = m from by omega, ← hm, wrap64_id (n := m) (by omega) (by omega), wrap64_id (n := m + 4) (by omega) (by omega), wrap64_id (n := n) (by omega) (by omega), Int.tmod_eq_emod_of_nonneg hn.1]
    have hk0 := Int.emod_nonneg n (show m + 4 ≠ 0 by omega)
    have hk1 := Int.emod_lt_of_pos n (show 0 < m + 4 by omega)
    obtain ⟨k, hk⟩ : ∃ k : Int, k = n % (m + 4) := ⟨_, rfl⟩
    rw [← hk] at hk0 hk1 ⊢
    rw [if_pos rfl, if_neg (by omega), if_pos (by omega), if_pos (by omega)]
    obtain ⟨z, hz⟩ : ∃ z, z = ((ubytes 1 2 3 l).set (4 : Int).toNat (k / 256 % 256)).set (5 : Int).toNat (k % 256) := ⟨_, rfl⟩
    have hzB : IsB z := by rw [hz]; exact ((ubytes_isB h).set _ (by omega)).set _ (by omega)
    have hzl : z.length = 8 + l.length := by rw [hz, List.length_set, List.length_set, hL]
    have e4 : g16 z 4 = k := by
      rw [hz]
      unfold ubytes g16
      simp [List.set_cons_succ]
      omega
    have ed : z.drop 8 = l := by
      rw [hz]
      unfold ubytes
      simp
    rw [← hz, uparse_eq hzB (by omega), Option.bind_some]
    by_cases c1 : k < 8
    · have hu : udg z = (0, 0, 0, [], 21) := by unfold udg; rw [if_neg (by omega), e4, if_pos c1]
      rw [hu, if_pos c1]
      rfl
    · by_cases c2 : (z.length : Int) < k
      · have hu : udg z = (0, 0, 0, [], 20) := by unfold udg; rw [if_neg (by omega), e4, if_neg c1, if_pos c2]
        rw [hu, if_neg c1, if_pos (by omega)]
        rfl
      · have hu : udg z = (g16 z 0, g16 z 2, g16 z 6, (z.take k.toNat).drop 8, 0) := by unfold udg; rw [if_neg (by omega), e4, if_neg c1, if_neg c2]
        have e8 : (z.take k.toNat).drop 8 = l.take (k - 8).toNat := by
          rw [List.drop_take, ed]
          congr 1; omega
        have hw : wrap64 (k - 8) = k - 8 := wrap64_id (by omega) (by omega)
        rw [hu, if_neg c1, if_neg (by omega), hw, if_pos rfl, if_pos (by omega), if_pos (by omega), e8, bytes_refl, Option.bind_some]
end Go.Proofs.Ytnodigdpodiphaa.Pure
