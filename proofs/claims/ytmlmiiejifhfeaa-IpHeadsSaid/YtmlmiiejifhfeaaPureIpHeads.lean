/- IpHeads, the plain statement: for every input the printed law returns true. -/
import Derived.Test.YtmlmiiejifhfeaaPAx23
import Derived.Test.YtmlmiiejifhfeaaPureIpsC
namespace Go.Proofs.Ytmlmiiejifhfeaa.Pure
set_option linter.unusedVariables false
set_option linter.unusedSimpArgs false
open Go.RowKit Go.Proofs.Ytmlmiiejifhfeaa.PA Go.Proofs.YtmlmiiejifhfeaaW.PrintWords Go.Proofs.YtmlmiiejifhfeaaW.PrintLast
open Go.Proofs.Ytmlmiiejifhfeaa.Spec Go.Proofs.Ytmlmiiejifhfeaa.BytesEq Go.Proofs.Ytmlmiiejifhfeaa.SumEq

theorem IpHeads : lychlaw3_IpHeads.Pure := by
  intro a b n ha hb hn
  have ha := u8_wf ha
  have hb := u16_wf hb
  have hn := u8_wf hn
  obtain ⟨K, hK⟩ : ∃ K : Nat, 300 ≤ K := ⟨300, Nat.le_refl _⟩
  refine ⟨K + 1, ?_⟩
  unfold lychlaw3_IpHeads.f
  rw [iknown (K + 1) (by omega), Option.bind_some, if_pos rfl]
  have em : Int.tmod n 80 = n % 80 := Int.tmod_eq_emod_of_nonneg hn.1
  have e0 : wrap64 ((wrap64 (Int.tmod n 80)) + 20) = n % 80 + 20 := by rw [em, wrap64_id (n := n % 80) (by omega) (by omega), wrap64_id (by omega) (by omega)]
  rw [e0]
  obtain ⟨y, hy⟩ : ∃ y, y = List.replicate (n % 80 + 20).toNat (0 : Int) := ⟨_, rfl⟩
  have hly : (y.length : Int) = n % 80 + 20 := by rw [hy, List.length_replicate]; omega
  have hB : IsB y := by rw [hy]; exact IsB.replicate _
  have g1 : 0 ≤ n % 80 + 20 := by omega
  have g2 : (n % 80 + 20).toNat ≤ 281474976710656 := by omega
  rw [← hy]
  clear hy e0
  rw [if_pos g1, if_pos g2, Option.bind_some, if_pos (by omega), if_pos (by omega), if_pos (by omega), Option.bind_some]
  have ea : wrap64 (4 * (wrap64 (Go.bits .and .u8 a 15))) = 4 * (a % 16) := by
    have e1 : Go.bits .and .u8 a 15 = a % 16 := and_u8 4 (by omega) ha.1 ha.2
    rw [e1, wrap64_id (n := a % 16) (by omega) (by omega), wrap64_id (by omega) (by omega)]
  rw [ea]
  obtain ⟨z, hz⟩ : ∃ z, z = ((y.set (0 : Int).toNat a).set (2 : Int).toNat (b / 256 % 256)).set (3 : Int).toNat (Int.tmod b 100 % 256) := ⟨_, rfl⟩
  have hzB : IsB z := by rw [hz]; exact ((hB.set _ ha).set _ (by omega)).set _ (by omega)
  have hzl : z.length = y.length := by rw [hz, List.length_set, List.length_set, List.length_set]
  rw [← hz]
  clear hz
  have plain : lychlaw3_IpHeads.j0 (K + 1) z (4 * (a % 16)) false = some true := by
    obtain ⟨s, f1, f2, _⟩ := both hzB (by omega) K (by omega)
    rw [lychlaw3_IpHeads.j0, if_neg (by decide), f1, Option.bind_some, f2, Option.bind_some, if_pos rfl, ip_refl, Option.bind_some]
  by_cases c1 : 4 * (a % 16) ≥ 20
  · rw [if_pos c1]
    by_cases c2 : 4 * (a % 16) ≤ (y.length : Int)
    · rw [decide_eq_true c2]
      have e := rof_eq _ (hzB.take (4 * (a % 16)).toNat) (by rw [List.length_take]; omega) K (by rw [List.length_take]; omega) (by omega)
      obtain ⟨x, hx⟩ : ∃ x, x = ck (z.take (4 * (a % 16)).toNat) := ⟨_, rfl⟩
      rw [← hx] at e
      clear hx
      have hB2 : IsB ((z.set (10 : Int).toNat (x / 256 % 256)).set (11 : Int).toNat (x % 256)) := (hzB.set _ (by omega)).set _ (by omega)
      obtain ⟨s, f1, f2, _⟩ := both hB2 (by rw [List.length_set, List.length_set]; omega) K (by rw [List.length_set, List.length_set]; omega)
      rw [lychlaw3_IpHeads.j0, if_pos rfl, if_pos (by omega), if_pos (by omega), e, Option.bind_some, if_pos (by omega), if_pos (by omega), Option.bind_some, f1, Option.bind_some, f2, Option.bind_some, if_pos rfl, ip_refl, Option.bind_some]
    · rw [decide_eq_false c2]
      exact plain
  · rw [if_neg c1]
    exact plain
end Go.Proofs.Ytmlmiiejifhfeaa.Pure
