/- IpGreat, the plain statement: for every input the printed law returns true. -/
import Derived.Test.YtmlmiiejifhfeaaPAx21
import Derived.Test.YtmlmiiejifhfeaaPureIpsC
namespace Go.Proofs.Ytmlmiiejifhfeaa.Pure
set_option linter.unusedVariables false
set_option linter.unusedSimpArgs false
open Go.RowKit Go.Proofs.Ytmlmiiejifhfeaa.PA Go.Proofs.YtmlmiiejifhfeaaW.PrintWords Go.Proofs.YtmlmiiejifhfeaaW.PrintLast
open Go.Proofs.Ytmlmiiejifhfeaa.Spec Go.Proofs.Ytmlmiiejifhfeaa.BytesEq Go.Proofs.Ytmlmiiejifhfeaa.SumEq

theorem IpGreat : lychlaw3_IpGreat.Pure := by
  intro n b hn hb
  have hn := i64_wf hn
  have hb := u8_wf hb
  obtain ⟨K, hK⟩ : ∃ K : Nat, 300 ≤ K := ⟨300, Nat.le_refl _⟩
  refine ⟨K, ?_⟩
  obtain ⟨p, hp, hp5⟩ := place_eq n 5 (by omega) (by omega) hn
  unfold lychlaw3_IpGreat.f
  rw [iknown K (by omega), Option.bind_some, if_pos rfl, hp, Option.bind_some]
  have em : Int.tmod b 11 = b % 11 := Int.tmod_eq_emod_of_nonneg hb.1
  obtain ⟨q, hq⟩ : ∃ q : Int, q = b % 11 * 4 := ⟨_, rfl⟩
  have hq0 : 0 ≤ q ∧ q ≤ 40 ∧ q % 4 = 0 := by omega
  have e0 : wrap64 ((wrap64 (Int.tmod b 11)) * 4) = q := by rw [em, wrap64_id (n := b % 11) (by omega) (by omega), wrap64_id (by omega) (by omega), hq]
  rw [e0]
  clear hq em e0
  obtain ⟨r, hr⟩ : ∃ r : Int, r = 65515 - q - 2 + (p : Int) := ⟨_, rfl⟩
  have e1 : wrap64 (65515 - q) = 65515 - q := wrap64_id (by omega) (by omega)
  have e2 : wrap64 ((wrap64 ((65515 - q) - 2)) + (p : Int)) = r := by rw [wrap64_id (n := (65515 - q) - 2) (by omega) (by omega), wrap64_id (by omega) (by omega), hr]
  have e3 : wrap64 ((wrap64 (r + 20)) + q) = r + 20 + q := by rw [wrap64_id (n := r + 20) (by omega) (by omega), wrap64_id (by omega) (by omega)]
  rw [e1, e2, e3]
  obtain ⟨y, hy⟩ : ∃ y, y = List.replicate q.toNat (0 : Int) := ⟨_, rfl⟩
  obtain ⟨z, hz⟩ : ∃ z, z = List.replicate r.toNat (0 : Int) := ⟨_, rfl⟩
  have hly : (y.length : Int) = q := by rw [hy, List.length_replicate]; omega
  have hlz : (z.length : Int) = r := by rw [hz, List.length_replicate]; omega
  have hB : IsB y := by rw [hy]; exact IsB.replicate _
  have g1 : 0 ≤ q := hq0.1
  have g2 : q.toNat ≤ 281474976710656 := by omega
  have g3 : 0 ≤ r := by omega
  have g4 : r.toNat ≤ 281474976710656 := by omega
  rw [← hy, ← hz]
  clear hy hz e1 e2 e3
  rw [if_pos g1, if_pos g2, if_pos g3, if_pos g4, ibytes_eq (by omega) (by omega) (by omega) (by omega) (by omega) hB (by omega) (by omega) _ (by omega), Option.bind_some]
  have hno : ¬ iwrong 0 0 y := by unfold iwrong; omega
  have ht : iout 0 0 0 0 0 0 0 0 y z = if r > 65515 - q then ([], 23) else (ibytes 0 0 0 0 0 0 0 0 y z, 0) := by
    unfold iout
    rw [if_neg hno, hly, hlz]
    by_cases h : r > 65515 - q
    · rw [if_pos h, if_pos (by omega)]
    · rw [if_neg h, if_neg (by omega)]
  by_cases h : r > 65515 - q
  · rw [if_pos h] at ht
    rw [ht, if_pos h]
    rfl
  · rw [if_neg h] at ht
    rw [ht, if_neg h, if_pos rfl]
    congr 1
    rw [beq_iff_eq, ibytes_length]
    omega
end Go.Proofs.Ytmlmiiejifhfeaa.Pure
