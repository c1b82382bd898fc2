/- What the proofs of IpReads, IpBack, IpBits, IpGreat, IpCut, IpHeads share. -/
import Derived.Test.YtmlmiiejifhfeaaPureIpsB
import Derived.Test.YtmlmiiejifhfeaaPlaceEq
namespace Go.Proofs.Ytmlmiiejifhfeaa.Pure
set_option linter.unusedVariables false
set_option linter.unusedSimpArgs false
open Go.RowKit Go.Proofs.Ytmlmiiejifhfeaa.PA Go.Proofs.YtmlmiiejifhfeaaW.PrintWords Go.Proofs.YtmlmiiejifhfeaaW.PrintLast
open Go.Proofs.Ytmlmiiejifhfeaa.Spec Go.Proofs.Ytmlmiiejifhfeaa.BytesEq Go.Proofs.Ytmlmiiejifhfeaa.SumEq

theorem isum_set1 : ∀ (l : List Int) (p : Nat) (v : Int), p < l.length → isum (words (l.set p v)) = isum (words l) + (v - l.getD p 0) * (if p % 2 = 0 then 256 else 1)
  | [], p, v, h => by simp at h
  | [a], 0, v, h => by simp [words, isum]; omega
  | [a], p + 1, v, h => by simp at h
  | a :: b :: l, 0, v, h => by simp [words, isum]; omega
  | a :: b :: l, 1, v, h => by simp [words, isum]; omega
  | a :: b :: l, p + 2, v, h => by
    have := isum_set1 l p v (by simp only [List.length_cons] at h; omega)
    have e : (p + 2) % 2 = p % 2 := by omega
    simp only [List.set_cons_succ, words, isum, this, List.getD_cons_succ, e]
    omega
theorem norm_off {S e : Int} (h : norm S = 65535) (hS : 0 ≤ S) (he : e ≠ 0) (h1 : -65535 < e) (h2 : e < 65535) : norm (S + e) ≠ 65535 := by
  unfold norm at *
  split at h
  · omega
  · split <;> omega
theorem flip_all : ∀ v : Fin 256, ∀ m : Fin 8, 0 ≤ Go.bits .xor .u8 (v.val : Int) (shl .u8 1 (m.val : Int)) ∧ Go.bits .xor .u8 (v.val : Int) (shl .u8 1 (m.val : Int)) ≤ 255 ∧ Go.bits .xor .u8 (v.val : Int) (shl .u8 1 (m.val : Int)) ≠ (v.val : Int) := by decide +kernel
theorem flip_eq {v m : Int} (hv : 0 ≤ v ∧ v ≤ 255) (hm : 0 ≤ m ∧ m ≤ 7) : (0 ≤ Go.bits .xor .u8 v (shl .u8 1 m) ∧ Go.bits .xor .u8 v (shl .u8 1 m) ≤ 255) ∧ Go.bits .xor .u8 v (shl .u8 1 m) ≠ v := by
  obtain ⟨a, rfl⟩ := Int.eq_ofNat_of_zero_le hv.1
  obtain ⟨b, rfl⟩ := Int.eq_ofNat_of_zero_le hm.1
  have h := flip_all ⟨a, by omega⟩ ⟨b, by omega⟩
  exact ⟨⟨h.1, h.2.1⟩, h.2.2⟩
theorem getD_set_ne (l : List Int) (i j : Nat) (v : Int) (h : i ≠ j) : (l.set i v).getD j 0 = l.getD j 0 := by
  rw [List.getD_eq_getElem?_getD, List.getD_eq_getElem?_getD, List.getElem?_set_ne h]
theorem take_getD (l : List Int) (n p : Nat) (h : p < n) : (l.take n).getD p 0 = l.getD p 0 := by
  rw [List.getD_eq_getElem?_getD, List.getElem?_take_of_lt h, List.getD_eq_getElem?_getD]
/-- a header in which a byte is another is no header -/
theorem iseg_flip {l : List Int} (h : IsB l) (hs : isumof l = 65535) (hl : ihead l ≤ (l.length : Int)) (p : Nat) (h1 : 1 ≤ p) (hp : (p : Int) < ihead l) {v : Int} (hv : 0 ≤ v ∧ v ≤ 255) (hne : v ≠ l.getD p 0) : (iseg (l.set p v)).2.2.2.2.2.2.2.2.2.2 ≠ 0 := by
  have eh : ihead (l.set p v) = ihead l := by
    unfold ihead
    rw [getD_set_ne l p 0 v (by omega)]
  have hg := h.getD p
  have hB := h.take (ihead l).toNat
  have hS := isum_nonneg _ (words_isW _ hB)
  have hx : isumof (l.set p v) ≠ 65535 := by
    unfold isumof at hs ⊢
    rw [eh, List.take_set, isum_set1 _ p v (by rw [List.length_take]; omega), take_getD l _ p (by omega)]
    refine norm_off hs hS ?_ ?_ ?_ <;> split <;> omega
  unfold iseg
  split
  · simp
  · split
    · simp
    · split
      · simp
      · first | (rw [if_pos hx]; simp; done) | simp
/-- a packet that is cut off -/
theorem iseg_cut {l : List Int} (h0 : l.getD 0 0 / 16 = 4) (h1 : ihead l ≥ 20) (h2 : g16 l 2 ≥ ihead l) (hL : g16 l 2 = (l.length : Int)) (n : Nat) (hn : n < l.length) : (iseg (l.take n)).2.2.2.2.2.2.2.2.2.2 = 20 := by
  have hlen : (l.take n).length = n := by rw [List.length_take]; omega
  unfold iseg
  by_cases c : (l.take n).length < 20
  · rw [if_pos c]
  · have g0 : (l.take n).getD 0 0 = l.getD 0 0 := take_getD l n 0 (by omega)
    have g2 : g16 (l.take n) 2 = g16 l 2 := by
      unfold g16
      rw [take_getD l n 2 (by omega), take_getD l n 3 (by omega)]
    have gh : ihead (l.take n) = ihead l := by unfold ihead; rw [g0]
    have hodd : ¬ iodd (l.take n) := fun h => h ⟨by rw [g0]; exact h0, by rw [gh]; exact h1, by rw [gh, g2]; exact h2⟩
    rw [if_neg c, if_neg hodd, if_pos (by rw [g2, hL, hlen]; omega)]
theorem iout_cases (a t pr i fl of_ s d : Int) (o l : List Int) : (iout a t pr i fl of_ s d o l = (ibytes a t pr i fl of_ s d o l, 0) ∧ (o.length : Int) % 4 = 0 ∧ (o.length : Int) ≤ 40 ∧ fl ≤ 7 ∧ of_ ≤ 8191 ∧ 20 + (o.length : Int) + (l.length : Int) ≤ 65535) ∨ (iout a t pr i fl of_ s d o l).2 = 21 ∨ (iout a t pr i fl of_ s d o l).2 = 23 := by
  unfold iout
  by_cases cw : iwrong fl of_ o
  · rw [if_pos cw]; exact .inr (.inl rfl)
  · rw [if_neg cw]
    by_cases c5 : 20 + (o.length : Int) + (l.length : Int) > 65535
    · rw [if_pos c5]; exact .inr (.inr rfl)
    · rw [if_neg c5]
      unfold iwrong at cw
      exact .inl ⟨rfl, by omega, by omega, by omega, by omega, by omega⟩
theorem ibytes_long {a t pr i fl of_ s d : Int} {o l : List Int} (h : (o.length : Int) > 40) (k : Nat) (hk : 2 ≤ k) : ip_Bytes.f k a t pr i fl of_ s d o l = some ([], 21) := by
  obtain ⟨k, rfl⟩ : ∃ j, k = j + 1 := ⟨k - 1, by omega⟩
  unfold ip_Bytes.f
  by_cases c1 : (o.length : Int) % 4 = 0
  · rw [if_pos c1, if_pos h, ip_Bytes.j0, if_pos rfl]
  · rw [if_neg c1, ip_Bytes.j0, if_pos rfl]
end Go.Proofs.Ytmlmiiejifhfeaa.Pure
