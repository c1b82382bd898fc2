/- What the proofs of IcmpReads, IcmpBack, IcmpKinds, IcmpSums, IcmpGreat share. -/
import Derived.Test.YtnfgmcjgmccggaaPAx2
import Derived.Test.YtnfgmcjgmccggaaPAx3
import Derived.Test.YtnfgmcjgmccggaaPAx8
import Derived.Test.YtnfgmcjgmccggaaBytesEq
import Derived.Test.YtnfgmcjgmccggaaSumEq
import Derived.Test.YtnfgmcjgmccggaaSumEqO
import Derived.Test.YtnfgmcjgmccggaaSpecSum
import Derived.Test.YtnfgmcjgmccggaaPlaceEq
namespace Go.Proofs.Ytnfgmcjgmccggaa.Pure
set_option linter.unusedVariables false
set_option linter.unusedSimpArgs false
open Go.RowKit Go.Proofs.Ytnfgmcjgmccggaa.PA Go.Proofs.YtnfgmcjgmccggaaW.PrintWords Go.Proofs.YtnfgmcjgmccggaaW.PrintLast
open Go.Proofs.Ytnfgmcjgmccggaa.Spec Go.Proofs.Ytnfgmcjgmccggaa.BytesEq

theorem iknown (k : Nat) (hk : 100 ≤ k) : lychlaw6_known.f k = some true := at_rounds (g := fun k => lychlaw6_known.f k) (fun k => lychlaw6_known.mono k) hk (by decide +kernel)
theorem word32b {a b c d : Int} (ha : 0 ≤ a ∧ a ≤ 255) (hb : 0 ≤ b ∧ b ≤ 255) (hc : 0 ≤ c ∧ c ≤ 255) (hd : 0 ≤ d ∧ d ≤ 255) :
    Go.bits .or .u32 (Go.bits .or .u32 (Go.bits .or .u32 (((a % 4294967296) * 16777216) % 4294967296) (((b % 4294967296) * 65536) % 4294967296)) (((c % 4294967296) * 256) % 4294967296)) (d % 4294967296) = a * 16777216 + b * 65536 + c * 256 + d := by
  rw [show a % 4294967296 = a from by omega, show a * 16777216 % 4294967296 = a * 16777216 from by omega, show b % 4294967296 = b from by omega, show b * 65536 % 4294967296 = b * 65536 from by omega, show c % 4294967296 = c from by omega, show c * 256 % 4294967296 = c * 256 from by omega, show d % 4294967296 = d from by omega]
  rw [or_u32 24 (x := a * 16777216) (y := b * 65536) (by omega) (by omega) (by omega) (by omega) (by omega) (by omega)]
  rw [or_u32 16 (x := a * 16777216 + b * 65536) (y := c * 256) (by omega) (by omega) (by omega) (by omega) (by omega) (by omega)]
  rw [or_u32 8 (x := a * 16777216 + b * 65536 + c * 256) (y := d) (by omega) (by omega) (by omega) (by omega) (by omega) (by omega)]
/-- a message out of bytes -/
def imsg (l : List Int) : Int × Int × Int × Int × List Int × Int := if l.length < 8 then (0, 0, 0, 0, [], 20) else (l.getD 0 0, l.getD 1 0, g16 l 2, g32 l 4, l.drop 8, 0)
theorem iparse_eq {l : List Int} (h : IsB l) (hl : l.length ≤ 1000000000) : icmp_Parse.f l = some (imsg l) := by
  unfold icmp_Parse.f imsg
  by_cases h8 : l.length < 8
  · rw [if_pos (by omega), if_pos h8]
  · rw [if_neg (by omega), if_neg h8, if_pos (by omega), if_pos (by omega), if_pos (by omega), if_pos (by omega), if_pos (by omega), if_pos (by omega), if_pos (by omega), if_pos (by omega), if_pos (by omega), clone_eq _ (by rw [List.length_drop]; omega)]
    simp only [Option.bind_some]
    rw [rd_nat l 0 0 rfl, rd_nat l 1 1 rfl, rd_nat l 2 2 rfl, rd_nat l 3 3 rfl, rd_nat l 4 4 rfl, rd_nat l 5 5 rfl, rd_nat l 6 6 rfl, rd_nat l 7 7 rfl, word16 (h.getD 2) (h.getD 3), word32b (h.getD 4) (h.getD 5) (h.getD 6) (h.getD 7)]
    have e : g32 l 4 = (l.getD 4 0 * 256 + l.getD 5 0) * 65536 + (l.getD 6 0 * 256 + l.getD 7 0) := rfl
    rw [e, show (l.getD 4 0 * 256 + l.getD 5 0) * 65536 + (l.getD 6 0 * 256 + l.getD 7 0) = l.getD 4 0 * 16777216 + l.getD 5 0 * 65536 + l.getD 6 0 * 256 + l.getD 7 0 from by omega]
    rfl
theorem riparse_eq {l : List Int} (h : IsB l) (hl : l.length ≤ 1000000000) : lychref1_Icmp.f l = some (imsg l) := by
  unfold lychref1_Icmp.f imsg
  by_cases h8 : l.length < 8
  · rw [if_pos (by omega), if_pos h8]
  · have e2 := get16_eq h 2 (by omega) hl
    have e4 := get32_eq h 4 (by omega) hl
    have e8 := cut_eq l 8 l.length (by omega) (by omega) hl
    rw [show ((2 : Nat) : Int) = 2 from rfl] at e2
    rw [show ((4 : Nat) : Int) = 4 from rfl] at e4
    rw [show ((8 : Nat) : Int) = 8 from rfl] at e8
    rw [if_neg (by omega), if_neg h8, if_pos (by omega), if_pos (by omega), e2, e4, e8]
    simp only [Option.bind_some, List.take_length]
    rw [rd_nat l 0 0 rfl, rd_nat l 1 1 rfl]
theorem icmp_refl (a b c d : Int) (l : List Int) : lychhelp_Icmp.f a b c d l a b c d l = some true := by
  unfold lychhelp_Icmp.f
  rw [if_pos rfl, if_pos rfl, if_pos rfl, if_pos rfl, bytes_refl]
  rfl
theorem echo_eq (a b c d c' d' : Int) (l l' : List Int) : ∃ x, icmp_Echo.f a b c d l = some x ∧ lychref1_Echo.f a b c' d' l' = some x := by
  unfold icmp_Echo.f icmp_kind.f lychref1_Echo.f
  by_cases h0 : a = 0
  · subst h0; exact ⟨b == 0, by simp, by simp⟩
  · by_cases h8 : a = 8
    · subst h8; exact ⟨b == 0, by simp, by simp⟩
    · refine ⟨false, ?_, by simp [h0, h8]⟩
      simp only [if_neg h0, if_neg h8]
      split <;> (try split) <;> (try split) <;> simp
theorem error_eq (a b c d b' c' d' : Int) (l l' : List Int) : ∃ x, icmp_Error.f a b c d l = some x ∧ lychref1_Error.f a b' c' d' l' = some x := by
  unfold icmp_Error.f icmp_kind.f lychref1_Error.f
  by_cases h3 : a = 3
  · subst h3; exact ⟨true, by simp, by simp⟩
  · by_cases h11 : a = 11
    · subst h11; exact ⟨true, by simp, by simp⟩
    · by_cases h12 : a = 12
      · subst h12; exact ⟨true, by simp, by simp⟩
      · refine ⟨false, ?_, by simp [h3, h11, h12]⟩
        simp only [if_neg h3, if_neg h11, if_neg h12]
        split <;> (try split) <;> simp
/-- a message's bytes -/
def ibytes (t c s r : Int) (l : List Int) : List Int := [t, c, s / 256 % 256, s % 256, r / 16777216 % 256, r / 65536 % 256, r / 256 % 256, r % 256] ++ l
theorem ibytes_eq (t c s r : Int) {l : List Int} (hl : l.length ≤ 1000000000) : icmp_Bytes.f t c s r l = if (l.length : Int) > 65507 then some ([], 23) else some (ibytes t c s r l, 0) := by
  unfold icmp_Bytes.f ibytes
  rw [wrap64_id (by omega) (by omega)]
  by_cases h : (l.length : Int) > 65507
  · rw [if_pos (by omega), if_pos h]
  · rw [if_neg (by omega), if_neg h]
    simp only [Option.bind_some, List.length_cons, List.length_nil]
    rw [if_pos (by omega)]
theorem ribytes_eq (t c s r : Int) {l : List Int} (hl : l.length ≤ 1000000000) : lychref1_IcmpBytes.f t c s r l = if (l.length : Int) > 65507 then some ([], 23) else some (ibytes t c s r l, 0) := by
  unfold lychref1_IcmpBytes.f lychref1_Put16.f lychref1_Put32.f ibytes
  by_cases h : (l.length : Int) > 65507
  · rw [if_pos h, if_pos h]
  · rw [if_neg h, if_neg h]
    simp only [Option.bind_some, List.length_cons, List.length_nil, List.cons_append, List.nil_append]
    rw [if_pos (by omega)]
    simp only [Option.bind_some, List.length_cons, List.length_nil, List.cons_append, List.nil_append]
    rw [if_pos (by omega)]
    simp only [Option.bind_some, List.length_cons, List.length_nil, List.cons_append, List.nil_append]
    rw [if_pos (by omega)]
theorem ibytes_isB {t c s r : Int} {l : List Int} (ht : 0 ≤ t ∧ t ≤ 255) (hc : 0 ≤ c ∧ c ≤ 255) (h : IsB l) : IsB (ibytes t c s r l) :=
  IsB.append (.cons ht (.cons hc (.cons (by omega) (.cons (by omega) (.cons (by omega) (.cons (by omega) (.cons (by omega) (.cons (by omega) .nil)))))))) h
theorem ibytes_length (t c s r : Int) (l : List Int) : (ibytes t c s r l).length = 8 + l.length := by simp [ibytes]; omega
theorem imsg_ibytes {t c s r : Int} {l : List Int} (hs : 0 ≤ s ∧ s ≤ 65535) (hr : 0 ≤ r ∧ r ≤ 4294967295) : imsg (ibytes t c s r l) = (t, c, s, r, l, 0) := by
  unfold imsg
  rw [if_neg (by rw [ibytes_length]; omega)]
  unfold ibytes g32 g16
  simp only [List.cons_append, List.nil_append, List.getD_cons_zero, List.getD_cons_succ, List.drop_succ_cons, List.drop_zero, Prod.mk.injEq, and_true, true_and]
  constructor <;> omega
theorem words_ibytes (t c s r : Int) (l : List Int) : words (ibytes t c s r l) = (t * 256 + c) :: (s / 256 % 256 * 256 + s % 256) :: (r / 16777216 % 256 * 256 + r / 65536 % 256) :: (r / 256 % 256 * 256 + r % 256) :: words l := by
  simp [ibytes, words]
theorem ck_zero_iff {l : List Int} (h : IsB l) : (ck l == 0) = (norm (isum (words l)) == 65535) := by
  have := norm_range _ (isum_nonneg _ (words_isW l h))
  unfold ck
  rw [Bool.eq_iff_iff, beq_iff_eq, beq_iff_eq]; omega
theorem iright_eq {t c s r : Int} {l : List Int} (ht : 0 ≤ t ∧ t ≤ 255) (hc : 0 ≤ c ∧ c ≤ 255) (h : IsB l) (hl : (l.length : Int) ≤ 3000) (K : Nat) (hK : 4000 ≤ K) :
    icmp_Right.f K t c s r l = some (norm (isum (words (ibytes t c s r l))) == 65535) ∧ lychref1_IcmpRight.f K t c s r l = some (norm (isum (words (ibytes t c s r l))) == 65535) := by
  have hB := ibytes_isB (s := s) (r := r) ht hc h
  have hL := ibytes_length t c s r l
  have hr := addw_range (words (ibytes t c s r l)) 0 (by omega) (by omega) (words_isW _ hB)
  have hn := norm_addw (words (ibytes t c s r l)) 0 (by omega) (by omega) (words_isW _ hB)
  constructor
  · unfold icmp_Right.f
    rw [ibytes_eq _ _ _ _ (by omega), if_neg (by omega)]
    simp only [Option.bind_some, if_true]
    rw [SumEq.of_eq _ hB (by omega) K (by omega) (by omega)]
    simp only [Option.bind_some]
    rw [ck_zero_iff hB]
  · unfold lychref1_IcmpRight.f
    rw [ribytes_eq _ _ _ _ (by omega), if_neg (by omega)]
    simp only [Option.bind_some, if_true]
    rw [SumEq.radd_eq 0 _ hB (by omega) (by omega) (by omega) K (by omega)]
    simp only [Option.bind_some]
    rw [SumEq.rfold_eq _ hr.1 hr.2 K (by omega), hn, Int.zero_add]
    simp only [Option.bind_some]
theorem isumf_eq (t c s r : Int) (l : List Int) (K : Nat) (hK : 4000 ≤ K) (hl : (l.length : Int) ≤ 3000) (hB : IsB (ibytes t c 0 r l)) : icmp_Sum.f K t c s r l = some (ck (ibytes t c 0 r l)) := by
  have hL := ibytes_length t c 0 r l
  unfold icmp_Sum.f
  rw [ibytes_eq _ _ _ _ (by omega), if_neg (by omega)]
  simp only [Option.bind_some, if_true]
  rw [SumEq.of_eq _ hB (by omega) _ (by omega) (by omega)]
  simp only [Option.bind_some]
theorem risumf_eq (t c s r : Int) (l : List Int) (K : Nat) (hK : 4000 ≤ K) (hl : (l.length : Int) ≤ 3000) (hB : IsB (ibytes t c 0 r l)) : lychref1_IcmpSum.f K t c s r l = some (ck (ibytes t c 0 r l)) := by
  have hL := ibytes_length t c 0 r l
  unfold lychref1_IcmpSum.f
  rw [ribytes_eq _ _ _ _ (by omega), if_neg (by omega)]
  simp only [Option.bind_some, if_true]
  rw [SumEq.rof_eq _ hB (by omega) _ (by omega) (by omega)]
  simp only [Option.bind_some]
theorem isumf_big (t c s r : Int) (l : List Int) (K : Nat) (hl : (l.length : Int) > 65507) (h2 : l.length ≤ 1000000000) : icmp_Sum.f K t c s r l = some 0 := by
  unfold icmp_Sum.f
  rw [ibytes_eq _ _ _ _ h2, if_pos hl]
  simp
theorem iown (t c r : Int) (l : List Int) (hB : IsB (ibytes t c 0 r l)) : norm (isum (words (ibytes t c (ck (ibytes t c 0 r l)) r l))) = 65535 := by
  have hxr := ck_range _ hB
  have e : isum (words (ibytes t c (ck (ibytes t c 0 r l)) r l)) = isum (words (ibytes t c 0 r l)) + ck (ibytes t c 0 r l) := by
    generalize ck (ibytes t c 0 r l) = x at hxr ⊢
    rw [words_ibytes, words_ibytes]
    simp only [isum]
    omega
  rw [e]
  exact stands (isum_nonneg _ (words_isW _ hB))
end Go.Proofs.Ytnfgmcjgmccggaa.Pure
