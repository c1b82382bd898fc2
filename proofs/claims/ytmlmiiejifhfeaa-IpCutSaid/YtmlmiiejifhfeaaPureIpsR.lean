/- Packets out of bytes: what the proofs of the laws on packets share. -/
import Derived.Test.YtmlmiiejifhfeaaPAx8
import Derived.Test.YtmlmiiejifhfeaaPAx14
import Derived.Test.YtmlmiiejifhfeaaPAx13
import Derived.Test.YtmlmiiejifhfeaaPAx5
import Derived.Test.YtmlmiiejifhfeaaBytesEq
import Derived.Test.YtmlmiiejifhfeaaBytesEqB
import Derived.Test.YtmlmiiejifhfeaaSumEq
namespace Go.Proofs.Ytmlmiiejifhfeaa.Pure
set_option linter.unusedVariables false
set_option linter.unusedSimpArgs false
open Go.RowKit Go.Proofs.Ytmlmiiejifhfeaa.PA Go.Proofs.YtmlmiiejifhfeaaW.PrintWords Go.Proofs.YtmlmiiejifhfeaaW.PrintLast
open Go.Proofs.Ytmlmiiejifhfeaa.Spec Go.Proofs.Ytmlmiiejifhfeaa.BytesEq Go.Proofs.Ytmlmiiejifhfeaa.SumEq

theorem iknown (k : Nat) (hk : 100 ≤ k) : lychlaw3_known.f k = some true := at_rounds (g := fun k => lychlaw3_known.f k) (fun k => lychlaw3_known.mono k) hk (by decide +kernel)
theorem itwo_eq {l : List Int} (h : IsB l) (i : Nat) (hi : i + 2 ≤ l.length) (hl : l.length ≤ 1000000000) : ip_reader_two.f l (i : Int) = some (g16 l i) := get16_eq h i hi hl
theorem ifour_eq {l : List Int} (h : IsB l) (i : Nat) (hi : i + 4 ≤ l.length) (hl : l.length ≤ 1000000000) : ip_reader_four.f l (i : Int) = some (g32 l i) := get32_eq h i hi hl
theorem iclone_eq (l : List Int) (hl : l.length ≤ 1000000000) : ip_reader_byte.f l = some l := by
  unfold ip_reader_byte.f
  rw [if_pos (by omega)]
theorem must_yes {c : Prop} [Decidable c] (h : c) (e : Int) : ip_must.f (decide c) e = some () := by
  unfold ip_must.f
  rw [decide_eq_true h, if_pos rfl]
theorem and16 (i : Nat) (hi : i ≤ 16) {x : Int} (h₀ : 0 ≤ x) (h₁ : x ≤ 65535) : Go.bits .and .u16 x (2 ^ i - 1) = x % 2 ^ i := bits_mask .u16 16 (by decide) wraps_u16 i hi x h₀ (by omega)
/-- a header's length -/
def ihead (l : List Int) : Int := 4 * (l.getD 0 0 % 16)
theorem ihead_range (l : List Int) : 0 ≤ ihead l ∧ ihead l ≤ 60 := by unfold ihead; omega
theorem ihead_eq {l : List Int} (h : IsB l) : wrap64 (4 * (wrap64 (Go.bits .and .u8 (rd l 0) 15))) = ihead l := by
  have hg := h.getD 0
  have ea : Go.bits .and .u8 (rd l 0) 15 = l.getD 0 0 % 16 := by rw [rd_nat l 0 0 rfl]; exact and_u8 4 (by omega) hg.1 hg.2
  rw [ea, wrap64_id (n := l.getD 0 0 % 16) (by omega) (by omega), wrap64_id (by omega) (by omega)]
  rfl
theorem ihead_eq2 {l : List Int} (h : IsB l) : wrap64 ((wrap64 (Go.bits .and .u8 (rd l 0) 15)) * 4) = ihead l := by
  have hg := h.getD 0
  have ea : Go.bits .and .u8 (rd l 0) 15 = l.getD 0 0 % 16 := by rw [rd_nat l 0 0 rfl]; exact and_u8 4 (by omega) hg.1 hg.2
  rw [ea, wrap64_id (n := l.getD 0 0 % 16) (by omega) (by omega), wrap64_id (by omega) (by omega)]
  unfold ihead; omega
/-- the sum of a header -/
def isumof (l : List Int) : Int := norm (isum (words (l.take (ihead l).toNat)))
/-- what is not of the form -/
def iodd (l : List Int) : Prop := ¬ (l.getD 0 0 / 16 = 4 ∧ ihead l ≥ 20 ∧ g16 l 2 ≥ ihead l)
instance (l : List Int) : Decidable (iodd l) := inferInstanceAs (Decidable (¬ _))
/-- the parts of a packet -/
def iparts (l : List Int) : Int × Int × Int × Int × Int × Int × Int × Int × List Int × List Int :=
  (l.getD 1 0, l.getD 8 0, l.getD 9 0, g16 l 4, g16 l 6 / 8192, g16 l 6 % 8192, g32 l 12, g32 l 16, (l.take (ihead l).toNat).drop 20, (l.take (g16 l 2).toNat).drop (ihead l).toNat)
/-- a packet out of bytes -/
def iseg (l : List Int) : Int × Int × Int × Int × Int × Int × Int × Int × List Int × List Int × Int :=
  if l.length < 20 then (0, 0, 0, 0, 0, 0, 0, 0, [], [], 20) else if iodd l then (0, 0, 0, 0, 0, 0, 0, 0, [], [], 21) else if (l.length : Int) < g16 l 2 then (0, 0, 0, 0, 0, 0, 0, 0, [], [], 20) else if isumof l ≠ 65535 then (0, 0, 0, 0, 0, 0, 0, 0, [], [], 22) else
  (l.getD 1 0, l.getD 8 0, l.getD 9 0, g16 l 4, g16 l 6 / 8192, g16 l 6 % 8192, g32 l 12, g32 l 16, (l.take (ihead l).toNat).drop 20, (l.take (g16 l 2).toNat).drop (ihead l).toNat, 0)
theorem fold_head {l : List Int} (h : IsB l) (hl : l.length ≤ 1000000000) (k : Nat) (hk : l.length + 4 < k) : ((sum_Add.f k 0 l).bind fun a => sum_Fold.f k a) = some (norm (isum (words l))) := by
  have hr := addw_range (words l) 0 (by omega) (by omega) (words_isW l h)
  have hn := norm_addw (words l) 0 (by omega) (by omega) (words_isW l h)
  rw [add_eq 0 l h hl (by omega) (by omega) k (by omega), Option.bind_some, fold_eq _ hr.1 hr.2 k (by omega), hn, Int.zero_add]
theorem fold_both {l : List Int} (h : IsB l) (hl : l.length ≤ 1000000000) (k : Nat) (hk : l.length + 4 < k) : ∃ a, sum_Add.f k 0 l = some a ∧ sum_Fold.f k a = some (norm (isum (words l))) := Option.bind_eq_some_iff.mp (fold_head h hl k hk)
theorem rfold_both {l : List Int} (h : IsB l) (hl : l.length ≤ 1000000000) (k : Nat) (hk : l.length + 4 < k) : ∃ a, lychref1_Add.f k 0 l = some a ∧ lychref1_Fold.f k a = some (norm (isum (words l))) := by
  have hr := addw_range (words l) 0 (by omega) (by omega) (words_isW l h)
  have hn := norm_addw (words l) 0 (by omega) (by omega) (words_isW l h)
  refine ⟨_, radd_eq 0 l h hl (by omega) (by omega) k (by omega), ?_⟩
  rw [rfold_eq _ hr.1 hr.2 k (by omega), hn, Int.zero_add]
theorem ipacket_eq {l : List Int} (h : IsB l) (hl : l.length ≤ 1000000000) (h20 : 20 ≤ l.length) (ho : ¬ iodd l) (hs : ¬ (l.length : Int) < g16 l 2) (hx : isumof l = 65535) (k : Nat) (hk : l.length + 5 < k) : ip_reader_packet.f k l = some (iparts l) := by
  obtain ⟨k, rfl⟩ : ∃ j, k = j + 1 := ⟨k - 1, by omega⟩
  have hh := ihead_range l
  have hg := g16_range h 2
  have hb6 := g16_range h 6
  have ho' : l.getD 0 0 / 16 = 4 ∧ ihead l ≥ 20 ∧ g16 l 2 ≥ ihead l := Decidable.not_not.mp ho
  obtain ⟨o1, o2, o3⟩ := ho'
  have p0 : 0 ≤ ihead l := hh.1
  have p1 : ihead l ≤ (l.length : Int) := by omega
  have p2 : (0 : Int) < (l.length : Int) := by omega
  have p3 : (1 : Int) < (l.length : Int) := by omega
  have p4 : (8 : Int) < (l.length : Int) := by omega
  have p5 : (9 : Int) < (l.length : Int) := by omega
  have p6 : g16 l 2 ≤ (l.length : Int) := by omega
  have p7 : ((l.take (ihead l).toNat).drop 20).length ≤ 1000000000 := by rw [List.length_drop, List.length_take]; omega
  have p8 : ((l.take (g16 l 2).toNat).drop (ihead l).toNat).length ≤ 1000000000 := by rw [List.length_drop, List.length_take]; omega
  have p9 : (l.length : Int) ≥ 20 := by omega
  have m1 : ip_must.f (decide ((l.length : Int) ≥ 20)) 20 = some () := must_yes p9 20
  have m2 : ip_must.f (decide (g16 l 2 ≥ ihead l)) 21 = some () := must_yes o3 21
  have m3 : ip_must.f (decide ((l.length : Int) ≥ g16 l 2)) 20 = some () := must_yes p6 20
  have e2 := itwo_eq h 2 (by omega) hl
  have e4 := itwo_eq h 4 (by omega) hl
  have e6 := itwo_eq h 6 (by omega) hl
  have e12 := ifour_eq h 12 (by omega) hl
  have e16 := ifour_eq h 16 (by omega) hl
  rw [show ((2 : Nat) : Int) = 2 from rfl] at e2
  rw [show ((4 : Nat) : Int) = 4 from rfl] at e4
  rw [show ((6 : Nat) : Int) = 6 from rfl] at e6
  rw [show ((12 : Nat) : Int) = 12 from rfl] at e12
  rw [show ((16 : Nat) : Int) = 16 from rfl] at e16
  have r0 : rd l 0 = l.getD 0 0 := rd_nat l 0 0 rfl
  have r1 : rd l 1 = l.getD 1 0 := rd_nat l 1 1 rfl
  have r8 : rd l 8 = l.getD 8 0 := rd_nat l 8 8 rfl
  have r9 : rd l 9 = l.getD 9 0 := rd_nat l 9 9 rfl
  have w2 : wrap64 (g16 l 2) = g16 l 2 := wrap64_id (by omega) (by omega)
  have hd := ihead_eq h
  obtain ⟨a, fa, fb⟩ := fold_both (h.take (ihead l).toNat) (by rw [List.length_take]; omega) k (by rw [List.length_take]; omega)
  have fx : norm (isum (words (l.take (ihead l).toNat))) = 65535 := hx
  rw [fx] at fb
  have m22 : ip_must.f ((65535 : Int) == 65535) 22 = some () := by unfold ip_must.f; rw [if_pos (by decide)]
  have ef : g16 l 6 / 8192 % 256 = g16 l 6 / 8192 := by omega
  have ea : Go.bits .and .u16 (g16 l 6) 8191 = g16 l 6 % 8192 := and16 13 (by omega) hb6.1 hb6.2
  unfold ip_reader_packet.f
  rw [m1, Option.bind_some, if_pos p2, e2, Option.bind_some, hd, w2, r0, if_pos o1, if_pos o2, m2, Option.bind_some, ip_reader_packet.j0, m3, Option.bind_some, if_pos p0, if_pos p1, fa, Option.bind_some, fb, Option.bind_some, m22, Option.bind_some, e6, Option.bind_some, if_pos p3, e4, Option.bind_some, if_pos p4, if_pos p5, e12, Option.bind_some, e16, Option.bind_some, if_pos o2,
    iclone_eq _ p7, Option.bind_some, if_pos o3, if_pos p6, iclone_eq _ p8, Option.bind_some, r1, r8, r9, ef, ea]
  rfl
theorem iparse_eq {l : List Int} (h : IsB l) (hl : l.length ≤ 1000000000) (k : Nat) (hk : l.length + 5 < k) : ip_Parse.f k l = some (iseg l) := by
  have hh := ihead_range l
  have hg := g16_range h 2
  have hd := ihead_eq h
  have r0 : rd l 0 = l.getD 0 0 := rd_nat l 0 0 rfl
  unfold ip_Parse.f iseg
  by_cases c1 : l.length < 20
  · rw [if_pos (by omega), if_pos c1]
  · have e2 := itwo_eq h 2 (by omega) hl
    rw [show ((2 : Nat) : Int) = 2 from rfl] at e2
    have w2 : wrap64 (g16 l 2) = g16 l 2 := wrap64_id (by omega) (by omega)
    rw [if_neg (by omega), if_neg c1, e2, Option.bind_some, hd, w2, r0]
    by_cases c2 : iodd l
    · rw [if_neg c2, if_pos c2]
    · rw [if_pos (Decidable.not_not.mp c2), if_neg c2]
      by_cases c3 : (l.length : Int) < g16 l 2
      · rw [if_pos c3, if_pos c3]
      · rw [if_neg c3, if_neg c3]
        obtain ⟨a, fa, fb⟩ := fold_both (h.take (ihead l).toNat) (by rw [List.length_take]; omega) k (by rw [List.length_take]; omega)
        rw [fa, Option.bind_some, fb, Option.bind_some]
        by_cases c4 : isumof l = 65535
        · have fx : norm (isum (words (l.take (ihead l).toNat))) = 65535 := c4
          rw [if_pos fx, if_neg (fun hne => hne c4), ipacket_eq h hl (by omega) c2 c3 c4 k hk, Option.bind_some]
          rfl
        · have fx : ¬ norm (isum (words (l.take (ihead l).toNat))) = 65535 := c4
          rw [if_neg fx, if_pos c4]
theorem riparse_eq {l : List Int} (h : IsB l) (hl : l.length ≤ 1000000000) (k : Nat) (hk : l.length + 9 < k) : lychref1_Ip.f k l = some (iseg l) := by
  obtain ⟨k, rfl⟩ : ∃ j, k = j + 2 := ⟨k - 2, by omega⟩
  have hh := ihead_range l
  have hg := g16_range h 2
  have hb6 := g16_range h 6
  have hd := ihead_eq2 h
  have r0 : rd l 0 = l.getD 0 0 := rd_nat l 0 0 rfl
  unfold lychref1_Ip.f iseg
  by_cases c1 : l.length < 20
  · rw [if_pos (by omega), if_pos c1]
  · have e2 := get16_eq h 2 (by omega) hl
    rw [show ((2 : Nat) : Int) = 2 from rfl] at e2
    have w2 : wrap64 (g16 l 2) = g16 l 2 := wrap64_id (by omega) (by omega)
    rw [if_neg (by omega), if_neg c1, if_pos (by omega), e2, Option.bind_some, hd, w2, r0]
    by_cases c2 : iodd l
    · rw [if_pos c2]
      by_cases d1 : l.getD 0 0 / 16 = 4
      · rw [if_pos d1]
        by_cases d2 : ihead l < 20
        · rw [if_pos d2, lychref1_Ip.j0, if_pos rfl]
        · have d3 : g16 l 2 < ihead l := by
            refine Decidable.byContradiction fun hne => c2 ⟨d1, by omega, by omega⟩
          rw [if_neg d2, decide_eq_true d3, lychref1_Ip.j0, if_pos rfl]
      · rw [if_neg d1, lychref1_Ip.j0, if_pos rfl]
    · have ho' : l.getD 0 0 / 16 = 4 ∧ ihead l ≥ 20 ∧ g16 l 2 ≥ ihead l := Decidable.not_not.mp c2
      obtain ⟨o1, o2, o3⟩ := ho'
      rw [if_neg c2, if_pos o1, if_neg (by omega), decide_eq_false (by omega), lychref1_Ip.j0, if_neg (by decide)]
      by_cases c3 : (l.length : Int) < g16 l 2
      · rw [if_pos c3]
        by_cases d4 : (l.length : Int) < ihead l
        · rw [if_pos d4, lychref1_Ip.j1, if_pos rfl]
        · rw [if_neg d4, decide_eq_true c3, lychref1_Ip.j1, if_pos rfl]
      · rw [if_neg c3, if_neg (by omega), decide_eq_false c3, lychref1_Ip.j1, if_neg (by decide), if_pos (by omega), if_pos (by omega)]
        obtain ⟨a, fa, fb⟩ := rfold_both (h.take (ihead l).toNat) (by rw [List.length_take]; omega) k (by rw [List.length_take]; omega)
        rw [fa, Option.bind_some, fb, Option.bind_some]
        by_cases c4 : isumof l = 65535
        · have fx : norm (isum (words (l.take (ihead l).toNat))) = 65535 := c4
          have e4 := get16_eq h 4 (by omega) hl
          have e6 := get16_eq h 6 (by omega) hl
          have e12 := get32_eq h 12 (by omega) hl
          have e16 := get32_eq h 16 (by omega) hl
          rw [show ((4 : Nat) : Int) = 4 from rfl] at e4
          rw [show ((6 : Nat) : Int) = 6 from rfl] at e6
          rw [show ((12 : Nat) : Int) = 12 from rfl] at e12
          rw [show ((16 : Nat) : Int) = 16 from rfl] at e16
          have r1 : rd l 1 = l.getD 1 0 := rd_nat l 1 1 rfl
          have r8 : rd l 8 = l.getD 8 0 := rd_nat l 8 8 rfl
          have r9 : rd l 9 = l.getD 9 0 := rd_nat l 9 9 rfl
          have f1 := cut_eq l 20 (ihead l).toNat (by omega) (by omega) hl
          have f2 := cut_eq l (ihead l).toNat (g16 l 2).toNat (by omega) (by omega) hl
          rw [show ((20 : Nat) : Int) = 20 from rfl, Int.toNat_of_nonneg (by omega)] at f1
          rw [Int.toNat_of_nonneg (by omega), Int.toNat_of_nonneg (by omega)] at f2
          have ef : g16 l 6 / 8192 % 256 = g16 l 6 / 8192 := by omega
          have ea : Go.bits .and .u16 (g16 l 6) 8191 = g16 l 6 % 8192 := and16 13 (by omega) hb6.1 hb6.2
          rw [if_pos fx, if_neg (fun hne => hne c4), e6, Option.bind_some, if_pos (by omega), e4, Option.bind_some, if_pos (by omega), if_pos (by omega), e12, Option.bind_some, e16, Option.bind_some, f1, Option.bind_some, f2, Option.bind_some, r1, r8, r9, ef, ea]
        · have fx : ¬ norm (isum (words (l.take (ihead l).toNat))) = 65535 := c4
          rw [if_neg fx, if_pos c4]
theorem ip_refl (a b c d e f g i : Int) (o l : List Int) : lychhelp_Ip.f a b c d e f g i o l a b c d e f g i o l = some true := by
  unfold lychhelp_Ip.f
  rw [if_pos rfl, if_pos rfl, if_pos rfl, if_pos rfl, if_pos rfl, if_pos rfl, if_pos rfl, if_pos rfl, bytes_refl, Option.bind_some, if_pos rfl, bytes_refl]
  rfl
/-- bytes are read as the document's packet -/
theorem both {l : List Int} (h : IsB l) (hl : l.length ≤ 1000000000) (k : Nat) (hk : l.length + 9 < k) : ∃ s, ip_Parse.f k l = some s ∧ lychref1_Ip.f k l = some s ∧ s = iseg l := ⟨_, iparse_eq h hl k (by omega), riparse_eq h hl k hk, rfl⟩
end Go.Proofs.Ytmlmiiejifhfeaa.Pure
