/- What the proofs of UdpReads, UdpBack, UdpSums, UdpGreat, UdpLengths, UdpNone share. -/
import Derived.Test.YtnodigdpodiphaaPAx2
import Derived.Test.YtnodigdpodiphaaPAx7
import Derived.Test.YtnodigdpodiphaaPAx3
import Derived.Test.YtnodigdpodiphaaPAx5
import Derived.Test.YtnodigdpodiphaaBytesEq
import Derived.Test.YtnodigdpodiphaaSumEq
import Derived.Test.YtnodigdpodiphaaSumEqP
import Derived.Test.YtnodigdpodiphaaSpecSum
import Derived.Test.YtnodigdpodiphaaPlaceEq
namespace Go.Proofs.Ytnodigdpodiphaa.Pure
set_option linter.unusedVariables false
set_option linter.unusedSimpArgs false
open Go.RowKit Go.Proofs.Ytnodigdpodiphaa.PA Go.Proofs.YtnodigdpodiphaaW.PrintWords Go.Proofs.YtnodigdpodiphaaW.PrintLast
open Go.Proofs.Ytnodigdpodiphaa.Spec Go.Proofs.Ytnodigdpodiphaa.BytesEq

theorem uknown (k : Nat) (hk : 100 ≤ k) : lychlaw4_known.f k = some true := at_rounds (g := fun k => lychlaw4_known.f k) (fun k => lychlaw4_known.mono k) hk (by decide +kernel)
theorem utwo_eq {l : List Int} (h : IsB l) (a b : Nat) (hab : b = a + 2) (hb : b ≤ l.length) : udp_two.f ((l.take b).drop a) = some (g16 l a) := by
  subst hab
  unfold udp_two.f
  have hlen : ((l.take (a + 2)).drop a).length = 2 := by rw [List.length_drop, List.length_take]; omega
  rw [hlen, if_pos (by omega), if_pos (by omega), rd_mid l a (a + 2) 0 0 rfl (by omega), rd_mid l a (a + 2) 1 1 rfl (by omega), word16 (h.getD (a + 0)) (h.getD (a + 1))]
  rfl
/-- a datagram out of bytes -/
def udg (l : List Int) : Int × Int × Int × List Int × Int :=
  if l.length < 8 then (0, 0, 0, [], 20) else if g16 l 4 < 8 then (0, 0, 0, [], 21) else if (l.length : Int) < g16 l 4 then (0, 0, 0, [], 20) else (g16 l 0, g16 l 2, g16 l 6, (l.take (g16 l 4).toNat).drop 8, 0)
theorem uparse_eq {l : List Int} (h : IsB l) (hl : l.length ≤ 1000000000) : udp_Parse.f l = some (udg l) := by
  unfold udp_Parse.f udg
  by_cases h8 : l.length < 8
  · rw [if_pos (by omega), if_pos h8]
  · have hg := g16_range h 4
    rw [if_neg (by omega), if_neg h8, if_pos (by omega), utwo_eq h 4 6 rfl (by omega)]
    simp only [Option.bind_some]
    rw [wrap64_id (n := g16 l 4) (by omega) (by omega)]
    by_cases c1 : g16 l 4 < 8
    · rw [if_pos c1, if_pos c1]
    · rw [if_neg c1, if_neg c1]
      by_cases c2 : (l.length : Int) < g16 l 4
      · rw [if_pos c2, if_pos c2]
      · rw [if_neg c2, if_neg c2, if_pos (by omega), utwo_eq h 0 2 rfl (by omega)]
        simp only [Option.bind_some]
        rw [if_pos (by omega), utwo_eq h 2 4 rfl (by omega)]
        simp only [Option.bind_some]
        rw [if_pos (by omega), utwo_eq h 6 8 rfl (by omega)]
        simp only [Option.bind_some]
        rw [if_pos (by omega), if_pos (by omega), clone_eq _ (by rw [List.length_drop, List.length_take]; omega)]
        simp only [Option.bind_some]
theorem ruparse_eq {l : List Int} (h : IsB l) (hl : l.length ≤ 1000000000) : lychref1_Udp.f l = some (udg l) := by
  unfold lychref1_Udp.f udg
  by_cases h8 : l.length < 8
  · rw [if_pos (by omega), if_pos h8]
  · have hg := g16_range h 4
    have e0 := get16_eq h 0 (by omega) hl
    have e2 := get16_eq h 2 (by omega) hl
    have e4 := get16_eq h 4 (by omega) hl
    have e6 := get16_eq h 6 (by omega) hl
    rw [show ((0 : Nat) : Int) = 0 from rfl] at e0
    rw [show ((2 : Nat) : Int) = 2 from rfl] at e2
    rw [show ((4 : Nat) : Int) = 4 from rfl] at e4
    rw [show ((6 : Nat) : Int) = 6 from rfl] at e6
    rw [if_neg (by omega), if_neg h8, e4]
    simp only [Option.bind_some]
    rw [wrap64_id (n := g16 l 4) (by omega) (by omega)]
    by_cases c1 : g16 l 4 < 8
    · rw [if_pos c1, if_pos c1]
    · rw [if_neg c1, if_neg c1]
      by_cases c2 : (l.length : Int) < g16 l 4
      · rw [if_pos c2, if_pos c2]
      · have e8 := cut_eq l 8 (g16 l 4).toNat (by omega) (by omega) hl
        rw [show ((8 : Nat) : Int) = 8 from rfl, Int.toNat_of_nonneg hg.1] at e8
        rw [if_neg c2, if_neg c2, e0, e2, e6, e8]
        simp only [Option.bind_some]
theorem udp_refl (a b c : Int) (l : List Int) : lychhelp_Udp.f a b c l a b c l = some true := by
  unfold lychhelp_Udp.f
  rw [if_pos rfl, if_pos rfl, if_pos rfl, bytes_refl]
  rfl
/-- a datagram's bytes -/
def ubytes (s d c : Int) (l : List Int) : List Int := [s / 256 % 256, s % 256, d / 256 % 256, d % 256, (8 + (l.length : Int)) / 256 % 256, (8 + (l.length : Int)) % 256, c / 256 % 256, c % 256] ++ l
theorem ubytes_eq (s d c : Int) {l : List Int} (hl : l.length ≤ 1000000000) : udp_Bytes.f s d c l = if (l.length : Int) > 65527 then some ([], 23) else some (ubytes s d c l, 0) := by
  unfold udp_Bytes.f ubytes
  rw [wrap64_id (by omega) (by omega)]
  by_cases h : (l.length : Int) > 65527
  · rw [if_pos (by omega), if_pos h]
  · rw [if_neg (by omega), if_neg h]
    simp only [Option.bind_some, List.length_cons, List.length_nil]
    rw [if_pos (by omega)]
theorem rubytes_eq (s d c : Int) {l : List Int} (hl : l.length ≤ 1000000000) : lychref1_UdpBytes.f s d c l = if (l.length : Int) > 65527 then some ([], 23) else some (ubytes s d c l, 0) := by
  unfold lychref1_UdpBytes.f lychref1_Put16.f ubytes
  by_cases h : (l.length : Int) > 65527
  · rw [if_pos h, if_pos h]
  · rw [if_neg h, if_neg h, wrap64_id (n := 8 + (l.length : Int)) (by omega) (by omega), u16w (n := 8 + (l.length : Int)) (by omega) (by omega)]
    simp only [Option.bind_some, List.length_cons, List.length_nil, List.cons_append, List.nil_append]
    rw [if_pos (by omega)]
    simp only [Option.bind_some, List.length_cons, List.length_nil, List.cons_append, List.nil_append]
    rw [if_pos (by omega)]
    simp only [Option.bind_some, List.length_cons, List.length_nil, List.cons_append, List.nil_append]
    rw [if_pos (by omega)]
    simp only [Option.bind_some, List.length_cons, List.length_nil, List.cons_append, List.nil_append]
    rw [if_pos (by omega)]
    simp only [Option.bind_some, List.length_cons, List.length_nil, List.cons_append, List.nil_append]
    rw [if_pos (by omega)]
theorem ubytes_isB {s d c : Int} {l : List Int} (h : IsB l) : IsB (ubytes s d c l) :=
  IsB.append (.cons (by omega) (.cons (by omega) (.cons (by omega) (.cons (by omega) (.cons (by omega) (.cons (by omega) (.cons (by omega) (.cons (by omega) .nil)))))))) h
theorem ubytes_length (s d c : Int) (l : List Int) : (ubytes s d c l).length = 8 + l.length := by simp [ubytes]; omega
theorem udg_ubytes {s d c : Int} {l : List Int} (hs : 0 ≤ s ∧ s ≤ 65535) (hd : 0 ≤ d ∧ d ≤ 65535) (hc : 0 ≤ c ∧ c ≤ 65535) (hl : (l.length : Int) ≤ 65527) : udg (ubytes s d c l) = (s, d, c, l, 0) := by
  have hL := ubytes_length s d c l
  have e4 : g16 (ubytes s d c l) 4 = 8 + (l.length : Int) := by
    unfold ubytes g16
    simp only [List.cons_append, List.nil_append, List.getD_cons_zero, List.getD_cons_succ]
    omega
  unfold udg
  rw [e4, if_neg (by omega), if_neg (by omega), if_neg (by omega), List.take_of_length_le (by omega)]
  unfold ubytes g16
  simp only [List.cons_append, List.nil_append, List.getD_cons_zero, List.getD_cons_succ, List.drop_succ_cons, List.drop_zero, Prod.mk.injEq, and_true, true_and]
  refine ⟨?_, ?_, ?_⟩ <;> omega
theorem words_ubytes {s d c : Int} {l : List Int} (hs : 0 ≤ s ∧ s ≤ 65535) (hd : 0 ≤ d ∧ d ≤ 65535) (hc : 0 ≤ c ∧ c ≤ 65535) (hl : (l.length : Int) ≤ 65527) : isum (words (ubytes s d c l)) = s + d + (8 + (l.length : Int)) + c + isum (words l) := by
  unfold ubytes
  simp only [List.cons_append, List.nil_append, words, isum]
  omega
/-- the sum of all words but the checksum, with those ahead in thought -/
def usumS (a b s d : Int) (l : List Int) : Int := norm (a / 65536 + a % 65536 + b / 65536 + b % 65536 + 17 + (8 + (l.length : Int)) % 65536) + s + d + (8 + (l.length : Int)) + isum (words l)
theorem usumS_pos {a b s d : Int} {l : List Int} (ha : 0 ≤ a) (hb : 0 ≤ b) (hs : 0 ≤ s) (hd : 0 ≤ d) (h : IsB l) : 0 < usumS a b s d l := by
  have h1 := norm_range (a / 65536 + a % 65536 + b / 65536 + b % 65536 + 17 + (8 + (l.length : Int)) % 65536) (by omega)
  have h2 := isum_nonneg _ (words_isW l h)
  unfold usumS; omega
theorem utotal {a b s d c : Int} {l : List Int} (ha : 0 ≤ a ∧ a ≤ 4294967295) (hb : 0 ≤ b ∧ b ≤ 4294967295) (hs : 0 ≤ s ∧ s ≤ 65535) (hd : 0 ≤ d ∧ d ≤ 65535) (hc : 0 ≤ c ∧ c ≤ 65535) (h : IsB l) (hl : (l.length : Int) ≤ 3000) (K : Nat) (hK : 4000 ≤ K) :
    udp_total.f K a b s d c l = some (norm (usumS a b s d l + c), true) := by
  have hB := ubytes_isB (s := s) (d := d) (c := c) h
  have hL := ubytes_length s d c l
  have hp := norm_range (a / 65536 + a % 65536 + b / 65536 + b % 65536 + 17 + (8 + (l.length : Int)) % 65536) (by omega)
  unfold udp_total.f
  rw [ubytes_eq _ _ _ (by omega), if_neg (by omega)]
  simp only [Option.bind_some]
  rw [show ((ubytes s d c l).length : Int) = 8 + (l.length : Int) from by omega, SumEq.pseudo_eq a b 17 _ ha hb (by omega) K (by omega)]
  simp only [Option.bind_some]
  have hr := addw_range (words (ubytes s d c l)) _ hp.1 (by omega) (words_isW _ hB)
  have hn := norm_addw (words (ubytes s d c l)) _ hp.1 (by omega) (words_isW _ hB)
  rw [SumEq.add_eq _ _ hB (by omega) hp.1 (by omega) K (by omega)]
  simp only [Option.bind_some]
  rw [SumEq.fold_eq _ hr.1 hr.2 K (by omega), hn, words_ubytes hs hd hc (by omega)]
  simp only [Option.bind_some, beq_self_eq_true]
  unfold usumS
  congr 3
  omega
/-- the checksum -/
def usum (S : Int) : Int := if norm S = 65535 then 65535 else 65535 - norm S
theorem usum_range {S : Int} (h : 0 < S) : 1 ≤ usum S ∧ usum S ≤ 65535 := by
  have := norm_range S (by omega)
  have := norm_pos h
  unfold usum; split <;> omega
theorem usum_iff {S o : Int} (h : 0 < S) (ho : 1 ≤ o ∧ o ≤ 65535) : norm (S + o) = 65535 ↔ o = usum S := by
  have e1 : norm S = (S - 1) % 65535 + 1 := by unfold norm; rw [if_neg (by omega)]
  have e2 : norm (S + o) = (S + o - 1) % 65535 + 1 := by unfold norm; rw [if_neg (by omega)]
  unfold usum
  rw [e1, e2]
  split <;> omega
theorem usum_eq {a b s d c : Int} {l : List Int} (ha : 0 ≤ a ∧ a ≤ 4294967295) (hb : 0 ≤ b ∧ b ≤ 4294967295) (hs : 0 ≤ s ∧ s ≤ 65535) (hd : 0 ≤ d ∧ d ≤ 65535) (h : IsB l) (hl : (l.length : Int) ≤ 3000) (K : Nat) (hK : 4000 ≤ K) :
    udp_Sum.f K a b s d c l = some (usum (usumS a b s d l)) := by
  have hS := usumS_pos (s := s) (d := d) ha.1 hb.1 hs.1 hd.1 h
  have hn := norm_range (usumS a b s d l) (by omega)
  unfold udp_Sum.f
  rw [utotal ha hb hs hd (c := 0) (by omega) h hl K hK, Int.add_zero]
  simp only [Option.bind_some, if_true]
  unfold usum
  by_cases c1 : norm (usumS a b s d l) = 65535
  · rw [if_pos c1, if_pos c1, c1]
  · rw [if_neg c1, if_neg c1, show (IntKind.u16.max : Int) = 65535 from rfl, not_u16 hn.1 hn.2]
theorem rusum_eq {a b s d c : Int} {l : List Int} (ha : 0 ≤ a ∧ a ≤ 4294967295) (hb : 0 ≤ b ∧ b ≤ 4294967295) (hs : 0 ≤ s ∧ s ≤ 65535) (hd : 0 ≤ d ∧ d ≤ 65535) (h : IsB l) (hl : (l.length : Int) ≤ 3000) (K : Nat) (hK : 4000 ≤ K) :
    lychref1_UdpSum.f K a b s d c l = some (usum (usumS a b s d l)) := by
  have hS := usumS_pos (s := s) (d := d) ha.1 hb.1 hs.1 hd.1 h
  have hnn := norm_range (usumS a b s d l) (by omega)
  have hB := ubytes_isB (s := s) (d := d) (c := 0) h
  have hL := ubytes_length s d 0 l
  have hp := norm_range (a / 65536 + a % 65536 + b / 65536 + b % 65536 + 17 + (8 + (l.length : Int)) % 65536) (by omega)
  have hr := addw_range (words (ubytes s d 0 l)) _ hp.1 (by omega) (words_isW _ hB)
  have hn := norm_addw (words (ubytes s d 0 l)) _ hp.1 (by omega) (words_isW _ hB)
  unfold lychref1_UdpSum.f
  rw [rubytes_eq _ _ _ (by omega), if_neg (by omega)]
  simp only [Option.bind_some, if_true]
  rw [show ((ubytes s d 0 l).length : Int) = 8 + (l.length : Int) from by omega, SumEq.rpseudo_eq a b 17 _ ha hb (by omega) K (by omega)]
  simp only [Option.bind_some]
  rw [SumEq.radd_eq _ _ hB (by omega) hp.1 (by omega) K (by omega)]
  simp only [Option.bind_some]
  have e : norm (a / 65536 + a % 65536 + b / 65536 + b % 65536 + 17 + (8 + (l.length : Int)) % 65536) + (s + d + (8 + (l.length : Int)) + 0 + isum (words l)) = usumS a b s d l := by unfold usumS; omega
  rw [SumEq.rfold_eq _ hr.1 hr.2 K (by omega), hn, words_ubytes hs hd (by omega) (by omega), e]
  simp only [Option.bind_some]
  rw [show (IntKind.u16.max : Int) = 65535 from rfl, not_u16 hnn.1 hnn.2]
  unfold usum
  by_cases c1 : norm (usumS a b s d l) = 65535
  · rw [if_pos (by omega), if_pos c1]
  · rw [if_neg (by omega), if_neg c1]
theorem uright_eq {a b s d c : Int} {l : List Int} (ha : 0 ≤ a ∧ a ≤ 4294967295) (hb : 0 ≤ b ∧ b ≤ 4294967295) (hs : 0 ≤ s ∧ s ≤ 65535) (hd : 0 ≤ d ∧ d ≤ 65535) (hc : 0 ≤ c ∧ c ≤ 65535) (h : IsB l) (hl : (l.length : Int) ≤ 3000) (K : Nat) (hK : 4000 ≤ K) :
    udp_Right.f K a b s d c l = some (decide (c = 0 ∨ c = usum (usumS a b s d l))) := by
  have hS := usumS_pos (s := s) (d := d) ha.1 hb.1 hs.1 hd.1 h
  unfold udp_Right.f
  by_cases c0 : c = 0
  · rw [if_pos c0]; simp [c0]
  · rw [if_neg c0, utotal ha hb hs hd hc h hl K hK]
    simp only [Option.bind_some, if_true]
    have := usum_iff hS (o := c) (by omega)
    congr 1
    rw [Bool.eq_iff_iff, beq_iff_eq, decide_eq_true_eq, this]
    exact ⟨fun h => .inr h, fun h => h.resolve_left c0⟩
theorem ruright_eq {a b s d c : Int} {l : List Int} (ha : 0 ≤ a ∧ a ≤ 4294967295) (hb : 0 ≤ b ∧ b ≤ 4294967295) (hs : 0 ≤ s ∧ s ≤ 65535) (hd : 0 ≤ d ∧ d ≤ 65535) (hc : 0 ≤ c ∧ c ≤ 65535) (h : IsB l) (hl : (l.length : Int) ≤ 3000) (K : Nat) (hK : 4000 ≤ K) :
    lychref1_UdpRight.f K a b s d c l = some (decide (c = 0 ∨ c = usum (usumS a b s d l))) := by
  have hS := usumS_pos (s := s) (d := d) ha.1 hb.1 hs.1 hd.1 h
  unfold lychref1_UdpRight.f
  by_cases c0 : c = 0
  · rw [if_pos c0]; simp [c0]
  · have hB := ubytes_isB (s := s) (d := d) (c := c) h
    have hL := ubytes_length s d c l
    have hp := norm_range (a / 65536 + a % 65536 + b / 65536 + b % 65536 + 17 + (8 + (l.length : Int)) % 65536) (by omega)
    have hr := addw_range (words (ubytes s d c l)) _ hp.1 (by omega) (words_isW _ hB)
    have hn := norm_addw (words (ubytes s d c l)) _ hp.1 (by omega) (words_isW _ hB)
    rw [if_neg c0, rubytes_eq _ _ _ (by omega), if_neg (by omega)]
    simp only [Option.bind_some, if_true]
    rw [show ((ubytes s d c l).length : Int) = 8 + (l.length : Int) from by omega, SumEq.rpseudo_eq a b 17 _ ha hb (by omega) K (by omega)]
    simp only [Option.bind_some]
    rw [SumEq.radd_eq _ _ hB (by omega) hp.1 (by omega) K (by omega)]
    simp only [Option.bind_some]
    have e : norm (a / 65536 + a % 65536 + b / 65536 + b % 65536 + 17 + (8 + (l.length : Int)) % 65536) + (s + d + (8 + (l.length : Int)) + c + isum (words l)) = usumS a b s d l + c := by unfold usumS; omega
    rw [SumEq.rfold_eq _ hr.1 hr.2 K (by omega), hn, words_ubytes hs hd hc (by omega), e]
    simp only [Option.bind_some]
    have := usum_iff hS (o := c) (by omega)
    congr 1
    rw [Bool.eq_iff_iff, beq_iff_eq, decide_eq_true_eq, this]
    exact ⟨fun h => .inr h, fun h => h.resolve_left c0⟩
end Go.Proofs.Ytnodigdpodiphaa.Pure
