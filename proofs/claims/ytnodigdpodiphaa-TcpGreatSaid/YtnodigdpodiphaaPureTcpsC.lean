/- What the proofs of TcpReads, TcpBack, TcpGreat share. -/
import Derived.Test.YtnodigdpodiphaaPAx16
import Derived.Test.YtnodigdpodiphaaPAx17
import Derived.Test.YtnodigdpodiphaaPAx20
import Derived.Test.YtnodigdpodiphaaPAx15
import Derived.Test.YtnodigdpodiphaaPAx14
import Derived.Test.YtnodigdpodiphaaBytesEq
import Derived.Test.YtnodigdpodiphaaBytesEqB
import Derived.Test.YtnodigdpodiphaaPlaceEq
namespace Go.Proofs.Ytnodigdpodiphaa.Pure
set_option linter.unusedVariables false
set_option linter.unusedSimpArgs false
open Go.RowKit Go.Proofs.Ytnodigdpodiphaa.PA Go.Proofs.YtnodigdpodiphaaW.PrintWords Go.Proofs.YtnodigdpodiphaaW.PrintLast
open Go.Proofs.Ytnodigdpodiphaa.Spec Go.Proofs.Ytnodigdpodiphaa.BytesEq

theorem tknown (k : Nat) (hk : 100 ≤ k) : lychlaw5_known.f k = some true := at_rounds (g := fun k => lychlaw5_known.f k) (fun k => lychlaw5_known.mono k) hk (by decide +kernel)
theorem ttwo_eq {l : List Int} (h : IsB l) (a b : Nat) (hab : b = a + 2) (hb : b ≤ l.length) : tcp_two.f ((l.take b).drop a) = some (g16 l a) := by
  subst hab
  unfold tcp_two.f
  have hlen : ((l.take (a + 2)).drop a).length = 2 := by rw [List.length_drop, List.length_take]; omega
  rw [hlen, if_pos (by omega), if_pos (by omega), rd_mid l a (a + 2) 0 0 rfl (by omega), rd_mid l a (a + 2) 1 1 rfl (by omega), word16 (h.getD (a + 0)) (h.getD (a + 1))]
  rfl
theorem cut_in (l : List Int) (a b c d : Nat) (h : a + d ≤ b) : (((l.take b).drop a).take d).drop c = (l.take (a + d)).drop (a + c) := by
  rw [List.take_drop, List.take_take, List.drop_drop, Nat.min_eq_left h]
theorem tfour_eq {l : List Int} (h : IsB l) (a b : Nat) (hab : b = a + 4) (hb : b ≤ l.length) : tcp_four.f ((l.take b).drop a) = some (g32 l a) := by
  subst hab
  unfold tcp_four.f
  have hlen : ((l.take (a + 4)).drop a).length = 4 := by rw [List.length_drop, List.length_take]; omega
  rw [hlen, if_pos (by omega), cut_in l a (a + 4) 0 2 (by omega), cut_in l a (a + 4) 2 4 (by omega), ttwo_eq h (a + 0) (a + 2) (by omega) (by omega), ttwo_eq h (a + 2) (a + 4) (by omega) (by omega)]
  simp only [Option.bind_some]
  rw [word32 (g16_range h (a + 0)) (g16_range h (a + 2))]
  rfl
/-- a segment out of bytes -/
def tseg (l : List Int) : Int × Int × Int × Int × Int × Int × Int × Int × List Int × List Int × Int :=
  if l.length < 20 then (0, 0, 0, 0, 0, 0, 0, 0, [], [], 20) else if 4 * (l.getD 12 0 / 16) < 20 then (0, 0, 0, 0, 0, 0, 0, 0, [], [], 21) else if (l.length : Int) < 4 * (l.getD 12 0 / 16) then (0, 0, 0, 0, 0, 0, 0, 0, [], [], 20) else
  (g16 l 0, g16 l 2, g32 l 4, g32 l 8, l.getD 13 0, g16 l 14, g16 l 16, g16 l 18, (l.take (4 * (l.getD 12 0 / 16)).toNat).drop 20, l.drop (4 * (l.getD 12 0 / 16)).toNat, 0)
theorem tparse_eq {l : List Int} (h : IsB l) (hl : l.length ≤ 1000000000) : tcp_Parse.f l = some (tseg l) := by
  unfold tcp_Parse.f tseg
  by_cases h8 : l.length < 20
  · rw [if_pos (by omega), if_pos h8]
  · have hg := h.getD 12
    rw [if_neg (by omega), if_neg h8, if_pos (by omega), rd_nat l 12 12 rfl, rd_nat l 13 13 rfl]
    obtain ⟨m, hm⟩ : ∃ m : Int, m = 4 * (l.getD 12 0 / 16) := ⟨_, rfl⟩
    have hw : wrap64 (4 * (wrap64 (l.getD 12 0 / 16))) = m := by rw [wrap64_id (n := l.getD 12 0 / 16) (by omega) (by omega), wrap64_id (by omega) (by omega), hm]
    rw [hw, ← hm]
    by_cases c1 : m < 20
    · rw [if_pos c1, if_pos c1]
    · rw [if_neg c1, if_neg c1]
      by_cases c2 : (l.length : Int) < m
      · rw [if_pos c2, if_pos c2]
      · rw [if_neg c2, if_neg c2, if_pos (by omega), ttwo_eq h 0 2 rfl (by omega), Option.bind_some, if_pos (by omega), ttwo_eq h 2 4 rfl (by omega), Option.bind_some, if_pos (by omega), tfour_eq h 4 8 rfl (by omega), Option.bind_some, if_pos (by omega), tfour_eq h 8 12 rfl (by omega), Option.bind_some, if_pos (by omega), if_pos (by omega), ttwo_eq h 14 16 rfl (by omega), Option.bind_some, if_pos (by omega), ttwo_eq h 16 18 rfl (by omega), Option.bind_some, if_pos (by omega), ttwo_eq h 18 20 rfl (by omega), Option.bind_some, if_pos (by omega), if_pos (by omega), clone_eq _ (by rw [List.length_drop, List.length_take]; omega), Option.bind_some, if_pos (by omega), clone_eq _ (by rw [List.length_drop]; omega), Option.bind_some]
theorem rtparse_eq {l : List Int} (h : IsB l) (hl : l.length ≤ 1000000000) : lychref1_Tcp.f l = some (tseg l) := by
  unfold lychref1_Tcp.f tseg
  by_cases h8 : l.length < 20
  · rw [if_pos (by omega), if_pos h8]
  · have hg := h.getD 12
    rw [if_neg (by omega), if_neg h8, if_pos (by omega), rd_nat l 12 12 rfl, rd_nat l 13 13 rfl]
    obtain ⟨m, hm⟩ : ∃ m : Int, m = 4 * (l.getD 12 0 / 16) := ⟨_, rfl⟩
    have hw : wrap64 ((wrap64 (l.getD 12 0 / 16)) * 4) = m := by rw [wrap64_id (n := l.getD 12 0 / 16) (by omega) (by omega), wrap64_id (by omega) (by omega), hm]; omega
    rw [hw, ← hm]
    have e0 := get16_eq h 0 (by omega) hl
    have e2 := get16_eq h 2 (by omega) hl
    have e4 := get32_eq h 4 (by omega) hl
    have e8 := get32_eq h 8 (by omega) hl
    have e14 := get16_eq h 14 (by omega) hl
    have e16 := get16_eq h 16 (by omega) hl
    have e18 := get16_eq h 18 (by omega) hl
    rw [show ((0 : Nat) : Int) = 0 from rfl] at e0
    rw [show ((2 : Nat) : Int) = 2 from rfl] at e2
    rw [show ((4 : Nat) : Int) = 4 from rfl] at e4
    rw [show ((8 : Nat) : Int) = 8 from rfl] at e8
    rw [show ((14 : Nat) : Int) = 14 from rfl] at e14
    rw [show ((16 : Nat) : Int) = 16 from rfl] at e16
    rw [show ((18 : Nat) : Int) = 18 from rfl] at e18
    by_cases c1 : m < 20
    · rw [if_pos c1, if_pos c1]
    · rw [if_neg c1, if_neg c1]
      by_cases c2 : (l.length : Int) < m
      · rw [if_pos c2, if_pos c2]
      · have f1 := cut_eq l 20 m.toNat (by omega) (by omega) hl
        have f2 := cut_eq l m.toNat l.length (by omega) (by omega) hl
        rw [show ((20 : Nat) : Int) = 20 from rfl, Int.toNat_of_nonneg (by omega)] at f1
        rw [List.take_length, Int.toNat_of_nonneg (by omega)] at f2
        rw [if_neg c2, if_neg c2, e0, Option.bind_some, e2, Option.bind_some, e4, Option.bind_some, e8, Option.bind_some, if_pos (by omega), e14, Option.bind_some, e16, Option.bind_some, e18, Option.bind_some, f1, Option.bind_some, f2, Option.bind_some]
theorem tcp_refl (s d q a f w c u : Int) (o l : List Int) : lychhelp_Tcp.f s d q a f w c u o l s d q a f w c u o l = some true := by
  unfold lychhelp_Tcp.f
  rw [if_pos rfl, if_pos rfl, if_pos rfl, if_pos rfl, if_pos rfl, if_pos rfl, if_pos rfl, if_pos rfl, bytes_refl, Option.bind_some, if_pos rfl, bytes_refl]
  rfl
/-- a segment's bytes -/
def thead (s d q a f w c u : Int) (o : List Int) : List Int := [s / 256 % 256, s % 256, d / 256 % 256, d % 256, q / 16777216 % 256, q / 65536 % 256, q / 256 % 256, q % 256, a / 16777216 % 256, a / 65536 % 256, a / 256 % 256, a % 256, (20 + (o.length : Int)) / 4 * 16 % 256, f, w / 256 % 256, w % 256, c / 256 % 256, c % 256, u / 256 % 256, u % 256]
def tbytes (s d q a f w c u : Int) (o l : List Int) : List Int := thead s d q a f w c u o ++ (o ++ l)
def tout (s d q a f w c u : Int) (o l : List Int) : List Int × Int := if (o.length : Int) % 4 ≠ 0 ∨ (o.length : Int) > 40 then ([], 21) else if 20 + (o.length : Int) + (l.length : Int) > 65515 then ([], 23) else (tbytes s d q a f w c u o l, 0)
theorem w01 : wrap64 ((0 : Int) + 1) = 1 := wrap64_id (by omega) (by omega)
theorem w12 : wrap64 ((1 : Int) + 1) = 2 := wrap64_id (by omega) (by omega)
theorem w23 : wrap64 ((2 : Int) + 1) = 3 := wrap64_id (by omega) (by omega)
theorem cl0_step {k : Nat} {x0 x9 : List (List Int)} {x3 x10 x11 s i : Int} (h1 : x11 < x10) (h2 : 0 ≤ x11) (h3 : x11 < (x9.length : Int)) (hs : wrap64 (x3 + ((rd_L1 x9 x11).length : Int)) = s) (h4 : 0 ≤ s) (hi : wrap64 (x11 + 1) = i) : slices_Concat_byte_byte.l0 (k + 1) x0 x3 x9 x10 x11 = slices_Concat_byte_byte.l0 k x0 s x9 x10 i := by
  rw [slices_Concat_byte_byte.l0, if_pos h1, if_pos h2, if_pos h3, hs, if_neg (Int.not_lt.2 h4), hi]
theorem cl1_step {k : Nat} {x6 : List Int} {x25 : List (List Int)} {x26 x27 i : Int} (h1 : x27 < x26) (h2 : 0 ≤ x27) (h3 : x27 < (x25.length : Int)) (h4 : x6.length + (rd_L1 x25 x27).length < 140737488355328) (hi : wrap64 (x27 + 1) = i) : slices_Concat_byte_byte.l1 (k + 1) x6 x25 x26 x27 = slices_Concat_byte_byte.l1 k (x6 ++ rd_L1 x25 x27) x25 x26 i := by
  rw [slices_Concat_byte_byte.l1, if_pos h1, if_pos h2, if_pos h3, if_pos h4, hi]
theorem cl0_end {k : Nat} {x0 x9 : List (List Int)} {x3 x10 x11 : Int} (h1 : ¬ x11 < x10) : slices_Concat_byte_byte.l0 (k + 1) x0 x3 x9 x10 x11 = (slices_Grow_byte_byte.f ([] : List Int) x3).bind fun t => slices_Concat_byte_byte.l1 k t x0 (x0.length : Int) 0 := by
  rw [slices_Concat_byte_byte.l0, if_neg h1]
theorem cl1_end {k : Nat} {x6 : List Int} {x25 : List (List Int)} {x26 x27 : Int} (h1 : ¬ x27 < x26) : slices_Concat_byte_byte.l1 (k + 1) x6 x25 x26 x27 = some x6 := by
  rw [slices_Concat_byte_byte.l1, if_neg h1]
theorem grow_eq {n : Int} (h0 : 0 ≤ n) (h1 : n < 70368744177664) : slices_Grow_byte_byte.f ([] : List Int) n = some [] := by
  unfold slices_Grow_byte_byte.f
  rw [if_pos h0, if_pos h1]
theorem concat_eq (x y z : List Int) (hx : x.length ≤ 1000000000) (hy : y.length ≤ 1000000000) (hz : z.length ≤ 1000000000) (k : Nat) (hk : 9 ≤ k) : slices_Concat_byte_byte.f k [x, y, z] = some (x ++ (y ++ z)) := by
  obtain ⟨k, rfl⟩ : ∃ j, k = j + 9 := ⟨k - 9, by omega⟩
  have hlen : (([x, y, z] : List (List Int)).length : Int) = 3 := rfl
  have s0 : wrap64 (0 + (x.length : Int)) = (x.length : Int) := by rw [wrap64_id (by omega) (by omega)]; omega
  have s1 : wrap64 ((x.length : Int) + (y.length : Int)) = (x.length : Int) + (y.length : Int) := wrap64_id (by omega) (by omega)
  have s2 : wrap64 ((x.length : Int) + (y.length : Int) + (z.length : Int)) = (x.length : Int) + (y.length : Int) + (z.length : Int) := wrap64_id (by omega) (by omega)
  unfold slices_Concat_byte_byte.f
  rw [hlen]
  refine (cl0_step (k := k + 8) (s := (x.length : Int)) (i := 1) (by omega) (by omega) (by rw [hlen]; omega) s0 (by omega) w01).trans ?_
  refine (cl0_step (k := k + 7) (s := (x.length : Int) + (y.length : Int)) (i := 2) (by omega) (by omega) (by rw [hlen]; omega) s1 (by omega) w12).trans ?_
  refine (cl0_step (k := k + 6) (s := (x.length : Int) + (y.length : Int) + (z.length : Int)) (i := 3) (by omega) (by omega) (by rw [hlen]; omega) s2 (by omega) w23).trans ?_
  refine (cl0_end (k := k + 5) (by omega)).trans ?_
  have h0 : (0 : Int) ≤ (x.length : Int) + (y.length : Int) + (z.length : Int) := by omega
  have h1 : (x.length : Int) + (y.length : Int) + (z.length : Int) < 70368744177664 := by omega
  rw [grow_eq h0 h1, Option.bind_some, hlen]
  have l1 : (([] : List Int) ++ x).length + y.length < 140737488355328 := by rw [List.nil_append]; omega
  have l2 : (([] : List Int) ++ x ++ y).length + z.length < 140737488355328 := by rw [List.nil_append, List.length_append]; omega
  refine (cl1_step (k := k + 4) (i := 1) (by omega) (by omega) (by rw [hlen]; omega) (show ([] : List Int).length + x.length < 140737488355328 by rw [List.length_nil]; omega) w01).trans ?_
  refine (cl1_step (k := k + 3) (i := 2) (by omega) (by omega) (by rw [hlen]; omega) l1 w12).trans ?_
  refine (cl1_step (k := k + 2) (i := 3) (by omega) (by omega) (by rw [hlen]; omega) l2 w23).trans ?_
  refine (cl1_end (k := k + 1) (by omega)).trans ?_
  show some (([] : List Int) ++ x ++ y ++ z) = some (x ++ (y ++ z))
  rw [List.nil_append, List.append_assoc]
theorem tbytes_eq {s d q a f w c u : Int} {o l : List Int} (ho : o.length ≤ 1000000000) (hl : l.length ≤ 1000000000) (k : Nat) (hk : 30 ≤ k) : tcp_Bytes.f k s d q a f w c u o l = some (tout s d q a f w c u o l) := by
  obtain ⟨k, rfl⟩ : ∃ j, k = j + 30 := ⟨k - 30, by omega⟩
  have w1 : wrap64 (20 + (o.length : Int)) = 20 + (o.length : Int) := wrap64_id (by omega) (by omega)
  have w2 : wrap64 (20 + (o.length : Int) + (l.length : Int)) = 20 + (o.length : Int) + (l.length : Int) := wrap64_id (by omega) (by omega)
  have n1 := w01
  have n2 := w12
  unfold tcp_Bytes.f tout
  by_cases c1 : (o.length : Int) % 4 = 0
  · rw [if_pos c1]
    by_cases c2 : (o.length : Int) > 40
    · rw [decide_eq_true c2, if_pos (.inr c2), tcp_Bytes.j0, if_pos rfl]
    · rw [decide_eq_false c2, if_neg (by omega), tcp_Bytes.j0, if_neg (by decide), w1, w2]
      by_cases c3 : 20 + (o.length : Int) + (l.length : Int) > 65515
      · rw [if_pos c3, if_pos c3]
      · rw [if_neg c3, if_neg c3, Option.bind_some]
        have hlen : (([q, a] : List Int).length : Int) = 2 := rfl
        have r0 : rd [q, a] 0 = q := rfl
        have r1 : rd [q, a] 1 = a := rfl
        rw [hlen, tcp_Bytes.l0, if_pos (by omega), if_pos (by omega), hlen, if_pos (by omega), r0, Option.bind_some, if_pos (by simp), n1]
        rw [tcp_Bytes.l0, if_pos (by omega), if_pos (by omega), hlen, if_pos (by omega), r1, Option.bind_some, if_pos (by simp), n2]
        rw [tcp_Bytes.l0, if_neg (by omega), Option.bind_some, if_pos (by simp), w1, concat_eq _ _ _ (by simp) (by omega) (by omega) _ (by omega), Option.bind_some]
        have e : (20 + (o.length : Int)) % 256 / 4 * 16 % 256 = (20 + (o.length : Int)) / 4 * 16 % 256 := by omega
        rw [e]
        rfl
  · rw [if_neg c1, if_pos (.inl c1), tcp_Bytes.j0, if_pos rfl]
theorem rtbytes_eq {s d q a f w c u : Int} {o l : List Int} (ho : o.length ≤ 1000000000) (hl : l.length ≤ 1000000000) (k : Nat) (hk : 30 ≤ k) : lychref1_TcpBytes.f k s d q a f w c u o l = some (tout s d q a f w c u o l) := by
  obtain ⟨k, rfl⟩ : ∃ j, k = j + 30 := ⟨k - 30, by omega⟩
  have w1 : wrap64 (20 + (o.length : Int)) = 20 + (o.length : Int) := wrap64_id (by omega) (by omega)
  unfold lychref1_TcpBytes.f tout
  by_cases c1 : (o.length : Int) % 4 = 0
  · rw [if_pos c1]
    by_cases c2 : (o.length : Int) > 40
    · rw [decide_eq_true c2, if_pos (.inr c2), lychref1_TcpBytes.j0, if_pos rfl]
    · have w2 : wrap64 (65515 - (20 + (o.length : Int))) = 65515 - (20 + (o.length : Int)) := wrap64_id (by omega) (by omega)
      rw [decide_eq_false c2, if_neg (by omega), lychref1_TcpBytes.j0, if_neg (by decide), w1, w2]
      by_cases c3 : 20 + (o.length : Int) + (l.length : Int) > 65515
      · rw [if_pos (by omega), if_pos c3]
      · have w3 : wrap64 (Int.tdiv (20 + (o.length : Int)) 4) = (20 + (o.length : Int)) / 4 := by rw [Int.tdiv_eq_ediv_of_nonneg (by omega), wrap64_id (by omega) (by omega)]
        have e : (20 + (o.length : Int)) / 4 % 256 * 16 % 256 = (20 + (o.length : Int)) / 4 * 16 % 256 := by omega
        rw [if_neg (by omega), if_neg c3, w3, e]
        unfold lychref1_Put16.f lychref1_Put32.f
        rw [Option.bind_some, if_pos (by simp), Option.bind_some, Option.bind_some, if_pos (by simp), Option.bind_some, Option.bind_some, if_pos (by simp), Option.bind_some, Option.bind_some, if_pos (by simp), Option.bind_some, Option.bind_some, if_pos (by simp), Option.bind_some, if_pos (by simp), Option.bind_some, Option.bind_some, if_pos (by simp), Option.bind_some, Option.bind_some, if_pos (by simp), Option.bind_some, if_pos (by simp; omega), Option.bind_some, if_pos (by simp; omega), List.append_assoc]
        rfl
  · rw [if_neg c1, if_pos (.inl c1), lychref1_TcpBytes.j0, if_pos rfl]
theorem thead_isB {s d q a f w c u : Int} {o : List Int} (hf : 0 ≤ f ∧ f ≤ 255) : IsB (thead s d q a f w c u o) := by
  unfold thead
  repeat (first | exact .nil | refine .cons (by omega) ?_)
theorem thead_length (s d q a f w c u : Int) (o : List Int) : (thead s d q a f w c u o).length = 20 := rfl
theorem tseg_tbytes {s d q a f w c u : Int} {o l : List Int} (hs : 0 ≤ s ∧ s ≤ 65535) (hd : 0 ≤ d ∧ d ≤ 65535) (hq : 0 ≤ q ∧ q ≤ 4294967295) (ha : 0 ≤ a ∧ a ≤ 4294967295) (hw : 0 ≤ w ∧ w ≤ 65535) (hc : 0 ≤ c ∧ c ≤ 65535) (hu : 0 ≤ u ∧ u ≤ 65535) (h4 : (o.length : Int) % 4 = 0) (ho : (o.length : Int) ≤ 40) : tseg (tbytes s d q a f w c u o l) = (s, d, q, a, f, w, c, u, o, l, 0) := by
  have hH := thead_length s d q a f w c u o
  have hL : (tbytes s d q a f w c u o l).length = 20 + o.length + l.length := by unfold tbytes; rw [List.length_append, List.length_append, hH]; omega
  have e12 : (tbytes s d q a f w c u o l).getD 12 0 = (20 + (o.length : Int)) / 4 * 16 % 256 := rfl
  have em : 4 * ((20 + (o.length : Int)) / 4 * 16 % 256 / 16) = 20 + (o.length : Int) := by omega
  unfold tseg
  rw [e12, em, if_neg (by omega), if_neg (by omega), if_neg (by omega)]
  have t1 : (20 + (o.length : Int)).toNat = (thead s d q a f w c u o).length + o.length := by rw [hH]; omega
  have d1 : ((tbytes s d q a f w c u o l).take (20 + (o.length : Int)).toNat).drop 20 = o := by
    rw [t1]; unfold tbytes
    rw [List.take_append, List.take_of_length_le (by omega), Nat.add_sub_cancel_left, List.take_left, List.drop_left' hH]
  have d2 : (tbytes s d q a f w c u o l).drop (20 + (o.length : Int)).toNat = l := by
    rw [t1]; unfold tbytes
    rw [← List.append_assoc, List.drop_left' (by rw [List.length_append])]
  rw [d1, d2]
  unfold tbytes thead g32 g16
  simp only [List.cons_append, List.nil_append, List.getD_cons_zero, List.getD_cons_succ, Prod.mk.injEq, and_true, true_and]
  refine ⟨?_, ?_, ?_, ?_, ?_, ?_, ?_⟩ <;> omega
end Go.Proofs.Ytnodigdpodiphaa.Pure
