/- Segments out of bytes: what the proofs of the laws on segments share. -/
import Derived.Test.YtnodigdpodiphaaPAx27
import Derived.Test.YtnodigdpodiphaaPAx30
import Derived.Test.YtnodigdpodiphaaPAx29
import Derived.Test.YtnodigdpodiphaaPAx23
import Derived.Test.YtnodigdpodiphaaBytesEq
import Derived.Test.YtnodigdpodiphaaBytesEqB
namespace Go.Proofs.Ytnodigdpodiphaa.Pure
set_option linter.unusedVariables false
set_option linter.unusedSimpArgs false
open Go.RowKit Go.Proofs.Ytnodigdpodiphaa.PA Go.Proofs.YtnodigdpodiphaaW.PrintWords Go.Proofs.YtnodigdpodiphaaW.PrintLast
open Go.Proofs.Ytnodigdpodiphaa.Spec Go.Proofs.Ytnodigdpodiphaa.BytesEq

theorem tknown (k : Nat) (hk : 100 ≤ k) : lychlaw5_known.f k = some true := at_rounds (g := fun k => lychlaw5_known.f k) (fun k => lychlaw5_known.mono k) hk (by decide +kernel)
theorem ttwo_eq {l : List Int} (h : IsB l) (a b : Nat) (hab : b = a + 2) (hb : b ≤ l.length) : tcp_two.f ((l.take b).drop a) = some (g16 l a) := by
  subst hab
  unfold tcp_two.f
  have hlen : ((l.take (a + 2)).drop a).length = 2 := by rw [List.length_drop, List.length_take]; omega
  rw [hlen, if_pos (by omega), if_pos (by omega), rd_mid l a (a + 2) 0 0 rfl (by omega), rd_mid l a (a + 2) 1 1 rfl (by omega), word16 (h.getD (a + 0)) (h.getD (a + 1))]
  rfl
theorem cut_in (l : List Int) (a b c d : Nat) (h : a + d ≤ b) : (((l.take b).drop a).take d).drop c = (l.take (a + d)).drop (a + c) := by
  rw [List.take_drop, List.take_take, List.drop_drop, Nat.min_eq_left h]
theorem tfour_eq {l : List Int} (h : IsB l) (a b : Nat) (hab : b = a + 4) (hb : b ≤ l.length) : tcp_four.f ((l.take b).drop a) = some (g32 l a) := by
  subst hab
  unfold tcp_four.f
  have hlen : ((l.take (a + 4)).drop a).length = 4 := by rw [List.length_drop, List.length_take]; omega
  rw [hlen, if_pos (by omega), cut_in l a (a + 4) 0 2 (by omega), cut_in l a (a + 4) 2 4 (by omega), ttwo_eq h (a + 0) (a + 2) (by omega) (by omega), ttwo_eq h (a + 2) (a + 4) (by omega) (by omega)]
  simp only [Option.bind_some]
  rw [word32 (g16_range h (a + 0)) (g16_range h (a + 2))]
  rfl
/-- a segment out of bytes -/
def tseg (l : List Int) : Int × Int × Int × Int × Int × Int × Int × Int × List Int × List Int × Int :=
  if l.length < 20 then (0, 0, 0, 0, 0, 0, 0, 0, [], [], 20) else if 4 * (l.getD 12 0 / 16) < 20 then (0, 0, 0, 0, 0, 0, 0, 0, [], [], 21) else if (l.length : Int) < 4 * (l.getD 12 0 / 16) then (0, 0, 0, 0, 0, 0, 0, 0, [], [], 20) else
  (g16 l 0, g16 l 2, g32 l 4, g32 l 8, l.getD 13 0, g16 l 14, g16 l 16, g16 l 18, (l.take (4 * (l.getD 12 0 / 16)).toNat).drop 20, l.drop (4 * (l.getD 12 0 / 16)).toNat, 0)
theorem tparse_eq {l : List Int} (h : IsB l) (hl : l.length ≤ 1000000000) : tcp_Parse.f l = some (tseg l) := by
  unfold tcp_Parse.f tseg
  by_cases h8 : l.length < 20
  · rw [if_pos (by omega), if_pos h8]
  · have hg := h.getD 12
    rw [if_neg (by omega), if_neg h8, if_pos (by omega), rd_nat l 12 12 rfl, rd_nat l 13 13 rfl]
    obtain ⟨m, hm⟩ : ∃ m : Int, m = 4 * (l.getD 12 0 / 16) := ⟨_, rfl⟩
    have hw : wrap64 (4 * (wrap64 (l.getD 12 0 / 16))) = m := by rw [wrap64_id (n := l.getD 12 0 / 16) (by omega) (by omega), wrap64_id (by omega) (by omega), hm]
    rw [hw, ← hm]
    by_cases c1 : m < 20
    · rw [if_pos c1, if_pos c1]
    · rw [if_neg c1, if_neg c1]
      by_cases c2 : (l.length : Int) < m
      · rw [if_pos c2, if_pos c2]
      · rw [if_neg c2, if_neg c2, if_pos (by omega), ttwo_eq h 0 2 rfl (by omega), Option.bind_some, if_pos (by omega), ttwo_eq h 2 4 rfl (by omega), Option.bind_some, if_pos (by omega), tfour_eq h 4 8 rfl (by omega), Option.bind_some, if_pos (by omega), tfour_eq h 8 12 rfl (by omega), Option.bind_some, if_pos (by omega), if_pos (by omega), ttwo_eq h 14 16 rfl (by omega), Option.bind_some, if_pos (by omega), ttwo_eq h 16 18 rfl (by omega), Option.bind_some, if_pos (by omega), ttwo_eq h 18 20 rfl (by omega), Option.bind_some, if_pos (by omega), if_pos (by omega), clone_eq _ (by rw [List.length_drop, List.length_take]; omega), Option.bind_some, if_pos (by omega), clone_eq _ (by rw [List.length_drop]; omega), Option.bind_some]
theorem rtparse_eq {l : List Int} (h : IsB l) (hl : l.length ≤ 1000000000) : lychref1_Tcp.f l = some (tseg l) := by
  unfold lychref1_Tcp.f tseg
  by_cases h8 : l.length < 20
  · rw [if_pos (by omega), if_pos h8]
  · have hg := h.getD 12
    rw [if_neg (by omega), if_neg h8, if_pos (by omega), rd_nat l 12 12 rfl, rd_nat l 13 13 rfl]
    obtain ⟨m, hm⟩ : ∃ m : Int, m = 4 * (l.getD 12 0 / 16) := ⟨_, rfl⟩
    have hw : wrap64 ((wrap64 (l.getD 12 0 / 16)) * 4) = m := by rw [wrap64_id (n := l.getD 12 0 / 16) (by omega) (by omega), wrap64_id (by omega) (by omega), hm]; omega
    rw [hw, ← hm]
    have e0 := get16_eq h 0 (by omega) hl
    have e2 := get16_eq h 2 (by omega) hl
    have e4 := get32_eq h 4 (by omega) hl
    have e8 := get32_eq h 8 (by omega) hl
    have e14 := get16_eq h 14 (by omega) hl
    have e16 := get16_eq h 16 (by omega) hl
    have e18 := get16_eq h 18 (by omega) hl
    rw [show ((0 : Nat) : Int) = 0 from rfl] at e0
    rw [show ((2 : Nat) : Int) = 2 from rfl] at e2
    rw [show ((4 : Nat) : Int) = 4 from rfl] at e4
    rw [show ((8 : Nat) : Int) = 8 from rfl] at e8
    rw [show ((14 : Nat) : Int) = 14 from rfl] at e14
    rw [show ((16 : Nat) : Int) = 16 from rfl] at e16
    rw [show ((18 : Nat) : Int) = 18 from rfl] at e18
    by_cases c1 : m < 20
    · rw [if_pos c1, if_pos c1]
    · rw [if_neg c1, if_neg c1]
      by_cases c2 : (l.length : Int) < m
      · rw [if_pos c2, if_pos c2]
      · have f1 := cut_eq l 20 m.toNat (by omega) (by omega) hl
        have f2 := cut_eq l m.toNat l.length (by omega) (by omega) hl
        rw [show ((20 : Nat) : Int) = 20 from rfl, Int.toNat_of_nonneg (by omega)] at f1
        rw [List.take_length, Int.toNat_of_nonneg (by omega)] at f2
        rw [if_neg c2, if_neg c2, e0, Option.bind_some, e2, Option.bind_some, e4, Option.bind_some, e8, Option.bind_some, if_pos (by omega), e14, Option.bind_some, e16, Option.bind_some, e18, Option.bind_some, f1, Option.bind_some, f2, Option.bind_some]
theorem tcp_refl (s d q a f w c u : Int) (o l : List Int) : lychhelp_Tcp.f s d q a f w c u o l s d q a f w c u o l = some true := by
  unfold lychhelp_Tcp.f
  rw [if_pos rfl, if_pos rfl, if_pos rfl, if_pos rfl, if_pos rfl, if_pos rfl, if_pos rfl, if_pos rfl, bytes_refl, Option.bind_some, if_pos rfl, bytes_refl]
  rfl
end Go.Proofs.Ytnodigdpodiphaa.Pure
