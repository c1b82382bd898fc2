/- TcpHeads, the plain statement: for every header's length the printed law returns true. -/
import Derived.Test.YtnodigdpodiphaaPAx36
import Derived.Test.YtnodigdpodiphaaPureTcpsR
namespace Go.Proofs.Ytnodigdpodiphaa.Pure
set_option linter.unusedVariables false
set_option linter.unusedSimpArgs false
open Go.RowKit Go.Proofs.Ytnodigdpodiphaa.PA Go.Proofs.YtnodigdpodiphaaW.PrintWords Go.Proofs.YtnodigdpodiphaaW.PrintLast
open Go.Proofs.Ytnodigdpodiphaa.Spec Go.Proofs.Ytnodigdpodiphaa.BytesEq

theorem tseg_code {l : List Int} (h : 20 ≤ l.length) : (tseg l).2.2.2.2.2.2.2.2.2.2 = if 4 * (l.getD 12 0 / 16) < 20 then 21 else if (l.length : Int) < 4 * (l.getD 12 0 / 16) then 20 else 0 := by
  unfold tseg
  rw [if_neg (by omega)]
  by_cases c1 : 4 * (l.getD 12 0 / 16) < 20
  · rw [if_pos c1, if_pos c1]
  · rw [if_neg c1, if_neg c1]
    by_cases c2 : (l.length : Int) < 4 * (l.getD 12 0 / 16)
    · rw [if_pos c2, if_pos c2]
    · rw [if_neg c2, if_neg c2]
theorem getD_set_ne (l : List Int) (i j : Nat) (v : Int) (h : i ≠ j) : (l.set i v).getD j 0 = l.getD j 0 := by
  rw [List.getD_eq_getElem?_getD, List.getD_eq_getElem?_getD, List.getElem?_set_ne h]
theorem getD_set_eq (l : List Int) (i : Nat) (v : Int) (h : i < l.length) : (l.set i v).getD i 0 = v := by
  rw [List.getD_eq_getElem?_getD, List.getElem?_set_self h]; rfl
theorem g16_set (l : List Int) (v : Int) (j : Nat) (h : j ≠ 12) (h' : j ≠ 11) : g16 (l.set 12 v) j = g16 l j := by
  unfold g16
  rw [getD_set_ne l 12 j v (by omega), getD_set_ne l 12 (j + 1) v (by omega)]
theorem tseg_set {l : List Int} {v v' : Int} (h : 20 ≤ l.length) (hv : v / 16 = v' / 16) : tseg (l.set 12 v) = tseg (l.set 12 v') := by
  have e : ∀ v : Int, tseg (l.set 12 v) = if 4 * (v / 16) < 20 then (0, 0, 0, 0, 0, 0, 0, 0, [], [], 21) else if (l.length : Int) < 4 * (v / 16) then (0, 0, 0, 0, 0, 0, 0, 0, [], [], 20) else
      (g16 l 0, g16 l 2, g32 l 4, g32 l 8, l.getD 13 0, g16 l 14, g16 l 16, g16 l 18, (l.take (4 * (v / 16)).toNat).drop 20, l.drop (4 * (v / 16)).toNat, 0) := by
    intro v
    unfold tseg g32
    rw [List.length_set, if_neg (by omega), getD_set_eq l 12 v (by omega), getD_set_ne l 12 13 v (by omega), g16_set l v 0 (by omega) (by omega), g16_set l v 2 (by omega) (by omega), g16_set l v 4 (by omega) (by omega), g16_set l v 6 (by omega) (by omega), g16_set l v 8 (by omega) (by omega), g16_set l v 10 (by omega) (by omega), g16_set l v 14 (by omega) (by omega), g16_set l v 16 (by omega) (by omega), g16_set l v 18 (by omega) (by omega)]
    by_cases c1 : 4 * (v / 16) < 20
    · rw [if_pos c1, if_pos c1]
    · rw [if_neg c1, if_neg c1]
      rw [List.take_set, List.drop_set_of_lt (by omega), List.drop_set_of_lt (by omega)]
  rw [e, e, hv]
theorem TcpHeads : lychlaw5_TcpHeads.Pure := by
  intro l a b _ hl hB ha hb
  have h := isB_wf hB
  have ha := u8_wf ha
  have hb := u8_wf hb
  obtain ⟨K, hK⟩ : ∃ K : Nat, 4000 ≤ K := ⟨4000, Nat.le_refl _⟩
  refine ⟨K, ?_⟩
  unfold lychlaw5_TcpHeads.f
  rw [tknown K (by omega), Option.bind_some, if_pos rfl]
  by_cases hc : (l.length : Int) > 500
  · rw [if_pos hc]
  · have ew : wrap64 (20 - (l.length : Int)) = 20 - (l.length : Int) := wrap64_id (by omega) (by omega)
    rw [if_neg hc, ew]
    obtain ⟨m, hm⟩ : ∃ m : Int, m = mx (20 - (l.length : Int)) 0 := ⟨_, rfl⟩
    have hm0 : 0 ≤ m ∧ 20 - (l.length : Int) ≤ m ∧ m ≤ 20 := by rw [hm]; unfold mx; split <;> omega
    rw [← hm]
    clear hm
    have q1 : ([] : List Int).length + l.length < 140737488355328 := by rw [List.length_nil]; omega
    rw [if_pos q1, Option.bind_some, List.nil_append]
    have q2 : l.length + m.toNat < 140737488355328 := by omega
    rw [if_pos hm0.1, if_pos q2, Option.bind_some]
    obtain ⟨c, hce⟩ : ∃ c, c = l ++ List.replicate m.toNat (0 : Int) := ⟨_, rfl⟩
    have hcl : c.length = l.length + m.toNat := by rw [hce, List.length_append, List.length_replicate]
    have hcB : IsB c := by rw [hce]; exact h.append (IsB.replicate _)
    rw [← hce]
    clear hce
    have e12 : (12 : Int).toNat = 12 := rfl
    rw [if_pos (by omega), Option.bind_some, e12]
    have ea : Go.bits .and .u8 a 15 = a % 16 := and_u8 4 (by omega) ha.1 ha.2
    have eb : Go.bits .and .u8 b 15 = b % 16 := and_u8 4 (by omega) hb.1 hb.2
    have eo : Go.bits .or .u8 (a * 16 % 256) (b % 16) = a * 16 % 256 + b % 16 := or_u8 4 (by omega) (by omega) (by omega) (by omega) (by omega) (by omega)
    rw [ea, eb, eo]
    have ek : wrap64 (wrap64 (a % 16) * 4) = a % 16 * 4 := by rw [wrap64_id (n := a % 16) (by omega) (by omega), wrap64_id (by omega) (by omega)]
    rw [ek]
    have hy1 : IsB (c.set 12 (a * 16 % 256 + b % 16)) := hcB.set _ (by omega)
    have hy2 : IsB ((c.set 12 (a * 16 % 256 + b % 16)).set 12 (a * 16 % 256)) := hy1.set _ (by omega)
    rw [tparse_eq hy1 (by rw [List.length_set]; omega), Option.bind_some, Option.bind_some, tparse_eq hy2 (by rw [List.length_set, List.length_set]; omega), Option.bind_some, rtparse_eq hy2 (by rw [List.length_set, List.length_set]; omega), Option.bind_some, List.set_set, tseg_set (v := a * 16 % 256 + b % 16) (v' := a * 16 % 256) (by omega) (by omega)]
    have code := tseg_code (l := c.set 12 (a * 16 % 256)) (by rw [List.length_set]; omega)
    rw [getD_set_eq c 12 _ (by omega), List.length_set] at code
    have e4 : 4 * (a * 16 % 256 / 16) = a % 16 * 4 := by omega
    rw [e4] at code
    obtain ⟨T, hT⟩ : ∃ T, T = tseg (c.set 12 (a * 16 % 256)) := ⟨_, rfl⟩
    rw [← hT] at code ⊢
    clear hT
    by_cases c1 : a % 16 * 4 < 20
    · rw [if_pos c1] at code
      rw [if_pos c1, if_pos code, if_pos code, if_pos code, tcp_refl, Option.bind_some, if_pos rfl, Option.bind_some]
    · rw [if_neg c1] at code
      rw [if_neg c1]
      by_cases c2 : a % 16 * 4 > (c.length : Int)
      · rw [if_pos (by omega)] at code
        rw [if_pos c2, if_pos code, if_pos code, if_pos code, tcp_refl, Option.bind_some, if_pos rfl, Option.bind_some]
      · rw [if_neg (by omega)] at code
        rw [if_neg c2, if_pos code, if_pos code, if_pos code, tcp_refl, Option.bind_some, if_pos rfl, Option.bind_some]
end Go.Proofs.Ytnodigdpodiphaa.Pure
