/- IpReads, the plain statement: for every input the printed law returns true. -/
import Derived.Test.YtmlmiiejifhfeaaPAx15
import Derived.Test.YtmlmiiejifhfeaaPureIpsC
namespace Go.Proofs.Ytmlmiiejifhfeaa.Pure
set_option linter.unusedVariables false
set_option linter.unusedSimpArgs false
open Go.RowKit Go.Proofs.Ytmlmiiejifhfeaa.PA Go.Proofs.YtmlmiiejifhfeaaW.PrintWords Go.Proofs.YtmlmiiejifhfeaaW.PrintLast
open Go.Proofs.Ytmlmiiejifhfeaa.Spec Go.Proofs.Ytmlmiiejifhfeaa.BytesEq Go.Proofs.Ytmlmiiejifhfeaa.SumEq

theorem IpReads : lychlaw3_IpReads.Pure := by
  intro l a _ hl hb
  have h := isB_wf hb
  obtain ⟨K, hK⟩ : ∃ K : Nat, 4000 ≤ K := ⟨4000, Nat.le_refl _⟩
  refine ⟨K + 1, ?_⟩
  unfold lychlaw3_IpReads.f
  rw [iknown (K + 1) (by omega), Option.bind_some, if_pos rfl]
  by_cases hc : (l.length : Int) > 3000
  · rw [if_pos hc]
  · have q1 : ([] : List Int).length + l.length < 140737488355328 := by rw [List.length_nil]; omega
    rw [if_neg hc, if_pos q1, Option.bind_some, List.nil_append]
    have hhr := ihead_range l
    have hf : ∃ t, lychlaw3_first.f l = some t ∧ wrap64 (4 * (wrap64 (Go.bits .and .u8 t 15))) = ihead l := by
      unfold lychlaw3_first.f
      by_cases c0 : (l.length : Int) = 0
      · rw [if_pos c0]
        have e0 : l = [] := by cases l with
          | nil => rfl
          | cons x y => simp at c0; omega
        subst e0
        exact ⟨rd [] 0, rfl, ihead_eq h⟩
      · rw [if_neg c0, if_pos (by omega)]
        exact ⟨_, rfl, ihead_eq h⟩
    obtain ⟨t, ft, fh⟩ := hf
    rw [ft, Option.bind_some, fh]
    have plain : lychlaw3_IpReads.j0 (K + 1) l (ihead l) false = some true := by
      obtain ⟨s, f1, f2, _⟩ := both h (by omega) K (by omega)
      rw [lychlaw3_IpReads.j0, if_neg (by decide), f1, Option.bind_some, f2, Option.bind_some, if_pos rfl, ip_refl, Option.bind_some]
    by_cases ca : a = true
    · rw [if_pos ca]
      by_cases c1 : (l.length : Int) ≥ 20
      · rw [if_pos c1]
        by_cases c2 : (l.length : Int) ≥ ihead l
        · rw [if_pos c2]
          by_cases c3 : ihead l ≥ 20
          · rw [decide_eq_true c3]
            have hB : IsB ((l.set (10 : Int).toNat 0).set (11 : Int).toNat 0) := (h.set _ (by omega)).set _ (by omega)
            have hL : ((l.set (10 : Int).toNat 0).set (11 : Int).toNat 0).length = l.length := by rw [List.length_set, List.length_set]
            have e := rof_eq _ (hB.take (ihead l).toNat) (by rw [List.length_take, hL]; omega) K (by rw [List.length_take, hL]; omega) (by omega)
            obtain ⟨x, hx⟩ : ∃ x, x = ck (((l.set (10 : Int).toNat 0).set (11 : Int).toNat 0).take (ihead l).toNat) := ⟨_, rfl⟩
            rw [← hx] at e
            have hB2 : IsB ((((l.set (10 : Int).toNat 0).set (11 : Int).toNat 0).set (10 : Int).toNat (x / 256 % 256)).set (11 : Int).toNat (x % 256)) := (hB.set _ (by omega)).set _ (by omega)
            obtain ⟨s, f1, f2, _⟩ := both hB2 (by rw [List.length_set, List.length_set, hL]; omega) K (by rw [List.length_set, List.length_set, hL]; omega)
            rw [lychlaw3_IpReads.j0, if_pos rfl, if_pos (by omega), if_pos (by omega), Option.bind_some, if_pos (by omega), if_pos (by omega), e, Option.bind_some, Option.bind_some, f1, Option.bind_some, f2, Option.bind_some, if_pos rfl, ip_refl, Option.bind_some]
          · rw [decide_eq_false c3]
            exact plain
        · rw [if_neg c2]
          exact plain
      · rw [if_neg c1]
        exact plain
    · rw [if_neg ca]
      exact plain
end Go.Proofs.Ytmlmiiejifhfeaa.Pure
