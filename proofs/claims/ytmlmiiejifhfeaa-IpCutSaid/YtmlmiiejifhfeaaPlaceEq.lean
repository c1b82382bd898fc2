/- A place among n. -/
import Derived.Test.YtmlmiiejifhfeaaPAx19
import Derived.Test.YtmlmiiejifhfeaaSpec
namespace Go.Proofs.Ytmlmiiejifhfeaa.Pure
set_option linter.unusedVariables false
set_option linter.unusedSimpArgs false
open Go.RowKit Go.Proofs.Ytmlmiiejifhfeaa.PA Go.Proofs.YtmlmiiejifhfeaaW.PrintWords Go.Proofs.YtmlmiiejifhfeaaW.PrintLast Go.Proofs.Ytmlmiiejifhfeaa.Spec
theorem place_eq (a n : Int) (hn : 0 < n) (hn2 : n ≤ 1000000000) (ha : -9223372036854775808 ≤ a ∧ a ≤ 9223372036854775807) : ∃ r : Nat, lychhelp_Place.f a n = some (r : Int) ∧ (r : Int) < n := by
  unfold lychhelp_Place.f
  rw [if_neg (by omega)]
  by_cases h : 0 ≤ a
  · have e := Int.tmod_eq_emod_of_nonneg (a := a) (b := n) h
    have h1 := Int.emod_nonneg a (show n ≠ 0 by omega)
    have h2 := Int.emod_lt_of_pos a hn
    rw [e, if_neg (by omega)]
    exact ⟨(a % n).toNat, by congr 1; omega, by omega⟩
  · have e : Int.tmod a n = -((-a) % n) := by
      have := Int.neg_tmod (a := -a) (b := n)
      rw [Int.neg_neg] at this
      rw [this, Int.tmod_eq_emod_of_nonneg (by omega)]
    have h1 := Int.emod_nonneg (-a) (show n ≠ 0 by omega)
    have h2 := Int.emod_lt_of_pos (-a) hn
    rw [e]
    by_cases h3 : -((-a) % n) < 0
    · rw [if_pos h3, wrap64_id (by omega) (by omega)]
      exact ⟨(-((-a) % n) + n).toNat, by congr 1; omega, by omega⟩
    · rw [if_neg h3]
      exact ⟨(-((-a) % n)).toNat, by congr 1; omega, by omega⟩
end Go.Proofs.Ytmlmiiejifhfeaa.Pure
