import Derived.Test.YtgeggcifhojpmaaDiskPr
import Derived.Laws.CopyRow
import Derived.Laws.MakeOwn
import Derived.Laws.CopyOwn
import Derived.Deep.Cut
import Derived.Deep.CutRange
import Derived.Deep.CutBlock
namespace Go.Proofs.Ytgeggcifhojpmaa.PA
open Go.RowKit Go.Proofs.YtgeggcifhojpmaaW.PrintWords Go.Proofs.YtgeggcifhojpmaaW.PrintLast Go.Proofs.YtgeggcifhojpmaaW.PrintMore
attribute [local go_sem] max2_mx min2_mn max_two min_two max_three min_three max_four min_four   -- for this text's walks alone
set_option linter.unusedVariables false
set_option linter.unusedSimpArgs false

/-- A part of a code: left, right. -/
def codeL : Code → Code
  | .seq a _ => a
  | .block _ c => c
  | .loop c => c
  | .cond _ a _ => a
  | c => c
def codeR : Code → Code
  | .seq _ b => b
  | .cond _ _ b => b
  | c => c
theorem placeN (c m : Int) (hm : 0 < m) (hm2 : m < 1000000) : ∃ r, lychhelp_Place.f c m = some r ∧ 0 ≤ r ∧ r < m := by
  unfold lychhelp_Place.f
  rw [if_neg (by omega)]
  have h1 := Int.tmod_lt_of_pos c hm
  have h2 : -m < Int.tmod c m := Int.lt_tmod_of_pos c hm
  by_cases h : Int.tmod c m < 0
  · rw [if_pos h]
    exact ⟨_, rfl, by unfold wrap64; omega, by unfold wrap64; omega⟩
  · rw [if_neg h]
    exact ⟨_, rfl, by omega, by omega⟩
end Go.Proofs.Ytgeggcifhojpmaa.PA
