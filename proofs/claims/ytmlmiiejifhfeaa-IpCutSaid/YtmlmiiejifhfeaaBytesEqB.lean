/- Numbers of 32 bits out of bytes. -/
import Derived.Test.YtmlmiiejifhfeaaPAx12
import Derived.Test.YtmlmiiejifhfeaaBytesEq
namespace Go.Proofs.Ytmlmiiejifhfeaa.BytesEq
set_option linter.unusedVariables false
set_option linter.unusedSimpArgs false
open Go.RowKit Go.Proofs.Ytmlmiiejifhfeaa.PA Go.Proofs.YtmlmiiejifhfeaaW.PrintWords Go.Proofs.YtmlmiiejifhfeaaW.PrintLast Go.Proofs.Ytmlmiiejifhfeaa.Spec

theorem get32_eq {l : List Int} (h : IsB l) (i : Nat) (hi : i + 4 ≤ l.length) (hl : l.length ≤ 1000000000) : lychref1_Get32.f l (i : Int) = some (g32 l i) := by
  unfold lychref1_Get32.f
  have e : wrap64 ((i : Int) + 2) = ((i + 2 : Nat) : Int) := by rw [wrap64_id (by omega) (by omega)]; omega
  rw [e, get16_eq h i (by omega) hl, get16_eq h (i + 2) (by omega) hl]
  simp only [Option.bind_some]
  rw [word32 (g16_range h i) (g16_range h (i + 2))]
  rfl
end Go.Proofs.Ytmlmiiejifhfeaa.BytesEq
