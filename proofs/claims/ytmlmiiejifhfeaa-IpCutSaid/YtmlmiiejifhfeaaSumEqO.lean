/- The checksum of bytes. -/
import Derived.Test.YtmlmiiejifhfeaaPAx6
import Derived.Test.YtmlmiiejifhfeaaPAx11
import Derived.Test.YtmlmiiejifhfeaaSumEq
namespace Go.Proofs.Ytmlmiiejifhfeaa.SumEq
set_option linter.unusedVariables false
set_option linter.unusedSimpArgs false
open Go.RowKit Go.Proofs.Ytmlmiiejifhfeaa.PA Go.Proofs.YtmlmiiejifhfeaaW.PrintWords Go.Proofs.YtmlmiiejifhfeaaW.PrintLast Go.Proofs.Ytmlmiiejifhfeaa.Spec

theorem of_eq (l : List Int) (hb : IsB l) (hl : l.length ≤ 1000000000) (k : Nat) (hk : l.length + 1 < k) (hk3 : 3 < k) : sum_Of.f k l = some (ck l) := by
  have hr := addw_range (words l) 0 (by omega) (by omega) (words_isW l hb)
  have hn := norm_addw (words l) 0 (by omega) (by omega) (words_isW l hb)
  have hp := norm_range _ (isum_nonneg _ (words_isW l hb))
  unfold sum_Of.f
  rw [add_eq 0 l hb hl (by omega) (by omega) k hk]
  simp only [Option.bind_some]
  rw [fold_eq _ hr.1 hr.2 k hk3, hn, Int.zero_add]
  simp only [Option.bind_some]
  rw [show (IntKind.u16.max : Int) = 65535 from rfl, not_u16 hp.1 hp.2]
  rfl
theorem rof_eq (l : List Int) (hb : IsB l) (hl : l.length ≤ 1000000000) (k : Nat) (hk : l.length + 1 < k) (hk3 : 3 < k) : lychref1_Of.f k l = some (ck l) := by
  have hr := addw_range (words l) 0 (by omega) (by omega) (words_isW l hb)
  have hn := norm_addw (words l) 0 (by omega) (by omega) (words_isW l hb)
  have hp := norm_range _ (isum_nonneg _ (words_isW l hb))
  unfold lychref1_Of.f
  rw [radd_eq 0 l hb hl (by omega) (by omega) k hk]
  simp only [Option.bind_some]
  rw [rfold_eq _ hr.1 hr.2 k hk3, hn, Int.zero_add]
  simp only [Option.bind_some]
  rw [show (IntKind.u16.max : Int) = 65535 from rfl, not_u16 hp.1 hp.2]
  rfl
end Go.Proofs.Ytmlmiiejifhfeaa.SumEq
