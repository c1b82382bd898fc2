/- SumWords: for every start and every bytes, the statement's function returns true: the program's words, sums and folds are the reference's. -/
import Derived.Test.YtfkbjfbbpbcdaaaPAx4
import Derived.Test.YtfkbjfbbpbcdaaaSumEq
namespace Go.Proofs.Ytfkbjfbbpbcdaaa.Pure
set_option linter.unusedVariables false
set_option linter.unusedSimpArgs false
open Go.RowKit Go.Proofs.Ytfkbjfbbpbcdaaa.PA Go.Proofs.YtfkbjfbbpbcdaaaW.PrintWords Go.Proofs.YtfkbjfbbpbcdaaaW.PrintLast
open Go.Proofs.Ytfkbjfbbpbcdaaa.Spec Go.Proofs.Ytfkbjfbbpbcdaaa.SumEq

theorem SumWords : lychlaw1_SumWords.Pure := by
  intro s l hs _ hl hb
  have hs := wf_u32 hs
  have hb := isB_of hb
  obtain ⟨K, hK⟩ : ∃ K : Nat, 4000 ≤ K := ⟨4000, Nat.le_refl _⟩
  refine ⟨K, ?_⟩
  unfold lychlaw1_SumWords.f
  rw [known_eq K (by omega)]
  simp only [Option.bind_some, if_true]
  by_cases hc : (l.length : Int) > 3000
  · rw [if_pos hc]
  · have hw := words_length l
    rw [if_neg hc, words_eq l hb (by omega) _ (by omega), rwords_eq l hb (by omega) _ (by omega)]
    simp only [Option.bind_some]
    rw [helpWords_eq _ (by omega) _ (by omega), add_eq s l hb (by omega) hs.1 hs.2 _ (by omega), radd_eq s l hb (by omega) hs.1 hs.2 _ (by omega)]
    simp only [Option.bind_some, if_true]
    rw [of_eq l hb (by omega) _ (by omega) (by omega), rof_eq l hb (by omega) _ (by omega) (by omega), fold_eq s hs.1 hs.2 _ (by omega), rfold_eq s hs.1 hs.2 _ (by omega)]
    simp only [Option.bind_some, if_true, beq_self_eq_true]

end Go.Proofs.Ytfkbjfbbpbcdaaa.Pure
