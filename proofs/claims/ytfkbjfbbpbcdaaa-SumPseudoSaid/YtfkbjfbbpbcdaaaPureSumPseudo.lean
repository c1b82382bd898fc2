/- SumPseudo: for every addresses, protocol and length, the statement's function returns true: the program's pseudo sum is the reference's. -/
import Derived.Test.YtfkbjfbbpbcdaaaPAx4
import Derived.Test.YtfkbjfbbpbcdaaaSumEq
namespace Go.Proofs.Ytfkbjfbbpbcdaaa.Pure
set_option linter.unusedVariables false
set_option linter.unusedSimpArgs false
open Go.RowKit Go.Proofs.Ytfkbjfbbpbcdaaa.PA Go.Proofs.YtfkbjfbbpbcdaaaW.PrintWords Go.Proofs.YtfkbjfbbpbcdaaaW.PrintLast
open Go.Proofs.Ytfkbjfbbpbcdaaa.Spec Go.Proofs.Ytfkbjfbbpbcdaaa.SumEq

theorem SumPseudo : lychlaw1_SumPseudo.Pure := by
  intro a b c n ha hb hc _
  have ha := wf_u32 ha
  have hb := wf_u32 hb
  have hc := wf_u8 hc
  obtain ⟨K, hK⟩ : ∃ K : Nat, 4000 ≤ K := ⟨4000, Nat.le_refl _⟩
  refine ⟨K, ?_⟩
  unfold lychlaw1_SumPseudo.f
  rw [known_eq K (by omega), pseudo_eq a b c n ha hb hc K (by omega), rpseudo_eq a b c n ha hb hc K (by omega)]
  simp only [Option.bind_some, if_true, beq_self_eq_true]

end Go.Proofs.Ytfkbjfbbpbcdaaa.Pure
