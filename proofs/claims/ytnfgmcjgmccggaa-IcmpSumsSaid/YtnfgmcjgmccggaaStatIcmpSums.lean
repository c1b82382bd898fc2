/- The plain statement of IcmpSums: printed by rowgen.py. -/
import Derived.Test.YtnfgmcjgmccggaaPAx9
namespace Go.Proofs.Ytnfgmcjgmccggaa.Pure
open Go.RowKit Go.Proofs.Ytnfgmcjgmccggaa.PA Go.Proofs.YtnfgmcjgmccggaaW.PrintWords Go.Proofs.YtnfgmcjgmccggaaW.PrintLast
def IcmpSumsPure : Prop := ∀ (a0_0 : Int) (a0_1 : Int) (a0_2 : Int) (a0_3 : Int) (l0_4 : List Int) (a1 : Int), (Lit.int .u8 a0_0).wf = true → (Lit.int .u8 a0_1).wf = true → (Lit.int .u16 a0_2).wf = true → (Lit.int .u32 a0_3).wf = true → l0_4.length ≤ maxLen → (∀ x ∈ l0_4, (Lit.int .u8 x).wf = true) → (Lit.int .u16 a1).wf = true → ∃ k, lychlaw6_IcmpSums.f k a0_0 a0_1 a0_2 a0_3 l0_4 a1 = some true
end Go.Proofs.Ytnfgmcjgmccggaa.Pure
