/- The plain statement of EthBack: printed by rowgen.py. -/
import Derived.Test.YtnfgmcjgmccggaaPAx13
namespace Go.Proofs.Ytnfgmcjgmccggaa.Pure
open Go.RowKit Go.Proofs.Ytnfgmcjgmccggaa.PA Go.Proofs.YtnfgmcjgmccggaaW.PrintWords Go.Proofs.YtnfgmcjgmccggaaW.PrintLast
def EthBackPure : Prop := ∀ (a0_0 : Int) (a0_1 : Int) (a0_2 : Int) (a0_3 : Int) (a0_4 : Int) (a0_5 : Int) (a0_6 : Int) (a0_7 : Int) (a0_8 : Int) (a0_9 : Int) (a0_10 : Int) (a0_11 : Int) (a0_12 : Int) (l0_13 : List Int) (a1 : Int), (Lit.int .u8 a0_0).wf = true → (Lit.int .u8 a0_1).wf = true → (Lit.int .u8 a0_2).wf = true → (Lit.int .u8 a0_3).wf = true → (Lit.int .u8 a0_4).wf = true → (Lit.int .u8 a0_5).wf = true → (Lit.int .u8 a0_6).wf = true → (Lit.int .u8 a0_7).wf = true → (Lit.int .u8 a0_8).wf = true → (Lit.int .u8 a0_9).wf = true → (Lit.int .u8 a0_10).wf = true → (Lit.int .u8 a0_11).wf = true → (Lit.int .u16 a0_12).wf = true → l0_13.length ≤ maxLen → (∀ x ∈ l0_13, (Lit.int .u8 x).wf = true) → (Lit.int .u16 a1).wf = true → ∃ k, lychlaw2_EthBack.f k a0_0 a0_1 a0_2 a0_3 a0_4 a0_5 a0_6 a0_7 a0_8 a0_9 a0_10 a0_11 a0_12 l0_13 a1 = some true
end Go.Proofs.Ytnfgmcjgmccggaa.Pure
