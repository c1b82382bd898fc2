/- The plain statement of IpCut: printed by rowgen.py. -/
import Derived.Test.YtmlmiiejifhfeaaPAx30
namespace Go.Proofs.Ytmlmiiejifhfeaa.Pure
open Go.RowKit Go.Proofs.Ytmlmiiejifhfeaa.PA Go.Proofs.YtmlmiiejifhfeaaW.PrintWords Go.Proofs.YtmlmiiejifhfeaaW.PrintLast
def IpCutPure : Prop := ∀ (a0_0 : Int) (a0_1 : Int) (a0_2 : Int) (a0_3 : Int) (a0_4 : Int) (a0_5 : Int) (a0_6 : Int) (a0_7 : Int) (l0_8 : List Int) (l0_9 : List Int) (a1 : Int) (l2 : List Int), (Lit.int .u8 a0_0).wf = true → (Lit.int .u8 a0_1).wf = true → (Lit.int .u8 a0_2).wf = true → (Lit.int .u16 a0_3).wf = true → (Lit.int .u8 a0_4).wf = true → (Lit.int .u16 a0_5).wf = true → (Lit.int .u32 a0_6).wf = true → (Lit.int .u32 a0_7).wf = true → l0_8.length ≤ maxLen → (∀ x ∈ l0_8, (Lit.int .u8 x).wf = true) → l0_9.length ≤ maxLen → (∀ x ∈ l0_9, (Lit.int .u8 x).wf = true) → (Lit.int .i64 a1).wf = true → l2.length ≤ maxLen → (∀ x ∈ l2, (Lit.int .u8 x).wf = true) → ∃ k, lychlaw3_IpCut.f k a0_0 a0_1 a0_2 a0_3 a0_4 a0_5 a0_6 a0_7 l0_8 l0_9 a1 l2 = some true
end Go.Proofs.Ytmlmiiejifhfeaa.Pure
