/- The plain statement of UdpNone: printed by rowgen.py. -/
import Derived.Test.YtnodigdpodiphaaPAx12
namespace Go.Proofs.Ytnodigdpodiphaa.Pure
open Go.RowKit Go.Proofs.Ytnodigdpodiphaa.PA Go.Proofs.YtnodigdpodiphaaW.PrintWords Go.Proofs.YtnodigdpodiphaaW.PrintLast
def UdpNonePure : Prop := ∀ (a0 : Int) (a1 : Int) (a2_0 : Int) (a2_1 : Int) (a2_2 : Int) (l2_3 : List Int), (Lit.int .u32 a0).wf = true → (Lit.int .u32 a1).wf = true → (Lit.int .u16 a2_0).wf = true → (Lit.int .u16 a2_1).wf = true → (Lit.int .u16 a2_2).wf = true → l2_3.length ≤ maxLen → (∀ x ∈ l2_3, (Lit.int .u8 x).wf = true) → ∃ k, lychlaw4_UdpNone.f k a0 a1 a2_0 a2_1 a2_2 l2_3 = some true
end Go.Proofs.Ytnodigdpodiphaa.Pure
