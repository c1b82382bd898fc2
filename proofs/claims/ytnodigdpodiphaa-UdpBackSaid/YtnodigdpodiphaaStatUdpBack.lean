/- The plain statement of UdpBack: printed by rowgen.py. -/
import Derived.Test.YtnodigdpodiphaaPAx6
namespace Go.Proofs.Ytnodigdpodiphaa.Pure
open Go.RowKit Go.Proofs.Ytnodigdpodiphaa.PA Go.Proofs.YtnodigdpodiphaaW.PrintWords Go.Proofs.YtnodigdpodiphaaW.PrintLast
def UdpBackPure : Prop := ∀ (a0_0 : Int) (a0_1 : Int) (a0_2 : Int) (l0_3 : List Int), (Lit.int .u16 a0_0).wf = true → (Lit.int .u16 a0_1).wf = true → (Lit.int .u16 a0_2).wf = true → l0_3.length ≤ maxLen → (∀ x ∈ l0_3, (Lit.int .u8 x).wf = true) → ∃ k, lychlaw4_UdpBack.f k a0_0 a0_1 a0_2 l0_3 = some true
end Go.Proofs.Ytnodigdpodiphaa.Pure
