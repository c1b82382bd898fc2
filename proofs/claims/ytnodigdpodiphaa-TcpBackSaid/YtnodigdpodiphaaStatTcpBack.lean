/- The plain statement of TcpBack: printed by rowgen.py. -/
import Derived.Test.YtnodigdpodiphaaPAx21
namespace Go.Proofs.Ytnodigdpodiphaa.Pure
open Go.RowKit Go.Proofs.Ytnodigdpodiphaa.PA Go.Proofs.YtnodigdpodiphaaW.PrintWords Go.Proofs.YtnodigdpodiphaaW.PrintLast
def TcpBackPure : Prop := ∀ (a0_0 : Int) (a0_1 : Int) (a0_2 : Int) (a0_3 : Int) (a0_4 : Int) (a0_5 : Int) (a0_6 : Int) (a0_7 : Int) (l0_8 : List Int) (l0_9 : List Int), (Lit.int .u16 a0_0).wf = true → (Lit.int .u16 a0_1).wf = true → (Lit.int .u32 a0_2).wf = true → (Lit.int .u32 a0_3).wf = true → (Lit.int .u8 a0_4).wf = true → (Lit.int .u16 a0_5).wf = true → (Lit.int .u16 a0_6).wf = true → (Lit.int .u16 a0_7).wf = true → l0_8.length ≤ maxLen → (∀ x ∈ l0_8, (Lit.int .u8 x).wf = true) → l0_9.length ≤ maxLen → (∀ x ∈ l0_9, (Lit.int .u8 x).wf = true) → ∃ k, lychlaw5_TcpBack.f k a0_0 a0_1 a0_2 a0_3 a0_4 a0_5 a0_6 a0_7 l0_8 l0_9 = some true
end Go.Proofs.Ytnodigdpodiphaa.Pure
