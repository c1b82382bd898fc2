/- The sum of what stands ahead in thought. -/
import Derived.Test.YtnodigdpodiphaaPAx1
import Derived.Test.YtnodigdpodiphaaPAx7
import Derived.Test.YtnodigdpodiphaaSumEq
namespace Go.Proofs.Ytnodigdpodiphaa.SumEq
set_option linter.unusedVariables false
set_option linter.unusedSimpArgs false
open Go.RowKit Go.Proofs.Ytnodigdpodiphaa.PA Go.Proofs.YtnodigdpodiphaaW.PrintWords Go.Proofs.YtnodigdpodiphaaW.PrintLast Go.Proofs.Ytnodigdpodiphaa.Spec

theorem pseudo_eq (a b c n : Int) (ha : 0 ≤ a ∧ a ≤ 4294967295) (hb : 0 ≤ b ∧ b ≤ 4294967295) (hc : 0 ≤ c ∧ c ≤ 255) (k : Nat) (hk : 3 < k) :
    sum_Pseudo.f k a b c n = some (norm (a / 65536 + a % 65536 + b / 65536 + b % 65536 + c + n % 65536)) := by
  unfold sum_Pseudo.f
  rw [and_65535 ha.1 ha.2, and_65535 hb.1 hb.2, IntKind.wrap_u16, fold_eq _ (by omega) (by omega) k hk]
  simp only [Option.bind_some]
  have := norm_range (a / 65536 + a % 65536 + b / 65536 + b % 65536 + c + n % 65536) (by omega)
  rw [show (a / 65536 + a % 65536 + b / 65536 + b % 65536 + c + n % 65536) % 4294967296 = a / 65536 + a % 65536 + b / 65536 + b % 65536 + c + n % 65536 from by omega]
  congr 1; omega
theorem rpseudo_eq (a b c n : Int) (ha : 0 ≤ a ∧ a ≤ 4294967295) (hb : 0 ≤ b ∧ b ≤ 4294967295) (hc : 0 ≤ c ∧ c ≤ 255) (k : Nat) (hk : 3 < k) :
    lychref1_Pseudo.f k a b c n = some (norm (a / 65536 + a % 65536 + b / 65536 + b % 65536 + c + n % 65536)) := by
  have e64 : Go.bits .and .u64 (IntKind.u64.wrap n) 65535 = n % 65536 := by
    rw [IntKind.wrap_u64, show (65535 : Int) = 2 ^ 16 - 1 from by decide, bits_mask .u64 64 (by decide) (fun m h0 h1 => by rw [IntKind.wrap_u64]; omega) 16 (by decide) _ (by omega) (by omega)]
    omega
  unfold lychref1_Pseudo.f
  rw [and_65535 ha.1 ha.2, and_65535 hb.1 hb.2, e64, rfold_eq _ (by omega) (by omega) k hk]
  simp only [Option.bind_some]
  have := norm_range (a / 65536 + a % 65536 + b / 65536 + b % 65536 + c + n % 65536) (by omega)
  rw [show (a / 65536 + a % 65536 + b / 65536 + b % 65536 + c + n % 65536) % 4294967296 = a / 65536 + a % 65536 + b / 65536 + b % 65536 + c + n % 65536 from by omega]
  congr 1; omega
end Go.Proofs.Ytnodigdpodiphaa.SumEq
