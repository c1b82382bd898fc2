-- PRINTED BY print.sh 35421559b90ae4d0a3588c463048766b98c2df88dd9212a6774a882060cdf62d: not written by this session
import Derived.Test.YtmlmiiejifhfeaaWInv
import Derived.Test.YtmlmiiejifhfeaaWFootNe
namespace Go.Proofs.YtmlmiiejifhfeaaW.PrintWords
open Go.RowKit
end Go.Proofs.YtmlmiiejifhfeaaW.PrintWords
namespace Go.Proofs.YtmlmiiejifhfeaaW.PrintLast
section
end
end Go.Proofs.YtmlmiiejifhfeaaW.PrintLast
