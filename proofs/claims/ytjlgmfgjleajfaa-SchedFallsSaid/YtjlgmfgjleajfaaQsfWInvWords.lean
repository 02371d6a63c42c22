import Derived.Test.YtjlgmfgjleajfaaQsfWInv
import Derived.Test.YtjlgmfgjleajfaaQsfWFootNe
-- PRINTED BY print.sh 35421559b90ae4d0a3588c463048766b98c2df88dd9212a6774a882060cdf62d: not written by this session
namespace Go.Proofs.YtjlgmfgjleajfaaW.PrintWords
open Go.RowKit
end Go.Proofs.YtjlgmfgjleajfaaW.PrintWords
namespace Go.Proofs.YtjlgmfgjleajfaaW.PrintLast
section
variable {ops : Array Oper} {a : Act} {o og : Oper} {g : Nat} {t : Tmp} {u : Bool}
end
end Go.Proofs.YtjlgmfgjleajfaaW.PrintLast
