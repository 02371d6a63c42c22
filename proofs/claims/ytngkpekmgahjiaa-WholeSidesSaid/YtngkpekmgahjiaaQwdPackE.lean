/- The program's rounding, from some round on (for rounds without chapter 3). -/
import Derived.Test.YtngkpekmgahjiaaQwdM6
import Derived.Test.YtngkpekmgahjiaaQwdPx9

namespace Go.Proofs.Ytngkpekmgahjiaa.Round
open Go.RowKit Go.Proofs.Ytngkpekmgahjiaa.P Go.Proofs.Ytngkpekmgahjiaa.Num Go.Proofs.Ytngkpekmgahjiaa.BitsF Go.Proofs.Ytngkpekmgahjiaa.Fmt Go.Proofs.YtngkpekmgahjiaaW.PrintWords Go.Proofs.YtngkpekmgahjiaaW.PrintLast Go.Proofs.YtngkpekmgahjiaaW.PrintMore
end Go.Proofs.Ytngkpekmgahjiaa.Round
