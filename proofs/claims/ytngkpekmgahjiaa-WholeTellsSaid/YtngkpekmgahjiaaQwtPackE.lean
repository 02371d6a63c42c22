/- The program's rounding, from some round on (for rounds without chapter 3). -/
import Derived.Test.YtngkpekmgahjiaaQwtM7
import Derived.Test.YtngkpekmgahjiaaQwtM2

namespace Go.Proofs.Ytngkpekmgahjiaa.Round
open Go.RowKit Go.Proofs.Ytngkpekmgahjiaa.P Go.Proofs.Ytngkpekmgahjiaa.Num Go.Proofs.Ytngkpekmgahjiaa.BitsF Go.Proofs.Ytngkpekmgahjiaa.Fmt Go.Proofs.YtngkpekmgahjiaaW.PrintWords Go.Proofs.YtngkpekmgahjiaaW.PrintLast Go.Proofs.YtngkpekmgahjiaaW.PrintMore
theorem packs_ev (f mode : Int) (neg : Bool) (x : Int) (s : Nat) (more : Bool) (hs : s < 18446744073709551616) :
  Ev (fun k => round_Pack.f k f mode neg x (s : Int) more) ((packN f mode neg (clampE x) s more : Int), false, false, excN f mode neg (clampE x) s more) :=
 Ev.of (round_Pack.mono _ _ _ _ _ _) (pack_f 0 f mode neg x s more hs)
end Go.Proofs.Ytngkpekmgahjiaa.Round
