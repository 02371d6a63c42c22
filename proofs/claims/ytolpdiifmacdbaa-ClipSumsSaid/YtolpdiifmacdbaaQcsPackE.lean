/- The program's rounding, from some round on (for rounds without chapter 3). -/
import Derived.Test.YtolpdiifmacdbaaQcsM5

set_option linter.unusedVariables false
set_option linter.unusedSimpArgs false
namespace Go.Proofs.Ytolpdiifmacdbaa.Round
open Go.RowKit Go.Proofs.Ytolpdiifmacdbaa.P Go.Proofs.Ytolpdiifmacdbaa.Num Go.Proofs.Ytolpdiifmacdbaa.BitsF Go.Proofs.Ytolpdiifmacdbaa.Fmt Go.Proofs.YtolpdiifmacdbaaW.PrintWords Go.Proofs.YtolpdiifmacdbaaW.PrintLast Go.Proofs.YtolpdiifmacdbaaW.PrintMore
theorem kK (f mode : Int) (neg : Bool) (x : Int) (s : Nat) (more : Bool) (hs : s < 18446744073709551616) :
  Ev (fun k => aA.f k f mode neg x (s : Int) more) ((j4 f mode neg (jO x) s more : Int), false, false, vB f mode neg (jO x) s more) :=
 Ev.of (aA.mono _ _ _ _ _ _) (pack_f 0 f mode neg x s more hs)
end Go.Proofs.Ytolpdiifmacdbaa.Round
