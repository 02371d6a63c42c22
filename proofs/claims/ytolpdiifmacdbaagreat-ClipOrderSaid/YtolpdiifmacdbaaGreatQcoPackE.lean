/- The program's rounding, from some round on (for rounds without chapter 3). -/
import Derived.Test.YtolpdiifmacdbaaGreatQcoM8

set_option linter.unusedVariables false
set_option linter.unusedSimpArgs false
namespace Go.Proofs.YtolpdiifmacdbaaGreat.Round
open Go.RowKit Go.Proofs.YtolpdiifmacdbaaGreat.P Go.Proofs.YtolpdiifmacdbaaGreat.Num Go.Proofs.YtolpdiifmacdbaaGreat.BitsF Go.Proofs.YtolpdiifmacdbaaGreat.Fmt Go.Proofs.YtolpdiifmacdbaaGreatW.PrintWords Go.Proofs.YtolpdiifmacdbaaGreatW.PrintLast Go.Proofs.YtolpdiifmacdbaaGreatW.PrintMore
theorem qE (f mode : Int) (neg : Bool) (x : Int) (s : Nat) (more : Bool) (hs : s < 18446744073709551616) :
  Ev (fun k => aC.f k f mode neg x (s : Int) more) ((gD f mode neg (jX x) s more : Int), false, false, kY f mode neg (jX x) s more) :=
 Ev.of (aC.mono _ _ _ _ _ _) (pack_f 0 f mode neg x s more hs)
end Go.Proofs.YtolpdiifmacdbaaGreat.Round
