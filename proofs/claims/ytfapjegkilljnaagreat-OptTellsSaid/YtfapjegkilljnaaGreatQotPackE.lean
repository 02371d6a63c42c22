/- The program's rounding, from some round on (for rounds without chapter 3). -/
import Derived.Test.YtfapjegkilljnaaGreatQotM9
import Derived.Test.YtfapjegkilljnaaGreatQotM8

set_option linter.unusedVariables false
set_option linter.unusedSimpArgs false
namespace Go.Proofs.YtfapjegkilljnaaGreat.Round
open Go.RowKit Go.Proofs.YtfapjegkilljnaaGreat.P Go.Proofs.YtfapjegkilljnaaGreat.Num Go.Proofs.YtfapjegkilljnaaGreat.BitsF Go.Proofs.YtfapjegkilljnaaGreat.Fmt Go.Proofs.YtfapjegkilljnaaGreatW.PrintWords Go.Proofs.YtfapjegkilljnaaGreatW.PrintLast Go.Proofs.YtfapjegkilljnaaGreatW.PrintMore
theorem pR (f mode : Int) (neg : Bool) (x : Int) (s : Nat) (more : Bool) (hs : s < 18446744073709551616) :
  Ev (fun k => aC.f k f mode neg x (s : Int) more) ((fI f mode neg (lG x) s more : Int), false, false, kY f mode neg (lG x) s more) :=
 Ev.of (aC.mono _ _ _ _ _ _) (pack_f 0 f mode neg x s more hs)
end Go.Proofs.YtfapjegkilljnaaGreat.Round
