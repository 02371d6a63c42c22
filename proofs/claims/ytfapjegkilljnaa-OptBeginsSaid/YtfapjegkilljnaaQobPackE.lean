/- The program's rounding, from some round on (for rounds without chapter 3). -/
import Derived.Test.YtfapjegkilljnaaQobM5

set_option linter.unusedVariables false
set_option linter.unusedSimpArgs false
namespace Go.Proofs.Ytfapjegkilljnaa.Round
open Go.RowKit Go.Proofs.Ytfapjegkilljnaa.P Go.Proofs.Ytfapjegkilljnaa.Num Go.Proofs.Ytfapjegkilljnaa.BitsF Go.Proofs.Ytfapjegkilljnaa.Fmt Go.Proofs.YtfapjegkilljnaaW.PrintWords Go.Proofs.YtfapjegkilljnaaW.PrintLast Go.Proofs.YtfapjegkilljnaaW.PrintMore
theorem lH (f mode : Int) (neg : Bool) (x : Int) (s : Nat) (more : Bool) (hs : s < 18446744073709551616) :
  Ev (fun k => aA.f k f mode neg x (s : Int) more) ((mW f mode neg (jS x) s more : Int), false, false, excN f mode neg (jS x) s more) :=
 Ev.of (aA.mono _ _ _ _ _ _) (pack_f 0 f mode neg x s more hs)
end Go.Proofs.Ytfapjegkilljnaa.Round
