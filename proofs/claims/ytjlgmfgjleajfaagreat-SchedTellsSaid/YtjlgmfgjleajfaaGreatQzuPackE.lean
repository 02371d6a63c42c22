/- The program's rounding, from some round on (for rounds without chapter 3). -/
import Derived.Test.YtjlgmfgjleajfaaGreatQzuM8

set_option linter.unusedVariables false
set_option linter.unusedSimpArgs false
namespace Go.Proofs.YtjlgmfgjleajfaaGreat.Round
open Go.RowKit Go.Proofs.YtjlgmfgjleajfaaGreat.P Go.Proofs.YtjlgmfgjleajfaaGreat.Num Go.Proofs.YtjlgmfgjleajfaaGreat.BitsF Go.Proofs.YtjlgmfgjleajfaaGreat.Fmt Go.Proofs.YtjlgmfgjleajfaaGreatW.PrintWords Go.Proofs.YtjlgmfgjleajfaaGreatW.PrintLast Go.Proofs.YtjlgmfgjleajfaaGreatW.PrintMore
theorem pM (f mode : Int) (neg : Bool) (x : Int) (s : Nat) (more : Bool) (hs : s < 18446744073709551616) :
  Ev (fun k => aB.f k f mode neg x (s : Int) more) ((gD f mode neg (lS x) s more : Int), false, false, lW f mode neg (lS x) s more) :=
 Ev.of (aB.mono _ _ _ _ _ _) (pack_f 0 f mode neg x s more hs)
end Go.Proofs.YtjlgmfgjleajfaaGreat.Round
