/- The program's rounding, from some round on (for rounds without chapter 3). -/
import Derived.Test.YtejkemahdincjaaQfpM8
import Derived.Test.YtejkemahdincjaaQfpM7

set_option linter.unusedVariables false
set_option linter.unusedSimpArgs false
namespace Go.Proofs.Ytejkemahdincjaa.Round
open Go.RowKit Go.Proofs.Ytejkemahdincjaa.P Go.Proofs.Ytejkemahdincjaa.Num Go.Proofs.Ytejkemahdincjaa.BitsF Go.Proofs.Ytejkemahdincjaa.Fmt Go.Proofs.YtejkemahdincjaaW.PrintWords Go.Proofs.YtejkemahdincjaaW.PrintLast Go.Proofs.YtejkemahdincjaaW.PrintMore
theorem packs_ev (f mode : Int) (neg : Bool) (x : Int) (s : Nat) (more : Bool) (hs : s < 18446744073709551616) :
  Ev (fun k => round_Pack.f k f mode neg x (s : Int) more) ((packN f mode neg (clampE x) s more : Int), false, false, excN f mode neg (clampE x) s more) :=
 Ev.of (round_Pack.mono _ _ _ _ _ _) (pack_f 0 f mode neg x s more hs)
end Go.Proofs.Ytejkemahdincjaa.Round
