/- A product and a sum of which one part is plain: plain numbers alone. -/
import Derived.Test.YtjlgmfgjleajfaaGreatQzuM11
import Derived.Test.YtjlgmfgjleajfaaGreatQzuM12

set_option linter.unusedVariables false
set_option linter.unusedSimpArgs false
namespace Go.Proofs.YtjlgmfgjleajfaaGreat.Round
open Go.RowKit Go.Proofs.YtjlgmfgjleajfaaGreat.P Go.Proofs.YtjlgmfgjleajfaaGreat.Num Go.Proofs.YtjlgmfgjleajfaaGreat.BitsF Go.Proofs.YtjlgmfgjleajfaaGreat.Fmt Go.Proofs.YtjlgmfgjleajfaaGreatW.PrintWords Go.Proofs.YtjlgmfgjleajfaaGreatW.PrintLast Go.Proofs.YtjlgmfgjleajfaaGreatW.PrintMore

end Go.Proofs.YtjlgmfgjleajfaaGreat.Round
