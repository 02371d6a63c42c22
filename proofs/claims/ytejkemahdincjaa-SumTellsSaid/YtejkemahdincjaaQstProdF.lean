/- Products: the program's, as plain numbers. -/
import Derived.Test.YtejkemahdincjaaQstM8
import Derived.Test.YtejkemahdincjaaQstPackE
import Derived.Test.YtejkemahdincjaaQstM5

set_option linter.unusedVariables false
set_option linter.unusedSimpArgs false
namespace Go.Proofs.Ytejkemahdincjaa.Round
open Go.RowKit Go.Proofs.Ytejkemahdincjaa.P Go.Proofs.Ytejkemahdincjaa.Num Go.Proofs.Ytejkemahdincjaa.BitsF Go.Proofs.Ytejkemahdincjaa.Fmt Go.Proofs.YtejkemahdincjaaW.PrintWords Go.Proofs.YtejkemahdincjaaW.PrintLast Go.Proofs.YtejkemahdincjaaW.PrintMore

end Go.Proofs.Ytejkemahdincjaa.Round
