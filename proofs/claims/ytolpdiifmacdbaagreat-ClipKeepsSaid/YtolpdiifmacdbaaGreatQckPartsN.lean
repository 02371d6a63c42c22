import Derived.Test.YtolpdiifmacdbaaGreatQckM12
set_option linter.unusedVariables false
set_option linter.unusedSimpArgs false
namespace Go.Proofs.YtolpdiifmacdbaaGreat
noncomputable section
open Go.RowKit YtolpdiifmacdbaaGreatW.PrintWords YtolpdiifmacdbaaGreatW.PrintLast YtolpdiifmacdbaaGreatW.PrintMore
namespace Round
open P Num BitsF Fmt
end Round
end
end Go.Proofs.YtolpdiifmacdbaaGreat
