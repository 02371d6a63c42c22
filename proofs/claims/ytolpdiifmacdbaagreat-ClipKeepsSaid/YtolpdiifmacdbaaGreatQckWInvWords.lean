import Derived.Test.YtolpdiifmacdbaaGreatQckWInv
import Derived.Test.YtolpdiifmacdbaaGreatQckWFootNe
namespace Go.Proofs.YtolpdiifmacdbaaGreatW.PrintWords
open Go.RowKit
end Go.Proofs.YtolpdiifmacdbaaGreatW.PrintWords
namespace Go.Proofs.YtolpdiifmacdbaaGreatW.PrintLast
section
variable {ops : Array Oper} {a : Act} {o og : Oper} {g : Nat} {t : Tmp} {u : Bool}
end
end Go.Proofs.YtolpdiifmacdbaaGreatW.PrintLast
