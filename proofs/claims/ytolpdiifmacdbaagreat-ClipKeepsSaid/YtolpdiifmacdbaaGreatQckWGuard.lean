import Derived.Test.YtolpdiifmacdbaaGreatQckWWords
namespace Go.Proofs.YtolpdiifmacdbaaGreatW.PrintWords
open Go.RowKit
section
variable {P : Program} {ops : Array Oper} {rest : List Oper} {o : Oper} {a : Act} {Q : Exit → Act → World → Prop} {W : World}
end
end Go.Proofs.YtolpdiifmacdbaaGreatW.PrintWords
