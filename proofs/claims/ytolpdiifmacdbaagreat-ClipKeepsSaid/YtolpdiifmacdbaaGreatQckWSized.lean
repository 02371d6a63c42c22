import Derived.SizedLaws
import Derived.ChangeSlices
namespace Go.Proofs.YtolpdiifmacdbaaGreatW.PrintWords
open Go.ChangeShapes Go.WideShapes
end Go.Proofs.YtolpdiifmacdbaaGreatW.PrintWords
