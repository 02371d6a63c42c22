import Derived.Test.YtolpdiifmacdbaaGreatQckM7
set_option linter.unusedVariables false
set_option linter.unusedSimpArgs false
namespace Go.Proofs.YtolpdiifmacdbaaGreat
noncomputable section
open Go.RowKit YtolpdiifmacdbaaGreatW.PrintWords YtolpdiifmacdbaaGreatW.PrintLast YtolpdiifmacdbaaGreatW.PrintMore
namespace Round
open P Num BitsF Fmt
theorem oV (f mode : Int) (neg : Bool) (x : Int) (s : Nat) (more : Bool) (hs : s < 18446744073709551616) :
  Ev (fun k => aC.f k f mode neg x (s : Int) more) ((gB f mode neg (lW x) s more : Int), false, false, lZ f mode neg (lW x) s more) :=
 Ev.of (aC.mono _ _ _ _ _ _) (pack_f 0 f mode neg x s more hs)
end Round
end
end Go.Proofs.YtolpdiifmacdbaaGreat
