import Derived.Test.YtoljndjpnbdjmaaQcsPx0
import Derived.Test.YtoljndjpnbdjmaaQcsPx7
import Derived.Test.YtoljndjpnbdjmaaQcsPx8
-- Printed by a program of this session's out of Lean's print of the translation; Lean checks it.
namespace Go.Proofs.Ytoljndjpnbdjmaa.P
open Go.RowKit Go.Proofs.YtoljndjpnbdjmaaW.PrintWords Go.Proofs.YtoljndjpnbdjmaaW.PrintLast Go.Proofs.YtoljndjpnbdjmaaW.PrintMore
attribute [local go_sem] max2_int min2_int max_two min_two max_three min_three max_four min_four   -- for this text's walks alone
set_option linter.unusedVariables false
set_option linter.unusedSimpArgs false

/-! ### anneallaw3_RoundModes: function 4 -/
mutual
def anneallaw3_RoundModes.j0 : Nat → Int → Int → Int → Int → Int → Bool → Bool → Bool → Bool → Bool → Bool → Bool → Bool → Bool → Bool → Bool → Bool → Bool → Bool → Bool → Bool → Bool → Bool → Bool → Bool → Option (Bool)
  | 0, _, _, _, _, _, _, _, _, _, _, _, _, _, _, _, _, _, _, _, _, _, _, _, _, _ => none
  | k + 1, x13, x19, x21, x23, x24, x258000, x258001, x258002, x258003, x258004, x265000, x265001, x265002, x265003, x265004, x272000, x272001, x272002, x272003, x272004, x279000, x279001, x279002, x279003, x279004 => if x13 = x24 then (if (x258004 != x265004) = true then (anneallaw3_RoundModes.j1 k x13 x19 x21 x23 true x258000 x258001 x258002 x258003 x258004) else (if (x265004 != x272004) = true then (anneallaw3_RoundModes.j1 k x13 x19 x21 x23 true x258000 x258001 x258002 x258003 x258004) else (anneallaw3_RoundModes.j1 k x13 x19 x21 x23 (x272004 != x279004) x258000 x258001 x258002 x258003 x258004))) else (anneallaw3_RoundModes.j1 k x13 x19 x21 x23 true x258000 x258001 x258002 x258003 x258004)
def anneallaw3_RoundModes.j1 : Nat → Int → Int → Int → Int → Bool → Bool → Bool → Bool → Bool → Bool → Option (Bool)
  | 0, _, _, _, _, _, _, _, _, _, _ => none
  | k + 1, x13, x19, x21, x23, x105, x258000, x258001, x258002, x258003, x258004 => if x105 = true then (some false) else (if x258004 = true then (if x23 = x13 then (some false) else (if x19 = x23 then (if x21 = x23 then (some true) else (some (x21 == x13))) else (if x19 = x13 then (if x21 = x23 then (some true) else (some (x21 == x13))) else (some false)))) else (if x13 = x23 then (if x13 = x19 then (some (x19 == x21)) else (some false)) else (some false)))
end
def anneallaw3_RoundModes.f (k : Nat) (a0 : Int) (a1 : Int) (a2 : Int) (a3 : Bool) (a4 : Bool) : Option (Bool) := (anneallaw3_known.f k).bind fun t249 => (if t249 = true then ((anneallaw3_form.f a0).bind fun t250 => ((round_Pack.f k t250 1 a3 (Int.tmod (wrap64 (a1)) 300) a2 a4).bind fun bt251 => ((round_Pack.f k t250 2 a3 (Int.tmod (wrap64 (a1)) 300) a2 a4).bind fun bt258 => ((round_Pack.f k t250 3 a3 (Int.tmod (wrap64 (a1)) 300) a2 a4).bind fun bt265 => ((round_Pack.f k t250 0 a3 (Int.tmod (wrap64 (a1)) 300) a2 a4).bind fun bt272 => ((round_Pack.f k t250 4 a3 (Int.tmod (wrap64 (a1)) 300) a2 a4).bind fun bt279 => (if a3 = true then (anneallaw3_RoundModes.j0 k bt251.1 bt272.1 bt279.1 bt265.1 bt258.1 bt251.2.1 bt251.2.2.1 bt251.2.2.2.1 bt251.2.2.2.2.1 bt251.2.2.2.2.2 bt258.2.1 bt258.2.2.1 bt258.2.2.2.1 bt258.2.2.2.2.1 bt258.2.2.2.2.2 bt265.2.1 bt265.2.2.1 bt265.2.2.2.1 bt265.2.2.2.2.1 bt265.2.2.2.2.2 bt272.2.1 bt272.2.2.1 bt272.2.2.2.1 bt272.2.2.2.2.1 bt272.2.2.2.2.2) else (anneallaw3_RoundModes.j0 k bt251.1 bt272.1 bt279.1 bt258.1 bt265.1 bt251.2.1 bt251.2.2.1 bt251.2.2.2.1 bt251.2.2.2.2.1 bt251.2.2.2.2.2 bt258.2.1 bt258.2.2.1 bt258.2.2.2.1 bt258.2.2.2.2.1 bt258.2.2.2.2.2 bt265.2.1 bt265.2.2.1 bt265.2.2.2.1 bt265.2.2.2.2.1 bt265.2.2.2.2.2 bt272.2.1 bt272.2.2.1 bt272.2.2.2.1 bt272.2.2.2.2.1 bt272.2.2.2.2.2)))))))) else (some false))
/-- THE ONE PURE STATEMENT of anneallaw3_RoundModes: yours. -/
def anneallaw3_RoundModes.Pure : Prop := ∀ (a0 : Int) (a1 : Int) (a2 : Int) (a3 : Bool) (a4 : Bool), (Lit.int .u8 a0).wf = true → (Lit.int .i16 a1).wf = true → (Lit.int .u64 a2).wf = true → ∃ k, anneallaw3_RoundModes.f k a0 a1 a2 a3 a4 = some true
end Go.Proofs.Ytoljndjpnbdjmaa.P
