import Derived.Test.YtoljndjpnbdjmaaProg
import Derived.Below
import Derived.Deep.Draws
import Derived.Deep.AppendLies
import Derived.Maps.AppendAt
import Derived.OwnWalk
import Derived.Laws.BytesArg
import Derived.Laws.MakeOwn
import Derived.Laws.OwnMore
import Derived.Deep.OwnRows
import Derived.Tactics
import Derived.Lib.ConvBytes
import Derived.Laws.Slices
import Derived.WalkKit
import Derived.KernelRfl
import Derived.RowKit3
import Derived.Deep.LoopGhost
import Derived.Deep.QuietTactic
import Derived.BigQuiet
import Derived.WideLaws
import Derived.Deep.DeepCutAuto
import Derived.Deep.CutBlock
import Derived.Deep.RegionHeld3
import Derived.Laws.Rows
import Derived.Lib.AppendStr
import Derived.ArgAppend
import Derived.Laws.IdiomCopy
import Derived.OrdersHeld
import Derived.Laws.BitsLemmas
import Derived.RowKit
import Derived.ChangeKeysEq
import Derived.Test.YtoljndjpnbdjmaaQceWWords
import Derived.Test.YtoljndjpnbdjmaaQceWLast
import Derived.Test.YtoljndjpnbdjmaaQceWTab
import Derived.Test.YtoljndjpnbdjmaaQceWFour
import Derived.Test.YtoljndjpnbdjmaaQceWQPut
import Derived.Test.YtoljndjpnbdjmaaQceWApart
import Derived.Test.YtoljndjpnbdjmaaQceWArr
import Derived.Test.YtoljndjpnbdjmaaQceWZeros
import Derived.Test.YtoljndjpnbdjmaaQceWFoot
import Derived.Test.YtoljndjpnbdjmaaQceWKept
import Derived.Test.YtoljndjpnbdjmaaQceWShare
import Derived.Test.YtoljndjpnbdjmaaQceWN
import Derived.Test.YtoljndjpnbdjmaaQceWFootNe
import Derived.Test.YtoljndjpnbdjmaaQceWAt
import Derived.Test.YtoljndjpnbdjmaaQceWEqStruct
import Derived.Test.YtoljndjpnbdjmaaQceWRepsOne
import Derived.Test.YtoljndjpnbdjmaaQceWInv
import Derived.Test.YtoljndjpnbdjmaaQceWInvWords
import Derived.Test.YtoljndjpnbdjmaaQceWGuard
import Derived.Test.YtoljndjpnbdjmaaQceWNEv
import Derived.Test.YtoljndjpnbdjmaaQceWMore
-- Printed by a program of this session's out of Lean's print of the translation; Lean checks it.
namespace Go.Proofs.Ytoljndjpnbdjmaa.P
open Go.RowKit Go.Proofs.YtoljndjpnbdjmaaW.PrintWords Go.Proofs.YtoljndjpnbdjmaaW.PrintLast Go.Proofs.YtoljndjpnbdjmaaW.PrintMore
attribute [local go_sem] max2_int min2_int max_two min_two max_three min_three max_four min_four   -- for this text's walks alone
set_option linter.unusedVariables false
set_option linter.unusedSimpArgs false

theorem u32_w (n : Int) : IntKind.u32.wrap n = n % 4294967296 := IntKind.wrap_u32 n



def errW : Option Int → Value
  | none => .nilIface
  | some c => .iface 0 (.int .i64 c)
theorem errW_none : errW none = .nilIface := rfl
theorem errW_some (c : Int) : errW (some c) = .iface 0 (.int .i64 c) := rfl

-- the values' own types
/-! #### struct type 45 -/
structure S45 where
  f0 : Int
  f1 : Int
  f2 : Int
end Go.Proofs.Ytoljndjpnbdjmaa.P
