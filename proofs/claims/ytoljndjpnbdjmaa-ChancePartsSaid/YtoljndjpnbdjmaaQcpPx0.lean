import Derived.Test.YtoljndjpnbdjmaaProg
import Derived.Below
import Derived.Deep.Draws
import Derived.Deep.AppendLies
import Derived.Maps.AppendAt
import Derived.OwnWalk
import Derived.Laws.BytesArg
import Derived.Laws.MakeOwn
import Derived.Laws.OwnMore
import Derived.Deep.OwnRows
import Derived.Tactics
import Derived.Lib.ConvBytes
import Derived.Laws.Slices
import Derived.WalkKit
import Derived.KernelRfl
import Derived.RowKit3
import Derived.Deep.LoopGhost
import Derived.Deep.QuietTactic
import Derived.BigQuiet
import Derived.WideLaws
import Derived.Deep.DeepCutAuto
import Derived.Deep.CutBlock
import Derived.Deep.RegionHeld3
import Derived.Laws.Rows
import Derived.Lib.AppendStr
import Derived.ArgAppend
import Derived.Laws.IdiomCopy
import Derived.OrdersHeld
import Derived.Laws.BitsLemmas
import Derived.RowKit
import Derived.ChangeKeysEq
import Derived.Test.YtoljndjpnbdjmaaQcpWWords
import Derived.Test.YtoljndjpnbdjmaaQcpWLast
import Derived.Test.YtoljndjpnbdjmaaQcpWTab
import Derived.Test.YtoljndjpnbdjmaaQcpWFour
import Derived.Test.YtoljndjpnbdjmaaQcpWQPut
import Derived.Test.YtoljndjpnbdjmaaQcpWApart
import Derived.Test.YtoljndjpnbdjmaaQcpWArr
import Derived.Test.YtoljndjpnbdjmaaQcpWZeros
import Derived.Test.YtoljndjpnbdjmaaQcpWFoot
import Derived.Test.YtoljndjpnbdjmaaQcpWKept
import Derived.Test.YtoljndjpnbdjmaaQcpWShare
import Derived.Test.YtoljndjpnbdjmaaQcpWN
import Derived.Test.YtoljndjpnbdjmaaQcpWFootNe
import Derived.Test.YtoljndjpnbdjmaaQcpWAt
import Derived.Test.YtoljndjpnbdjmaaQcpWEqStruct
import Derived.Test.YtoljndjpnbdjmaaQcpWRepsOne
import Derived.Test.YtoljndjpnbdjmaaQcpWInv
import Derived.Test.YtoljndjpnbdjmaaQcpWInvWords
import Derived.Test.YtoljndjpnbdjmaaQcpWGuard
import Derived.Test.YtoljndjpnbdjmaaQcpWNEv
import Derived.Test.YtoljndjpnbdjmaaQcpWMore
-- Printed by a program of this session's out of Lean's print of the translation; Lean checks it.
namespace Go.Proofs.Ytoljndjpnbdjmaa.P
open Go.RowKit Go.Proofs.YtoljndjpnbdjmaaW.PrintWords Go.Proofs.YtoljndjpnbdjmaaW.PrintLast Go.Proofs.YtoljndjpnbdjmaaW.PrintMore
attribute [local go_sem] max2_int min2_int max_two min_two max_three min_three max_four min_four   -- for this text's walks alone
set_option linter.unusedVariables false
set_option linter.unusedSimpArgs false

theorem u32_w (n : Int) : IntKind.u32.wrap n = n % 4294967296 := IntKind.wrap_u32 n



def errW : Option Int → Value
  | none => .nilIface
  | some c => .iface 0 (.int .i64 c)
theorem errW_none : errW none = .nilIface := rfl
theorem errW_some (c : Int) : errW (some c) = .iface 0 (.int .i64 c) := rfl

-- the values' own types
/-! #### struct type 45 -/
structure S45 where
  f0 : Int
  f1 : Int
  f2 : Int
end Go.Proofs.Ytoljndjpnbdjmaa.P
