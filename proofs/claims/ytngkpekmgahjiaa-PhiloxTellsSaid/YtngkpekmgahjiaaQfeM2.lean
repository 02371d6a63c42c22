import Derived.Test.YtngkpekmgahjiaaProg
import Derived.Below
import Derived.Deep.Draws
import Derived.Deep.AppendLies
import Derived.Maps.AppendAt
import Derived.OwnWalk
import Derived.Laws.BytesArg
import Derived.Laws.MakeOwn
import Derived.Laws.OwnMore
import Derived.Deep.OwnRows
import Derived.Tactics
import Derived.Lib.ConvBytes
import Derived.Laws.Slices
import Derived.WalkKit
import Derived.KernelRfl
import Derived.RowKit3
import Derived.Deep.LoopGhost
import Derived.Deep.QuietTactic
import Derived.BigQuiet
import Derived.WideLaws
import Derived.Deep.DeepCutAuto
import Derived.Deep.CutBlock
import Derived.Deep.RegionHeld3
import Derived.Laws.Rows
import Derived.Lib.AppendStr
import Derived.ArgAppend
import Derived.Laws.IdiomCopy
import Derived.OrdersHeld
import Derived.Laws.BitsLemmas
import Derived.RowKit
import Derived.ChangeKeysEq
import Derived.Test.YtngkpekmgahjiaaQfeWWords
import Derived.Test.YtngkpekmgahjiaaQfeWLast
import Derived.Test.YtngkpekmgahjiaaQfeWTab
import Derived.Test.YtngkpekmgahjiaaQfeWFour
import Derived.Test.YtngkpekmgahjiaaQfeWQPut
import Derived.Test.YtngkpekmgahjiaaQfeWApart
import Derived.Test.YtngkpekmgahjiaaQfeWArr
import Derived.Test.YtngkpekmgahjiaaQfeWZeros
import Derived.Test.YtngkpekmgahjiaaQfeWFoot
import Derived.Test.YtngkpekmgahjiaaQfeWKept
import Derived.Test.YtngkpekmgahjiaaQfeWShare
import Derived.Test.YtngkpekmgahjiaaQfeWN
import Derived.Test.YtngkpekmgahjiaaQfeWFootNe
import Derived.Test.YtngkpekmgahjiaaQfeWAt
import Derived.Test.YtngkpekmgahjiaaQfeWEqStruct
import Derived.Test.YtngkpekmgahjiaaQfeWRepsOne
import Derived.Test.YtngkpekmgahjiaaQfeWInv
import Derived.Test.YtngkpekmgahjiaaQfeWInvWords
import Derived.Test.YtngkpekmgahjiaaQfeWGuard
import Derived.Test.YtngkpekmgahjiaaQfeWNEv
import Derived.Test.YtngkpekmgahjiaaQfeWMore
-- Printed by a program of this session's out of Lean's print of the translation; Lean checks it.
namespace Go.Proofs.Ytngkpekmgahjiaa.P
open Go.RowKit Go.Proofs.YtngkpekmgahjiaaW.PrintWords Go.Proofs.YtngkpekmgahjiaaW.PrintLast Go.Proofs.YtngkpekmgahjiaaW.PrintMore
attribute [local go_sem] max2_int min2_int max_two min_two max_three min_three max_four min_four   -- for this text's walks alone
set_option linter.unusedVariables false
set_option linter.unusedSimpArgs false

theorem u32_w (n : Int) : IntKind.u32.wrap n = n % 4294967296 := IntKind.wrap_u32 n



def errW : Option Int → Value
  | none => .nilIface
  | some c => .iface 0 (.int .i64 c)
theorem errW_none : errW none = .nilIface := rfl
theorem errW_some (c : Int) : errW (some c) = .iface 0 (.int .i64 c) := rfl

-- the values' own types
/-! #### struct type 23 -/
structure S23 where
  f0 : Int
  f1 : Int
/-! #### struct type 60 -/
structure S60 where
  f0 : Int
  f1 : Int
end Go.Proofs.Ytngkpekmgahjiaa.P

-- Printed by a program of this session's out of Lean's print of the translation; Lean checks it.
namespace Go.Proofs.Ytngkpekmgahjiaa.P
open Go.RowKit Go.Proofs.YtngkpekmgahjiaaW.PrintWords Go.Proofs.YtngkpekmgahjiaaW.PrintLast Go.Proofs.YtngkpekmgahjiaaW.PrintMore
attribute [local go_sem] max2_int min2_int max_two min_two max_three min_three max_four min_four   -- for this text's walks alone
set_option linter.unusedVariables false
set_option linter.unusedSimpArgs false

section
variable {P : Program} {d c i o : Nat} {e : TypeId} {xs ys : Array Value} {is : List Nat} {a b : Value} {r s : Bool} {w : World}
theorem eqi_cons (ho : i * c = o) (ha : (part e xs o).run P w = .ok a w) (hb : (part e ys o).run P w = .ok b w) (he : (Op.equalIn d e a b).run P w = .ok r w) (hr : (Op.eqItems d e c xs ys is).run P w = .ok s w) : (Op.eqItems d e c xs ys (i :: is)).run P w = .ok (r && s) w := by
  simp only [Op.eqItems, Sem.run_bind, ho, ha, hb, he, Result.andThen_ok]
  cases r
  · simp
  · simpa using hr
theorem eqi_last (ho : i * c = o) (ha : (part e xs o).run P w = .ok a w) (hb : (part e ys o).run P w = .ok b w) (he : (Op.equalIn d e a b).run P w = .ok r w) : (Op.eqItems d e c xs ys [i]).run P w = .ok r w := by
  have h := eqi_cons (is := []) ho ha hb he (s := true) (by simp [Op.eqItems])
  rwa [Bool.and_true] at h
theorem eqArr_of {t : TypeId} {n : Nat} (hc : P.cellsOf e = c) (hu : P.underlying t = some (.array n e)) (hi : (P.info? e).isSome = true) (h : (Op.eqItems d e c xs ys (List.range n)).run P w = .ok r w) : (Op.equalIn (d + 1) t (.agg xs) (.agg ys)).run P w = .ok r w := by
  rw [run_equalIn_array w d xs ys hu (Option.some_get hi).symm, hc]; exact h
end
theorem eqA24 (d : Nat) (w : World) (x0 y0 : Int) (x1 y1 : Int) (x2 y2 : Int) (x3 y3 : Int) :
    (Op.equalIn (d + 2) 24 (.agg #[.int .u32 x0, .int .u32 x1, .int .u32 x2, .int .u32 x3]) (.agg #[.int .u32 y0, .int .u32 y1, .int .u32 y2, .int .u32 y3])).run Try.prog w = .ok (x0 == y0 && (x1 == y1 && (x2 == y2 && (x3 == y3)))) w := by
  first
  | refine eqA_of Try.underlying24 (by kernel_rfl) ?_
    refine eqf_cons (by rfl) (by go_simp; rfl) (by go_simp; rfl) (by go_simp) ?_
    refine eqf_cons (by rfl) (by go_simp; rfl) (by go_simp; rfl) (by go_simp) ?_
    refine eqf_cons (by rfl) (by go_simp; rfl) (by go_simp; rfl) (by go_simp) ?_
    exact eqf_last (by rfl) (by go_simp; rfl) (by go_simp; rfl) (by go_simp)
  | refine eqArr_of (c := 1) (by kernel_rfl) Try.underlying24 (by kernel_rfl) ?_
    rw [show List.range 4 = [0, 1, 2, 3] from rfl]
    refine eqi_cons rfl (by go_simp; rfl) (by go_simp; rfl) (by go_simp) ?_
    refine eqi_cons rfl (by go_simp; rfl) (by go_simp; rfl) (by go_simp) ?_
    refine eqi_cons rfl (by go_simp; rfl) (by go_simp; rfl) (by go_simp) ?_
    exact eqi_last rfl (by go_simp; rfl) (by go_simp; rfl) (by go_simp)
end Go.Proofs.Ytngkpekmgahjiaa.P
