/- PhiloxTurned, for every input: the row, joined from the walk and the law. -/
import Derived.Test.YtngkpekmgahjiaaRows
import Derived.Test.YtngkpekmgahjiaaQfuM1
import Derived.Test.YtngkpekmgahjiaaQfuM5
import Derived.Test.YtngkpekmgahjiaaQfuM6
import Derived.WalkKit
import Derived.ProofKit
import Derived.OpenShut
import Derived.ShutString
import Derived.ChangeOld
import Derived.Below
import Derived.SizedLaws

namespace Go.Proofs.Ytngkpekmgahjiaa.philoxTurned
open Go.ChangeShapes Go.WideShapes Go.ChangeAt Go.RowKit
open Go.ChangeMaps (open_string shut_string)
set_option linter.unusedVariables false
theorem own : ownKnob Try.prog.godebug = none := by kernel_rfl
set_option maxRecDepth 100000 in
theorem lifted (os : Os) (started : os.Started) (H : Type) (enc : TypeId × Value → H) :
    ReturnsInHanded {} Try.checked os 3 .any (Rows.philoxTurnedSpec.pre6 enc Try.prog Try.f3 Rows.philoxTurnedRow.domain false) (Rows.philoxTurnedSpec.post enc Try.prog Try.f3 false true false false) := by
  refine returnsInHanded_of_change_sized (C := Try.checked) own started (by kernel_rfl) Try.func3
    (ChangeSpec.witness6 (enc := enc) (C := Try.checked) false ⟨#[], #[.agg #[.int .u32 0, .int .u32 0], .agg #[.int .u32 0, .int .u32 0, .int .u32 0, .int .u32 0], .agg #[.int .u32 0, .int .u32 0, .int .u32 0, .int .u32 0]], []⟩ 8 (by kernel_rfl) (by kernel_rfl) (by kernel_rfl) (by kernel_rfl)) ?_
  intro W base args ds gs before hval0 hW hcnd hsz0 _
  have hval : ∀ (j : Nat) t v, Try.f3.params[j]? = some t → args[j]? = some v → Value.okWide Try.prog W .any base t v := hval0
  have hW' := hW
  obtain ⟨p, q, hA0, hV, rfl, hfz, hnd⟩ := hW
  have hA : DataW.TrodAll enc Try.prog W 0 (fun _ => true) true Try.f3.params.toList args.toList ds p := hA0
  rw [Try.params3] at hA hval
  obtain ⟨v0, vs0, d0, ds0, p0, q0, hargs, rfl, rfl, h0, r0⟩ := trodAll_cons hA
  obtain ⟨v1, vs1, d1, ds1, p1, q1, rfl, rfl, rfl, h1, r1⟩ := trodAll_cons r0
  obtain ⟨v2, vs2, d2, ds2, p2, q2, rfl, rfl, rfl, h2, r2⟩ := trodAll_cons r1
  obtain ⟨rfl, rfl, rfl⟩ := trodAll_nil r2
  obtain rfl : args = #[v0, v1, v2] := by cases args; simp_all
  obtain ⟨rfl, rfl⟩ := trodVars_none hV
  obtain ⟨a0_0, a0_1, rfl, rfl, rfl, w0_0, w0_1⟩ := ArrRow.open2 Try.underlying23 Try.underlying22 (by kernel_rfl) (by kernel_rfl) (hval 0 23 v0 rfl rfl) h0
  obtain ⟨a1_0, a1_1, a1_2, a1_3, rfl, rfl, rfl, w1_0, w1_1, w1_2, w1_3⟩ := ArrRow.open4 Try.underlying24 Try.underlying22 (by kernel_rfl) (by kernel_rfl) (hval 1 24 v1 rfl rfl) h1
  obtain ⟨a2_0, a2_1, a2_2, a2_3, rfl, rfl, rfl, w2_0, w2_1, w2_2, w2_3⟩ := ArrRow.open4 Try.underlying24 Try.underlying22 (by kernel_rfl) (by kernel_rfl) (hval 2 24 v2 rfl rfl) h2
  clear hA0 hval0 hsz0
  obtain ⟨k, hk⟩ := Pure.PhiloxTurned a0_0 a0_1 a1_0 a1_1 a1_2 a1_3 a2_0 a2_1 a2_2 a2_3 w0_0 w0_1 w1_0 w1_1 w1_2 w1_3 w2_0 w2_1 w2_2 w2_3
  refine (P.anneallaw10_PhiloxTurned.calls k a0_0 a0_1 a1_0 a1_1 a1_2 a1_3 a2_0 a2_1 a2_2 a2_3 true W hk).mono fun e W' ⟨he, bel⟩ => ?_
  subst he
  exact ⟨_, rfl, _, _, _, [], _, [], hW', trodAll_mk1 (shut_bool Try.underlying4 _), (trodAll_cons_mk (ArrRow.shut2 Try.underlying23 Try.underlying22 (by kernel_rfl) (by kernel_rfl) w0_0 w0_1) (trodAll_cons_mk (ArrRow.shut4 Try.underlying24 Try.underlying22 (by kernel_rfl) (by kernel_rfl) w1_0 w1_1 w1_2 w1_3) (trodAll_cons_mk (ArrRow.shut4 Try.underlying24 Try.underlying22 (by kernel_rfl) (by kernel_rfl) w2_0 w2_1 w2_2 w2_3) trodAll_mk0))), rfl, bel.frame _, fun h => by cases h⟩
theorem over : Rows.philoxTurnedRow.holds Try.pinned (OpenSpec.ofChange Rows.philoxTurnedSpec) :=
  OpenClaim.holds_of_wide 3 Try.f3 rfl rfl rfl rfl rfl rfl rfl ⟨rfl, rfl, rfl, rfl, rfl⟩ rfl rfl rfl rfl rfl (by kernel_rfl) Try.func3 (by kernel_rfl)
    (of_decide_eq_true (by kernel_rfl)) (by unfold Func.isWrapper; first | (rw [if_pos (by decide +kernel)]; kernel_rfl) | (rw [if_neg (by decide +kernel)]; exact ⟨rfl, rfl⟩))
    (fun os started H enc _ => lifted os started H enc)
theorem proved : Rows.PhiloxTurnedSaid := over
#print axioms proved
end Go.Proofs.Ytngkpekmgahjiaa.philoxTurned
namespace Go.Proofs.Ytngkpekmgahjiaa
/-- The row, under a short name, for the claim. -/
theorem philoxTurned_holds : Rows.PhiloxTurnedSaid := philoxTurned.proved
end Go.Proofs.Ytngkpekmgahjiaa
