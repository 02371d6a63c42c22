import Derived.Test.YtoljndjpnbdjmaaQcpPx0
import Derived.Test.YtoljndjpnbdjmaaQcpPx3
-- Printed by a program of this session's out of Lean's print of the translation; Lean checks it.
namespace Go.Proofs.Ytoljndjpnbdjmaa.P
open Go.RowKit Go.Proofs.YtoljndjpnbdjmaaW.PrintWords Go.Proofs.YtoljndjpnbdjmaaW.PrintLast Go.Proofs.YtoljndjpnbdjmaaW.PrintMore
attribute [local go_sem] max2_int min2_int max_two min_two max_three min_three max_four min_four   -- for this text's walks alone
set_option linter.unusedVariables false
set_option linter.unusedSimpArgs false

/-! ### chance_part: function 74 -/
def chance_part.f (k : Nat) (a0 : Int) (a1 : Int) : Option (Int) := (bits_Shift.f k a0 (wrap64 (a1 - 32))).bind fun bt592 => (some bt592.1)
theorem chance_part.mono : ∀ a0 a1 k, LeO (chance_part.f k a0 a1) (chance_part.f (k + 1) a0 a1) := by
  intro a0 a1 k
  unfold chance_part.f
  repeat' first
      | (with_reducible exact bits_Shift.mono _ _ _)
      | (with_reducible exact LeO.refl _)
      | (with_reducible exact LeO.none _)
      | (with_reducible refine LeO.ite ?_ ?_)
      | (with_reducible refine LeO.bind ?_ (fun _ => ?_))
      | exact bits_Shift.mono _ _ _
      | exact LeO.none _
      | refine LeO.ite ?_ ?_
      | refine LeO.bind ?_ (fun _ => ?_)
set_option maxHeartbeats 8000000 in
set_option maxRecDepth 100000 in
theorem chance_part.calls (k : Nat) (a0 : Int) (a1 : Int) (r : Int) (w : World) (h : chance_part.f k a0 a1 = some r) :
    Calls Try.prog 74 #[.int .u64 a0, .int .i64 a1] w fun e w' => e = .returned (.int .u64 r) ∧ Drawn0 w w' := by
  have H : ((bits_Shift.f k a0 (wrap64 (a1 - 32))).bind fun bt592 => (some bt592.1)) = some r := h
  clear h
  replace H := Option.bind_eq_some_iff.mp H
  obtain ⟨⟨t592, t593⟩, A30, H⟩ := H
  replace H : (some t592) = some r := H
  have A3 := Aside0.mk A30
  clear A30
  obtain rfl := Option.some.inj H
  go_enter Try.func74, Try.ntmps74
  go_wp2_with (first | ((with_reducible refine gate_callee (f := 73) rfl ?_); refine goesL_ (some 11) rfl rfl Try.func73 (by kernel_rfl) rfl #[.int .u64 a0, .int .i64 (wrap64 (a1 - 32))] rfl (by (try simp only [List.map_toArray, List.map_cons, List.map_nil]); first | done | rfl | (simp only [List.length_drop, List.length_take]; rfl)) ?_; (with_reducible refine (bits_Shift.calls k a0 (wrap64 (a1 - 32)) t592 t593 _ A3.out).mono ?_); rintro e w' ⟨rfl, ⟨nd, rfl⟩⟩; refine ⟨_, rfl, ?_⟩))
  go_ret
  exact ⟨by first | rfl | (simp; done) | (simp [*]; done) | (congr 1; (try unfold wrap64); omega) | (congr 1; rw [IntKind.wrap_u64]; omega), by repeat (first | exact Drawn0.refl _ | apply Drawn0.step)⟩

end Go.Proofs.Ytoljndjpnbdjmaa.P
