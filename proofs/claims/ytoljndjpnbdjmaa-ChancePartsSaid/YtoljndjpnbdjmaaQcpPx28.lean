import Derived.Test.YtoljndjpnbdjmaaQcpPx0
import Derived.Test.YtoljndjpnbdjmaaQcpPx4
import Derived.Test.YtoljndjpnbdjmaaQcpPx15
import Derived.Test.YtoljndjpnbdjmaaQcpPx16
import Derived.Test.YtoljndjpnbdjmaaQcpPx19
import Derived.Test.YtoljndjpnbdjmaaQcpPx20
import Derived.Test.YtoljndjpnbdjmaaQcpPx22
-- Printed by a program of this session's out of Lean's print of the translation; Lean checks it.
namespace Go.Proofs.Ytoljndjpnbdjmaa.P
open Go.RowKit Go.Proofs.YtoljndjpnbdjmaaW.PrintWords Go.Proofs.YtoljndjpnbdjmaaW.PrintLast Go.Proofs.YtoljndjpnbdjmaaW.PrintMore
attribute [local go_sem] max2_int min2_int max_two min_two max_three min_three max_four min_four   -- for this text's walks alone
set_option linter.unusedVariables false
set_option linter.unusedSimpArgs false

/-! ### anneallaw9_ConvSides: function 10 -/
/-! ### format_Finite: function 71 -/
def format_Finite.f (a0 : Int) (a1 : Int) : Option (Bool) := (format_Parts.f a0 a1).bind fun bt587 => ((format_Top.f a0).bind fun t590 => (some (decide (bt587.2.1 < t590))))
set_option maxHeartbeats 8000000 in
set_option maxRecDepth 100000 in
theorem format_Finite.calls (a0 : Int) (a1 : Int) (r : Bool) (w : World) (h : format_Finite.f a0 a1 = some r) :
    Calls Try.prog 71 #[.int .i64 a0, .int .u32 a1] w fun e w' => e = .returned (.bool r) ∧ Drawn0 w w' := by
  have H : ((format_Parts.f a0 a1).bind fun bt587 => ((format_Top.f a0).bind fun t590 => (some (decide (bt587.2.1 < t590))))) = some r := h
  clear h
  replace H := Option.bind_eq_some_iff.mp H
  obtain ⟨⟨t587, t588, t589⟩, A30, H⟩ := H
  replace H : ((format_Top.f a0).bind fun t590 => (some (decide (t588 < t590)))) = some r := H
  have A3 := Aside0.mk A30
  clear A30
  replace H := Option.bind_eq_some_iff.mp H
  obtain ⟨t590, A40, H⟩ := H
  replace H : (some (decide (t588 < t590))) = some r := H
  have A4 := Aside0.mk A40
  clear A40
  obtain rfl := Option.some.inj H
  go_enter Try.func71, Try.ntmps71
  go_wp2_with (first | ((with_reducible refine gate_callee (f := 80) rfl ?_); refine goesL_ (some 11) rfl rfl Try.func80 (by kernel_rfl) rfl #[.int .i64 a0, .int .u32 a1] rfl (by (try simp only [List.map_toArray, List.map_cons, List.map_nil]); first | done | rfl | (simp only [List.length_drop, List.length_take]; rfl)) ?_; (with_reducible refine (format_Parts.calls a0 a1 t587 t588 t589 _ A3.out).mono ?_); rintro e w' ⟨rfl, ⟨nd, rfl⟩⟩; refine ⟨_, rfl, ?_⟩) | ((with_reducible refine gate_callee (f := 47) rfl ?_); refine goesL_ (some 17) rfl rfl Try.func47 (by kernel_rfl) rfl #[.int .i64 a0] rfl (by (try simp only [List.map_toArray, List.map_cons, List.map_nil]); first | done | rfl | (simp only [List.length_drop, List.length_take]; rfl)) ?_; (with_reducible refine (format_Top.calls a0 t590 _ A4.out).mono ?_); rintro e w' ⟨rfl, ⟨nd, rfl⟩⟩; refine ⟨_, rfl, ?_⟩))
  go_ret
  exact ⟨by first | rfl | (simp; done) | (simp [*]; done) | (congr 1; (try unfold wrap64); omega) | (congr 1; rw [IntKind.wrap_u64]; omega), by repeat (first | exact Drawn0.refl _ | apply Drawn0.step)⟩

/-! ### format_IsZero: function 72 -/
def format_IsZero.f (k : Nat) (a0 : Int) (a1 : Int) : Option (Bool) := (format_Class.f k a0 a1).bind fun t591 => (some (t591 == 0))
theorem format_IsZero.mono : ∀ a0 a1 k, LeO (format_IsZero.f k a0 a1) (format_IsZero.f (k + 1) a0 a1) := by
  intro a0 a1 k
  unfold format_IsZero.f
  repeat' first
      | (with_reducible exact format_Class.mono _ _ _)
      | (with_reducible exact LeO.refl _)
      | (with_reducible exact LeO.none _)
      | (with_reducible refine LeO.ite ?_ ?_)
      | (with_reducible refine LeO.bind ?_ (fun _ => ?_))
      | exact format_Class.mono _ _ _
      | exact LeO.none _
      | refine LeO.ite ?_ ?_
      | refine LeO.bind ?_ (fun _ => ?_)
set_option maxHeartbeats 8000000 in
set_option maxRecDepth 100000 in
theorem format_IsZero.calls (k : Nat) (a0 : Int) (a1 : Int) (r : Bool) (w : World) (h : format_IsZero.f k a0 a1 = some r) :
    Calls Try.prog 72 #[.int .i64 a0, .int .u32 a1] w fun e w' => e = .returned (.bool r) ∧ Drawn0 w w' := by
  have H : ((format_Class.f k a0 a1).bind fun t591 => (some (t591 == 0))) = some r := h
  clear h
  replace H := Option.bind_eq_some_iff.mp H
  obtain ⟨t591, A30, H⟩ := H
  replace H : (some (t591 == 0)) = some r := H
  have A3 := Aside0.mk A30
  clear A30
  obtain rfl := Option.some.inj H
  go_enter Try.func72, Try.ntmps72
  go_wp2_with (first | ((with_reducible refine gate_callee (f := 61) rfl ?_); refine goesL_ (some 7) rfl rfl Try.func61 (by kernel_rfl) rfl #[.int .i64 a0, .int .u32 a1] rfl (by (try simp only [List.map_toArray, List.map_cons, List.map_nil]); first | done | rfl | (simp only [List.length_drop, List.length_take]; rfl)) ?_; (with_reducible refine (format_Class.calls k a0 a1 t591 _ A3.out).mono ?_); rintro e w' ⟨rfl, ⟨nd, rfl⟩⟩; refine ⟨_, rfl, ?_⟩))
  go_ret
  exact ⟨by first | rfl | (simp; done) | (simp [*]; done) | (congr 1; (try unfold wrap64); omega) | (congr 1; rw [IntKind.wrap_u64]; omega), by repeat (first | exact Drawn0.refl _ | apply Drawn0.step)⟩

end Go.Proofs.Ytoljndjpnbdjmaa.P
