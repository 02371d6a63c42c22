import Derived.Test.YtejkemahdincjaaQfpZ
import Derived.Test.YtejkemahdincjaaQfpM4
import Derived.Test.YtejkemahdincjaaQfpM5
import Derived.Test.YtejkemahdincjaaQfpM3
import Derived.Test.YtejkemahdincjaaProg
-- Printed by a program of this session's out of Lean's print of the translation; Lean checks it.
set_option linter.unusedVariables false
set_option linter.unusedSimpArgs false
namespace Go.Proofs.Ytejkemahdincjaa.P
open Go.RowKit Go.Proofs.YtejkemahdincjaaW.PrintWords Go.Proofs.YtejkemahdincjaaW.PrintLast Go.Proofs.YtejkemahdincjaaW.PrintMore
attribute [local go_sem] max2_int min2_int max_two min_two max_three min_three max_four min_four

-- NEED 0
/-! ### round_Units: function 58 -/
def round_Units.f (k : Nat) (a0 : Int) (a1 : Int) (a2 : Bool) : Option (Int × Int) := if a1 ≤ 0 then ((bits_Shift.f k a0 a1).bind fun bt179 => (if a2 = true then (some (bt179.1, 1)) else (some (bt179.1, 0)))) else ((bits_Shift.f k a0 a1).bind fun bt181 => (if bt181.2 = true then ((bits_Shift.f k a0 (wrap64 (a1 - 1))).bind fun bt183 => (if (Go.bits .and .u64 bt183.1 1) = 0 then (some (bt181.1, 1)) else (if bt183.2 = true then (some (bt181.1, 3)) else (if a2 = true then (some (bt181.1, 3)) else (some (bt181.1, 2)))))) else (if a2 = true then (some (bt181.1, 1)) else (some (bt181.1, 0)))))
theorem round_Units.mono : ∀ a0 a1 a2 k, LeO (round_Units.f k a0 a1 a2) (round_Units.f (k + 1) a0 a1 a2) := by
 intro a0 a1 a2 k
 unfold round_Units.f
 repeat' first
   |(with_reducible exact bits_Shift.mono _ _ _)
   |(with_reducible exact LeO.refl _)
   |(with_reducible exact LeO.none _)
   |(with_reducible refine LeO.ite ?_ ?_)
   |(with_reducible refine LeO.bind ?_ (fun _ => ?_))
   |exact bits_Shift.mono _ _ _
   |exact LeO.none _
   |refine LeO.ite ?_ ?_
   |refine LeO.bind ?_ (fun _ => ?_)
set_option maxHeartbeats 8000000 in
set_option maxRecDepth 100000 in
theorem round_Units.calls (k : Nat) (a0 : Int) (a1 : Int) (a2 : Bool) (r1 : Int) (r2 : Int) (w : World) (h : round_Units.f k a0 a1 a2 = some (r1, r2)) :
  Calls Try.prog 58 #[.int .u64 a0, .int .i64 a1, .bool a2] w fun e w' => e = .returned (.tuple #[.int .u64 r1, .int .i64 r2]) ∧ Drawn0 w w' := by
 have H : (if a1 ≤ 0 then ((bits_Shift.f k a0 a1).bind fun bt179 => (if a2 = true then (some (bt179.1, 1)) else (some (bt179.1, 0)))) else ((bits_Shift.f k a0 a1).bind fun bt181 => (if bt181.2 = true then ((bits_Shift.f k a0 (wrap64 (a1 - 1))).bind fun bt183 => (if (Go.bits .and .u64 bt183.1 1) = 0 then (some (bt181.1, 1)) else (if bt183.2 = true then (some (bt181.1, 3)) else (if a2 = true then (some (bt181.1, 3)) else (some (bt181.1, 2)))))) else (if a2 = true then (some (bt181.1, 1)) else (some (bt181.1, 0)))))) = some (r1, r2) := h
 clear h
 by_cases c4 : a1 ≤ 0
 ·rw [if_pos c4] at H
  have c4b0 : decide (a1 ≤ 0) = true := decide_eq_true c4
  clear c4
  replace H := Option.bind_eq_some_iff.mp H
  obtain ⟨⟨t179, t180⟩, A50, H⟩ := H
  replace H : (if a2 = true then (some (t179, 1)) else (some (t179, 0))) = some (r1, r2) := H
  have A5 := Aside0.mk A50
  clear A50
  by_cases c6 : a2 = true
  ·subst c6
   have H1 : (some (t179, 1)) = some (r1, r2) := by rw [if_pos rfl] at H; exact H
   clear H
   have H := H1
   clear H1
   simp only [Option.some.injEq, Prod.mk.injEq] at H
   obtain ⟨rfl, rfl⟩ := H
   go_enter Try.func58, Try.ntmps58
   go_wp2_with (first | ((with_reducible refine gate_callee (f := 54) rfl ?_); refine goesL_ (some 19) rfl rfl Try.func54 (by kernel_rfl) rfl #[.int .u64 a0, .int .i64 a1] rfl gl ?_; (with_reducible refine (bits_Shift.calls k a0 a1 t179 t180 _ A5.out).mono ?_); rintro e w' ⟨rfl, ⟨nd, rfl⟩⟩; refine ⟨_, rfl, ?_⟩))
   go_ret2
   exact ⟨by first | rfl | (simp; done) | (simp [*]; done) | (congr 1; (try unfold wrap64); omega) | (congr 1; rw [IntKind.wrap_u64]; omega), by repeat (first | exact Drawn0.refl _ | apply Drawn0.step)⟩
  ·replace c6 := Bool.eq_false_iff.mpr c6
   subst c6
   have H1 : (some (t179, 0)) = some (r1, r2) := by rw [if_neg (show ¬ (false = true) by decide)] at H; exact H
   clear H
   have H := H1
   clear H1
   simp only [Option.some.injEq, Prod.mk.injEq] at H
   obtain ⟨rfl, rfl⟩ := H
   go_enter Try.func58, Try.ntmps58
   go_wp2_with (first | ((with_reducible refine gate_callee (f := 54) rfl ?_); refine goesL_ (some 19) rfl rfl Try.func54 (by kernel_rfl) rfl #[.int .u64 a0, .int .i64 a1] rfl gl ?_; (with_reducible refine (bits_Shift.calls k a0 a1 t179 t180 _ A5.out).mono ?_); rintro e w' ⟨rfl, ⟨nd, rfl⟩⟩; refine ⟨_, rfl, ?_⟩))
   go_ret2
   exact ⟨by first | rfl | (simp; done) | (simp [*]; done) | (congr 1; (try unfold wrap64); omega) | (congr 1; rw [IntKind.wrap_u64]; omega), by repeat (first | exact Drawn0.refl _ | apply Drawn0.step)⟩
 ·rw [if_neg c4] at H
  have c4b0 : decide (a1 ≤ 0) = false := decide_eq_false c4
  clear c4
  replace H := Option.bind_eq_some_iff.mp H
  obtain ⟨⟨t181, t182⟩, A70, H⟩ := H
  replace H : (if t182 = true then ((bits_Shift.f k a0 (wrap64 (a1 - 1))).bind fun bt183 => (if (Go.bits .and .u64 bt183.1 1) = 0 then (some (t181, 1)) else (if bt183.2 = true then (some (t181, 3)) else (if a2 = true then (some (t181, 3)) else (some (t181, 2)))))) else (if a2 = true then (some (t181, 1)) else (some (t181, 0)))) = some (r1, r2) := H
  have A7 := Aside0.mk A70
  clear A70
  by_cases c8 : t182 = true
  ·subst c8
   have H1 : ((bits_Shift.f k a0 (wrap64 (a1 - 1))).bind fun bt183 => (if (Go.bits .and .u64 bt183.1 1) = 0 then (some (t181, 1)) else (if bt183.2 = true then (some (t181, 3)) else (if a2 = true then (some (t181, 3)) else (some (t181, 2)))))) = some (r1, r2) := by rw [if_pos rfl] at H; exact H
   clear H
   have H := H1
   clear H1
   replace H := Option.bind_eq_some_iff.mp H
   obtain ⟨⟨t183, t184⟩, A90, H⟩ := H
   replace H : (if (Go.bits .and .u64 t183 1) = 0 then (some (t181, 1)) else (if t184 = true then (some (t181, 3)) else (if a2 = true then (some (t181, 3)) else (some (t181, 2))))) = some (r1, r2) := H
   have A9 := Aside0.mk A90
   clear A90
   by_cases c10 : (Go.bits .and .u64 t183 1) = 0
   ·rw [if_pos c10] at H
    have c10b0 : ((Go.bits .and .u64 t183 1) == 0) = true := beq_iff_eq.mpr c10
    have c10b1 : ((Go.bits .and .u64 t183 1) != 0) = false := bne_eq_false_iff_eq.mpr c10
    clear c10
    simp only [Option.some.injEq, Prod.mk.injEq] at H
    obtain ⟨rfl, rfl⟩ := H
    go_enter Try.func58, Try.ntmps58
    go_wp2_with (first | ((with_reducible refine gate_callee (f := 54) rfl ?_); refine goesL_ (some 28) rfl rfl Try.func54 (by kernel_rfl) rfl #[.int .u64 a0, .int .i64 a1] rfl gl ?_; (with_reducible refine (bits_Shift.calls k a0 a1 t181 true _ A7.out).mono ?_); rintro e w' ⟨rfl, ⟨nd, rfl⟩⟩; refine ⟨_, rfl, ?_⟩) | ((with_reducible refine gate_callee (f := 54) rfl ?_); refine goesL_ (some 40) rfl rfl Try.func54 (by kernel_rfl) rfl #[.int .u64 a0, .int .i64 (wrap64 (a1 - 1))] rfl gl ?_; (with_reducible refine (bits_Shift.calls k a0 (wrap64 (a1 - 1)) t183 t184 _ A9.out).mono ?_); rintro e w' ⟨rfl, ⟨nd, rfl⟩⟩; refine ⟨_, rfl, ?_⟩))
    go_ret2
    exact ⟨by first | rfl | (simp; done) | (simp [*]; done) | (congr 1; (try unfold wrap64); omega) | (congr 1; rw [IntKind.wrap_u64]; omega), by repeat (first | exact Drawn0.refl _ | apply Drawn0.step)⟩
   ·rw [if_neg c10] at H
    have c10b0 : ((Go.bits .and .u64 t183 1) == 0) = false := beq_eq_false_iff_ne.mpr c10
    have c10b1 : ((Go.bits .and .u64 t183 1) != 0) = true := bne_iff_ne.mpr c10
    by_cases c11 : t184 = true
    ·subst c11
     have H1 : (some (t181, 3)) = some (r1, r2) := by rw [if_pos rfl] at H; exact H
     clear H
     have H := H1
     clear H1
     simp only [Option.some.injEq, Prod.mk.injEq] at H
     obtain ⟨rfl, rfl⟩ := H
     go_enter Try.func58, Try.ntmps58
     go_wp2_with (first | ((with_reducible refine gate_callee (f := 54) rfl ?_); refine goesL_ (some 28) rfl rfl Try.func54 (by kernel_rfl) rfl #[.int .u64 a0, .int .i64 a1] rfl gl ?_; (with_reducible refine (bits_Shift.calls k a0 a1 t181 true _ A7.out).mono ?_); rintro e w' ⟨rfl, ⟨nd, rfl⟩⟩; refine ⟨_, rfl, ?_⟩) | ((with_reducible refine gate_callee (f := 54) rfl ?_); refine goesL_ (some 40) rfl rfl Try.func54 (by kernel_rfl) rfl #[.int .u64 a0, .int .i64 (wrap64 (a1 - 1))] rfl gl ?_; (with_reducible refine (bits_Shift.calls k a0 (wrap64 (a1 - 1)) t183 true _ A9.out).mono ?_); rintro e w' ⟨rfl, ⟨nd, rfl⟩⟩; refine ⟨_, rfl, ?_⟩))
     go_ret2
     exact ⟨by first | rfl | (simp; done) | (simp [*]; done) | (congr 1; (try unfold wrap64); omega) | (congr 1; rw [IntKind.wrap_u64]; omega), by repeat (first | exact Drawn0.refl _ | apply Drawn0.step)⟩
    ·replace c11 := Bool.eq_false_iff.mpr c11
     subst c11
     have H1 : (if a2 = true then (some (t181, 3)) else (some (t181, 2))) = some (r1, r2) := by rw [if_neg (show ¬ (false = true) by decide)] at H; exact H
     clear H
     have H := H1
     clear H1
     by_cases c12 : a2 = true
     ·subst c12
      have H1 : (some (t181, 3)) = some (r1, r2) := by rw [if_pos rfl] at H; exact H
      clear H
      have H := H1
      clear H1
      simp only [Option.some.injEq, Prod.mk.injEq] at H
      obtain ⟨rfl, rfl⟩ := H
      go_enter Try.func58, Try.ntmps58
      go_wp2_with (first | ((with_reducible refine gate_callee (f := 54) rfl ?_); refine goesL_ (some 28) rfl rfl Try.func54 (by kernel_rfl) rfl #[.int .u64 a0, .int .i64 a1] rfl gl ?_; (with_reducible refine (bits_Shift.calls k a0 a1 t181 true _ A7.out).mono ?_); rintro e w' ⟨rfl, ⟨nd, rfl⟩⟩; refine ⟨_, rfl, ?_⟩) | ((with_reducible refine gate_callee (f := 54) rfl ?_); refine goesL_ (some 40) rfl rfl Try.func54 (by kernel_rfl) rfl #[.int .u64 a0, .int .i64 (wrap64 (a1 - 1))] rfl gl ?_; (with_reducible refine (bits_Shift.calls k a0 (wrap64 (a1 - 1)) t183 false _ A9.out).mono ?_); rintro e w' ⟨rfl, ⟨nd, rfl⟩⟩; refine ⟨_, rfl, ?_⟩))
      go_ret2
      exact ⟨by first | rfl | (simp; done) | (simp [*]; done) | (congr 1; (try unfold wrap64); omega) | (congr 1; rw [IntKind.wrap_u64]; omega), by repeat (first | exact Drawn0.refl _ | apply Drawn0.step)⟩
     ·replace c12 := Bool.eq_false_iff.mpr c12
      subst c12
      have H1 : (some (t181, 2)) = some (r1, r2) := by rw [if_neg (show ¬ (false = true) by decide)] at H; exact H
      clear H
      have H := H1
      clear H1
      simp only [Option.some.injEq, Prod.mk.injEq] at H
      obtain ⟨rfl, rfl⟩ := H
      go_enter Try.func58, Try.ntmps58
      go_wp2_with (first | ((with_reducible refine gate_callee (f := 54) rfl ?_); refine goesL_ (some 28) rfl rfl Try.func54 (by kernel_rfl) rfl #[.int .u64 a0, .int .i64 a1] rfl gl ?_; (with_reducible refine (bits_Shift.calls k a0 a1 t181 true _ A7.out).mono ?_); rintro e w' ⟨rfl, ⟨nd, rfl⟩⟩; refine ⟨_, rfl, ?_⟩) | ((with_reducible refine gate_callee (f := 54) rfl ?_); refine goesL_ (some 40) rfl rfl Try.func54 (by kernel_rfl) rfl #[.int .u64 a0, .int .i64 (wrap64 (a1 - 1))] rfl gl ?_; (with_reducible refine (bits_Shift.calls k a0 (wrap64 (a1 - 1)) t183 false _ A9.out).mono ?_); rintro e w' ⟨rfl, ⟨nd, rfl⟩⟩; refine ⟨_, rfl, ?_⟩))
      go_ret2
      exact ⟨by first | rfl | (simp; done) | (simp [*]; done) | (congr 1; (try unfold wrap64); omega) | (congr 1; rw [IntKind.wrap_u64]; omega), by repeat (first | exact Drawn0.refl _ | apply Drawn0.step)⟩
  ·replace c8 := Bool.eq_false_iff.mpr c8
   subst c8
   have H1 : (if a2 = true then (some (t181, 1)) else (some (t181, 0))) = some (r1, r2) := by rw [if_neg (show ¬ (false = true) by decide)] at H; exact H
   clear H
   have H := H1
   clear H1
   by_cases c13 : a2 = true
   ·subst c13
    have H1 : (some (t181, 1)) = some (r1, r2) := by rw [if_pos rfl] at H; exact H
    clear H
    have H := H1
    clear H1
    simp only [Option.some.injEq, Prod.mk.injEq] at H
    obtain ⟨rfl, rfl⟩ := H
    go_enter Try.func58, Try.ntmps58
    go_wp2_with (first | ((with_reducible refine gate_callee (f := 54) rfl ?_); refine goesL_ (some 28) rfl rfl Try.func54 (by kernel_rfl) rfl #[.int .u64 a0, .int .i64 a1] rfl gl ?_; (with_reducible refine (bits_Shift.calls k a0 a1 t181 false _ A7.out).mono ?_); rintro e w' ⟨rfl, ⟨nd, rfl⟩⟩; refine ⟨_, rfl, ?_⟩))
    go_ret2
    exact ⟨by first | rfl | (simp; done) | (simp [*]; done) | (congr 1; (try unfold wrap64); omega) | (congr 1; rw [IntKind.wrap_u64]; omega), by repeat (first | exact Drawn0.refl _ | apply Drawn0.step)⟩
   ·replace c13 := Bool.eq_false_iff.mpr c13
    subst c13
    have H1 : (some (t181, 0)) = some (r1, r2) := by rw [if_neg (show ¬ (false = true) by decide)] at H; exact H
    clear H
    have H := H1
    clear H1
    simp only [Option.some.injEq, Prod.mk.injEq] at H
    obtain ⟨rfl, rfl⟩ := H
    go_enter Try.func58, Try.ntmps58
    go_wp2_with (first | ((with_reducible refine gate_callee (f := 54) rfl ?_); refine goesL_ (some 28) rfl rfl Try.func54 (by kernel_rfl) rfl #[.int .u64 a0, .int .i64 a1] rfl gl ?_; (with_reducible refine (bits_Shift.calls k a0 a1 t181 false _ A7.out).mono ?_); rintro e w' ⟨rfl, ⟨nd, rfl⟩⟩; refine ⟨_, rfl, ?_⟩))
    go_ret2
    exact ⟨by first | rfl | (simp; done) | (simp [*]; done) | (congr 1; (try unfold wrap64); omega) | (congr 1; rw [IntKind.wrap_u64]; omega), by repeat (first | exact Drawn0.refl _ | apply Drawn0.step)⟩

-- NEED 0
/-! ### round_Up: function 59 -/
def round_Up.f (a0 : Int) (a1 : Bool) (a2 : Int) (a3 : Int) : Option (Bool) := if a0 = 1 then (some false) else (if a0 = 2 then (if a1 = true then (some false) else (some (a3 != 0))) else (if a0 = 3 then (if a1 = true then (some (a3 != 0)) else (some false)) else (if a0 = 4 then (some (decide (a3 ≥ 2))) else (if a3 = 3 then (some true) else (if a3 = 2 then (some ((Go.bits .and .u64 a2 1) == 1)) else (some false))))))
set_option maxHeartbeats 8000000 in
set_option maxRecDepth 100000 in
theorem round_Up.calls (a0 : Int) (a1 : Bool) (a2 : Int) (a3 : Int) (r : Bool) (w : World) (h : round_Up.f a0 a1 a2 a3 = some r) :
  Calls Try.prog 59 #[.int .i64 a0, .bool a1, .int .u64 a2, .int .i64 a3] w fun e w' => e = .returned (.bool r) ∧ Drawn0 w w' := by
 have H : (if a0 = 1 then (some false) else (if a0 = 2 then (if a1 = true then (some false) else (some (a3 != 0))) else (if a0 = 3 then (if a1 = true then (some (a3 != 0)) else (some false)) else (if a0 = 4 then (some (decide (a3 ≥ 2))) else (if a3 = 3 then (some true) else (if a3 = 2 then (some ((Go.bits .and .u64 a2 1) == 1)) else (some false))))))) = some r := h
 clear h
 by_cases c5 : a0 = 1
 ·rw [if_pos c5] at H
  have c5b0 : (a0 == 1) = true := beq_iff_eq.mpr c5
  have c5b1 : (a0 != 1) = false := bne_eq_false_iff_eq.mpr c5
  clear c5
  obtain rfl := Option.some.inj H
  go_enter Try.func59, Try.ntmps59
  go_wp2
  go_ret
  exact ⟨by first | rfl | (simp; done) | (simp [*]; done) | (congr 1; (try unfold wrap64); omega) | (congr 1; rw [IntKind.wrap_u64]; omega), by repeat (first | exact Drawn0.refl _ | apply Drawn0.step)⟩
 ·rw [if_neg c5] at H
  have c5b0 : (a0 == 1) = false := beq_eq_false_iff_ne.mpr c5
  have c5b1 : (a0 != 1) = true := bne_iff_ne.mpr c5
  by_cases c6 : a0 = 2
  ·rw [if_pos c6] at H
   have c6b0 : (a0 == 2) = true := beq_iff_eq.mpr c6
   have c6b1 : (a0 != 2) = false := bne_eq_false_iff_eq.mpr c6
   clear c6
   by_cases c7 : a1 = true
   ·subst c7
    have H1 : (some false) = some r := by rw [if_pos rfl] at H; exact H
    clear H
    have H := H1
    clear H1
    obtain rfl := Option.some.inj H
    go_enter Try.func59, Try.ntmps59
    go_wp2
    go_ret
    exact ⟨by first | rfl | (simp; done) | (simp [*]; done) | (congr 1; (try unfold wrap64); omega) | (congr 1; rw [IntKind.wrap_u64]; omega), by repeat (first | exact Drawn0.refl _ | apply Drawn0.step)⟩
   ·replace c7 := Bool.eq_false_iff.mpr c7
    subst c7
    have H1 : (some (a3 != 0)) = some r := by rw [if_neg (show ¬ (false = true) by decide)] at H; exact H
    clear H
    have H := H1
    clear H1
    obtain rfl := Option.some.inj H
    go_enter Try.func59, Try.ntmps59
    go_wp2
    go_ret
    exact ⟨by first | rfl | (simp; done) | (simp [*]; done) | (congr 1; (try unfold wrap64); omega) | (congr 1; rw [IntKind.wrap_u64]; omega), by repeat (first | exact Drawn0.refl _ | apply Drawn0.step)⟩
  ·rw [if_neg c6] at H
   have c6b0 : (a0 == 2) = false := beq_eq_false_iff_ne.mpr c6
   have c6b1 : (a0 != 2) = true := bne_iff_ne.mpr c6
   by_cases c8 : a0 = 3
   ·rw [if_pos c8] at H
    have c8b0 : (a0 == 3) = true := beq_iff_eq.mpr c8
    have c8b1 : (a0 != 3) = false := bne_eq_false_iff_eq.mpr c8
    clear c8
    by_cases c9 : a1 = true
    ·subst c9
     have H1 : (some (a3 != 0)) = some r := by rw [if_pos rfl] at H; exact H
     clear H
     have H := H1
     clear H1
     obtain rfl := Option.some.inj H
     go_enter Try.func59, Try.ntmps59
     go_wp2
     go_ret
     exact ⟨by first | rfl | (simp; done) | (simp [*]; done) | (congr 1; (try unfold wrap64); omega) | (congr 1; rw [IntKind.wrap_u64]; omega), by repeat (first | exact Drawn0.refl _ | apply Drawn0.step)⟩
    ·replace c9 := Bool.eq_false_iff.mpr c9
     subst c9
     have H1 : (some false) = some r := by rw [if_neg (show ¬ (false = true) by decide)] at H; exact H
     clear H
     have H := H1
     clear H1
     obtain rfl := Option.some.inj H
     go_enter Try.func59, Try.ntmps59
     go_wp2
     go_ret
     exact ⟨by first | rfl | (simp; done) | (simp [*]; done) | (congr 1; (try unfold wrap64); omega) | (congr 1; rw [IntKind.wrap_u64]; omega), by repeat (first | exact Drawn0.refl _ | apply Drawn0.step)⟩
   ·rw [if_neg c8] at H
    have c8b0 : (a0 == 3) = false := beq_eq_false_iff_ne.mpr c8
    have c8b1 : (a0 != 3) = true := bne_iff_ne.mpr c8
    by_cases c10 : a0 = 4
    ·rw [if_pos c10] at H
     have c10b0 : (a0 == 4) = true := beq_iff_eq.mpr c10
     have c10b1 : (a0 != 4) = false := bne_eq_false_iff_eq.mpr c10
     clear c10
     obtain rfl := Option.some.inj H
     go_enter Try.func59, Try.ntmps59
     go_wp2
     go_ret
     exact ⟨by first | rfl | (simp; done) | (simp [*]; done) | (congr 1; (try unfold wrap64); omega) | (congr 1; rw [IntKind.wrap_u64]; omega), by repeat (first | exact Drawn0.refl _ | apply Drawn0.step)⟩
    ·rw [if_neg c10] at H
     have c10b0 : (a0 == 4) = false := beq_eq_false_iff_ne.mpr c10
     have c10b1 : (a0 != 4) = true := bne_iff_ne.mpr c10
     by_cases c11 : a3 = 3
     ·rw [if_pos c11] at H
      have c11b0 : (a3 == 3) = true := beq_iff_eq.mpr c11
      have c11b1 : (a3 != 3) = false := bne_eq_false_iff_eq.mpr c11
      clear c11
      obtain rfl := Option.some.inj H
      go_enter Try.func59, Try.ntmps59
      go_wp2
      go_ret
      exact ⟨by first | rfl | (simp; done) | (simp [*]; done) | (congr 1; (try unfold wrap64); omega) | (congr 1; rw [IntKind.wrap_u64]; omega), by repeat (first | exact Drawn0.refl _ | apply Drawn0.step)⟩
     ·rw [if_neg c11] at H
      have c11b0 : (a3 == 3) = false := beq_eq_false_iff_ne.mpr c11
      have c11b1 : (a3 != 3) = true := bne_iff_ne.mpr c11
      by_cases c12 : a3 = 2
      ·rw [if_pos c12] at H
       have c12b0 : (a3 == 2) = true := beq_iff_eq.mpr c12
       have c12b1 : (a3 != 2) = false := bne_eq_false_iff_eq.mpr c12
       clear c12
       obtain rfl := Option.some.inj H
       go_enter Try.func59, Try.ntmps59
       go_wp2
       go_ret
       exact ⟨by first | rfl | (simp; done) | (simp [*]; done) | (congr 1; (try unfold wrap64); omega) | (congr 1; rw [IntKind.wrap_u64]; omega), by repeat (first | exact Drawn0.refl _ | apply Drawn0.step)⟩
      ·rw [if_neg c12] at H
       have c12b0 : (a3 == 2) = false := beq_eq_false_iff_ne.mpr c12
       have c12b1 : (a3 != 2) = true := bne_iff_ne.mpr c12
       obtain rfl := Option.some.inj H
       go_enter Try.func59, Try.ntmps59
       go_wp2
       go_ret
       exact ⟨by first | rfl | (simp; done) | (simp [*]; done) | (congr 1; (try unfold wrap64); omega) | (congr 1; rw [IntKind.wrap_u64]; omega), by repeat (first | exact Drawn0.refl _ | apply Drawn0.step)⟩

-- NEED 0
/-! ### format_Greatest: function 78 -/
def format_Greatest.f (a0 : Int) (a1 : Bool) : Option (Int) := (format_Widths.f a0).bind fun bt185 => ((format_Top.f a0).bind fun t187 => (if 0 ≤ (IntKind.u64.wrap (bt185.2)) then ((format_Join.f a0 a1 (wrap64 (t187 - 1)) (((shl .u32 1 (IntKind.u64.wrap (bt185.2))) - 1) % 4294967296)).bind fun t188 => (some t188)) else (none)))
set_option maxHeartbeats 8000000 in
set_option maxRecDepth 100000 in
theorem format_Greatest.calls (a0 : Int) (a1 : Bool) (r : Int) (w : World) (h : format_Greatest.f a0 a1 = some r) :
  Calls Try.prog 78 #[.int .i64 a0, .bool a1] w fun e w' => e = .returned (.int .u32 r) ∧ Drawn0 w w' := by
 have H : ((format_Widths.f a0).bind fun bt185 => ((format_Top.f a0).bind fun t187 => (if 0 ≤ (IntKind.u64.wrap (bt185.2)) then ((format_Join.f a0 a1 (wrap64 (t187 - 1)) (((shl .u32 1 (IntKind.u64.wrap (bt185.2))) - 1) % 4294967296)).bind fun t188 => (some t188)) else (none)))) = some r := h
 clear h
 replace H := Option.bind_eq_some_iff.mp H
 obtain ⟨⟨t185, t186⟩, A30, H⟩ := H
 replace H : ((format_Top.f a0).bind fun t187 => (if 0 ≤ (IntKind.u64.wrap (t186)) then ((format_Join.f a0 a1 (wrap64 (t187 - 1)) (((shl .u32 1 (IntKind.u64.wrap (t186))) - 1) % 4294967296)).bind fun t188 => (some t188)) else (none))) = some r := H
 have A3 := Aside0.mk A30
 clear A30
 replace H := Option.bind_eq_some_iff.mp H
 obtain ⟨t187, A40, H⟩ := H
 replace H : (if 0 ≤ (IntKind.u64.wrap (t186)) then ((format_Join.f a0 a1 (wrap64 (t187 - 1)) (((shl .u32 1 (IntKind.u64.wrap (t186))) - 1) % 4294967296)).bind fun t188 => (some t188)) else (none)) = some r := H
 have A4 := Aside0.mk A40
 clear A40
 obtain ⟨ji5, hji5⟩ : ∃ j_ : Int, (IntKind.u64.wrap (t186)) = j_ := ⟨_, rfl⟩
 replace H : (if 0 ≤ (ji5) then ((format_Join.f a0 a1 (wrap64 (t187 - 1)) (((shl .u32 1 (ji5)) - 1) % 4294967296)).bind fun t188 => (some t188)) else (none)) = some r := by first | (rw [hji5] at H; exact H) | (simp only [hji5] at H ⊢; exact H)
 (try rw [hji5] at A3)
 (try rw [hji5] at A4)
 by_cases c6 : 0 ≤ (ji5)
 ·rw [if_pos c6] at H
  have c6b0 := eq_true c6
  have c6b1 : decide (0 ≤ (ji5)) = true := decide_eq_true c6
  clear c6
  obtain ⟨ji7, hji7⟩ : ∃ j_ : Int, (shl .u32 1 (ji5)) = j_ := ⟨_, rfl⟩
  replace H : ((format_Join.f a0 a1 (wrap64 (t187 - 1)) (((ji7) - 1) % 4294967296)).bind fun t188 => (some t188)) = some r := by first | (rw [hji7] at H; exact H) | (simp only [hji7] at H ⊢; exact H)
  (try rw [hji7] at A3)
  (try rw [hji7] at A4)
  have hji7_ : (IntKind.u32.wrap (1 * 2 ^ min (ji5).toNat 32)) = ji7 := hji7
  have hji7z : (ji5) ≤ 32 → (IntKind.u32.wrap (1 * 2 ^ (ji5).toNat)) = ji7 := shl_small hji7
  have hji7u : (IntKind.u32.wrap (2 ^ min (ji5).toNat 32)) = ji7 := by have h_ := hji7_; rw [Int.one_mul] at h_; exact h_
  have hji7v : (ji5) ≤ 32 → (IntKind.u32.wrap (2 ^ (ji5).toNat)) = ji7 := fun hle_ => by have h_ := hji7z hle_; rw [Int.one_mul] at h_; exact h_
  obtain ⟨ji8, hji8⟩ : ∃ j_ : Int, (((ji7) - 1) % 4294967296) = j_ := ⟨_, rfl⟩
  replace H : ((format_Join.f a0 a1 (wrap64 (t187 - 1)) (ji8)).bind fun t188 => (some t188)) = some r := by first | (rw [hji8] at H; exact H) | (simp only [hji8] at H ⊢; exact H)
  (try rw [hji8] at A3)
  (try rw [hji8] at A4)
  have hji8l : 0 ≤ ji8 := by rw [← hji8]; exact Int.emod_nonneg _ (by decide)
  have hji8h : ji8 ≤ 4294967295 := by have := Int.emod_lt_of_pos (((ji7) - 1)) (show (0 : Int) < 4294967296 by decide); omega
  have hji8w : (IntKind.u32.wrap ((ji7) - 1)) = ji8 := (u32_w _).trans hji8
  (try (have hji8_ := hji8; simp only [Int.add_emod_emod, Int.emod_add_emod, Int.sub_emod_emod, Int.emod_sub_emod] at hji8_))
  replace H := Option.bind_eq_some_iff.mp H
  obtain ⟨t188, A90, H⟩ := H
  replace H : (some t188) = some r := H
  have A9 := Aside0.mk A90
  clear A90
  obtain rfl := Option.some.inj H
  go_enter Try.func78, Try.ntmps78
  go_wp2_with (first | ((with_reducible refine gate_callee (f := 56) rfl ?_); refine goesL_ (some 9) rfl rfl Try.func56 (by kernel_rfl) rfl #[.int .i64 a0] rfl gl ?_; (with_reducible refine (format_Widths.calls a0 t185 t186 _ A3.out).mono ?_); rintro e w' ⟨rfl, ⟨nd, rfl⟩⟩; refine ⟨_, rfl, ?_⟩) | ((with_reducible refine gate_callee (f := 61) rfl ?_); refine goesL_ (some 15) rfl rfl Try.func61 (by kernel_rfl) rfl #[.int .i64 a0] rfl gl ?_; (with_reducible refine (format_Top.calls a0 t187 _ A4.out).mono ?_); rintro e w' ⟨rfl, ⟨nd, rfl⟩⟩; refine ⟨_, rfl, ?_⟩) | ((with_reducible refine gate_callee (f := 64) rfl ?_); refine goesL_ (some 21) rfl rfl Try.func64 (by kernel_rfl) rfl #[.int .i64 a0, .bool a1, .int .i64 (wrap64 (t187 - 1)), .int .u32 ji8] rfl (by (try simp only [List.map_toArray, List.map_cons, List.map_nil]); first | done | (simp only [hji8]; rfl) | rfl | (simp only [List.length_drop, List.length_take]; rfl)) ?_; (with_reducible refine (format_Join.calls a0 a1 (wrap64 (t187 - 1)) ji8 t188 _ A9.out).mono ?_); rintro e w' ⟨rfl, ⟨nd, rfl⟩⟩; refine ⟨_, rfl, ?_⟩))
  go_ret
  exact ⟨by first | rfl | (simp; done) | (simp only [← hji5, ← hji7, ← hji8] <;> (first | rfl | (simp; done))) | (simp [*]; done) | (congr 1; (try unfold wrap64); omega) | (congr 1; rw [IntKind.wrap_u64]; omega), by repeat (first | exact Drawn0.refl _ | apply Drawn0.step)⟩
 ·rw [if_neg c6] at H
  exact absurd H (by simp)

-- NEED 0
/-! ### round_beyond: function 62 -/
def round_beyond.f (a0 : Int) (a1 : Int) (a2 : Bool) : Option (Int × Bool × Bool × Bool × Bool × Bool) := if a1 = 1 then ((format_Greatest.f a0 a2).bind fun t191 => (some (t191, false, false, true, false, true))) else (if a1 = 2 then (if a2 = true then ((format_Greatest.f a0 a2).bind fun t192 => (some (t192, false, false, true, false, true))) else ((format_Inf.f a0 a2).bind fun t193 => (some (t193, false, false, true, false, true)))) else (if a1 = 3 then (if a2 = true then ((format_Inf.f a0 a2).bind fun t194 => (some (t194, false, false, true, false, true))) else ((format_Greatest.f a0 a2).bind fun t195 => (some (t195, false, false, true, false, true)))) else ((format_Inf.f a0 a2).bind fun t196 => (some (t196, false, false, true, false, true)))))

-- NEED 0
/-! ### bits_Cut: function 65 -/
def bits_Cut.f (a0 : Int) (a1 : Int) : Option (Int) := if a1 < 1 then (some 0) else (if a1 ≥ 64 then (some a0) else (if 0 ≤ (IntKind.u64.wrap (a1)) then (some (Go.bits .and .u64 a0 (IntKind.u64.wrap ((shl .u64 1 (IntKind.u64.wrap (a1))) - 1)))) else (none)))
set_option maxHeartbeats 8000000 in
set_option maxRecDepth 100000 in
theorem bits_Cut.calls (a0 : Int) (a1 : Int) (r : Int) (w : World) (h : bits_Cut.f a0 a1 = some r) :
  Calls Try.prog 65 #[.int .u64 a0, .int .i64 a1] w fun e w' => e = .returned (.int .u64 r) ∧ Drawn0 w w' := by
 have H : (if a1 < 1 then (some 0) else (if a1 ≥ 64 then (some a0) else (if 0 ≤ (IntKind.u64.wrap (a1)) then (some (Go.bits .and .u64 a0 (IntKind.u64.wrap ((shl .u64 1 (IntKind.u64.wrap (a1))) - 1)))) else (none)))) = some r := h
 clear h
 by_cases c3 : a1 < 1
 ·rw [if_pos c3] at H
  have c3b0 : decide (a1 < 1) = true := decide_eq_true c3
  clear c3
  obtain rfl := Option.some.inj H
  go_enter Try.func65, Try.ntmps65
  go_wp2
  go_ret
  exact ⟨by first | rfl | (simp; done) | (simp [*]; done) | (congr 1; (try unfold wrap64); omega) | (congr 1; rw [IntKind.wrap_u64]; omega), by repeat (first | exact Drawn0.refl _ | apply Drawn0.step)⟩
 ·rw [if_neg c3] at H
  have c3b0 : decide (a1 < 1) = false := decide_eq_false c3
  clear c3
  by_cases c4 : a1 ≥ 64
  ·rw [if_pos c4] at H
   have c4b0 : decide (64 ≤ a1) = true := decide_eq_true c4
   clear c4
   obtain rfl := Option.some.inj H
   go_enter Try.func65, Try.ntmps65
   go_wp2
   go_ret
   exact ⟨by first | rfl | (simp; done) | (simp [*]; done) | (congr 1; (try unfold wrap64); omega) | (congr 1; rw [IntKind.wrap_u64]; omega), by repeat (first | exact Drawn0.refl _ | apply Drawn0.step)⟩
  ·rw [if_neg c4] at H
   have c4b0 : decide (64 ≤ a1) = false := decide_eq_false c4
   clear c4
   obtain ⟨ji5, hji5⟩ : ∃ j_ : Int, (IntKind.u64.wrap (a1)) = j_ := ⟨_, rfl⟩
   replace H : (if 0 ≤ (ji5) then (some (Go.bits .and .u64 a0 (IntKind.u64.wrap ((shl .u64 1 (ji5)) - 1)))) else (none)) = some r := by first | (rw [hji5] at H; exact H) | (simp only [hji5] at H ⊢; exact H)
   by_cases c6 : 0 ≤ (ji5)
   ·rw [if_pos c6] at H
    have c6b0 := eq_true c6
    have c6b1 : decide (0 ≤ (ji5)) = true := decide_eq_true c6
    clear c6
    obtain ⟨ji7, hji7⟩ : ∃ j_ : Int, (shl .u64 1 (ji5)) = j_ := ⟨_, rfl⟩
    replace H : (some (Go.bits .and .u64 a0 (IntKind.u64.wrap ((ji7) - 1)))) = some r := by first | (rw [hji7] at H; exact H) | (simp only [hji7] at H ⊢; exact H)
    have hji7_ : (IntKind.u64.wrap (1 * 2 ^ min (ji5).toNat 64)) = ji7 := hji7
    have hji7z : (ji5) ≤ 64 → (IntKind.u64.wrap (1 * 2 ^ (ji5).toNat)) = ji7 := shl_small hji7
    have hji7u : (IntKind.u64.wrap (2 ^ min (ji5).toNat 64)) = ji7 := by have h_ := hji7_; rw [Int.one_mul] at h_; exact h_
    have hji7v : (ji5) ≤ 64 → (IntKind.u64.wrap (2 ^ (ji5).toNat)) = ji7 := fun hle_ => by have h_ := hji7z hle_; rw [Int.one_mul] at h_; exact h_
    obtain rfl := Option.some.inj H
    go_enter Try.func65, Try.ntmps65
    go_wp2
    go_ret
    exact ⟨by first | rfl | (simp; done) | (simp only [← hji5, ← hji7] <;> (first | rfl | (simp; done))) | (simp [*]; done) | (congr 1; (try unfold wrap64); omega) | (congr 1; rw [IntKind.wrap_u64]; omega), by repeat (first | exact Drawn0.refl _ | apply Drawn0.step)⟩
   ·rw [if_neg c6] at H
    exact absurd H (by simp)

end Go.Proofs.Ytejkemahdincjaa.P

/- Entries of functions. -/
namespace Go.Proofs.Ytejkemahdincjaa.L
open Go.RowKit Go.Proofs.Ytejkemahdincjaa.P Go.Proofs.Ytejkemahdincjaa.Ek Go.Proofs.YtejkemahdincjaaW.PrintWords Go.Proofs.YtejkemahdincjaaW.PrintLast Go.Proofs.YtejkemahdincjaaW.PrintMore
noncomputable def sum_full.c : Fc := mkFc [.agg [.b, .i .i64, .i .u64, .b]] [.agg [.b, .i .i64, .i .u64, .b]] (T := Bool × Int × Int × Bool) (fun y => ((y.1, y.2.1, y.2.2.1, y.2.2.2, ()), ())) fun n x => sum_full.f n x.1.1 x.1.2.1 x.1.2.2.1 x.1.2.2.2.1
theorem sum_full.ok : FcOk Try.prog 53 sum_full.c := old_ok Try.func53 (by kernel_rfl) (by kernel_rfl) (by decide) (fun _ => giveR_ok (by decide) _) fun n x y h m w => (sum_full.calls n x.1.1 x.1.2.1 x.1.2.2.1 x.1.2.2.2.1 y.1 y.2.1 y.2.2.1 y.2.2.2 w h).mono fun e w' he => ⟨he.1, he.2⟩
noncomputable def bits_Shift.c : Fc := mkFc [hI .u64, hI .i64] [hI .u64, hB] (T := Int × Bool) (fun y => ((y.1, ()), (y.2, ()), ())) fun n x => bits_Shift.f n x.1.1 x.2.1.1
theorem bits_Shift.ok : FcOk Try.prog 54 bits_Shift.c := old_ok Try.func54 (by kernel_rfl) (by kernel_rfl) (by decide) (fun _ => giveR_ok (by decide) _) fun n x y h m w => (bits_Shift.calls n x.1.1 x.2.1.1 y.1 y.2 w h).mono fun e w' he => ⟨he.1, he.2.below⟩
noncomputable def sum_Exact.cls : Cls := [(53, sum_full.c), (54, bits_Shift.c)]
theorem sum_Exact.clsOk : ClsOk Try.prog sum_Exact.cls := ClsOk.cons sum_full.ok (ClsOk.cons bits_Shift.ok (ClsOk.nil))
noncomputable def sum_Exact.K (v : SV) : Option (Bool × Int × Int × Bool) := (takeR [.agg [.b, .i .i64, .i .u64, .b]] v).map (fun z => (z.1.1, z.1.2.1, z.1.2.2.1, z.1.2.2.2.1))
noncomputable def sum_Exact.cuts : List Nat := [7, 8, 16]
noncomputable def sum_Exact.f (k : Nat) (a0_0 : Bool) (a0_1 : Int) (a0_2 : Int) (a0_3 : Bool) (a1_0 : Bool) (a1_1 : Int) (a1_2 : Int) (a1_3 : Bool) : Option (Bool × Int × Int × Bool) := evF Try.prog sum_Exact.cls Try.f30 sum_Exact.cuts k [.agg [cb a0_0, ci .i64 a0_1, ci .u64 a0_2, cb a0_3], .agg [cb a1_0, ci .i64 a1_1, ci .u64 a1_2, cb a1_3]] sum_Exact.K
noncomputable def sum_Exact.c : Fc := mkFc [.agg [.b, .i .i64, .i .u64, .b], .agg [.b, .i .i64, .i .u64, .b]] [.agg [.b, .i .i64, .i .u64, .b]] (T := Bool × Int × Int × Bool) (fun y => ((y.1, y.2.1, y.2.2.1, y.2.2.2, ()), ())) fun n x => sum_Exact.f n x.1.1 x.1.2.1 x.1.2.2.1 x.1.2.2.2.1 x.2.1.1 x.2.1.2.1 x.2.1.2.2.1 x.2.1.2.2.2.1
theorem sum_Exact.ok : FcOk Try.prog 30 sum_Exact.c := mkOk sum_Exact.clsOk Try.func30 (by kernel_rfl) (by kernel_rfl) (by decide) (fun _ => rfl) (fun _ _ => rfl)
noncomputable def format_Greatest.c : Fc := mkFc [hI .i64, hB] [hI .u32] (T := Int) (fun y => ((y, ()), ())) fun n x => format_Greatest.f x.1.1 x.2.1.1
theorem format_Greatest.ok : FcOk Try.prog 78 format_Greatest.c := old_ok Try.func78 (by kernel_rfl) (by kernel_rfl) (by decide) (fun _ => giveR_ok (by decide) _) fun n x y h m w => (format_Greatest.calls x.1.1 x.2.1.1 y w h).mono fun e w' he => ⟨he.1, he.2.below⟩
noncomputable def format_Inf.c : Fc := mkFc [hI .i64, hB] [hI .u32] (T := Int) (fun y => ((y, ()), ())) fun n x => format_Inf.f x.1.1 x.2.1.1
theorem format_Inf.ok : FcOk Try.prog 48 format_Inf.c := old_ok Try.func48 (by kernel_rfl) (by kernel_rfl) (by decide) (fun _ => giveR_ok (by decide) _) fun n x y h m w => (format_Inf.calls x.1.1 x.2.1.1 y w h).mono fun e w' he => ⟨he.1, he.2.below⟩
noncomputable def round_beyond.cls : Cls := [(78, format_Greatest.c), (48, format_Inf.c)]
theorem round_beyond.clsOk : ClsOk Try.prog round_beyond.cls := ClsOk.cons format_Greatest.ok (ClsOk.cons format_Inf.ok (ClsOk.nil))
noncomputable def round_beyond.K (v : SV) : Option (Int × Bool × Bool × Bool × Bool × Bool) := (takeR [hI .u32, .agg [.b, .b, .b, .b, .b]] v).map (fun z => (z.1.1, z.2.1.1, z.2.1.2.1, z.2.1.2.2.1, z.2.1.2.2.2.1, z.2.1.2.2.2.2.1))
noncomputable def round_beyond.cuts : List Nat := []
noncomputable def round_beyond.f (k : Nat) (a0 : Int) (a1 : Int) (a2 : Bool) : Option (Int × Bool × Bool × Bool × Bool × Bool) := evF Try.prog round_beyond.cls Try.f62 round_beyond.cuts k [.one (.i .i64 (.x a0)), .one (.i .i64 (.x a1)), .one (.b (.q a2))] round_beyond.K
noncomputable def round_beyond.c : Fc := mkFc [hI .i64, hI .i64, hB] [hI .u32, .agg [.b, .b, .b, .b, .b]] (T := Int × Bool × Bool × Bool × Bool × Bool) (fun y => ((y.1, ()), (y.2.1, y.2.2.1, y.2.2.2.1, y.2.2.2.2.1, y.2.2.2.2.2, ()), ())) fun n x => round_beyond.f n x.1.1 x.2.1.1 x.2.2.1.1
theorem round_beyond.ok : FcOk Try.prog 62 round_beyond.c := mkOk round_beyond.clsOk Try.func62 (by kernel_rfl) (by kernel_rfl) (by decide) (fun _ => rfl) (fun _ _ => rfl)
noncomputable def annealref1_Widths.c : Fc := mkFc [hI .i64] [hI .i64, hI .i64] (T := Int × Int) (fun y => ((y.1, ()), (y.2, ()), ())) fun n x => annealref1_Widths.f x.1.1
theorem annealref1_Widths.ok : FcOk Try.prog 23 annealref1_Widths.c := old_ok Try.func23 (by kernel_rfl) (by kernel_rfl) (by decide) (fun _ => giveR_ok (by decide) _) fun n x y h m w => (annealref1_Widths.calls x.1.1 y.1 y.2 w h).mono fun e w' he => ⟨he.1, he.2.below⟩
noncomputable def annealref1_Mask.c : Fc := mkFc [hI .i64] [hI .u32] (T := Int) (fun y => ((y, ()), ())) fun n x => annealref1_Mask.f x.1.1
theorem annealref1_Mask.ok : FcOk Try.prog 24 annealref1_Mask.c := old_ok Try.func24 (by kernel_rfl) (by kernel_rfl) (by decide) (fun _ => giveR_ok (by decide) _) fun n x y h m w => (annealref1_Mask.calls x.1.1 y w h).mono fun e w' he => ⟨he.1, he.2.below⟩
noncomputable def annealref1_Zero.c : Fc := mkFc [hI .i64, hB] [hI .u32] (T := Int) (fun y => ((y, ()), ())) fun n x => annealref1_Zero.f x.1.1 x.2.1.1
theorem annealref1_Zero.ok : FcOk Try.prog 22 annealref1_Zero.c := old_ok Try.func22 (by kernel_rfl) (by kernel_rfl) (by decide) (fun _ => giveR_ok (by decide) _) fun n x y h m w => (annealref1_Zero.calls x.1.1 x.2.1.1 y w h).mono fun e w' he => ⟨he.1, he.2.below⟩
noncomputable def annealseat_Num.cls : Cls := [(23, annealref1_Widths.c), (24, annealref1_Mask.c), (22, annealref1_Zero.c)]
theorem annealseat_Num.clsOk : ClsOk Try.prog annealseat_Num.cls := ClsOk.cons annealref1_Widths.ok (ClsOk.cons annealref1_Mask.ok (ClsOk.cons annealref1_Zero.ok (ClsOk.nil)))
noncomputable def annealseat_Num.K (v : SV) : Option (Int) := (takeR [hI .u32] v).map (fun z => (z.1.1))
noncomputable def annealseat_Num.cuts : List Nat := []
noncomputable def annealseat_Num.f (k : Nat) (a0 : Int) (a1 : Int) : Option (Int) := evF Try.prog annealseat_Num.cls Try.f8 annealseat_Num.cuts k [.one (.i .i64 (.x a0)), .one (.i .u32 (.x a1))] annealseat_Num.K
noncomputable def annealseat_Num.c : Fc := mkFc [hI .i64, hI .u32] [hI .u32] (T := Int) (fun y => ((y, ()), ())) fun n x => annealseat_Num.f n x.1.1 x.2.1.1
theorem annealseat_Num.ok : FcOk Try.prog 8 annealseat_Num.c := mkOk annealseat_Num.clsOk Try.func8 (by kernel_rfl) (by kernel_rfl) (by decide) (fun _ => rfl) (fun _ _ => rfl)
noncomputable def annealref1_bias.c : Fc := mkFc [hI .i64] [hI .i64] (T := Int) (fun y => ((y, ()), ())) fun n x => annealref1_bias.f x.1.1
theorem annealref1_bias.ok : FcOk Try.prog 71 annealref1_bias.c := old_ok Try.func71 (by kernel_rfl) (by kernel_rfl) (by decide) (fun _ => giveR_ok (by decide) _) fun n x y h m w => (annealref1_bias.calls x.1.1 y w h).mono fun e w' he => ⟨he.1, he.2.below⟩
noncomputable def annealref1_Len.c : Fc := mkFc [hI .u64] [hI .i64] (T := Int) (fun y => ((y, ()), ())) fun n x => annealref1_Len.f n x.1.1
theorem annealref1_Len.ok : FcOk Try.prog 73 annealref1_Len.c := old_ok Try.func73 (by kernel_rfl) (by kernel_rfl) (by decide) (fun _ => giveR_ok (by decide) _) fun n x y h m w => (annealref1_Len.calls n x.1.1 y w h).mono fun e w' he => ⟨he.1, he.2.below⟩
noncomputable def annealref1_divide.c : Fc := mkFc [hI .u64, hI .i64] [hI .u64, hB, hB] (T := Int × Bool × Bool) (fun y => ((y.1, ()), (y.2.1, ()), (y.2.2, ()), ())) fun n x => annealref1_divide.f n x.1.1 x.2.1.1
theorem annealref1_divide.ok : FcOk Try.prog 74 annealref1_divide.c := old_ok Try.func74 (by kernel_rfl) (by kernel_rfl) (by decide) (fun _ => giveR_ok (by decide) _) fun n x y h m w => (annealref1_divide.calls n x.1.1 x.2.1.1 y.1 y.2.1 y.2.2 w h).mono fun e w' he => ⟨he.1, he.2⟩
noncomputable def annealref1_up.c : Fc := mkFc [hI .i64, hB, hB, hB, hB] [hB] (T := Bool) (fun y => ((y, ()), ())) fun n x => annealref1_up.f x.1.1 x.2.1.1 x.2.2.1.1 x.2.2.2.1.1 x.2.2.2.2.1.1
theorem annealref1_up.ok : FcOk Try.prog 75 annealref1_up.c := old_ok Try.func75 (by kernel_rfl) (by kernel_rfl) (by decide) (fun _ => giveR_ok (by decide) _) fun n x y h m w => (annealref1_up.calls x.1.1 x.2.1.1 x.2.2.1.1 x.2.2.2.1.1 x.2.2.2.2.1.1 y w h).mono fun e w' he => ⟨he.1, he.2.below⟩
noncomputable def annealref1_sign.c : Fc := mkFc [hI .i64, hB] [hI .u32] (T := Int) (fun y => ((y, ()), ())) fun n x => annealref1_sign.f x.1.1 x.2.1.1
theorem annealref1_sign.ok : FcOk Try.prog 44 annealref1_sign.c := old_ok Try.func44 (by kernel_rfl) (by kernel_rfl) (by decide) (fun _ => giveR_ok (by decide) _) fun n x y h m w => (annealref1_sign.calls x.1.1 x.2.1.1 y w h).mono fun e w' he => ⟨he.1, he.2.below⟩
noncomputable def annealref1_over.c : Fc := mkFc [hI .i64, hI .i64, hB] [hI .u32] (T := Int) (fun y => ((y, ()), ())) fun n x => annealref1_over.f n x.1.1 x.2.1.1 x.2.2.1.1
theorem annealref1_over.ok : FcOk Try.prog 76 annealref1_over.c := old_ok Try.func76 (by kernel_rfl) (by kernel_rfl) (by decide) (fun _ => giveR_ok (by decide) _) fun n x y h m w => (annealref1_over.calls n x.1.1 x.2.1.1 x.2.2.1.1 y w h).mono fun e w' he => ⟨he.1, he.2.below⟩
noncomputable def annealref1_Pack.cls : Cls := [(22, annealref1_Zero.c), (23, annealref1_Widths.c), (71, annealref1_bias.c), (73, annealref1_Len.c), (74, annealref1_divide.c), (75, annealref1_up.c), (44, annealref1_sign.c), (76, annealref1_over.c)]
theorem annealref1_Pack.clsOk : ClsOk Try.prog annealref1_Pack.cls := ClsOk.cons annealref1_Zero.ok (ClsOk.cons annealref1_Widths.ok (ClsOk.cons annealref1_bias.ok (ClsOk.cons annealref1_Len.ok (ClsOk.cons annealref1_divide.ok (ClsOk.cons annealref1_up.ok (ClsOk.cons annealref1_sign.ok (ClsOk.cons annealref1_over.ok (ClsOk.nil))))))))
noncomputable def annealref1_Pack.K (v : SV) : Option (Int × Bool × Bool × Bool × Bool × Bool) := (takeR [hI .u32, .agg [.b, .b, .b, .b, .b]] v).map (fun z => (z.1.1, z.2.1.1, z.2.1.2.1, z.2.1.2.2.1, z.2.1.2.2.2.1, z.2.1.2.2.2.2.1))
noncomputable def annealref1_Pack.cuts : List Nat := [3, 9, 12, 13, 15, 18]
noncomputable def annealref1_Pack.f (k : Nat) (a0 : Int) (a1 : Int) (a2 : Bool) (a3 : Int) (a4 : Int) (a5 : Bool) : Option (Int × Bool × Bool × Bool × Bool × Bool) := evF Try.prog annealref1_Pack.cls Try.f43 annealref1_Pack.cuts k [.one (.i .i64 (.x a0)), .one (.i .i64 (.x a1)), .one (.b (.q a2)), .one (.i .i64 (.x a3)), .one (.i .u64 (.x a4)), .one (.b (.q a5))] annealref1_Pack.K
noncomputable def annealref1_Pack.c : Fc := mkFc [hI .i64, hI .i64, hB, hI .i64, hI .u64, hB] [hI .u32, .agg [.b, .b, .b, .b, .b]] (T := Int × Bool × Bool × Bool × Bool × Bool) (fun y => ((y.1, ()), (y.2.1, y.2.2.1, y.2.2.2.1, y.2.2.2.2.1, y.2.2.2.2.2, ()), ())) fun n x => annealref1_Pack.f n x.1.1 x.2.1.1 x.2.2.1.1 x.2.2.2.1.1 x.2.2.2.2.1.1 x.2.2.2.2.2.1.1
theorem annealref1_Pack.ok : FcOk Try.prog 43 annealref1_Pack.c := mkOk annealref1_Pack.clsOk Try.func43 (by kernel_rfl) (by kernel_rfl) (by decide) (fun _ => rfl) (fun _ _ => rfl)
end Go.Proofs.Ytejkemahdincjaa.L

-- Printed by a program of this session's out of Lean's print of the translation; Lean checks it.
namespace Go.Proofs.Ytejkemahdincjaa.P
open Go.RowKit Go.Proofs.YtejkemahdincjaaW.PrintWords Go.Proofs.YtejkemahdincjaaW.PrintLast Go.Proofs.YtejkemahdincjaaW.PrintMore
attribute [local go_sem] max2_int min2_int max_two min_two max_three min_three max_four min_four

-- NEED 0
/-! ### annealref1_zero: function 37 -/
def annealref1_zero.f (k : Nat) (a0 : Int) (a1 : Int) : Option (Bool) := (annealref1_Class.f k a0 a1).bind fun t344 => (some (t344 == 0))
theorem annealref1_zero.mono : ∀ a0 a1 k, LeO (annealref1_zero.f k a0 a1) (annealref1_zero.f (k + 1) a0 a1) := by
 intro a0 a1 k
 unfold annealref1_zero.f
 repeat' first
   |(with_reducible exact annealref1_Class.mono _ _ _)
   |(with_reducible exact LeO.refl _)
   |(with_reducible exact LeO.none _)
   |(with_reducible refine LeO.ite ?_ ?_)
   |(with_reducible refine LeO.bind ?_ (fun _ => ?_))
   |exact annealref1_Class.mono _ _ _
   |exact LeO.none _
   |refine LeO.ite ?_ ?_
   |refine LeO.bind ?_ (fun _ => ?_)
set_option maxHeartbeats 8000000 in
set_option maxRecDepth 100000 in
theorem annealref1_zero.calls (k : Nat) (a0 : Int) (a1 : Int) (r : Bool) (w : World) (h : annealref1_zero.f k a0 a1 = some r) :
  Calls Try.prog 37 #[.int .i64 a0, .int .u32 a1] w fun e w' => e = .returned (.bool r) ∧ Drawn0 w w' := by
 have H : ((annealref1_Class.f k a0 a1).bind fun t344 => (some (t344 == 0))) = some r := h
 clear h
 replace H := Option.bind_eq_some_iff.mp H
 obtain ⟨t344, A30, H⟩ := H
 replace H : (some (t344 == 0)) = some r := H
 have A3 := Aside0.mk A30
 clear A30
 obtain rfl := Option.some.inj H
 go_enter Try.func37, Try.ntmps37
 go_wp2_with (first | ((with_reducible refine gate_callee (f := 66) rfl ?_); refine goesL_ (some 7) rfl rfl Try.func66 (by kernel_rfl) rfl #[.int .i64 a0, .int .u32 a1] rfl gl ?_; (with_reducible refine (annealref1_Class.calls k a0 a1 t344 _ A3.out).mono ?_); rintro e w' ⟨rfl, ⟨nd, rfl⟩⟩; refine ⟨_, rfl, ?_⟩))
 go_ret
 exact ⟨by first | rfl | (simp; done) | (simp [*]; done) | (congr 1; (try unfold wrap64); omega) | (congr 1; rw [IntKind.wrap_u64]; omega), by repeat (first | exact Drawn0.refl _ | apply Drawn0.step)⟩


-- NEED 0
/-! ### annealref1_Pack: function 43 -/
mutual
def annealref1_Pack.j0 : Nat → Int → Int → Bool → Int → Int → Bool → Bool → Option (Int × Bool × Bool × Bool × Bool × Bool)
 |0, _, _, _, _, _, _, _ => none
 |k + 1, x0, x1, x2, x3, x4, x5, x35 => if x35 = true then ((annealref1_Zero.f x0 x2).bind fun t367 => (some (t367, false, false, false, false, false))) else ((annealref1_Widths.f x0).bind fun bt368 => ((annealref1_bias.f x0).bind fun t370 => ((annealref1_Len.f k x4).bind fun t371 => (if x4 = 0 then (annealref1_Pack.j1 k x0 x1 x2 x3 x4 x5 bt368.2 (wrap64 (1 - t370)) (-20000)) else (annealref1_Pack.j1 k x0 x1 x2 x3 x4 x5 bt368.2 (wrap64 (1 - t370)) (wrap64 ((wrap64 (x3 + t371)) - 1)))))))
def annealref1_Pack.j1 : Nat → Int → Int → Bool → Int → Int → Bool → Int → Int → Int → Option (Int × Bool × Bool × Bool × Bool × Bool)
 |0, _, _, _, _, _, _, _, _, _ => none
 |k + 1, x0, x1, x2, x3, x4, x5, x15, x16, x17 => (annealref1_divide.f k x4 (wrap64 ((wrap64 ((mx x17 x16) - x15)) - x3))).bind fun bt372 => (if bt372.2.2 = true then (annealref1_Pack.j2 k x0 x1 x2 x15 x16 x17 (wrap64 ((mx x17 x16) - x15)) bt372.1 bt372.2.1 true) else (annealref1_Pack.j2 k x0 x1 x2 x15 x16 x17 (wrap64 ((mx x17 x16) - x15)) bt372.1 bt372.2.1 x5))
def annealref1_Pack.j2 : Nat → Int → Int → Bool → Int → Int → Int → Int → Int → Bool → Bool → Option (Int × Bool × Bool × Bool × Bool × Bool)
 |0, _, _, _, _, _, _, _, _, _, _ => none
 |k + 1, x0, x1, x2, x15, x16, x17, x18, x19, x20, x21 => if x20 = true then (annealref1_Pack.j3 k x0 x1 x2 x15 x16 x17 x18 x19 x20 x21 true) else (annealref1_Pack.j3 k x0 x1 x2 x15 x16 x17 x18 x19 x20 x21 x21)
def annealref1_Pack.j3 : Nat → Int → Int → Bool → Int → Int → Int → Int → Int → Bool → Bool → Bool → Option (Int × Bool × Bool × Bool × Bool × Bool)
 |0, _, _, _, _, _, _, _, _, _, _, _ => none
 |k + 1, x0, x1, x2, x15, x16, x17, x18, x19, x20, x21, x22 => (annealref1_up.f x1 x2 ((Go.bits .and .u64 x19 1) == 1) x20 x21).bind fun t375 => (if t375 = true then (annealref1_Pack.j4 k x0 x1 x2 x15 x16 x17 x18 (IntKind.u64.wrap (x19 + 1)) x22) else (annealref1_Pack.j4 k x0 x1 x2 x15 x16 x17 x18 x19 x22))
def annealref1_Pack.j4 : Nat → Int → Int → Bool → Int → Int → Int → Int → Int → Bool → Option (Int × Bool × Bool × Bool × Bool × Bool)
 |0, _, _, _, _, _, _, _, _, _ => none
 |k + 1, x0, x1, x2, x15, x16, x17, x18, x19, x22 => if x22 = true then (if 0 ≤ (wrap64 (x15 + 1)) then (if x19 = (shl .u64 1 (wrap64 (x15 + 1))) then (annealref1_Pack.j5 k x0 x1 x2 x15 (wrap64 (x18 + 1)) (x19 / 2) false false false (decide (x17 < x16)) x22) else (annealref1_Pack.j5 k x0 x1 x2 x15 x18 x19 false false false (decide (x17 < x16)) x22)) else (none)) else (if 0 ≤ (wrap64 (x15 + 1)) then (if x19 = (shl .u64 1 (wrap64 (x15 + 1))) then (annealref1_Pack.j6 k x0 x1 x2 x15 (wrap64 (x18 + 1)) (x19 / 2) false false false false x22) else (annealref1_Pack.j6 k x0 x1 x2 x15 x18 x19 false false false false x22)) else (none))
def annealref1_Pack.j5 : Nat → Int → Int → Bool → Int → Int → Int → Bool → Bool → Bool → Bool → Bool → Option (Int × Bool × Bool × Bool × Bool × Bool)
 |0, _, _, _, _, _, _, _, _, _, _, _ => none
 |k + 1, x0, x1, x2, x15, x18, x19, x377000, x377001, x377002, x377003, x377004 => if 0 ≤ x15 then (if x19 < (shl .u64 1 x15) then ((annealref1_sign.f x0 x2).bind fun t377 => (some (Go.bits .or .u32 t377 ((x19) % 4294967296), x377000, x377001, x377002, x377003, x377004))) else ((annealref1_bias.f x0).bind fun t378 => ((annealref1_Widths.f x0).bind fun bt379 => (if 0 ≤ bt379.1 then (if (wrap64 ((wrap64 (x18 + x15)) + t378)) ≥ (wrap64 ((shl .i64 1 bt379.1) - 1)) then ((annealref1_over.f k x0 x1 x2).bind fun t381 => (some (t381, false, false, true, false, true))) else ((annealref1_sign.f x0 x2).bind fun t382 => (some (Go.bits .or .u32 (Go.bits .or .u32 t382 (shl .u32 ((wrap64 ((wrap64 (x18 + x15)) + t378)) % 4294967296) x15)) ((Go.bits .and .u64 x19 (IntKind.u64.wrap ((shl .u64 1 x15) - 1))) % 4294967296), x377000, x377001, x377002, x377003, x377004)))) else (none))))) else (none)
def annealref1_Pack.j6 : Nat → Int → Int → Bool → Int → Int → Int → Bool → Bool → Bool → Bool → Bool → Option (Int × Bool × Bool × Bool × Bool × Bool)
 |0, _, _, _, _, _, _, _, _, _, _, _ => none
 |k + 1, x0, x1, x2, x15, x18, x19, x384000, x384001, x384002, x384003, x384004 => if 0 ≤ x15 then (if x19 < (shl .u64 1 x15) then ((annealref1_sign.f x0 x2).bind fun t384 => (some (Go.bits .or .u32 t384 ((x19) % 4294967296), x384000, x384001, x384002, x384003, x384004))) else ((annealref1_bias.f x0).bind fun t385 => ((annealref1_Widths.f x0).bind fun bt386 => (if 0 ≤ bt386.1 then (if (wrap64 ((wrap64 (x18 + x15)) + t385)) ≥ (wrap64 ((shl .i64 1 bt386.1) - 1)) then ((annealref1_over.f k x0 x1 x2).bind fun t388 => (some (t388, false, false, true, false, true))) else ((annealref1_sign.f x0 x2).bind fun t389 => (some (Go.bits .or .u32 (Go.bits .or .u32 t389 (shl .u32 ((wrap64 ((wrap64 (x18 + x15)) + t385)) % 4294967296) x15)) ((Go.bits .and .u64 x19 (IntKind.u64.wrap ((shl .u64 1 x15) - 1))) % 4294967296), x384000, x384001, x384002, x384003, x384004)))) else (none))))) else (none)
end
def annealref1_Pack.f (k : Nat) (a0 : Int) (a1 : Int) (a2 : Bool) (a3 : Int) (a4 : Int) (a5 : Bool) : Option (Int × Bool × Bool × Bool × Bool × Bool) := if a4 = 0 then (annealref1_Pack.j0 k a0 a1 a2 (mn (mx a3 (-10000)) 10000) a4 a5 (!a5)) else (annealref1_Pack.j0 k a0 a1 a2 (mn (mx a3 (-10000)) 10000) a4 a5 false)
theorem annealref1_Pack.mono_l : ∀ k, (∀ y0 y1 y2 y3 y4 y5 y6, LeO (annealref1_Pack.j0 k y0 y1 y2 y3 y4 y5 y6) (annealref1_Pack.j0 (k + 1) y0 y1 y2 y3 y4 y5 y6)) ∧ (∀ y0 y1 y2 y3 y4 y5 y6 y7 y8, LeO (annealref1_Pack.j1 k y0 y1 y2 y3 y4 y5 y6 y7 y8) (annealref1_Pack.j1 (k + 1) y0 y1 y2 y3 y4 y5 y6 y7 y8)) ∧ (∀ y0 y1 y2 y3 y4 y5 y6 y7 y8 y9, LeO (annealref1_Pack.j2 k y0 y1 y2 y3 y4 y5 y6 y7 y8 y9) (annealref1_Pack.j2 (k + 1) y0 y1 y2 y3 y4 y5 y6 y7 y8 y9)) ∧ (∀ y0 y1 y2 y3 y4 y5 y6 y7 y8 y9 y10, LeO (annealref1_Pack.j3 k y0 y1 y2 y3 y4 y5 y6 y7 y8 y9 y10) (annealref1_Pack.j3 (k + 1) y0 y1 y2 y3 y4 y5 y6 y7 y8 y9 y10)) ∧ (∀ y0 y1 y2 y3 y4 y5 y6 y7 y8, LeO (annealref1_Pack.j4 k y0 y1 y2 y3 y4 y5 y6 y7 y8) (annealref1_Pack.j4 (k + 1) y0 y1 y2 y3 y4 y5 y6 y7 y8)) ∧ (∀ y0 y1 y2 y3 y4 y5 y6 y7 y8 y9 y10, LeO (annealref1_Pack.j5 k y0 y1 y2 y3 y4 y5 y6 y7 y8 y9 y10) (annealref1_Pack.j5 (k + 1) y0 y1 y2 y3 y4 y5 y6 y7 y8 y9 y10)) ∧ (∀ y0 y1 y2 y3 y4 y5 y6 y7 y8 y9 y10, LeO (annealref1_Pack.j6 k y0 y1 y2 y3 y4 y5 y6 y7 y8 y9 y10) (annealref1_Pack.j6 (k + 1) y0 y1 y2 y3 y4 y5 y6 y7 y8 y9 y10))
 |0 => ⟨fun _ _ _ _ _ _ _ r h => by simp [annealref1_Pack.j0] at h, fun _ _ _ _ _ _ _ _ _ r h => by simp [annealref1_Pack.j1] at h, fun _ _ _ _ _ _ _ _ _ _ r h => by simp [annealref1_Pack.j2] at h, fun _ _ _ _ _ _ _ _ _ _ _ r h => by simp [annealref1_Pack.j3] at h, fun _ _ _ _ _ _ _ _ _ r h => by simp [annealref1_Pack.j4] at h, fun _ _ _ _ _ _ _ _ _ _ _ r h => by simp [annealref1_Pack.j5] at h, fun _ _ _ _ _ _ _ _ _ _ _ r h => by simp [annealref1_Pack.j6] at h⟩
 |k + 1 => by
  obtain ⟨ih0, ih1, ih2, ih3, ih4, ih5, ih6⟩ := annealref1_Pack.mono_l k
  refine ⟨?_, ?_, ?_, ?_, ?_, ?_, ?_⟩
  ·intro y0 y1 y2 y3 y4 y5 y6
   unfold annealref1_Pack.j0
   repeat' first
   |(with_reducible exact ih0 _ _ _ _ _ _ _)
   |(with_reducible exact ih1 _ _ _ _ _ _ _ _ _)
   |(with_reducible exact ih2 _ _ _ _ _ _ _ _ _ _)
   |(with_reducible exact ih3 _ _ _ _ _ _ _ _ _ _ _)
   |(with_reducible exact ih4 _ _ _ _ _ _ _ _ _)
   |(with_reducible exact ih5 _ _ _ _ _ _ _ _ _ _ _)
   |(with_reducible exact ih6 _ _ _ _ _ _ _ _ _ _ _)
   |(with_reducible exact annealref1_Len.mono _ _)
   |(with_reducible exact annealref1_divide.mono _ _ _)
   |(with_reducible exact annealref1_over.mono _ _ _ _)
   |(with_reducible exact LeO.refl _)
   |(with_reducible exact LeO.none _)
   |(with_reducible refine LeO.ite ?_ ?_)
   |(with_reducible refine LeO.bind ?_ (fun _ => ?_))
   |exact ih0 _ _ _ _ _ _ _
   |exact ih1 _ _ _ _ _ _ _ _ _
   |exact ih2 _ _ _ _ _ _ _ _ _ _
   |exact ih3 _ _ _ _ _ _ _ _ _ _ _
   |exact ih4 _ _ _ _ _ _ _ _ _
   |exact ih5 _ _ _ _ _ _ _ _ _ _ _
   |exact ih6 _ _ _ _ _ _ _ _ _ _ _
   |exact annealref1_Len.mono _ _
   |exact annealref1_divide.mono _ _ _
   |exact annealref1_over.mono _ _ _ _
   |exact LeO.none _
   |refine LeO.ite ?_ ?_
   |refine LeO.bind ?_ (fun _ => ?_)
  ·intro y0 y1 y2 y3 y4 y5 y6 y7 y8
   unfold annealref1_Pack.j1
   repeat' first
   |(with_reducible exact ih0 _ _ _ _ _ _ _)
   |(with_reducible exact ih1 _ _ _ _ _ _ _ _ _)
   |(with_reducible exact ih2 _ _ _ _ _ _ _ _ _ _)
   |(with_reducible exact ih3 _ _ _ _ _ _ _ _ _ _ _)
   |(with_reducible exact ih4 _ _ _ _ _ _ _ _ _)
   |(with_reducible exact ih5 _ _ _ _ _ _ _ _ _ _ _)
   |(with_reducible exact ih6 _ _ _ _ _ _ _ _ _ _ _)
   |(with_reducible exact annealref1_Len.mono _ _)
   |(with_reducible exact annealref1_divide.mono _ _ _)
   |(with_reducible exact annealref1_over.mono _ _ _ _)
   |(with_reducible exact LeO.refl _)
   |(with_reducible exact LeO.none _)
   |(with_reducible refine LeO.ite ?_ ?_)
   |(with_reducible refine LeO.bind ?_ (fun _ => ?_))
   |exact ih0 _ _ _ _ _ _ _
   |exact ih1 _ _ _ _ _ _ _ _ _
   |exact ih2 _ _ _ _ _ _ _ _ _ _
   |exact ih3 _ _ _ _ _ _ _ _ _ _ _
   |exact ih4 _ _ _ _ _ _ _ _ _
   |exact ih5 _ _ _ _ _ _ _ _ _ _ _
   |exact ih6 _ _ _ _ _ _ _ _ _ _ _
   |exact annealref1_Len.mono _ _
   |exact annealref1_divide.mono _ _ _
   |exact annealref1_over.mono _ _ _ _
   |exact LeO.none _
   |refine LeO.ite ?_ ?_
   |refine LeO.bind ?_ (fun _ => ?_)
  ·intro y0 y1 y2 y3 y4 y5 y6 y7 y8 y9
   unfold annealref1_Pack.j2
   repeat' first
   |(with_reducible exact ih0 _ _ _ _ _ _ _)
   |(with_reducible exact ih1 _ _ _ _ _ _ _ _ _)
   |(with_reducible exact ih2 _ _ _ _ _ _ _ _ _ _)
   |(with_reducible exact ih3 _ _ _ _ _ _ _ _ _ _ _)
   |(with_reducible exact ih4 _ _ _ _ _ _ _ _ _)
   |(with_reducible exact ih5 _ _ _ _ _ _ _ _ _ _ _)
   |(with_reducible exact ih6 _ _ _ _ _ _ _ _ _ _ _)
   |(with_reducible exact annealref1_Len.mono _ _)
   |(with_reducible exact annealref1_divide.mono _ _ _)
   |(with_reducible exact annealref1_over.mono _ _ _ _)
   |(with_reducible exact LeO.refl _)
   |(with_reducible exact LeO.none _)
   |(with_reducible refine LeO.ite ?_ ?_)
   |(with_reducible refine LeO.bind ?_ (fun _ => ?_))
   |exact ih0 _ _ _ _ _ _ _
   |exact ih1 _ _ _ _ _ _ _ _ _
   |exact ih2 _ _ _ _ _ _ _ _ _ _
   |exact ih3 _ _ _ _ _ _ _ _ _ _ _
   |exact ih4 _ _ _ _ _ _ _ _ _
   |exact ih5 _ _ _ _ _ _ _ _ _ _ _
   |exact ih6 _ _ _ _ _ _ _ _ _ _ _
   |exact annealref1_Len.mono _ _
   |exact annealref1_divide.mono _ _ _
   |exact annealref1_over.mono _ _ _ _
   |exact LeO.none _
   |refine LeO.ite ?_ ?_
   |refine LeO.bind ?_ (fun _ => ?_)
  ·intro y0 y1 y2 y3 y4 y5 y6 y7 y8 y9 y10
   unfold annealref1_Pack.j3
   repeat' first
   |(with_reducible exact ih0 _ _ _ _ _ _ _)
   |(with_reducible exact ih1 _ _ _ _ _ _ _ _ _)
   |(with_reducible exact ih2 _ _ _ _ _ _ _ _ _ _)
   |(with_reducible exact ih3 _ _ _ _ _ _ _ _ _ _ _)
   |(with_reducible exact ih4 _ _ _ _ _ _ _ _ _)
   |(with_reducible exact ih5 _ _ _ _ _ _ _ _ _ _ _)
   |(with_reducible exact ih6 _ _ _ _ _ _ _ _ _ _ _)
   |(with_reducible exact annealref1_Len.mono _ _)
   |(with_reducible exact annealref1_divide.mono _ _ _)
   |(with_reducible exact annealref1_over.mono _ _ _ _)
   |(with_reducible exact LeO.refl _)
   |(with_reducible exact LeO.none _)
   |(with_reducible refine LeO.ite ?_ ?_)
   |(with_reducible refine LeO.bind ?_ (fun _ => ?_))
   |exact ih0 _ _ _ _ _ _ _
   |exact ih1 _ _ _ _ _ _ _ _ _
   |exact ih2 _ _ _ _ _ _ _ _ _ _
   |exact ih3 _ _ _ _ _ _ _ _ _ _ _
   |exact ih4 _ _ _ _ _ _ _ _ _
   |exact ih5 _ _ _ _ _ _ _ _ _ _ _
   |exact ih6 _ _ _ _ _ _ _ _ _ _ _
   |exact annealref1_Len.mono _ _
   |exact annealref1_divide.mono _ _ _
   |exact annealref1_over.mono _ _ _ _
   |exact LeO.none _
   |refine LeO.ite ?_ ?_
   |refine LeO.bind ?_ (fun _ => ?_)
  ·intro y0 y1 y2 y3 y4 y5 y6 y7 y8
   unfold annealref1_Pack.j4
   repeat' first
   |(with_reducible exact ih0 _ _ _ _ _ _ _)
   |(with_reducible exact ih1 _ _ _ _ _ _ _ _ _)
   |(with_reducible exact ih2 _ _ _ _ _ _ _ _ _ _)
   |(with_reducible exact ih3 _ _ _ _ _ _ _ _ _ _ _)
   |(with_reducible exact ih4 _ _ _ _ _ _ _ _ _)
   |(with_reducible exact ih5 _ _ _ _ _ _ _ _ _ _ _)
   |(with_reducible exact ih6 _ _ _ _ _ _ _ _ _ _ _)
   |(with_reducible exact annealref1_Len.mono _ _)
   |(with_reducible exact annealref1_divide.mono _ _ _)
   |(with_reducible exact annealref1_over.mono _ _ _ _)
   |(with_reducible exact LeO.refl _)
   |(with_reducible exact LeO.none _)
   |(with_reducible refine LeO.ite ?_ ?_)
   |(with_reducible refine LeO.bind ?_ (fun _ => ?_))
   |exact ih0 _ _ _ _ _ _ _
   |exact ih1 _ _ _ _ _ _ _ _ _
   |exact ih2 _ _ _ _ _ _ _ _ _ _
   |exact ih3 _ _ _ _ _ _ _ _ _ _ _
   |exact ih4 _ _ _ _ _ _ _ _ _
   |exact ih5 _ _ _ _ _ _ _ _ _ _ _
   |exact ih6 _ _ _ _ _ _ _ _ _ _ _
   |exact annealref1_Len.mono _ _
   |exact annealref1_divide.mono _ _ _
   |exact annealref1_over.mono _ _ _ _
   |exact LeO.none _
   |refine LeO.ite ?_ ?_
   |refine LeO.bind ?_ (fun _ => ?_)
  ·intro y0 y1 y2 y3 y4 y5 y6 y7 y8 y9 y10
   unfold annealref1_Pack.j5
   repeat' first
   |(with_reducible exact ih0 _ _ _ _ _ _ _)
   |(with_reducible exact ih1 _ _ _ _ _ _ _ _ _)
   |(with_reducible exact ih2 _ _ _ _ _ _ _ _ _ _)
   |(with_reducible exact ih3 _ _ _ _ _ _ _ _ _ _ _)
   |(with_reducible exact ih4 _ _ _ _ _ _ _ _ _)
   |(with_reducible exact ih5 _ _ _ _ _ _ _ _ _ _ _)
   |(with_reducible exact ih6 _ _ _ _ _ _ _ _ _ _ _)
   |(with_reducible exact annealref1_Len.mono _ _)
   |(with_reducible exact annealref1_divide.mono _ _ _)
   |(with_reducible exact annealref1_over.mono _ _ _ _)
   |(with_reducible exact LeO.refl _)
   |(with_reducible exact LeO.none _)
   |(with_reducible refine LeO.ite ?_ ?_)
   |(with_reducible refine LeO.bind ?_ (fun _ => ?_))
   |exact ih0 _ _ _ _ _ _ _
   |exact ih1 _ _ _ _ _ _ _ _ _
   |exact ih2 _ _ _ _ _ _ _ _ _ _
   |exact ih3 _ _ _ _ _ _ _ _ _ _ _
   |exact ih4 _ _ _ _ _ _ _ _ _
   |exact ih5 _ _ _ _ _ _ _ _ _ _ _
   |exact ih6 _ _ _ _ _ _ _ _ _ _ _
   |exact annealref1_Len.mono _ _
   |exact annealref1_divide.mono _ _ _
   |exact annealref1_over.mono _ _ _ _
   |exact LeO.none _
   |refine LeO.ite ?_ ?_
   |refine LeO.bind ?_ (fun _ => ?_)
  ·intro y0 y1 y2 y3 y4 y5 y6 y7 y8 y9 y10
   unfold annealref1_Pack.j6
   repeat' first
   |(with_reducible exact ih0 _ _ _ _ _ _ _)
   |(with_reducible exact ih1 _ _ _ _ _ _ _ _ _)
   |(with_reducible exact ih2 _ _ _ _ _ _ _ _ _ _)
   |(with_reducible exact ih3 _ _ _ _ _ _ _ _ _ _ _)
   |(with_reducible exact ih4 _ _ _ _ _ _ _ _ _)
   |(with_reducible exact ih5 _ _ _ _ _ _ _ _ _ _ _)
   |(with_reducible exact ih6 _ _ _ _ _ _ _ _ _ _ _)
   |(with_reducible exact annealref1_Len.mono _ _)
   |(with_reducible exact annealref1_divide.mono _ _ _)
   |(with_reducible exact annealref1_over.mono _ _ _ _)
   |(with_reducible exact LeO.refl _)
   |(with_reducible exact LeO.none _)
   |(with_reducible refine LeO.ite ?_ ?_)
   |(with_reducible refine LeO.bind ?_ (fun _ => ?_))
   |exact ih0 _ _ _ _ _ _ _
   |exact ih1 _ _ _ _ _ _ _ _ _
   |exact ih2 _ _ _ _ _ _ _ _ _ _
   |exact ih3 _ _ _ _ _ _ _ _ _ _ _
   |exact ih4 _ _ _ _ _ _ _ _ _
   |exact ih5 _ _ _ _ _ _ _ _ _ _ _
   |exact ih6 _ _ _ _ _ _ _ _ _ _ _
   |exact annealref1_Len.mono _ _
   |exact annealref1_divide.mono _ _ _
   |exact annealref1_over.mono _ _ _ _
   |exact LeO.none _
   |refine LeO.ite ?_ ?_
   |refine LeO.bind ?_ (fun _ => ?_)
theorem annealref1_Pack.mono : ∀ a0 a1 a2 a3 a4 a5 k, LeO (annealref1_Pack.f k a0 a1 a2 a3 a4 a5) (annealref1_Pack.f (k + 1) a0 a1 a2 a3 a4 a5) := by
 intro a0 a1 a2 a3 a4 a5 k
 obtain ⟨ih0, ih1, ih2, ih3, ih4, ih5, ih6⟩ := annealref1_Pack.mono_l k
 unfold annealref1_Pack.f
 repeat' first
   |(with_reducible exact ih0 _ _ _ _ _ _ _)
   |(with_reducible exact ih1 _ _ _ _ _ _ _ _ _)
   |(with_reducible exact ih2 _ _ _ _ _ _ _ _ _ _)
   |(with_reducible exact ih3 _ _ _ _ _ _ _ _ _ _ _)
   |(with_reducible exact ih4 _ _ _ _ _ _ _ _ _)
   |(with_reducible exact ih5 _ _ _ _ _ _ _ _ _ _ _)
   |(with_reducible exact ih6 _ _ _ _ _ _ _ _ _ _ _)
   |(with_reducible exact annealref1_Len.mono _ _)
   |(with_reducible exact annealref1_divide.mono _ _ _)
   |(with_reducible exact annealref1_over.mono _ _ _ _)
   |(with_reducible exact LeO.refl _)
   |(with_reducible exact LeO.none _)
   |(with_reducible refine LeO.ite ?_ ?_)
   |(with_reducible refine LeO.bind ?_ (fun _ => ?_))
   |exact ih0 _ _ _ _ _ _ _
   |exact ih1 _ _ _ _ _ _ _ _ _
   |exact ih2 _ _ _ _ _ _ _ _ _ _
   |exact ih3 _ _ _ _ _ _ _ _ _ _ _
   |exact ih4 _ _ _ _ _ _ _ _ _
   |exact ih5 _ _ _ _ _ _ _ _ _ _ _
   |exact ih6 _ _ _ _ _ _ _ _ _ _ _
   |exact annealref1_Len.mono _ _
   |exact annealref1_divide.mono _ _ _
   |exact annealref1_over.mono _ _ _ _
   |exact LeO.none _
   |refine LeO.ite ?_ ?_
   |refine LeO.bind ?_ (fun _ => ?_)

-- NOT PRINTED: function 70 (annealref1_rounded)

-- NOT PRINTED: function 38 (annealref1_total)

-- NOT PRINTED: function 39 (annealref1_spread)

-- NEED 0
/-! ### annealref1_Unpack: function 40 -/
def annealref1_Unpack.f (k : Nat) (a0 : Int) (a1 : Int) : Option (Bool × Int × Int) := (annealref1_Widths.f a0).bind fun bt439 => ((annealref1_parts.f a0 a1).bind fun bt441 => ((annealref1_Class.f k a0 a1).bind fun t444 => (if t444 = 2 then ((annealref1_bias.f a0).bind fun t445 => (if 0 ≤ bt439.2 then (some (bt441.1, wrap64 ((wrap64 (bt441.2.1 - t445)) - bt439.2), Go.bits .or .u64 bt441.2.2 (shl .u64 1 bt439.2))) else (none))) else (if t444 = 0 then ((annealref1_bias.f a0).bind fun t446 => (some (bt441.1, wrap64 ((wrap64 (1 - t446)) - bt439.2), bt441.2.2))) else (if t444 = 1 then ((annealref1_bias.f a0).bind fun t447 => (some (bt441.1, wrap64 ((wrap64 (1 - t447)) - bt439.2), bt441.2.2))) else (some (bt441.1, 0, 0)))))))
theorem annealref1_Unpack.mono : ∀ a0 a1 k, LeO (annealref1_Unpack.f k a0 a1) (annealref1_Unpack.f (k + 1) a0 a1) := by
 intro a0 a1 k
 unfold annealref1_Unpack.f
 repeat' first
   |(with_reducible exact annealref1_Class.mono _ _ _)
   |(with_reducible exact LeO.refl _)
   |(with_reducible exact LeO.none _)
   |(with_reducible refine LeO.ite ?_ ?_)
   |(with_reducible refine LeO.bind ?_ (fun _ => ?_))
   |exact annealref1_Class.mono _ _ _
   |exact LeO.none _
   |refine LeO.ite ?_ ?_
   |refine LeO.bind ?_ (fun _ => ?_)
set_option maxHeartbeats 8000000 in
set_option maxRecDepth 100000 in
theorem annealref1_Unpack.calls (k : Nat) (a0 : Int) (a1 : Int) (r1 : Bool) (r2 : Int) (r3 : Int) (w : World) (h : annealref1_Unpack.f k a0 a1 = some (r1, r2, r3)) :
  Calls Try.prog 40 #[.int .i64 a0, .int .u32 a1] w fun e w' => e = .returned (.tuple #[.bool r1, .int .i64 r2, .int .u64 r3]) ∧ Drawn0 w w' := by
 have H : ((annealref1_Widths.f a0).bind fun bt439 => ((annealref1_parts.f a0 a1).bind fun bt441 => ((annealref1_Class.f k a0 a1).bind fun t444 => (if t444 = 2 then ((annealref1_bias.f a0).bind fun t445 => (if 0 ≤ bt439.2 then (some (bt441.1, wrap64 ((wrap64 (bt441.2.1 - t445)) - bt439.2), Go.bits .or .u64 bt441.2.2 (shl .u64 1 bt439.2))) else (none))) else (if t444 = 0 then ((annealref1_bias.f a0).bind fun t446 => (some (bt441.1, wrap64 ((wrap64 (1 - t446)) - bt439.2), bt441.2.2))) else (if t444 = 1 then ((annealref1_bias.f a0).bind fun t447 => (some (bt441.1, wrap64 ((wrap64 (1 - t447)) - bt439.2), bt441.2.2))) else (some (bt441.1, 0, 0)))))))) = some (r1, r2, r3) := h
 clear h
 replace H := Option.bind_eq_some_iff.mp H
 obtain ⟨⟨t439, t440⟩, A30, H⟩ := H
 replace H : ((annealref1_parts.f a0 a1).bind fun bt441 => ((annealref1_Class.f k a0 a1).bind fun t444 => (if t444 = 2 then ((annealref1_bias.f a0).bind fun t445 => (if 0 ≤ t440 then (some (bt441.1, wrap64 ((wrap64 (bt441.2.1 - t445)) - t440), Go.bits .or .u64 bt441.2.2 (shl .u64 1 t440))) else (none))) else (if t444 = 0 then ((annealref1_bias.f a0).bind fun t446 => (some (bt441.1, wrap64 ((wrap64 (1 - t446)) - t440), bt441.2.2))) else (if t444 = 1 then ((annealref1_bias.f a0).bind fun t447 => (some (bt441.1, wrap64 ((wrap64 (1 - t447)) - t440), bt441.2.2))) else (some (bt441.1, 0, 0))))))) = some (r1, r2, r3) := H
 have A3 := Aside0.mk A30
 clear A30
 replace H := Option.bind_eq_some_iff.mp H
 obtain ⟨⟨t441, t442, t443⟩, A40, H⟩ := H
 replace H : ((annealref1_Class.f k a0 a1).bind fun t444 => (if t444 = 2 then ((annealref1_bias.f a0).bind fun t445 => (if 0 ≤ t440 then (some (t441, wrap64 ((wrap64 (t442 - t445)) - t440), Go.bits .or .u64 t443 (shl .u64 1 t440))) else (none))) else (if t444 = 0 then ((annealref1_bias.f a0).bind fun t446 => (some (t441, wrap64 ((wrap64 (1 - t446)) - t440), t443))) else (if t444 = 1 then ((annealref1_bias.f a0).bind fun t447 => (some (t441, wrap64 ((wrap64 (1 - t447)) - t440), t443))) else (some (t441, 0, 0)))))) = some (r1, r2, r3) := H
 have A4 := Aside0.mk A40
 clear A40
 replace H := Option.bind_eq_some_iff.mp H
 obtain ⟨t444, A50, H⟩ := H
 replace H : (if t444 = 2 then ((annealref1_bias.f a0).bind fun t445 => (if 0 ≤ t440 then (some (t441, wrap64 ((wrap64 (t442 - t445)) - t440), Go.bits .or .u64 t443 (shl .u64 1 t440))) else (none))) else (if t444 = 0 then ((annealref1_bias.f a0).bind fun t446 => (some (t441, wrap64 ((wrap64 (1 - t446)) - t440), t443))) else (if t444 = 1 then ((annealref1_bias.f a0).bind fun t447 => (some (t441, wrap64 ((wrap64 (1 - t447)) - t440), t443))) else (some (t441, 0, 0))))) = some (r1, r2, r3) := H
 have A5 := Aside0.mk A50
 clear A50
 by_cases c6 : t444 = 2
 ·rw [if_pos c6] at H
  have c6b0 : (t444 == 2) = true := beq_iff_eq.mpr c6
  have c6b1 : (t444 != 2) = false := bne_eq_false_iff_eq.mpr c6
  clear c6
  replace H := Option.bind_eq_some_iff.mp H
  obtain ⟨t445, A70, H⟩ := H
  replace H : (if 0 ≤ t440 then (some (t441, wrap64 ((wrap64 (t442 - t445)) - t440), Go.bits .or .u64 t443 (shl .u64 1 t440))) else (none)) = some (r1, r2, r3) := H
  have A7 := Aside0.mk A70
  clear A70
  by_cases c8 : 0 ≤ t440
  ·rw [if_pos c8] at H
   have c8b0 := eq_true c8
   have c8b1 : decide (0 ≤ t440) = true := decide_eq_true c8
   clear c8
   obtain ⟨ji9, hji9⟩ : ∃ j_ : Int, (shl .u64 1 t440) = j_ := ⟨_, rfl⟩
   replace H : (some (t441, wrap64 ((wrap64 (t442 - t445)) - t440), Go.bits .or .u64 t443 (ji9))) = some (r1, r2, r3) := by first | (rw [hji9] at H; exact H) | (simp only [hji9] at H ⊢; exact H)
   (try rw [hji9] at A3)
   (try rw [hji9] at A4)
   (try rw [hji9] at A5)
   (try rw [hji9] at A7)
   have hji9_ : (IntKind.u64.wrap (1 * 2 ^ min t440.toNat 64)) = ji9 := hji9
   have hji9z : t440 ≤ 64 → (IntKind.u64.wrap (1 * 2 ^ t440.toNat)) = ji9 := shl_small hji9
   have hji9u : (IntKind.u64.wrap (2 ^ min t440.toNat 64)) = ji9 := by have h_ := hji9_; rw [Int.one_mul] at h_; exact h_
   have hji9v : t440 ≤ 64 → (IntKind.u64.wrap (2 ^ t440.toNat)) = ji9 := fun hle_ => by have h_ := hji9z hle_; rw [Int.one_mul] at h_; exact h_
   simp only [Option.some.injEq, Prod.mk.injEq] at H
   obtain ⟨rfl, rfl, rfl⟩ := H
   go_enter Try.func40, Try.ntmps40
   go_wp2_with (first | (go_at_call 23; (with_reducible refine (annealref1_Widths.calls a0 t439 t440 _ A3.out).mono ?_); rintro e w' ⟨rfl, ⟨nd, rfl⟩⟩; (try first | exact ⟨rfl, _, World.drewN_drewN _ _ _⟩ | exact ⟨rfl, _, Eq.trans (World.drewN_drewN _ _ _) (congrArg (World.drewN _) (Nat.add_assoc _ _ _))⟩)) | (go_at_call 67; (with_reducible refine (annealref1_parts.calls a0 a1 t441 t442 t443 _ A4.out).mono ?_); rintro e w' ⟨rfl, ⟨nd, rfl⟩⟩; (try first | exact ⟨rfl, _, World.drewN_drewN _ _ _⟩ | exact ⟨rfl, _, Eq.trans (World.drewN_drewN _ _ _) (congrArg (World.drewN _) (Nat.add_assoc _ _ _))⟩)) | (go_at_call 66; (with_reducible refine (annealref1_Class.calls k a0 a1 t444 _ A5.out).mono ?_); rintro e w' ⟨rfl, ⟨nd, rfl⟩⟩; (try first | exact ⟨rfl, _, World.drewN_drewN _ _ _⟩ | exact ⟨rfl, _, Eq.trans (World.drewN_drewN _ _ _) (congrArg (World.drewN _) (Nat.add_assoc _ _ _))⟩)) | (go_at_call 71; (with_reducible refine (annealref1_bias.calls a0 t445 _ A7.out).mono ?_); rintro e w' ⟨rfl, ⟨nd, rfl⟩⟩; (try first | exact ⟨rfl, _, World.drewN_drewN _ _ _⟩ | exact ⟨rfl, _, Eq.trans (World.drewN_drewN _ _ _) (congrArg (World.drewN _) (Nat.add_assoc _ _ _))⟩)))
   repeat (go_quiet (first | (go_at_call 23; (with_reducible refine (annealref1_Widths.calls a0 t439 t440 _ A3.out).mono ?_); rintro e w' ⟨rfl, ⟨nd, rfl⟩⟩; (try first | exact ⟨rfl, _, World.drewN_drewN _ _ _⟩ | exact ⟨rfl, _, Eq.trans (World.drewN_drewN _ _ _) (congrArg (World.drewN _) (Nat.add_assoc _ _ _))⟩)) | (go_at_call 67; (with_reducible refine (annealref1_parts.calls a0 a1 t441 t442 t443 _ A4.out).mono ?_); rintro e w' ⟨rfl, ⟨nd, rfl⟩⟩; (try first | exact ⟨rfl, _, World.drewN_drewN _ _ _⟩ | exact ⟨rfl, _, Eq.trans (World.drewN_drewN _ _ _) (congrArg (World.drewN _) (Nat.add_assoc _ _ _))⟩)) | (go_at_call 66; (with_reducible refine (annealref1_Class.calls k a0 a1 t444 _ A5.out).mono ?_); rintro e w' ⟨rfl, ⟨nd, rfl⟩⟩; (try first | exact ⟨rfl, _, World.drewN_drewN _ _ _⟩ | exact ⟨rfl, _, Eq.trans (World.drewN_drewN _ _ _) (congrArg (World.drewN _) (Nat.add_assoc _ _ _))⟩)) | (go_at_call 71; (with_reducible refine (annealref1_bias.calls a0 t445 _ A7.out).mono ?_); rintro e w' ⟨rfl, ⟨nd, rfl⟩⟩; (try first | exact ⟨rfl, _, World.drewN_drewN _ _ _⟩ | exact ⟨rfl, _, Eq.trans (World.drewN_drewN _ _ _) (congrArg (World.drewN _) (Nat.add_assoc _ _ _))⟩))); try go_wp2_with (first | (go_at_call 23; (with_reducible refine (annealref1_Widths.calls a0 t439 t440 _ A3.out).mono ?_); rintro e w' ⟨rfl, ⟨nd, rfl⟩⟩; (try first | exact ⟨rfl, _, World.drewN_drewN _ _ _⟩ | exact ⟨rfl, _, Eq.trans (World.drewN_drewN _ _ _) (congrArg (World.drewN _) (Nat.add_assoc _ _ _))⟩)) | (go_at_call 67; (with_reducible refine (annealref1_parts.calls a0 a1 t441 t442 t443 _ A4.out).mono ?_); rintro e w' ⟨rfl, ⟨nd, rfl⟩⟩; (try first | exact ⟨rfl, _, World.drewN_drewN _ _ _⟩ | exact ⟨rfl, _, Eq.trans (World.drewN_drewN _ _ _) (congrArg (World.drewN _) (Nat.add_assoc _ _ _))⟩)) | (go_at_call 66; (with_reducible refine (annealref1_Class.calls k a0 a1 t444 _ A5.out).mono ?_); rintro e w' ⟨rfl, ⟨nd, rfl⟩⟩; (try first | exact ⟨rfl, _, World.drewN_drewN _ _ _⟩ | exact ⟨rfl, _, Eq.trans (World.drewN_drewN _ _ _) (congrArg (World.drewN _) (Nat.add_assoc _ _ _))⟩)) | (go_at_call 71; (with_reducible refine (annealref1_bias.calls a0 t445 _ A7.out).mono ?_); rintro e w' ⟨rfl, ⟨nd, rfl⟩⟩; (try first | exact ⟨rfl, _, World.drewN_drewN _ _ _⟩ | exact ⟨rfl, _, Eq.trans (World.drewN_drewN _ _ _) (congrArg (World.drewN _) (Nat.add_assoc _ _ _))⟩))))
   go_ret3
   exact ⟨by first | rfl | (simp; done) | (simp only [← hji9] <;> (first | rfl | (simp; done))) | (simp [*]; done) | (congr 1; (try unfold wrap64); omega) | (congr 1; rw [IntKind.wrap_u64]; omega), by repeat (first | exact Drawn0.refl _ | apply Drawn0.step)⟩
  ·rw [if_neg c8] at H
   exact absurd H (by simp)
 ·rw [if_neg c6] at H
  have c6b0 : (t444 == 2) = false := beq_eq_false_iff_ne.mpr c6
  have c6b1 : (t444 != 2) = true := bne_iff_ne.mpr c6
  by_cases c10 : t444 = 0
  ·rw [if_pos c10] at H
   have c10b0 : (t444 == 0) = true := beq_iff_eq.mpr c10
   have c10b1 : (t444 != 0) = false := bne_eq_false_iff_eq.mpr c10
   clear c10
   replace H := Option.bind_eq_some_iff.mp H
   obtain ⟨t446, A110, H⟩ := H
   replace H : (some (t441, wrap64 ((wrap64 (1 - t446)) - t440), t443)) = some (r1, r2, r3) := H
   have A11 := Aside0.mk A110
   clear A110
   simp only [Option.some.injEq, Prod.mk.injEq] at H
   obtain ⟨rfl, rfl, rfl⟩ := H
   go_enter Try.func40, Try.ntmps40
   go_wp2_with (first | (go_at_call 23; (with_reducible refine (annealref1_Widths.calls a0 t439 t440 _ A3.out).mono ?_); rintro e w' ⟨rfl, ⟨nd, rfl⟩⟩; (try first | exact ⟨rfl, _, World.drewN_drewN _ _ _⟩ | exact ⟨rfl, _, Eq.trans (World.drewN_drewN _ _ _) (congrArg (World.drewN _) (Nat.add_assoc _ _ _))⟩)) | (go_at_call 67; (with_reducible refine (annealref1_parts.calls a0 a1 t441 t442 t443 _ A4.out).mono ?_); rintro e w' ⟨rfl, ⟨nd, rfl⟩⟩; (try first | exact ⟨rfl, _, World.drewN_drewN _ _ _⟩ | exact ⟨rfl, _, Eq.trans (World.drewN_drewN _ _ _) (congrArg (World.drewN _) (Nat.add_assoc _ _ _))⟩)) | (go_at_call 66; (with_reducible refine (annealref1_Class.calls k a0 a1 t444 _ A5.out).mono ?_); rintro e w' ⟨rfl, ⟨nd, rfl⟩⟩; (try first | exact ⟨rfl, _, World.drewN_drewN _ _ _⟩ | exact ⟨rfl, _, Eq.trans (World.drewN_drewN _ _ _) (congrArg (World.drewN _) (Nat.add_assoc _ _ _))⟩)) | (go_at_call 71; (with_reducible refine (annealref1_bias.calls a0 t446 _ A11.out).mono ?_); rintro e w' ⟨rfl, ⟨nd, rfl⟩⟩; (try first | exact ⟨rfl, _, World.drewN_drewN _ _ _⟩ | exact ⟨rfl, _, Eq.trans (World.drewN_drewN _ _ _) (congrArg (World.drewN _) (Nat.add_assoc _ _ _))⟩)))
   repeat (go_quiet (first | (go_at_call 23; (with_reducible refine (annealref1_Widths.calls a0 t439 t440 _ A3.out).mono ?_); rintro e w' ⟨rfl, ⟨nd, rfl⟩⟩; (try first | exact ⟨rfl, _, World.drewN_drewN _ _ _⟩ | exact ⟨rfl, _, Eq.trans (World.drewN_drewN _ _ _) (congrArg (World.drewN _) (Nat.add_assoc _ _ _))⟩)) | (go_at_call 67; (with_reducible refine (annealref1_parts.calls a0 a1 t441 t442 t443 _ A4.out).mono ?_); rintro e w' ⟨rfl, ⟨nd, rfl⟩⟩; (try first | exact ⟨rfl, _, World.drewN_drewN _ _ _⟩ | exact ⟨rfl, _, Eq.trans (World.drewN_drewN _ _ _) (congrArg (World.drewN _) (Nat.add_assoc _ _ _))⟩)) | (go_at_call 66; (with_reducible refine (annealref1_Class.calls k a0 a1 t444 _ A5.out).mono ?_); rintro e w' ⟨rfl, ⟨nd, rfl⟩⟩; (try first | exact ⟨rfl, _, World.drewN_drewN _ _ _⟩ | exact ⟨rfl, _, Eq.trans (World.drewN_drewN _ _ _) (congrArg (World.drewN _) (Nat.add_assoc _ _ _))⟩)) | (go_at_call 71; (with_reducible refine (annealref1_bias.calls a0 t446 _ A11.out).mono ?_); rintro e w' ⟨rfl, ⟨nd, rfl⟩⟩; (try first | exact ⟨rfl, _, World.drewN_drewN _ _ _⟩ | exact ⟨rfl, _, Eq.trans (World.drewN_drewN _ _ _) (congrArg (World.drewN _) (Nat.add_assoc _ _ _))⟩))); try go_wp2_with (first | (go_at_call 23; (with_reducible refine (annealref1_Widths.calls a0 t439 t440 _ A3.out).mono ?_); rintro e w' ⟨rfl, ⟨nd, rfl⟩⟩; (try first | exact ⟨rfl, _, World.drewN_drewN _ _ _⟩ | exact ⟨rfl, _, Eq.trans (World.drewN_drewN _ _ _) (congrArg (World.drewN _) (Nat.add_assoc _ _ _))⟩)) | (go_at_call 67; (with_reducible refine (annealref1_parts.calls a0 a1 t441 t442 t443 _ A4.out).mono ?_); rintro e w' ⟨rfl, ⟨nd, rfl⟩⟩; (try first | exact ⟨rfl, _, World.drewN_drewN _ _ _⟩ | exact ⟨rfl, _, Eq.trans (World.drewN_drewN _ _ _) (congrArg (World.drewN _) (Nat.add_assoc _ _ _))⟩)) | (go_at_call 66; (with_reducible refine (annealref1_Class.calls k a0 a1 t444 _ A5.out).mono ?_); rintro e w' ⟨rfl, ⟨nd, rfl⟩⟩; (try first | exact ⟨rfl, _, World.drewN_drewN _ _ _⟩ | exact ⟨rfl, _, Eq.trans (World.drewN_drewN _ _ _) (congrArg (World.drewN _) (Nat.add_assoc _ _ _))⟩)) | (go_at_call 71; (with_reducible refine (annealref1_bias.calls a0 t446 _ A11.out).mono ?_); rintro e w' ⟨rfl, ⟨nd, rfl⟩⟩; (try first | exact ⟨rfl, _, World.drewN_drewN _ _ _⟩ | exact ⟨rfl, _, Eq.trans (World.drewN_drewN _ _ _) (congrArg (World.drewN _) (Nat.add_assoc _ _ _))⟩))))
   go_ret3
   exact ⟨by first | rfl | (simp; done) | (simp [*]; done) | (congr 1; (try unfold wrap64); omega) | (congr 1; rw [IntKind.wrap_u64]; omega), by repeat (first | exact Drawn0.refl _ | apply Drawn0.step)⟩
  ·rw [if_neg c10] at H
   have c10b0 : (t444 == 0) = false := beq_eq_false_iff_ne.mpr c10
   have c10b1 : (t444 != 0) = true := bne_iff_ne.mpr c10
   by_cases c12 : t444 = 1
   ·rw [if_pos c12] at H
    have c12b0 : (t444 == 1) = true := beq_iff_eq.mpr c12
    have c12b1 : (t444 != 1) = false := bne_eq_false_iff_eq.mpr c12
    clear c12
    replace H := Option.bind_eq_some_iff.mp H
    obtain ⟨t447, A130, H⟩ := H
    replace H : (some (t441, wrap64 ((wrap64 (1 - t447)) - t440), t443)) = some (r1, r2, r3) := H
    have A13 := Aside0.mk A130
    clear A130
    simp only [Option.some.injEq, Prod.mk.injEq] at H
    obtain ⟨rfl, rfl, rfl⟩ := H
    go_enter Try.func40, Try.ntmps40
    go_wp2_with (first | (go_at_call 23; (with_reducible refine (annealref1_Widths.calls a0 t439 t440 _ A3.out).mono ?_); rintro e w' ⟨rfl, ⟨nd, rfl⟩⟩; (try first | exact ⟨rfl, _, World.drewN_drewN _ _ _⟩ | exact ⟨rfl, _, Eq.trans (World.drewN_drewN _ _ _) (congrArg (World.drewN _) (Nat.add_assoc _ _ _))⟩)) | (go_at_call 67; (with_reducible refine (annealref1_parts.calls a0 a1 t441 t442 t443 _ A4.out).mono ?_); rintro e w' ⟨rfl, ⟨nd, rfl⟩⟩; (try first | exact ⟨rfl, _, World.drewN_drewN _ _ _⟩ | exact ⟨rfl, _, Eq.trans (World.drewN_drewN _ _ _) (congrArg (World.drewN _) (Nat.add_assoc _ _ _))⟩)) | (go_at_call 66; (with_reducible refine (annealref1_Class.calls k a0 a1 t444 _ A5.out).mono ?_); rintro e w' ⟨rfl, ⟨nd, rfl⟩⟩; (try first | exact ⟨rfl, _, World.drewN_drewN _ _ _⟩ | exact ⟨rfl, _, Eq.trans (World.drewN_drewN _ _ _) (congrArg (World.drewN _) (Nat.add_assoc _ _ _))⟩)) | (go_at_call 71; (with_reducible refine (annealref1_bias.calls a0 t447 _ A13.out).mono ?_); rintro e w' ⟨rfl, ⟨nd, rfl⟩⟩; (try first | exact ⟨rfl, _, World.drewN_drewN _ _ _⟩ | exact ⟨rfl, _, Eq.trans (World.drewN_drewN _ _ _) (congrArg (World.drewN _) (Nat.add_assoc _ _ _))⟩)))
    repeat (go_quiet (first | (go_at_call 23; (with_reducible refine (annealref1_Widths.calls a0 t439 t440 _ A3.out).mono ?_); rintro e w' ⟨rfl, ⟨nd, rfl⟩⟩; (try first | exact ⟨rfl, _, World.drewN_drewN _ _ _⟩ | exact ⟨rfl, _, Eq.trans (World.drewN_drewN _ _ _) (congrArg (World.drewN _) (Nat.add_assoc _ _ _))⟩)) | (go_at_call 67; (with_reducible refine (annealref1_parts.calls a0 a1 t441 t442 t443 _ A4.out).mono ?_); rintro e w' ⟨rfl, ⟨nd, rfl⟩⟩; (try first | exact ⟨rfl, _, World.drewN_drewN _ _ _⟩ | exact ⟨rfl, _, Eq.trans (World.drewN_drewN _ _ _) (congrArg (World.drewN _) (Nat.add_assoc _ _ _))⟩)) | (go_at_call 66; (with_reducible refine (annealref1_Class.calls k a0 a1 t444 _ A5.out).mono ?_); rintro e w' ⟨rfl, ⟨nd, rfl⟩⟩; (try first | exact ⟨rfl, _, World.drewN_drewN _ _ _⟩ | exact ⟨rfl, _, Eq.trans (World.drewN_drewN _ _ _) (congrArg (World.drewN _) (Nat.add_assoc _ _ _))⟩)) | (go_at_call 71; (with_reducible refine (annealref1_bias.calls a0 t447 _ A13.out).mono ?_); rintro e w' ⟨rfl, ⟨nd, rfl⟩⟩; (try first | exact ⟨rfl, _, World.drewN_drewN _ _ _⟩ | exact ⟨rfl, _, Eq.trans (World.drewN_drewN _ _ _) (congrArg (World.drewN _) (Nat.add_assoc _ _ _))⟩))); try go_wp2_with (first | (go_at_call 23; (with_reducible refine (annealref1_Widths.calls a0 t439 t440 _ A3.out).mono ?_); rintro e w' ⟨rfl, ⟨nd, rfl⟩⟩; (try first | exact ⟨rfl, _, World.drewN_drewN _ _ _⟩ | exact ⟨rfl, _, Eq.trans (World.drewN_drewN _ _ _) (congrArg (World.drewN _) (Nat.add_assoc _ _ _))⟩)) | (go_at_call 67; (with_reducible refine (annealref1_parts.calls a0 a1 t441 t442 t443 _ A4.out).mono ?_); rintro e w' ⟨rfl, ⟨nd, rfl⟩⟩; (try first | exact ⟨rfl, _, World.drewN_drewN _ _ _⟩ | exact ⟨rfl, _, Eq.trans (World.drewN_drewN _ _ _) (congrArg (World.drewN _) (Nat.add_assoc _ _ _))⟩)) | (go_at_call 66; (with_reducible refine (annealref1_Class.calls k a0 a1 t444 _ A5.out).mono ?_); rintro e w' ⟨rfl, ⟨nd, rfl⟩⟩; (try first | exact ⟨rfl, _, World.drewN_drewN _ _ _⟩ | exact ⟨rfl, _, Eq.trans (World.drewN_drewN _ _ _) (congrArg (World.drewN _) (Nat.add_assoc _ _ _))⟩)) | (go_at_call 71; (with_reducible refine (annealref1_bias.calls a0 t447 _ A13.out).mono ?_); rintro e w' ⟨rfl, ⟨nd, rfl⟩⟩; (try first | exact ⟨rfl, _, World.drewN_drewN _ _ _⟩ | exact ⟨rfl, _, Eq.trans (World.drewN_drewN _ _ _) (congrArg (World.drewN _) (Nat.add_assoc _ _ _))⟩))))
    go_ret3
    exact ⟨by first | rfl | (simp; done) | (simp [*]; done) | (congr 1; (try unfold wrap64); omega) | (congr 1; rw [IntKind.wrap_u64]; omega), by repeat (first | exact Drawn0.refl _ | apply Drawn0.step)⟩
   ·rw [if_neg c12] at H
    have c12b0 : (t444 == 1) = false := beq_eq_false_iff_ne.mpr c12
    have c12b1 : (t444 != 1) = true := bne_iff_ne.mpr c12
    simp only [Option.some.injEq, Prod.mk.injEq] at H
    obtain ⟨rfl, rfl, rfl⟩ := H
    go_enter Try.func40, Try.ntmps40
    go_wp2_with (first | (go_at_call 23; (with_reducible refine (annealref1_Widths.calls a0 t439 t440 _ A3.out).mono ?_); rintro e w' ⟨rfl, ⟨nd, rfl⟩⟩; (try first | exact ⟨rfl, _, World.drewN_drewN _ _ _⟩ | exact ⟨rfl, _, Eq.trans (World.drewN_drewN _ _ _) (congrArg (World.drewN _) (Nat.add_assoc _ _ _))⟩)) | (go_at_call 67; (with_reducible refine (annealref1_parts.calls a0 a1 t441 t442 t443 _ A4.out).mono ?_); rintro e w' ⟨rfl, ⟨nd, rfl⟩⟩; (try first | exact ⟨rfl, _, World.drewN_drewN _ _ _⟩ | exact ⟨rfl, _, Eq.trans (World.drewN_drewN _ _ _) (congrArg (World.drewN _) (Nat.add_assoc _ _ _))⟩)) | (go_at_call 66; (with_reducible refine (annealref1_Class.calls k a0 a1 t444 _ A5.out).mono ?_); rintro e w' ⟨rfl, ⟨nd, rfl⟩⟩; (try first | exact ⟨rfl, _, World.drewN_drewN _ _ _⟩ | exact ⟨rfl, _, Eq.trans (World.drewN_drewN _ _ _) (congrArg (World.drewN _) (Nat.add_assoc _ _ _))⟩)))
    repeat (go_quiet (first | (go_at_call 23; (with_reducible refine (annealref1_Widths.calls a0 t439 t440 _ A3.out).mono ?_); rintro e w' ⟨rfl, ⟨nd, rfl⟩⟩; (try first | exact ⟨rfl, _, World.drewN_drewN _ _ _⟩ | exact ⟨rfl, _, Eq.trans (World.drewN_drewN _ _ _) (congrArg (World.drewN _) (Nat.add_assoc _ _ _))⟩)) | (go_at_call 67; (with_reducible refine (annealref1_parts.calls a0 a1 t441 t442 t443 _ A4.out).mono ?_); rintro e w' ⟨rfl, ⟨nd, rfl⟩⟩; (try first | exact ⟨rfl, _, World.drewN_drewN _ _ _⟩ | exact ⟨rfl, _, Eq.trans (World.drewN_drewN _ _ _) (congrArg (World.drewN _) (Nat.add_assoc _ _ _))⟩)) | (go_at_call 66; (with_reducible refine (annealref1_Class.calls k a0 a1 t444 _ A5.out).mono ?_); rintro e w' ⟨rfl, ⟨nd, rfl⟩⟩; (try first | exact ⟨rfl, _, World.drewN_drewN _ _ _⟩ | exact ⟨rfl, _, Eq.trans (World.drewN_drewN _ _ _) (congrArg (World.drewN _) (Nat.add_assoc _ _ _))⟩))); try go_wp2_with (first | (go_at_call 23; (with_reducible refine (annealref1_Widths.calls a0 t439 t440 _ A3.out).mono ?_); rintro e w' ⟨rfl, ⟨nd, rfl⟩⟩; (try first | exact ⟨rfl, _, World.drewN_drewN _ _ _⟩ | exact ⟨rfl, _, Eq.trans (World.drewN_drewN _ _ _) (congrArg (World.drewN _) (Nat.add_assoc _ _ _))⟩)) | (go_at_call 67; (with_reducible refine (annealref1_parts.calls a0 a1 t441 t442 t443 _ A4.out).mono ?_); rintro e w' ⟨rfl, ⟨nd, rfl⟩⟩; (try first | exact ⟨rfl, _, World.drewN_drewN _ _ _⟩ | exact ⟨rfl, _, Eq.trans (World.drewN_drewN _ _ _) (congrArg (World.drewN _) (Nat.add_assoc _ _ _))⟩)) | (go_at_call 66; (with_reducible refine (annealref1_Class.calls k a0 a1 t444 _ A5.out).mono ?_); rintro e w' ⟨rfl, ⟨nd, rfl⟩⟩; (try first | exact ⟨rfl, _, World.drewN_drewN _ _ _⟩ | exact ⟨rfl, _, Eq.trans (World.drewN_drewN _ _ _) (congrArg (World.drewN _) (Nat.add_assoc _ _ _))⟩))))
    go_ret3
    exact ⟨by first | rfl | (simp; done) | (simp [*]; done) | (congr 1; (try unfold wrap64); omega) | (congr 1; rw [IntKind.wrap_u64]; omega), by repeat (first | exact Drawn0.refl _ | apply Drawn0.step)⟩

end Go.Proofs.Ytejkemahdincjaa.P

/- Entries of functions. -/
namespace Go.Proofs.Ytejkemahdincjaa.L
open Go.RowKit Go.Proofs.Ytejkemahdincjaa.P Go.Proofs.Ytejkemahdincjaa.Ek Go.Proofs.YtejkemahdincjaaW.PrintWords Go.Proofs.YtejkemahdincjaaW.PrintLast Go.Proofs.YtejkemahdincjaaW.PrintMore
noncomputable def format_Zero.c : Fc := mkFc [hI .i64, hB] [hI .u32] (T := Int) (fun y => ((y, ()), ())) fun n x => format_Zero.f x.1.1 x.2.1.1
theorem format_Zero.ok : FcOk Try.prog 55 format_Zero.c := old_ok Try.func55 (by kernel_rfl) (by kernel_rfl) (by decide) (fun _ => giveR_ok (by decide) _) fun n x y h m w => (format_Zero.calls x.1.1 x.2.1.1 y w h).mono fun e w' he => ⟨he.1, he.2.below⟩
noncomputable def format_Widths.c : Fc := mkFc [hI .i64] [hI .i64, hI .i64] (T := Int × Int) (fun y => ((y.1, ()), (y.2, ()), ())) fun n x => format_Widths.f x.1.1
theorem format_Widths.ok : FcOk Try.prog 56 format_Widths.c := old_ok Try.func56 (by kernel_rfl) (by kernel_rfl) (by decide) (fun _ => giveR_ok (by decide) _) fun n x y h m w => (format_Widths.calls x.1.1 y.1 y.2 w h).mono fun e w' he => ⟨he.1, he.2.below⟩
noncomputable def round_Unit.c : Fc := mkFc [hI .i64, hI .i64, hI .u64] [hI .i64] (T := Int) (fun y => ((y, ()), ())) fun n x => round_Unit.f n x.1.1 x.2.1.1 x.2.2.1.1
theorem round_Unit.ok : FcOk Try.prog 57 round_Unit.c := old_ok Try.func57 (by kernel_rfl) (by kernel_rfl) (by decide) (fun _ => giveR_ok (by decide) _) fun n x y h m w => (round_Unit.calls n x.1.1 x.2.1.1 x.2.2.1.1 y w h).mono fun e w' he => ⟨he.1, he.2⟩
noncomputable def round_Units.c : Fc := mkFc [hI .u64, hI .i64, hB] [hI .u64, hI .i64] (T := Int × Int) (fun y => ((y.1, ()), (y.2, ()), ())) fun n x => round_Units.f n x.1.1 x.2.1.1 x.2.2.1.1
theorem round_Units.ok : FcOk Try.prog 58 round_Units.c := old_ok Try.func58 (by kernel_rfl) (by kernel_rfl) (by decide) (fun _ => giveR_ok (by decide) _) fun n x y h m w => (round_Units.calls n x.1.1 x.2.1.1 x.2.2.1.1 y.1 y.2 w h).mono fun e w' he => ⟨he.1, he.2.below⟩
noncomputable def round_Up.c : Fc := mkFc [hI .i64, hB, hI .u64, hI .i64] [hB] (T := Bool) (fun y => ((y, ()), ())) fun n x => round_Up.f x.1.1 x.2.1.1 x.2.2.1.1 x.2.2.2.1.1
theorem round_Up.ok : FcOk Try.prog 59 round_Up.c := old_ok Try.func59 (by kernel_rfl) (by kernel_rfl) (by decide) (fun _ => giveR_ok (by decide) _) fun n x y h m w => (round_Up.calls x.1.1 x.2.1.1 x.2.2.1.1 x.2.2.2.1.1 y w h).mono fun e w' he => ⟨he.1, he.2.below⟩
noncomputable def format_Least.c : Fc := mkFc [hI .i64] [hI .i64] (T := Int) (fun y => ((y, ()), ())) fun n x => format_Least.f x.1.1
theorem format_Least.ok : FcOk Try.prog 60 format_Least.c := old_ok Try.func60 (by kernel_rfl) (by kernel_rfl) (by decide) (fun _ => giveR_ok (by decide) _) fun n x y h m w => (format_Least.calls x.1.1 y w h).mono fun e w' he => ⟨he.1, he.2.below⟩
noncomputable def format_Top.c : Fc := mkFc [hI .i64] [hI .i64] (T := Int) (fun y => ((y, ()), ())) fun n x => format_Top.f x.1.1
theorem format_Top.ok : FcOk Try.prog 61 format_Top.c := old_ok Try.func61 (by kernel_rfl) (by kernel_rfl) (by decide) (fun _ => giveR_ok (by decide) _) fun n x y h m w => (format_Top.calls x.1.1 y w h).mono fun e w' he => ⟨he.1, he.2.below⟩
noncomputable def bits_Len.c : Fc := mkFc [hI .u64] [hI .i64] (T := Int) (fun y => ((y, ()), ())) fun n x => bits_Len.f n x.1.1
theorem bits_Len.ok : FcOk Try.prog 63 bits_Len.c := old_ok Try.func63 (by kernel_rfl) (by kernel_rfl) (by decide) (fun _ => giveR_ok (by decide) _) fun n x y h m w => (bits_Len.calls n x.1.1 y w h).mono fun e w' he => ⟨he.1, he.2.below⟩
noncomputable def bits_Cut.c : Fc := mkFc [hI .u64, hI .i64] [hI .u64] (T := Int) (fun y => ((y, ()), ())) fun n x => bits_Cut.f x.1.1 x.2.1.1
theorem bits_Cut.ok : FcOk Try.prog 65 bits_Cut.c := old_ok Try.func65 (by kernel_rfl) (by kernel_rfl) (by decide) (fun _ => giveR_ok (by decide) _) fun n x y h m w => (bits_Cut.calls x.1.1 x.2.1.1 y w h).mono fun e w' he => ⟨he.1, he.2.below⟩
noncomputable def format_Join.c : Fc := mkFc [hI .i64, hB, hI .i64, hI .u32] [hI .u32] (T := Int) (fun y => ((y, ()), ())) fun n x => format_Join.f x.1.1 x.2.1.1 x.2.2.1.1 x.2.2.2.1.1
theorem format_Join.ok : FcOk Try.prog 64 format_Join.c := old_ok Try.func64 (by kernel_rfl) (by kernel_rfl) (by decide) (fun _ => giveR_ok (by decide) _) fun n x y h m w => (format_Join.calls x.1.1 x.2.1.1 x.2.2.1.1 x.2.2.2.1.1 y w h).mono fun e w' he => ⟨he.1, he.2.below⟩
noncomputable def round_Pack.cls : Cls := [(55, format_Zero.c), (56, format_Widths.c), (57, round_Unit.c), (58, round_Units.c), (59, round_Up.c), (60, format_Least.c), (61, format_Top.c), (62, round_beyond.c), (63, bits_Len.c), (65, bits_Cut.c), (64, format_Join.c)]
theorem round_Pack.clsOk : ClsOk Try.prog round_Pack.cls := ClsOk.cons format_Zero.ok (ClsOk.cons format_Widths.ok (ClsOk.cons round_Unit.ok (ClsOk.cons round_Units.ok (ClsOk.cons round_Up.ok (ClsOk.cons format_Least.ok (ClsOk.cons format_Top.ok (ClsOk.cons round_beyond.ok (ClsOk.cons bits_Len.ok (ClsOk.cons bits_Cut.ok (ClsOk.cons format_Join.ok (ClsOk.nil)))))))))))
noncomputable def round_Pack.K (v : SV) : Option (Int × Bool × Bool × Bool × Bool × Bool) := (takeR [hI .u32, .agg [.b, .b, .b, .b, .b]] v).map (fun z => (z.1.1, z.2.1.1, z.2.1.2.1, z.2.1.2.2.1, z.2.1.2.2.2.1, z.2.1.2.2.2.2.1))
noncomputable def round_Pack.cuts : List Nat := [3, 9, 11, 14]
noncomputable def round_Pack.f (k : Nat) (a0 : Int) (a1 : Int) (a2 : Bool) (a3 : Int) (a4 : Int) (a5 : Bool) : Option (Int × Bool × Bool × Bool × Bool × Bool) := evF Try.prog round_Pack.cls Try.f32 round_Pack.cuts k [.one (.i .i64 (.x a0)), .one (.i .i64 (.x a1)), .one (.b (.q a2)), .one (.i .i64 (.x a3)), .one (.i .u64 (.x a4)), .one (.b (.q a5))] round_Pack.K
noncomputable def round_Pack.c : Fc := mkFc [hI .i64, hI .i64, hB, hI .i64, hI .u64, hB] [hI .u32, .agg [.b, .b, .b, .b, .b]] (T := Int × Bool × Bool × Bool × Bool × Bool) (fun y => ((y.1, ()), (y.2.1, y.2.2.1, y.2.2.2.1, y.2.2.2.2.1, y.2.2.2.2.2, ()), ())) fun n x => round_Pack.f n x.1.1 x.2.1.1 x.2.2.1.1 x.2.2.2.1.1 x.2.2.2.2.1.1 x.2.2.2.2.2.1.1
theorem round_Pack.ok : FcOk Try.prog 32 round_Pack.c := mkOk round_Pack.clsOk Try.func32 (by kernel_rfl) (by kernel_rfl) (by decide) (fun _ => rfl) (fun _ _ => rfl)
noncomputable def annealref1_nans.c : Fc := mkFcA [.s (hI .i64), .sl .u32] [hB, hB] (T := Bool × Bool) (fun y => ((y.1, ()), (y.2, ()), ())) fun n x => annealref1_nans.f n x.1.1 x.2.1
theorem annealref1_nans.ok : FcOk Try.prog 33 annealref1_nans.c := oldA_ok Try.func33 (by kernel_rfl) (by kernel_rfl) (by decide) (fun _ => giveR_ok (by decide) _) fun n x y h m w vs ha => by obtain ⟨q0, e0, ha⟩ := ha; subst e0; obtain ⟨A1, c1, q1, e1, R1, D1, ha⟩ := ha; subst e1; subst ha; exact (annealref1_nans.calls n x.1.1 A1 c1 x.2.1 y.1 y.2 w R1 D1 h).mono fun e w' he => ⟨he.1, he.2.below⟩
noncomputable def annealref1_Nan.c : Fc := mkFc [hI .i64] [hI .u32] (T := Int) (fun y => ((y, ()), ())) fun n x => annealref1_Nan.f x.1.1
theorem annealref1_Nan.ok : FcOk Try.prog 34 annealref1_Nan.c := old_ok Try.func34 (by kernel_rfl) (by kernel_rfl) (by decide) (fun _ => giveR_ok (by decide) _) fun n x y h m w => (annealref1_Nan.calls x.1.1 y w h).mono fun e w' he => ⟨he.1, he.2.below⟩
noncomputable def annealref1_neg.c : Fc := mkFc [hI .i64, hI .u32] [hB] (T := Bool) (fun y => ((y, ()), ())) fun n x => annealref1_neg.f x.1.1 x.2.1.1
theorem annealref1_neg.ok : FcOk Try.prog 36 annealref1_neg.c := old_ok Try.func36 (by kernel_rfl) (by kernel_rfl) (by decide) (fun _ => giveR_ok (by decide) _) fun n x y h m w => (annealref1_neg.calls x.1.1 x.2.1.1 y w h).mono fun e w' he => ⟨he.1, he.2.below⟩
noncomputable def annealref1_zero.c : Fc := mkFc [hI .i64, hI .u32] [hB] (T := Bool) (fun y => ((y, ()), ())) fun n x => annealref1_zero.f n x.1.1 x.2.1.1
theorem annealref1_zero.ok : FcOk Try.prog 37 annealref1_zero.c := old_ok Try.func37 (by kernel_rfl) (by kernel_rfl) (by decide) (fun _ => giveR_ok (by decide) _) fun n x y h m w => (annealref1_zero.calls n x.1.1 x.2.1.1 y w h).mono fun e w' he => ⟨he.1, he.2.below⟩
noncomputable def annealref1_inf.c : Fc := mkFc [hI .i64, hI .u32] [hB] (T := Bool) (fun y => ((y, ()), ())) fun n x => annealref1_inf.f n x.1.1 x.2.1.1
theorem annealref1_inf.ok : FcOk Try.prog 35 annealref1_inf.c := old_ok Try.func35 (by kernel_rfl) (by kernel_rfl) (by decide) (fun _ => giveR_ok (by decide) _) fun n x y h m w => (annealref1_inf.calls n x.1.1 x.2.1.1 y w h).mono fun e w' he => ⟨he.1, he.2.below⟩
noncomputable def annealref1_Inf.c : Fc := mkFc [hI .i64, hB] [hI .u32] (T := Int) (fun y => ((y, ()), ())) fun n x => annealref1_Inf.f x.1.1 x.2.1.1
theorem annealref1_Inf.ok : FcOk Try.prog 42 annealref1_Inf.c := old_ok Try.func42 (by kernel_rfl) (by kernel_rfl) (by decide) (fun _ => giveR_ok (by decide) _) fun n x y h m w => (annealref1_Inf.calls x.1.1 x.2.1.1 y w h).mono fun e w' he => ⟨he.1, he.2.below⟩
noncomputable def annealref1_Unpack.c : Fc := mkFc [hI .i64, hI .u32] [hB, hI .i64, hI .u64] (T := Bool × Int × Int) (fun y => ((y.1, ()), (y.2.1, ()), (y.2.2, ()), ())) fun n x => annealref1_Unpack.f n x.1.1 x.2.1.1
theorem annealref1_Unpack.ok : FcOk Try.prog 40 annealref1_Unpack.c := old_ok Try.func40 (by kernel_rfl) (by kernel_rfl) (by decide) (fun _ => giveR_ok (by decide) _) fun n x y h m w => (annealref1_Unpack.calls n x.1.1 x.2.1.1 y.1 y.2.1 y.2.2 w h).mono fun e w' he => ⟨he.1, he.2.below⟩
noncomputable def annealref1_Mul.cls : Cls := [(33, annealref1_nans.c), (34, annealref1_Nan.c), (36, annealref1_neg.c), (37, annealref1_zero.c), (35, annealref1_inf.c), (42, annealref1_Inf.c), (40, annealref1_Unpack.c), (43, annealref1_Pack.c)]
theorem annealref1_Mul.clsOk : ClsOk Try.prog annealref1_Mul.cls := ClsOk.cons annealref1_nans.ok (ClsOk.cons annealref1_Nan.ok (ClsOk.cons annealref1_neg.ok (ClsOk.cons annealref1_zero.ok (ClsOk.cons annealref1_inf.ok (ClsOk.cons annealref1_Inf.ok (ClsOk.cons annealref1_Unpack.ok (ClsOk.cons annealref1_Pack.ok (ClsOk.nil))))))))
noncomputable def annealref1_Mul.K (v : SV) : Option (Int × Bool × Bool × Bool × Bool × Bool) := (takeR [hI .u32, .agg [.b, .b, .b, .b, .b]] v).map (fun z => (z.1.1, z.2.1.1, z.2.1.2.1, z.2.1.2.2.1, z.2.1.2.2.2.1, z.2.1.2.2.2.2.1))
noncomputable def annealref1_Mul.cuts : List Nat := [6, 8]
noncomputable def annealref1_Mul.f (k : Nat) (a0 : Int) (a1 : Int) (a2 : Int) (a3 : Int) : Option (Int × Bool × Bool × Bool × Bool × Bool) := evF Try.prog annealref1_Mul.cls Try.f16 annealref1_Mul.cuts k [.one (.i .i64 (.x a0)), .one (.i .i64 (.x a1)), .one (.i .u32 (.x a2)), .one (.i .u32 (.x a3))] annealref1_Mul.K
noncomputable def annealref1_Mul.c : Fc := mkFc [hI .i64, hI .i64, hI .u32, hI .u32] [hI .u32, .agg [.b, .b, .b, .b, .b]] (T := Int × Bool × Bool × Bool × Bool × Bool) (fun y => ((y.1, ()), (y.2.1, y.2.2.1, y.2.2.2.1, y.2.2.2.2.1, y.2.2.2.2.2, ()), ())) fun n x => annealref1_Mul.f n x.1.1 x.2.1.1 x.2.2.1.1 x.2.2.2.1.1
theorem annealref1_Mul.ok : FcOk Try.prog 16 annealref1_Mul.c := mkOk annealref1_Mul.clsOk Try.func16 (by kernel_rfl) (by kernel_rfl) (by decide) (fun _ => rfl) (fun _ _ => rfl)
end Go.Proofs.Ytejkemahdincjaa.L

-- Printed by a program of this session's out of Lean's print of the translation; Lean checks it.
namespace Go.Proofs.Ytejkemahdincjaa.P
open Go.RowKit Go.Proofs.YtejkemahdincjaaW.PrintWords Go.Proofs.YtejkemahdincjaaW.PrintLast Go.Proofs.YtejkemahdincjaaW.PrintMore
attribute [local go_sem] max2_int min2_int max_two min_two max_three min_three max_four min_four

-- NEED 0
/-! ### format_IsZero: function 77 -/
def format_IsZero.f (k : Nat) (a0 : Int) (a1 : Int) : Option (Bool) := (format_Class.f k a0 a1).bind fun t509 => (some (t509 == 0))
theorem format_IsZero.mono : ∀ a0 a1 k, LeO (format_IsZero.f k a0 a1) (format_IsZero.f (k + 1) a0 a1) := by
 intro a0 a1 k
 unfold format_IsZero.f
 repeat' first
   |(with_reducible exact format_Class.mono _ _ _)
   |(with_reducible exact LeO.refl _)
   |(with_reducible exact LeO.none _)
   |(with_reducible refine LeO.ite ?_ ?_)
   |(with_reducible refine LeO.bind ?_ (fun _ => ?_))
   |exact format_Class.mono _ _ _
   |exact LeO.none _
   |refine LeO.ite ?_ ?_
   |refine LeO.bind ?_ (fun _ => ?_)
set_option maxHeartbeats 8000000 in
set_option maxRecDepth 100000 in
theorem format_IsZero.calls (k : Nat) (a0 : Int) (a1 : Int) (r : Bool) (w : World) (h : format_IsZero.f k a0 a1 = some r) :
  Calls Try.prog 77 #[.int .i64 a0, .int .u32 a1] w fun e w' => e = .returned (.bool r) ∧ Drawn0 w w' := by
 have H : ((format_Class.f k a0 a1).bind fun t509 => (some (t509 == 0))) = some r := h
 clear h
 replace H := Option.bind_eq_some_iff.mp H
 obtain ⟨t509, A30, H⟩ := H
 replace H : (some (t509 == 0)) = some r := H
 have A3 := Aside0.mk A30
 clear A30
 obtain rfl := Option.some.inj H
 go_enter Try.func77, Try.ntmps77
 go_wp2_with (first | ((with_reducible refine gate_callee (f := 49) rfl ?_); refine goesL_ (some 7) rfl rfl Try.func49 (by kernel_rfl) rfl #[.int .i64 a0, .int .u32 a1] rfl gl ?_; (with_reducible refine (format_Class.calls k a0 a1 t509 _ A3.out).mono ?_); rintro e w' ⟨rfl, ⟨nd, rfl⟩⟩; refine ⟨_, rfl, ?_⟩))
 go_ret
 exact ⟨by first | rfl | (simp; done) | (simp [*]; done) | (congr 1; (try unfold wrap64); omega) | (congr 1; rw [IntKind.wrap_u64]; omega), by repeat (first | exact Drawn0.refl _ | apply Drawn0.step)⟩

-- NEED 0
/-! ### prod_torn: function 45 -/
def prod_torn.f (k : Nat) (a0 : Int) (a1 : Int) (a2 : Int) : Option (Bool) := (format_IsZero.f k a0 a1).bind fun t510 => (if t510 = true then ((format_IsInf.f k a0 a2).bind fun t511 => (if t511 = true then (some true) else ((format_IsInf.f k a0 a1).bind fun t512 => (if t512 = true then ((format_IsZero.f k a0 a2).bind fun t513 => (some t513)) else (some false))))) else ((format_IsInf.f k a0 a1).bind fun t514 => (if t514 = true then ((format_IsZero.f k a0 a2).bind fun t515 => (some t515)) else (some false))))
theorem prod_torn.mono : ∀ a0 a1 a2 k, LeO (prod_torn.f k a0 a1 a2) (prod_torn.f (k + 1) a0 a1 a2) := by
 intro a0 a1 a2 k
 unfold prod_torn.f
 repeat' first
   |(with_reducible exact format_IsInf.mono _ _ _)
   |(with_reducible exact format_IsZero.mono _ _ _)
   |(with_reducible exact LeO.refl _)
   |(with_reducible exact LeO.none _)
   |(with_reducible refine LeO.ite ?_ ?_)
   |(with_reducible refine LeO.bind ?_ (fun _ => ?_))
   |exact format_IsInf.mono _ _ _
   |exact format_IsZero.mono _ _ _
   |exact LeO.none _
   |refine LeO.ite ?_ ?_
   |refine LeO.bind ?_ (fun _ => ?_)
set_option maxHeartbeats 8000000 in
set_option maxRecDepth 100000 in
theorem prod_torn.calls (k : Nat) (a0 : Int) (a1 : Int) (a2 : Int) (r : Bool) (w : World) (h : prod_torn.f k a0 a1 a2 = some r) :
  Calls Try.prog 45 #[.int .i64 a0, .int .u32 a1, .int .u32 a2] w fun e w' => e = .returned (.bool r) ∧ Drawn0 w w' := by
 have H : ((format_IsZero.f k a0 a1).bind fun t510 => (if t510 = true then ((format_IsInf.f k a0 a2).bind fun t511 => (if t511 = true then (some true) else ((format_IsInf.f k a0 a1).bind fun t512 => (if t512 = true then ((format_IsZero.f k a0 a2).bind fun t513 => (some t513)) else (some false))))) else ((format_IsInf.f k a0 a1).bind fun t514 => (if t514 = true then ((format_IsZero.f k a0 a2).bind fun t515 => (some t515)) else (some false))))) = some r := h
 clear h
 replace H := Option.bind_eq_some_iff.mp H
 obtain ⟨t510, A40, H⟩ := H
 replace H : (if t510 = true then ((format_IsInf.f k a0 a2).bind fun t511 => (if t511 = true then (some true) else ((format_IsInf.f k a0 a1).bind fun t512 => (if t512 = true then ((format_IsZero.f k a0 a2).bind fun t513 => (some t513)) else (some false))))) else ((format_IsInf.f k a0 a1).bind fun t514 => (if t514 = true then ((format_IsZero.f k a0 a2).bind fun t515 => (some t515)) else (some false)))) = some r := H
 have A4 := Aside0.mk A40
 clear A40
 by_cases c5 : t510 = true
 ·subst c5
  have H1 : ((format_IsInf.f k a0 a2).bind fun t511 => (if t511 = true then (some true) else ((format_IsInf.f k a0 a1).bind fun t512 => (if t512 = true then ((format_IsZero.f k a0 a2).bind fun t513 => (some t513)) else (some false))))) = some r := by rw [if_pos rfl] at H; exact H
  clear H
  have H := H1
  clear H1
  replace H := Option.bind_eq_some_iff.mp H
  obtain ⟨t511, A60, H⟩ := H
  replace H : (if t511 = true then (some true) else ((format_IsInf.f k a0 a1).bind fun t512 => (if t512 = true then ((format_IsZero.f k a0 a2).bind fun t513 => (some t513)) else (some false)))) = some r := H
  have A6 := Aside0.mk A60
  clear A60
  by_cases c7 : t511 = true
  ·subst c7
   have H1 : (some true) = some r := by rw [if_pos rfl] at H; exact H
   clear H
   have H := H1
   clear H1
   obtain rfl := Option.some.inj H
   go_enter Try.func45, Try.ntmps45
   go_wp2_with (first | ((with_reducible refine gate_callee (f := 77) rfl ?_); refine goesL_ (some 9) rfl rfl Try.func77 (by kernel_rfl) rfl #[.int .i64 a0, .int .u32 a1] rfl gl ?_; (with_reducible refine (format_IsZero.calls k a0 a1 true _ A4.out).mono ?_); rintro e w' ⟨rfl, ⟨nd, rfl⟩⟩; refine ⟨_, rfl, ?_⟩) | (go_at_call 26; (with_reducible refine (format_IsInf.calls k a0 a2 true _ A6.out).mono ?_); rintro e w' ⟨rfl, ⟨nd, rfl⟩⟩))
   go_ret
   exact ⟨by first | rfl | (simp; done) | (simp [*]; done) | (congr 1; (try unfold wrap64); omega) | (congr 1; rw [IntKind.wrap_u64]; omega), by repeat (first | exact Drawn0.refl _ | apply Drawn0.step)⟩
  ·replace c7 := Bool.eq_false_iff.mpr c7
   subst c7
   have H1 : ((format_IsInf.f k a0 a1).bind fun t512 => (if t512 = true then ((format_IsZero.f k a0 a2).bind fun t513 => (some t513)) else (some false))) = some r := by rw [if_neg (show ¬ (false = true) by decide)] at H; exact H
   clear H
   have H := H1
   clear H1
   replace H := Option.bind_eq_some_iff.mp H
   obtain ⟨t512, A80, H⟩ := H
   replace H : (if t512 = true then ((format_IsZero.f k a0 a2).bind fun t513 => (some t513)) else (some false)) = some r := H
   have A8 := Aside0.mk A80
   clear A80
   by_cases c9 : t512 = true
   ·subst c9
    have H1 : ((format_IsZero.f k a0 a2).bind fun t513 => (some t513)) = some r := by rw [if_pos rfl] at H; exact H
    clear H
    have H := H1
    clear H1
    replace H := Option.bind_eq_some_iff.mp H
    obtain ⟨t513, A100, H⟩ := H
    replace H : (some t513) = some r := H
    have A10 := Aside0.mk A100
    clear A100
    obtain rfl := Option.some.inj H
    go_enter Try.func45, Try.ntmps45
    go_wp2_with (first | ((with_reducible refine gate_callee (f := 77) rfl ?_); refine goesL_ (some 9) rfl rfl Try.func77 (by kernel_rfl) rfl #[.int .i64 a0, .int .u32 a1] rfl gl ?_; (with_reducible refine (format_IsZero.calls k a0 a1 true _ A4.out).mono ?_); rintro e w' ⟨rfl, ⟨nd, rfl⟩⟩; refine ⟨_, rfl, ?_⟩) | (go_at_call 26; (with_reducible refine (format_IsInf.calls k a0 a2 false _ A6.out).mono ?_); rintro e w' ⟨rfl, ⟨nd, rfl⟩⟩) | (go_at_call 26; (with_reducible refine (format_IsInf.calls k a0 a1 true _ A8.out).mono ?_); rintro e w' ⟨rfl, ⟨nd, rfl⟩⟩) | (go_at_call 77; (with_reducible refine (format_IsZero.calls k a0 a2 t513 _ A10.out).mono ?_); rintro e w' ⟨rfl, ⟨nd, rfl⟩⟩))
    go_ret
    exact ⟨by first | rfl | (simp; done) | (simp [*]; done) | (congr 1; (try unfold wrap64); omega) | (congr 1; rw [IntKind.wrap_u64]; omega), by repeat (first | exact Drawn0.refl _ | apply Drawn0.step)⟩
   ·replace c9 := Bool.eq_false_iff.mpr c9
    subst c9
    have H1 : (some false) = some r := by rw [if_neg (show ¬ (false = true) by decide)] at H; exact H
    clear H
    have H := H1
    clear H1
    obtain rfl := Option.some.inj H
    go_enter Try.func45, Try.ntmps45
    go_wp2_with (first | ((with_reducible refine gate_callee (f := 77) rfl ?_); refine goesL_ (some 9) rfl rfl Try.func77 (by kernel_rfl) rfl #[.int .i64 a0, .int .u32 a1] rfl gl ?_; (with_reducible refine (format_IsZero.calls k a0 a1 true _ A4.out).mono ?_); rintro e w' ⟨rfl, ⟨nd, rfl⟩⟩; refine ⟨_, rfl, ?_⟩) | (go_at_call 26; (with_reducible refine (format_IsInf.calls k a0 a2 false _ A6.out).mono ?_); rintro e w' ⟨rfl, ⟨nd, rfl⟩⟩) | (go_at_call 26; (with_reducible refine (format_IsInf.calls k a0 a1 false _ A8.out).mono ?_); rintro e w' ⟨rfl, ⟨nd, rfl⟩⟩))
    go_ret
    exact ⟨by first | rfl | (simp; done) | (simp [*]; done) | (congr 1; (try unfold wrap64); omega) | (congr 1; rw [IntKind.wrap_u64]; omega), by repeat (first | exact Drawn0.refl _ | apply Drawn0.step)⟩
 ·replace c5 := Bool.eq_false_iff.mpr c5
  subst c5
  have H1 : ((format_IsInf.f k a0 a1).bind fun t514 => (if t514 = true then ((format_IsZero.f k a0 a2).bind fun t515 => (some t515)) else (some false))) = some r := by rw [if_neg (show ¬ (false = true) by decide)] at H; exact H
  clear H
  have H := H1
  clear H1
  replace H := Option.bind_eq_some_iff.mp H
  obtain ⟨t514, A110, H⟩ := H
  replace H : (if t514 = true then ((format_IsZero.f k a0 a2).bind fun t515 => (some t515)) else (some false)) = some r := H
  have A11 := Aside0.mk A110
  clear A110
  by_cases c12 : t514 = true
  ·subst c12
   have H1 : ((format_IsZero.f k a0 a2).bind fun t515 => (some t515)) = some r := by rw [if_pos rfl] at H; exact H
   clear H
   have H := H1
   clear H1
   replace H := Option.bind_eq_some_iff.mp H
   obtain ⟨t515, A130, H⟩ := H
   replace H : (some t515) = some r := H
   have A13 := Aside0.mk A130
   clear A130
   obtain rfl := Option.some.inj H
   go_enter Try.func45, Try.ntmps45
   go_wp2_with (first | ((with_reducible refine gate_callee (f := 77) rfl ?_); refine goesL_ (some 9) rfl rfl Try.func77 (by kernel_rfl) rfl #[.int .i64 a0, .int .u32 a1] rfl gl ?_; (with_reducible refine (format_IsZero.calls k a0 a1 false _ A4.out).mono ?_); rintro e w' ⟨rfl, ⟨nd, rfl⟩⟩; refine ⟨_, rfl, ?_⟩) | (go_at_call 26; (with_reducible refine (format_IsInf.calls k a0 a1 true _ A11.out).mono ?_); rintro e w' ⟨rfl, ⟨nd, rfl⟩⟩) | (go_at_call 77; (with_reducible refine (format_IsZero.calls k a0 a2 t515 _ A13.out).mono ?_); rintro e w' ⟨rfl, ⟨nd, rfl⟩⟩))
   go_ret
   exact ⟨by first | rfl | (simp; done) | (simp [*]; done) | (congr 1; (try unfold wrap64); omega) | (congr 1; rw [IntKind.wrap_u64]; omega), by repeat (first | exact Drawn0.refl _ | apply Drawn0.step)⟩
  ·replace c12 := Bool.eq_false_iff.mpr c12
   subst c12
   have H1 : (some false) = some r := by rw [if_neg (show ¬ (false = true) by decide)] at H; exact H
   clear H
   have H := H1
   clear H1
   obtain rfl := Option.some.inj H
   go_enter Try.func45, Try.ntmps45
   go_wp2_with (first | ((with_reducible refine gate_callee (f := 77) rfl ?_); refine goesL_ (some 9) rfl rfl Try.func77 (by kernel_rfl) rfl #[.int .i64 a0, .int .u32 a1] rfl gl ?_; (with_reducible refine (format_IsZero.calls k a0 a1 false _ A4.out).mono ?_); rintro e w' ⟨rfl, ⟨nd, rfl⟩⟩; refine ⟨_, rfl, ?_⟩) | (go_at_call 26; (with_reducible refine (format_IsInf.calls k a0 a1 false _ A11.out).mono ?_); rintro e w' ⟨rfl, ⟨nd, rfl⟩⟩))
   go_ret
   exact ⟨by first | rfl | (simp; done) | (simp [*]; done) | (congr 1; (try unfold wrap64); omega) | (congr 1; rw [IntKind.wrap_u64]; omega), by repeat (first | exact Drawn0.refl _ | apply Drawn0.step)⟩

-- NEED 0
/-! ### prod_product: function 47 -/
def prod_product.f (a0 : Int) (a1 : Int) (a2 : Int) : Option (Bool × Int × Int × Bool) := (sum_Of.f a0 a1).bind fun bt517 => ((sum_Of.f a0 a2).bind fun bt521 => (some ((bt517.1 != bt521.1), wrap64 (bt517.2.1 + bt521.2.1), IntKind.u64.wrap (bt517.2.2.1 * bt521.2.2.1), false)))
set_option maxHeartbeats 8000000 in
set_option maxRecDepth 100000 in
theorem prod_product.calls (a0 : Int) (a1 : Int) (a2 : Int) (r1 : Bool) (r2 : Int) (r3 : Int) (r4 : Bool) (w : World) (h : prod_product.f a0 a1 a2 = some (r1, r2, r3, r4)) :
  Calls Try.prog 47 #[.int .i64 a0, .int .u32 a1, .int .u32 a2] w fun e w' => e = .returned (.agg #[.bool r1, .int .i64 r2, .int .u64 r3, .bool r4]) ∧ Below w.heap.size w w' := by
 have hu52 := Try.underlying52
 have HB := Aside0.mk (Below.refl w.heap.size w)
 have H : ((sum_Of.f a0 a1).bind fun bt517 => ((sum_Of.f a0 a2).bind fun bt521 => (some ((bt517.1 != bt521.1), wrap64 (bt517.2.1 + bt521.2.1), IntKind.u64.wrap (bt517.2.2.1 * bt521.2.2.1), false)))) = some (r1, r2, r3, r4) := h
 clear h
 replace H := Option.bind_eq_some_iff.mp H
 obtain ⟨⟨t517, t518, t519, t520⟩, A40, H⟩ := H
 replace H : ((sum_Of.f a0 a2).bind fun bt521 => (some ((t517 != bt521.1), wrap64 (t518 + bt521.2.1), IntKind.u64.wrap (t519 * bt521.2.2.1), false))) = some (r1, r2, r3, r4) := H
 have A4 := Aside0.mk A40
 clear A40
 replace H := Option.bind_eq_some_iff.mp H
 obtain ⟨⟨t521, t522, t523, t524⟩, A50, H⟩ := H
 replace H : (some ((t517 != t521), wrap64 (t518 + t522), IntKind.u64.wrap (t519 * t523), false)) = some (r1, r2, r3, r4) := H
 have A5 := Aside0.mk A50
 clear A50
 simp only [Option.some.injEq, Prod.mk.injEq] at H
 obtain ⟨rfl, rfl, rfl, rfl⟩ := H
 go_enter Try.func47, Try.ntmps47
 go_wp2_with (first | ((with_reducible refine gate_dst (N := 6) rfl ?_); refine box_event ?hg (N := 6) ?hd (cs := #[.bool false, .int .i64 0, .int .u64 0, .bool false]) (t := 52) ?hr ?_; (case hd => rfl); (case hg => rfl); (case hr => first | (go_simp; done) | (go_simp; rfl)); intro gb516 hg w6 hbox hb; have n0_ := Aside0.mk (below_step (bl0 HB.out) hb); have n1_ := Aside0.mk (hbox); have n2_ := Aside0.mk ((by rw [hg]; exact (below_size (bl0 HB.out)) : w.heap.size ≤ gb516)); have n3_ := n2_; clear HB; have HB := n0_; have BK516 := n1_; have GW516 := n2_; have GE516 := n3_; clear n0_ n1_ n2_ n3_; clear hb hbox hg) | ((with_reducible refine gate_callee (f := 29) rfl ?_); refine goesL_ (some 11) rfl rfl Try.func29 (by kernel_rfl) rfl #[.int .i64 a0, .int .u32 a1] rfl gl ?_; (with_reducible refine (sum_Of.calls a0 a1 t517 t518 t519 t520 _ A4.out).mono ?_); rintro e w7 ⟨rfl, hb⟩; refine ⟨_, rfl, ?_⟩; have n0_ := Aside0.mk (blk_below (g := gb516) (o := .cells #[.bool false, .int .i64 0, .int .u64 0, .bool false] 52 (0, 0)) (bv BK516.out) hb); have n1_ := Aside0.mk (below_step (bl1 HB.out GE516.out) hb); clear BK516; clear HB; have BK516 := n0_; have HB := n1_; clear n0_ n1_) | ((with_reducible refine gate_callee (f := 29) rfl ?_); refine goesL_ (some 14) rfl rfl Try.func29 (by kernel_rfl) rfl #[.int .i64 a0, .int .u32 a2] rfl gl ?_; (with_reducible refine (sum_Of.calls a0 a2 t521 t522 t523 t524 _ A5.out).mono ?_); rintro e w8 ⟨rfl, hb⟩; refine ⟨_, rfl, ?_⟩; have n0_ := Aside0.mk (blk_below (g := gb516) (o := .cells #[.bool false, .int .i64 0, .int .u64 0, .bool false] 52 (0, 0)) (bv BK516.out) hb); have n1_ := Aside0.mk (below_step (bl1 HB.out GE516.out) hb); clear BK516; clear HB; have BK516 := n0_; have HB := n1_; clear n0_ n1_) | ((with_reducible refine gate_dst (N := 7) rfl ?_); refine box_event ?hg (N := 7) ?hd (cs := #[.bool false, .int .i64 0, .int .u64 0, .bool false]) (t := 52) ?hr ?_; (case hd => rfl); (case hg => rfl); (case hr => first | (go_simp; done) | (go_simp; rfl)); intro gb525 hg w9 hbox hb; have n0_ := Aside0.mk (blk_below (g := gb516) (o := .cells #[.bool false, .int .i64 0, .int .u64 0, .bool false] 52 (0, 0)) (bv BK516.out) hb); have n1_ := Aside0.mk (below_step (bl1 HB.out GE516.out) hb); have n2_ := Aside0.mk (hbox); have n3_ := Aside0.mk ((by rw [hg]; exact (below_size (bl1 HB.out GE516.out)) : w.heap.size ≤ gb525)); have n4_ := n3_; have n5_ := Aside0.mk ((by rw [hg]; exact Nat.ne_of_lt (blk_lt (g := gb516) (o := .cells #[.bool false, .int .i64 0, .int .u64 0, .bool false] 52 (0, 0)) (bv BK516.out)) : gb516 ≠ gb525)); have n6_ := Aside0.mk (Ne.symm n5_.out); clear BK516; clear HB; have BK516 := n0_; have HB := n1_; have BK525 := n2_; have GW525 := n3_; have GE525 := n4_; have NB516_525 := n5_; have NB525_516 := n6_; clear n0_ n1_ n2_ n3_ n4_ n5_ n6_; clear hb hbox hg) | ((with_reducible refine gate_dst (N := 8) rfl ?_); refine box_event ?hg (N := 8) ?hd (cs := #[.bool false, .int .i64 0, .int .u64 0, .bool false]) (t := 52) ?hr ?_; (case hd => rfl); (case hg => rfl); (case hr => first | (go_simp; done) | (go_simp; rfl)); intro gb526 hg w10 hbox hb; have n0_ := Aside0.mk (blk_below (g := gb516) (o := .cells #[.bool false, .int .i64 0, .int .u64 0, .bool false] 52 (0, 0)) (bv BK516.out) hb); have n1_ := Aside0.mk (blk_below (g := gb525) (o := .cells #[.bool false, .int .i64 0, .int .u64 0, .bool false] 52 (0, 0)) (bv BK525.out) hb); have n2_ := Aside0.mk (below_step (bl2 HB.out GE516.out GE525.out) hb); have n3_ := Aside0.mk (hbox); have n4_ := Aside0.mk ((by rw [hg]; exact (below_size (bl2 HB.out GE516.out GE525.out)) : w.heap.size ≤ gb526)); have n5_ := n4_; have n6_ := Aside0.mk ((by rw [hg]; exact Nat.ne_of_lt (blk_lt (g := gb516) (o := .cells #[.bool false, .int .i64 0, .int .u64 0, .bool false] 52 (0, 0)) (bv BK516.out)) : gb516 ≠ gb526)); have n7_ := Aside0.mk (Ne.symm n6_.out); have n8_ := Aside0.mk ((by rw [hg]; exact Nat.ne_of_lt (blk_lt (g := gb525) (o := .cells #[.bool false, .int .i64 0, .int .u64 0, .bool false] 52 (0, 0)) (bv BK525.out)) : gb525 ≠ gb526)); have n9_ := Aside0.mk (Ne.symm n8_.out); clear BK516; clear BK525; clear HB; have BK516 := n0_; have BK525 := n1_; have HB := n2_; have BK526 := n3_; have GW526 := n4_; have GE526 := n5_; have NB516_526 := n6_; have NB526_516 := n7_; have NB525_526 := n8_; have NB526_525 := n9_; clear n0_ n1_ n2_ n3_ n4_ n5_ n6_ n7_ n8_ n9_; clear hb hbox hg; have hnb11 := NB525_516.out; have hnc11 := NB516_525.out; have hnb12 := NB525_526.out; have hnc12 := NB526_525.out; obtain ⟨hcz13_0, hcz13_1, hcz13_2, hcz13_3⟩ := bc4 BK525.out; obtain ⟨hfz13_0, hfz13_1, hfz13_2, hfz13_3⟩ := bf4 BK525.out; have hnb14 := NB526_516.out; have hnc14 := NB516_526.out; obtain ⟨hcz15_0, hcz15_1, hcz15_2, hcz15_3⟩ := bc4 BK526.out; obtain ⟨hfz15_0, hfz15_1, hfz15_2, hfz15_3⟩ := bf4 BK526.out; obtain ⟨hcz16_0, hcz16_1, hcz16_2, hcz16_3⟩ := bc4 BK516.out; obtain ⟨hfz16_0, hfz16_1, hfz16_2, hfz16_3⟩ := bf4 BK516.out))
 refine bodyPost_ret (results_cell_row rfl _ _ gb516 52 #[.bool (t517 != t521), .int .i64 (wrap64 (t518 + t522)), .int .u64 (IntKind.u64.wrap (t519 * t523)), .bool false] (0, 0) _ rfl (by (with_reducible repeat first | apply bd | apply be | apply ba); refine blk_put (cs := #[.bool (t517 != t521), .int .i64 (wrap64 (t518 + t522)), .int .u64 (IntKind.u64.wrap (t519 * t523)), .bool false]) ?_ 3 _ rfl; (with_reducible repeat first | apply bd | apply be | apply ba); refine blk_put (cs := #[.bool (t517 != t521), .int .i64 (wrap64 (t518 + t522)), .int .u64 0, .bool false]) ?_ 2 _ rfl; (with_reducible repeat first | apply bd | apply be | apply ba); refine blk_put (cs := #[.bool (t517 != t521), .int .i64 0, .int .u64 0, .bool false]) ?_ 1 _ rfl; (with_reducible repeat first | apply bd | apply be | apply ba); refine blk_put (cs := #[.bool false, .int .i64 0, .int .u64 0, .bool false]) ?_ 0 _ rfl; (with_reducible repeat first | apply bd | apply be | apply ba); refine blk_far ?_ NB516_526.out _; (with_reducible repeat first | apply bd | apply be | apply ba); refine blk_far ?_ NB516_526.out _; (with_reducible repeat first | apply bd | apply be | apply ba); refine blk_far ?_ NB516_526.out _; (with_reducible repeat first | apply bd | apply be | apply ba); refine blk_far ?_ NB516_526.out _; (with_reducible repeat first | apply bd | apply be | apply ba); refine blk_far ?_ NB516_525.out _; (with_reducible repeat first | apply bd | apply be | apply ba); refine blk_far ?_ NB516_525.out _; (with_reducible repeat first | apply bd | apply be | apply ba); refine blk_far ?_ NB516_525.out _; (with_reducible repeat first | apply bd | apply be | apply ba); refine blk_far ?_ NB516_525.out _; (with_reducible repeat first | apply bd | apply be | apply ba); exact BK516.out) Try.underlying52 rfl (by kernel_rfl)) rfl ?_
 exact ⟨by first | rfl | (simp [errW_none, errW_some] <;> rfl) | (simp [*, errW_none, errW_some] <;> rfl), bl3 HB.out GE516.out GE525.out GE526.out⟩

end Go.Proofs.Ytejkemahdincjaa.P

/- Entries of functions. -/
namespace Go.Proofs.Ytejkemahdincjaa.L
open Go.RowKit Go.Proofs.Ytejkemahdincjaa.P Go.Proofs.Ytejkemahdincjaa.Ek Go.Proofs.YtejkemahdincjaaW.PrintWords Go.Proofs.YtejkemahdincjaaW.PrintLast Go.Proofs.YtejkemahdincjaaW.PrintMore
noncomputable def sum_Nans.c : Fc := mkFcA [.s (hI .i64), .sl .u32] [hI .u32, .agg [.b, .b, .b, .b, .b], hB] (T := Int × Bool × Bool × Bool × Bool × Bool × Bool) (fun y => ((y.1, ()), (y.2.1, y.2.2.1, y.2.2.2.1, y.2.2.2.2.1, y.2.2.2.2.2.1, ()), (y.2.2.2.2.2.2, ()), ())) fun n x => sum_Nans.f n x.1.1 x.2.1
theorem sum_Nans.ok : FcOk Try.prog 25 sum_Nans.c := oldA_ok Try.func25 (by kernel_rfl) (by kernel_rfl) (by decide) (fun _ => giveR_ok (by decide) _) fun n x y h m w vs ha => by obtain ⟨q0, e0, ha⟩ := ha; subst e0; obtain ⟨A1, c1, q1, e1, R1, D1, ha⟩ := ha; subst e1; subst ha; exact (sum_Nans.calls n x.1.1 A1 c1 x.2.1 y.1 y.2.1 y.2.2.1 y.2.2.2.1 y.2.2.2.2.1 y.2.2.2.2.2.1 y.2.2.2.2.2.2 w R1 D1 h).mono fun e w' he => ⟨he.1, he.2⟩
noncomputable def format_IsInf.c : Fc := mkFc [hI .i64, hI .u32] [hB] (T := Bool) (fun y => ((y, ()), ())) fun n x => format_IsInf.f n x.1.1 x.2.1.1
theorem format_IsInf.ok : FcOk Try.prog 26 format_IsInf.c := old_ok Try.func26 (by kernel_rfl) (by kernel_rfl) (by decide) (fun _ => giveR_ok (by decide) _) fun n x y h m w => (format_IsInf.calls n x.1.1 x.2.1.1 y w h).mono fun e w' he => ⟨he.1, he.2.below⟩
noncomputable def format_Neg.c : Fc := mkFc [hI .i64, hI .u32] [hB] (T := Bool) (fun y => ((y, ()), ())) fun n x => format_Neg.f x.1.1 x.2.1.1
theorem format_Neg.ok : FcOk Try.prog 28 format_Neg.c := old_ok Try.func28 (by kernel_rfl) (by kernel_rfl) (by decide) (fun _ => giveR_ok (by decide) _) fun n x y h m w => (format_Neg.calls x.1.1 x.2.1.1 y w h).mono fun e w' he => ⟨he.1, he.2.below⟩
noncomputable def sum_Infinite.c : Fc := mkFc [hI .i64, hB, hB, hB, hB] [hI .u32, .agg [.b, .b, .b, .b, .b]] (T := Int × Bool × Bool × Bool × Bool × Bool) (fun y => ((y.1, ()), (y.2.1, y.2.2.1, y.2.2.2.1, y.2.2.2.2.1, y.2.2.2.2.2, ()), ())) fun n x => sum_Infinite.f n x.1.1 x.2.1.1 x.2.2.1.1 x.2.2.2.1.1 x.2.2.2.2.1.1
theorem sum_Infinite.ok : FcOk Try.prog 27 sum_Infinite.c := old_ok Try.func27 (by kernel_rfl) (by kernel_rfl) (by decide) (fun _ => giveR_ok (by decide) _) fun n x y h m w => (sum_Infinite.calls n x.1.1 x.2.1.1 x.2.2.1.1 x.2.2.2.1.1 x.2.2.2.2.1.1 y.1 y.2.1 y.2.2.1 y.2.2.2.1 y.2.2.2.2.1 y.2.2.2.2.2 w h).mono fun e w' he => ⟨he.1, he.2⟩
noncomputable def sum_Of.c : Fc := mkFc [hI .i64, hI .u32] [.agg [.b, .i .i64, .i .u64, .b]] (T := Bool × Int × Int × Bool) (fun y => ((y.1, y.2.1, y.2.2.1, y.2.2.2, ()), ())) fun n x => sum_Of.f x.1.1 x.2.1.1
theorem sum_Of.ok : FcOk Try.prog 29 sum_Of.c := old_ok Try.func29 (by kernel_rfl) (by kernel_rfl) (by decide) (fun _ => giveR_ok (by decide) _) fun n x y h m w => (sum_Of.calls x.1.1 x.2.1.1 y.1 y.2.1 y.2.2.1 y.2.2.2 w h).mono fun e w' he => ⟨he.1, he.2⟩
noncomputable def sum_Nought.c : Fc := mkFc [hI .i64, hI .i64, hB, hB] [hI .u32] (T := Int) (fun y => ((y, ()), ())) fun n x => sum_Nought.f x.1.1 x.2.1.1 x.2.2.1.1 x.2.2.2.1.1
theorem sum_Nought.ok : FcOk Try.prog 31 sum_Nought.c := old_ok Try.func31 (by kernel_rfl) (by kernel_rfl) (by decide) (fun _ => giveR_ok (by decide) _) fun n x y h m w => (sum_Nought.calls x.1.1 x.2.1.1 x.2.2.1.1 x.2.2.2.1.1 y w h).mono fun e w' he => ⟨he.1, he.2.below⟩
noncomputable def sum_Add.cls : Cls := [(25, sum_Nans.c), (26, format_IsInf.c), (28, format_Neg.c), (27, sum_Infinite.c), (29, sum_Of.c), (30, sum_Exact.c), (31, sum_Nought.c), (32, round_Pack.c)]
theorem sum_Add.clsOk : ClsOk Try.prog sum_Add.cls := ClsOk.cons sum_Nans.ok (ClsOk.cons format_IsInf.ok (ClsOk.cons format_Neg.ok (ClsOk.cons sum_Infinite.ok (ClsOk.cons sum_Of.ok (ClsOk.cons sum_Exact.ok (ClsOk.cons sum_Nought.ok (ClsOk.cons round_Pack.ok (ClsOk.nil))))))))
noncomputable def sum_Add.K (v : SV) : Option (Int × Bool × Bool × Bool × Bool × Bool) := (takeR [hI .u32, .agg [.b, .b, .b, .b, .b]] v).map (fun z => (z.1.1, z.2.1.1, z.2.1.2.1, z.2.1.2.2.1, z.2.1.2.2.2.1, z.2.1.2.2.2.2.1))
noncomputable def sum_Add.cuts : List Nat := [6, 10]
noncomputable def sum_Add.f (k : Nat) (a0 : Int) (a1 : Int) (a2 : Int) (a3 : Int) : Option (Int × Bool × Bool × Bool × Bool × Bool) := evF Try.prog sum_Add.cls Try.f10 sum_Add.cuts k [.one (.i .i64 (.x a0)), .one (.i .i64 (.x a1)), .one (.i .u32 (.x a2)), .one (.i .u32 (.x a3))] sum_Add.K
noncomputable def sum_Add.c : Fc := mkFc [hI .i64, hI .i64, hI .u32, hI .u32] [hI .u32, .agg [.b, .b, .b, .b, .b]] (T := Int × Bool × Bool × Bool × Bool × Bool) (fun y => ((y.1, ()), (y.2.1, y.2.2.1, y.2.2.2.1, y.2.2.2.2.1, y.2.2.2.2.2, ()), ())) fun n x => sum_Add.f n x.1.1 x.2.1.1 x.2.2.1.1 x.2.2.2.1.1
theorem sum_Add.ok : FcOk Try.prog 10 sum_Add.c := mkOk sum_Add.clsOk Try.func10 (by kernel_rfl) (by kernel_rfl) (by decide) (fun _ => rfl) (fun _ _ => rfl)
noncomputable def prod_torn.c : Fc := mkFc [hI .i64, hI .u32, hI .u32] [hB] (T := Bool) (fun y => ((y, ()), ())) fun n x => prod_torn.f n x.1.1 x.2.1.1 x.2.2.1.1
theorem prod_torn.ok : FcOk Try.prog 45 prod_torn.c := old_ok Try.func45 (by kernel_rfl) (by kernel_rfl) (by decide) (fun _ => giveR_ok (by decide) _) fun n x y h m w => (prod_torn.calls n x.1.1 x.2.1.1 x.2.2.1.1 y w h).mono fun e w' he => ⟨he.1, he.2.below⟩
noncomputable def sum_Bad.c : Fc := mkFc [hI .i64] [hI .u32, .agg [.b, .b, .b, .b, .b]] (T := Int × Bool × Bool × Bool × Bool × Bool) (fun y => ((y.1, ()), (y.2.1, y.2.2.1, y.2.2.2.1, y.2.2.2.2.1, y.2.2.2.2.2, ()), ())) fun n x => sum_Bad.f x.1.1
theorem sum_Bad.ok : FcOk Try.prog 46 sum_Bad.c := old_ok Try.func46 (by kernel_rfl) (by kernel_rfl) (by decide) (fun _ => giveR_ok (by decide) _) fun n x y h m w => (sum_Bad.calls x.1.1 y.1 y.2.1 y.2.2.1 y.2.2.2.1 y.2.2.2.2.1 y.2.2.2.2.2 w h).mono fun e w' he => ⟨he.1, he.2⟩
noncomputable def prod_product.c : Fc := mkFc [hI .i64, hI .u32, hI .u32] [.agg [.b, .i .i64, .i .u64, .b]] (T := Bool × Int × Int × Bool) (fun y => ((y.1, y.2.1, y.2.2.1, y.2.2.2, ()), ())) fun n x => prod_product.f x.1.1 x.2.1.1 x.2.2.1.1
theorem prod_product.ok : FcOk Try.prog 47 prod_product.c := old_ok Try.func47 (by kernel_rfl) (by kernel_rfl) (by decide) (fun _ => giveR_ok (by decide) _) fun n x y h m w => (prod_product.calls x.1.1 x.2.1.1 x.2.2.1.1 y.1 y.2.1 y.2.2.1 y.2.2.2 w h).mono fun e w' he => ⟨he.1, he.2⟩
noncomputable def prod_Fma.cls : Cls := [(45, prod_torn.c), (25, sum_Nans.c), (46, sum_Bad.c), (28, format_Neg.c), (26, format_IsInf.c), (27, sum_Infinite.c), (47, prod_product.c), (29, sum_Of.c), (30, sum_Exact.c), (31, sum_Nought.c), (32, round_Pack.c)]
theorem prod_Fma.clsOk : ClsOk Try.prog prod_Fma.cls := ClsOk.cons prod_torn.ok (ClsOk.cons sum_Nans.ok (ClsOk.cons sum_Bad.ok (ClsOk.cons format_Neg.ok (ClsOk.cons format_IsInf.ok (ClsOk.cons sum_Infinite.ok (ClsOk.cons prod_product.ok (ClsOk.cons sum_Of.ok (ClsOk.cons sum_Exact.ok (ClsOk.cons sum_Nought.ok (ClsOk.cons round_Pack.ok (ClsOk.nil)))))))))))
noncomputable def prod_Fma.K (v : SV) : Option (Int × Bool × Bool × Bool × Bool × Bool) := (takeR [hI .u32, .agg [.b, .b, .b, .b, .b]] v).map (fun z => (z.1.1, z.2.1.1, z.2.1.2.1, z.2.1.2.2.1, z.2.1.2.2.2.1, z.2.1.2.2.2.2.1))
noncomputable def prod_Fma.cuts : List Nat := [10, 11, 15]
noncomputable def prod_Fma.f (k : Nat) (a0 : Int) (a1 : Int) (a2 : Int) (a3 : Int) (a4 : Int) : Option (Int × Bool × Bool × Bool × Bool × Bool) := evF Try.prog prod_Fma.cls Try.f18 prod_Fma.cuts k [.one (.i .i64 (.x a0)), .one (.i .i64 (.x a1)), .one (.i .u32 (.x a2)), .one (.i .u32 (.x a3)), .one (.i .u32 (.x a4))] prod_Fma.K
noncomputable def prod_Fma.c : Fc := mkFc [hI .i64, hI .i64, hI .u32, hI .u32, hI .u32] [hI .u32, .agg [.b, .b, .b, .b, .b]] (T := Int × Bool × Bool × Bool × Bool × Bool) (fun y => ((y.1, ()), (y.2.1, y.2.2.1, y.2.2.2.1, y.2.2.2.2.1, y.2.2.2.2.2, ()), ())) fun n x => prod_Fma.f n x.1.1 x.2.1.1 x.2.2.1.1 x.2.2.2.1.1 x.2.2.2.2.1.1
theorem prod_Fma.ok : FcOk Try.prog 18 prod_Fma.c := mkOk prod_Fma.clsOk Try.func18 (by kernel_rfl) (by kernel_rfl) (by decide) (fun _ => rfl) (fun _ _ => rfl)
noncomputable def prod_Mul.cls : Cls := [(25, sum_Nans.c), (45, prod_torn.c), (46, sum_Bad.c), (28, format_Neg.c), (26, format_IsInf.c), (48, format_Inf.c), (47, prod_product.c), (32, round_Pack.c)]
theorem prod_Mul.clsOk : ClsOk Try.prog prod_Mul.cls := ClsOk.cons sum_Nans.ok (ClsOk.cons prod_torn.ok (ClsOk.cons sum_Bad.ok (ClsOk.cons format_Neg.ok (ClsOk.cons format_IsInf.ok (ClsOk.cons format_Inf.ok (ClsOk.cons prod_product.ok (ClsOk.cons round_Pack.ok (ClsOk.nil))))))))
noncomputable def prod_Mul.K (v : SV) : Option (Int × Bool × Bool × Bool × Bool × Bool) := (takeR [hI .u32, .agg [.b, .b, .b, .b, .b]] v).map (fun z => (z.1.1, z.2.1.1, z.2.1.2.1, z.2.1.2.2.1, z.2.1.2.2.2.1, z.2.1.2.2.2.2.1))
noncomputable def prod_Mul.cuts : List Nat := [8]
noncomputable def prod_Mul.f (k : Nat) (a0 : Int) (a1 : Int) (a2 : Int) (a3 : Int) : Option (Int × Bool × Bool × Bool × Bool × Bool) := evF Try.prog prod_Mul.cls Try.f21 prod_Mul.cuts k [.one (.i .i64 (.x a0)), .one (.i .i64 (.x a1)), .one (.i .u32 (.x a2)), .one (.i .u32 (.x a3))] prod_Mul.K
noncomputable def prod_Mul.c : Fc := mkFc [hI .i64, hI .i64, hI .u32, hI .u32] [hI .u32, .agg [.b, .b, .b, .b, .b]] (T := Int × Bool × Bool × Bool × Bool × Bool) (fun y => ((y.1, ()), (y.2.1, y.2.2.1, y.2.2.2.1, y.2.2.2.2.1, y.2.2.2.2.2, ()), ())) fun n x => prod_Mul.f n x.1.1 x.2.1.1 x.2.2.1.1 x.2.2.2.1.1
theorem prod_Mul.ok : FcOk Try.prog 21 prod_Mul.c := mkOk prod_Mul.clsOk Try.func21 (by kernel_rfl) (by kernel_rfl) (by decide) (fun _ => rfl) (fun _ _ => rfl)
end Go.Proofs.Ytejkemahdincjaa.L

-- Printed by a program of this session's out of Lean's print of the translation; Lean checks it.
namespace Go.Proofs.Ytejkemahdincjaa.P
open Go.RowKit Go.Proofs.YtejkemahdincjaaW.PrintWords Go.Proofs.YtejkemahdincjaaW.PrintLast Go.Proofs.YtejkemahdincjaaW.PrintMore
attribute [local go_sem] max2_int min2_int max_two min_two max_three min_three max_four min_four

-- NEED 0
/-! ### format_Mask: function 72 -/
def format_Mask.f (a0 : Int) : Option (Int) := (format_Widths.f a0).bind fun bt266 => (if 0 ≤ (IntKind.u64.wrap (wrap64 ((wrap64 (bt266.1 + bt266.2)) + 1))) then (some (((shl .u32 1 (IntKind.u64.wrap (wrap64 ((wrap64 (bt266.1 + bt266.2)) + 1)))) - 1) % 4294967296)) else (none))
set_option maxHeartbeats 8000000 in
set_option maxRecDepth 100000 in
theorem format_Mask.calls (a0 : Int) (r : Int) (w : World) (h : format_Mask.f a0 = some r) :
  Calls Try.prog 72 #[.int .i64 a0] w fun e w' => e = .returned (.int .u32 r) ∧ Drawn0 w w' := by
 have H : ((format_Widths.f a0).bind fun bt266 => (if 0 ≤ (IntKind.u64.wrap (wrap64 ((wrap64 (bt266.1 + bt266.2)) + 1))) then (some (((shl .u32 1 (IntKind.u64.wrap (wrap64 ((wrap64 (bt266.1 + bt266.2)) + 1)))) - 1) % 4294967296)) else (none))) = some r := h
 clear h
 replace H := Option.bind_eq_some_iff.mp H
 obtain ⟨⟨t266, t267⟩, A20, H⟩ := H
 replace H : (if 0 ≤ (IntKind.u64.wrap (wrap64 ((wrap64 (t266 + t267)) + 1))) then (some (((shl .u32 1 (IntKind.u64.wrap (wrap64 ((wrap64 (t266 + t267)) + 1)))) - 1) % 4294967296)) else (none)) = some r := H
 have A2 := Aside0.mk A20
 clear A20
 obtain ⟨ji3, hji3⟩ : ∃ j_ : Int, (IntKind.u64.wrap (wrap64 ((wrap64 (t266 + t267)) + 1))) = j_ := ⟨_, rfl⟩
 replace H : (if 0 ≤ (ji3) then (some (((shl .u32 1 (ji3)) - 1) % 4294967296)) else (none)) = some r := by first | (rw [hji3] at H; exact H) | (simp only [hji3] at H ⊢; exact H)
 (try rw [hji3] at A2)
 by_cases c4 : 0 ≤ (ji3)
 ·rw [if_pos c4] at H
  have c4b0 := eq_true c4
  have c4b1 : decide (0 ≤ (ji3)) = true := decide_eq_true c4
  clear c4
  obtain ⟨ji5, hji5⟩ : ∃ j_ : Int, (shl .u32 1 (ji3)) = j_ := ⟨_, rfl⟩
  replace H : (some (((ji5) - 1) % 4294967296)) = some r := by first | (rw [hji5] at H; exact H) | (simp only [hji5] at H ⊢; exact H)
  (try rw [hji5] at A2)
  have hji5_ : (IntKind.u32.wrap (1 * 2 ^ min (ji3).toNat 32)) = ji5 := hji5
  have hji5z : (ji3) ≤ 32 → (IntKind.u32.wrap (1 * 2 ^ (ji3).toNat)) = ji5 := shl_small hji5
  have hji5u : (IntKind.u32.wrap (2 ^ min (ji3).toNat 32)) = ji5 := by have h_ := hji5_; rw [Int.one_mul] at h_; exact h_
  have hji5v : (ji3) ≤ 32 → (IntKind.u32.wrap (2 ^ (ji3).toNat)) = ji5 := fun hle_ => by have h_ := hji5z hle_; rw [Int.one_mul] at h_; exact h_
  obtain ⟨ji6, hji6⟩ : ∃ j_ : Int, (((ji5) - 1) % 4294967296) = j_ := ⟨_, rfl⟩
  replace H : (some ji6) = some r := by first | (rw [hji6] at H; exact H) | (simp only [hji6] at H ⊢; exact H)
  (try rw [hji6] at A2)
  have hji6l : 0 ≤ ji6 := by rw [← hji6]; exact Int.emod_nonneg _ (by decide)
  have hji6h : ji6 ≤ 4294967295 := by have := Int.emod_lt_of_pos (((ji5) - 1)) (show (0 : Int) < 4294967296 by decide); omega
  have hji6w : (IntKind.u32.wrap ((ji5) - 1)) = ji6 := (u32_w _).trans hji6
  (try (have hji6_ := hji6; simp only [Int.add_emod_emod, Int.emod_add_emod, Int.sub_emod_emod, Int.emod_sub_emod] at hji6_))
  obtain rfl := Option.some.inj H
  go_enter Try.func72, Try.ntmps72
  go_wp2_with (first | ((with_reducible refine gate_callee (f := 56) rfl ?_); refine goesL_ (some 7) rfl rfl Try.func56 (by kernel_rfl) rfl #[.int .i64 a0] rfl gl ?_; (with_reducible refine (format_Widths.calls a0 t266 t267 _ A2.out).mono ?_); rintro e w' ⟨rfl, ⟨nd, rfl⟩⟩; refine ⟨_, rfl, ?_⟩))
  go_ret
  exact ⟨by first | rfl | (simp; done) | (simp only [← hji3, ← hji5, ← hji6] <;> (first | rfl | (simp; done))) | (simp [*]; done) | (congr 1; (try unfold wrap64); omega) | (congr 1; rw [IntKind.wrap_u64]; omega), by repeat (first | exact Drawn0.refl _ | apply Drawn0.step)⟩
 ·rw [if_neg c4] at H
  exact absurd H (by simp)

-- NEED 0
/-! ### format_Turn: function 41 -/
def format_Turn.f (a0 : Int) (a1 : Int) : Option (Int) := (format_Widths.f a0).bind fun bt268 => ((format_Mask.f a0).bind fun t270 => (if 0 ≤ (IntKind.u64.wrap (wrap64 (bt268.1 + bt268.2))) then (some (Go.bits .xor .u32 (Go.bits .and .u32 a1 t270) (shl .u32 1 (IntKind.u64.wrap (wrap64 (bt268.1 + bt268.2)))))) else (none)))
set_option maxHeartbeats 8000000 in
set_option maxRecDepth 100000 in
theorem format_Turn.calls (a0 : Int) (a1 : Int) (r : Int) (w : World) (h : format_Turn.f a0 a1 = some r) :
  Calls Try.prog 41 #[.int .i64 a0, .int .u32 a1] w fun e w' => e = .returned (.int .u32 r) ∧ Drawn0 w w' := by
 have H : ((format_Widths.f a0).bind fun bt268 => ((format_Mask.f a0).bind fun t270 => (if 0 ≤ (IntKind.u64.wrap (wrap64 (bt268.1 + bt268.2))) then (some (Go.bits .xor .u32 (Go.bits .and .u32 a1 t270) (shl .u32 1 (IntKind.u64.wrap (wrap64 (bt268.1 + bt268.2)))))) else (none)))) = some r := h
 clear h
 replace H := Option.bind_eq_some_iff.mp H
 obtain ⟨⟨t268, t269⟩, A30, H⟩ := H
 replace H : ((format_Mask.f a0).bind fun t270 => (if 0 ≤ (IntKind.u64.wrap (wrap64 (t268 + t269))) then (some (Go.bits .xor .u32 (Go.bits .and .u32 a1 t270) (shl .u32 1 (IntKind.u64.wrap (wrap64 (t268 + t269)))))) else (none))) = some r := H
 have A3 := Aside0.mk A30
 clear A30
 replace H := Option.bind_eq_some_iff.mp H
 obtain ⟨t270, A40, H⟩ := H
 replace H : (if 0 ≤ (IntKind.u64.wrap (wrap64 (t268 + t269))) then (some (Go.bits .xor .u32 (Go.bits .and .u32 a1 t270) (shl .u32 1 (IntKind.u64.wrap (wrap64 (t268 + t269)))))) else (none)) = some r := H
 have A4 := Aside0.mk A40
 clear A40
 obtain ⟨ji5, hji5⟩ : ∃ j_ : Int, (IntKind.u64.wrap (wrap64 (t268 + t269))) = j_ := ⟨_, rfl⟩
 replace H : (if 0 ≤ (ji5) then (some (Go.bits .xor .u32 (Go.bits .and .u32 a1 t270) (shl .u32 1 (ji5)))) else (none)) = some r := by first | (rw [hji5] at H; exact H) | (simp only [hji5] at H ⊢; exact H)
 (try rw [hji5] at A3)
 (try rw [hji5] at A4)
 by_cases c6 : 0 ≤ (ji5)
 ·rw [if_pos c6] at H
  have c6b0 := eq_true c6
  have c6b1 : decide (0 ≤ (ji5)) = true := decide_eq_true c6
  clear c6
  obtain ⟨ji7, hji7⟩ : ∃ j_ : Int, (shl .u32 1 (ji5)) = j_ := ⟨_, rfl⟩
  replace H : (some (Go.bits .xor .u32 (Go.bits .and .u32 a1 t270) (ji7))) = some r := by first | (rw [hji7] at H; exact H) | (simp only [hji7] at H ⊢; exact H)
  (try rw [hji7] at A3)
  (try rw [hji7] at A4)
  have hji7_ : (IntKind.u32.wrap (1 * 2 ^ min (ji5).toNat 32)) = ji7 := hji7
  have hji7z : (ji5) ≤ 32 → (IntKind.u32.wrap (1 * 2 ^ (ji5).toNat)) = ji7 := shl_small hji7
  have hji7u : (IntKind.u32.wrap (2 ^ min (ji5).toNat 32)) = ji7 := by have h_ := hji7_; rw [Int.one_mul] at h_; exact h_
  have hji7v : (ji5) ≤ 32 → (IntKind.u32.wrap (2 ^ (ji5).toNat)) = ji7 := fun hle_ => by have h_ := hji7z hle_; rw [Int.one_mul] at h_; exact h_
  obtain rfl := Option.some.inj H
  go_enter Try.func41, Try.ntmps41
  go_wp2_with (first | ((with_reducible refine gate_callee (f := 56) rfl ?_); refine goesL_ (some 9) rfl rfl Try.func56 (by kernel_rfl) rfl #[.int .i64 a0] rfl gl ?_; (with_reducible refine (format_Widths.calls a0 t268 t269 _ A3.out).mono ?_); rintro e w' ⟨rfl, ⟨nd, rfl⟩⟩; refine ⟨_, rfl, ?_⟩) | ((with_reducible refine gate_callee (f := 72) rfl ?_); refine goesL_ (some 14) rfl rfl Try.func72 (by kernel_rfl) rfl #[.int .i64 a0] rfl gl ?_; (with_reducible refine (format_Mask.calls a0 t270 _ A4.out).mono ?_); rintro e w' ⟨rfl, ⟨nd, rfl⟩⟩; refine ⟨_, rfl, ?_⟩))
  go_ret
  exact ⟨by first | rfl | (simp; done) | (simp only [← hji5, ← hji7] <;> (first | rfl | (simp; done))) | (simp [*]; done) | (congr 1; (try unfold wrap64); omega) | (congr 1; rw [IntKind.wrap_u64]; omega), by repeat (first | exact Drawn0.refl _ | apply Drawn0.step)⟩
 ·rw [if_neg c6] at H
  exact absurd H (by simp)

end Go.Proofs.Ytejkemahdincjaa.P

/- Functions' trees, printed by a tool of mine out of the reckoner; Lean's kernel checks each. -/
namespace Go.Proofs.Ytejkemahdincjaa.L
open Go.RowKit Go.Proofs.Ytejkemahdincjaa.P Go.Proofs.Ytejkemahdincjaa.Ek Go.Proofs.YtejkemahdincjaaW.PrintWords Go.Proofs.YtejkemahdincjaaW.PrintLast Go.Proofs.YtejkemahdincjaaW.PrintMore
set_option maxRecDepth 100000
noncomputable def sum_Exact.j7 (n0 : Nat) (x0 : Bool) (x1 : Bool) (x2 : Int) (x3 : Int) (x4 : Bool) (x5 : Bool) (x6 : Int) (x7 : Int) (x8 : Bool) (x9 : Bool) (x10 : Int) (x11 : Int) (x12 : Bool) := evInJ Try.prog sum_Exact.cls Try.f30 sum_Exact.cuts [1, 1, 1, 0, 1] [n0] n0 ⟨[(39, (.pv (.one (.b (.q x0))))), (4, (.pv (.one (.p 2 0)))), (3, (.pv (.one (.p 1 0)))), (2, (.pv (.one (.p 0 0))))], [(2, (52, [(.c (.b (.q x1))), (.c (.i .i64 (.x x2))), (.c (.i .u64 (.x x3))), (.c (.b (.q x4)))])), (1, (52, [(.c (.b (.q x5))), (.c (.i .i64 (.x x6))), (.c (.i .u64 (.x x7))), (.c (.b (.q x8)))])), (0, (52, [(.c (.b (.q x9))), (.c (.i .i64 (.x x10))), (.c (.i .u64 (.x x11))), (.c (.b (.q x12)))]))], 3⟩ sum_Exact.K
noncomputable def sum_Exact.j8 (n0 : Nat) (x0 : Bool) (x1 : Int) (x2 : Int) (x3 : Bool) (x4 : Bool) (x5 : Int) (x6 : Int) (x7 : Bool) (x8 : Bool) (x9 : Int) (x10 : Int) (x11 : Bool) := evInJ Try.prog sum_Exact.cls Try.f30 sum_Exact.cuts [1, 1, 1, 1] [n0] n0 ⟨[(4, (.pv (.one (.p 2 0)))), (3, (.pv (.one (.p 1 0)))), (2, (.pv (.one (.p 0 0))))], [(2, (52, [(.c (.b (.q x0))), (.c (.i .i64 (.x x1))), (.c (.i .u64 (.x x2))), (.c (.b (.q x3)))])), (1, (52, [(.c (.b (.q x4))), (.c (.i .i64 (.x x5))), (.c (.i .u64 (.x x6))), (.c (.b (.q x7)))])), (0, (52, [(.c (.b (.q x8))), (.c (.i .i64 (.x x9))), (.c (.i .u64 (.x x10))), (.c (.b (.q x11)))]))], 3⟩ sum_Exact.K
noncomputable def sum_Exact.j16 (n0 : Nat) (x0 : Bool) (x1 : Int) (x2 : Int) (x3 : Bool) (x4 : Bool) (x5 : Int) (x6 : Int) (x7 : Bool) := evInJ Try.prog sum_Exact.cls Try.f30 sum_Exact.cuts [1, 1, 1, 1, 1, 1, 1, 1, 1] [n0] n0 ⟨[(4, (.pv (.one (.p 2 0)))), (2, (.pv (.one (.p 0 0))))], [(2, (52, [(.c (.b (.q x0))), (.c (.i .i64 (.x x1))), (.c (.i .u64 (.x x2))), (.c (.b (.q x3)))])), (0, (52, [(.c (.b (.q x4))), (.c (.i .i64 (.x x5))), (.c (.i .u64 (.x x6))), (.c (.b (.q x7)))]))], 3⟩ sum_Exact.K
theorem sum_Exact.eq (n0 : Nat) (a0_0 : Bool) (a0_1 : Int) (a0_2 : Int) (a0_3 : Bool) (a1_0 : Bool) (a1_1 : Int) (a1_2 : Int) (a1_3 : Bool) : sum_Exact.f n0 a0_0 a0_1 a0_2 a0_3 a1_0 a1_1 a1_2 a1_3 = (if a0_2 = 0 then (some ((a1_0, a1_1, a1_2, a1_3))) else (if a1_2 = 0 then (some ((a0_0, a0_1, a0_2, a0_3))) else ((sum_full.f n0 a0_0 a0_1 a0_2 a0_3).bind fun t0 => ((sum_full.f n0 a1_0 a1_1 a1_2 a1_3).bind fun t1 => (if Prod.fst (Prod.snd t0) < Prod.fst (Prod.snd t1) then (sum_Exact.j7 n0 (true) (false) (Int.ofNat 0) (Int.ofNat 0) (false) (t1.1) (Prod.fst (Prod.snd t1)) (Prod.fst (Prod.snd (Prod.snd t1))) ((Prod.snd (Prod.snd t1)).2) (t0.1) (Prod.fst (Prod.snd t0)) (Prod.fst (Prod.snd (Prod.snd t0))) ((Prod.snd (Prod.snd t0)).2)) else (if Prod.fst (Prod.snd t0) = Prod.fst (Prod.snd t1) then (sum_Exact.j7 n0 (Decidable.rec (fun h => false) (fun h => true) (Int.decLt (Prod.fst (Prod.snd (Prod.snd t0))) (Prod.fst (Prod.snd (Prod.snd t1))))) (false) (Int.ofNat 0) (Int.ofNat 0) (false) (t1.1) (Prod.fst (Prod.snd t1)) (Prod.fst (Prod.snd (Prod.snd t1))) ((Prod.snd (Prod.snd t1)).2) (t0.1) (Prod.fst (Prod.snd t0)) (Prod.fst (Prod.snd (Prod.snd t0))) ((Prod.snd (Prod.snd t0)).2)) else (sum_Exact.j7 n0 (false) (false) (Int.ofNat 0) (Int.ofNat 0) (false) (t1.1) (Prod.fst (Prod.snd t1)) (Prod.fst (Prod.snd (Prod.snd t1))) ((Prod.snd (Prod.snd t1)).2) (t0.1) (Prod.fst (Prod.snd t0)) (Prod.fst (Prod.snd (Prod.snd t0))) ((Prod.snd (Prod.snd t0)).2)))))))) := by kernel_rfl
theorem sum_Exact.j7_eq (n0 : Nat) (x0 : Bool) (x1 : Bool) (x2 : Int) (x3 : Int) (x4 : Bool) (x5 : Bool) (x6 : Int) (x7 : Int) (x8 : Bool) (x9 : Bool) (x10 : Int) (x11 : Int) (x12 : Bool) : sum_Exact.j7 n0 x0 x1 x2 x3 x4 x5 x6 x7 x8 x9 x10 x11 x12 = (if x0 = true then (sum_Exact.j8 n0 (x1) (x2) (x3) (x4) (x9) (x10) (x11) (x12) (x5) (x6) (x7) (x8)) else (sum_Exact.j8 n0 (x1) (x2) (x3) (x4) (x5) (x6) (x7) (x8) (x9) (x10) (x11) (x12))) := by kernel_rfl
theorem sum_Exact.j8_eq (n0 : Nat) (x0 : Bool) (x1 : Int) (x2 : Int) (x3 : Bool) (x4 : Bool) (x5 : Int) (x6 : Int) (x7 : Bool) (x8 : Bool) (x9 : Int) (x10 : Int) (x11 : Bool) : sum_Exact.j8 n0 x0 x1 x2 x3 x4 x5 x6 x7 x8 x9 x10 x11 = ((bits_Shift.f n0 x6 (wrap64 (x9 - x5))).bind fun t0 => (if (x8 == x4) = true then (some ((x8, x9, IntKind.wrap IntKind.u64 (x10 + Prod.fst t0), Prod.snd t0))) else (if Prod.snd t0 = true then (sum_Exact.j16 n0 (x0) (x1) (x2) (x3) (x8) (x9) (IntKind.wrap IntKind.u64 (IntKind.wrap IntKind.u64 (x10 - Prod.fst t0) - 1)) (t0.2)) else (sum_Exact.j16 n0 (x0) (x1) (x2) (x3) (x8) (x9) (IntKind.wrap IntKind.u64 (x10 - Prod.fst t0)) (t0.2))))) := by kernel_rfl
theorem sum_Exact.j16_eq (n0 : Nat) (x0 : Bool) (x1 : Int) (x2 : Int) (x3 : Bool) (x4 : Bool) (x5 : Int) (x6 : Int) (x7 : Bool) : sum_Exact.j16 n0 x0 x1 x2 x3 x4 x5 x6 x7 = (some ((x4, x5, x6, x7))) := by kernel_rfl
theorem round_beyond.eq (n0 : Nat) (a0 : Int) (a1 : Int) (a2 : Bool) : round_beyond.f n0 a0 a1 a2 = (if a1 = 1 then ((format_Greatest.f a0 a2).bind fun t0 => (some ((t0, false, false, true, false, true)))) else (if a1 = 2 then (if a2 = true then ((format_Greatest.f a0 a2).bind fun t0 => (some ((t0, false, false, true, false, true)))) else ((format_Inf.f a0 a2).bind fun t0 => (some ((t0, false, false, true, false, true))))) else (if a1 = 3 then (if a2 = true then ((format_Inf.f a0 a2).bind fun t0 => (some ((t0, false, false, true, false, true)))) else ((format_Greatest.f a0 a2).bind fun t0 => (some ((t0, false, false, true, false, true))))) else ((format_Inf.f a0 a2).bind fun t0 => (some ((t0, false, false, true, false, true))))))) := by kernel_rfl
theorem annealseat_Num.eq (n0 : Nat) (a0 : Int) (a1 : Int) : annealseat_Num.f n0 a0 a1 = ((annealref1_Widths.f a0).bind fun t0 => (if 0 ≤ Prod.fst t0 then (if 0 ≤ Prod.snd t0 then (if 0 ≤ Prod.snd t0 then (if 0 ≤ Prod.snd t0 then (if 0 ≤ Prod.snd t0 then (if 0 ≤ Prod.snd t0 then (if shl IntKind.u32 3 (Prod.snd t0) = 0 then none else (if 0 ≤ Prod.snd t0 then (if 0 ≤ Prod.snd t0 then (if 0 ≤ Prod.snd t0 then (if 0 ≤ Prod.snd t0 then (if 0 ≤ wrap64 (Prod.snd t0 - 1) then (if 0 ≤ Prod.snd t0 then (if shl IntKind.u32 9 (Prod.snd t0) = 0 then none else (if 0 ≤ Int.tmod a1 15 then (if Int.tmod a1 15 < ↑15 then ((annealref1_Mask.f a0).bind fun t1 => (if shr IntKind.u32 a1 31 = 1 then ((annealref1_Zero.f a0 true).bind fun t2 => (some (bits BinOp.or IntKind.u32 (bits BinOp.and IntKind.u32 (rd [0, 1, (shl IntKind.u32 1 (Prod.snd t0) - 1) % 4294967296, shl IntKind.u32 1 (Prod.snd t0), shl IntKind.u32 (shr IntKind.u32 ((shl IntKind.u32 1 (Prod.fst t0) - 1) % 4294967296) 1) (Prod.snd t0), (shl IntKind.u32 (shr IntKind.u32 ((shl IntKind.u32 1 (Prod.fst t0) - 1) % 4294967296) 1) (Prod.snd t0) + 1) % 4294967296, (shl IntKind.u32 (shr IntKind.u32 ((shl IntKind.u32 1 (Prod.fst t0) - 1) % 4294967296) 1) (Prod.snd t0) - 1) % 4294967296, (shl IntKind.u32 (shr IntKind.u32 ((shl IntKind.u32 1 (Prod.fst t0) - 1) % 4294967296) 1) (Prod.snd t0) + shl IntKind.u32 1 (Prod.snd t0)) % 4294967296, (shl IntKind.u32 (shr IntKind.u32 ((shl IntKind.u32 1 (Prod.fst t0) - 1) % 4294967296) 1) (Prod.snd t0) + Int.tmod (shr IntKind.u32 a1 4) (shl IntKind.u32 3 (Prod.snd t0))) % 4294967296, (shl IntKind.u32 ((shl IntKind.u32 1 (Prod.fst t0) - 1) % 4294967296) (Prod.snd t0) - 1) % 4294967296, shl IntKind.u32 ((shl IntKind.u32 1 (Prod.fst t0) - 1) % 4294967296) (Prod.snd t0), bits BinOp.or IntKind.u32 (shl IntKind.u32 ((shl IntKind.u32 1 (Prod.fst t0) - 1) % 4294967296) (Prod.snd t0)) 1, bits BinOp.or IntKind.u32 (shl IntKind.u32 ((shl IntKind.u32 1 (Prod.fst t0) - 1) % 4294967296) (Prod.snd t0)) (shl IntKind.u32 1 (wrap64 (Prod.snd t0 - 1))), (shl IntKind.u32 (shr IntKind.u32 ((shl IntKind.u32 1 (Prod.fst t0) - 1) % 4294967296) 1) (Prod.snd t0) - Int.tmod (shr IntKind.u32 a1 4) (shl IntKind.u32 9 (Prod.snd t0))) % 4294967296, shr IntKind.u32 a1 4] (Int.tmod a1 15)) t1) t2))) else (some (bits BinOp.and IntKind.u32 (rd [0, 1, (shl IntKind.u32 1 (Prod.snd t0) - 1) % 4294967296, shl IntKind.u32 1 (Prod.snd t0), shl IntKind.u32 (shr IntKind.u32 ((shl IntKind.u32 1 (Prod.fst t0) - 1) % 4294967296) 1) (Prod.snd t0), (shl IntKind.u32 (shr IntKind.u32 ((shl IntKind.u32 1 (Prod.fst t0) - 1) % 4294967296) 1) (Prod.snd t0) + 1) % 4294967296, (shl IntKind.u32 (shr IntKind.u32 ((shl IntKind.u32 1 (Prod.fst t0) - 1) % 4294967296) 1) (Prod.snd t0) - 1) % 4294967296, (shl IntKind.u32 (shr IntKind.u32 ((shl IntKind.u32 1 (Prod.fst t0) - 1) % 4294967296) 1) (Prod.snd t0) + shl IntKind.u32 1 (Prod.snd t0)) % 4294967296, (shl IntKind.u32 (shr IntKind.u32 ((shl IntKind.u32 1 (Prod.fst t0) - 1) % 4294967296) 1) (Prod.snd t0) + Int.tmod (shr IntKind.u32 a1 4) (shl IntKind.u32 3 (Prod.snd t0))) % 4294967296, (shl IntKind.u32 ((shl IntKind.u32 1 (Prod.fst t0) - 1) % 4294967296) (Prod.snd t0) - 1) % 4294967296, shl IntKind.u32 ((shl IntKind.u32 1 (Prod.fst t0) - 1) % 4294967296) (Prod.snd t0), bits BinOp.or IntKind.u32 (shl IntKind.u32 ((shl IntKind.u32 1 (Prod.fst t0) - 1) % 4294967296) (Prod.snd t0)) 1, bits BinOp.or IntKind.u32 (shl IntKind.u32 ((shl IntKind.u32 1 (Prod.fst t0) - 1) % 4294967296) (Prod.snd t0)) (shl IntKind.u32 1 (wrap64 (Prod.snd t0 - 1))), (shl IntKind.u32 (shr IntKind.u32 ((shl IntKind.u32 1 (Prod.fst t0) - 1) % 4294967296) 1) (Prod.snd t0) - Int.tmod (shr IntKind.u32 a1 4) (shl IntKind.u32 9 (Prod.snd t0))) % 4294967296, shr IntKind.u32 a1 4] (Int.tmod a1 15)) t1)))) else none) else none)) else none) else none) else none) else none) else none) else none)) else none) else none) else none) else none) else none) else none)) := by kernel_rfl
noncomputable def annealref1_Pack.j3 (n0 : Nat) (x0 : Bool) (x1 : Bool) (x2 : Int) (x3 : Int) (x4 : Bool) (x5 : Int) (x6 : Int) (x7 : Bool) (x8 : Bool) (x9 : Bool) (x10 : Bool) (x11 : Bool) := evInJ Try.prog annealref1_Pack.cls Try.f43 annealref1_Pack.cuts [1, 1, 0, 1] [n0] n0 ⟨[(35, (.pv (.one (.b (.q x0))))), (13, (.pv (.one (.p 0 0)))), (5, (.pv (.one (.b (.q x1))))), (4, (.pv (.one (.i .u64 (.x x2))))), (3, (.pv (.one (.i .i64 (.x x3))))), (2, (.pv (.one (.b (.q x4))))), (1, (.pv (.one (.i .i64 (.x x5))))), (0, (.pv (.one (.i .i64 (.x x6)))))], [(0, (29, [(.c (.b (.q x7))), (.c (.b (.q x8))), (.c (.b (.q x9))), (.c (.b (.q x10))), (.c (.b (.q x11)))]))], 1⟩ annealref1_Pack.K
noncomputable def annealref1_Pack.j9 (n0 : Nat) (x0 : Int) (x1 : Int) (x2 : Int) (x3 : Bool) (x4 : Int) (x5 : Int) (x6 : Bool) (x7 : Int) (x8 : Int) (x9 : Bool) (x10 : Bool) (x11 : Bool) (x12 : Bool) (x13 : Bool) := evInJ Try.prog annealref1_Pack.cls Try.f43 annealref1_Pack.cuts [1, 1, 1, 1, 1, 1, 1] [n0] n0 ⟨[(17, (.pv (.one (.i .i64 (.x x0))))), (16, (.pv (.one (.i .i64 (.x x1))))), (15, (.pv (.one (.i .i64 (.x x2))))), (13, (.pv (.one (.p 0 0)))), (5, (.pv (.one (.b (.q x3))))), (4, (.pv (.one (.i .u64 (.x x4))))), (3, (.pv (.one (.i .i64 (.x x5))))), (2, (.pv (.one (.b (.q x6))))), (1, (.pv (.one (.i .i64 (.x x7))))), (0, (.pv (.one (.i .i64 (.x x8)))))], [(0, (29, [(.c (.b (.q x9))), (.c (.b (.q x10))), (.c (.b (.q x11))), (.c (.b (.q x12))), (.c (.b (.q x13)))]))], 1⟩ annealref1_Pack.K
noncomputable def annealref1_Pack.j12 (n0 : Nat) (x0 : Bool) (x1 : Bool) (x2 : Int) (x3 : Int) (x4 : Int) (x5 : Int) (x6 : Int) (x7 : Bool) (x8 : Int) (x9 : Int) (x10 : Bool) (x11 : Bool) (x12 : Bool) (x13 : Bool) (x14 : Bool) := evInJ Try.prog annealref1_Pack.cls Try.f43 annealref1_Pack.cuts [1, 1, 1, 1, 1, 1, 1, 1, 1, 1] [n0] n0 ⟨[(21, (.pv (.one (.b (.q x0))))), (20, (.pv (.one (.b (.q x1))))), (19, (.pv (.one (.i .u64 (.x x2))))), (18, (.pv (.one (.i .i64 (.x x3))))), (17, (.pv (.one (.i .i64 (.x x4))))), (16, (.pv (.one (.i .i64 (.x x5))))), (15, (.pv (.one (.i .i64 (.x x6))))), (13, (.pv (.one (.p 0 0)))), (2, (.pv (.one (.b (.q x7))))), (1, (.pv (.one (.i .i64 (.x x8))))), (0, (.pv (.one (.i .i64 (.x x9)))))], [(0, (29, [(.c (.b (.q x10))), (.c (.b (.q x11))), (.c (.b (.q x12))), (.c (.b (.q x13))), (.c (.b (.q x14)))]))], 1⟩ annealref1_Pack.K
noncomputable def annealref1_Pack.j13 (n0 : Nat) (x0 : Bool) (x1 : Bool) (x2 : Bool) (x3 : Int) (x4 : Int) (x5 : Int) (x6 : Int) (x7 : Int) (x8 : Bool) (x9 : Int) (x10 : Int) (x11 : Bool) (x12 : Bool) (x13 : Bool) (x14 : Bool) (x15 : Bool) := evInJ Try.prog annealref1_Pack.cls Try.f43 annealref1_Pack.cuts [1, 1, 1, 1, 1, 1, 1, 1, 1, 1, 1] [n0] n0 ⟨[(22, (.pv (.one (.b (.q x0))))), (21, (.pv (.one (.b (.q x1))))), (20, (.pv (.one (.b (.q x2))))), (19, (.pv (.one (.i .u64 (.x x3))))), (18, (.pv (.one (.i .i64 (.x x4))))), (17, (.pv (.one (.i .i64 (.x x5))))), (16, (.pv (.one (.i .i64 (.x x6))))), (15, (.pv (.one (.i .i64 (.x x7))))), (13, (.pv (.one (.p 0 0)))), (2, (.pv (.one (.b (.q x8))))), (1, (.pv (.one (.i .i64 (.x x9))))), (0, (.pv (.one (.i .i64 (.x x10)))))], [(0, (29, [(.c (.b (.q x11))), (.c (.b (.q x12))), (.c (.b (.q x13))), (.c (.b (.q x14))), (.c (.b (.q x15)))]))], 1⟩ annealref1_Pack.K
noncomputable def annealref1_Pack.j15 (n0 : Nat) (x0 : Bool) (x1 : Int) (x2 : Int) (x3 : Int) (x4 : Int) (x5 : Int) (x6 : Bool) (x7 : Int) (x8 : Int) (x9 : Bool) (x10 : Bool) (x11 : Bool) (x12 : Bool) (x13 : Bool) := evInJ Try.prog annealref1_Pack.cls Try.f43 annealref1_Pack.cuts [1, 1, 1, 1, 1, 1, 1, 1, 1, 1, 1, 1] [n0] n0 ⟨[(22, (.pv (.one (.b (.q x0))))), (19, (.pv (.one (.i .u64 (.x x1))))), (18, (.pv (.one (.i .i64 (.x x2))))), (17, (.pv (.one (.i .i64 (.x x3))))), (16, (.pv (.one (.i .i64 (.x x4))))), (15, (.pv (.one (.i .i64 (.x x5))))), (13, (.pv (.one (.p 0 0)))), (2, (.pv (.one (.b (.q x6))))), (1, (.pv (.one (.i .i64 (.x x7))))), (0, (.pv (.one (.i .i64 (.x x8)))))], [(0, (29, [(.c (.b (.q x9))), (.c (.b (.q x10))), (.c (.b (.q x11))), (.c (.b (.q x12))), (.c (.b (.q x13)))]))], 1⟩ annealref1_Pack.K
noncomputable def annealref1_Pack.j18 (n0 : Nat) (x0 : Int) (x1 : Int) (x2 : Int) (x3 : Bool) (x4 : Int) (x5 : Int) (x6 : Bool) (x7 : Bool) (x8 : Bool) (x9 : Bool) (x10 : Bool) (x11 : Bool) (x12 : Bool) (x13 : Bool) (x14 : Bool) (x15 : Bool) := evInJ Try.prog annealref1_Pack.cls Try.f43 annealref1_Pack.cuts [1, 1, 1, 1, 1, 1, 1, 1, 1, 1, 1, 1, 1, 1] [n0] n0 ⟨[(23, (.pv (.one (.p 1 0)))), (19, (.pv (.one (.i .u64 (.x x0))))), (18, (.pv (.one (.i .i64 (.x x1))))), (15, (.pv (.one (.i .i64 (.x x2))))), (13, (.pv (.one (.p 0 0)))), (2, (.pv (.one (.b (.q x3))))), (1, (.pv (.one (.i .i64 (.x x4))))), (0, (.pv (.one (.i .i64 (.x x5)))))], [(1, (29, [(.c (.b (.q x6))), (.c (.b (.q x7))), (.c (.b (.q x8))), (.c (.b (.q x9))), (.c (.b (.q x10)))])), (0, (29, [(.c (.b (.q x11))), (.c (.b (.q x12))), (.c (.b (.q x13))), (.c (.b (.q x14))), (.c (.b (.q x15)))]))], 2⟩ annealref1_Pack.K
theorem annealref1_Pack.eq (n0 : Nat) (a0 : Int) (a1 : Int) (a2 : Bool) (a3 : Int) (a4 : Int) (a5 : Bool) : annealref1_Pack.f n0 a0 a1 a2 a3 a4 a5 = (if a4 = 0 then (annealref1_Pack.j3 n0 (!(a5)) (a5) (a4) (mn (mx a3 (-10000)) 10000) (a2) (a1) (a0) (false) (false) (false) (false) (false)) else (annealref1_Pack.j3 n0 (false) (a5) (a4) (mn (mx a3 (-10000)) 10000) (a2) (a1) (a0) (false) (false) (false) (false) (false))) := by kernel_rfl
theorem annealref1_Pack.j3_eq (n0 : Nat) (x0 : Bool) (x1 : Bool) (x2 : Int) (x3 : Int) (x4 : Bool) (x5 : Int) (x6 : Int) (x7 : Bool) (x8 : Bool) (x9 : Bool) (x10 : Bool) (x11 : Bool) : annealref1_Pack.j3 n0 x0 x1 x2 x3 x4 x5 x6 x7 x8 x9 x10 x11 = (if x0 = true then ((annealref1_Zero.f x6 x4).bind fun t0 => (some ((t0, false, false, false, false, false)))) else ((annealref1_Widths.f x6).bind fun t0 => ((annealref1_bias.f x6).bind fun t1 => ((annealref1_Len.f n0 x2).bind fun t2 => (if x2 = 0 then (annealref1_Pack.j9 n0 (Int.negSucc 19999) (wrap64 (1 - t1)) (Prod.snd t0) (x1) (x2) (x3) (x4) (x5) (x6) (x7) (x8) (x9) (x10) (x11)) else (annealref1_Pack.j9 n0 (wrap64 (wrap64 (x3 + t2) - 1)) (wrap64 (1 - t1)) (Prod.snd t0) (x1) (x2) (x3) (x4) (x5) (x6) (x7) (x8) (x9) (x10) (x11))))))) := by kernel_rfl
theorem annealref1_Pack.j9_eq (n0 : Nat) (x0 : Int) (x1 : Int) (x2 : Int) (x3 : Bool) (x4 : Int) (x5 : Int) (x6 : Bool) (x7 : Int) (x8 : Int) (x9 : Bool) (x10 : Bool) (x11 : Bool) (x12 : Bool) (x13 : Bool) : annealref1_Pack.j9 n0 x0 x1 x2 x3 x4 x5 x6 x7 x8 x9 x10 x11 x12 x13 = ((annealref1_divide.f n0 x4 (wrap64 (wrap64 (mx x0 x1 - x2) - x5))).bind fun t0 => (if Prod.snd (Prod.snd t0) = true then (annealref1_Pack.j12 n0 (true) ((Prod.snd t0).1) (Prod.fst t0) (wrap64 (mx x0 x1 - x2)) (x0) (x1) (x2) (x6) (x7) (x8) (x9) (x10) (x11) (x12) (x13)) else (annealref1_Pack.j12 n0 (x3) ((Prod.snd t0).1) (Prod.fst t0) (wrap64 (mx x0 x1 - x2)) (x0) (x1) (x2) (x6) (x7) (x8) (x9) (x10) (x11) (x12) (x13)))) := by kernel_rfl
theorem annealref1_Pack.j12_eq (n0 : Nat) (x0 : Bool) (x1 : Bool) (x2 : Int) (x3 : Int) (x4 : Int) (x5 : Int) (x6 : Int) (x7 : Bool) (x8 : Int) (x9 : Int) (x10 : Bool) (x11 : Bool) (x12 : Bool) (x13 : Bool) (x14 : Bool) : annealref1_Pack.j12 n0 x0 x1 x2 x3 x4 x5 x6 x7 x8 x9 x10 x11 x12 x13 x14 = (if x1 = true then (annealref1_Pack.j13 n0 (true) (x0) (x1) (x2) (x3) (x4) (x5) (x6) (x7) (x8) (x9) (x10) (x11) (x12) (x13) (x14)) else (annealref1_Pack.j13 n0 (x0) (x0) (x1) (x2) (x3) (x4) (x5) (x6) (x7) (x8) (x9) (x10) (x11) (x12) (x13) (x14))) := by kernel_rfl
theorem annealref1_Pack.j13_eq (n0 : Nat) (x0 : Bool) (x1 : Bool) (x2 : Bool) (x3 : Int) (x4 : Int) (x5 : Int) (x6 : Int) (x7 : Int) (x8 : Bool) (x9 : Int) (x10 : Int) (x11 : Bool) (x12 : Bool) (x13 : Bool) (x14 : Bool) (x15 : Bool) : annealref1_Pack.j13 n0 x0 x1 x2 x3 x4 x5 x6 x7 x8 x9 x10 x11 x12 x13 x14 x15 = ((annealref1_up.f x9 x8 (bits BinOp.and IntKind.u64 x3 1 == 1) x2 x1).bind fun t0 => (if t0 = true then (annealref1_Pack.j15 n0 (x0) (IntKind.wrap IntKind.u64 (x3 + 1)) (x4) (x5) (x6) (x7) (x8) (x9) (x10) (x11) (x12) (x13) (x14) (x15)) else (annealref1_Pack.j15 n0 (x0) (x3) (x4) (x5) (x6) (x7) (x8) (x9) (x10) (x11) (x12) (x13) (x14) (x15)))) := by kernel_rfl
theorem annealref1_Pack.j15_eq (n0 : Nat) (x0 : Bool) (x1 : Int) (x2 : Int) (x3 : Int) (x4 : Int) (x5 : Int) (x6 : Bool) (x7 : Int) (x8 : Int) (x9 : Bool) (x10 : Bool) (x11 : Bool) (x12 : Bool) (x13 : Bool) : annealref1_Pack.j15 n0 x0 x1 x2 x3 x4 x5 x6 x7 x8 x9 x10 x11 x12 x13 = (if x0 = true then (if 0 ≤ wrap64 (x5 + 1) then (if x1 = shl IntKind.u64 1 (wrap64 (x5 + 1)) then (annealref1_Pack.j18 n0 (shr IntKind.u64 x1 1) (wrap64 (x2 + 1)) (x5) (x6) (x7) (x8) (false) (false) (false) (Decidable.rec (fun h => false) (fun h => true) (Int.decLt x3 x4)) (x0) (x9) (x10) (x11) (x12) (x13)) else (annealref1_Pack.j18 n0 (x1) (x2) (x5) (x6) (x7) (x8) (false) (false) (false) (Decidable.rec (fun h => false) (fun h => true) (Int.decLt x3 x4)) (x0) (x9) (x10) (x11) (x12) (x13))) else none) else (if 0 ≤ wrap64 (x5 + 1) then (if x1 = shl IntKind.u64 1 (wrap64 (x5 + 1)) then (annealref1_Pack.j18 n0 (shr IntKind.u64 x1 1) (wrap64 (x2 + 1)) (x5) (x6) (x7) (x8) (false) (false) (false) (false) (x0) (x9) (x10) (x11) (x12) (x13)) else (annealref1_Pack.j18 n0 (x1) (x2) (x5) (x6) (x7) (x8) (false) (false) (false) (false) (x0) (x9) (x10) (x11) (x12) (x13))) else none)) := by kernel_rfl
theorem annealref1_Pack.j18_eq (n0 : Nat) (x0 : Int) (x1 : Int) (x2 : Int) (x3 : Bool) (x4 : Int) (x5 : Int) (x6 : Bool) (x7 : Bool) (x8 : Bool) (x9 : Bool) (x10 : Bool) (x11 : Bool) (x12 : Bool) (x13 : Bool) (x14 : Bool) (x15 : Bool) : annealref1_Pack.j18 n0 x0 x1 x2 x3 x4 x5 x6 x7 x8 x9 x10 x11 x12 x13 x14 x15 = (if 0 ≤ x2 then (if x0 < shl IntKind.u64 1 x2 then ((annealref1_sign.f x5 x3).bind fun t0 => (some ((bits BinOp.or IntKind.u32 t0 (x0 % 4294967296), x6, x7, x8, x9, x10)))) else ((annealref1_bias.f x5).bind fun t0 => ((annealref1_Widths.f x5).bind fun t1 => (if 0 ≤ Prod.fst t1 then (if wrap64 (shl IntKind.i64 1 (Prod.fst t1) - 1) ≤ wrap64 (wrap64 (x1 + x2) + t0) then ((annealref1_over.f n0 x5 x4 x3).bind fun t2 => (some ((t2, false, false, true, false, true)))) else (if 0 ≤ x2 then (if 0 ≤ x2 then ((annealref1_sign.f x5 x3).bind fun t2 => (some ((bits BinOp.or IntKind.u32 (bits BinOp.or IntKind.u32 t2 (shl IntKind.u32 (wrap64 (wrap64 (x1 + x2) + t0) % 4294967296) x2)) (bits BinOp.and IntKind.u64 x0 (IntKind.wrap IntKind.u64 (shl IntKind.u64 1 x2 - 1)) % 4294967296), x6, x7, x8, x9, x10)))) else none) else none)) else none)))) else none) := by kernel_rfl
end Go.Proofs.Ytejkemahdincjaa.L
