import Derived.Test.YtngkpekmgahjiaaQqtZ
import Derived.Test.YtngkpekmgahjiaaQqtM1
import Derived.Test.YtngkpekmgahjiaaQqtM5
import Derived.Test.YtngkpekmgahjiaaQqtM3
import Derived.Test.YtngkpekmgahjiaaQqtM6
import Derived.Test.YtngkpekmgahjiaaQqtPx17
-- Printed by a program of this session's out of Lean's print of the translation; Lean checks it.
namespace Go.Proofs.Ytngkpekmgahjiaa.P
open Go.RowKit Go.Proofs.YtngkpekmgahjiaaW.PrintWords Go.Proofs.YtngkpekmgahjiaaW.PrintLast Go.Proofs.YtngkpekmgahjiaaW.PrintMore
attribute [local go_sem] max2_int min2_int max_two min_two max_three min_three max_four min_four   -- for this text's walks alone
set_option linter.unusedVariables false
set_option linter.unusedSimpArgs false

/-! ### annealref1_nans: function 57 -/
def annealref1_nans.l0 : Nat → Int → List Int → Bool → Bool → Int → Option (Bool × Bool)
 |0, _, _, _, _, _ => none
 |k + 1, x0, x1, x6, x7, x8 => if x8 < (x1.length : Int) then (if 0 ≤ x8 then ((annealref1_Class.f k x0 (rd x1 x8)).bind fun t295 => (if x6 = true then (if x7 = true then (annealref1_nans.l0 k x0 x1 true true (wrap64 (x8 + 1))) else (annealref1_nans.l0 k x0 x1 true (t295 == 5) (wrap64 (x8 + 1)))) else (if t295 = 4 then (if x7 = true then (annealref1_nans.l0 k x0 x1 true true (wrap64 (x8 + 1))) else (annealref1_nans.l0 k x0 x1 true (t295 == 5) (wrap64 (x8 + 1)))) else (if x7 = true then (annealref1_nans.l0 k x0 x1 (t295 == 5) true (wrap64 (x8 + 1))) else (annealref1_nans.l0 k x0 x1 (t295 == 5) (t295 == 5) (wrap64 (x8 + 1))))))) else (none)) else (some (x6, x7))
def annealref1_nans.f (k : Nat) (a0 : Int) (l1 : List Int) : Option (Bool × Bool) := annealref1_nans.l0 k a0 l1 false false 0
set_option maxHeartbeats 8000000 in
set_option maxRecDepth 100000 in
theorem annealref1_nans.calls (k : Nat) (a0 : Int) (A1 : Option Addr) (c1 : Nat) (l1 : List Int) (r1 : Bool) (r2 : Bool) (w : World) (hr1 : Kd.C (Kd.int .u32) w A1 l1.length l1) (hc1 : l1.length ≤ c1) (h : annealref1_nans.f k a0 l1 = some (r1, r2)) :
  Calls Try.prog 57 #[.int .i64 a0, .slice A1 l1.length c1] w fun e w' => e = .returned (.tuple #[.bool r1, .bool r2]) ∧ Drawn0 w w' := by
 have HR1 := Aside0.mk hr1
 have HC1 := Aside0.mk hc1
 clear hr1 hc1
 have H : (annealref1_nans.l0 k a0 l1 false false 0) = some (r1, r2) := h
 clear h
 have H' := Aside0.mk H
 clear H
 go_enter Try.func57, Try.ntmps57
 go_wp2
 go_loopg [6, 7, 8] k (fun kq v6 v7 v8 w' => ∃ (x6_1 : Bool) (x7_1 : Bool) (x8_1 : Int), v6 = .bool x6_1 ∧ v7 = .bool x7_1 ∧ v8 = .int .i64 x8_1 ∧ Aside0 (annealref1_nans.l0 kq a0 l1 x6_1 x7_1 x8_1 = some (r1, r2)) ∧ Aside0 (kq ≤ k) ∧ Drawn0 w w')
 case atStart => exact ⟨(false), (false), (0), (by first | rfl | (simp; done) | (simp [*]; done) | (congr 1; (try unfold wrap64); omega) | (congr 1; rw [IntKind.wrap_u64]; omega)), (by first | rfl | (simp; done) | (simp [*]; done) | (congr 1; (try unfold wrap64); omega) | (congr 1; rw [IntKind.wrap_u64]; omega)), (by first | rfl | (simp; done) | (simp [*]; done) | (congr 1; (try unfold wrap64); omega) | (congr 1; rw [IntKind.wrap_u64]; omega)), H', ⟨Nat.le_refl _⟩, by repeat (first | exact Drawn0.refl _ | apply Drawn0.step)⟩
 case round =>
  clear H'
  try clear c1 p2
  obtain ⟨x6_1, x7_1, x8_1, rfl, rfl, rfl, HA, HK1, ⟨m1, rfl⟩⟩ := hrel
  cases gk with
  |zero => exact absurd HA.out (by simp [annealref1_nans.l0])
  |succ k1 =>
   have H := HA.out
   clear HA
   simp only [annealref1_nans.l0] at H
   by_cases c3 : x8_1 < (l1.length : Int)
   ·rw [if_pos c3] at H
    have c3b0 : decide (x8_1 < (l1.length : Int)) = true := decide_eq_true c3
    clear c3
    by_cases c4 : 0 ≤ x8_1
    ·rw [if_pos c4] at H
     have c4b0 : decide (0 ≤ x8_1) = true := decide_eq_true c4
     clear c4
     replace H := Option.bind_eq_some_iff.mp H
     obtain ⟨t295, A50, H⟩ := H
     replace H : (if x6_1 = true then (if x7_1 = true then (annealref1_nans.l0 k1 a0 l1 true true (wrap64 (x8_1 + 1))) else (annealref1_nans.l0 k1 a0 l1 true (t295 == 5) (wrap64 (x8_1 + 1)))) else (if t295 = 4 then (if x7_1 = true then (annealref1_nans.l0 k1 a0 l1 true true (wrap64 (x8_1 + 1))) else (annealref1_nans.l0 k1 a0 l1 true (t295 == 5) (wrap64 (x8_1 + 1)))) else (if x7_1 = true then (annealref1_nans.l0 k1 a0 l1 (t295 == 5) true (wrap64 (x8_1 + 1))) else (annealref1_nans.l0 k1 a0 l1 (t295 == 5) (t295 == 5) (wrap64 (x8_1 + 1)))))) = some (r1, r2) := H
     have A5 := Aside0.mk A50
     clear A50
     by_cases c6 : x6_1 = true
     ·subst c6
      have H1 : (if x7_1 = true then (annealref1_nans.l0 k1 a0 l1 true true (wrap64 (x8_1 + 1))) else (annealref1_nans.l0 k1 a0 l1 true (t295 == 5) (wrap64 (x8_1 + 1)))) = some (r1, r2) := by rw [if_pos rfl] at H; exact H
      clear H
      have H := H1
      clear H1
      by_cases c7 : x7_1 = true
      ·subst c7
       have H1 : (annealref1_nans.l0 k1 a0 l1 true true (wrap64 (x8_1 + 1))) = some (r1, r2) := by rw [if_pos rfl] at H; exact H
       clear H
       have H := H1
       clear H1
       have H' := Aside0.mk H
       clear H
       have p294 : 0 ≤ (x8_1 : Int) := of_decide_eq_true (by first | (with_reducible assumption) | assumption)
       have q294 : x8_1 < (l1.length : Int) := of_decide_eq_true (by first | (with_reducible assumption) | assumption)
       obtain ⟨ad294, e294, hx294_0⟩ := Kd.at_int HR1.out x8_1 p294 q294
       cases e294
       replace p294 := eq_true p294
       replace q294 := eq_true q294
       go_wp2_with (first | ((with_reducible refine gate_callee (f := 96) rfl ?_); refine goesL_ (some 21) rfl rfl Try.func96 (by kernel_rfl) rfl #[.int .i64 a0, .int .u32 (rd l1 x8_1)] rfl gl ?_; (with_reducible refine (annealref1_Class.calls k1 a0 (rd l1 x8_1) t295 _ A5.out).mono ?_); rintro e w' ⟨rfl, ⟨nd, rfl⟩⟩; refine ⟨_, rfl, ?_⟩))
       go_roundg k1
       case measure => have := HK1.out; omega
       case rel => exact ⟨(true), (true), (wrap64 (x8_1 + 1)), (by first | rfl | (simp; done) | (simp [*]; done) | (congr 1; (try unfold wrap64); omega) | (congr 1; rw [IntKind.wrap_u64]; omega)), (by first | rfl | (simp; done) | (simp [*]; done) | (congr 1; (try unfold wrap64); omega) | (congr 1; rw [IntKind.wrap_u64]; omega)), (by first | rfl | (simp; done) | (simp [*]; done) | (congr 1; (try unfold wrap64); omega) | (congr 1; rw [IntKind.wrap_u64]; omega)), H', ⟨by have := HK1.out; omega⟩, by repeat (first | exact Drawn0.refl _ | apply Drawn0.step)⟩
      ·replace c7 := Bool.eq_false_iff.mpr c7
       subst c7
       have H1 : (annealref1_nans.l0 k1 a0 l1 true (t295 == 5) (wrap64 (x8_1 + 1))) = some (r1, r2) := by rw [if_neg (show ¬ (false = true) by decide)] at H; exact H
       clear H
       have H := H1
       clear H1
       have H' := Aside0.mk H
       clear H
       have p294 : 0 ≤ (x8_1 : Int) := of_decide_eq_true (by first | (with_reducible assumption) | assumption)
       have q294 : x8_1 < (l1.length : Int) := of_decide_eq_true (by first | (with_reducible assumption) | assumption)
       obtain ⟨ad294, e294, hx294_0⟩ := Kd.at_int HR1.out x8_1 p294 q294
       cases e294
       replace p294 := eq_true p294
       replace q294 := eq_true q294
       go_wp2_with (first | ((with_reducible refine gate_callee (f := 96) rfl ?_); refine goesL_ (some 21) rfl rfl Try.func96 (by kernel_rfl) rfl #[.int .i64 a0, .int .u32 (rd l1 x8_1)] rfl gl ?_; (with_reducible refine (annealref1_Class.calls k1 a0 (rd l1 x8_1) t295 _ A5.out).mono ?_); rintro e w' ⟨rfl, ⟨nd, rfl⟩⟩; refine ⟨_, rfl, ?_⟩))
       go_roundg k1
       case measure => have := HK1.out; omega
       case rel => exact ⟨(true), ((t295 == 5)), (wrap64 (x8_1 + 1)), (by first | rfl | (simp; done) | (simp [*]; done) | (congr 1; (try unfold wrap64); omega) | (congr 1; rw [IntKind.wrap_u64]; omega)), (by first | rfl | (simp; done) | (simp [*]; done) | (congr 1; (try unfold wrap64); omega) | (congr 1; rw [IntKind.wrap_u64]; omega)), (by first | rfl | (simp; done) | (simp [*]; done) | (congr 1; (try unfold wrap64); omega) | (congr 1; rw [IntKind.wrap_u64]; omega)), H', ⟨by have := HK1.out; omega⟩, by repeat (first | exact Drawn0.refl _ | apply Drawn0.step)⟩
     ·replace c6 := Bool.eq_false_iff.mpr c6
      subst c6
      have H1 : (if t295 = 4 then (if x7_1 = true then (annealref1_nans.l0 k1 a0 l1 true true (wrap64 (x8_1 + 1))) else (annealref1_nans.l0 k1 a0 l1 true (t295 == 5) (wrap64 (x8_1 + 1)))) else (if x7_1 = true then (annealref1_nans.l0 k1 a0 l1 (t295 == 5) true (wrap64 (x8_1 + 1))) else (annealref1_nans.l0 k1 a0 l1 (t295 == 5) (t295 == 5) (wrap64 (x8_1 + 1))))) = some (r1, r2) := by rw [if_neg (show ¬ (false = true) by decide)] at H; exact H
      clear H
      have H := H1
      clear H1
      by_cases c8 : t295 = 4
      ·rw [if_pos c8] at H
       have c8b0 : (t295 == 4) = true := beq_iff_eq.mpr c8
       have c8b1 : (t295 != 4) = false := bne_eq_false_iff_eq.mpr c8
       clear c8
       by_cases c9 : x7_1 = true
       ·subst c9
        have H1 : (annealref1_nans.l0 k1 a0 l1 true true (wrap64 (x8_1 + 1))) = some (r1, r2) := by rw [if_pos rfl] at H; exact H
        clear H
        have H := H1
        clear H1
        have H' := Aside0.mk H
        clear H
        have p294 : 0 ≤ (x8_1 : Int) := of_decide_eq_true (by first | (with_reducible assumption) | assumption)
        have q294 : x8_1 < (l1.length : Int) := of_decide_eq_true (by first | (with_reducible assumption) | assumption)
        obtain ⟨ad294, e294, hx294_0⟩ := Kd.at_int HR1.out x8_1 p294 q294
        cases e294
        replace p294 := eq_true p294
        replace q294 := eq_true q294
        go_wp2_with (first | ((with_reducible refine gate_callee (f := 96) rfl ?_); refine goesL_ (some 21) rfl rfl Try.func96 (by kernel_rfl) rfl #[.int .i64 a0, .int .u32 (rd l1 x8_1)] rfl gl ?_; (with_reducible refine (annealref1_Class.calls k1 a0 (rd l1 x8_1) t295 _ A5.out).mono ?_); rintro e w' ⟨rfl, ⟨nd, rfl⟩⟩; refine ⟨_, rfl, ?_⟩))
        go_roundg k1
        case measure => have := HK1.out; omega
        case rel => exact ⟨(true), (true), (wrap64 (x8_1 + 1)), (by first | rfl | (simp; done) | (simp [*]; done) | (congr 1; (try unfold wrap64); omega) | (congr 1; rw [IntKind.wrap_u64]; omega)), (by first | rfl | (simp; done) | (simp [*]; done) | (congr 1; (try unfold wrap64); omega) | (congr 1; rw [IntKind.wrap_u64]; omega)), (by first | rfl | (simp; done) | (simp [*]; done) | (congr 1; (try unfold wrap64); omega) | (congr 1; rw [IntKind.wrap_u64]; omega)), H', ⟨by have := HK1.out; omega⟩, by repeat (first | exact Drawn0.refl _ | apply Drawn0.step)⟩
       ·replace c9 := Bool.eq_false_iff.mpr c9
        subst c9
        have H1 : (annealref1_nans.l0 k1 a0 l1 true (t295 == 5) (wrap64 (x8_1 + 1))) = some (r1, r2) := by rw [if_neg (show ¬ (false = true) by decide)] at H; exact H
        clear H
        have H := H1
        clear H1
        have H' := Aside0.mk H
        clear H
        have p294 : 0 ≤ (x8_1 : Int) := of_decide_eq_true (by first | (with_reducible assumption) | assumption)
        have q294 : x8_1 < (l1.length : Int) := of_decide_eq_true (by first | (with_reducible assumption) | assumption)
        obtain ⟨ad294, e294, hx294_0⟩ := Kd.at_int HR1.out x8_1 p294 q294
        cases e294
        replace p294 := eq_true p294
        replace q294 := eq_true q294
        go_wp2_with (first | ((with_reducible refine gate_callee (f := 96) rfl ?_); refine goesL_ (some 21) rfl rfl Try.func96 (by kernel_rfl) rfl #[.int .i64 a0, .int .u32 (rd l1 x8_1)] rfl gl ?_; (with_reducible refine (annealref1_Class.calls k1 a0 (rd l1 x8_1) t295 _ A5.out).mono ?_); rintro e w' ⟨rfl, ⟨nd, rfl⟩⟩; refine ⟨_, rfl, ?_⟩))
        go_roundg k1
        case measure => have := HK1.out; omega
        case rel => exact ⟨(true), ((t295 == 5)), (wrap64 (x8_1 + 1)), (by first | rfl | (simp; done) | (simp [*]; done) | (congr 1; (try unfold wrap64); omega) | (congr 1; rw [IntKind.wrap_u64]; omega)), (by first | rfl | (simp; done) | (simp [*]; done) | (congr 1; (try unfold wrap64); omega) | (congr 1; rw [IntKind.wrap_u64]; omega)), (by first | rfl | (simp; done) | (simp [*]; done) | (congr 1; (try unfold wrap64); omega) | (congr 1; rw [IntKind.wrap_u64]; omega)), H', ⟨by have := HK1.out; omega⟩, by repeat (first | exact Drawn0.refl _ | apply Drawn0.step)⟩
      ·rw [if_neg c8] at H
       have c8b0 : (t295 == 4) = false := beq_eq_false_iff_ne.mpr c8
       have c8b1 : (t295 != 4) = true := bne_iff_ne.mpr c8
       by_cases c10 : x7_1 = true
       ·subst c10
        have H1 : (annealref1_nans.l0 k1 a0 l1 (t295 == 5) true (wrap64 (x8_1 + 1))) = some (r1, r2) := by rw [if_pos rfl] at H; exact H
        clear H
        have H := H1
        clear H1
        have H' := Aside0.mk H
        clear H
        have p294 : 0 ≤ (x8_1 : Int) := of_decide_eq_true (by first | (with_reducible assumption) | assumption)
        have q294 : x8_1 < (l1.length : Int) := of_decide_eq_true (by first | (with_reducible assumption) | assumption)
        obtain ⟨ad294, e294, hx294_0⟩ := Kd.at_int HR1.out x8_1 p294 q294
        cases e294
        replace p294 := eq_true p294
        replace q294 := eq_true q294
        go_wp2_with (first | ((with_reducible refine gate_callee (f := 96) rfl ?_); refine goesL_ (some 21) rfl rfl Try.func96 (by kernel_rfl) rfl #[.int .i64 a0, .int .u32 (rd l1 x8_1)] rfl gl ?_; (with_reducible refine (annealref1_Class.calls k1 a0 (rd l1 x8_1) t295 _ A5.out).mono ?_); rintro e w' ⟨rfl, ⟨nd, rfl⟩⟩; refine ⟨_, rfl, ?_⟩))
        go_roundg k1
        case measure => have := HK1.out; omega
        case rel => exact ⟨((t295 == 5)), (true), (wrap64 (x8_1 + 1)), (by first | rfl | (simp; done) | (simp [*]; done) | (congr 1; (try unfold wrap64); omega) | (congr 1; rw [IntKind.wrap_u64]; omega)), (by first | rfl | (simp; done) | (simp [*]; done) | (congr 1; (try unfold wrap64); omega) | (congr 1; rw [IntKind.wrap_u64]; omega)), (by first | rfl | (simp; done) | (simp [*]; done) | (congr 1; (try unfold wrap64); omega) | (congr 1; rw [IntKind.wrap_u64]; omega)), H', ⟨by have := HK1.out; omega⟩, by repeat (first | exact Drawn0.refl _ | apply Drawn0.step)⟩
       ·replace c10 := Bool.eq_false_iff.mpr c10
        subst c10
        have H1 : (annealref1_nans.l0 k1 a0 l1 (t295 == 5) (t295 == 5) (wrap64 (x8_1 + 1))) = some (r1, r2) := by rw [if_neg (show ¬ (false = true) by decide)] at H; exact H
        clear H
        have H := H1
        clear H1
        have H' := Aside0.mk H
        clear H
        have p294 : 0 ≤ (x8_1 : Int) := of_decide_eq_true (by first | (with_reducible assumption) | assumption)
        have q294 : x8_1 < (l1.length : Int) := of_decide_eq_true (by first | (with_reducible assumption) | assumption)
        obtain ⟨ad294, e294, hx294_0⟩ := Kd.at_int HR1.out x8_1 p294 q294
        cases e294
        replace p294 := eq_true p294
        replace q294 := eq_true q294
        go_wp2_with (first | ((with_reducible refine gate_callee (f := 96) rfl ?_); refine goesL_ (some 21) rfl rfl Try.func96 (by kernel_rfl) rfl #[.int .i64 a0, .int .u32 (rd l1 x8_1)] rfl gl ?_; (with_reducible refine (annealref1_Class.calls k1 a0 (rd l1 x8_1) t295 _ A5.out).mono ?_); rintro e w' ⟨rfl, ⟨nd, rfl⟩⟩; refine ⟨_, rfl, ?_⟩))
        go_roundg k1
        case measure => have := HK1.out; omega
        case rel => exact ⟨((t295 == 5)), ((t295 == 5)), (wrap64 (x8_1 + 1)), (by first | rfl | (simp; done) | (simp [*]; done) | (congr 1; (try unfold wrap64); omega) | (congr 1; rw [IntKind.wrap_u64]; omega)), (by first | rfl | (simp; done) | (simp [*]; done) | (congr 1; (try unfold wrap64); omega) | (congr 1; rw [IntKind.wrap_u64]; omega)), (by first | rfl | (simp; done) | (simp [*]; done) | (congr 1; (try unfold wrap64); omega) | (congr 1; rw [IntKind.wrap_u64]; omega)), H', ⟨by have := HK1.out; omega⟩, by repeat (first | exact Drawn0.refl _ | apply Drawn0.step)⟩
    ·rw [if_neg c4] at H
     exact absurd H (by simp)
   ·rw [if_neg c3] at H
    have c3b0 : decide (x8_1 < (l1.length : Int)) = false := decide_eq_false c3
    clear c3
    simp only [Option.some.injEq, Prod.mk.injEq] at H
    obtain ⟨rfl, rfl⟩ := H
    go_wp2
    go_ret2
    exact ⟨by first | rfl | (simp; done) | (simp [*]; done) | (congr 1; (try unfold wrap64); omega) | (congr 1; rw [IntKind.wrap_u64]; omega), by repeat (first | exact Drawn0.refl _ | apply Drawn0.step)⟩

/-! ### annealref1_zero: function 72 -/
def annealref1_zero.f (k : Nat) (a0 : Int) (a1 : Int) : Option (Bool) := (annealref1_Class.f k a0 a1).bind fun t296 => (some (t296 == 0))
set_option maxHeartbeats 8000000 in
set_option maxRecDepth 100000 in
theorem annealref1_zero.calls (k : Nat) (a0 : Int) (a1 : Int) (r : Bool) (w : World) (h : annealref1_zero.f k a0 a1 = some r) :
  Calls Try.prog 72 #[.int .i64 a0, .int .u32 a1] w fun e w' => e = .returned (.bool r) ∧ Drawn0 w w' := by
 have H : ((annealref1_Class.f k a0 a1).bind fun t296 => (some (t296 == 0))) = some r := h
 clear h
 replace H := Option.bind_eq_some_iff.mp H
 obtain ⟨t296, A30, H⟩ := H
 replace H : (some (t296 == 0)) = some r := H
 have A3 := Aside0.mk A30
 clear A30
 obtain rfl := Option.some.inj H
 go_enter Try.func72, Try.ntmps72
 go_wp2_with (first | ((with_reducible refine gate_callee (f := 96) rfl ?_); refine goesL_ (some 7) rfl rfl Try.func96 (by kernel_rfl) rfl #[.int .i64 a0, .int .u32 a1] rfl gl ?_; (with_reducible refine (annealref1_Class.calls k a0 a1 t296 _ A3.out).mono ?_); rintro e w' ⟨rfl, ⟨nd, rfl⟩⟩; refine ⟨_, rfl, ?_⟩))
 go_ret
 exact ⟨by first | rfl | (simp; done) | (simp [*]; done) | (congr 1; (try unfold wrap64); omega) | (congr 1; rw [IntKind.wrap_u64]; omega), by repeat (first | exact Drawn0.refl _ | apply Drawn0.step)⟩

end Go.Proofs.Ytngkpekmgahjiaa.P

-- Printed by a program of this session's out of Lean's print of the translation; Lean checks it.
namespace Go.Proofs.Ytngkpekmgahjiaa.P
open Go.RowKit Go.Proofs.YtngkpekmgahjiaaW.PrintWords Go.Proofs.YtngkpekmgahjiaaW.PrintLast Go.Proofs.YtngkpekmgahjiaaW.PrintMore
attribute [local go_sem] max2_int min2_int max_two min_two max_three min_three max_four min_four   -- for this text's walks alone
set_option linter.unusedVariables false
set_option linter.unusedSimpArgs false

/-! ### annealref1_Nan: function 43 -/
def annealref1_Nan.f (a0 : Int) : Option (Int) := (annealref1_Widths.f a0).bind fun bt484 => ((annealref1_Inf.f a0 false).bind fun t486 => (if 0 ≤ (wrap64 (bt484.2 - 1)) then (some (Go.bits .or .u32 t486 (shl .u32 1 (wrap64 (bt484.2 - 1))))) else (none)))
set_option maxHeartbeats 8000000 in
set_option maxRecDepth 100000 in
theorem annealref1_Nan.calls (a0 : Int) (r : Int) (w : World) (h : annealref1_Nan.f a0 = some r) :
  Calls Try.prog 43 #[.int .i64 a0] w fun e w' => e = .returned (.int .u32 r) ∧ Drawn0 w w' := by
 have H : ((annealref1_Widths.f a0).bind fun bt484 => ((annealref1_Inf.f a0 false).bind fun t486 => (if 0 ≤ (wrap64 (bt484.2 - 1)) then (some (Go.bits .or .u32 t486 (shl .u32 1 (wrap64 (bt484.2 - 1))))) else (none)))) = some r := h
 clear h
 replace H := Option.bind_eq_some_iff.mp H
 obtain ⟨⟨t484, t485⟩, A20, H⟩ := H
 replace H : ((annealref1_Inf.f a0 false).bind fun t486 => (if 0 ≤ (wrap64 (t485 - 1)) then (some (Go.bits .or .u32 t486 (shl .u32 1 (wrap64 (t485 - 1))))) else (none))) = some r := H
 have A2 := Aside0.mk A20
 clear A20
 replace H := Option.bind_eq_some_iff.mp H
 obtain ⟨t486, A30, H⟩ := H
 replace H : (if 0 ≤ (wrap64 (t485 - 1)) then (some (Go.bits .or .u32 t486 (shl .u32 1 (wrap64 (t485 - 1))))) else (none)) = some r := H
 have A3 := Aside0.mk A30
 clear A30
 obtain ⟨ji4, hji4⟩ : ∃ j_ : Int, (wrap64 (t485 - 1)) = j_ := ⟨_, rfl⟩
 replace H : (if 0 ≤ (ji4) then (some (Go.bits .or .u32 t486 (shl .u32 1 (ji4)))) else (none)) = some r := by first | (rw [hji4] at H; exact H) | (simp only [hji4] at H ⊢; exact H)
 (try rw [hji4] at A2)
 (try rw [hji4] at A3)
 have hji4w : (IntKind.i64.wrap (t485 - 1)) = ji4 := (i64_w _).trans hji4
 by_cases c5 : 0 ≤ (ji4)
 ·rw [if_pos c5] at H
  have c5b0 := eq_true c5
  have c5b1 : decide (0 ≤ (ji4)) = true := decide_eq_true c5
  clear c5
  obtain ⟨ji6, hji6⟩ : ∃ j_ : Int, (shl .u32 1 (ji4)) = j_ := ⟨_, rfl⟩
  replace H : (some (Go.bits .or .u32 t486 (ji6))) = some r := by first | (rw [hji6] at H; exact H) | (simp only [hji6] at H ⊢; exact H)
  (try rw [hji6] at A2)
  (try rw [hji6] at A3)
  have hji6_ : (IntKind.u32.wrap (1 * 2 ^ min (ji4).toNat 32)) = ji6 := hji6
  have hji6z : (ji4) ≤ 32 → (IntKind.u32.wrap (1 * 2 ^ (ji4).toNat)) = ji6 := shl_small hji6
  have hji6u : (IntKind.u32.wrap (2 ^ min (ji4).toNat 32)) = ji6 := by have h_ := hji6_; rw [Int.one_mul] at h_; exact h_
  have hji6v : (ji4) ≤ 32 → (IntKind.u32.wrap (2 ^ (ji4).toNat)) = ji6 := fun hle_ => by have h_ := hji6z hle_; rw [Int.one_mul] at h_; exact h_
  obtain rfl := Option.some.inj H
  go_enter Try.func43, Try.ntmps43
  go_wp2_with (first | (go_at_call 49; (with_reducible refine (annealref1_Widths.calls a0 t484 t485 _ A2.out).mono ?_); rintro e w' ⟨rfl, ⟨nd, rfl⟩⟩; (try first | exact ⟨rfl, _, World.drewN_drewN _ _ _⟩ | exact ⟨rfl, _, Eq.trans (World.drewN_drewN _ _ _) (congrArg (World.drewN _) (Nat.add_assoc _ _ _))⟩)) | (go_at_call 30; (with_reducible refine (annealref1_Inf.calls a0 false t486 _ A3.out).mono ?_); rintro e w' ⟨rfl, ⟨nd, rfl⟩⟩; (try first | exact ⟨rfl, _, World.drewN_drewN _ _ _⟩ | exact ⟨rfl, _, Eq.trans (World.drewN_drewN _ _ _) (congrArg (World.drewN _) (Nat.add_assoc _ _ _))⟩)))
  repeat (go_quiet (first | (go_at_call 49; (with_reducible refine (annealref1_Widths.calls a0 t484 t485 _ A2.out).mono ?_); rintro e w' ⟨rfl, ⟨nd, rfl⟩⟩; (try first | exact ⟨rfl, _, World.drewN_drewN _ _ _⟩ | exact ⟨rfl, _, Eq.trans (World.drewN_drewN _ _ _) (congrArg (World.drewN _) (Nat.add_assoc _ _ _))⟩)) | (go_at_call 30; (with_reducible refine (annealref1_Inf.calls a0 false t486 _ A3.out).mono ?_); rintro e w' ⟨rfl, ⟨nd, rfl⟩⟩; (try first | exact ⟨rfl, _, World.drewN_drewN _ _ _⟩ | exact ⟨rfl, _, Eq.trans (World.drewN_drewN _ _ _) (congrArg (World.drewN _) (Nat.add_assoc _ _ _))⟩))); try go_wp2_with (first | (go_at_call 49; (with_reducible refine (annealref1_Widths.calls a0 t484 t485 _ A2.out).mono ?_); rintro e w' ⟨rfl, ⟨nd, rfl⟩⟩; (try first | exact ⟨rfl, _, World.drewN_drewN _ _ _⟩ | exact ⟨rfl, _, Eq.trans (World.drewN_drewN _ _ _) (congrArg (World.drewN _) (Nat.add_assoc _ _ _))⟩)) | (go_at_call 30; (with_reducible refine (annealref1_Inf.calls a0 false t486 _ A3.out).mono ?_); rintro e w' ⟨rfl, ⟨nd, rfl⟩⟩; (try first | exact ⟨rfl, _, World.drewN_drewN _ _ _⟩ | exact ⟨rfl, _, Eq.trans (World.drewN_drewN _ _ _) (congrArg (World.drewN _) (Nat.add_assoc _ _ _))⟩))))
  go_ret
  exact ⟨by first | rfl | (simp; done) | (simp only [← hji4, ← hji6] <;> (first | rfl | (simp; done))) | (simp [*]; done) | (congr 1; (try unfold wrap64); omega) | (congr 1; rw [IntKind.wrap_u64]; omega), by repeat (first | exact Drawn0.refl _ | apply Drawn0.step)⟩
 ·rw [if_neg c5] at H
  exact absurd H (by simp)

/-! ### annealref1_Finite: function 58 -/
/-! ### annealref1_Unpack: function 60 -/
def annealref1_Unpack.f (k : Nat) (a0 : Int) (a1 : Int) : Option (Bool × Int × Int) := (annealref1_Widths.f a0).bind fun bt488 => ((annealref1_parts.f a0 a1).bind fun bt490 => ((annealref1_Class.f k a0 a1).bind fun t493 => (if t493 = 2 then ((annealref1_bias.f a0).bind fun t494 => (if 0 ≤ bt488.2 then (some (bt490.1, wrap64 ((wrap64 (bt490.2.1 - t494)) - bt488.2), Go.bits .or .u64 bt490.2.2 (shl .u64 1 bt488.2))) else (none))) else (if t493 = 0 then ((annealref1_bias.f a0).bind fun t495 => (some (bt490.1, wrap64 ((wrap64 (1 - t495)) - bt488.2), bt490.2.2))) else (if t493 = 1 then ((annealref1_bias.f a0).bind fun t496 => (some (bt490.1, wrap64 ((wrap64 (1 - t496)) - bt488.2), bt490.2.2))) else (some (bt490.1, 0, 0)))))))
set_option maxHeartbeats 8000000 in
set_option maxRecDepth 100000 in
theorem annealref1_Unpack.calls (k : Nat) (a0 : Int) (a1 : Int) (r1 : Bool) (r2 : Int) (r3 : Int) (w : World) (h : annealref1_Unpack.f k a0 a1 = some (r1, r2, r3)) :
  Calls Try.prog 60 #[.int .i64 a0, .int .u32 a1] w fun e w' => e = .returned (.tuple #[.bool r1, .int .i64 r2, .int .u64 r3]) ∧ Drawn0 w w' := by
 have H : ((annealref1_Widths.f a0).bind fun bt488 => ((annealref1_parts.f a0 a1).bind fun bt490 => ((annealref1_Class.f k a0 a1).bind fun t493 => (if t493 = 2 then ((annealref1_bias.f a0).bind fun t494 => (if 0 ≤ bt488.2 then (some (bt490.1, wrap64 ((wrap64 (bt490.2.1 - t494)) - bt488.2), Go.bits .or .u64 bt490.2.2 (shl .u64 1 bt488.2))) else (none))) else (if t493 = 0 then ((annealref1_bias.f a0).bind fun t495 => (some (bt490.1, wrap64 ((wrap64 (1 - t495)) - bt488.2), bt490.2.2))) else (if t493 = 1 then ((annealref1_bias.f a0).bind fun t496 => (some (bt490.1, wrap64 ((wrap64 (1 - t496)) - bt488.2), bt490.2.2))) else (some (bt490.1, 0, 0)))))))) = some (r1, r2, r3) := h
 clear h
 replace H := Option.bind_eq_some_iff.mp H
 obtain ⟨⟨t488, t489⟩, A30, H⟩ := H
 replace H : ((annealref1_parts.f a0 a1).bind fun bt490 => ((annealref1_Class.f k a0 a1).bind fun t493 => (if t493 = 2 then ((annealref1_bias.f a0).bind fun t494 => (if 0 ≤ t489 then (some (bt490.1, wrap64 ((wrap64 (bt490.2.1 - t494)) - t489), Go.bits .or .u64 bt490.2.2 (shl .u64 1 t489))) else (none))) else (if t493 = 0 then ((annealref1_bias.f a0).bind fun t495 => (some (bt490.1, wrap64 ((wrap64 (1 - t495)) - t489), bt490.2.2))) else (if t493 = 1 then ((annealref1_bias.f a0).bind fun t496 => (some (bt490.1, wrap64 ((wrap64 (1 - t496)) - t489), bt490.2.2))) else (some (bt490.1, 0, 0))))))) = some (r1, r2, r3) := H
 have A3 := Aside0.mk A30
 clear A30
 replace H := Option.bind_eq_some_iff.mp H
 obtain ⟨⟨t490, t491, t492⟩, A40, H⟩ := H
 replace H : ((annealref1_Class.f k a0 a1).bind fun t493 => (if t493 = 2 then ((annealref1_bias.f a0).bind fun t494 => (if 0 ≤ t489 then (some (t490, wrap64 ((wrap64 (t491 - t494)) - t489), Go.bits .or .u64 t492 (shl .u64 1 t489))) else (none))) else (if t493 = 0 then ((annealref1_bias.f a0).bind fun t495 => (some (t490, wrap64 ((wrap64 (1 - t495)) - t489), t492))) else (if t493 = 1 then ((annealref1_bias.f a0).bind fun t496 => (some (t490, wrap64 ((wrap64 (1 - t496)) - t489), t492))) else (some (t490, 0, 0)))))) = some (r1, r2, r3) := H
 have A4 := Aside0.mk A40
 clear A40
 replace H := Option.bind_eq_some_iff.mp H
 obtain ⟨t493, A50, H⟩ := H
 replace H : (if t493 = 2 then ((annealref1_bias.f a0).bind fun t494 => (if 0 ≤ t489 then (some (t490, wrap64 ((wrap64 (t491 - t494)) - t489), Go.bits .or .u64 t492 (shl .u64 1 t489))) else (none))) else (if t493 = 0 then ((annealref1_bias.f a0).bind fun t495 => (some (t490, wrap64 ((wrap64 (1 - t495)) - t489), t492))) else (if t493 = 1 then ((annealref1_bias.f a0).bind fun t496 => (some (t490, wrap64 ((wrap64 (1 - t496)) - t489), t492))) else (some (t490, 0, 0))))) = some (r1, r2, r3) := H
 have A5 := Aside0.mk A50
 clear A50
 by_cases c6 : t493 = 2
 ·rw [if_pos c6] at H
  have c6b0 : (t493 == 2) = true := beq_iff_eq.mpr c6
  have c6b1 : (t493 != 2) = false := bne_eq_false_iff_eq.mpr c6
  clear c6
  replace H := Option.bind_eq_some_iff.mp H
  obtain ⟨t494, A70, H⟩ := H
  replace H : (if 0 ≤ t489 then (some (t490, wrap64 ((wrap64 (t491 - t494)) - t489), Go.bits .or .u64 t492 (shl .u64 1 t489))) else (none)) = some (r1, r2, r3) := H
  have A7 := Aside0.mk A70
  clear A70
  by_cases c8 : 0 ≤ t489
  ·rw [if_pos c8] at H
   have c8b0 := eq_true c8
   have c8b1 : decide (0 ≤ t489) = true := decide_eq_true c8
   clear c8
   obtain ⟨ji9, hji9⟩ : ∃ j_ : Int, (shl .u64 1 t489) = j_ := ⟨_, rfl⟩
   replace H : (some (t490, wrap64 ((wrap64 (t491 - t494)) - t489), Go.bits .or .u64 t492 (ji9))) = some (r1, r2, r3) := by first | (rw [hji9] at H; exact H) | (simp only [hji9] at H ⊢; exact H)
   (try rw [hji9] at A3)
   (try rw [hji9] at A4)
   (try rw [hji9] at A5)
   (try rw [hji9] at A7)
   have hji9_ : (IntKind.u64.wrap (1 * 2 ^ min t489.toNat 64)) = ji9 := hji9
   have hji9z : t489 ≤ 64 → (IntKind.u64.wrap (1 * 2 ^ t489.toNat)) = ji9 := shl_small hji9
   have hji9u : (IntKind.u64.wrap (2 ^ min t489.toNat 64)) = ji9 := by have h_ := hji9_; rw [Int.one_mul] at h_; exact h_
   have hji9v : t489 ≤ 64 → (IntKind.u64.wrap (2 ^ t489.toNat)) = ji9 := fun hle_ => by have h_ := hji9z hle_; rw [Int.one_mul] at h_; exact h_
   simp only [Option.some.injEq, Prod.mk.injEq] at H
   obtain ⟨rfl, rfl, rfl⟩ := H
   go_enter Try.func60, Try.ntmps60
   go_wp2_with (first | (go_at_call 49; (with_reducible refine (annealref1_Widths.calls a0 t488 t489 _ A3.out).mono ?_); rintro e w' ⟨rfl, ⟨nd, rfl⟩⟩; (try first | exact ⟨rfl, _, World.drewN_drewN _ _ _⟩ | exact ⟨rfl, _, Eq.trans (World.drewN_drewN _ _ _) (congrArg (World.drewN _) (Nat.add_assoc _ _ _))⟩)) | (go_at_call 97; (with_reducible refine (annealref1_parts.calls a0 a1 t490 t491 t492 _ A4.out).mono ?_); rintro e w' ⟨rfl, ⟨nd, rfl⟩⟩; (try first | exact ⟨rfl, _, World.drewN_drewN _ _ _⟩ | exact ⟨rfl, _, Eq.trans (World.drewN_drewN _ _ _) (congrArg (World.drewN _) (Nat.add_assoc _ _ _))⟩)) | (go_at_call 96; (with_reducible refine (annealref1_Class.calls k a0 a1 t493 _ A5.out).mono ?_); rintro e w' ⟨rfl, ⟨nd, rfl⟩⟩; (try first | exact ⟨rfl, _, World.drewN_drewN _ _ _⟩ | exact ⟨rfl, _, Eq.trans (World.drewN_drewN _ _ _) (congrArg (World.drewN _) (Nat.add_assoc _ _ _))⟩)) | (go_at_call 90; (with_reducible refine (annealref1_bias.calls a0 t494 _ A7.out).mono ?_); rintro e w' ⟨rfl, ⟨nd, rfl⟩⟩; (try first | exact ⟨rfl, _, World.drewN_drewN _ _ _⟩ | exact ⟨rfl, _, Eq.trans (World.drewN_drewN _ _ _) (congrArg (World.drewN _) (Nat.add_assoc _ _ _))⟩)))
   repeat (go_quiet (first | (go_at_call 49; (with_reducible refine (annealref1_Widths.calls a0 t488 t489 _ A3.out).mono ?_); rintro e w' ⟨rfl, ⟨nd, rfl⟩⟩; (try first | exact ⟨rfl, _, World.drewN_drewN _ _ _⟩ | exact ⟨rfl, _, Eq.trans (World.drewN_drewN _ _ _) (congrArg (World.drewN _) (Nat.add_assoc _ _ _))⟩)) | (go_at_call 97; (with_reducible refine (annealref1_parts.calls a0 a1 t490 t491 t492 _ A4.out).mono ?_); rintro e w' ⟨rfl, ⟨nd, rfl⟩⟩; (try first | exact ⟨rfl, _, World.drewN_drewN _ _ _⟩ | exact ⟨rfl, _, Eq.trans (World.drewN_drewN _ _ _) (congrArg (World.drewN _) (Nat.add_assoc _ _ _))⟩)) | (go_at_call 96; (with_reducible refine (annealref1_Class.calls k a0 a1 t493 _ A5.out).mono ?_); rintro e w' ⟨rfl, ⟨nd, rfl⟩⟩; (try first | exact ⟨rfl, _, World.drewN_drewN _ _ _⟩ | exact ⟨rfl, _, Eq.trans (World.drewN_drewN _ _ _) (congrArg (World.drewN _) (Nat.add_assoc _ _ _))⟩)) | (go_at_call 90; (with_reducible refine (annealref1_bias.calls a0 t494 _ A7.out).mono ?_); rintro e w' ⟨rfl, ⟨nd, rfl⟩⟩; (try first | exact ⟨rfl, _, World.drewN_drewN _ _ _⟩ | exact ⟨rfl, _, Eq.trans (World.drewN_drewN _ _ _) (congrArg (World.drewN _) (Nat.add_assoc _ _ _))⟩))); try go_wp2_with (first | (go_at_call 49; (with_reducible refine (annealref1_Widths.calls a0 t488 t489 _ A3.out).mono ?_); rintro e w' ⟨rfl, ⟨nd, rfl⟩⟩; (try first | exact ⟨rfl, _, World.drewN_drewN _ _ _⟩ | exact ⟨rfl, _, Eq.trans (World.drewN_drewN _ _ _) (congrArg (World.drewN _) (Nat.add_assoc _ _ _))⟩)) | (go_at_call 97; (with_reducible refine (annealref1_parts.calls a0 a1 t490 t491 t492 _ A4.out).mono ?_); rintro e w' ⟨rfl, ⟨nd, rfl⟩⟩; (try first | exact ⟨rfl, _, World.drewN_drewN _ _ _⟩ | exact ⟨rfl, _, Eq.trans (World.drewN_drewN _ _ _) (congrArg (World.drewN _) (Nat.add_assoc _ _ _))⟩)) | (go_at_call 96; (with_reducible refine (annealref1_Class.calls k a0 a1 t493 _ A5.out).mono ?_); rintro e w' ⟨rfl, ⟨nd, rfl⟩⟩; (try first | exact ⟨rfl, _, World.drewN_drewN _ _ _⟩ | exact ⟨rfl, _, Eq.trans (World.drewN_drewN _ _ _) (congrArg (World.drewN _) (Nat.add_assoc _ _ _))⟩)) | (go_at_call 90; (with_reducible refine (annealref1_bias.calls a0 t494 _ A7.out).mono ?_); rintro e w' ⟨rfl, ⟨nd, rfl⟩⟩; (try first | exact ⟨rfl, _, World.drewN_drewN _ _ _⟩ | exact ⟨rfl, _, Eq.trans (World.drewN_drewN _ _ _) (congrArg (World.drewN _) (Nat.add_assoc _ _ _))⟩))))
   go_ret3
   exact ⟨by first | rfl | (simp; done) | (simp only [← hji9] <;> (first | rfl | (simp; done))) | (simp [*]; done) | (congr 1; (try unfold wrap64); omega) | (congr 1; rw [IntKind.wrap_u64]; omega), by repeat (first | exact Drawn0.refl _ | apply Drawn0.step)⟩
  ·rw [if_neg c8] at H
   exact absurd H (by simp)
 ·rw [if_neg c6] at H
  have c6b0 : (t493 == 2) = false := beq_eq_false_iff_ne.mpr c6
  have c6b1 : (t493 != 2) = true := bne_iff_ne.mpr c6
  by_cases c10 : t493 = 0
  ·rw [if_pos c10] at H
   have c10b0 : (t493 == 0) = true := beq_iff_eq.mpr c10
   have c10b1 : (t493 != 0) = false := bne_eq_false_iff_eq.mpr c10
   clear c10
   replace H := Option.bind_eq_some_iff.mp H
   obtain ⟨t495, A110, H⟩ := H
   replace H : (some (t490, wrap64 ((wrap64 (1 - t495)) - t489), t492)) = some (r1, r2, r3) := H
   have A11 := Aside0.mk A110
   clear A110
   simp only [Option.some.injEq, Prod.mk.injEq] at H
   obtain ⟨rfl, rfl, rfl⟩ := H
   go_enter Try.func60, Try.ntmps60
   go_wp2_with (first | (go_at_call 49; (with_reducible refine (annealref1_Widths.calls a0 t488 t489 _ A3.out).mono ?_); rintro e w' ⟨rfl, ⟨nd, rfl⟩⟩; (try first | exact ⟨rfl, _, World.drewN_drewN _ _ _⟩ | exact ⟨rfl, _, Eq.trans (World.drewN_drewN _ _ _) (congrArg (World.drewN _) (Nat.add_assoc _ _ _))⟩)) | (go_at_call 97; (with_reducible refine (annealref1_parts.calls a0 a1 t490 t491 t492 _ A4.out).mono ?_); rintro e w' ⟨rfl, ⟨nd, rfl⟩⟩; (try first | exact ⟨rfl, _, World.drewN_drewN _ _ _⟩ | exact ⟨rfl, _, Eq.trans (World.drewN_drewN _ _ _) (congrArg (World.drewN _) (Nat.add_assoc _ _ _))⟩)) | (go_at_call 96; (with_reducible refine (annealref1_Class.calls k a0 a1 t493 _ A5.out).mono ?_); rintro e w' ⟨rfl, ⟨nd, rfl⟩⟩; (try first | exact ⟨rfl, _, World.drewN_drewN _ _ _⟩ | exact ⟨rfl, _, Eq.trans (World.drewN_drewN _ _ _) (congrArg (World.drewN _) (Nat.add_assoc _ _ _))⟩)) | (go_at_call 90; (with_reducible refine (annealref1_bias.calls a0 t495 _ A11.out).mono ?_); rintro e w' ⟨rfl, ⟨nd, rfl⟩⟩; (try first | exact ⟨rfl, _, World.drewN_drewN _ _ _⟩ | exact ⟨rfl, _, Eq.trans (World.drewN_drewN _ _ _) (congrArg (World.drewN _) (Nat.add_assoc _ _ _))⟩)))
   repeat (go_quiet (first | (go_at_call 49; (with_reducible refine (annealref1_Widths.calls a0 t488 t489 _ A3.out).mono ?_); rintro e w' ⟨rfl, ⟨nd, rfl⟩⟩; (try first | exact ⟨rfl, _, World.drewN_drewN _ _ _⟩ | exact ⟨rfl, _, Eq.trans (World.drewN_drewN _ _ _) (congrArg (World.drewN _) (Nat.add_assoc _ _ _))⟩)) | (go_at_call 97; (with_reducible refine (annealref1_parts.calls a0 a1 t490 t491 t492 _ A4.out).mono ?_); rintro e w' ⟨rfl, ⟨nd, rfl⟩⟩; (try first | exact ⟨rfl, _, World.drewN_drewN _ _ _⟩ | exact ⟨rfl, _, Eq.trans (World.drewN_drewN _ _ _) (congrArg (World.drewN _) (Nat.add_assoc _ _ _))⟩)) | (go_at_call 96; (with_reducible refine (annealref1_Class.calls k a0 a1 t493 _ A5.out).mono ?_); rintro e w' ⟨rfl, ⟨nd, rfl⟩⟩; (try first | exact ⟨rfl, _, World.drewN_drewN _ _ _⟩ | exact ⟨rfl, _, Eq.trans (World.drewN_drewN _ _ _) (congrArg (World.drewN _) (Nat.add_assoc _ _ _))⟩)) | (go_at_call 90; (with_reducible refine (annealref1_bias.calls a0 t495 _ A11.out).mono ?_); rintro e w' ⟨rfl, ⟨nd, rfl⟩⟩; (try first | exact ⟨rfl, _, World.drewN_drewN _ _ _⟩ | exact ⟨rfl, _, Eq.trans (World.drewN_drewN _ _ _) (congrArg (World.drewN _) (Nat.add_assoc _ _ _))⟩))); try go_wp2_with (first | (go_at_call 49; (with_reducible refine (annealref1_Widths.calls a0 t488 t489 _ A3.out).mono ?_); rintro e w' ⟨rfl, ⟨nd, rfl⟩⟩; (try first | exact ⟨rfl, _, World.drewN_drewN _ _ _⟩ | exact ⟨rfl, _, Eq.trans (World.drewN_drewN _ _ _) (congrArg (World.drewN _) (Nat.add_assoc _ _ _))⟩)) | (go_at_call 97; (with_reducible refine (annealref1_parts.calls a0 a1 t490 t491 t492 _ A4.out).mono ?_); rintro e w' ⟨rfl, ⟨nd, rfl⟩⟩; (try first | exact ⟨rfl, _, World.drewN_drewN _ _ _⟩ | exact ⟨rfl, _, Eq.trans (World.drewN_drewN _ _ _) (congrArg (World.drewN _) (Nat.add_assoc _ _ _))⟩)) | (go_at_call 96; (with_reducible refine (annealref1_Class.calls k a0 a1 t493 _ A5.out).mono ?_); rintro e w' ⟨rfl, ⟨nd, rfl⟩⟩; (try first | exact ⟨rfl, _, World.drewN_drewN _ _ _⟩ | exact ⟨rfl, _, Eq.trans (World.drewN_drewN _ _ _) (congrArg (World.drewN _) (Nat.add_assoc _ _ _))⟩)) | (go_at_call 90; (with_reducible refine (annealref1_bias.calls a0 t495 _ A11.out).mono ?_); rintro e w' ⟨rfl, ⟨nd, rfl⟩⟩; (try first | exact ⟨rfl, _, World.drewN_drewN _ _ _⟩ | exact ⟨rfl, _, Eq.trans (World.drewN_drewN _ _ _) (congrArg (World.drewN _) (Nat.add_assoc _ _ _))⟩))))
   go_ret3
   exact ⟨by first | rfl | (simp; done) | (simp [*]; done) | (congr 1; (try unfold wrap64); omega) | (congr 1; rw [IntKind.wrap_u64]; omega), by repeat (first | exact Drawn0.refl _ | apply Drawn0.step)⟩
  ·rw [if_neg c10] at H
   have c10b0 : (t493 == 0) = false := beq_eq_false_iff_ne.mpr c10
   have c10b1 : (t493 != 0) = true := bne_iff_ne.mpr c10
   by_cases c12 : t493 = 1
   ·rw [if_pos c12] at H
    have c12b0 : (t493 == 1) = true := beq_iff_eq.mpr c12
    have c12b1 : (t493 != 1) = false := bne_eq_false_iff_eq.mpr c12
    clear c12
    replace H := Option.bind_eq_some_iff.mp H
    obtain ⟨t496, A130, H⟩ := H
    replace H : (some (t490, wrap64 ((wrap64 (1 - t496)) - t489), t492)) = some (r1, r2, r3) := H
    have A13 := Aside0.mk A130
    clear A130
    simp only [Option.some.injEq, Prod.mk.injEq] at H
    obtain ⟨rfl, rfl, rfl⟩ := H
    go_enter Try.func60, Try.ntmps60
    go_wp2_with (first | (go_at_call 49; (with_reducible refine (annealref1_Widths.calls a0 t488 t489 _ A3.out).mono ?_); rintro e w' ⟨rfl, ⟨nd, rfl⟩⟩; (try first | exact ⟨rfl, _, World.drewN_drewN _ _ _⟩ | exact ⟨rfl, _, Eq.trans (World.drewN_drewN _ _ _) (congrArg (World.drewN _) (Nat.add_assoc _ _ _))⟩)) | (go_at_call 97; (with_reducible refine (annealref1_parts.calls a0 a1 t490 t491 t492 _ A4.out).mono ?_); rintro e w' ⟨rfl, ⟨nd, rfl⟩⟩; (try first | exact ⟨rfl, _, World.drewN_drewN _ _ _⟩ | exact ⟨rfl, _, Eq.trans (World.drewN_drewN _ _ _) (congrArg (World.drewN _) (Nat.add_assoc _ _ _))⟩)) | (go_at_call 96; (with_reducible refine (annealref1_Class.calls k a0 a1 t493 _ A5.out).mono ?_); rintro e w' ⟨rfl, ⟨nd, rfl⟩⟩; (try first | exact ⟨rfl, _, World.drewN_drewN _ _ _⟩ | exact ⟨rfl, _, Eq.trans (World.drewN_drewN _ _ _) (congrArg (World.drewN _) (Nat.add_assoc _ _ _))⟩)) | (go_at_call 90; (with_reducible refine (annealref1_bias.calls a0 t496 _ A13.out).mono ?_); rintro e w' ⟨rfl, ⟨nd, rfl⟩⟩; (try first | exact ⟨rfl, _, World.drewN_drewN _ _ _⟩ | exact ⟨rfl, _, Eq.trans (World.drewN_drewN _ _ _) (congrArg (World.drewN _) (Nat.add_assoc _ _ _))⟩)))
    repeat (go_quiet (first | (go_at_call 49; (with_reducible refine (annealref1_Widths.calls a0 t488 t489 _ A3.out).mono ?_); rintro e w' ⟨rfl, ⟨nd, rfl⟩⟩; (try first | exact ⟨rfl, _, World.drewN_drewN _ _ _⟩ | exact ⟨rfl, _, Eq.trans (World.drewN_drewN _ _ _) (congrArg (World.drewN _) (Nat.add_assoc _ _ _))⟩)) | (go_at_call 97; (with_reducible refine (annealref1_parts.calls a0 a1 t490 t491 t492 _ A4.out).mono ?_); rintro e w' ⟨rfl, ⟨nd, rfl⟩⟩; (try first | exact ⟨rfl, _, World.drewN_drewN _ _ _⟩ | exact ⟨rfl, _, Eq.trans (World.drewN_drewN _ _ _) (congrArg (World.drewN _) (Nat.add_assoc _ _ _))⟩)) | (go_at_call 96; (with_reducible refine (annealref1_Class.calls k a0 a1 t493 _ A5.out).mono ?_); rintro e w' ⟨rfl, ⟨nd, rfl⟩⟩; (try first | exact ⟨rfl, _, World.drewN_drewN _ _ _⟩ | exact ⟨rfl, _, Eq.trans (World.drewN_drewN _ _ _) (congrArg (World.drewN _) (Nat.add_assoc _ _ _))⟩)) | (go_at_call 90; (with_reducible refine (annealref1_bias.calls a0 t496 _ A13.out).mono ?_); rintro e w' ⟨rfl, ⟨nd, rfl⟩⟩; (try first | exact ⟨rfl, _, World.drewN_drewN _ _ _⟩ | exact ⟨rfl, _, Eq.trans (World.drewN_drewN _ _ _) (congrArg (World.drewN _) (Nat.add_assoc _ _ _))⟩))); try go_wp2_with (first | (go_at_call 49; (with_reducible refine (annealref1_Widths.calls a0 t488 t489 _ A3.out).mono ?_); rintro e w' ⟨rfl, ⟨nd, rfl⟩⟩; (try first | exact ⟨rfl, _, World.drewN_drewN _ _ _⟩ | exact ⟨rfl, _, Eq.trans (World.drewN_drewN _ _ _) (congrArg (World.drewN _) (Nat.add_assoc _ _ _))⟩)) | (go_at_call 97; (with_reducible refine (annealref1_parts.calls a0 a1 t490 t491 t492 _ A4.out).mono ?_); rintro e w' ⟨rfl, ⟨nd, rfl⟩⟩; (try first | exact ⟨rfl, _, World.drewN_drewN _ _ _⟩ | exact ⟨rfl, _, Eq.trans (World.drewN_drewN _ _ _) (congrArg (World.drewN _) (Nat.add_assoc _ _ _))⟩)) | (go_at_call 96; (with_reducible refine (annealref1_Class.calls k a0 a1 t493 _ A5.out).mono ?_); rintro e w' ⟨rfl, ⟨nd, rfl⟩⟩; (try first | exact ⟨rfl, _, World.drewN_drewN _ _ _⟩ | exact ⟨rfl, _, Eq.trans (World.drewN_drewN _ _ _) (congrArg (World.drewN _) (Nat.add_assoc _ _ _))⟩)) | (go_at_call 90; (with_reducible refine (annealref1_bias.calls a0 t496 _ A13.out).mono ?_); rintro e w' ⟨rfl, ⟨nd, rfl⟩⟩; (try first | exact ⟨rfl, _, World.drewN_drewN _ _ _⟩ | exact ⟨rfl, _, Eq.trans (World.drewN_drewN _ _ _) (congrArg (World.drewN _) (Nat.add_assoc _ _ _))⟩))))
    go_ret3
    exact ⟨by first | rfl | (simp; done) | (simp [*]; done) | (congr 1; (try unfold wrap64); omega) | (congr 1; rw [IntKind.wrap_u64]; omega), by repeat (first | exact Drawn0.refl _ | apply Drawn0.step)⟩
   ·rw [if_neg c12] at H
    have c12b0 : (t493 == 1) = false := beq_eq_false_iff_ne.mpr c12
    have c12b1 : (t493 != 1) = true := bne_iff_ne.mpr c12
    simp only [Option.some.injEq, Prod.mk.injEq] at H
    obtain ⟨rfl, rfl, rfl⟩ := H
    go_enter Try.func60, Try.ntmps60
    go_wp2_with (first | (go_at_call 49; (with_reducible refine (annealref1_Widths.calls a0 t488 t489 _ A3.out).mono ?_); rintro e w' ⟨rfl, ⟨nd, rfl⟩⟩; (try first | exact ⟨rfl, _, World.drewN_drewN _ _ _⟩ | exact ⟨rfl, _, Eq.trans (World.drewN_drewN _ _ _) (congrArg (World.drewN _) (Nat.add_assoc _ _ _))⟩)) | (go_at_call 97; (with_reducible refine (annealref1_parts.calls a0 a1 t490 t491 t492 _ A4.out).mono ?_); rintro e w' ⟨rfl, ⟨nd, rfl⟩⟩; (try first | exact ⟨rfl, _, World.drewN_drewN _ _ _⟩ | exact ⟨rfl, _, Eq.trans (World.drewN_drewN _ _ _) (congrArg (World.drewN _) (Nat.add_assoc _ _ _))⟩)) | (go_at_call 96; (with_reducible refine (annealref1_Class.calls k a0 a1 t493 _ A5.out).mono ?_); rintro e w' ⟨rfl, ⟨nd, rfl⟩⟩; (try first | exact ⟨rfl, _, World.drewN_drewN _ _ _⟩ | exact ⟨rfl, _, Eq.trans (World.drewN_drewN _ _ _) (congrArg (World.drewN _) (Nat.add_assoc _ _ _))⟩)))
    repeat (go_quiet (first | (go_at_call 49; (with_reducible refine (annealref1_Widths.calls a0 t488 t489 _ A3.out).mono ?_); rintro e w' ⟨rfl, ⟨nd, rfl⟩⟩; (try first | exact ⟨rfl, _, World.drewN_drewN _ _ _⟩ | exact ⟨rfl, _, Eq.trans (World.drewN_drewN _ _ _) (congrArg (World.drewN _) (Nat.add_assoc _ _ _))⟩)) | (go_at_call 97; (with_reducible refine (annealref1_parts.calls a0 a1 t490 t491 t492 _ A4.out).mono ?_); rintro e w' ⟨rfl, ⟨nd, rfl⟩⟩; (try first | exact ⟨rfl, _, World.drewN_drewN _ _ _⟩ | exact ⟨rfl, _, Eq.trans (World.drewN_drewN _ _ _) (congrArg (World.drewN _) (Nat.add_assoc _ _ _))⟩)) | (go_at_call 96; (with_reducible refine (annealref1_Class.calls k a0 a1 t493 _ A5.out).mono ?_); rintro e w' ⟨rfl, ⟨nd, rfl⟩⟩; (try first | exact ⟨rfl, _, World.drewN_drewN _ _ _⟩ | exact ⟨rfl, _, Eq.trans (World.drewN_drewN _ _ _) (congrArg (World.drewN _) (Nat.add_assoc _ _ _))⟩))); try go_wp2_with (first | (go_at_call 49; (with_reducible refine (annealref1_Widths.calls a0 t488 t489 _ A3.out).mono ?_); rintro e w' ⟨rfl, ⟨nd, rfl⟩⟩; (try first | exact ⟨rfl, _, World.drewN_drewN _ _ _⟩ | exact ⟨rfl, _, Eq.trans (World.drewN_drewN _ _ _) (congrArg (World.drewN _) (Nat.add_assoc _ _ _))⟩)) | (go_at_call 97; (with_reducible refine (annealref1_parts.calls a0 a1 t490 t491 t492 _ A4.out).mono ?_); rintro e w' ⟨rfl, ⟨nd, rfl⟩⟩; (try first | exact ⟨rfl, _, World.drewN_drewN _ _ _⟩ | exact ⟨rfl, _, Eq.trans (World.drewN_drewN _ _ _) (congrArg (World.drewN _) (Nat.add_assoc _ _ _))⟩)) | (go_at_call 96; (with_reducible refine (annealref1_Class.calls k a0 a1 t493 _ A5.out).mono ?_); rintro e w' ⟨rfl, ⟨nd, rfl⟩⟩; (try first | exact ⟨rfl, _, World.drewN_drewN _ _ _⟩ | exact ⟨rfl, _, Eq.trans (World.drewN_drewN _ _ _) (congrArg (World.drewN _) (Nat.add_assoc _ _ _))⟩))))
    go_ret3
    exact ⟨by first | rfl | (simp; done) | (simp [*]; done) | (congr 1; (try unfold wrap64); omega) | (congr 1; rw [IntKind.wrap_u64]; omega), by repeat (first | exact Drawn0.refl _ | apply Drawn0.step)⟩

/-! ### annealref1_Scale: function 31 -/
end Go.Proofs.Ytngkpekmgahjiaa.P

-- Printed by a program of this session's out of Lean's print of the translation; Lean checks it.
namespace Go.Proofs.Ytngkpekmgahjiaa.P
open Go.RowKit Go.Proofs.YtngkpekmgahjiaaW.PrintWords Go.Proofs.YtngkpekmgahjiaaW.PrintLast Go.Proofs.YtngkpekmgahjiaaW.PrintMore
attribute [local go_sem] max2_int min2_int max_two min_two max_three min_three max_four min_four   -- for this text's walks alone
set_option linter.unusedVariables false
set_option linter.unusedSimpArgs false

/-! ### annealref1_inf: function 73 -/
def annealref1_inf.f (k : Nat) (a0 : Int) (a1 : Int) : Option (Bool) := (annealref1_Class.f k a0 a1).bind fun t672 => (some (t672 == 3))
set_option maxHeartbeats 8000000 in
set_option maxRecDepth 100000 in
theorem annealref1_inf.calls (k : Nat) (a0 : Int) (a1 : Int) (r : Bool) (w : World) (h : annealref1_inf.f k a0 a1 = some r) :
  Calls Try.prog 73 #[.int .i64 a0, .int .u32 a1] w fun e w' => e = .returned (.bool r) ∧ Drawn0 w w' := by
 have H : ((annealref1_Class.f k a0 a1).bind fun t672 => (some (t672 == 3))) = some r := h
 clear h
 replace H := Option.bind_eq_some_iff.mp H
 obtain ⟨t672, A30, H⟩ := H
 replace H : (some (t672 == 3)) = some r := H
 have A3 := Aside0.mk A30
 clear A30
 obtain rfl := Option.some.inj H
 go_enter Try.func73, Try.ntmps73
 go_wp2_with (first | ((with_reducible refine gate_callee (f := 96) rfl ?_); refine goesL_ (some 7) rfl rfl Try.func96 (by kernel_rfl) rfl #[.int .i64 a0, .int .u32 a1] rfl gl ?_; (with_reducible refine (annealref1_Class.calls k a0 a1 t672 _ A3.out).mono ?_); rintro e w' ⟨rfl, ⟨nd, rfl⟩⟩; refine ⟨_, rfl, ?_⟩))
 go_ret
 exact ⟨by first | rfl | (simp; done) | (simp [*]; done) | (congr 1; (try unfold wrap64); omega) | (congr 1; rw [IntKind.wrap_u64]; omega), by repeat (first | exact Drawn0.refl _ | apply Drawn0.step)⟩

end Go.Proofs.Ytngkpekmgahjiaa.P
