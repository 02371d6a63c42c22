import Derived.Test.YtngkpekmgahjiaaQwbM1
import Derived.Test.YtngkpekmgahjiaaQwbM3
import Derived.Test.YtngkpekmgahjiaaQwbPx28
import Derived.Test.YtngkpekmgahjiaaQwbM4
import Derived.Test.YtngkpekmgahjiaaQwbPx30
import Derived.Test.YtngkpekmgahjiaaQwbPx48
-- Printed by a program of this session's out of Lean's print of the translation; Lean checks it.
namespace Go.Proofs.Ytngkpekmgahjiaa.P
open Go.RowKit Go.Proofs.YtngkpekmgahjiaaW.PrintWords Go.Proofs.YtngkpekmgahjiaaW.PrintLast Go.Proofs.YtngkpekmgahjiaaW.PrintMore
attribute [local go_sem] max2_int min2_int max_two min_two max_three min_three max_four min_four   -- for this text's walks alone
set_option linter.unusedVariables false
set_option linter.unusedSimpArgs false

attribute [local go_sem high] eqA41
/-! ### anneallaw8_WholeBack: function 14 -/
def anneallaw8_WholeBack.j0 : Nat → Bool → Option (Bool)
  | 0, _ => none
  | k + 1, x8 => some x8
def anneallaw8_WholeBack.f (k : Nat) (a0 : Int) (a1 : Int) (a2 : Int) (a3 : Int) : Option (Bool) := (anneallaw8_known.f k).bind fun t1107 => (if t1107 = true then ((anneallaw8_form.f a0).bind fun t1108 => ((annealref1_Widths.f t1108).bind fun bt1109 => (if 0 ≤ (wrap64 (32 - bt1109.2)) then ((whole_FromInt.f k t1108 (wrap64 (Int.tmod a1 5)) (shr .i64 (wrap64 (a2)) (wrap64 (32 - bt1109.2)))).bind fun bt1111 => ((whole_ToInt.f k t1108 (wrap64 (Int.tmod a1 5)) bt1111.1).bind fun bt1118 => ((whole_Round.f k t1108 (wrap64 (Int.tmod a1 5)) bt1111.1).bind fun bt1125 => ((whole_Scale.f k t1108 (wrap64 (Int.tmod a1 5)) bt1111.1 (wrap64 (Int.tmod a3 4))).bind fun bt1132 => ((whole_Scale.f k t1108 (wrap64 (Int.tmod a1 5)) bt1132.1 (wrap64 (-(wrap64 (Int.tmod a3 4))))).bind fun bt1139 => (if (!bt1111.2.1 && (!bt1111.2.2.1 && (!bt1111.2.2.2.1 && (!bt1111.2.2.2.2.1 && (!bt1111.2.2.2.2.2))))) = true then (if (!bt1118.2.1 && (!bt1118.2.2.1 && (!bt1118.2.2.2.1 && (!bt1118.2.2.2.2.1 && (!bt1118.2.2.2.2.2))))) = true then (if (!bt1125.2.1 && (!bt1125.2.2.1 && (!bt1125.2.2.2.1 && (!bt1125.2.2.2.2.1 && (!bt1125.2.2.2.2.2))))) = true then (if (wrap64 (bt1118.1)) = (shr .i64 (wrap64 (a2)) (wrap64 (32 - bt1109.2))) then (if bt1125.1 = bt1111.1 then (if (!bt1132.2.1 && (!bt1132.2.2.1 && (!bt1132.2.2.2.1 && (!bt1132.2.2.2.2.1 && (!bt1132.2.2.2.2.2))))) = true then (if (!bt1139.2.1 && (!bt1139.2.2.1 && (!bt1139.2.2.2.1 && (!bt1139.2.2.2.2.1 && (!bt1139.2.2.2.2.2))))) = true then (anneallaw8_WholeBack.j0 k (bt1139.1 == bt1111.1)) else (anneallaw8_WholeBack.j0 k false)) else (anneallaw8_WholeBack.j0 k false)) else (anneallaw8_WholeBack.j0 k false)) else (anneallaw8_WholeBack.j0 k false)) else (anneallaw8_WholeBack.j0 k false)) else (anneallaw8_WholeBack.j0 k false)) else (anneallaw8_WholeBack.j0 k false))))))) else (none)))) else (some false))
set_option maxHeartbeats 8000000 in
set_option maxRecDepth 100000 in
theorem anneallaw8_WholeBack.calls (k : Nat) (a0 : Int) (a1 : Int) (a2 : Int) (a3 : Int) (r : Bool) (w : World) (h : anneallaw8_WholeBack.f k a0 a1 a2 a3 = some r) :
    Calls Try.prog 14 #[.int .u8 a0, .int .u8 a1, .int .i32 a2, .int .u8 a3] w fun e w' => e = .returned (.bool r) ∧ Below w.heap.size w w' := by
  have hu41 := Try.underlying41
  have HB := Aside0.mk (Below.refl w.heap.size w)
  have H : ((anneallaw8_known.f k).bind fun t1107 => (if t1107 = true then ((anneallaw8_form.f a0).bind fun t1108 => ((annealref1_Widths.f t1108).bind fun bt1109 => (if 0 ≤ (wrap64 (32 - bt1109.2)) then ((whole_FromInt.f k t1108 (wrap64 (Int.tmod a1 5)) (shr .i64 (wrap64 (a2)) (wrap64 (32 - bt1109.2)))).bind fun bt1111 => ((whole_ToInt.f k t1108 (wrap64 (Int.tmod a1 5)) bt1111.1).bind fun bt1118 => ((whole_Round.f k t1108 (wrap64 (Int.tmod a1 5)) bt1111.1).bind fun bt1125 => ((whole_Scale.f k t1108 (wrap64 (Int.tmod a1 5)) bt1111.1 (wrap64 (Int.tmod a3 4))).bind fun bt1132 => ((whole_Scale.f k t1108 (wrap64 (Int.tmod a1 5)) bt1132.1 (wrap64 (-(wrap64 (Int.tmod a3 4))))).bind fun bt1139 => (if (!bt1111.2.1 && (!bt1111.2.2.1 && (!bt1111.2.2.2.1 && (!bt1111.2.2.2.2.1 && (!bt1111.2.2.2.2.2))))) = true then (if (!bt1118.2.1 && (!bt1118.2.2.1 && (!bt1118.2.2.2.1 && (!bt1118.2.2.2.2.1 && (!bt1118.2.2.2.2.2))))) = true then (if (!bt1125.2.1 && (!bt1125.2.2.1 && (!bt1125.2.2.2.1 && (!bt1125.2.2.2.2.1 && (!bt1125.2.2.2.2.2))))) = true then (if (wrap64 (bt1118.1)) = (shr .i64 (wrap64 (a2)) (wrap64 (32 - bt1109.2))) then (if bt1125.1 = bt1111.1 then (if (!bt1132.2.1 && (!bt1132.2.2.1 && (!bt1132.2.2.2.1 && (!bt1132.2.2.2.2.1 && (!bt1132.2.2.2.2.2))))) = true then (if (!bt1139.2.1 && (!bt1139.2.2.1 && (!bt1139.2.2.2.1 && (!bt1139.2.2.2.2.1 && (!bt1139.2.2.2.2.2))))) = true then (anneallaw8_WholeBack.j0 k (bt1139.1 == bt1111.1)) else (anneallaw8_WholeBack.j0 k false)) else (anneallaw8_WholeBack.j0 k false)) else (anneallaw8_WholeBack.j0 k false)) else (anneallaw8_WholeBack.j0 k false)) else (anneallaw8_WholeBack.j0 k false)) else (anneallaw8_WholeBack.j0 k false)) else (anneallaw8_WholeBack.j0 k false))))))) else (none)))) else (some false))) = some r := h
  clear h
  replace H := Option.bind_eq_some_iff.mp H
  obtain ⟨t1107, A50, H⟩ := H
  replace H : (if t1107 = true then ((anneallaw8_form.f a0).bind fun t1108 => ((annealref1_Widths.f t1108).bind fun bt1109 => (if 0 ≤ (wrap64 (32 - bt1109.2)) then ((whole_FromInt.f k t1108 (wrap64 (Int.tmod a1 5)) (shr .i64 (wrap64 (a2)) (wrap64 (32 - bt1109.2)))).bind fun bt1111 => ((whole_ToInt.f k t1108 (wrap64 (Int.tmod a1 5)) bt1111.1).bind fun bt1118 => ((whole_Round.f k t1108 (wrap64 (Int.tmod a1 5)) bt1111.1).bind fun bt1125 => ((whole_Scale.f k t1108 (wrap64 (Int.tmod a1 5)) bt1111.1 (wrap64 (Int.tmod a3 4))).bind fun bt1132 => ((whole_Scale.f k t1108 (wrap64 (Int.tmod a1 5)) bt1132.1 (wrap64 (-(wrap64 (Int.tmod a3 4))))).bind fun bt1139 => (if (!bt1111.2.1 && (!bt1111.2.2.1 && (!bt1111.2.2.2.1 && (!bt1111.2.2.2.2.1 && (!bt1111.2.2.2.2.2))))) = true then (if (!bt1118.2.1 && (!bt1118.2.2.1 && (!bt1118.2.2.2.1 && (!bt1118.2.2.2.2.1 && (!bt1118.2.2.2.2.2))))) = true then (if (!bt1125.2.1 && (!bt1125.2.2.1 && (!bt1125.2.2.2.1 && (!bt1125.2.2.2.2.1 && (!bt1125.2.2.2.2.2))))) = true then (if (wrap64 (bt1118.1)) = (shr .i64 (wrap64 (a2)) (wrap64 (32 - bt1109.2))) then (if bt1125.1 = bt1111.1 then (if (!bt1132.2.1 && (!bt1132.2.2.1 && (!bt1132.2.2.2.1 && (!bt1132.2.2.2.2.1 && (!bt1132.2.2.2.2.2))))) = true then (if (!bt1139.2.1 && (!bt1139.2.2.1 && (!bt1139.2.2.2.1 && (!bt1139.2.2.2.2.1 && (!bt1139.2.2.2.2.2))))) = true then (anneallaw8_WholeBack.j0 k (bt1139.1 == bt1111.1)) else (anneallaw8_WholeBack.j0 k false)) else (anneallaw8_WholeBack.j0 k false)) else (anneallaw8_WholeBack.j0 k false)) else (anneallaw8_WholeBack.j0 k false)) else (anneallaw8_WholeBack.j0 k false)) else (anneallaw8_WholeBack.j0 k false)) else (anneallaw8_WholeBack.j0 k false))))))) else (none)))) else (some false)) = some r := H
  have A5 := Aside0.mk A50
  clear A50
  by_cases c6 : t1107 = true
  · subst c6
    have H1 : ((anneallaw8_form.f a0).bind fun t1108 => ((annealref1_Widths.f t1108).bind fun bt1109 => (if 0 ≤ (wrap64 (32 - bt1109.2)) then ((whole_FromInt.f k t1108 (wrap64 (Int.tmod a1 5)) (shr .i64 (wrap64 (a2)) (wrap64 (32 - bt1109.2)))).bind fun bt1111 => ((whole_ToInt.f k t1108 (wrap64 (Int.tmod a1 5)) bt1111.1).bind fun bt1118 => ((whole_Round.f k t1108 (wrap64 (Int.tmod a1 5)) bt1111.1).bind fun bt1125 => ((whole_Scale.f k t1108 (wrap64 (Int.tmod a1 5)) bt1111.1 (wrap64 (Int.tmod a3 4))).bind fun bt1132 => ((whole_Scale.f k t1108 (wrap64 (Int.tmod a1 5)) bt1132.1 (wrap64 (-(wrap64 (Int.tmod a3 4))))).bind fun bt1139 => (if (!bt1111.2.1 && (!bt1111.2.2.1 && (!bt1111.2.2.2.1 && (!bt1111.2.2.2.2.1 && (!bt1111.2.2.2.2.2))))) = true then (if (!bt1118.2.1 && (!bt1118.2.2.1 && (!bt1118.2.2.2.1 && (!bt1118.2.2.2.2.1 && (!bt1118.2.2.2.2.2))))) = true then (if (!bt1125.2.1 && (!bt1125.2.2.1 && (!bt1125.2.2.2.1 && (!bt1125.2.2.2.2.1 && (!bt1125.2.2.2.2.2))))) = true then (if (wrap64 (bt1118.1)) = (shr .i64 (wrap64 (a2)) (wrap64 (32 - bt1109.2))) then (if bt1125.1 = bt1111.1 then (if (!bt1132.2.1 && (!bt1132.2.2.1 && (!bt1132.2.2.2.1 && (!bt1132.2.2.2.2.1 && (!bt1132.2.2.2.2.2))))) = true then (if (!bt1139.2.1 && (!bt1139.2.2.1 && (!bt1139.2.2.2.1 && (!bt1139.2.2.2.2.1 && (!bt1139.2.2.2.2.2))))) = true then (anneallaw8_WholeBack.j0 k (bt1139.1 == bt1111.1)) else (anneallaw8_WholeBack.j0 k false)) else (anneallaw8_WholeBack.j0 k false)) else (anneallaw8_WholeBack.j0 k false)) else (anneallaw8_WholeBack.j0 k false)) else (anneallaw8_WholeBack.j0 k false)) else (anneallaw8_WholeBack.j0 k false)) else (anneallaw8_WholeBack.j0 k false))))))) else (none)))) = some r := by rw [if_pos rfl] at H; exact H
    clear H
    have H := H1
    clear H1
    replace H := Option.bind_eq_some_iff.mp H
    obtain ⟨t1108, A70, H⟩ := H
    replace H : ((annealref1_Widths.f t1108).bind fun bt1109 => (if 0 ≤ (wrap64 (32 - bt1109.2)) then ((whole_FromInt.f k t1108 (wrap64 (Int.tmod a1 5)) (shr .i64 (wrap64 (a2)) (wrap64 (32 - bt1109.2)))).bind fun bt1111 => ((whole_ToInt.f k t1108 (wrap64 (Int.tmod a1 5)) bt1111.1).bind fun bt1118 => ((whole_Round.f k t1108 (wrap64 (Int.tmod a1 5)) bt1111.1).bind fun bt1125 => ((whole_Scale.f k t1108 (wrap64 (Int.tmod a1 5)) bt1111.1 (wrap64 (Int.tmod a3 4))).bind fun bt1132 => ((whole_Scale.f k t1108 (wrap64 (Int.tmod a1 5)) bt1132.1 (wrap64 (-(wrap64 (Int.tmod a3 4))))).bind fun bt1139 => (if (!bt1111.2.1 && (!bt1111.2.2.1 && (!bt1111.2.2.2.1 && (!bt1111.2.2.2.2.1 && (!bt1111.2.2.2.2.2))))) = true then (if (!bt1118.2.1 && (!bt1118.2.2.1 && (!bt1118.2.2.2.1 && (!bt1118.2.2.2.2.1 && (!bt1118.2.2.2.2.2))))) = true then (if (!bt1125.2.1 && (!bt1125.2.2.1 && (!bt1125.2.2.2.1 && (!bt1125.2.2.2.2.1 && (!bt1125.2.2.2.2.2))))) = true then (if (wrap64 (bt1118.1)) = (shr .i64 (wrap64 (a2)) (wrap64 (32 - bt1109.2))) then (if bt1125.1 = bt1111.1 then (if (!bt1132.2.1 && (!bt1132.2.2.1 && (!bt1132.2.2.2.1 && (!bt1132.2.2.2.2.1 && (!bt1132.2.2.2.2.2))))) = true then (if (!bt1139.2.1 && (!bt1139.2.2.1 && (!bt1139.2.2.2.1 && (!bt1139.2.2.2.2.1 && (!bt1139.2.2.2.2.2))))) = true then (anneallaw8_WholeBack.j0 k (bt1139.1 == bt1111.1)) else (anneallaw8_WholeBack.j0 k false)) else (anneallaw8_WholeBack.j0 k false)) else (anneallaw8_WholeBack.j0 k false)) else (anneallaw8_WholeBack.j0 k false)) else (anneallaw8_WholeBack.j0 k false)) else (anneallaw8_WholeBack.j0 k false)) else (anneallaw8_WholeBack.j0 k false))))))) else (none))) = some r := H
    have A7 := Aside0.mk A70
    clear A70
    replace H := Option.bind_eq_some_iff.mp H
    obtain ⟨⟨t1109, t1110⟩, A80, H⟩ := H
    replace H : (if 0 ≤ (wrap64 (32 - t1110)) then ((whole_FromInt.f k t1108 (wrap64 (Int.tmod a1 5)) (shr .i64 (wrap64 (a2)) (wrap64 (32 - t1110)))).bind fun bt1111 => ((whole_ToInt.f k t1108 (wrap64 (Int.tmod a1 5)) bt1111.1).bind fun bt1118 => ((whole_Round.f k t1108 (wrap64 (Int.tmod a1 5)) bt1111.1).bind fun bt1125 => ((whole_Scale.f k t1108 (wrap64 (Int.tmod a1 5)) bt1111.1 (wrap64 (Int.tmod a3 4))).bind fun bt1132 => ((whole_Scale.f k t1108 (wrap64 (Int.tmod a1 5)) bt1132.1 (wrap64 (-(wrap64 (Int.tmod a3 4))))).bind fun bt1139 => (if (!bt1111.2.1 && (!bt1111.2.2.1 && (!bt1111.2.2.2.1 && (!bt1111.2.2.2.2.1 && (!bt1111.2.2.2.2.2))))) = true then (if (!bt1118.2.1 && (!bt1118.2.2.1 && (!bt1118.2.2.2.1 && (!bt1118.2.2.2.2.1 && (!bt1118.2.2.2.2.2))))) = true then (if (!bt1125.2.1 && (!bt1125.2.2.1 && (!bt1125.2.2.2.1 && (!bt1125.2.2.2.2.1 && (!bt1125.2.2.2.2.2))))) = true then (if (wrap64 (bt1118.1)) = (shr .i64 (wrap64 (a2)) (wrap64 (32 - t1110))) then (if bt1125.1 = bt1111.1 then (if (!bt1132.2.1 && (!bt1132.2.2.1 && (!bt1132.2.2.2.1 && (!bt1132.2.2.2.2.1 && (!bt1132.2.2.2.2.2))))) = true then (if (!bt1139.2.1 && (!bt1139.2.2.1 && (!bt1139.2.2.2.1 && (!bt1139.2.2.2.2.1 && (!bt1139.2.2.2.2.2))))) = true then (anneallaw8_WholeBack.j0 k (bt1139.1 == bt1111.1)) else (anneallaw8_WholeBack.j0 k false)) else (anneallaw8_WholeBack.j0 k false)) else (anneallaw8_WholeBack.j0 k false)) else (anneallaw8_WholeBack.j0 k false)) else (anneallaw8_WholeBack.j0 k false)) else (anneallaw8_WholeBack.j0 k false)) else (anneallaw8_WholeBack.j0 k false))))))) else (none)) = some r := H
    have A8 := Aside0.mk A80
    clear A80
    obtain ⟨ji9, hji9⟩ : ∃ j_ : Int, (wrap64 (32 - t1110)) = j_ := ⟨_, rfl⟩
    replace H : (if 0 ≤ (ji9) then ((whole_FromInt.f k t1108 (wrap64 (Int.tmod a1 5)) (shr .i64 (wrap64 (a2)) (ji9))).bind fun bt1111 => ((whole_ToInt.f k t1108 (wrap64 (Int.tmod a1 5)) bt1111.1).bind fun bt1118 => ((whole_Round.f k t1108 (wrap64 (Int.tmod a1 5)) bt1111.1).bind fun bt1125 => ((whole_Scale.f k t1108 (wrap64 (Int.tmod a1 5)) bt1111.1 (wrap64 (Int.tmod a3 4))).bind fun bt1132 => ((whole_Scale.f k t1108 (wrap64 (Int.tmod a1 5)) bt1132.1 (wrap64 (-(wrap64 (Int.tmod a3 4))))).bind fun bt1139 => (if (!bt1111.2.1 && (!bt1111.2.2.1 && (!bt1111.2.2.2.1 && (!bt1111.2.2.2.2.1 && (!bt1111.2.2.2.2.2))))) = true then (if (!bt1118.2.1 && (!bt1118.2.2.1 && (!bt1118.2.2.2.1 && (!bt1118.2.2.2.2.1 && (!bt1118.2.2.2.2.2))))) = true then (if (!bt1125.2.1 && (!bt1125.2.2.1 && (!bt1125.2.2.2.1 && (!bt1125.2.2.2.2.1 && (!bt1125.2.2.2.2.2))))) = true then (if (wrap64 (bt1118.1)) = (shr .i64 (wrap64 (a2)) (ji9)) then (if bt1125.1 = bt1111.1 then (if (!bt1132.2.1 && (!bt1132.2.2.1 && (!bt1132.2.2.2.1 && (!bt1132.2.2.2.2.1 && (!bt1132.2.2.2.2.2))))) = true then (if (!bt1139.2.1 && (!bt1139.2.2.1 && (!bt1139.2.2.2.1 && (!bt1139.2.2.2.2.1 && (!bt1139.2.2.2.2.2))))) = true then (anneallaw8_WholeBack.j0 k (bt1139.1 == bt1111.1)) else (anneallaw8_WholeBack.j0 k false)) else (anneallaw8_WholeBack.j0 k false)) else (anneallaw8_WholeBack.j0 k false)) else (anneallaw8_WholeBack.j0 k false)) else (anneallaw8_WholeBack.j0 k false)) else (anneallaw8_WholeBack.j0 k false)) else (anneallaw8_WholeBack.j0 k false))))))) else (none)) = some r := by first | (rw [hji9] at H; exact H) | (simp only [hji9] at H ⊢; exact H)
    (try rw [hji9] at A5)
    (try rw [hji9] at A7)
    (try rw [hji9] at A8)
    have hji9w : (IntKind.i64.wrap (32 - t1110)) = ji9 := (i64_w _).trans hji9
    by_cases c10 : 0 ≤ (ji9)
    · rw [if_pos c10] at H
      have c10b0 := eq_true c10
      have c10b1 : decide (0 ≤ (ji9)) = true := decide_eq_true c10
      clear c10
      obtain ⟨ji11, hji11⟩ : ∃ j_ : Int, (shr .i64 (wrap64 (a2)) (ji9)) = j_ := ⟨_, rfl⟩
      replace H : ((whole_FromInt.f k t1108 (wrap64 (Int.tmod a1 5)) (ji11)).bind fun bt1111 => ((whole_ToInt.f k t1108 (wrap64 (Int.tmod a1 5)) bt1111.1).bind fun bt1118 => ((whole_Round.f k t1108 (wrap64 (Int.tmod a1 5)) bt1111.1).bind fun bt1125 => ((whole_Scale.f k t1108 (wrap64 (Int.tmod a1 5)) bt1111.1 (wrap64 (Int.tmod a3 4))).bind fun bt1132 => ((whole_Scale.f k t1108 (wrap64 (Int.tmod a1 5)) bt1132.1 (wrap64 (-(wrap64 (Int.tmod a3 4))))).bind fun bt1139 => (if (!bt1111.2.1 && (!bt1111.2.2.1 && (!bt1111.2.2.2.1 && (!bt1111.2.2.2.2.1 && (!bt1111.2.2.2.2.2))))) = true then (if (!bt1118.2.1 && (!bt1118.2.2.1 && (!bt1118.2.2.2.1 && (!bt1118.2.2.2.2.1 && (!bt1118.2.2.2.2.2))))) = true then (if (!bt1125.2.1 && (!bt1125.2.2.1 && (!bt1125.2.2.2.1 && (!bt1125.2.2.2.2.1 && (!bt1125.2.2.2.2.2))))) = true then (if (wrap64 (bt1118.1)) = (ji11) then (if bt1125.1 = bt1111.1 then (if (!bt1132.2.1 && (!bt1132.2.2.1 && (!bt1132.2.2.2.1 && (!bt1132.2.2.2.2.1 && (!bt1132.2.2.2.2.2))))) = true then (if (!bt1139.2.1 && (!bt1139.2.2.1 && (!bt1139.2.2.2.1 && (!bt1139.2.2.2.2.1 && (!bt1139.2.2.2.2.2))))) = true then (anneallaw8_WholeBack.j0 k (bt1139.1 == bt1111.1)) else (anneallaw8_WholeBack.j0 k false)) else (anneallaw8_WholeBack.j0 k false)) else (anneallaw8_WholeBack.j0 k false)) else (anneallaw8_WholeBack.j0 k false)) else (anneallaw8_WholeBack.j0 k false)) else (anneallaw8_WholeBack.j0 k false)) else (anneallaw8_WholeBack.j0 k false))))))) = some r := by first | (rw [hji11] at H; exact H) | (simp only [hji11] at H ⊢; exact H)
      (try rw [hji11] at A5)
      (try rw [hji11] at A7)
      (try rw [hji11] at A8)
      have hji11_ : ((wrap64 (a2)) / 2 ^ min (ji9).toNat 64) = ji11 := hji11
      have hji11z : (ji9) ≤ 64 → ((wrap64 (a2)) / 2 ^ (ji9).toNat) = ji11 := shr_small hji11
      replace H := Option.bind_eq_some_iff.mp H
      obtain ⟨⟨t1111, t1112, t1113, t1114, t1115, t1116⟩, A120, H⟩ := H
      replace H : ((whole_ToInt.f k t1108 (wrap64 (Int.tmod a1 5)) t1111).bind fun bt1118 => ((whole_Round.f k t1108 (wrap64 (Int.tmod a1 5)) t1111).bind fun bt1125 => ((whole_Scale.f k t1108 (wrap64 (Int.tmod a1 5)) t1111 (wrap64 (Int.tmod a3 4))).bind fun bt1132 => ((whole_Scale.f k t1108 (wrap64 (Int.tmod a1 5)) bt1132.1 (wrap64 (-(wrap64 (Int.tmod a3 4))))).bind fun bt1139 => (if (!t1112 && (!t1113 && (!t1114 && (!t1115 && (!t1116))))) = true then (if (!bt1118.2.1 && (!bt1118.2.2.1 && (!bt1118.2.2.2.1 && (!bt1118.2.2.2.2.1 && (!bt1118.2.2.2.2.2))))) = true then (if (!bt1125.2.1 && (!bt1125.2.2.1 && (!bt1125.2.2.2.1 && (!bt1125.2.2.2.2.1 && (!bt1125.2.2.2.2.2))))) = true then (if (wrap64 (bt1118.1)) = (ji11) then (if bt1125.1 = t1111 then (if (!bt1132.2.1 && (!bt1132.2.2.1 && (!bt1132.2.2.2.1 && (!bt1132.2.2.2.2.1 && (!bt1132.2.2.2.2.2))))) = true then (if (!bt1139.2.1 && (!bt1139.2.2.1 && (!bt1139.2.2.2.1 && (!bt1139.2.2.2.2.1 && (!bt1139.2.2.2.2.2))))) = true then (anneallaw8_WholeBack.j0 k (bt1139.1 == t1111)) else (anneallaw8_WholeBack.j0 k false)) else (anneallaw8_WholeBack.j0 k false)) else (anneallaw8_WholeBack.j0 k false)) else (anneallaw8_WholeBack.j0 k false)) else (anneallaw8_WholeBack.j0 k false)) else (anneallaw8_WholeBack.j0 k false)) else (anneallaw8_WholeBack.j0 k false)))))) = some r := H
      have A12 := Aside0.mk A120
      clear A120
      replace H := Option.bind_eq_some_iff.mp H
      obtain ⟨⟨t1118, t1119, t1120, t1121, t1122, t1123⟩, A130, H⟩ := H
      replace H : ((whole_Round.f k t1108 (wrap64 (Int.tmod a1 5)) t1111).bind fun bt1125 => ((whole_Scale.f k t1108 (wrap64 (Int.tmod a1 5)) t1111 (wrap64 (Int.tmod a3 4))).bind fun bt1132 => ((whole_Scale.f k t1108 (wrap64 (Int.tmod a1 5)) bt1132.1 (wrap64 (-(wrap64 (Int.tmod a3 4))))).bind fun bt1139 => (if (!t1112 && (!t1113 && (!t1114 && (!t1115 && (!t1116))))) = true then (if (!t1119 && (!t1120 && (!t1121 && (!t1122 && (!t1123))))) = true then (if (!bt1125.2.1 && (!bt1125.2.2.1 && (!bt1125.2.2.2.1 && (!bt1125.2.2.2.2.1 && (!bt1125.2.2.2.2.2))))) = true then (if (wrap64 (t1118)) = (ji11) then (if bt1125.1 = t1111 then (if (!bt1132.2.1 && (!bt1132.2.2.1 && (!bt1132.2.2.2.1 && (!bt1132.2.2.2.2.1 && (!bt1132.2.2.2.2.2))))) = true then (if (!bt1139.2.1 && (!bt1139.2.2.1 && (!bt1139.2.2.2.1 && (!bt1139.2.2.2.2.1 && (!bt1139.2.2.2.2.2))))) = true then (anneallaw8_WholeBack.j0 k (bt1139.1 == t1111)) else (anneallaw8_WholeBack.j0 k false)) else (anneallaw8_WholeBack.j0 k false)) else (anneallaw8_WholeBack.j0 k false)) else (anneallaw8_WholeBack.j0 k false)) else (anneallaw8_WholeBack.j0 k false)) else (anneallaw8_WholeBack.j0 k false)) else (anneallaw8_WholeBack.j0 k false))))) = some r := H
      have A13 := Aside0.mk A130
      clear A130
      replace H := Option.bind_eq_some_iff.mp H
      obtain ⟨⟨t1125, t1126, t1127, t1128, t1129, t1130⟩, A140, H⟩ := H
      replace H : ((whole_Scale.f k t1108 (wrap64 (Int.tmod a1 5)) t1111 (wrap64 (Int.tmod a3 4))).bind fun bt1132 => ((whole_Scale.f k t1108 (wrap64 (Int.tmod a1 5)) bt1132.1 (wrap64 (-(wrap64 (Int.tmod a3 4))))).bind fun bt1139 => (if (!t1112 && (!t1113 && (!t1114 && (!t1115 && (!t1116))))) = true then (if (!t1119 && (!t1120 && (!t1121 && (!t1122 && (!t1123))))) = true then (if (!t1126 && (!t1127 && (!t1128 && (!t1129 && (!t1130))))) = true then (if (wrap64 (t1118)) = (ji11) then (if t1125 = t1111 then (if (!bt1132.2.1 && (!bt1132.2.2.1 && (!bt1132.2.2.2.1 && (!bt1132.2.2.2.2.1 && (!bt1132.2.2.2.2.2))))) = true then (if (!bt1139.2.1 && (!bt1139.2.2.1 && (!bt1139.2.2.2.1 && (!bt1139.2.2.2.2.1 && (!bt1139.2.2.2.2.2))))) = true then (anneallaw8_WholeBack.j0 k (bt1139.1 == t1111)) else (anneallaw8_WholeBack.j0 k false)) else (anneallaw8_WholeBack.j0 k false)) else (anneallaw8_WholeBack.j0 k false)) else (anneallaw8_WholeBack.j0 k false)) else (anneallaw8_WholeBack.j0 k false)) else (anneallaw8_WholeBack.j0 k false)) else (anneallaw8_WholeBack.j0 k false)))) = some r := H
      have A14 := Aside0.mk A140
      clear A140
      replace H := Option.bind_eq_some_iff.mp H
      obtain ⟨⟨t1132, t1133, t1134, t1135, t1136, t1137⟩, A150, H⟩ := H
      replace H : ((whole_Scale.f k t1108 (wrap64 (Int.tmod a1 5)) t1132 (wrap64 (-(wrap64 (Int.tmod a3 4))))).bind fun bt1139 => (if (!t1112 && (!t1113 && (!t1114 && (!t1115 && (!t1116))))) = true then (if (!t1119 && (!t1120 && (!t1121 && (!t1122 && (!t1123))))) = true then (if (!t1126 && (!t1127 && (!t1128 && (!t1129 && (!t1130))))) = true then (if (wrap64 (t1118)) = (ji11) then (if t1125 = t1111 then (if (!t1133 && (!t1134 && (!t1135 && (!t1136 && (!t1137))))) = true then (if (!bt1139.2.1 && (!bt1139.2.2.1 && (!bt1139.2.2.2.1 && (!bt1139.2.2.2.2.1 && (!bt1139.2.2.2.2.2))))) = true then (anneallaw8_WholeBack.j0 k (bt1139.1 == t1111)) else (anneallaw8_WholeBack.j0 k false)) else (anneallaw8_WholeBack.j0 k false)) else (anneallaw8_WholeBack.j0 k false)) else (anneallaw8_WholeBack.j0 k false)) else (anneallaw8_WholeBack.j0 k false)) else (anneallaw8_WholeBack.j0 k false)) else (anneallaw8_WholeBack.j0 k false))) = some r := H
      have A15 := Aside0.mk A150
      clear A150
      replace H := Option.bind_eq_some_iff.mp H
      obtain ⟨⟨t1139, t1140, t1141, t1142, t1143, t1144⟩, A160, H⟩ := H
      replace H : (if (!t1112 && (!t1113 && (!t1114 && (!t1115 && (!t1116))))) = true then (if (!t1119 && (!t1120 && (!t1121 && (!t1122 && (!t1123))))) = true then (if (!t1126 && (!t1127 && (!t1128 && (!t1129 && (!t1130))))) = true then (if (wrap64 (t1118)) = (ji11) then (if t1125 = t1111 then (if (!t1133 && (!t1134 && (!t1135 && (!t1136 && (!t1137))))) = true then (if (!t1140 && (!t1141 && (!t1142 && (!t1143 && (!t1144))))) = true then (anneallaw8_WholeBack.j0 k (t1139 == t1111)) else (anneallaw8_WholeBack.j0 k false)) else (anneallaw8_WholeBack.j0 k false)) else (anneallaw8_WholeBack.j0 k false)) else (anneallaw8_WholeBack.j0 k false)) else (anneallaw8_WholeBack.j0 k false)) else (anneallaw8_WholeBack.j0 k false)) else (anneallaw8_WholeBack.j0 k false)) = some r := H
      have A16 := Aside0.mk A160
      clear A160
      have HC17 := Aside0.mk H
      clear H
      go_enter Try.func14, Try.ntmps14
      go_upto_region 11 with (first | ((with_reducible refine gate_callee (f := 25) rfl ?_); refine goesL_ (some 24) rfl rfl Try.func25 (by kernel_rfl) rfl #[] rfl (by (try simp only [List.map_toArray, List.map_cons, List.map_nil]); first | done | rfl | (simp only [List.length_drop, List.length_take]; rfl)) ?_; (with_reducible refine (anneallaw8_known.calls k  true _ A5.out).mono ?_); rintro e w18 ⟨rfl, hb⟩; refine ⟨_, rfl, ?_⟩; have n0_ := Aside0.mk (below_step (by repeat (first | (with_reducible first | exact HB.out | apply below_alloc | apply pw_below_drewN | apply below_drew1) | exact HB.out)) hb); clear HB; have HB := n0_; clear n0_; (try clear hb); (try clear hb2); (try clear hk); (try clear hi)) | ((with_reducible refine gate_callee (f := 26) rfl ?_); refine goesL_ (some 27) rfl rfl Try.func26 (by kernel_rfl) rfl #[.int .u8 a0] rfl (by (try simp only [List.map_toArray, List.map_cons, List.map_nil]); first | done | rfl | (simp only [List.length_drop, List.length_take]; rfl)) ?_; (with_reducible refine (anneallaw8_form.calls a0 t1108 _ A7.out).mono ?_); rintro e w19 ⟨rfl, hb⟩; refine ⟨_, rfl, ?_⟩; have n0_ := Aside0.mk (below_step (by repeat (first | (with_reducible first | exact HB.out | apply below_alloc | apply pw_below_drewN | apply below_drew1) | exact HB.out)) hb); clear HB; have HB := n0_; clear n0_; (try clear hb); (try clear hb2); (try clear hk); (try clear hi)) | ((with_reducible refine gate_callee (f := 49) rfl ?_); refine goesL_ (some 33) rfl rfl Try.func49 (by kernel_rfl) rfl #[.int .i64 t1108] rfl (by (try simp only [List.map_toArray, List.map_cons, List.map_nil]); first | done | rfl | (simp only [List.length_drop, List.length_take]; rfl)) ?_; (with_reducible refine (annealref1_Widths.calls t1108 t1109 t1110 _ A8.out).mono ?_); rintro e w' ⟨rfl, ⟨nd, rfl⟩⟩; refine ⟨_, rfl, ?_⟩; (try (rw [drewN_self w19]; generalize hq_ : World.drewN w19 _ = w19; have n0_ : Aside0 (Below w.heap.size w w19) := ⟨by rw [← hq_]; exact (by repeat (first | (with_reducible first | exact HB.out | apply below_alloc | apply pw_below_drewN | apply below_drew1) | exact HB.out))⟩; clear HB hq_; have HB := n0_; clear n0_))) | ((with_reducible refine gate_callee (f := 45) rfl ?_); refine goesL_ (some 45) rfl rfl Try.func45 (by kernel_rfl) rfl #[.int .i64 t1108, .int .i64 (wrap64 (Int.tmod a1 5)), .int .i64 ji11] rfl (by (try simp only [List.map_toArray, List.map_cons, List.map_nil]); first | done | (simp only [hji11]; rfl) | rfl | (simp only [List.length_drop, List.length_take]; rfl)) ?_; (with_reducible refine (whole_FromInt.calls k t1108 (wrap64 (Int.tmod a1 5)) ji11 t1111 t1112 t1113 t1114 t1115 t1116 _ A12.out).mono ?_); rintro e w20 ⟨rfl, hb⟩; refine ⟨_, rfl, ?_⟩; have n0_ := Aside0.mk (below_step (by repeat (first | (with_reducible first | exact HB.out | apply below_alloc | apply pw_below_drewN | apply below_drew1) | exact HB.out)) hb); clear HB; have HB := n0_; clear n0_; (try clear hb); (try clear hb2); (try clear hk); (try clear hi)) | ((with_reducible refine gate_dst (N := 15) rfl ?_); refine box_event ?hg (N := 15) ?hd (cs := #[.bool false, .bool false, .bool false, .bool false, .bool false]) (t := 41) ?hr ?_; (case hd => rfl); (case hg => rfl); (case hr => first | (go_simp; done) | (go_simp; rfl)); intro gb1117 hg w21 hbox hb; have n0_ := Aside0.mk (below_step (by repeat (first | (with_reducible first | exact HB.out | apply below_alloc | apply pw_below_drewN | apply below_drew1) | exact HB.out)) hb); have n1_ := Aside0.mk (hbox); have n2_ := Aside0.mk ((by rw [hg]; exact (below_size (by repeat (first | (with_reducible first | exact HB.out | apply below_alloc | apply pw_below_drewN | apply below_drew1) | exact HB.out))) : w.heap.size ≤ gb1117)); have n3_ := Aside0.mk ((by rw [hg]; exact (below_size (by repeat (first | (with_reducible first | exact HB.out | apply below_alloc | apply pw_below_drewN | apply below_drew1) | exact HB.out))) : w.heap.size ≤ gb1117)); clear HB; have HB := n0_; have BK1117 := n1_; have GW1117 := n2_; have GE1117 := n3_; clear n0_ n1_ n2_ n3_; clear hb hbox hg; have hcz22_0 : w21.cell? ⟨gb1117, 0, none⟩ = some (.bool false) := (blk_cell BK1117.out 0).trans rfl; have hcz22_1 : w21.cell? ⟨gb1117, 1, none⟩ = some (.bool false) := (blk_cell BK1117.out 1).trans rfl; have hcz22_2 : w21.cell? ⟨gb1117, 2, none⟩ = some (.bool false) := (blk_cell BK1117.out 2).trans rfl; have hcz22_3 : w21.cell? ⟨gb1117, 3, none⟩ = some (.bool false) := (blk_cell BK1117.out 3).trans rfl; have hcz22_4 : w21.cell? ⟨gb1117, 4, none⟩ = some (.bool false) := (blk_cell BK1117.out 4).trans rfl; have hfz22_0 := blk_frozen BK1117.out 0; have hfz22_1 := blk_frozen BK1117.out 1; have hfz22_2 := blk_frozen BK1117.out 2; have hfz22_3 := blk_frozen BK1117.out 3; have hfz22_4 := blk_frozen BK1117.out 4) | ((with_reducible refine gate_callee (f := 32) rfl ?_); refine goesL_ (some 52) rfl rfl Try.func32 (by kernel_rfl) rfl #[.int .i64 t1108, .int .i64 (wrap64 (Int.tmod a1 5)), .int .u32 t1111] rfl (by (try simp only [List.map_toArray, List.map_cons, List.map_nil]); first | done | rfl | (simp only [List.length_drop, List.length_take]; rfl)) ?_; (with_reducible refine (whole_ToInt.calls k t1108 (wrap64 (Int.tmod a1 5)) t1111 t1118 t1119 t1120 t1121 t1122 t1123 _ A13.out).mono ?_); rintro e w23 ⟨rfl, hb⟩; refine ⟨_, rfl, ?_⟩; have n0_ := Aside0.mk (blk_below (g := gb1117) (o := .cells #[.bool t1112, .bool t1113, .bool t1114, .bool t1115, .bool t1116] 41 (0, 0)) (by (with_reducible repeat (first | refine blk_drewN ?_ _ | refine blk_drew ?_ | refine blk_alloc ?_ _)); refine blk_put (cs := #[.bool t1112, .bool t1113, .bool t1114, .bool t1115, .bool false]) ?_ 4 _ rfl; (with_reducible repeat (first | refine blk_drewN ?_ _ | refine blk_drew ?_ | refine blk_alloc ?_ _)); refine blk_put (cs := #[.bool t1112, .bool t1113, .bool t1114, .bool false, .bool false]) ?_ 3 _ rfl; (with_reducible repeat (first | refine blk_drewN ?_ _ | refine blk_drew ?_ | refine blk_alloc ?_ _)); refine blk_put (cs := #[.bool t1112, .bool t1113, .bool false, .bool false, .bool false]) ?_ 2 _ rfl; (with_reducible repeat (first | refine blk_drewN ?_ _ | refine blk_drew ?_ | refine blk_alloc ?_ _)); refine blk_put (cs := #[.bool t1112, .bool false, .bool false, .bool false, .bool false]) ?_ 1 _ rfl; (with_reducible repeat (first | refine blk_drewN ?_ _ | refine blk_drew ?_ | refine blk_alloc ?_ _)); refine blk_put (cs := #[.bool false, .bool false, .bool false, .bool false, .bool false]) ?_ 0 _ rfl; (with_reducible repeat (first | refine blk_drewN ?_ _ | refine blk_drew ?_ | refine blk_alloc ?_ _)); exact BK1117.out) hb); have n1_ := Aside0.mk (below_step (by repeat (first | (with_reducible first | exact HB.out | apply below_alloc | apply pw_below_drewN | apply below_drew1 | refine below_set ?_ GE1117.out) | exact HB.out)) hb); clear BK1117; clear HB; have BK1117 := n0_; have HB := n1_; clear n0_ n1_; (try clear hb); (try clear hb2); (try clear hk); (try clear hi)) | ((with_reducible refine gate_dst (N := 17) rfl ?_); refine box_event ?hg (N := 17) ?hd (cs := #[.bool false, .bool false, .bool false, .bool false, .bool false]) (t := 41) ?hr ?_; (case hd => rfl); (case hg => rfl); (case hr => first | (go_simp; done) | (go_simp; rfl)); intro gb1124 hg w24 hbox hb; have n0_ := Aside0.mk (blk_below (g := gb1117) (o := .cells #[.bool t1112, .bool t1113, .bool t1114, .bool t1115, .bool t1116] 41 (0, 0)) (by (with_reducible repeat (first | refine blk_drewN ?_ _ | refine blk_drew ?_ | refine blk_alloc ?_ _)); exact BK1117.out) hb); have n1_ := Aside0.mk (below_step (by repeat (first | (with_reducible first | exact HB.out | apply below_alloc | apply pw_below_drewN | apply below_drew1 | refine below_set ?_ GE1117.out) | exact HB.out)) hb); have n2_ := Aside0.mk (hbox); have n3_ := Aside0.mk ((by rw [hg]; exact (below_size (by repeat (first | (with_reducible first | exact HB.out | apply below_alloc | apply pw_below_drewN | apply below_drew1 | refine below_set ?_ GE1117.out) | exact HB.out))) : w.heap.size ≤ gb1124)); have n4_ := Aside0.mk ((by rw [hg]; exact (below_size (by repeat (first | (with_reducible first | exact HB.out | apply below_alloc | apply pw_below_drewN | apply below_drew1 | refine below_set ?_ GE1117.out) | exact HB.out))) : w.heap.size ≤ gb1124)); have n5_ := Aside0.mk ((by rw [hg]; exact Nat.ne_of_lt (blk_lt (g := gb1117) (o := .cells #[.bool t1112, .bool t1113, .bool t1114, .bool t1115, .bool t1116] 41 (0, 0)) (by (with_reducible repeat (first | refine blk_drewN ?_ _ | refine blk_drew ?_ | refine blk_alloc ?_ _)); exact BK1117.out)) : gb1117 ≠ gb1124)); have n6_ := Aside0.mk ((by rw [hg]; exact Nat.ne_of_gt (blk_lt (g := gb1117) (o := .cells #[.bool t1112, .bool t1113, .bool t1114, .bool t1115, .bool t1116] 41 (0, 0)) (by (with_reducible repeat (first | refine blk_drewN ?_ _ | refine blk_drew ?_ | refine blk_alloc ?_ _)); exact BK1117.out)) : gb1124 ≠ gb1117)); clear BK1117; clear HB; have BK1117 := n0_; have HB := n1_; have BK1124 := n2_; have GW1124 := n3_; have GE1124 := n4_; have NB1117_1124 := n5_; have NB1124_1117 := n6_; clear n0_ n1_ n2_ n3_ n4_ n5_ n6_; clear hb hbox hg; have hnb25 := NB1124_1117.out; have hnc25 := NB1117_1124.out; have hcz26_0 : w24.cell? ⟨gb1124, 0, none⟩ = some (.bool false) := (blk_cell BK1124.out 0).trans rfl; have hcz26_1 : w24.cell? ⟨gb1124, 1, none⟩ = some (.bool false) := (blk_cell BK1124.out 1).trans rfl; have hcz26_2 : w24.cell? ⟨gb1124, 2, none⟩ = some (.bool false) := (blk_cell BK1124.out 2).trans rfl; have hcz26_3 : w24.cell? ⟨gb1124, 3, none⟩ = some (.bool false) := (blk_cell BK1124.out 3).trans rfl; have hcz26_4 : w24.cell? ⟨gb1124, 4, none⟩ = some (.bool false) := (blk_cell BK1124.out 4).trans rfl; have hfz26_0 := blk_frozen BK1124.out 0; have hfz26_1 := blk_frozen BK1124.out 1; have hfz26_2 := blk_frozen BK1124.out 2; have hfz26_3 := blk_frozen BK1124.out 3; have hfz26_4 := blk_frozen BK1124.out 4) | ((with_reducible refine gate_callee (f := 47) rfl ?_); refine goesL_ (some 59) rfl rfl Try.func47 (by kernel_rfl) rfl #[.int .i64 t1108, .int .i64 (wrap64 (Int.tmod a1 5)), .int .u32 t1111] rfl (by (try simp only [List.map_toArray, List.map_cons, List.map_nil]); first | done | rfl | (simp only [List.length_drop, List.length_take]; rfl)) ?_; (with_reducible refine (whole_Round.calls k t1108 (wrap64 (Int.tmod a1 5)) t1111 t1125 t1126 t1127 t1128 t1129 t1130 _ A14.out).mono ?_); rintro e w27 ⟨rfl, hb⟩; refine ⟨_, rfl, ?_⟩; have n0_ := Aside0.mk (blk_below (g := gb1117) (o := .cells #[.bool t1112, .bool t1113, .bool t1114, .bool t1115, .bool t1116] 41 (0, 0)) (by (with_reducible repeat (first | refine blk_drewN ?_ _ | refine blk_drew ?_ | refine blk_alloc ?_ _)); refine blk_far ?_ NB1117_1124.out _; (with_reducible repeat (first | refine blk_drewN ?_ _ | refine blk_drew ?_ | refine blk_alloc ?_ _)); refine blk_far ?_ NB1117_1124.out _; (with_reducible repeat (first | refine blk_drewN ?_ _ | refine blk_drew ?_ | refine blk_alloc ?_ _)); refine blk_far ?_ NB1117_1124.out _; (with_reducible repeat (first | refine blk_drewN ?_ _ | refine blk_drew ?_ | refine blk_alloc ?_ _)); refine blk_far ?_ NB1117_1124.out _; (with_reducible repeat (first | refine blk_drewN ?_ _ | refine blk_drew ?_ | refine blk_alloc ?_ _)); refine blk_far ?_ NB1117_1124.out _; (with_reducible repeat (first | refine blk_drewN ?_ _ | refine blk_drew ?_ | refine blk_alloc ?_ _)); exact BK1117.out) hb); have n1_ := Aside0.mk (blk_below (g := gb1124) (o := .cells #[.bool t1119, .bool t1120, .bool t1121, .bool t1122, .bool t1123] 41 (0, 0)) (by (with_reducible repeat (first | refine blk_drewN ?_ _ | refine blk_drew ?_ | refine blk_alloc ?_ _)); refine blk_put (cs := #[.bool t1119, .bool t1120, .bool t1121, .bool t1122, .bool false]) ?_ 4 _ rfl; (with_reducible repeat (first | refine blk_drewN ?_ _ | refine blk_drew ?_ | refine blk_alloc ?_ _)); refine blk_put (cs := #[.bool t1119, .bool t1120, .bool t1121, .bool false, .bool false]) ?_ 3 _ rfl; (with_reducible repeat (first | refine blk_drewN ?_ _ | refine blk_drew ?_ | refine blk_alloc ?_ _)); refine blk_put (cs := #[.bool t1119, .bool t1120, .bool false, .bool false, .bool false]) ?_ 2 _ rfl; (with_reducible repeat (first | refine blk_drewN ?_ _ | refine blk_drew ?_ | refine blk_alloc ?_ _)); refine blk_put (cs := #[.bool t1119, .bool false, .bool false, .bool false, .bool false]) ?_ 1 _ rfl; (with_reducible repeat (first | refine blk_drewN ?_ _ | refine blk_drew ?_ | refine blk_alloc ?_ _)); refine blk_put (cs := #[.bool false, .bool false, .bool false, .bool false, .bool false]) ?_ 0 _ rfl; (with_reducible repeat (first | refine blk_drewN ?_ _ | refine blk_drew ?_ | refine blk_alloc ?_ _)); exact BK1124.out) hb); have n2_ := Aside0.mk (below_step (by repeat (first | (with_reducible first | exact HB.out | apply below_alloc | apply pw_below_drewN | apply below_drew1 | refine below_set ?_ GE1117.out | refine below_set ?_ GE1124.out) | exact HB.out)) hb); clear BK1117; clear BK1124; clear HB; have BK1117 := n0_; have BK1124 := n1_; have HB := n2_; clear n0_ n1_ n2_; (try clear hb); (try clear hb2); (try clear hk); (try clear hi)) | ((with_reducible refine gate_dst (N := 19) rfl ?_); refine box_event ?hg (N := 19) ?hd (cs := #[.bool false, .bool false, .bool false, .bool false, .bool false]) (t := 41) ?hr ?_; (case hd => rfl); (case hg => rfl); (case hr => first | (go_simp; done) | (go_simp; rfl)); intro gb1131 hg w28 hbox hb; have n0_ := Aside0.mk (blk_below (g := gb1117) (o := .cells #[.bool t1112, .bool t1113, .bool t1114, .bool t1115, .bool t1116] 41 (0, 0)) (by (with_reducible repeat (first | refine blk_drewN ?_ _ | refine blk_drew ?_ | refine blk_alloc ?_ _)); exact BK1117.out) hb); have n1_ := Aside0.mk (blk_below (g := gb1124) (o := .cells #[.bool t1119, .bool t1120, .bool t1121, .bool t1122, .bool t1123] 41 (0, 0)) (by (with_reducible repeat (first | refine blk_drewN ?_ _ | refine blk_drew ?_ | refine blk_alloc ?_ _)); exact BK1124.out) hb); have n2_ := Aside0.mk (below_step (by repeat (first | (with_reducible first | exact HB.out | apply below_alloc | apply pw_below_drewN | apply below_drew1 | refine below_set ?_ GE1117.out | refine below_set ?_ GE1124.out) | exact HB.out)) hb); have n3_ := Aside0.mk (hbox); have n4_ := Aside0.mk ((by rw [hg]; exact (below_size (by repeat (first | (with_reducible first | exact HB.out | apply below_alloc | apply pw_below_drewN | apply below_drew1 | refine below_set ?_ GE1117.out | refine below_set ?_ GE1124.out) | exact HB.out))) : w.heap.size ≤ gb1131)); have n5_ := Aside0.mk ((by rw [hg]; exact (below_size (by repeat (first | (with_reducible first | exact HB.out | apply below_alloc | apply pw_below_drewN | apply below_drew1 | refine below_set ?_ GE1117.out | refine below_set ?_ GE1124.out) | exact HB.out))) : w.heap.size ≤ gb1131)); have n6_ := Aside0.mk ((by rw [hg]; exact Nat.ne_of_lt (blk_lt (g := gb1117) (o := .cells #[.bool t1112, .bool t1113, .bool t1114, .bool t1115, .bool t1116] 41 (0, 0)) (by (with_reducible repeat (first | refine blk_drewN ?_ _ | refine blk_drew ?_ | refine blk_alloc ?_ _)); exact BK1117.out)) : gb1117 ≠ gb1131)); have n7_ := Aside0.mk ((by rw [hg]; exact Nat.ne_of_gt (blk_lt (g := gb1117) (o := .cells #[.bool t1112, .bool t1113, .bool t1114, .bool t1115, .bool t1116] 41 (0, 0)) (by (with_reducible repeat (first | refine blk_drewN ?_ _ | refine blk_drew ?_ | refine blk_alloc ?_ _)); exact BK1117.out)) : gb1131 ≠ gb1117)); have n8_ := Aside0.mk ((by rw [hg]; exact Nat.ne_of_lt (blk_lt (g := gb1124) (o := .cells #[.bool t1119, .bool t1120, .bool t1121, .bool t1122, .bool t1123] 41 (0, 0)) (by (with_reducible repeat (first | refine blk_drewN ?_ _ | refine blk_drew ?_ | refine blk_alloc ?_ _)); exact BK1124.out)) : gb1124 ≠ gb1131)); have n9_ := Aside0.mk ((by rw [hg]; exact Nat.ne_of_gt (blk_lt (g := gb1124) (o := .cells #[.bool t1119, .bool t1120, .bool t1121, .bool t1122, .bool t1123] 41 (0, 0)) (by (with_reducible repeat (first | refine blk_drewN ?_ _ | refine blk_drew ?_ | refine blk_alloc ?_ _)); exact BK1124.out)) : gb1131 ≠ gb1124)); clear BK1117; clear BK1124; clear HB; have BK1117 := n0_; have BK1124 := n1_; have HB := n2_; have BK1131 := n3_; have GW1131 := n4_; have GE1131 := n5_; have NB1117_1131 := n6_; have NB1131_1117 := n7_; have NB1124_1131 := n8_; have NB1131_1124 := n9_; clear n0_ n1_ n2_ n3_ n4_ n5_ n6_ n7_ n8_ n9_; clear hb hbox hg; have hnb29 := NB1131_1117.out; have hnc29 := NB1117_1131.out; have hnb30 := NB1131_1124.out; have hnc30 := NB1124_1131.out; have hcz31_0 : w28.cell? ⟨gb1131, 0, none⟩ = some (.bool false) := (blk_cell BK1131.out 0).trans rfl; have hcz31_1 : w28.cell? ⟨gb1131, 1, none⟩ = some (.bool false) := (blk_cell BK1131.out 1).trans rfl; have hcz31_2 : w28.cell? ⟨gb1131, 2, none⟩ = some (.bool false) := (blk_cell BK1131.out 2).trans rfl; have hcz31_3 : w28.cell? ⟨gb1131, 3, none⟩ = some (.bool false) := (blk_cell BK1131.out 3).trans rfl; have hcz31_4 : w28.cell? ⟨gb1131, 4, none⟩ = some (.bool false) := (blk_cell BK1131.out 4).trans rfl; have hfz31_0 := blk_frozen BK1131.out 0; have hfz31_1 := blk_frozen BK1131.out 1; have hfz31_2 := blk_frozen BK1131.out 2; have hfz31_3 := blk_frozen BK1131.out 3; have hfz31_4 := blk_frozen BK1131.out 4) | ((with_reducible refine gate_callee (f := 28) rfl ?_); refine goesL_ (some 69) rfl rfl Try.func28 (by kernel_rfl) rfl #[.int .i64 t1108, .int .i64 (wrap64 (Int.tmod a1 5)), .int .u32 t1111, .int .i64 (wrap64 (Int.tmod a3 4))] rfl (by (try simp only [List.map_toArray, List.map_cons, List.map_nil]); first | done | rfl | (simp only [List.length_drop, List.length_take]; rfl)) ?_; (with_reducible refine (whole_Scale.calls k t1108 (wrap64 (Int.tmod a1 5)) t1111 (wrap64 (Int.tmod a3 4)) t1132 t1133 t1134 t1135 t1136 t1137 _ A15.out).mono ?_); rintro e w32 ⟨rfl, hb⟩; refine ⟨_, rfl, ?_⟩; have n0_ := Aside0.mk (blk_below (g := gb1117) (o := .cells #[.bool t1112, .bool t1113, .bool t1114, .bool t1115, .bool t1116] 41 (0, 0)) (by (with_reducible repeat (first | refine blk_drewN ?_ _ | refine blk_drew ?_ | refine blk_alloc ?_ _)); refine blk_far ?_ NB1117_1131.out _; (with_reducible repeat (first | refine blk_drewN ?_ _ | refine blk_drew ?_ | refine blk_alloc ?_ _)); refine blk_far ?_ NB1117_1131.out _; (with_reducible repeat (first | refine blk_drewN ?_ _ | refine blk_drew ?_ | refine blk_alloc ?_ _)); refine blk_far ?_ NB1117_1131.out _; (with_reducible repeat (first | refine blk_drewN ?_ _ | refine blk_drew ?_ | refine blk_alloc ?_ _)); refine blk_far ?_ NB1117_1131.out _; (with_reducible repeat (first | refine blk_drewN ?_ _ | refine blk_drew ?_ | refine blk_alloc ?_ _)); refine blk_far ?_ NB1117_1131.out _; (with_reducible repeat (first | refine blk_drewN ?_ _ | refine blk_drew ?_ | refine blk_alloc ?_ _)); exact BK1117.out) hb); have n1_ := Aside0.mk (blk_below (g := gb1124) (o := .cells #[.bool t1119, .bool t1120, .bool t1121, .bool t1122, .bool t1123] 41 (0, 0)) (by (with_reducible repeat (first | refine blk_drewN ?_ _ | refine blk_drew ?_ | refine blk_alloc ?_ _)); refine blk_far ?_ NB1124_1131.out _; (with_reducible repeat (first | refine blk_drewN ?_ _ | refine blk_drew ?_ | refine blk_alloc ?_ _)); refine blk_far ?_ NB1124_1131.out _; (with_reducible repeat (first | refine blk_drewN ?_ _ | refine blk_drew ?_ | refine blk_alloc ?_ _)); refine blk_far ?_ NB1124_1131.out _; (with_reducible repeat (first | refine blk_drewN ?_ _ | refine blk_drew ?_ | refine blk_alloc ?_ _)); refine blk_far ?_ NB1124_1131.out _; (with_reducible repeat (first | refine blk_drewN ?_ _ | refine blk_drew ?_ | refine blk_alloc ?_ _)); refine blk_far ?_ NB1124_1131.out _; (with_reducible repeat (first | refine blk_drewN ?_ _ | refine blk_drew ?_ | refine blk_alloc ?_ _)); exact BK1124.out) hb); have n2_ := Aside0.mk (blk_below (g := gb1131) (o := .cells #[.bool t1126, .bool t1127, .bool t1128, .bool t1129, .bool t1130] 41 (0, 0)) (by (with_reducible repeat (first | refine blk_drewN ?_ _ | refine blk_drew ?_ | refine blk_alloc ?_ _)); refine blk_put (cs := #[.bool t1126, .bool t1127, .bool t1128, .bool t1129, .bool false]) ?_ 4 _ rfl; (with_reducible repeat (first | refine blk_drewN ?_ _ | refine blk_drew ?_ | refine blk_alloc ?_ _)); refine blk_put (cs := #[.bool t1126, .bool t1127, .bool t1128, .bool false, .bool false]) ?_ 3 _ rfl; (with_reducible repeat (first | refine blk_drewN ?_ _ | refine blk_drew ?_ | refine blk_alloc ?_ _)); refine blk_put (cs := #[.bool t1126, .bool t1127, .bool false, .bool false, .bool false]) ?_ 2 _ rfl; (with_reducible repeat (first | refine blk_drewN ?_ _ | refine blk_drew ?_ | refine blk_alloc ?_ _)); refine blk_put (cs := #[.bool t1126, .bool false, .bool false, .bool false, .bool false]) ?_ 1 _ rfl; (with_reducible repeat (first | refine blk_drewN ?_ _ | refine blk_drew ?_ | refine blk_alloc ?_ _)); refine blk_put (cs := #[.bool false, .bool false, .bool false, .bool false, .bool false]) ?_ 0 _ rfl; (with_reducible repeat (first | refine blk_drewN ?_ _ | refine blk_drew ?_ | refine blk_alloc ?_ _)); exact BK1131.out) hb); have n3_ := Aside0.mk (below_step (by repeat (first | (with_reducible first | exact HB.out | apply below_alloc | apply pw_below_drewN | apply below_drew1 | refine below_set ?_ GE1117.out | refine below_set ?_ GE1124.out | refine below_set ?_ GE1131.out) | exact HB.out)) hb); clear BK1117; clear BK1124; clear BK1131; clear HB; have BK1117 := n0_; have BK1124 := n1_; have BK1131 := n2_; have HB := n3_; clear n0_ n1_ n2_ n3_; (try clear hb); (try clear hb2); (try clear hk); (try clear hi)) | ((with_reducible refine gate_dst (N := 21) rfl ?_); refine box_event ?hg (N := 21) ?hd (cs := #[.bool false, .bool false, .bool false, .bool false, .bool false]) (t := 41) ?hr ?_; (case hd => rfl); (case hg => rfl); (case hr => first | (go_simp; done) | (go_simp; rfl)); intro gb1138 hg w33 hbox hb; have n0_ := Aside0.mk (blk_below (g := gb1117) (o := .cells #[.bool t1112, .bool t1113, .bool t1114, .bool t1115, .bool t1116] 41 (0, 0)) (by (with_reducible repeat (first | refine blk_drewN ?_ _ | refine blk_drew ?_ | refine blk_alloc ?_ _)); exact BK1117.out) hb); have n1_ := Aside0.mk (blk_below (g := gb1124) (o := .cells #[.bool t1119, .bool t1120, .bool t1121, .bool t1122, .bool t1123] 41 (0, 0)) (by (with_reducible repeat (first | refine blk_drewN ?_ _ | refine blk_drew ?_ | refine blk_alloc ?_ _)); exact BK1124.out) hb); have n2_ := Aside0.mk (blk_below (g := gb1131) (o := .cells #[.bool t1126, .bool t1127, .bool t1128, .bool t1129, .bool t1130] 41 (0, 0)) (by (with_reducible repeat (first | refine blk_drewN ?_ _ | refine blk_drew ?_ | refine blk_alloc ?_ _)); exact BK1131.out) hb); have n3_ := Aside0.mk (below_step (by repeat (first | (with_reducible first | exact HB.out | apply below_alloc | apply pw_below_drewN | apply below_drew1 | refine below_set ?_ GE1117.out | refine below_set ?_ GE1124.out | refine below_set ?_ GE1131.out) | exact HB.out)) hb); have n4_ := Aside0.mk (hbox); have n5_ := Aside0.mk ((by rw [hg]; exact (below_size (by repeat (first | (with_reducible first | exact HB.out | apply below_alloc | apply pw_below_drewN | apply below_drew1 | refine below_set ?_ GE1117.out | refine below_set ?_ GE1124.out | refine below_set ?_ GE1131.out) | exact HB.out))) : w.heap.size ≤ gb1138)); have n6_ := Aside0.mk ((by rw [hg]; exact (below_size (by repeat (first | (with_reducible first | exact HB.out | apply below_alloc | apply pw_below_drewN | apply below_drew1 | refine below_set ?_ GE1117.out | refine below_set ?_ GE1124.out | refine below_set ?_ GE1131.out) | exact HB.out))) : w.heap.size ≤ gb1138)); have n7_ := Aside0.mk ((by rw [hg]; exact Nat.ne_of_lt (blk_lt (g := gb1117) (o := .cells #[.bool t1112, .bool t1113, .bool t1114, .bool t1115, .bool t1116] 41 (0, 0)) (by (with_reducible repeat (first | refine blk_drewN ?_ _ | refine blk_drew ?_ | refine blk_alloc ?_ _)); exact BK1117.out)) : gb1117 ≠ gb1138)); have n8_ := Aside0.mk ((by rw [hg]; exact Nat.ne_of_gt (blk_lt (g := gb1117) (o := .cells #[.bool t1112, .bool t1113, .bool t1114, .bool t1115, .bool t1116] 41 (0, 0)) (by (with_reducible repeat (first | refine blk_drewN ?_ _ | refine blk_drew ?_ | refine blk_alloc ?_ _)); exact BK1117.out)) : gb1138 ≠ gb1117)); have n9_ := Aside0.mk ((by rw [hg]; exact Nat.ne_of_lt (blk_lt (g := gb1124) (o := .cells #[.bool t1119, .bool t1120, .bool t1121, .bool t1122, .bool t1123] 41 (0, 0)) (by (with_reducible repeat (first | refine blk_drewN ?_ _ | refine blk_drew ?_ | refine blk_alloc ?_ _)); exact BK1124.out)) : gb1124 ≠ gb1138)); have n10_ := Aside0.mk ((by rw [hg]; exact Nat.ne_of_gt (blk_lt (g := gb1124) (o := .cells #[.bool t1119, .bool t1120, .bool t1121, .bool t1122, .bool t1123] 41 (0, 0)) (by (with_reducible repeat (first | refine blk_drewN ?_ _ | refine blk_drew ?_ | refine blk_alloc ?_ _)); exact BK1124.out)) : gb1138 ≠ gb1124)); have n11_ := Aside0.mk ((by rw [hg]; exact Nat.ne_of_lt (blk_lt (g := gb1131) (o := .cells #[.bool t1126, .bool t1127, .bool t1128, .bool t1129, .bool t1130] 41 (0, 0)) (by (with_reducible repeat (first | refine blk_drewN ?_ _ | refine blk_drew ?_ | refine blk_alloc ?_ _)); exact BK1131.out)) : gb1131 ≠ gb1138)); have n12_ := Aside0.mk ((by rw [hg]; exact Nat.ne_of_gt (blk_lt (g := gb1131) (o := .cells #[.bool t1126, .bool t1127, .bool t1128, .bool t1129, .bool t1130] 41 (0, 0)) (by (with_reducible repeat (first | refine blk_drewN ?_ _ | refine blk_drew ?_ | refine blk_alloc ?_ _)); exact BK1131.out)) : gb1138 ≠ gb1131)); clear BK1117; clear BK1124; clear BK1131; clear HB; have BK1117 := n0_; have BK1124 := n1_; have BK1131 := n2_; have HB := n3_; have BK1138 := n4_; have GW1138 := n5_; have GE1138 := n6_; have NB1117_1138 := n7_; have NB1138_1117 := n8_; have NB1124_1138 := n9_; have NB1138_1124 := n10_; have NB1131_1138 := n11_; have NB1138_1131 := n12_; clear n0_ n1_ n2_ n3_ n4_ n5_ n6_ n7_ n8_ n9_ n10_ n11_ n12_; clear hb hbox hg; have hnb34 := NB1138_1117.out; have hnc34 := NB1117_1138.out; have hnb35 := NB1138_1124.out; have hnc35 := NB1124_1138.out; have hnb36 := NB1138_1131.out; have hnc36 := NB1131_1138.out; have hcz37_0 : w33.cell? ⟨gb1138, 0, none⟩ = some (.bool false) := (blk_cell BK1138.out 0).trans rfl; have hcz37_1 : w33.cell? ⟨gb1138, 1, none⟩ = some (.bool false) := (blk_cell BK1138.out 1).trans rfl; have hcz37_2 : w33.cell? ⟨gb1138, 2, none⟩ = some (.bool false) := (blk_cell BK1138.out 2).trans rfl; have hcz37_3 : w33.cell? ⟨gb1138, 3, none⟩ = some (.bool false) := (blk_cell BK1138.out 3).trans rfl; have hcz37_4 : w33.cell? ⟨gb1138, 4, none⟩ = some (.bool false) := (blk_cell BK1138.out 4).trans rfl; have hfz37_0 := blk_frozen BK1138.out 0; have hfz37_1 := blk_frozen BK1138.out 1; have hfz37_2 := blk_frozen BK1138.out 2; have hfz37_3 := blk_frozen BK1138.out 3; have hfz37_4 := blk_frozen BK1138.out 4) | ((with_reducible refine gate_callee (f := 28) rfl ?_); refine goesL_ (some 80) rfl rfl Try.func28 (by kernel_rfl) rfl #[.int .i64 t1108, .int .i64 (wrap64 (Int.tmod a1 5)), .int .u32 t1132, .int .i64 (wrap64 (-(wrap64 (Int.tmod a3 4))))] rfl (by (try simp only [List.map_toArray, List.map_cons, List.map_nil]); first | done | rfl | (simp only [List.length_drop, List.length_take]; rfl)) ?_; (with_reducible refine (whole_Scale.calls k t1108 (wrap64 (Int.tmod a1 5)) t1132 (wrap64 (-(wrap64 (Int.tmod a3 4)))) t1139 t1140 t1141 t1142 t1143 t1144 _ A16.out).mono ?_); rintro e w38 ⟨rfl, hb⟩; refine ⟨_, rfl, ?_⟩; have n0_ := Aside0.mk (blk_below (g := gb1117) (o := .cells #[.bool t1112, .bool t1113, .bool t1114, .bool t1115, .bool t1116] 41 (0, 0)) (by (with_reducible repeat (first | refine blk_drewN ?_ _ | refine blk_drew ?_ | refine blk_alloc ?_ _)); refine blk_far ?_ NB1117_1138.out _; (with_reducible repeat (first | refine blk_drewN ?_ _ | refine blk_drew ?_ | refine blk_alloc ?_ _)); refine blk_far ?_ NB1117_1138.out _; (with_reducible repeat (first | refine blk_drewN ?_ _ | refine blk_drew ?_ | refine blk_alloc ?_ _)); refine blk_far ?_ NB1117_1138.out _; (with_reducible repeat (first | refine blk_drewN ?_ _ | refine blk_drew ?_ | refine blk_alloc ?_ _)); refine blk_far ?_ NB1117_1138.out _; (with_reducible repeat (first | refine blk_drewN ?_ _ | refine blk_drew ?_ | refine blk_alloc ?_ _)); refine blk_far ?_ NB1117_1138.out _; (with_reducible repeat (first | refine blk_drewN ?_ _ | refine blk_drew ?_ | refine blk_alloc ?_ _)); exact BK1117.out) hb); have n1_ := Aside0.mk (blk_below (g := gb1124) (o := .cells #[.bool t1119, .bool t1120, .bool t1121, .bool t1122, .bool t1123] 41 (0, 0)) (by (with_reducible repeat (first | refine blk_drewN ?_ _ | refine blk_drew ?_ | refine blk_alloc ?_ _)); refine blk_far ?_ NB1124_1138.out _; (with_reducible repeat (first | refine blk_drewN ?_ _ | refine blk_drew ?_ | refine blk_alloc ?_ _)); refine blk_far ?_ NB1124_1138.out _; (with_reducible repeat (first | refine blk_drewN ?_ _ | refine blk_drew ?_ | refine blk_alloc ?_ _)); refine blk_far ?_ NB1124_1138.out _; (with_reducible repeat (first | refine blk_drewN ?_ _ | refine blk_drew ?_ | refine blk_alloc ?_ _)); refine blk_far ?_ NB1124_1138.out _; (with_reducible repeat (first | refine blk_drewN ?_ _ | refine blk_drew ?_ | refine blk_alloc ?_ _)); refine blk_far ?_ NB1124_1138.out _; (with_reducible repeat (first | refine blk_drewN ?_ _ | refine blk_drew ?_ | refine blk_alloc ?_ _)); exact BK1124.out) hb); have n2_ := Aside0.mk (blk_below (g := gb1131) (o := .cells #[.bool t1126, .bool t1127, .bool t1128, .bool t1129, .bool t1130] 41 (0, 0)) (by (with_reducible repeat (first | refine blk_drewN ?_ _ | refine blk_drew ?_ | refine blk_alloc ?_ _)); refine blk_far ?_ NB1131_1138.out _; (with_reducible repeat (first | refine blk_drewN ?_ _ | refine blk_drew ?_ | refine blk_alloc ?_ _)); refine blk_far ?_ NB1131_1138.out _; (with_reducible repeat (first | refine blk_drewN ?_ _ | refine blk_drew ?_ | refine blk_alloc ?_ _)); refine blk_far ?_ NB1131_1138.out _; (with_reducible repeat (first | refine blk_drewN ?_ _ | refine blk_drew ?_ | refine blk_alloc ?_ _)); refine blk_far ?_ NB1131_1138.out _; (with_reducible repeat (first | refine blk_drewN ?_ _ | refine blk_drew ?_ | refine blk_alloc ?_ _)); refine blk_far ?_ NB1131_1138.out _; (with_reducible repeat (first | refine blk_drewN ?_ _ | refine blk_drew ?_ | refine blk_alloc ?_ _)); exact BK1131.out) hb); have n3_ := Aside0.mk (blk_below (g := gb1138) (o := .cells #[.bool t1133, .bool t1134, .bool t1135, .bool t1136, .bool t1137] 41 (0, 0)) (by (with_reducible repeat (first | refine blk_drewN ?_ _ | refine blk_drew ?_ | refine blk_alloc ?_ _)); refine blk_put (cs := #[.bool t1133, .bool t1134, .bool t1135, .bool t1136, .bool false]) ?_ 4 _ rfl; (with_reducible repeat (first | refine blk_drewN ?_ _ | refine blk_drew ?_ | refine blk_alloc ?_ _)); refine blk_put (cs := #[.bool t1133, .bool t1134, .bool t1135, .bool false, .bool false]) ?_ 3 _ rfl; (with_reducible repeat (first | refine blk_drewN ?_ _ | refine blk_drew ?_ | refine blk_alloc ?_ _)); refine blk_put (cs := #[.bool t1133, .bool t1134, .bool false, .bool false, .bool false]) ?_ 2 _ rfl; (with_reducible repeat (first | refine blk_drewN ?_ _ | refine blk_drew ?_ | refine blk_alloc ?_ _)); refine blk_put (cs := #[.bool t1133, .bool false, .bool false, .bool false, .bool false]) ?_ 1 _ rfl; (with_reducible repeat (first | refine blk_drewN ?_ _ | refine blk_drew ?_ | refine blk_alloc ?_ _)); refine blk_put (cs := #[.bool false, .bool false, .bool false, .bool false, .bool false]) ?_ 0 _ rfl; (with_reducible repeat (first | refine blk_drewN ?_ _ | refine blk_drew ?_ | refine blk_alloc ?_ _)); exact BK1138.out) hb); have n4_ := Aside0.mk (below_step (by repeat (first | (with_reducible first | exact HB.out | apply below_alloc | apply pw_below_drewN | apply below_drew1 | refine below_set ?_ GE1117.out | refine below_set ?_ GE1124.out | refine below_set ?_ GE1131.out | refine below_set ?_ GE1138.out) | exact HB.out)) hb); clear BK1117; clear BK1124; clear BK1131; clear BK1138; clear HB; have BK1117 := n0_; have BK1124 := n1_; have BK1131 := n2_; have BK1138 := n3_; have HB := n4_; clear n0_ n1_ n2_ n3_ n4_; (try clear hb); (try clear hb2); (try clear hk); (try clear hi)) | ((with_reducible refine gate_dst (N := 23) rfl ?_); refine box_event ?hg (N := 23) ?hd (cs := #[.bool false, .bool false, .bool false, .bool false, .bool false]) (t := 41) ?hr ?_; (case hd => rfl); (case hg => rfl); (case hr => first | (go_simp; done) | (go_simp; rfl)); intro gb1145 hg w39 hbox hb; have n0_ := Aside0.mk (blk_below (g := gb1117) (o := .cells #[.bool t1112, .bool t1113, .bool t1114, .bool t1115, .bool t1116] 41 (0, 0)) (by (with_reducible repeat (first | refine blk_drewN ?_ _ | refine blk_drew ?_ | refine blk_alloc ?_ _)); exact BK1117.out) hb); have n1_ := Aside0.mk (blk_below (g := gb1124) (o := .cells #[.bool t1119, .bool t1120, .bool t1121, .bool t1122, .bool t1123] 41 (0, 0)) (by (with_reducible repeat (first | refine blk_drewN ?_ _ | refine blk_drew ?_ | refine blk_alloc ?_ _)); exact BK1124.out) hb); have n2_ := Aside0.mk (blk_below (g := gb1131) (o := .cells #[.bool t1126, .bool t1127, .bool t1128, .bool t1129, .bool t1130] 41 (0, 0)) (by (with_reducible repeat (first | refine blk_drewN ?_ _ | refine blk_drew ?_ | refine blk_alloc ?_ _)); exact BK1131.out) hb); have n3_ := Aside0.mk (blk_below (g := gb1138) (o := .cells #[.bool t1133, .bool t1134, .bool t1135, .bool t1136, .bool t1137] 41 (0, 0)) (by (with_reducible repeat (first | refine blk_drewN ?_ _ | refine blk_drew ?_ | refine blk_alloc ?_ _)); exact BK1138.out) hb); have n4_ := Aside0.mk (below_step (by repeat (first | (with_reducible first | exact HB.out | apply below_alloc | apply pw_below_drewN | apply below_drew1 | refine below_set ?_ GE1117.out | refine below_set ?_ GE1124.out | refine below_set ?_ GE1131.out | refine below_set ?_ GE1138.out) | exact HB.out)) hb); have n5_ := Aside0.mk (hbox); have n6_ := Aside0.mk ((by rw [hg]; exact (below_size (by repeat (first | (with_reducible first | exact HB.out | apply below_alloc | apply pw_below_drewN | apply below_drew1 | refine below_set ?_ GE1117.out | refine below_set ?_ GE1124.out | refine below_set ?_ GE1131.out | refine below_set ?_ GE1138.out) | exact HB.out))) : w.heap.size ≤ gb1145)); have n7_ := Aside0.mk ((by rw [hg]; exact (below_size (by repeat (first | (with_reducible first | exact HB.out | apply below_alloc | apply pw_below_drewN | apply below_drew1 | refine below_set ?_ GE1117.out | refine below_set ?_ GE1124.out | refine below_set ?_ GE1131.out | refine below_set ?_ GE1138.out) | exact HB.out))) : w.heap.size ≤ gb1145)); have n8_ := Aside0.mk ((by rw [hg]; exact Nat.ne_of_lt (blk_lt (g := gb1117) (o := .cells #[.bool t1112, .bool t1113, .bool t1114, .bool t1115, .bool t1116] 41 (0, 0)) (by (with_reducible repeat (first | refine blk_drewN ?_ _ | refine blk_drew ?_ | refine blk_alloc ?_ _)); exact BK1117.out)) : gb1117 ≠ gb1145)); have n9_ := Aside0.mk ((by rw [hg]; exact Nat.ne_of_gt (blk_lt (g := gb1117) (o := .cells #[.bool t1112, .bool t1113, .bool t1114, .bool t1115, .bool t1116] 41 (0, 0)) (by (with_reducible repeat (first | refine blk_drewN ?_ _ | refine blk_drew ?_ | refine blk_alloc ?_ _)); exact BK1117.out)) : gb1145 ≠ gb1117)); have n10_ := Aside0.mk ((by rw [hg]; exact Nat.ne_of_lt (blk_lt (g := gb1124) (o := .cells #[.bool t1119, .bool t1120, .bool t1121, .bool t1122, .bool t1123] 41 (0, 0)) (by (with_reducible repeat (first | refine blk_drewN ?_ _ | refine blk_drew ?_ | refine blk_alloc ?_ _)); exact BK1124.out)) : gb1124 ≠ gb1145)); have n11_ := Aside0.mk ((by rw [hg]; exact Nat.ne_of_gt (blk_lt (g := gb1124) (o := .cells #[.bool t1119, .bool t1120, .bool t1121, .bool t1122, .bool t1123] 41 (0, 0)) (by (with_reducible repeat (first | refine blk_drewN ?_ _ | refine blk_drew ?_ | refine blk_alloc ?_ _)); exact BK1124.out)) : gb1145 ≠ gb1124)); have n12_ := Aside0.mk ((by rw [hg]; exact Nat.ne_of_lt (blk_lt (g := gb1131) (o := .cells #[.bool t1126, .bool t1127, .bool t1128, .bool t1129, .bool t1130] 41 (0, 0)) (by (with_reducible repeat (first | refine blk_drewN ?_ _ | refine blk_drew ?_ | refine blk_alloc ?_ _)); exact BK1131.out)) : gb1131 ≠ gb1145)); have n13_ := Aside0.mk ((by rw [hg]; exact Nat.ne_of_gt (blk_lt (g := gb1131) (o := .cells #[.bool t1126, .bool t1127, .bool t1128, .bool t1129, .bool t1130] 41 (0, 0)) (by (with_reducible repeat (first | refine blk_drewN ?_ _ | refine blk_drew ?_ | refine blk_alloc ?_ _)); exact BK1131.out)) : gb1145 ≠ gb1131)); have n14_ := Aside0.mk ((by rw [hg]; exact Nat.ne_of_lt (blk_lt (g := gb1138) (o := .cells #[.bool t1133, .bool t1134, .bool t1135, .bool t1136, .bool t1137] 41 (0, 0)) (by (with_reducible repeat (first | refine blk_drewN ?_ _ | refine blk_drew ?_ | refine blk_alloc ?_ _)); exact BK1138.out)) : gb1138 ≠ gb1145)); have n15_ := Aside0.mk ((by rw [hg]; exact Nat.ne_of_gt (blk_lt (g := gb1138) (o := .cells #[.bool t1133, .bool t1134, .bool t1135, .bool t1136, .bool t1137] 41 (0, 0)) (by (with_reducible repeat (first | refine blk_drewN ?_ _ | refine blk_drew ?_ | refine blk_alloc ?_ _)); exact BK1138.out)) : gb1145 ≠ gb1138)); clear BK1117; clear BK1124; clear BK1131; clear BK1138; clear HB; have BK1117 := n0_; have BK1124 := n1_; have BK1131 := n2_; have BK1138 := n3_; have HB := n4_; have BK1145 := n5_; have GW1145 := n6_; have GE1145 := n7_; have NB1117_1145 := n8_; have NB1145_1117 := n9_; have NB1124_1145 := n10_; have NB1145_1124 := n11_; have NB1131_1145 := n12_; have NB1145_1131 := n13_; have NB1138_1145 := n14_; have NB1145_1138 := n15_; clear n0_ n1_ n2_ n3_ n4_ n5_ n6_ n7_ n8_ n9_ n10_ n11_ n12_ n13_ n14_ n15_; clear hb hbox hg; have hnb40 := NB1145_1117.out; have hnc40 := NB1117_1145.out; have hnb41 := NB1145_1124.out; have hnc41 := NB1124_1145.out; have hnb42 := NB1145_1131.out; have hnc42 := NB1131_1145.out; have hnb43 := NB1145_1138.out; have hnc43 := NB1138_1145.out; have hcz44_0 : w39.cell? ⟨gb1145, 0, none⟩ = some (.bool false) := (blk_cell BK1145.out 0).trans rfl; have hcz44_1 : w39.cell? ⟨gb1145, 1, none⟩ = some (.bool false) := (blk_cell BK1145.out 1).trans rfl; have hcz44_2 : w39.cell? ⟨gb1145, 2, none⟩ = some (.bool false) := (blk_cell BK1145.out 2).trans rfl; have hcz44_3 : w39.cell? ⟨gb1145, 3, none⟩ = some (.bool false) := (blk_cell BK1145.out 3).trans rfl; have hcz44_4 : w39.cell? ⟨gb1145, 4, none⟩ = some (.bool false) := (blk_cell BK1145.out 4).trans rfl; have hfz44_0 := blk_frozen BK1145.out 0; have hfz44_1 := blk_frozen BK1145.out 1; have hfz44_2 := blk_frozen BK1145.out 2; have hfz44_3 := blk_frozen BK1145.out 3; have hfz44_4 := blk_frozen BK1145.out 4))
      (try simp only [Act.put, List.setIfInBounds_toArray, List.set_cons_zero, List.set_cons_succ])
      go_cut [8] (fun v8 wc => ∃ (kq : Nat) (x8_16 : Bool), v8 = .bool x8_16 ∧ Aside0 (anneallaw8_WholeBack.j0 kq x8_16 = some r) ∧ Aside0 (kq ≤ k) ∧ Aside0 (wc.heap[gb1117]? = some (.cells #[.bool t1112, .bool t1113, .bool t1114, .bool t1115, .bool t1116] 41 (0, 0))) ∧ Aside0 (wc.heap[gb1124]? = some (.cells #[.bool t1119, .bool t1120, .bool t1121, .bool t1122, .bool t1123] 41 (0, 0))) ∧ Aside0 (wc.heap[gb1131]? = some (.cells #[.bool t1126, .bool t1127, .bool t1128, .bool t1129, .bool t1130] 41 (0, 0))) ∧ Aside0 (wc.heap[gb1138]? = some (.cells #[.bool t1133, .bool t1134, .bool t1135, .bool t1136, .bool t1137] 41 (0, 0))) ∧ Aside0 (wc.heap[gb1145]? = some (.cells #[.bool t1140, .bool t1141, .bool t1142, .bool t1143, .bool t1144] 41 (0, 0))) ∧ Aside0 (Below w.heap.size w wc))
      case first =>
        have H := HC17.out
        clear HC17
        by_cases c45 : (!t1112 && (!t1113 && (!t1114 && (!t1115 && (!t1116))))) = true
        · rw [if_pos c45] at H
          have c45b0 : (!t1112 && (!t1113 && (!t1114 && (!t1115 && (!t1116))))) = true := c45
          clear c45
          (first | rw [c45b0] | (simp only [i64_w, i32_w]; rw [c45b0]) | skip)
          by_cases c46 : (!t1119 && (!t1120 && (!t1121 && (!t1122 && (!t1123))))) = true
          · rw [if_pos c46] at H
            have c46b0 : (!t1119 && (!t1120 && (!t1121 && (!t1122 && (!t1123))))) = true := c46
            clear c46
            by_cases c47 : (!t1126 && (!t1127 && (!t1128 && (!t1129 && (!t1130))))) = true
            · rw [if_pos c47] at H
              have c47b0 : (!t1126 && (!t1127 && (!t1128 && (!t1129 && (!t1130))))) = true := c47
              clear c47
              by_cases c48 : (wrap64 (t1118)) = (ji11)
              · rw [if_pos c48] at H
                have c48b0 : ((wrap64 (t1118)) == (ji11)) = true := beq_iff_eq.mpr c48
                have c48b1 : ((wrap64 (t1118)) != (ji11)) = false := bne_eq_false_iff_eq.mpr c48
                clear c48
                by_cases c49 : t1125 = t1111
                · rw [if_pos c49] at H
                  have c49b0 : (t1125 == t1111) = true := beq_iff_eq.mpr c49
                  have c49b1 : (t1125 != t1111) = false := bne_eq_false_iff_eq.mpr c49
                  clear c49
                  by_cases c50 : (!t1133 && (!t1134 && (!t1135 && (!t1136 && (!t1137))))) = true
                  · rw [if_pos c50] at H
                    have c50b0 : (!t1133 && (!t1134 && (!t1135 && (!t1136 && (!t1137))))) = true := c50
                    clear c50
                    by_cases c51 : (!t1140 && (!t1141 && (!t1142 && (!t1143 && (!t1144))))) = true
                    · rw [if_pos c51] at H
                      have c51b0 : (!t1140 && (!t1141 && (!t1142 && (!t1143 && (!t1144))))) = true := c51
                      clear c51
                      have H' := Aside0.mk H
                      clear H
                      have hnb52 := NB1117_1124.out
                      have hnc52 := NB1124_1117.out
                      have hnb53 := NB1117_1131.out
                      have hnc53 := NB1131_1117.out
                      have hnb54 := NB1117_1138.out
                      have hnc54 := NB1138_1117.out
                      have hnb55 := NB1117_1145.out
                      have hnc55 := NB1145_1117.out
                      have hcz56_0 : w39.cell? ⟨gb1117, 0, none⟩ = some (.bool t1112) := (blk_cell BK1117.out 0).trans rfl
                      have hcz56_1 : w39.cell? ⟨gb1117, 1, none⟩ = some (.bool t1113) := (blk_cell BK1117.out 1).trans rfl
                      have hcz56_2 : w39.cell? ⟨gb1117, 2, none⟩ = some (.bool t1114) := (blk_cell BK1117.out 2).trans rfl
                      have hcz56_3 : w39.cell? ⟨gb1117, 3, none⟩ = some (.bool t1115) := (blk_cell BK1117.out 3).trans rfl
                      have hcz56_4 : w39.cell? ⟨gb1117, 4, none⟩ = some (.bool t1116) := (blk_cell BK1117.out 4).trans rfl
                      have hfz56_0 := blk_frozen BK1117.out 0
                      have hfz56_1 := blk_frozen BK1117.out 1
                      have hfz56_2 := blk_frozen BK1117.out 2
                      have hfz56_3 := blk_frozen BK1117.out 3
                      have hfz56_4 := blk_frozen BK1117.out 4
                      have hnb57 := NB1124_1131.out
                      have hnc57 := NB1131_1124.out
                      have hnb58 := NB1124_1138.out
                      have hnc58 := NB1138_1124.out
                      have hnb59 := NB1124_1145.out
                      have hnc59 := NB1145_1124.out
                      have hcz60_0 : w39.cell? ⟨gb1124, 0, none⟩ = some (.bool t1119) := (blk_cell BK1124.out 0).trans rfl
                      have hcz60_1 : w39.cell? ⟨gb1124, 1, none⟩ = some (.bool t1120) := (blk_cell BK1124.out 1).trans rfl
                      have hcz60_2 : w39.cell? ⟨gb1124, 2, none⟩ = some (.bool t1121) := (blk_cell BK1124.out 2).trans rfl
                      have hcz60_3 : w39.cell? ⟨gb1124, 3, none⟩ = some (.bool t1122) := (blk_cell BK1124.out 3).trans rfl
                      have hcz60_4 : w39.cell? ⟨gb1124, 4, none⟩ = some (.bool t1123) := (blk_cell BK1124.out 4).trans rfl
                      have hfz60_0 := blk_frozen BK1124.out 0
                      have hfz60_1 := blk_frozen BK1124.out 1
                      have hfz60_2 := blk_frozen BK1124.out 2
                      have hfz60_3 := blk_frozen BK1124.out 3
                      have hfz60_4 := blk_frozen BK1124.out 4
                      have hnb61 := NB1131_1138.out
                      have hnc61 := NB1138_1131.out
                      have hnb62 := NB1131_1145.out
                      have hnc62 := NB1145_1131.out
                      have hcz63_0 : w39.cell? ⟨gb1131, 0, none⟩ = some (.bool t1126) := (blk_cell BK1131.out 0).trans rfl
                      have hcz63_1 : w39.cell? ⟨gb1131, 1, none⟩ = some (.bool t1127) := (blk_cell BK1131.out 1).trans rfl
                      have hcz63_2 : w39.cell? ⟨gb1131, 2, none⟩ = some (.bool t1128) := (blk_cell BK1131.out 2).trans rfl
                      have hcz63_3 : w39.cell? ⟨gb1131, 3, none⟩ = some (.bool t1129) := (blk_cell BK1131.out 3).trans rfl
                      have hcz63_4 : w39.cell? ⟨gb1131, 4, none⟩ = some (.bool t1130) := (blk_cell BK1131.out 4).trans rfl
                      have hfz63_0 := blk_frozen BK1131.out 0
                      have hfz63_1 := blk_frozen BK1131.out 1
                      have hfz63_2 := blk_frozen BK1131.out 2
                      have hfz63_3 := blk_frozen BK1131.out 3
                      have hfz63_4 := blk_frozen BK1131.out 4
                      have hnb64 := NB1138_1145.out
                      have hnc64 := NB1145_1138.out
                      have hcz65_0 : w39.cell? ⟨gb1138, 0, none⟩ = some (.bool t1133) := (blk_cell BK1138.out 0).trans rfl
                      have hcz65_1 : w39.cell? ⟨gb1138, 1, none⟩ = some (.bool t1134) := (blk_cell BK1138.out 1).trans rfl
                      have hcz65_2 : w39.cell? ⟨gb1138, 2, none⟩ = some (.bool t1135) := (blk_cell BK1138.out 2).trans rfl
                      have hcz65_3 : w39.cell? ⟨gb1138, 3, none⟩ = some (.bool t1136) := (blk_cell BK1138.out 3).trans rfl
                      have hcz65_4 : w39.cell? ⟨gb1138, 4, none⟩ = some (.bool t1137) := (blk_cell BK1138.out 4).trans rfl
                      have hfz65_0 := blk_frozen BK1138.out 0
                      have hfz65_1 := blk_frozen BK1138.out 1
                      have hfz65_2 := blk_frozen BK1138.out 2
                      have hfz65_3 := blk_frozen BK1138.out 3
                      have hfz65_4 := blk_frozen BK1138.out 4
                      have hcz66_0 : w39.cell? ⟨gb1145, 0, none⟩ = some (.bool false) := (blk_cell BK1145.out 0).trans rfl
                      have hcz66_1 : w39.cell? ⟨gb1145, 1, none⟩ = some (.bool false) := (blk_cell BK1145.out 1).trans rfl
                      have hcz66_2 : w39.cell? ⟨gb1145, 2, none⟩ = some (.bool false) := (blk_cell BK1145.out 2).trans rfl
                      have hcz66_3 : w39.cell? ⟨gb1145, 3, none⟩ = some (.bool false) := (blk_cell BK1145.out 3).trans rfl
                      have hcz66_4 : w39.cell? ⟨gb1145, 4, none⟩ = some (.bool false) := (blk_cell BK1145.out 4).trans rfl
                      have hfz66_0 := blk_frozen BK1145.out 0
                      have hfz66_1 := blk_frozen BK1145.out 1
                      have hfz66_2 := blk_frozen BK1145.out 2
                      have hfz66_3 := blk_frozen BK1145.out 3
                      have hfz66_4 := blk_frozen BK1145.out 4
                      go_wp2
                      go_meet
                      case rel => exact ⟨_, ((t1139 == t1111)), (by first | rfl | (simp; done) | (simp [*]; done) | (congr 1; (try unfold wrap64); omega) | (congr 1; rw [IntKind.wrap_u64]; omega)), H', ⟨by first | omega | exact Nat.le_refl _⟩, ⟨by (with_reducible repeat (first | refine blk_drewN ?_ _ | refine blk_drew ?_ | refine blk_alloc ?_ _)); refine blk_far ?_ NB1117_1145.out _; (with_reducible repeat (first | refine blk_drewN ?_ _ | refine blk_drew ?_ | refine blk_alloc ?_ _)); refine blk_far ?_ NB1117_1145.out _; (with_reducible repeat (first | refine blk_drewN ?_ _ | refine blk_drew ?_ | refine blk_alloc ?_ _)); refine blk_far ?_ NB1117_1145.out _; (with_reducible repeat (first | refine blk_drewN ?_ _ | refine blk_drew ?_ | refine blk_alloc ?_ _)); refine blk_far ?_ NB1117_1145.out _; (with_reducible repeat (first | refine blk_drewN ?_ _ | refine blk_drew ?_ | refine blk_alloc ?_ _)); refine blk_far ?_ NB1117_1145.out _; (with_reducible repeat (first | refine blk_drewN ?_ _ | refine blk_drew ?_ | refine blk_alloc ?_ _)); exact BK1117.out⟩, ⟨by (with_reducible repeat (first | refine blk_drewN ?_ _ | refine blk_drew ?_ | refine blk_alloc ?_ _)); refine blk_far ?_ NB1124_1145.out _; (with_reducible repeat (first | refine blk_drewN ?_ _ | refine blk_drew ?_ | refine blk_alloc ?_ _)); refine blk_far ?_ NB1124_1145.out _; (with_reducible repeat (first | refine blk_drewN ?_ _ | refine blk_drew ?_ | refine blk_alloc ?_ _)); refine blk_far ?_ NB1124_1145.out _; (with_reducible repeat (first | refine blk_drewN ?_ _ | refine blk_drew ?_ | refine blk_alloc ?_ _)); refine blk_far ?_ NB1124_1145.out _; (with_reducible repeat (first | refine blk_drewN ?_ _ | refine blk_drew ?_ | refine blk_alloc ?_ _)); refine blk_far ?_ NB1124_1145.out _; (with_reducible repeat (first | refine blk_drewN ?_ _ | refine blk_drew ?_ | refine blk_alloc ?_ _)); exact BK1124.out⟩, ⟨by (with_reducible repeat (first | refine blk_drewN ?_ _ | refine blk_drew ?_ | refine blk_alloc ?_ _)); refine blk_far ?_ NB1131_1145.out _; (with_reducible repeat (first | refine blk_drewN ?_ _ | refine blk_drew ?_ | refine blk_alloc ?_ _)); refine blk_far ?_ NB1131_1145.out _; (with_reducible repeat (first | refine blk_drewN ?_ _ | refine blk_drew ?_ | refine blk_alloc ?_ _)); refine blk_far ?_ NB1131_1145.out _; (with_reducible repeat (first | refine blk_drewN ?_ _ | refine blk_drew ?_ | refine blk_alloc ?_ _)); refine blk_far ?_ NB1131_1145.out _; (with_reducible repeat (first | refine blk_drewN ?_ _ | refine blk_drew ?_ | refine blk_alloc ?_ _)); refine blk_far ?_ NB1131_1145.out _; (with_reducible repeat (first | refine blk_drewN ?_ _ | refine blk_drew ?_ | refine blk_alloc ?_ _)); exact BK1131.out⟩, ⟨by (with_reducible repeat (first | refine blk_drewN ?_ _ | refine blk_drew ?_ | refine blk_alloc ?_ _)); refine blk_far ?_ NB1138_1145.out _; (with_reducible repeat (first | refine blk_drewN ?_ _ | refine blk_drew ?_ | refine blk_alloc ?_ _)); refine blk_far ?_ NB1138_1145.out _; (with_reducible repeat (first | refine blk_drewN ?_ _ | refine blk_drew ?_ | refine blk_alloc ?_ _)); refine blk_far ?_ NB1138_1145.out _; (with_reducible repeat (first | refine blk_drewN ?_ _ | refine blk_drew ?_ | refine blk_alloc ?_ _)); refine blk_far ?_ NB1138_1145.out _; (with_reducible repeat (first | refine blk_drewN ?_ _ | refine blk_drew ?_ | refine blk_alloc ?_ _)); refine blk_far ?_ NB1138_1145.out _; (with_reducible repeat (first | refine blk_drewN ?_ _ | refine blk_drew ?_ | refine blk_alloc ?_ _)); exact BK1138.out⟩, ⟨by (with_reducible repeat (first | refine blk_drewN ?_ _ | refine blk_drew ?_ | refine blk_alloc ?_ _)); refine blk_put (cs := #[.bool t1140, .bool t1141, .bool t1142, .bool t1143, .bool false]) ?_ 4 _ rfl; (with_reducible repeat (first | refine blk_drewN ?_ _ | refine blk_drew ?_ | refine blk_alloc ?_ _)); refine blk_put (cs := #[.bool t1140, .bool t1141, .bool t1142, .bool false, .bool false]) ?_ 3 _ rfl; (with_reducible repeat (first | refine blk_drewN ?_ _ | refine blk_drew ?_ | refine blk_alloc ?_ _)); refine blk_put (cs := #[.bool t1140, .bool t1141, .bool false, .bool false, .bool false]) ?_ 2 _ rfl; (with_reducible repeat (first | refine blk_drewN ?_ _ | refine blk_drew ?_ | refine blk_alloc ?_ _)); refine blk_put (cs := #[.bool t1140, .bool false, .bool false, .bool false, .bool false]) ?_ 1 _ rfl; (with_reducible repeat (first | refine blk_drewN ?_ _ | refine blk_drew ?_ | refine blk_alloc ?_ _)); refine blk_put (cs := #[.bool false, .bool false, .bool false, .bool false, .bool false]) ?_ 0 _ rfl; (with_reducible repeat (first | refine blk_drewN ?_ _ | refine blk_drew ?_ | refine blk_alloc ?_ _)); exact BK1145.out⟩, ⟨by repeat (first | (with_reducible first | exact HB.out | apply below_alloc | apply pw_below_drewN | apply below_drew1 | refine below_set ?_ GE1117.out | refine below_set ?_ GE1124.out | refine below_set ?_ GE1131.out | refine below_set ?_ GE1138.out | refine below_set ?_ GE1145.out) | exact HB.out)⟩⟩
                    · rw [if_neg c51] at H
                      have c51b0 : (!t1140 && (!t1141 && (!t1142 && (!t1143 && (!t1144))))) = false := by simpa using c51
                      clear c51
                      have H' := Aside0.mk H
                      clear H
                      have hnb67 := NB1117_1124.out
                      have hnc67 := NB1124_1117.out
                      have hnb68 := NB1117_1131.out
                      have hnc68 := NB1131_1117.out
                      have hnb69 := NB1117_1138.out
                      have hnc69 := NB1138_1117.out
                      have hnb70 := NB1117_1145.out
                      have hnc70 := NB1145_1117.out
                      have hcz71_0 : w39.cell? ⟨gb1117, 0, none⟩ = some (.bool t1112) := (blk_cell BK1117.out 0).trans rfl
                      have hcz71_1 : w39.cell? ⟨gb1117, 1, none⟩ = some (.bool t1113) := (blk_cell BK1117.out 1).trans rfl
                      have hcz71_2 : w39.cell? ⟨gb1117, 2, none⟩ = some (.bool t1114) := (blk_cell BK1117.out 2).trans rfl
                      have hcz71_3 : w39.cell? ⟨gb1117, 3, none⟩ = some (.bool t1115) := (blk_cell BK1117.out 3).trans rfl
                      have hcz71_4 : w39.cell? ⟨gb1117, 4, none⟩ = some (.bool t1116) := (blk_cell BK1117.out 4).trans rfl
                      have hfz71_0 := blk_frozen BK1117.out 0
                      have hfz71_1 := blk_frozen BK1117.out 1
                      have hfz71_2 := blk_frozen BK1117.out 2
                      have hfz71_3 := blk_frozen BK1117.out 3
                      have hfz71_4 := blk_frozen BK1117.out 4
                      have hnb72 := NB1124_1131.out
                      have hnc72 := NB1131_1124.out
                      have hnb73 := NB1124_1138.out
                      have hnc73 := NB1138_1124.out
                      have hnb74 := NB1124_1145.out
                      have hnc74 := NB1145_1124.out
                      have hcz75_0 : w39.cell? ⟨gb1124, 0, none⟩ = some (.bool t1119) := (blk_cell BK1124.out 0).trans rfl
                      have hcz75_1 : w39.cell? ⟨gb1124, 1, none⟩ = some (.bool t1120) := (blk_cell BK1124.out 1).trans rfl
                      have hcz75_2 : w39.cell? ⟨gb1124, 2, none⟩ = some (.bool t1121) := (blk_cell BK1124.out 2).trans rfl
                      have hcz75_3 : w39.cell? ⟨gb1124, 3, none⟩ = some (.bool t1122) := (blk_cell BK1124.out 3).trans rfl
                      have hcz75_4 : w39.cell? ⟨gb1124, 4, none⟩ = some (.bool t1123) := (blk_cell BK1124.out 4).trans rfl
                      have hfz75_0 := blk_frozen BK1124.out 0
                      have hfz75_1 := blk_frozen BK1124.out 1
                      have hfz75_2 := blk_frozen BK1124.out 2
                      have hfz75_3 := blk_frozen BK1124.out 3
                      have hfz75_4 := blk_frozen BK1124.out 4
                      have hnb76 := NB1131_1138.out
                      have hnc76 := NB1138_1131.out
                      have hnb77 := NB1131_1145.out
                      have hnc77 := NB1145_1131.out
                      have hcz78_0 : w39.cell? ⟨gb1131, 0, none⟩ = some (.bool t1126) := (blk_cell BK1131.out 0).trans rfl
                      have hcz78_1 : w39.cell? ⟨gb1131, 1, none⟩ = some (.bool t1127) := (blk_cell BK1131.out 1).trans rfl
                      have hcz78_2 : w39.cell? ⟨gb1131, 2, none⟩ = some (.bool t1128) := (blk_cell BK1131.out 2).trans rfl
                      have hcz78_3 : w39.cell? ⟨gb1131, 3, none⟩ = some (.bool t1129) := (blk_cell BK1131.out 3).trans rfl
                      have hcz78_4 : w39.cell? ⟨gb1131, 4, none⟩ = some (.bool t1130) := (blk_cell BK1131.out 4).trans rfl
                      have hfz78_0 := blk_frozen BK1131.out 0
                      have hfz78_1 := blk_frozen BK1131.out 1
                      have hfz78_2 := blk_frozen BK1131.out 2
                      have hfz78_3 := blk_frozen BK1131.out 3
                      have hfz78_4 := blk_frozen BK1131.out 4
                      have hnb79 := NB1138_1145.out
                      have hnc79 := NB1145_1138.out
                      have hcz80_0 : w39.cell? ⟨gb1138, 0, none⟩ = some (.bool t1133) := (blk_cell BK1138.out 0).trans rfl
                      have hcz80_1 : w39.cell? ⟨gb1138, 1, none⟩ = some (.bool t1134) := (blk_cell BK1138.out 1).trans rfl
                      have hcz80_2 : w39.cell? ⟨gb1138, 2, none⟩ = some (.bool t1135) := (blk_cell BK1138.out 2).trans rfl
                      have hcz80_3 : w39.cell? ⟨gb1138, 3, none⟩ = some (.bool t1136) := (blk_cell BK1138.out 3).trans rfl
                      have hcz80_4 : w39.cell? ⟨gb1138, 4, none⟩ = some (.bool t1137) := (blk_cell BK1138.out 4).trans rfl
                      have hfz80_0 := blk_frozen BK1138.out 0
                      have hfz80_1 := blk_frozen BK1138.out 1
                      have hfz80_2 := blk_frozen BK1138.out 2
                      have hfz80_3 := blk_frozen BK1138.out 3
                      have hfz80_4 := blk_frozen BK1138.out 4
                      have hcz81_0 : w39.cell? ⟨gb1145, 0, none⟩ = some (.bool false) := (blk_cell BK1145.out 0).trans rfl
                      have hcz81_1 : w39.cell? ⟨gb1145, 1, none⟩ = some (.bool false) := (blk_cell BK1145.out 1).trans rfl
                      have hcz81_2 : w39.cell? ⟨gb1145, 2, none⟩ = some (.bool false) := (blk_cell BK1145.out 2).trans rfl
                      have hcz81_3 : w39.cell? ⟨gb1145, 3, none⟩ = some (.bool false) := (blk_cell BK1145.out 3).trans rfl
                      have hcz81_4 : w39.cell? ⟨gb1145, 4, none⟩ = some (.bool false) := (blk_cell BK1145.out 4).trans rfl
                      have hfz81_0 := blk_frozen BK1145.out 0
                      have hfz81_1 := blk_frozen BK1145.out 1
                      have hfz81_2 := blk_frozen BK1145.out 2
                      have hfz81_3 := blk_frozen BK1145.out 3
                      have hfz81_4 := blk_frozen BK1145.out 4
                      go_wp2
                      go_meet
                      case rel => exact ⟨_, (false), (by first | rfl | (simp; done) | (simp [*]; done) | (congr 1; (try unfold wrap64); omega) | (congr 1; rw [IntKind.wrap_u64]; omega)), H', ⟨by first | omega | exact Nat.le_refl _⟩, ⟨by (with_reducible repeat (first | refine blk_drewN ?_ _ | refine blk_drew ?_ | refine blk_alloc ?_ _)); refine blk_far ?_ NB1117_1145.out _; (with_reducible repeat (first | refine blk_drewN ?_ _ | refine blk_drew ?_ | refine blk_alloc ?_ _)); refine blk_far ?_ NB1117_1145.out _; (with_reducible repeat (first | refine blk_drewN ?_ _ | refine blk_drew ?_ | refine blk_alloc ?_ _)); refine blk_far ?_ NB1117_1145.out _; (with_reducible repeat (first | refine blk_drewN ?_ _ | refine blk_drew ?_ | refine blk_alloc ?_ _)); refine blk_far ?_ NB1117_1145.out _; (with_reducible repeat (first | refine blk_drewN ?_ _ | refine blk_drew ?_ | refine blk_alloc ?_ _)); refine blk_far ?_ NB1117_1145.out _; (with_reducible repeat (first | refine blk_drewN ?_ _ | refine blk_drew ?_ | refine blk_alloc ?_ _)); exact BK1117.out⟩, ⟨by (with_reducible repeat (first | refine blk_drewN ?_ _ | refine blk_drew ?_ | refine blk_alloc ?_ _)); refine blk_far ?_ NB1124_1145.out _; (with_reducible repeat (first | refine blk_drewN ?_ _ | refine blk_drew ?_ | refine blk_alloc ?_ _)); refine blk_far ?_ NB1124_1145.out _; (with_reducible repeat (first | refine blk_drewN ?_ _ | refine blk_drew ?_ | refine blk_alloc ?_ _)); refine blk_far ?_ NB1124_1145.out _; (with_reducible repeat (first | refine blk_drewN ?_ _ | refine blk_drew ?_ | refine blk_alloc ?_ _)); refine blk_far ?_ NB1124_1145.out _; (with_reducible repeat (first | refine blk_drewN ?_ _ | refine blk_drew ?_ | refine blk_alloc ?_ _)); refine blk_far ?_ NB1124_1145.out _; (with_reducible repeat (first | refine blk_drewN ?_ _ | refine blk_drew ?_ | refine blk_alloc ?_ _)); exact BK1124.out⟩, ⟨by (with_reducible repeat (first | refine blk_drewN ?_ _ | refine blk_drew ?_ | refine blk_alloc ?_ _)); refine blk_far ?_ NB1131_1145.out _; (with_reducible repeat (first | refine blk_drewN ?_ _ | refine blk_drew ?_ | refine blk_alloc ?_ _)); refine blk_far ?_ NB1131_1145.out _; (with_reducible repeat (first | refine blk_drewN ?_ _ | refine blk_drew ?_ | refine blk_alloc ?_ _)); refine blk_far ?_ NB1131_1145.out _; (with_reducible repeat (first | refine blk_drewN ?_ _ | refine blk_drew ?_ | refine blk_alloc ?_ _)); refine blk_far ?_ NB1131_1145.out _; (with_reducible repeat (first | refine blk_drewN ?_ _ | refine blk_drew ?_ | refine blk_alloc ?_ _)); refine blk_far ?_ NB1131_1145.out _; (with_reducible repeat (first | refine blk_drewN ?_ _ | refine blk_drew ?_ | refine blk_alloc ?_ _)); exact BK1131.out⟩, ⟨by (with_reducible repeat (first | refine blk_drewN ?_ _ | refine blk_drew ?_ | refine blk_alloc ?_ _)); refine blk_far ?_ NB1138_1145.out _; (with_reducible repeat (first | refine blk_drewN ?_ _ | refine blk_drew ?_ | refine blk_alloc ?_ _)); refine blk_far ?_ NB1138_1145.out _; (with_reducible repeat (first | refine blk_drewN ?_ _ | refine blk_drew ?_ | refine blk_alloc ?_ _)); refine blk_far ?_ NB1138_1145.out _; (with_reducible repeat (first | refine blk_drewN ?_ _ | refine blk_drew ?_ | refine blk_alloc ?_ _)); refine blk_far ?_ NB1138_1145.out _; (with_reducible repeat (first | refine blk_drewN ?_ _ | refine blk_drew ?_ | refine blk_alloc ?_ _)); refine blk_far ?_ NB1138_1145.out _; (with_reducible repeat (first | refine blk_drewN ?_ _ | refine blk_drew ?_ | refine blk_alloc ?_ _)); exact BK1138.out⟩, ⟨by (with_reducible repeat (first | refine blk_drewN ?_ _ | refine blk_drew ?_ | refine blk_alloc ?_ _)); refine blk_put (cs := #[.bool t1140, .bool t1141, .bool t1142, .bool t1143, .bool false]) ?_ 4 _ rfl; (with_reducible repeat (first | refine blk_drewN ?_ _ | refine blk_drew ?_ | refine blk_alloc ?_ _)); refine blk_put (cs := #[.bool t1140, .bool t1141, .bool t1142, .bool false, .bool false]) ?_ 3 _ rfl; (with_reducible repeat (first | refine blk_drewN ?_ _ | refine blk_drew ?_ | refine blk_alloc ?_ _)); refine blk_put (cs := #[.bool t1140, .bool t1141, .bool false, .bool false, .bool false]) ?_ 2 _ rfl; (with_reducible repeat (first | refine blk_drewN ?_ _ | refine blk_drew ?_ | refine blk_alloc ?_ _)); refine blk_put (cs := #[.bool t1140, .bool false, .bool false, .bool false, .bool false]) ?_ 1 _ rfl; (with_reducible repeat (first | refine blk_drewN ?_ _ | refine blk_drew ?_ | refine blk_alloc ?_ _)); refine blk_put (cs := #[.bool false, .bool false, .bool false, .bool false, .bool false]) ?_ 0 _ rfl; (with_reducible repeat (first | refine blk_drewN ?_ _ | refine blk_drew ?_ | refine blk_alloc ?_ _)); exact BK1145.out⟩, ⟨by repeat (first | (with_reducible first | exact HB.out | apply below_alloc | apply pw_below_drewN | apply below_drew1 | refine below_set ?_ GE1117.out | refine below_set ?_ GE1124.out | refine below_set ?_ GE1131.out | refine below_set ?_ GE1138.out | refine below_set ?_ GE1145.out) | exact HB.out)⟩⟩
                  · rw [if_neg c50] at H
                    have c50b0 : (!t1133 && (!t1134 && (!t1135 && (!t1136 && (!t1137))))) = false := by simpa using c50
                    clear c50
                    have H' := Aside0.mk H
                    clear H
                    have hnb82 := NB1117_1124.out
                    have hnc82 := NB1124_1117.out
                    have hnb83 := NB1117_1131.out
                    have hnc83 := NB1131_1117.out
                    have hnb84 := NB1117_1138.out
                    have hnc84 := NB1138_1117.out
                    have hnb85 := NB1117_1145.out
                    have hnc85 := NB1145_1117.out
                    have hcz86_0 : w39.cell? ⟨gb1117, 0, none⟩ = some (.bool t1112) := (blk_cell BK1117.out 0).trans rfl
                    have hcz86_1 : w39.cell? ⟨gb1117, 1, none⟩ = some (.bool t1113) := (blk_cell BK1117.out 1).trans rfl
                    have hcz86_2 : w39.cell? ⟨gb1117, 2, none⟩ = some (.bool t1114) := (blk_cell BK1117.out 2).trans rfl
                    have hcz86_3 : w39.cell? ⟨gb1117, 3, none⟩ = some (.bool t1115) := (blk_cell BK1117.out 3).trans rfl
                    have hcz86_4 : w39.cell? ⟨gb1117, 4, none⟩ = some (.bool t1116) := (blk_cell BK1117.out 4).trans rfl
                    have hfz86_0 := blk_frozen BK1117.out 0
                    have hfz86_1 := blk_frozen BK1117.out 1
                    have hfz86_2 := blk_frozen BK1117.out 2
                    have hfz86_3 := blk_frozen BK1117.out 3
                    have hfz86_4 := blk_frozen BK1117.out 4
                    have hnb87 := NB1124_1131.out
                    have hnc87 := NB1131_1124.out
                    have hnb88 := NB1124_1138.out
                    have hnc88 := NB1138_1124.out
                    have hnb89 := NB1124_1145.out
                    have hnc89 := NB1145_1124.out
                    have hcz90_0 : w39.cell? ⟨gb1124, 0, none⟩ = some (.bool t1119) := (blk_cell BK1124.out 0).trans rfl
                    have hcz90_1 : w39.cell? ⟨gb1124, 1, none⟩ = some (.bool t1120) := (blk_cell BK1124.out 1).trans rfl
                    have hcz90_2 : w39.cell? ⟨gb1124, 2, none⟩ = some (.bool t1121) := (blk_cell BK1124.out 2).trans rfl
                    have hcz90_3 : w39.cell? ⟨gb1124, 3, none⟩ = some (.bool t1122) := (blk_cell BK1124.out 3).trans rfl
                    have hcz90_4 : w39.cell? ⟨gb1124, 4, none⟩ = some (.bool t1123) := (blk_cell BK1124.out 4).trans rfl
                    have hfz90_0 := blk_frozen BK1124.out 0
                    have hfz90_1 := blk_frozen BK1124.out 1
                    have hfz90_2 := blk_frozen BK1124.out 2
                    have hfz90_3 := blk_frozen BK1124.out 3
                    have hfz90_4 := blk_frozen BK1124.out 4
                    have hnb91 := NB1131_1138.out
                    have hnc91 := NB1138_1131.out
                    have hnb92 := NB1131_1145.out
                    have hnc92 := NB1145_1131.out
                    have hcz93_0 : w39.cell? ⟨gb1131, 0, none⟩ = some (.bool t1126) := (blk_cell BK1131.out 0).trans rfl
                    have hcz93_1 : w39.cell? ⟨gb1131, 1, none⟩ = some (.bool t1127) := (blk_cell BK1131.out 1).trans rfl
                    have hcz93_2 : w39.cell? ⟨gb1131, 2, none⟩ = some (.bool t1128) := (blk_cell BK1131.out 2).trans rfl
                    have hcz93_3 : w39.cell? ⟨gb1131, 3, none⟩ = some (.bool t1129) := (blk_cell BK1131.out 3).trans rfl
                    have hcz93_4 : w39.cell? ⟨gb1131, 4, none⟩ = some (.bool t1130) := (blk_cell BK1131.out 4).trans rfl
                    have hfz93_0 := blk_frozen BK1131.out 0
                    have hfz93_1 := blk_frozen BK1131.out 1
                    have hfz93_2 := blk_frozen BK1131.out 2
                    have hfz93_3 := blk_frozen BK1131.out 3
                    have hfz93_4 := blk_frozen BK1131.out 4
                    have hnb94 := NB1138_1145.out
                    have hnc94 := NB1145_1138.out
                    have hcz95_0 : w39.cell? ⟨gb1138, 0, none⟩ = some (.bool t1133) := (blk_cell BK1138.out 0).trans rfl
                    have hcz95_1 : w39.cell? ⟨gb1138, 1, none⟩ = some (.bool t1134) := (blk_cell BK1138.out 1).trans rfl
                    have hcz95_2 : w39.cell? ⟨gb1138, 2, none⟩ = some (.bool t1135) := (blk_cell BK1138.out 2).trans rfl
                    have hcz95_3 : w39.cell? ⟨gb1138, 3, none⟩ = some (.bool t1136) := (blk_cell BK1138.out 3).trans rfl
                    have hcz95_4 : w39.cell? ⟨gb1138, 4, none⟩ = some (.bool t1137) := (blk_cell BK1138.out 4).trans rfl
                    have hfz95_0 := blk_frozen BK1138.out 0
                    have hfz95_1 := blk_frozen BK1138.out 1
                    have hfz95_2 := blk_frozen BK1138.out 2
                    have hfz95_3 := blk_frozen BK1138.out 3
                    have hfz95_4 := blk_frozen BK1138.out 4
                    go_wp2
                    go_meet
                    case rel => exact ⟨_, (false), (by first | rfl | (simp; done) | (simp [*]; done) | (congr 1; (try unfold wrap64); omega) | (congr 1; rw [IntKind.wrap_u64]; omega)), H', ⟨by first | omega | exact Nat.le_refl _⟩, ⟨by (with_reducible repeat (first | refine blk_drewN ?_ _ | refine blk_drew ?_ | refine blk_alloc ?_ _)); refine blk_far ?_ NB1117_1145.out _; (with_reducible repeat (first | refine blk_drewN ?_ _ | refine blk_drew ?_ | refine blk_alloc ?_ _)); refine blk_far ?_ NB1117_1145.out _; (with_reducible repeat (first | refine blk_drewN ?_ _ | refine blk_drew ?_ | refine blk_alloc ?_ _)); refine blk_far ?_ NB1117_1145.out _; (with_reducible repeat (first | refine blk_drewN ?_ _ | refine blk_drew ?_ | refine blk_alloc ?_ _)); refine blk_far ?_ NB1117_1145.out _; (with_reducible repeat (first | refine blk_drewN ?_ _ | refine blk_drew ?_ | refine blk_alloc ?_ _)); refine blk_far ?_ NB1117_1145.out _; (with_reducible repeat (first | refine blk_drewN ?_ _ | refine blk_drew ?_ | refine blk_alloc ?_ _)); exact BK1117.out⟩, ⟨by (with_reducible repeat (first | refine blk_drewN ?_ _ | refine blk_drew ?_ | refine blk_alloc ?_ _)); refine blk_far ?_ NB1124_1145.out _; (with_reducible repeat (first | refine blk_drewN ?_ _ | refine blk_drew ?_ | refine blk_alloc ?_ _)); refine blk_far ?_ NB1124_1145.out _; (with_reducible repeat (first | refine blk_drewN ?_ _ | refine blk_drew ?_ | refine blk_alloc ?_ _)); refine blk_far ?_ NB1124_1145.out _; (with_reducible repeat (first | refine blk_drewN ?_ _ | refine blk_drew ?_ | refine blk_alloc ?_ _)); refine blk_far ?_ NB1124_1145.out _; (with_reducible repeat (first | refine blk_drewN ?_ _ | refine blk_drew ?_ | refine blk_alloc ?_ _)); refine blk_far ?_ NB1124_1145.out _; (with_reducible repeat (first | refine blk_drewN ?_ _ | refine blk_drew ?_ | refine blk_alloc ?_ _)); exact BK1124.out⟩, ⟨by (with_reducible repeat (first | refine blk_drewN ?_ _ | refine blk_drew ?_ | refine blk_alloc ?_ _)); refine blk_far ?_ NB1131_1145.out _; (with_reducible repeat (first | refine blk_drewN ?_ _ | refine blk_drew ?_ | refine blk_alloc ?_ _)); refine blk_far ?_ NB1131_1145.out _; (with_reducible repeat (first | refine blk_drewN ?_ _ | refine blk_drew ?_ | refine blk_alloc ?_ _)); refine blk_far ?_ NB1131_1145.out _; (with_reducible repeat (first | refine blk_drewN ?_ _ | refine blk_drew ?_ | refine blk_alloc ?_ _)); refine blk_far ?_ NB1131_1145.out _; (with_reducible repeat (first | refine blk_drewN ?_ _ | refine blk_drew ?_ | refine blk_alloc ?_ _)); refine blk_far ?_ NB1131_1145.out _; (with_reducible repeat (first | refine blk_drewN ?_ _ | refine blk_drew ?_ | refine blk_alloc ?_ _)); exact BK1131.out⟩, ⟨by (with_reducible repeat (first | refine blk_drewN ?_ _ | refine blk_drew ?_ | refine blk_alloc ?_ _)); refine blk_far ?_ NB1138_1145.out _; (with_reducible repeat (first | refine blk_drewN ?_ _ | refine blk_drew ?_ | refine blk_alloc ?_ _)); refine blk_far ?_ NB1138_1145.out _; (with_reducible repeat (first | refine blk_drewN ?_ _ | refine blk_drew ?_ | refine blk_alloc ?_ _)); refine blk_far ?_ NB1138_1145.out _; (with_reducible repeat (first | refine blk_drewN ?_ _ | refine blk_drew ?_ | refine blk_alloc ?_ _)); refine blk_far ?_ NB1138_1145.out _; (with_reducible repeat (first | refine blk_drewN ?_ _ | refine blk_drew ?_ | refine blk_alloc ?_ _)); refine blk_far ?_ NB1138_1145.out _; (with_reducible repeat (first | refine blk_drewN ?_ _ | refine blk_drew ?_ | refine blk_alloc ?_ _)); exact BK1138.out⟩, ⟨by (with_reducible repeat (first | refine blk_drewN ?_ _ | refine blk_drew ?_ | refine blk_alloc ?_ _)); refine blk_put (cs := #[.bool t1140, .bool t1141, .bool t1142, .bool t1143, .bool false]) ?_ 4 _ rfl; (with_reducible repeat (first | refine blk_drewN ?_ _ | refine blk_drew ?_ | refine blk_alloc ?_ _)); refine blk_put (cs := #[.bool t1140, .bool t1141, .bool t1142, .bool false, .bool false]) ?_ 3 _ rfl; (with_reducible repeat (first | refine blk_drewN ?_ _ | refine blk_drew ?_ | refine blk_alloc ?_ _)); refine blk_put (cs := #[.bool t1140, .bool t1141, .bool false, .bool false, .bool false]) ?_ 2 _ rfl; (with_reducible repeat (first | refine blk_drewN ?_ _ | refine blk_drew ?_ | refine blk_alloc ?_ _)); refine blk_put (cs := #[.bool t1140, .bool false, .bool false, .bool false, .bool false]) ?_ 1 _ rfl; (with_reducible repeat (first | refine blk_drewN ?_ _ | refine blk_drew ?_ | refine blk_alloc ?_ _)); refine blk_put (cs := #[.bool false, .bool false, .bool false, .bool false, .bool false]) ?_ 0 _ rfl; (with_reducible repeat (first | refine blk_drewN ?_ _ | refine blk_drew ?_ | refine blk_alloc ?_ _)); exact BK1145.out⟩, ⟨by repeat (first | (with_reducible first | exact HB.out | apply below_alloc | apply pw_below_drewN | apply below_drew1 | refine below_set ?_ GE1117.out | refine below_set ?_ GE1124.out | refine below_set ?_ GE1131.out | refine below_set ?_ GE1138.out | refine below_set ?_ GE1145.out) | exact HB.out)⟩⟩
                · rw [if_neg c49] at H
                  have c49b0 : (t1125 == t1111) = false := beq_eq_false_iff_ne.mpr c49
                  have c49b1 : (t1125 != t1111) = true := bne_iff_ne.mpr c49
                  have H' := Aside0.mk H
                  clear H
                  have hnb96 := NB1117_1124.out
                  have hnc96 := NB1124_1117.out
                  have hnb97 := NB1117_1131.out
                  have hnc97 := NB1131_1117.out
                  have hnb98 := NB1117_1138.out
                  have hnc98 := NB1138_1117.out
                  have hnb99 := NB1117_1145.out
                  have hnc99 := NB1145_1117.out
                  have hcz100_0 : w39.cell? ⟨gb1117, 0, none⟩ = some (.bool t1112) := (blk_cell BK1117.out 0).trans rfl
                  have hcz100_1 : w39.cell? ⟨gb1117, 1, none⟩ = some (.bool t1113) := (blk_cell BK1117.out 1).trans rfl
                  have hcz100_2 : w39.cell? ⟨gb1117, 2, none⟩ = some (.bool t1114) := (blk_cell BK1117.out 2).trans rfl
                  have hcz100_3 : w39.cell? ⟨gb1117, 3, none⟩ = some (.bool t1115) := (blk_cell BK1117.out 3).trans rfl
                  have hcz100_4 : w39.cell? ⟨gb1117, 4, none⟩ = some (.bool t1116) := (blk_cell BK1117.out 4).trans rfl
                  have hfz100_0 := blk_frozen BK1117.out 0
                  have hfz100_1 := blk_frozen BK1117.out 1
                  have hfz100_2 := blk_frozen BK1117.out 2
                  have hfz100_3 := blk_frozen BK1117.out 3
                  have hfz100_4 := blk_frozen BK1117.out 4
                  have hnb101 := NB1124_1131.out
                  have hnc101 := NB1131_1124.out
                  have hnb102 := NB1124_1138.out
                  have hnc102 := NB1138_1124.out
                  have hnb103 := NB1124_1145.out
                  have hnc103 := NB1145_1124.out
                  have hcz104_0 : w39.cell? ⟨gb1124, 0, none⟩ = some (.bool t1119) := (blk_cell BK1124.out 0).trans rfl
                  have hcz104_1 : w39.cell? ⟨gb1124, 1, none⟩ = some (.bool t1120) := (blk_cell BK1124.out 1).trans rfl
                  have hcz104_2 : w39.cell? ⟨gb1124, 2, none⟩ = some (.bool t1121) := (blk_cell BK1124.out 2).trans rfl
                  have hcz104_3 : w39.cell? ⟨gb1124, 3, none⟩ = some (.bool t1122) := (blk_cell BK1124.out 3).trans rfl
                  have hcz104_4 : w39.cell? ⟨gb1124, 4, none⟩ = some (.bool t1123) := (blk_cell BK1124.out 4).trans rfl
                  have hfz104_0 := blk_frozen BK1124.out 0
                  have hfz104_1 := blk_frozen BK1124.out 1
                  have hfz104_2 := blk_frozen BK1124.out 2
                  have hfz104_3 := blk_frozen BK1124.out 3
                  have hfz104_4 := blk_frozen BK1124.out 4
                  have hnb105 := NB1131_1138.out
                  have hnc105 := NB1138_1131.out
                  have hnb106 := NB1131_1145.out
                  have hnc106 := NB1145_1131.out
                  have hcz107_0 : w39.cell? ⟨gb1131, 0, none⟩ = some (.bool t1126) := (blk_cell BK1131.out 0).trans rfl
                  have hcz107_1 : w39.cell? ⟨gb1131, 1, none⟩ = some (.bool t1127) := (blk_cell BK1131.out 1).trans rfl
                  have hcz107_2 : w39.cell? ⟨gb1131, 2, none⟩ = some (.bool t1128) := (blk_cell BK1131.out 2).trans rfl
                  have hcz107_3 : w39.cell? ⟨gb1131, 3, none⟩ = some (.bool t1129) := (blk_cell BK1131.out 3).trans rfl
                  have hcz107_4 : w39.cell? ⟨gb1131, 4, none⟩ = some (.bool t1130) := (blk_cell BK1131.out 4).trans rfl
                  have hfz107_0 := blk_frozen BK1131.out 0
                  have hfz107_1 := blk_frozen BK1131.out 1
                  have hfz107_2 := blk_frozen BK1131.out 2
                  have hfz107_3 := blk_frozen BK1131.out 3
                  have hfz107_4 := blk_frozen BK1131.out 4
                  go_wp2
                  go_meet
                  case rel => exact ⟨_, (false), (by first | rfl | (simp; done) | (simp [*]; done) | (congr 1; (try unfold wrap64); omega) | (congr 1; rw [IntKind.wrap_u64]; omega)), H', ⟨by first | omega | exact Nat.le_refl _⟩, ⟨by (with_reducible repeat (first | refine blk_drewN ?_ _ | refine blk_drew ?_ | refine blk_alloc ?_ _)); refine blk_far ?_ NB1117_1145.out _; (with_reducible repeat (first | refine blk_drewN ?_ _ | refine blk_drew ?_ | refine blk_alloc ?_ _)); refine blk_far ?_ NB1117_1145.out _; (with_reducible repeat (first | refine blk_drewN ?_ _ | refine blk_drew ?_ | refine blk_alloc ?_ _)); refine blk_far ?_ NB1117_1145.out _; (with_reducible repeat (first | refine blk_drewN ?_ _ | refine blk_drew ?_ | refine blk_alloc ?_ _)); refine blk_far ?_ NB1117_1145.out _; (with_reducible repeat (first | refine blk_drewN ?_ _ | refine blk_drew ?_ | refine blk_alloc ?_ _)); refine blk_far ?_ NB1117_1145.out _; (with_reducible repeat (first | refine blk_drewN ?_ _ | refine blk_drew ?_ | refine blk_alloc ?_ _)); exact BK1117.out⟩, ⟨by (with_reducible repeat (first | refine blk_drewN ?_ _ | refine blk_drew ?_ | refine blk_alloc ?_ _)); refine blk_far ?_ NB1124_1145.out _; (with_reducible repeat (first | refine blk_drewN ?_ _ | refine blk_drew ?_ | refine blk_alloc ?_ _)); refine blk_far ?_ NB1124_1145.out _; (with_reducible repeat (first | refine blk_drewN ?_ _ | refine blk_drew ?_ | refine blk_alloc ?_ _)); refine blk_far ?_ NB1124_1145.out _; (with_reducible repeat (first | refine blk_drewN ?_ _ | refine blk_drew ?_ | refine blk_alloc ?_ _)); refine blk_far ?_ NB1124_1145.out _; (with_reducible repeat (first | refine blk_drewN ?_ _ | refine blk_drew ?_ | refine blk_alloc ?_ _)); refine blk_far ?_ NB1124_1145.out _; (with_reducible repeat (first | refine blk_drewN ?_ _ | refine blk_drew ?_ | refine blk_alloc ?_ _)); exact BK1124.out⟩, ⟨by (with_reducible repeat (first | refine blk_drewN ?_ _ | refine blk_drew ?_ | refine blk_alloc ?_ _)); refine blk_far ?_ NB1131_1145.out _; (with_reducible repeat (first | refine blk_drewN ?_ _ | refine blk_drew ?_ | refine blk_alloc ?_ _)); refine blk_far ?_ NB1131_1145.out _; (with_reducible repeat (first | refine blk_drewN ?_ _ | refine blk_drew ?_ | refine blk_alloc ?_ _)); refine blk_far ?_ NB1131_1145.out _; (with_reducible repeat (first | refine blk_drewN ?_ _ | refine blk_drew ?_ | refine blk_alloc ?_ _)); refine blk_far ?_ NB1131_1145.out _; (with_reducible repeat (first | refine blk_drewN ?_ _ | refine blk_drew ?_ | refine blk_alloc ?_ _)); refine blk_far ?_ NB1131_1145.out _; (with_reducible repeat (first | refine blk_drewN ?_ _ | refine blk_drew ?_ | refine blk_alloc ?_ _)); exact BK1131.out⟩, ⟨by (with_reducible repeat (first | refine blk_drewN ?_ _ | refine blk_drew ?_ | refine blk_alloc ?_ _)); refine blk_far ?_ NB1138_1145.out _; (with_reducible repeat (first | refine blk_drewN ?_ _ | refine blk_drew ?_ | refine blk_alloc ?_ _)); refine blk_far ?_ NB1138_1145.out _; (with_reducible repeat (first | refine blk_drewN ?_ _ | refine blk_drew ?_ | refine blk_alloc ?_ _)); refine blk_far ?_ NB1138_1145.out _; (with_reducible repeat (first | refine blk_drewN ?_ _ | refine blk_drew ?_ | refine blk_alloc ?_ _)); refine blk_far ?_ NB1138_1145.out _; (with_reducible repeat (first | refine blk_drewN ?_ _ | refine blk_drew ?_ | refine blk_alloc ?_ _)); refine blk_far ?_ NB1138_1145.out _; (with_reducible repeat (first | refine blk_drewN ?_ _ | refine blk_drew ?_ | refine blk_alloc ?_ _)); exact BK1138.out⟩, ⟨by (with_reducible repeat (first | refine blk_drewN ?_ _ | refine blk_drew ?_ | refine blk_alloc ?_ _)); refine blk_put (cs := #[.bool t1140, .bool t1141, .bool t1142, .bool t1143, .bool false]) ?_ 4 _ rfl; (with_reducible repeat (first | refine blk_drewN ?_ _ | refine blk_drew ?_ | refine blk_alloc ?_ _)); refine blk_put (cs := #[.bool t1140, .bool t1141, .bool t1142, .bool false, .bool false]) ?_ 3 _ rfl; (with_reducible repeat (first | refine blk_drewN ?_ _ | refine blk_drew ?_ | refine blk_alloc ?_ _)); refine blk_put (cs := #[.bool t1140, .bool t1141, .bool false, .bool false, .bool false]) ?_ 2 _ rfl; (with_reducible repeat (first | refine blk_drewN ?_ _ | refine blk_drew ?_ | refine blk_alloc ?_ _)); refine blk_put (cs := #[.bool t1140, .bool false, .bool false, .bool false, .bool false]) ?_ 1 _ rfl; (with_reducible repeat (first | refine blk_drewN ?_ _ | refine blk_drew ?_ | refine blk_alloc ?_ _)); refine blk_put (cs := #[.bool false, .bool false, .bool false, .bool false, .bool false]) ?_ 0 _ rfl; (with_reducible repeat (first | refine blk_drewN ?_ _ | refine blk_drew ?_ | refine blk_alloc ?_ _)); exact BK1145.out⟩, ⟨by repeat (first | (with_reducible first | exact HB.out | apply below_alloc | apply pw_below_drewN | apply below_drew1 | refine below_set ?_ GE1117.out | refine below_set ?_ GE1124.out | refine below_set ?_ GE1131.out | refine below_set ?_ GE1138.out | refine below_set ?_ GE1145.out) | exact HB.out)⟩⟩
              · rw [if_neg c48] at H
                have c48b0 : ((wrap64 (t1118)) == (ji11)) = false := beq_eq_false_iff_ne.mpr c48
                have c48b1 : ((wrap64 (t1118)) != (ji11)) = true := bne_iff_ne.mpr c48
                have H' := Aside0.mk H
                clear H
                have hnb108 := NB1117_1124.out
                have hnc108 := NB1124_1117.out
                have hnb109 := NB1117_1131.out
                have hnc109 := NB1131_1117.out
                have hnb110 := NB1117_1138.out
                have hnc110 := NB1138_1117.out
                have hnb111 := NB1117_1145.out
                have hnc111 := NB1145_1117.out
                have hcz112_0 : w39.cell? ⟨gb1117, 0, none⟩ = some (.bool t1112) := (blk_cell BK1117.out 0).trans rfl
                have hcz112_1 : w39.cell? ⟨gb1117, 1, none⟩ = some (.bool t1113) := (blk_cell BK1117.out 1).trans rfl
                have hcz112_2 : w39.cell? ⟨gb1117, 2, none⟩ = some (.bool t1114) := (blk_cell BK1117.out 2).trans rfl
                have hcz112_3 : w39.cell? ⟨gb1117, 3, none⟩ = some (.bool t1115) := (blk_cell BK1117.out 3).trans rfl
                have hcz112_4 : w39.cell? ⟨gb1117, 4, none⟩ = some (.bool t1116) := (blk_cell BK1117.out 4).trans rfl
                have hfz112_0 := blk_frozen BK1117.out 0
                have hfz112_1 := blk_frozen BK1117.out 1
                have hfz112_2 := blk_frozen BK1117.out 2
                have hfz112_3 := blk_frozen BK1117.out 3
                have hfz112_4 := blk_frozen BK1117.out 4
                have hnb113 := NB1124_1131.out
                have hnc113 := NB1131_1124.out
                have hnb114 := NB1124_1138.out
                have hnc114 := NB1138_1124.out
                have hnb115 := NB1124_1145.out
                have hnc115 := NB1145_1124.out
                have hcz116_0 : w39.cell? ⟨gb1124, 0, none⟩ = some (.bool t1119) := (blk_cell BK1124.out 0).trans rfl
                have hcz116_1 : w39.cell? ⟨gb1124, 1, none⟩ = some (.bool t1120) := (blk_cell BK1124.out 1).trans rfl
                have hcz116_2 : w39.cell? ⟨gb1124, 2, none⟩ = some (.bool t1121) := (blk_cell BK1124.out 2).trans rfl
                have hcz116_3 : w39.cell? ⟨gb1124, 3, none⟩ = some (.bool t1122) := (blk_cell BK1124.out 3).trans rfl
                have hcz116_4 : w39.cell? ⟨gb1124, 4, none⟩ = some (.bool t1123) := (blk_cell BK1124.out 4).trans rfl
                have hfz116_0 := blk_frozen BK1124.out 0
                have hfz116_1 := blk_frozen BK1124.out 1
                have hfz116_2 := blk_frozen BK1124.out 2
                have hfz116_3 := blk_frozen BK1124.out 3
                have hfz116_4 := blk_frozen BK1124.out 4
                have hnb117 := NB1131_1138.out
                have hnc117 := NB1138_1131.out
                have hnb118 := NB1131_1145.out
                have hnc118 := NB1145_1131.out
                have hcz119_0 : w39.cell? ⟨gb1131, 0, none⟩ = some (.bool t1126) := (blk_cell BK1131.out 0).trans rfl
                have hcz119_1 : w39.cell? ⟨gb1131, 1, none⟩ = some (.bool t1127) := (blk_cell BK1131.out 1).trans rfl
                have hcz119_2 : w39.cell? ⟨gb1131, 2, none⟩ = some (.bool t1128) := (blk_cell BK1131.out 2).trans rfl
                have hcz119_3 : w39.cell? ⟨gb1131, 3, none⟩ = some (.bool t1129) := (blk_cell BK1131.out 3).trans rfl
                have hcz119_4 : w39.cell? ⟨gb1131, 4, none⟩ = some (.bool t1130) := (blk_cell BK1131.out 4).trans rfl
                have hfz119_0 := blk_frozen BK1131.out 0
                have hfz119_1 := blk_frozen BK1131.out 1
                have hfz119_2 := blk_frozen BK1131.out 2
                have hfz119_3 := blk_frozen BK1131.out 3
                have hfz119_4 := blk_frozen BK1131.out 4
                go_wp2
                go_meet
                case rel => exact ⟨_, (false), (by first | rfl | (simp; done) | (simp [*]; done) | (congr 1; (try unfold wrap64); omega) | (congr 1; rw [IntKind.wrap_u64]; omega)), H', ⟨by first | omega | exact Nat.le_refl _⟩, ⟨by (with_reducible repeat (first | refine blk_drewN ?_ _ | refine blk_drew ?_ | refine blk_alloc ?_ _)); refine blk_far ?_ NB1117_1145.out _; (with_reducible repeat (first | refine blk_drewN ?_ _ | refine blk_drew ?_ | refine blk_alloc ?_ _)); refine blk_far ?_ NB1117_1145.out _; (with_reducible repeat (first | refine blk_drewN ?_ _ | refine blk_drew ?_ | refine blk_alloc ?_ _)); refine blk_far ?_ NB1117_1145.out _; (with_reducible repeat (first | refine blk_drewN ?_ _ | refine blk_drew ?_ | refine blk_alloc ?_ _)); refine blk_far ?_ NB1117_1145.out _; (with_reducible repeat (first | refine blk_drewN ?_ _ | refine blk_drew ?_ | refine blk_alloc ?_ _)); refine blk_far ?_ NB1117_1145.out _; (with_reducible repeat (first | refine blk_drewN ?_ _ | refine blk_drew ?_ | refine blk_alloc ?_ _)); exact BK1117.out⟩, ⟨by (with_reducible repeat (first | refine blk_drewN ?_ _ | refine blk_drew ?_ | refine blk_alloc ?_ _)); refine blk_far ?_ NB1124_1145.out _; (with_reducible repeat (first | refine blk_drewN ?_ _ | refine blk_drew ?_ | refine blk_alloc ?_ _)); refine blk_far ?_ NB1124_1145.out _; (with_reducible repeat (first | refine blk_drewN ?_ _ | refine blk_drew ?_ | refine blk_alloc ?_ _)); refine blk_far ?_ NB1124_1145.out _; (with_reducible repeat (first | refine blk_drewN ?_ _ | refine blk_drew ?_ | refine blk_alloc ?_ _)); refine blk_far ?_ NB1124_1145.out _; (with_reducible repeat (first | refine blk_drewN ?_ _ | refine blk_drew ?_ | refine blk_alloc ?_ _)); refine blk_far ?_ NB1124_1145.out _; (with_reducible repeat (first | refine blk_drewN ?_ _ | refine blk_drew ?_ | refine blk_alloc ?_ _)); exact BK1124.out⟩, ⟨by (with_reducible repeat (first | refine blk_drewN ?_ _ | refine blk_drew ?_ | refine blk_alloc ?_ _)); refine blk_far ?_ NB1131_1145.out _; (with_reducible repeat (first | refine blk_drewN ?_ _ | refine blk_drew ?_ | refine blk_alloc ?_ _)); refine blk_far ?_ NB1131_1145.out _; (with_reducible repeat (first | refine blk_drewN ?_ _ | refine blk_drew ?_ | refine blk_alloc ?_ _)); refine blk_far ?_ NB1131_1145.out _; (with_reducible repeat (first | refine blk_drewN ?_ _ | refine blk_drew ?_ | refine blk_alloc ?_ _)); refine blk_far ?_ NB1131_1145.out _; (with_reducible repeat (first | refine blk_drewN ?_ _ | refine blk_drew ?_ | refine blk_alloc ?_ _)); refine blk_far ?_ NB1131_1145.out _; (with_reducible repeat (first | refine blk_drewN ?_ _ | refine blk_drew ?_ | refine blk_alloc ?_ _)); exact BK1131.out⟩, ⟨by (with_reducible repeat (first | refine blk_drewN ?_ _ | refine blk_drew ?_ | refine blk_alloc ?_ _)); refine blk_far ?_ NB1138_1145.out _; (with_reducible repeat (first | refine blk_drewN ?_ _ | refine blk_drew ?_ | refine blk_alloc ?_ _)); refine blk_far ?_ NB1138_1145.out _; (with_reducible repeat (first | refine blk_drewN ?_ _ | refine blk_drew ?_ | refine blk_alloc ?_ _)); refine blk_far ?_ NB1138_1145.out _; (with_reducible repeat (first | refine blk_drewN ?_ _ | refine blk_drew ?_ | refine blk_alloc ?_ _)); refine blk_far ?_ NB1138_1145.out _; (with_reducible repeat (first | refine blk_drewN ?_ _ | refine blk_drew ?_ | refine blk_alloc ?_ _)); refine blk_far ?_ NB1138_1145.out _; (with_reducible repeat (first | refine blk_drewN ?_ _ | refine blk_drew ?_ | refine blk_alloc ?_ _)); exact BK1138.out⟩, ⟨by (with_reducible repeat (first | refine blk_drewN ?_ _ | refine blk_drew ?_ | refine blk_alloc ?_ _)); refine blk_put (cs := #[.bool t1140, .bool t1141, .bool t1142, .bool t1143, .bool false]) ?_ 4 _ rfl; (with_reducible repeat (first | refine blk_drewN ?_ _ | refine blk_drew ?_ | refine blk_alloc ?_ _)); refine blk_put (cs := #[.bool t1140, .bool t1141, .bool t1142, .bool false, .bool false]) ?_ 3 _ rfl; (with_reducible repeat (first | refine blk_drewN ?_ _ | refine blk_drew ?_ | refine blk_alloc ?_ _)); refine blk_put (cs := #[.bool t1140, .bool t1141, .bool false, .bool false, .bool false]) ?_ 2 _ rfl; (with_reducible repeat (first | refine blk_drewN ?_ _ | refine blk_drew ?_ | refine blk_alloc ?_ _)); refine blk_put (cs := #[.bool t1140, .bool false, .bool false, .bool false, .bool false]) ?_ 1 _ rfl; (with_reducible repeat (first | refine blk_drewN ?_ _ | refine blk_drew ?_ | refine blk_alloc ?_ _)); refine blk_put (cs := #[.bool false, .bool false, .bool false, .bool false, .bool false]) ?_ 0 _ rfl; (with_reducible repeat (first | refine blk_drewN ?_ _ | refine blk_drew ?_ | refine blk_alloc ?_ _)); exact BK1145.out⟩, ⟨by repeat (first | (with_reducible first | exact HB.out | apply below_alloc | apply pw_below_drewN | apply below_drew1 | refine below_set ?_ GE1117.out | refine below_set ?_ GE1124.out | refine below_set ?_ GE1131.out | refine below_set ?_ GE1138.out | refine below_set ?_ GE1145.out) | exact HB.out)⟩⟩
            · rw [if_neg c47] at H
              have c47b0 : (!t1126 && (!t1127 && (!t1128 && (!t1129 && (!t1130))))) = false := by simpa using c47
              clear c47
              have H' := Aside0.mk H
              clear H
              have hnb120 := NB1117_1124.out
              have hnc120 := NB1124_1117.out
              have hnb121 := NB1117_1131.out
              have hnc121 := NB1131_1117.out
              have hnb122 := NB1117_1138.out
              have hnc122 := NB1138_1117.out
              have hnb123 := NB1117_1145.out
              have hnc123 := NB1145_1117.out
              have hcz124_0 : w39.cell? ⟨gb1117, 0, none⟩ = some (.bool t1112) := (blk_cell BK1117.out 0).trans rfl
              have hcz124_1 : w39.cell? ⟨gb1117, 1, none⟩ = some (.bool t1113) := (blk_cell BK1117.out 1).trans rfl
              have hcz124_2 : w39.cell? ⟨gb1117, 2, none⟩ = some (.bool t1114) := (blk_cell BK1117.out 2).trans rfl
              have hcz124_3 : w39.cell? ⟨gb1117, 3, none⟩ = some (.bool t1115) := (blk_cell BK1117.out 3).trans rfl
              have hcz124_4 : w39.cell? ⟨gb1117, 4, none⟩ = some (.bool t1116) := (blk_cell BK1117.out 4).trans rfl
              have hfz124_0 := blk_frozen BK1117.out 0
              have hfz124_1 := blk_frozen BK1117.out 1
              have hfz124_2 := blk_frozen BK1117.out 2
              have hfz124_3 := blk_frozen BK1117.out 3
              have hfz124_4 := blk_frozen BK1117.out 4
              have hnb125 := NB1124_1131.out
              have hnc125 := NB1131_1124.out
              have hnb126 := NB1124_1138.out
              have hnc126 := NB1138_1124.out
              have hnb127 := NB1124_1145.out
              have hnc127 := NB1145_1124.out
              have hcz128_0 : w39.cell? ⟨gb1124, 0, none⟩ = some (.bool t1119) := (blk_cell BK1124.out 0).trans rfl
              have hcz128_1 : w39.cell? ⟨gb1124, 1, none⟩ = some (.bool t1120) := (blk_cell BK1124.out 1).trans rfl
              have hcz128_2 : w39.cell? ⟨gb1124, 2, none⟩ = some (.bool t1121) := (blk_cell BK1124.out 2).trans rfl
              have hcz128_3 : w39.cell? ⟨gb1124, 3, none⟩ = some (.bool t1122) := (blk_cell BK1124.out 3).trans rfl
              have hcz128_4 : w39.cell? ⟨gb1124, 4, none⟩ = some (.bool t1123) := (blk_cell BK1124.out 4).trans rfl
              have hfz128_0 := blk_frozen BK1124.out 0
              have hfz128_1 := blk_frozen BK1124.out 1
              have hfz128_2 := blk_frozen BK1124.out 2
              have hfz128_3 := blk_frozen BK1124.out 3
              have hfz128_4 := blk_frozen BK1124.out 4
              have hnb129 := NB1131_1138.out
              have hnc129 := NB1138_1131.out
              have hnb130 := NB1131_1145.out
              have hnc130 := NB1145_1131.out
              have hcz131_0 : w39.cell? ⟨gb1131, 0, none⟩ = some (.bool t1126) := (blk_cell BK1131.out 0).trans rfl
              have hcz131_1 : w39.cell? ⟨gb1131, 1, none⟩ = some (.bool t1127) := (blk_cell BK1131.out 1).trans rfl
              have hcz131_2 : w39.cell? ⟨gb1131, 2, none⟩ = some (.bool t1128) := (blk_cell BK1131.out 2).trans rfl
              have hcz131_3 : w39.cell? ⟨gb1131, 3, none⟩ = some (.bool t1129) := (blk_cell BK1131.out 3).trans rfl
              have hcz131_4 : w39.cell? ⟨gb1131, 4, none⟩ = some (.bool t1130) := (blk_cell BK1131.out 4).trans rfl
              have hfz131_0 := blk_frozen BK1131.out 0
              have hfz131_1 := blk_frozen BK1131.out 1
              have hfz131_2 := blk_frozen BK1131.out 2
              have hfz131_3 := blk_frozen BK1131.out 3
              have hfz131_4 := blk_frozen BK1131.out 4
              go_wp2
              go_meet
              case rel => exact ⟨_, (false), (by first | rfl | (simp; done) | (simp [*]; done) | (congr 1; (try unfold wrap64); omega) | (congr 1; rw [IntKind.wrap_u64]; omega)), H', ⟨by first | omega | exact Nat.le_refl _⟩, ⟨by (with_reducible repeat (first | refine blk_drewN ?_ _ | refine blk_drew ?_ | refine blk_alloc ?_ _)); refine blk_far ?_ NB1117_1145.out _; (with_reducible repeat (first | refine blk_drewN ?_ _ | refine blk_drew ?_ | refine blk_alloc ?_ _)); refine blk_far ?_ NB1117_1145.out _; (with_reducible repeat (first | refine blk_drewN ?_ _ | refine blk_drew ?_ | refine blk_alloc ?_ _)); refine blk_far ?_ NB1117_1145.out _; (with_reducible repeat (first | refine blk_drewN ?_ _ | refine blk_drew ?_ | refine blk_alloc ?_ _)); refine blk_far ?_ NB1117_1145.out _; (with_reducible repeat (first | refine blk_drewN ?_ _ | refine blk_drew ?_ | refine blk_alloc ?_ _)); refine blk_far ?_ NB1117_1145.out _; (with_reducible repeat (first | refine blk_drewN ?_ _ | refine blk_drew ?_ | refine blk_alloc ?_ _)); exact BK1117.out⟩, ⟨by (with_reducible repeat (first | refine blk_drewN ?_ _ | refine blk_drew ?_ | refine blk_alloc ?_ _)); refine blk_far ?_ NB1124_1145.out _; (with_reducible repeat (first | refine blk_drewN ?_ _ | refine blk_drew ?_ | refine blk_alloc ?_ _)); refine blk_far ?_ NB1124_1145.out _; (with_reducible repeat (first | refine blk_drewN ?_ _ | refine blk_drew ?_ | refine blk_alloc ?_ _)); refine blk_far ?_ NB1124_1145.out _; (with_reducible repeat (first | refine blk_drewN ?_ _ | refine blk_drew ?_ | refine blk_alloc ?_ _)); refine blk_far ?_ NB1124_1145.out _; (with_reducible repeat (first | refine blk_drewN ?_ _ | refine blk_drew ?_ | refine blk_alloc ?_ _)); refine blk_far ?_ NB1124_1145.out _; (with_reducible repeat (first | refine blk_drewN ?_ _ | refine blk_drew ?_ | refine blk_alloc ?_ _)); exact BK1124.out⟩, ⟨by (with_reducible repeat (first | refine blk_drewN ?_ _ | refine blk_drew ?_ | refine blk_alloc ?_ _)); refine blk_far ?_ NB1131_1145.out _; (with_reducible repeat (first | refine blk_drewN ?_ _ | refine blk_drew ?_ | refine blk_alloc ?_ _)); refine blk_far ?_ NB1131_1145.out _; (with_reducible repeat (first | refine blk_drewN ?_ _ | refine blk_drew ?_ | refine blk_alloc ?_ _)); refine blk_far ?_ NB1131_1145.out _; (with_reducible repeat (first | refine blk_drewN ?_ _ | refine blk_drew ?_ | refine blk_alloc ?_ _)); refine blk_far ?_ NB1131_1145.out _; (with_reducible repeat (first | refine blk_drewN ?_ _ | refine blk_drew ?_ | refine blk_alloc ?_ _)); refine blk_far ?_ NB1131_1145.out _; (with_reducible repeat (first | refine blk_drewN ?_ _ | refine blk_drew ?_ | refine blk_alloc ?_ _)); exact BK1131.out⟩, ⟨by (with_reducible repeat (first | refine blk_drewN ?_ _ | refine blk_drew ?_ | refine blk_alloc ?_ _)); refine blk_far ?_ NB1138_1145.out _; (with_reducible repeat (first | refine blk_drewN ?_ _ | refine blk_drew ?_ | refine blk_alloc ?_ _)); refine blk_far ?_ NB1138_1145.out _; (with_reducible repeat (first | refine blk_drewN ?_ _ | refine blk_drew ?_ | refine blk_alloc ?_ _)); refine blk_far ?_ NB1138_1145.out _; (with_reducible repeat (first | refine blk_drewN ?_ _ | refine blk_drew ?_ | refine blk_alloc ?_ _)); refine blk_far ?_ NB1138_1145.out _; (with_reducible repeat (first | refine blk_drewN ?_ _ | refine blk_drew ?_ | refine blk_alloc ?_ _)); refine blk_far ?_ NB1138_1145.out _; (with_reducible repeat (first | refine blk_drewN ?_ _ | refine blk_drew ?_ | refine blk_alloc ?_ _)); exact BK1138.out⟩, ⟨by (with_reducible repeat (first | refine blk_drewN ?_ _ | refine blk_drew ?_ | refine blk_alloc ?_ _)); refine blk_put (cs := #[.bool t1140, .bool t1141, .bool t1142, .bool t1143, .bool false]) ?_ 4 _ rfl; (with_reducible repeat (first | refine blk_drewN ?_ _ | refine blk_drew ?_ | refine blk_alloc ?_ _)); refine blk_put (cs := #[.bool t1140, .bool t1141, .bool t1142, .bool false, .bool false]) ?_ 3 _ rfl; (with_reducible repeat (first | refine blk_drewN ?_ _ | refine blk_drew ?_ | refine blk_alloc ?_ _)); refine blk_put (cs := #[.bool t1140, .bool t1141, .bool false, .bool false, .bool false]) ?_ 2 _ rfl; (with_reducible repeat (first | refine blk_drewN ?_ _ | refine blk_drew ?_ | refine blk_alloc ?_ _)); refine blk_put (cs := #[.bool t1140, .bool false, .bool false, .bool false, .bool false]) ?_ 1 _ rfl; (with_reducible repeat (first | refine blk_drewN ?_ _ | refine blk_drew ?_ | refine blk_alloc ?_ _)); refine blk_put (cs := #[.bool false, .bool false, .bool false, .bool false, .bool false]) ?_ 0 _ rfl; (with_reducible repeat (first | refine blk_drewN ?_ _ | refine blk_drew ?_ | refine blk_alloc ?_ _)); exact BK1145.out⟩, ⟨by repeat (first | (with_reducible first | exact HB.out | apply below_alloc | apply pw_below_drewN | apply below_drew1 | refine below_set ?_ GE1117.out | refine below_set ?_ GE1124.out | refine below_set ?_ GE1131.out | refine below_set ?_ GE1138.out | refine below_set ?_ GE1145.out) | exact HB.out)⟩⟩
          · rw [if_neg c46] at H
            have c46b0 : (!t1119 && (!t1120 && (!t1121 && (!t1122 && (!t1123))))) = false := by simpa using c46
            clear c46
            have H' := Aside0.mk H
            clear H
            have hnb132 := NB1117_1124.out
            have hnc132 := NB1124_1117.out
            have hnb133 := NB1117_1131.out
            have hnc133 := NB1131_1117.out
            have hnb134 := NB1117_1138.out
            have hnc134 := NB1138_1117.out
            have hnb135 := NB1117_1145.out
            have hnc135 := NB1145_1117.out
            have hcz136_0 : w39.cell? ⟨gb1117, 0, none⟩ = some (.bool t1112) := (blk_cell BK1117.out 0).trans rfl
            have hcz136_1 : w39.cell? ⟨gb1117, 1, none⟩ = some (.bool t1113) := (blk_cell BK1117.out 1).trans rfl
            have hcz136_2 : w39.cell? ⟨gb1117, 2, none⟩ = some (.bool t1114) := (blk_cell BK1117.out 2).trans rfl
            have hcz136_3 : w39.cell? ⟨gb1117, 3, none⟩ = some (.bool t1115) := (blk_cell BK1117.out 3).trans rfl
            have hcz136_4 : w39.cell? ⟨gb1117, 4, none⟩ = some (.bool t1116) := (blk_cell BK1117.out 4).trans rfl
            have hfz136_0 := blk_frozen BK1117.out 0
            have hfz136_1 := blk_frozen BK1117.out 1
            have hfz136_2 := blk_frozen BK1117.out 2
            have hfz136_3 := blk_frozen BK1117.out 3
            have hfz136_4 := blk_frozen BK1117.out 4
            have hnb137 := NB1124_1131.out
            have hnc137 := NB1131_1124.out
            have hnb138 := NB1124_1138.out
            have hnc138 := NB1138_1124.out
            have hnb139 := NB1124_1145.out
            have hnc139 := NB1145_1124.out
            have hcz140_0 : w39.cell? ⟨gb1124, 0, none⟩ = some (.bool t1119) := (blk_cell BK1124.out 0).trans rfl
            have hcz140_1 : w39.cell? ⟨gb1124, 1, none⟩ = some (.bool t1120) := (blk_cell BK1124.out 1).trans rfl
            have hcz140_2 : w39.cell? ⟨gb1124, 2, none⟩ = some (.bool t1121) := (blk_cell BK1124.out 2).trans rfl
            have hcz140_3 : w39.cell? ⟨gb1124, 3, none⟩ = some (.bool t1122) := (blk_cell BK1124.out 3).trans rfl
            have hcz140_4 : w39.cell? ⟨gb1124, 4, none⟩ = some (.bool t1123) := (blk_cell BK1124.out 4).trans rfl
            have hfz140_0 := blk_frozen BK1124.out 0
            have hfz140_1 := blk_frozen BK1124.out 1
            have hfz140_2 := blk_frozen BK1124.out 2
            have hfz140_3 := blk_frozen BK1124.out 3
            have hfz140_4 := blk_frozen BK1124.out 4
            go_wp2
            go_meet
            case rel => exact ⟨_, (false), (by first | rfl | (simp; done) | (simp [*]; done) | (congr 1; (try unfold wrap64); omega) | (congr 1; rw [IntKind.wrap_u64]; omega)), H', ⟨by first | omega | exact Nat.le_refl _⟩, ⟨by (with_reducible repeat (first | refine blk_drewN ?_ _ | refine blk_drew ?_ | refine blk_alloc ?_ _)); refine blk_far ?_ NB1117_1145.out _; (with_reducible repeat (first | refine blk_drewN ?_ _ | refine blk_drew ?_ | refine blk_alloc ?_ _)); refine blk_far ?_ NB1117_1145.out _; (with_reducible repeat (first | refine blk_drewN ?_ _ | refine blk_drew ?_ | refine blk_alloc ?_ _)); refine blk_far ?_ NB1117_1145.out _; (with_reducible repeat (first | refine blk_drewN ?_ _ | refine blk_drew ?_ | refine blk_alloc ?_ _)); refine blk_far ?_ NB1117_1145.out _; (with_reducible repeat (first | refine blk_drewN ?_ _ | refine blk_drew ?_ | refine blk_alloc ?_ _)); refine blk_far ?_ NB1117_1145.out _; (with_reducible repeat (first | refine blk_drewN ?_ _ | refine blk_drew ?_ | refine blk_alloc ?_ _)); exact BK1117.out⟩, ⟨by (with_reducible repeat (first | refine blk_drewN ?_ _ | refine blk_drew ?_ | refine blk_alloc ?_ _)); refine blk_far ?_ NB1124_1145.out _; (with_reducible repeat (first | refine blk_drewN ?_ _ | refine blk_drew ?_ | refine blk_alloc ?_ _)); refine blk_far ?_ NB1124_1145.out _; (with_reducible repeat (first | refine blk_drewN ?_ _ | refine blk_drew ?_ | refine blk_alloc ?_ _)); refine blk_far ?_ NB1124_1145.out _; (with_reducible repeat (first | refine blk_drewN ?_ _ | refine blk_drew ?_ | refine blk_alloc ?_ _)); refine blk_far ?_ NB1124_1145.out _; (with_reducible repeat (first | refine blk_drewN ?_ _ | refine blk_drew ?_ | refine blk_alloc ?_ _)); refine blk_far ?_ NB1124_1145.out _; (with_reducible repeat (first | refine blk_drewN ?_ _ | refine blk_drew ?_ | refine blk_alloc ?_ _)); exact BK1124.out⟩, ⟨by (with_reducible repeat (first | refine blk_drewN ?_ _ | refine blk_drew ?_ | refine blk_alloc ?_ _)); refine blk_far ?_ NB1131_1145.out _; (with_reducible repeat (first | refine blk_drewN ?_ _ | refine blk_drew ?_ | refine blk_alloc ?_ _)); refine blk_far ?_ NB1131_1145.out _; (with_reducible repeat (first | refine blk_drewN ?_ _ | refine blk_drew ?_ | refine blk_alloc ?_ _)); refine blk_far ?_ NB1131_1145.out _; (with_reducible repeat (first | refine blk_drewN ?_ _ | refine blk_drew ?_ | refine blk_alloc ?_ _)); refine blk_far ?_ NB1131_1145.out _; (with_reducible repeat (first | refine blk_drewN ?_ _ | refine blk_drew ?_ | refine blk_alloc ?_ _)); refine blk_far ?_ NB1131_1145.out _; (with_reducible repeat (first | refine blk_drewN ?_ _ | refine blk_drew ?_ | refine blk_alloc ?_ _)); exact BK1131.out⟩, ⟨by (with_reducible repeat (first | refine blk_drewN ?_ _ | refine blk_drew ?_ | refine blk_alloc ?_ _)); refine blk_far ?_ NB1138_1145.out _; (with_reducible repeat (first | refine blk_drewN ?_ _ | refine blk_drew ?_ | refine blk_alloc ?_ _)); refine blk_far ?_ NB1138_1145.out _; (with_reducible repeat (first | refine blk_drewN ?_ _ | refine blk_drew ?_ | refine blk_alloc ?_ _)); refine blk_far ?_ NB1138_1145.out _; (with_reducible repeat (first | refine blk_drewN ?_ _ | refine blk_drew ?_ | refine blk_alloc ?_ _)); refine blk_far ?_ NB1138_1145.out _; (with_reducible repeat (first | refine blk_drewN ?_ _ | refine blk_drew ?_ | refine blk_alloc ?_ _)); refine blk_far ?_ NB1138_1145.out _; (with_reducible repeat (first | refine blk_drewN ?_ _ | refine blk_drew ?_ | refine blk_alloc ?_ _)); exact BK1138.out⟩, ⟨by (with_reducible repeat (first | refine blk_drewN ?_ _ | refine blk_drew ?_ | refine blk_alloc ?_ _)); refine blk_put (cs := #[.bool t1140, .bool t1141, .bool t1142, .bool t1143, .bool false]) ?_ 4 _ rfl; (with_reducible repeat (first | refine blk_drewN ?_ _ | refine blk_drew ?_ | refine blk_alloc ?_ _)); refine blk_put (cs := #[.bool t1140, .bool t1141, .bool t1142, .bool false, .bool false]) ?_ 3 _ rfl; (with_reducible repeat (first | refine blk_drewN ?_ _ | refine blk_drew ?_ | refine blk_alloc ?_ _)); refine blk_put (cs := #[.bool t1140, .bool t1141, .bool false, .bool false, .bool false]) ?_ 2 _ rfl; (with_reducible repeat (first | refine blk_drewN ?_ _ | refine blk_drew ?_ | refine blk_alloc ?_ _)); refine blk_put (cs := #[.bool t1140, .bool false, .bool false, .bool false, .bool false]) ?_ 1 _ rfl; (with_reducible repeat (first | refine blk_drewN ?_ _ | refine blk_drew ?_ | refine blk_alloc ?_ _)); refine blk_put (cs := #[.bool false, .bool false, .bool false, .bool false, .bool false]) ?_ 0 _ rfl; (with_reducible repeat (first | refine blk_drewN ?_ _ | refine blk_drew ?_ | refine blk_alloc ?_ _)); exact BK1145.out⟩, ⟨by repeat (first | (with_reducible first | exact HB.out | apply below_alloc | apply pw_below_drewN | apply below_drew1 | refine below_set ?_ GE1117.out | refine below_set ?_ GE1124.out | refine below_set ?_ GE1131.out | refine below_set ?_ GE1138.out | refine below_set ?_ GE1145.out) | exact HB.out)⟩⟩
        · rw [if_neg c45] at H
          have c45b0 : (!t1112 && (!t1113 && (!t1114 && (!t1115 && (!t1116))))) = false := by simpa using c45
          clear c45
          (first | rw [c45b0] | (simp only [i64_w, i32_w]; rw [c45b0]) | skip)
          have H' := Aside0.mk H
          clear H
          have hnb141 := NB1117_1124.out
          have hnc141 := NB1124_1117.out
          have hnb142 := NB1117_1131.out
          have hnc142 := NB1131_1117.out
          have hnb143 := NB1117_1138.out
          have hnc143 := NB1138_1117.out
          have hnb144 := NB1117_1145.out
          have hnc144 := NB1145_1117.out
          have hcz145_0 : w39.cell? ⟨gb1117, 0, none⟩ = some (.bool t1112) := (blk_cell BK1117.out 0).trans rfl
          have hcz145_1 : w39.cell? ⟨gb1117, 1, none⟩ = some (.bool t1113) := (blk_cell BK1117.out 1).trans rfl
          have hcz145_2 : w39.cell? ⟨gb1117, 2, none⟩ = some (.bool t1114) := (blk_cell BK1117.out 2).trans rfl
          have hcz145_3 : w39.cell? ⟨gb1117, 3, none⟩ = some (.bool t1115) := (blk_cell BK1117.out 3).trans rfl
          have hcz145_4 : w39.cell? ⟨gb1117, 4, none⟩ = some (.bool t1116) := (blk_cell BK1117.out 4).trans rfl
          have hfz145_0 := blk_frozen BK1117.out 0
          have hfz145_1 := blk_frozen BK1117.out 1
          have hfz145_2 := blk_frozen BK1117.out 2
          have hfz145_3 := blk_frozen BK1117.out 3
          have hfz145_4 := blk_frozen BK1117.out 4
          go_wp2
          go_meet
          case rel => exact ⟨_, (false), (by first | rfl | (simp; done) | (simp [*]; done) | (congr 1; (try unfold wrap64); omega) | (congr 1; rw [IntKind.wrap_u64]; omega)), H', ⟨by first | omega | exact Nat.le_refl _⟩, ⟨by (with_reducible repeat (first | refine blk_drewN ?_ _ | refine blk_drew ?_ | refine blk_alloc ?_ _)); refine blk_far ?_ NB1117_1145.out _; (with_reducible repeat (first | refine blk_drewN ?_ _ | refine blk_drew ?_ | refine blk_alloc ?_ _)); refine blk_far ?_ NB1117_1145.out _; (with_reducible repeat (first | refine blk_drewN ?_ _ | refine blk_drew ?_ | refine blk_alloc ?_ _)); refine blk_far ?_ NB1117_1145.out _; (with_reducible repeat (first | refine blk_drewN ?_ _ | refine blk_drew ?_ | refine blk_alloc ?_ _)); refine blk_far ?_ NB1117_1145.out _; (with_reducible repeat (first | refine blk_drewN ?_ _ | refine blk_drew ?_ | refine blk_alloc ?_ _)); refine blk_far ?_ NB1117_1145.out _; (with_reducible repeat (first | refine blk_drewN ?_ _ | refine blk_drew ?_ | refine blk_alloc ?_ _)); exact BK1117.out⟩, ⟨by (with_reducible repeat (first | refine blk_drewN ?_ _ | refine blk_drew ?_ | refine blk_alloc ?_ _)); refine blk_far ?_ NB1124_1145.out _; (with_reducible repeat (first | refine blk_drewN ?_ _ | refine blk_drew ?_ | refine blk_alloc ?_ _)); refine blk_far ?_ NB1124_1145.out _; (with_reducible repeat (first | refine blk_drewN ?_ _ | refine blk_drew ?_ | refine blk_alloc ?_ _)); refine blk_far ?_ NB1124_1145.out _; (with_reducible repeat (first | refine blk_drewN ?_ _ | refine blk_drew ?_ | refine blk_alloc ?_ _)); refine blk_far ?_ NB1124_1145.out _; (with_reducible repeat (first | refine blk_drewN ?_ _ | refine blk_drew ?_ | refine blk_alloc ?_ _)); refine blk_far ?_ NB1124_1145.out _; (with_reducible repeat (first | refine blk_drewN ?_ _ | refine blk_drew ?_ | refine blk_alloc ?_ _)); exact BK1124.out⟩, ⟨by (with_reducible repeat (first | refine blk_drewN ?_ _ | refine blk_drew ?_ | refine blk_alloc ?_ _)); refine blk_far ?_ NB1131_1145.out _; (with_reducible repeat (first | refine blk_drewN ?_ _ | refine blk_drew ?_ | refine blk_alloc ?_ _)); refine blk_far ?_ NB1131_1145.out _; (with_reducible repeat (first | refine blk_drewN ?_ _ | refine blk_drew ?_ | refine blk_alloc ?_ _)); refine blk_far ?_ NB1131_1145.out _; (with_reducible repeat (first | refine blk_drewN ?_ _ | refine blk_drew ?_ | refine blk_alloc ?_ _)); refine blk_far ?_ NB1131_1145.out _; (with_reducible repeat (first | refine blk_drewN ?_ _ | refine blk_drew ?_ | refine blk_alloc ?_ _)); refine blk_far ?_ NB1131_1145.out _; (with_reducible repeat (first | refine blk_drewN ?_ _ | refine blk_drew ?_ | refine blk_alloc ?_ _)); exact BK1131.out⟩, ⟨by (with_reducible repeat (first | refine blk_drewN ?_ _ | refine blk_drew ?_ | refine blk_alloc ?_ _)); refine blk_far ?_ NB1138_1145.out _; (with_reducible repeat (first | refine blk_drewN ?_ _ | refine blk_drew ?_ | refine blk_alloc ?_ _)); refine blk_far ?_ NB1138_1145.out _; (with_reducible repeat (first | refine blk_drewN ?_ _ | refine blk_drew ?_ | refine blk_alloc ?_ _)); refine blk_far ?_ NB1138_1145.out _; (with_reducible repeat (first | refine blk_drewN ?_ _ | refine blk_drew ?_ | refine blk_alloc ?_ _)); refine blk_far ?_ NB1138_1145.out _; (with_reducible repeat (first | refine blk_drewN ?_ _ | refine blk_drew ?_ | refine blk_alloc ?_ _)); refine blk_far ?_ NB1138_1145.out _; (with_reducible repeat (first | refine blk_drewN ?_ _ | refine blk_drew ?_ | refine blk_alloc ?_ _)); exact BK1138.out⟩, ⟨by (with_reducible repeat (first | refine blk_drewN ?_ _ | refine blk_drew ?_ | refine blk_alloc ?_ _)); refine blk_put (cs := #[.bool t1140, .bool t1141, .bool t1142, .bool t1143, .bool false]) ?_ 4 _ rfl; (with_reducible repeat (first | refine blk_drewN ?_ _ | refine blk_drew ?_ | refine blk_alloc ?_ _)); refine blk_put (cs := #[.bool t1140, .bool t1141, .bool t1142, .bool false, .bool false]) ?_ 3 _ rfl; (with_reducible repeat (first | refine blk_drewN ?_ _ | refine blk_drew ?_ | refine blk_alloc ?_ _)); refine blk_put (cs := #[.bool t1140, .bool t1141, .bool false, .bool false, .bool false]) ?_ 2 _ rfl; (with_reducible repeat (first | refine blk_drewN ?_ _ | refine blk_drew ?_ | refine blk_alloc ?_ _)); refine blk_put (cs := #[.bool t1140, .bool false, .bool false, .bool false, .bool false]) ?_ 1 _ rfl; (with_reducible repeat (first | refine blk_drewN ?_ _ | refine blk_drew ?_ | refine blk_alloc ?_ _)); refine blk_put (cs := #[.bool false, .bool false, .bool false, .bool false, .bool false]) ?_ 0 _ rfl; (with_reducible repeat (first | refine blk_drewN ?_ _ | refine blk_drew ?_ | refine blk_alloc ?_ _)); exact BK1145.out⟩, ⟨by repeat (first | (with_reducible first | exact HB.out | apply below_alloc | apply pw_below_drewN | apply below_drew1 | refine below_set ?_ GE1117.out | refine below_set ?_ GE1124.out | refine below_set ?_ GE1131.out | refine below_set ?_ GE1138.out | refine below_set ?_ GE1145.out) | exact HB.out)⟩⟩
      case rest =>
        clear HC17
        try clear c1
        try clear c2
        try clear p2
        try clear c3
        try clear c4
        try clear c5
        try clear c6
        try clear p6
        try clear c7
        try clear c8
        try clear c9
        try clear c10
        try clear c10b0
        try clear c10b1
        try clear c11
        try clear c12
        try clear c13
        try clear c14
        try clear c25
        try clear c26
        try clear c28
        try clear c29
        try clear c30
        try clear c32
        try clear c34
        try clear c35
        try clear c36
        try clear c40
        try clear c41
        try clear c42
        try clear c43
        try clear c45
        try clear c45b0
        try clear c46
        try clear c46b0
        try clear c47
        try clear c47b0
        try clear c48
        try clear c48b0
        try clear c48b1
        try clear c49
        try clear c49b0
        try clear c49b1
        try clear c50
        try clear c50b0
        try clear c51
        try clear c51b0
        try clear c52
        try clear c53
        try clear c54
        try clear c55
        try clear c57
        try clear c58
        try clear c59
        try clear c61
        try clear c62
        try clear c64
        try clear p64
        try clear c67
        try clear c68
        try clear c69
        try clear c70
        try clear c72
        try clear c73
        try clear c74
        try clear c76
        try clear c77
        try clear c79
        try clear c82
        try clear c83
        try clear c84
        try clear c85
        try clear c87
        try clear c88
        try clear c89
        try clear c91
        try clear c92
        try clear c94
        try clear c96
        try clear c97
        try clear c98
        try clear c99
        try clear c101
        try clear c102
        try clear c103
        try clear c105
        try clear c106
        try clear c108
        try clear c109
        try clear c110
        try clear c111
        try clear c113
        try clear c114
        try clear c115
        try clear c117
        try clear c118
        try clear c120
        try clear c121
        try clear c122
        try clear c123
        try clear c125
        try clear c126
        try clear c127
        try clear c129
        try clear c130
        try clear c132
        try clear c133
        try clear c134
        try clear c135
        try clear c137
        try clear c138
        try clear c139
        try clear c141
        try clear c142
        try clear c143
        try clear c144
        try clear hcz100_0
        try clear hcz100_1
        try clear hcz100_2
        try clear hcz100_3
        try clear hcz100_4
        try clear hcz104_0
        try clear hcz104_1
        try clear hcz104_2
        try clear hcz104_3
        try clear hcz104_4
        try clear hcz107_0
        try clear hcz107_1
        try clear hcz107_2
        try clear hcz107_3
        try clear hcz107_4
        try clear hcz112_0
        try clear hcz112_1
        try clear hcz112_2
        try clear hcz112_3
        try clear hcz112_4
        try clear hcz116_0
        try clear hcz116_1
        try clear hcz116_2
        try clear hcz116_3
        try clear hcz116_4
        try clear hcz119_0
        try clear hcz119_1
        try clear hcz119_2
        try clear hcz119_3
        try clear hcz119_4
        try clear hcz124_0
        try clear hcz124_1
        try clear hcz124_2
        try clear hcz124_3
        try clear hcz124_4
        try clear hcz128_0
        try clear hcz128_1
        try clear hcz128_2
        try clear hcz128_3
        try clear hcz128_4
        try clear hcz131_0
        try clear hcz131_1
        try clear hcz131_2
        try clear hcz131_3
        try clear hcz131_4
        try clear hcz136_0
        try clear hcz136_1
        try clear hcz136_2
        try clear hcz136_3
        try clear hcz136_4
        try clear hcz140_0
        try clear hcz140_1
        try clear hcz140_2
        try clear hcz140_3
        try clear hcz140_4
        try clear hcz145_0
        try clear hcz145_1
        try clear hcz145_2
        try clear hcz145_3
        try clear hcz145_4
        try clear hcz22_0
        try clear hcz22_1
        try clear hcz22_2
        try clear hcz22_3
        try clear hcz22_4
        try clear hcz26_0
        try clear hcz26_1
        try clear hcz26_2
        try clear hcz26_3
        try clear hcz26_4
        try clear hcz31_0
        try clear hcz31_1
        try clear hcz31_2
        try clear hcz31_3
        try clear hcz31_4
        try clear hcz37_0
        try clear hcz37_1
        try clear hcz37_2
        try clear hcz37_3
        try clear hcz37_4
        try clear hcz44_0
        try clear hcz44_1
        try clear hcz44_2
        try clear hcz44_3
        try clear hcz44_4
        try clear hcz56_0
        try clear hcz56_1
        try clear hcz56_2
        try clear hcz56_3
        try clear hcz56_4
        try clear hcz60_0
        try clear hcz60_1
        try clear hcz60_2
        try clear hcz60_3
        try clear hcz60_4
        try clear hcz63_0
        try clear hcz63_1
        try clear hcz63_2
        try clear hcz63_3
        try clear hcz63_4
        try clear hcz65_0
        try clear hcz65_1
        try clear hcz65_2
        try clear hcz65_3
        try clear hcz65_4
        try clear hcz66_0
        try clear hcz66_1
        try clear hcz66_2
        try clear hcz66_3
        try clear hcz66_4
        try clear hcz71_0
        try clear hcz71_1
        try clear hcz71_2
        try clear hcz71_3
        try clear hcz71_4
        try clear hcz75_0
        try clear hcz75_1
        try clear hcz75_2
        try clear hcz75_3
        try clear hcz75_4
        try clear hcz78_0
        try clear hcz78_1
        try clear hcz78_2
        try clear hcz78_3
        try clear hcz78_4
        try clear hcz80_0
        try clear hcz80_1
        try clear hcz80_2
        try clear hcz80_3
        try clear hcz80_4
        try clear hcz81_0
        try clear hcz81_1
        try clear hcz81_2
        try clear hcz81_3
        try clear hcz81_4
        try clear hcz86_0
        try clear hcz86_1
        try clear hcz86_2
        try clear hcz86_3
        try clear hcz86_4
        try clear hcz90_0
        try clear hcz90_1
        try clear hcz90_2
        try clear hcz90_3
        try clear hcz90_4
        try clear hcz93_0
        try clear hcz93_1
        try clear hcz93_2
        try clear hcz93_3
        try clear hcz93_4
        try clear hcz95_0
        try clear hcz95_1
        try clear hcz95_2
        try clear hcz95_3
        try clear hcz95_4
        try clear hfz100_0
        try clear hfz100_1
        try clear hfz100_2
        try clear hfz100_3
        try clear hfz100_4
        try clear hfz104_0
        try clear hfz104_1
        try clear hfz104_2
        try clear hfz104_3
        try clear hfz104_4
        try clear hfz107_0
        try clear hfz107_1
        try clear hfz107_2
        try clear hfz107_3
        try clear hfz107_4
        try clear hfz112_0
        try clear hfz112_1
        try clear hfz112_2
        try clear hfz112_3
        try clear hfz112_4
        try clear hfz116_0
        try clear hfz116_1
        try clear hfz116_2
        try clear hfz116_3
        try clear hfz116_4
        try clear hfz119_0
        try clear hfz119_1
        try clear hfz119_2
        try clear hfz119_3
        try clear hfz119_4
        try clear hfz124_0
        try clear hfz124_1
        try clear hfz124_2
        try clear hfz124_3
        try clear hfz124_4
        try clear hfz128_0
        try clear hfz128_1
        try clear hfz128_2
        try clear hfz128_3
        try clear hfz128_4
        try clear hfz131_0
        try clear hfz131_1
        try clear hfz131_2
        try clear hfz131_3
        try clear hfz131_4
        try clear hfz136_0
        try clear hfz136_1
        try clear hfz136_2
        try clear hfz136_3
        try clear hfz136_4
        try clear hfz140_0
        try clear hfz140_1
        try clear hfz140_2
        try clear hfz140_3
        try clear hfz140_4
        try clear hfz145_0
        try clear hfz145_1
        try clear hfz145_2
        try clear hfz145_3
        try clear hfz145_4
        try clear hfz22_0
        try clear hfz22_1
        try clear hfz22_2
        try clear hfz22_3
        try clear hfz22_4
        try clear hfz26_0
        try clear hfz26_1
        try clear hfz26_2
        try clear hfz26_3
        try clear hfz26_4
        try clear hfz31_0
        try clear hfz31_1
        try clear hfz31_2
        try clear hfz31_3
        try clear hfz31_4
        try clear hfz37_0
        try clear hfz37_1
        try clear hfz37_2
        try clear hfz37_3
        try clear hfz37_4
        try clear hfz44_0
        try clear hfz44_1
        try clear hfz44_2
        try clear hfz44_3
        try clear hfz44_4
        try clear hfz56_0
        try clear hfz56_1
        try clear hfz56_2
        try clear hfz56_3
        try clear hfz56_4
        try clear hfz60_0
        try clear hfz60_1
        try clear hfz60_2
        try clear hfz60_3
        try clear hfz60_4
        try clear hfz63_0
        try clear hfz63_1
        try clear hfz63_2
        try clear hfz63_3
        try clear hfz63_4
        try clear hfz65_0
        try clear hfz65_1
        try clear hfz65_2
        try clear hfz65_3
        try clear hfz65_4
        try clear hfz66_0
        try clear hfz66_1
        try clear hfz66_2
        try clear hfz66_3
        try clear hfz66_4
        try clear hfz71_0
        try clear hfz71_1
        try clear hfz71_2
        try clear hfz71_3
        try clear hfz71_4
        try clear hfz75_0
        try clear hfz75_1
        try clear hfz75_2
        try clear hfz75_3
        try clear hfz75_4
        try clear hfz78_0
        try clear hfz78_1
        try clear hfz78_2
        try clear hfz78_3
        try clear hfz78_4
        try clear hfz80_0
        try clear hfz80_1
        try clear hfz80_2
        try clear hfz80_3
        try clear hfz80_4
        try clear hfz81_0
        try clear hfz81_1
        try clear hfz81_2
        try clear hfz81_3
        try clear hfz81_4
        try clear hfz86_0
        try clear hfz86_1
        try clear hfz86_2
        try clear hfz86_3
        try clear hfz86_4
        try clear hfz90_0
        try clear hfz90_1
        try clear hfz90_2
        try clear hfz90_3
        try clear hfz90_4
        try clear hfz93_0
        try clear hfz93_1
        try clear hfz93_2
        try clear hfz93_3
        try clear hfz93_4
        try clear hfz95_0
        try clear hfz95_1
        try clear hfz95_2
        try clear hfz95_3
        try clear hfz95_4
        obtain ⟨kq, x8_16, rfl, HA, HJ16, BK1117, BK1124, BK1131, BK1138, BK1145, HB⟩ := hcut
        cases kq with
        | zero => exact absurd HA.out (by simp [anneallaw8_WholeBack.j0])
        | succ kj16 =>
          have H := HA.out
          clear HA
          simp only [anneallaw8_WholeBack.j0] at H
          obtain rfl := Option.some.inj H
          go_wp2
          go_ret
          exact ⟨by first | rfl | (simp [errW_none, errW_some] <;> rfl) | (simp only [← hji9, ← hji11]; first | rfl | (simp [errW_none, errW_some] <;> rfl)) | (simp [*, errW_none, errW_some] <;> rfl), by repeat (first | (with_reducible first | exact HB.out | apply below_alloc | apply pw_below_drewN | apply below_drew1 | refine below_set ?_ GE1117.out | refine below_set ?_ GE1124.out | refine below_set ?_ GE1131.out | refine below_set ?_ GE1138.out | refine below_set ?_ GE1145.out) | exact HB.out)⟩
    · rw [if_neg c10] at H
      exact absurd H (by simp)
  · replace c6 := Bool.eq_false_iff.mpr c6
    subst c6
    have H1 : (some false) = some r := by rw [if_neg (show ¬ (false = true) by decide)] at H; exact H
    clear H
    have H := H1
    clear H1
    obtain rfl := Option.some.inj H
    go_enter Try.func14, Try.ntmps14
    go_wp2_with (first | ((with_reducible refine gate_callee (f := 25) rfl ?_); refine goesL_ (some 24) rfl rfl Try.func25 (by kernel_rfl) rfl #[] rfl (by (try simp only [List.map_toArray, List.map_cons, List.map_nil]); first | done | rfl | (simp only [List.length_drop, List.length_take]; rfl)) ?_; (with_reducible refine (anneallaw8_known.calls k  false _ A5.out).mono ?_); rintro e w146 ⟨rfl, hb⟩; refine ⟨_, rfl, ?_⟩; have n0_ := Aside0.mk (below_step (by repeat (first | (with_reducible first | exact HB.out | apply below_alloc | apply pw_below_drewN | apply below_drew1) | exact HB.out)) hb); clear HB; have HB := n0_; clear n0_; (try clear hb); (try clear hb2); (try clear hk); (try clear hi)))
    go_ret
    exact ⟨by first | rfl | (simp [errW_none, errW_some] <;> rfl) | (simp [*, errW_none, errW_some] <;> rfl), by repeat (first | (with_reducible first | exact HB.out | apply below_alloc | apply pw_below_drewN | apply below_drew1) | exact HB.out)⟩

/-- THE ONE PURE STATEMENT of anneallaw8_WholeBack: yours. -/
def anneallaw8_WholeBack.Pure : Prop := ∀ (a0 : Int) (a1 : Int) (a2 : Int) (a3 : Int), (Lit.int .u8 a0).wf = true → (Lit.int .u8 a1).wf = true → (Lit.int .i32 a2).wf = true → (Lit.int .u8 a3).wf = true → ∃ k, anneallaw8_WholeBack.f k a0 a1 a2 a3 = some true
theorem anneallaw8_WholeBack.walk (P : anneallaw8_WholeBack.Pure) (a0 : Int) (a1 : Int) (a2 : Int) (a3 : Int) (w : World) (w0 : (Lit.int .u8 a0).wf = true) (w1 : (Lit.int .u8 a1).wf = true) (w2 : (Lit.int .i32 a2).wf = true) (w3 : (Lit.int .u8 a3).wf = true) :
    Calls Try.prog 14 #[.int .u8 a0, .int .u8 a1, .int .i32 a2, .int .u8 a3] w fun e w' => e = .returned (.bool true) ∧ Below w.heap.size w w' := by
  obtain ⟨k, h⟩ := P a0 a1 a2 a3 w0 w1 w2 w3
  refine (anneallaw8_WholeBack.calls k a0 a1 a2 a3 true w h).mono ?_
  rintro e w' ⟨rfl, hd⟩
  exact ⟨rfl, hd⟩

end Go.Proofs.Ytngkpekmgahjiaa.P
