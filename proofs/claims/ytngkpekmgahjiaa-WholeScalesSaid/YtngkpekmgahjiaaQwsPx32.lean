import Derived.Test.YtngkpekmgahjiaaQwsM1
import Derived.Test.YtngkpekmgahjiaaQwsM3
import Derived.Test.YtngkpekmgahjiaaQwsPx28
import Derived.Test.YtngkpekmgahjiaaQwsPx30
import Derived.Test.YtngkpekmgahjiaaQwsM5
-- Printed by a program of this session's out of Lean's print of the translation; Lean checks it.
namespace Go.Proofs.Ytngkpekmgahjiaa.P
open Go.RowKit Go.Proofs.YtngkpekmgahjiaaW.PrintWords Go.Proofs.YtngkpekmgahjiaaW.PrintLast Go.Proofs.YtngkpekmgahjiaaW.PrintMore
attribute [local go_sem] max2_int min2_int max_two min_two max_three min_three max_four min_four   -- for this text's walks alone
set_option linter.unusedVariables false
set_option linter.unusedSimpArgs false

attribute [local go_sem high] eqA41
/-! ### anneallaw8_WholeScales: function 7 -/
mutual
def anneallaw8_WholeScales.j0 : Nat → Bool → Option (Bool)
  | 0, _ => none
  | k + 1, x8 => some x8
def anneallaw8_WholeScales.j1 : Nat → Bool → Option (Bool)
  | 0, _ => none
  | k + 1, x8 => some x8
end
def anneallaw8_WholeScales.f (k : Nat) (a0 : Int) (a1 : Int) (a2 : Int) (a3 : Int) : Option (Bool) := (anneallaw8_known.f k).bind fun t444 => (if t444 = true then ((anneallaw8_form.f a0).bind fun t445 => ((annealseat_Mild.f t445 a1).bind fun t446 => ((whole_Scale.f k t445 0 t446 (wrap64 (Int.tmod a2 5))).bind fun bt447 => ((whole_Scale.f k t445 0 bt447.1 (wrap64 (Int.tmod a3 5))).bind fun bt454 => ((whole_Scale.f k t445 0 t446 (wrap64 ((wrap64 (Int.tmod a2 5)) + (wrap64 (Int.tmod a3 5))))).bind fun bt461 => ((whole_Scale.f k t445 0 t446 4000).bind fun bt468 => ((whole_Scale.f k t445 0 t446 (-4000)).bind fun bt475 => (if t446 = 0 then (if bt454.1 = 0 then (if bt468.1 = 0 then (anneallaw8_WholeScales.j0 k (bt475.1 == 0)) else (anneallaw8_WholeScales.j0 k false)) else (anneallaw8_WholeScales.j0 k false)) else ((annealref1_Zero.f t445 true).bind fun t482 => (if bt454.1 = bt461.1 then (if (!bt447.2.1 && (!bt447.2.2.1 && (!bt447.2.2.2.1 && (!bt447.2.2.2.2.1 && (!bt447.2.2.2.2.2))))) = true then (if (bt454.2.1 == bt447.2.1 && (bt454.2.2.1 == bt447.2.2.1 && (bt454.2.2.2.1 == bt447.2.2.2.1 && (bt454.2.2.2.2.1 == bt447.2.2.2.2.1 && (bt454.2.2.2.2.2 == bt447.2.2.2.2.2))))) = true then (if (bt461.2.1 == bt447.2.1 && (bt461.2.2.1 == bt447.2.2.1 && (bt461.2.2.2.1 == bt447.2.2.2.1 && (bt461.2.2.2.2.1 == bt447.2.2.2.2.1 && (bt461.2.2.2.2.2 == bt447.2.2.2.2.2))))) = true then ((annealref1_Inf.f t445 false).bind fun t483 => (if bt468.1 = (Go.bits .or .u32 (Go.bits .and .u32 t446 t482) t483) then (if (!bt468.2.1 && (!bt468.2.2.1 && (bt468.2.2.2.1 && (!bt468.2.2.2.2.1 && (bt468.2.2.2.2.2))))) = true then (if bt475.1 = (Go.bits .and .u32 t446 t482) then (anneallaw8_WholeScales.j1 k (!bt475.2.1 && (!bt475.2.2.1 && (!bt475.2.2.2.1 && (bt475.2.2.2.2.1 && (bt475.2.2.2.2.2)))))) else (anneallaw8_WholeScales.j1 k false)) else (anneallaw8_WholeScales.j1 k false)) else (anneallaw8_WholeScales.j1 k false))) else (anneallaw8_WholeScales.j1 k false)) else (anneallaw8_WholeScales.j1 k false)) else (anneallaw8_WholeScales.j1 k false)) else (anneallaw8_WholeScales.j1 k false))))))))))) else (some false))
set_option maxHeartbeats 8000000 in
set_option maxRecDepth 100000 in
theorem anneallaw8_WholeScales.calls (k : Nat) (a0 : Int) (a1 : Int) (a2 : Int) (a3 : Int) (r : Bool) (w : World) (h : anneallaw8_WholeScales.f k a0 a1 a2 a3 = some r) :
    Calls Try.prog 7 #[.int .u8 a0, .int .u32 a1, .int .u8 a2, .int .u8 a3] w fun e w' => e = .returned (.bool r) ∧ Below w.heap.size w w' := by
  have hu41 := Try.underlying41
  have HB := Aside0.mk (Below.refl w.heap.size w)
  have H : ((anneallaw8_known.f k).bind fun t444 => (if t444 = true then ((anneallaw8_form.f a0).bind fun t445 => ((annealseat_Mild.f t445 a1).bind fun t446 => ((whole_Scale.f k t445 0 t446 (wrap64 (Int.tmod a2 5))).bind fun bt447 => ((whole_Scale.f k t445 0 bt447.1 (wrap64 (Int.tmod a3 5))).bind fun bt454 => ((whole_Scale.f k t445 0 t446 (wrap64 ((wrap64 (Int.tmod a2 5)) + (wrap64 (Int.tmod a3 5))))).bind fun bt461 => ((whole_Scale.f k t445 0 t446 4000).bind fun bt468 => ((whole_Scale.f k t445 0 t446 (-4000)).bind fun bt475 => (if t446 = 0 then (if bt454.1 = 0 then (if bt468.1 = 0 then (anneallaw8_WholeScales.j0 k (bt475.1 == 0)) else (anneallaw8_WholeScales.j0 k false)) else (anneallaw8_WholeScales.j0 k false)) else ((annealref1_Zero.f t445 true).bind fun t482 => (if bt454.1 = bt461.1 then (if (!bt447.2.1 && (!bt447.2.2.1 && (!bt447.2.2.2.1 && (!bt447.2.2.2.2.1 && (!bt447.2.2.2.2.2))))) = true then (if (bt454.2.1 == bt447.2.1 && (bt454.2.2.1 == bt447.2.2.1 && (bt454.2.2.2.1 == bt447.2.2.2.1 && (bt454.2.2.2.2.1 == bt447.2.2.2.2.1 && (bt454.2.2.2.2.2 == bt447.2.2.2.2.2))))) = true then (if (bt461.2.1 == bt447.2.1 && (bt461.2.2.1 == bt447.2.2.1 && (bt461.2.2.2.1 == bt447.2.2.2.1 && (bt461.2.2.2.2.1 == bt447.2.2.2.2.1 && (bt461.2.2.2.2.2 == bt447.2.2.2.2.2))))) = true then ((annealref1_Inf.f t445 false).bind fun t483 => (if bt468.1 = (Go.bits .or .u32 (Go.bits .and .u32 t446 t482) t483) then (if (!bt468.2.1 && (!bt468.2.2.1 && (bt468.2.2.2.1 && (!bt468.2.2.2.2.1 && (bt468.2.2.2.2.2))))) = true then (if bt475.1 = (Go.bits .and .u32 t446 t482) then (anneallaw8_WholeScales.j1 k (!bt475.2.1 && (!bt475.2.2.1 && (!bt475.2.2.2.1 && (bt475.2.2.2.2.1 && (bt475.2.2.2.2.2)))))) else (anneallaw8_WholeScales.j1 k false)) else (anneallaw8_WholeScales.j1 k false)) else (anneallaw8_WholeScales.j1 k false))) else (anneallaw8_WholeScales.j1 k false)) else (anneallaw8_WholeScales.j1 k false)) else (anneallaw8_WholeScales.j1 k false)) else (anneallaw8_WholeScales.j1 k false))))))))))) else (some false))) = some r := h
  clear h
  replace H := Option.bind_eq_some_iff.mp H
  obtain ⟨t444, A50, H⟩ := H
  replace H : (if t444 = true then ((anneallaw8_form.f a0).bind fun t445 => ((annealseat_Mild.f t445 a1).bind fun t446 => ((whole_Scale.f k t445 0 t446 (wrap64 (Int.tmod a2 5))).bind fun bt447 => ((whole_Scale.f k t445 0 bt447.1 (wrap64 (Int.tmod a3 5))).bind fun bt454 => ((whole_Scale.f k t445 0 t446 (wrap64 ((wrap64 (Int.tmod a2 5)) + (wrap64 (Int.tmod a3 5))))).bind fun bt461 => ((whole_Scale.f k t445 0 t446 4000).bind fun bt468 => ((whole_Scale.f k t445 0 t446 (-4000)).bind fun bt475 => (if t446 = 0 then (if bt454.1 = 0 then (if bt468.1 = 0 then (anneallaw8_WholeScales.j0 k (bt475.1 == 0)) else (anneallaw8_WholeScales.j0 k false)) else (anneallaw8_WholeScales.j0 k false)) else ((annealref1_Zero.f t445 true).bind fun t482 => (if bt454.1 = bt461.1 then (if (!bt447.2.1 && (!bt447.2.2.1 && (!bt447.2.2.2.1 && (!bt447.2.2.2.2.1 && (!bt447.2.2.2.2.2))))) = true then (if (bt454.2.1 == bt447.2.1 && (bt454.2.2.1 == bt447.2.2.1 && (bt454.2.2.2.1 == bt447.2.2.2.1 && (bt454.2.2.2.2.1 == bt447.2.2.2.2.1 && (bt454.2.2.2.2.2 == bt447.2.2.2.2.2))))) = true then (if (bt461.2.1 == bt447.2.1 && (bt461.2.2.1 == bt447.2.2.1 && (bt461.2.2.2.1 == bt447.2.2.2.1 && (bt461.2.2.2.2.1 == bt447.2.2.2.2.1 && (bt461.2.2.2.2.2 == bt447.2.2.2.2.2))))) = true then ((annealref1_Inf.f t445 false).bind fun t483 => (if bt468.1 = (Go.bits .or .u32 (Go.bits .and .u32 t446 t482) t483) then (if (!bt468.2.1 && (!bt468.2.2.1 && (bt468.2.2.2.1 && (!bt468.2.2.2.2.1 && (bt468.2.2.2.2.2))))) = true then (if bt475.1 = (Go.bits .and .u32 t446 t482) then (anneallaw8_WholeScales.j1 k (!bt475.2.1 && (!bt475.2.2.1 && (!bt475.2.2.2.1 && (bt475.2.2.2.2.1 && (bt475.2.2.2.2.2)))))) else (anneallaw8_WholeScales.j1 k false)) else (anneallaw8_WholeScales.j1 k false)) else (anneallaw8_WholeScales.j1 k false))) else (anneallaw8_WholeScales.j1 k false)) else (anneallaw8_WholeScales.j1 k false)) else (anneallaw8_WholeScales.j1 k false)) else (anneallaw8_WholeScales.j1 k false))))))))))) else (some false)) = some r := H
  have A5 := Aside0.mk A50
  clear A50
  by_cases c6 : t444 = true
  · subst c6
    have H1 : ((anneallaw8_form.f a0).bind fun t445 => ((annealseat_Mild.f t445 a1).bind fun t446 => ((whole_Scale.f k t445 0 t446 (wrap64 (Int.tmod a2 5))).bind fun bt447 => ((whole_Scale.f k t445 0 bt447.1 (wrap64 (Int.tmod a3 5))).bind fun bt454 => ((whole_Scale.f k t445 0 t446 (wrap64 ((wrap64 (Int.tmod a2 5)) + (wrap64 (Int.tmod a3 5))))).bind fun bt461 => ((whole_Scale.f k t445 0 t446 4000).bind fun bt468 => ((whole_Scale.f k t445 0 t446 (-4000)).bind fun bt475 => (if t446 = 0 then (if bt454.1 = 0 then (if bt468.1 = 0 then (anneallaw8_WholeScales.j0 k (bt475.1 == 0)) else (anneallaw8_WholeScales.j0 k false)) else (anneallaw8_WholeScales.j0 k false)) else ((annealref1_Zero.f t445 true).bind fun t482 => (if bt454.1 = bt461.1 then (if (!bt447.2.1 && (!bt447.2.2.1 && (!bt447.2.2.2.1 && (!bt447.2.2.2.2.1 && (!bt447.2.2.2.2.2))))) = true then (if (bt454.2.1 == bt447.2.1 && (bt454.2.2.1 == bt447.2.2.1 && (bt454.2.2.2.1 == bt447.2.2.2.1 && (bt454.2.2.2.2.1 == bt447.2.2.2.2.1 && (bt454.2.2.2.2.2 == bt447.2.2.2.2.2))))) = true then (if (bt461.2.1 == bt447.2.1 && (bt461.2.2.1 == bt447.2.2.1 && (bt461.2.2.2.1 == bt447.2.2.2.1 && (bt461.2.2.2.2.1 == bt447.2.2.2.2.1 && (bt461.2.2.2.2.2 == bt447.2.2.2.2.2))))) = true then ((annealref1_Inf.f t445 false).bind fun t483 => (if bt468.1 = (Go.bits .or .u32 (Go.bits .and .u32 t446 t482) t483) then (if (!bt468.2.1 && (!bt468.2.2.1 && (bt468.2.2.2.1 && (!bt468.2.2.2.2.1 && (bt468.2.2.2.2.2))))) = true then (if bt475.1 = (Go.bits .and .u32 t446 t482) then (anneallaw8_WholeScales.j1 k (!bt475.2.1 && (!bt475.2.2.1 && (!bt475.2.2.2.1 && (bt475.2.2.2.2.1 && (bt475.2.2.2.2.2)))))) else (anneallaw8_WholeScales.j1 k false)) else (anneallaw8_WholeScales.j1 k false)) else (anneallaw8_WholeScales.j1 k false))) else (anneallaw8_WholeScales.j1 k false)) else (anneallaw8_WholeScales.j1 k false)) else (anneallaw8_WholeScales.j1 k false)) else (anneallaw8_WholeScales.j1 k false))))))))))) = some r := by rw [if_pos rfl] at H; exact H
    clear H
    have H := H1
    clear H1
    replace H := Option.bind_eq_some_iff.mp H
    obtain ⟨t445, A70, H⟩ := H
    replace H : ((annealseat_Mild.f t445 a1).bind fun t446 => ((whole_Scale.f k t445 0 t446 (wrap64 (Int.tmod a2 5))).bind fun bt447 => ((whole_Scale.f k t445 0 bt447.1 (wrap64 (Int.tmod a3 5))).bind fun bt454 => ((whole_Scale.f k t445 0 t446 (wrap64 ((wrap64 (Int.tmod a2 5)) + (wrap64 (Int.tmod a3 5))))).bind fun bt461 => ((whole_Scale.f k t445 0 t446 4000).bind fun bt468 => ((whole_Scale.f k t445 0 t446 (-4000)).bind fun bt475 => (if t446 = 0 then (if bt454.1 = 0 then (if bt468.1 = 0 then (anneallaw8_WholeScales.j0 k (bt475.1 == 0)) else (anneallaw8_WholeScales.j0 k false)) else (anneallaw8_WholeScales.j0 k false)) else ((annealref1_Zero.f t445 true).bind fun t482 => (if bt454.1 = bt461.1 then (if (!bt447.2.1 && (!bt447.2.2.1 && (!bt447.2.2.2.1 && (!bt447.2.2.2.2.1 && (!bt447.2.2.2.2.2))))) = true then (if (bt454.2.1 == bt447.2.1 && (bt454.2.2.1 == bt447.2.2.1 && (bt454.2.2.2.1 == bt447.2.2.2.1 && (bt454.2.2.2.2.1 == bt447.2.2.2.2.1 && (bt454.2.2.2.2.2 == bt447.2.2.2.2.2))))) = true then (if (bt461.2.1 == bt447.2.1 && (bt461.2.2.1 == bt447.2.2.1 && (bt461.2.2.2.1 == bt447.2.2.2.1 && (bt461.2.2.2.2.1 == bt447.2.2.2.2.1 && (bt461.2.2.2.2.2 == bt447.2.2.2.2.2))))) = true then ((annealref1_Inf.f t445 false).bind fun t483 => (if bt468.1 = (Go.bits .or .u32 (Go.bits .and .u32 t446 t482) t483) then (if (!bt468.2.1 && (!bt468.2.2.1 && (bt468.2.2.2.1 && (!bt468.2.2.2.2.1 && (bt468.2.2.2.2.2))))) = true then (if bt475.1 = (Go.bits .and .u32 t446 t482) then (anneallaw8_WholeScales.j1 k (!bt475.2.1 && (!bt475.2.2.1 && (!bt475.2.2.2.1 && (bt475.2.2.2.2.1 && (bt475.2.2.2.2.2)))))) else (anneallaw8_WholeScales.j1 k false)) else (anneallaw8_WholeScales.j1 k false)) else (anneallaw8_WholeScales.j1 k false))) else (anneallaw8_WholeScales.j1 k false)) else (anneallaw8_WholeScales.j1 k false)) else (anneallaw8_WholeScales.j1 k false)) else (anneallaw8_WholeScales.j1 k false)))))))))) = some r := H
    have A7 := Aside0.mk A70
    clear A70
    replace H := Option.bind_eq_some_iff.mp H
    obtain ⟨t446, A80, H⟩ := H
    replace H : ((whole_Scale.f k t445 0 t446 (wrap64 (Int.tmod a2 5))).bind fun bt447 => ((whole_Scale.f k t445 0 bt447.1 (wrap64 (Int.tmod a3 5))).bind fun bt454 => ((whole_Scale.f k t445 0 t446 (wrap64 ((wrap64 (Int.tmod a2 5)) + (wrap64 (Int.tmod a3 5))))).bind fun bt461 => ((whole_Scale.f k t445 0 t446 4000).bind fun bt468 => ((whole_Scale.f k t445 0 t446 (-4000)).bind fun bt475 => (if t446 = 0 then (if bt454.1 = 0 then (if bt468.1 = 0 then (anneallaw8_WholeScales.j0 k (bt475.1 == 0)) else (anneallaw8_WholeScales.j0 k false)) else (anneallaw8_WholeScales.j0 k false)) else ((annealref1_Zero.f t445 true).bind fun t482 => (if bt454.1 = bt461.1 then (if (!bt447.2.1 && (!bt447.2.2.1 && (!bt447.2.2.2.1 && (!bt447.2.2.2.2.1 && (!bt447.2.2.2.2.2))))) = true then (if (bt454.2.1 == bt447.2.1 && (bt454.2.2.1 == bt447.2.2.1 && (bt454.2.2.2.1 == bt447.2.2.2.1 && (bt454.2.2.2.2.1 == bt447.2.2.2.2.1 && (bt454.2.2.2.2.2 == bt447.2.2.2.2.2))))) = true then (if (bt461.2.1 == bt447.2.1 && (bt461.2.2.1 == bt447.2.2.1 && (bt461.2.2.2.1 == bt447.2.2.2.1 && (bt461.2.2.2.2.1 == bt447.2.2.2.2.1 && (bt461.2.2.2.2.2 == bt447.2.2.2.2.2))))) = true then ((annealref1_Inf.f t445 false).bind fun t483 => (if bt468.1 = (Go.bits .or .u32 (Go.bits .and .u32 t446 t482) t483) then (if (!bt468.2.1 && (!bt468.2.2.1 && (bt468.2.2.2.1 && (!bt468.2.2.2.2.1 && (bt468.2.2.2.2.2))))) = true then (if bt475.1 = (Go.bits .and .u32 t446 t482) then (anneallaw8_WholeScales.j1 k (!bt475.2.1 && (!bt475.2.2.1 && (!bt475.2.2.2.1 && (bt475.2.2.2.2.1 && (bt475.2.2.2.2.2)))))) else (anneallaw8_WholeScales.j1 k false)) else (anneallaw8_WholeScales.j1 k false)) else (anneallaw8_WholeScales.j1 k false))) else (anneallaw8_WholeScales.j1 k false)) else (anneallaw8_WholeScales.j1 k false)) else (anneallaw8_WholeScales.j1 k false)) else (anneallaw8_WholeScales.j1 k false))))))))) = some r := H
    have A8 := Aside0.mk A80
    clear A80
    replace H := Option.bind_eq_some_iff.mp H
    obtain ⟨⟨t447, t448, t449, t450, t451, t452⟩, A90, H⟩ := H
    replace H : ((whole_Scale.f k t445 0 t447 (wrap64 (Int.tmod a3 5))).bind fun bt454 => ((whole_Scale.f k t445 0 t446 (wrap64 ((wrap64 (Int.tmod a2 5)) + (wrap64 (Int.tmod a3 5))))).bind fun bt461 => ((whole_Scale.f k t445 0 t446 4000).bind fun bt468 => ((whole_Scale.f k t445 0 t446 (-4000)).bind fun bt475 => (if t446 = 0 then (if bt454.1 = 0 then (if bt468.1 = 0 then (anneallaw8_WholeScales.j0 k (bt475.1 == 0)) else (anneallaw8_WholeScales.j0 k false)) else (anneallaw8_WholeScales.j0 k false)) else ((annealref1_Zero.f t445 true).bind fun t482 => (if bt454.1 = bt461.1 then (if (!t448 && (!t449 && (!t450 && (!t451 && (!t452))))) = true then (if (bt454.2.1 == t448 && (bt454.2.2.1 == t449 && (bt454.2.2.2.1 == t450 && (bt454.2.2.2.2.1 == t451 && (bt454.2.2.2.2.2 == t452))))) = true then (if (bt461.2.1 == t448 && (bt461.2.2.1 == t449 && (bt461.2.2.2.1 == t450 && (bt461.2.2.2.2.1 == t451 && (bt461.2.2.2.2.2 == t452))))) = true then ((annealref1_Inf.f t445 false).bind fun t483 => (if bt468.1 = (Go.bits .or .u32 (Go.bits .and .u32 t446 t482) t483) then (if (!bt468.2.1 && (!bt468.2.2.1 && (bt468.2.2.2.1 && (!bt468.2.2.2.2.1 && (bt468.2.2.2.2.2))))) = true then (if bt475.1 = (Go.bits .and .u32 t446 t482) then (anneallaw8_WholeScales.j1 k (!bt475.2.1 && (!bt475.2.2.1 && (!bt475.2.2.2.1 && (bt475.2.2.2.2.1 && (bt475.2.2.2.2.2)))))) else (anneallaw8_WholeScales.j1 k false)) else (anneallaw8_WholeScales.j1 k false)) else (anneallaw8_WholeScales.j1 k false))) else (anneallaw8_WholeScales.j1 k false)) else (anneallaw8_WholeScales.j1 k false)) else (anneallaw8_WholeScales.j1 k false)) else (anneallaw8_WholeScales.j1 k false)))))))) = some r := H
    have A9 := Aside0.mk A90
    clear A90
    replace H := Option.bind_eq_some_iff.mp H
    obtain ⟨⟨t454, t455, t456, t457, t458, t459⟩, A100, H⟩ := H
    replace H : ((whole_Scale.f k t445 0 t446 (wrap64 ((wrap64 (Int.tmod a2 5)) + (wrap64 (Int.tmod a3 5))))).bind fun bt461 => ((whole_Scale.f k t445 0 t446 4000).bind fun bt468 => ((whole_Scale.f k t445 0 t446 (-4000)).bind fun bt475 => (if t446 = 0 then (if t454 = 0 then (if bt468.1 = 0 then (anneallaw8_WholeScales.j0 k (bt475.1 == 0)) else (anneallaw8_WholeScales.j0 k false)) else (anneallaw8_WholeScales.j0 k false)) else ((annealref1_Zero.f t445 true).bind fun t482 => (if t454 = bt461.1 then (if (!t448 && (!t449 && (!t450 && (!t451 && (!t452))))) = true then (if (t455 == t448 && (t456 == t449 && (t457 == t450 && (t458 == t451 && (t459 == t452))))) = true then (if (bt461.2.1 == t448 && (bt461.2.2.1 == t449 && (bt461.2.2.2.1 == t450 && (bt461.2.2.2.2.1 == t451 && (bt461.2.2.2.2.2 == t452))))) = true then ((annealref1_Inf.f t445 false).bind fun t483 => (if bt468.1 = (Go.bits .or .u32 (Go.bits .and .u32 t446 t482) t483) then (if (!bt468.2.1 && (!bt468.2.2.1 && (bt468.2.2.2.1 && (!bt468.2.2.2.2.1 && (bt468.2.2.2.2.2))))) = true then (if bt475.1 = (Go.bits .and .u32 t446 t482) then (anneallaw8_WholeScales.j1 k (!bt475.2.1 && (!bt475.2.2.1 && (!bt475.2.2.2.1 && (bt475.2.2.2.2.1 && (bt475.2.2.2.2.2)))))) else (anneallaw8_WholeScales.j1 k false)) else (anneallaw8_WholeScales.j1 k false)) else (anneallaw8_WholeScales.j1 k false))) else (anneallaw8_WholeScales.j1 k false)) else (anneallaw8_WholeScales.j1 k false)) else (anneallaw8_WholeScales.j1 k false)) else (anneallaw8_WholeScales.j1 k false))))))) = some r := H
    have A10 := Aside0.mk A100
    clear A100
    replace H := Option.bind_eq_some_iff.mp H
    obtain ⟨⟨t461, t462, t463, t464, t465, t466⟩, A110, H⟩ := H
    replace H : ((whole_Scale.f k t445 0 t446 4000).bind fun bt468 => ((whole_Scale.f k t445 0 t446 (-4000)).bind fun bt475 => (if t446 = 0 then (if t454 = 0 then (if bt468.1 = 0 then (anneallaw8_WholeScales.j0 k (bt475.1 == 0)) else (anneallaw8_WholeScales.j0 k false)) else (anneallaw8_WholeScales.j0 k false)) else ((annealref1_Zero.f t445 true).bind fun t482 => (if t454 = t461 then (if (!t448 && (!t449 && (!t450 && (!t451 && (!t452))))) = true then (if (t455 == t448 && (t456 == t449 && (t457 == t450 && (t458 == t451 && (t459 == t452))))) = true then (if (t462 == t448 && (t463 == t449 && (t464 == t450 && (t465 == t451 && (t466 == t452))))) = true then ((annealref1_Inf.f t445 false).bind fun t483 => (if bt468.1 = (Go.bits .or .u32 (Go.bits .and .u32 t446 t482) t483) then (if (!bt468.2.1 && (!bt468.2.2.1 && (bt468.2.2.2.1 && (!bt468.2.2.2.2.1 && (bt468.2.2.2.2.2))))) = true then (if bt475.1 = (Go.bits .and .u32 t446 t482) then (anneallaw8_WholeScales.j1 k (!bt475.2.1 && (!bt475.2.2.1 && (!bt475.2.2.2.1 && (bt475.2.2.2.2.1 && (bt475.2.2.2.2.2)))))) else (anneallaw8_WholeScales.j1 k false)) else (anneallaw8_WholeScales.j1 k false)) else (anneallaw8_WholeScales.j1 k false))) else (anneallaw8_WholeScales.j1 k false)) else (anneallaw8_WholeScales.j1 k false)) else (anneallaw8_WholeScales.j1 k false)) else (anneallaw8_WholeScales.j1 k false)))))) = some r := H
    have A11 := Aside0.mk A110
    clear A110
    replace H := Option.bind_eq_some_iff.mp H
    obtain ⟨⟨t468, t469, t470, t471, t472, t473⟩, A120, H⟩ := H
    replace H : ((whole_Scale.f k t445 0 t446 (-4000)).bind fun bt475 => (if t446 = 0 then (if t454 = 0 then (if t468 = 0 then (anneallaw8_WholeScales.j0 k (bt475.1 == 0)) else (anneallaw8_WholeScales.j0 k false)) else (anneallaw8_WholeScales.j0 k false)) else ((annealref1_Zero.f t445 true).bind fun t482 => (if t454 = t461 then (if (!t448 && (!t449 && (!t450 && (!t451 && (!t452))))) = true then (if (t455 == t448 && (t456 == t449 && (t457 == t450 && (t458 == t451 && (t459 == t452))))) = true then (if (t462 == t448 && (t463 == t449 && (t464 == t450 && (t465 == t451 && (t466 == t452))))) = true then ((annealref1_Inf.f t445 false).bind fun t483 => (if t468 = (Go.bits .or .u32 (Go.bits .and .u32 t446 t482) t483) then (if (!t469 && (!t470 && (t471 && (!t472 && (t473))))) = true then (if bt475.1 = (Go.bits .and .u32 t446 t482) then (anneallaw8_WholeScales.j1 k (!bt475.2.1 && (!bt475.2.2.1 && (!bt475.2.2.2.1 && (bt475.2.2.2.2.1 && (bt475.2.2.2.2.2)))))) else (anneallaw8_WholeScales.j1 k false)) else (anneallaw8_WholeScales.j1 k false)) else (anneallaw8_WholeScales.j1 k false))) else (anneallaw8_WholeScales.j1 k false)) else (anneallaw8_WholeScales.j1 k false)) else (anneallaw8_WholeScales.j1 k false)) else (anneallaw8_WholeScales.j1 k false))))) = some r := H
    have A12 := Aside0.mk A120
    clear A120
    replace H := Option.bind_eq_some_iff.mp H
    obtain ⟨⟨t475, t476, t477, t478, t479, t480⟩, A130, H⟩ := H
    replace H : (if t446 = 0 then (if t454 = 0 then (if t468 = 0 then (anneallaw8_WholeScales.j0 k (t475 == 0)) else (anneallaw8_WholeScales.j0 k false)) else (anneallaw8_WholeScales.j0 k false)) else ((annealref1_Zero.f t445 true).bind fun t482 => (if t454 = t461 then (if (!t448 && (!t449 && (!t450 && (!t451 && (!t452))))) = true then (if (t455 == t448 && (t456 == t449 && (t457 == t450 && (t458 == t451 && (t459 == t452))))) = true then (if (t462 == t448 && (t463 == t449 && (t464 == t450 && (t465 == t451 && (t466 == t452))))) = true then ((annealref1_Inf.f t445 false).bind fun t483 => (if t468 = (Go.bits .or .u32 (Go.bits .and .u32 t446 t482) t483) then (if (!t469 && (!t470 && (t471 && (!t472 && (t473))))) = true then (if t475 = (Go.bits .and .u32 t446 t482) then (anneallaw8_WholeScales.j1 k (!t476 && (!t477 && (!t478 && (t479 && (t480)))))) else (anneallaw8_WholeScales.j1 k false)) else (anneallaw8_WholeScales.j1 k false)) else (anneallaw8_WholeScales.j1 k false))) else (anneallaw8_WholeScales.j1 k false)) else (anneallaw8_WholeScales.j1 k false)) else (anneallaw8_WholeScales.j1 k false)) else (anneallaw8_WholeScales.j1 k false)))) = some r := H
    have A13 := Aside0.mk A130
    clear A130
    by_cases c14 : t446 = 0
    · rw [if_pos c14] at H
      have c14b0 : (t446 == 0) = true := beq_iff_eq.mpr c14
      have c14b1 : (t446 != 0) = false := bne_eq_false_iff_eq.mpr c14
      clear c14
      have HC15 := Aside0.mk H
      clear H
      go_enter Try.func7, Try.ntmps7
      go_upto_region 12 with (first | ((with_reducible refine gate_callee (f := 25) rfl ?_); refine goesL_ (some 24) rfl rfl Try.func25 (by kernel_rfl) rfl #[] rfl (by (try simp only [List.map_toArray, List.map_cons, List.map_nil]); first | done | rfl | (simp only [List.length_drop, List.length_take]; rfl)) ?_; (with_reducible refine (anneallaw8_known.calls k  true _ A5.out).mono ?_); rintro e w16 ⟨rfl, hb⟩; refine ⟨_, rfl, ?_⟩; have n0_ := Aside0.mk (below_step (by repeat (first | (with_reducible first | exact HB.out | apply below_alloc | apply pw_below_drewN | apply below_drew1) | exact HB.out)) hb); clear HB; have HB := n0_; clear n0_; (try clear hb); (try clear hb2); (try clear hk); (try clear hi)) | ((with_reducible refine gate_callee (f := 26) rfl ?_); refine goesL_ (some 27) rfl rfl Try.func26 (by kernel_rfl) rfl #[.int .u8 a0] rfl (by (try simp only [List.map_toArray, List.map_cons, List.map_nil]); first | done | rfl | (simp only [List.length_drop, List.length_take]; rfl)) ?_; (with_reducible refine (anneallaw8_form.calls a0 t445 _ A7.out).mono ?_); rintro e w17 ⟨rfl, hb⟩; refine ⟨_, rfl, ?_⟩; have n0_ := Aside0.mk (below_step (by repeat (first | (with_reducible first | exact HB.out | apply below_alloc | apply pw_below_drewN | apply below_drew1) | exact HB.out)) hb); clear HB; have HB := n0_; clear n0_; (try clear hb); (try clear hb2); (try clear hk); (try clear hi)) | ((with_reducible refine gate_callee (f := 27) rfl ?_); refine goesL_ (some 30) rfl rfl Try.func27 (by kernel_rfl) rfl #[.int .i64 t445, .int .u32 a1] rfl (by (try simp only [List.map_toArray, List.map_cons, List.map_nil]); first | done | rfl | (simp only [List.length_drop, List.length_take]; rfl)) ?_; (with_reducible refine (annealseat_Mild.calls t445 a1 t446 _ A8.out).mono ?_); rintro e w' ⟨rfl, ⟨nd, rfl⟩⟩; refine ⟨_, rfl, ?_⟩; (try (rw [drewN_self w17]; generalize hq_ : World.drewN w17 _ = w17; have n0_ : Aside0 (Below w.heap.size w w17) := ⟨by rw [← hq_]; exact (by repeat (first | (with_reducible first | exact HB.out | apply below_alloc | apply pw_below_drewN | apply below_drew1) | exact HB.out))⟩; clear HB hq_; have HB := n0_; clear n0_))) | ((with_reducible refine gate_callee (f := 28) rfl ?_); refine goesL_ (some 41) rfl rfl Try.func28 (by kernel_rfl) rfl #[.int .i64 t445, .int .i64 0, .int .u32 t446, .int .i64 (wrap64 (Int.tmod a2 5))] rfl (by (try simp only [List.map_toArray, List.map_cons, List.map_nil]); first | done | rfl | (simp only [List.length_drop, List.length_take]; rfl)) ?_; (with_reducible refine (whole_Scale.calls k t445 0 t446 (wrap64 (Int.tmod a2 5)) t447 t448 t449 t450 t451 t452 _ A9.out).mono ?_); rintro e w18 ⟨rfl, hb⟩; refine ⟨_, rfl, ?_⟩; have n0_ := Aside0.mk (below_step (by repeat (first | (with_reducible first | exact HB.out | apply below_alloc | apply pw_below_drewN | apply below_drew1) | exact HB.out)) hb); clear HB; have HB := n0_; clear n0_; (try clear hb); (try clear hb2); (try clear hk); (try clear hi)) | ((with_reducible refine gate_dst (N := 14) rfl ?_); refine box_event ?hg (N := 14) ?hd (cs := #[.bool false, .bool false, .bool false, .bool false, .bool false]) (t := 41) ?hr ?_; (case hd => rfl); (case hg => rfl); (case hr => first | (go_simp; done) | (go_simp; rfl)); intro gb453 hg w19 hbox hb; have n0_ := Aside0.mk (below_step (by repeat (first | (with_reducible first | exact HB.out | apply below_alloc | apply pw_below_drewN | apply below_drew1) | exact HB.out)) hb); have n1_ := Aside0.mk (hbox); have n2_ := Aside0.mk ((by rw [hg]; exact (below_size (by repeat (first | (with_reducible first | exact HB.out | apply below_alloc | apply pw_below_drewN | apply below_drew1) | exact HB.out))) : w.heap.size ≤ gb453)); have n3_ := Aside0.mk ((by rw [hg]; exact (below_size (by repeat (first | (with_reducible first | exact HB.out | apply below_alloc | apply pw_below_drewN | apply below_drew1) | exact HB.out))) : w.heap.size ≤ gb453)); clear HB; have HB := n0_; have BK453 := n1_; have GW453 := n2_; have GE453 := n3_; clear n0_ n1_ n2_ n3_; clear hb hbox hg; have hcz20_0 : w19.cell? ⟨gb453, 0, none⟩ = some (.bool false) := (blk_cell BK453.out 0).trans rfl; have hcz20_1 : w19.cell? ⟨gb453, 1, none⟩ = some (.bool false) := (blk_cell BK453.out 1).trans rfl; have hcz20_2 : w19.cell? ⟨gb453, 2, none⟩ = some (.bool false) := (blk_cell BK453.out 2).trans rfl; have hcz20_3 : w19.cell? ⟨gb453, 3, none⟩ = some (.bool false) := (blk_cell BK453.out 3).trans rfl; have hcz20_4 : w19.cell? ⟨gb453, 4, none⟩ = some (.bool false) := (blk_cell BK453.out 4).trans rfl; have hfz20_0 := blk_frozen BK453.out 0; have hfz20_1 := blk_frozen BK453.out 1; have hfz20_2 := blk_frozen BK453.out 2; have hfz20_3 := blk_frozen BK453.out 3; have hfz20_4 := blk_frozen BK453.out 4) | ((with_reducible refine gate_callee (f := 28) rfl ?_); refine goesL_ (some 48) rfl rfl Try.func28 (by kernel_rfl) rfl #[.int .i64 t445, .int .i64 0, .int .u32 t447, .int .i64 (wrap64 (Int.tmod a3 5))] rfl (by (try simp only [List.map_toArray, List.map_cons, List.map_nil]); first | done | rfl | (simp only [List.length_drop, List.length_take]; rfl)) ?_; (with_reducible refine (whole_Scale.calls k t445 0 t447 (wrap64 (Int.tmod a3 5)) t454 t455 t456 t457 t458 t459 _ A10.out).mono ?_); rintro e w21 ⟨rfl, hb⟩; refine ⟨_, rfl, ?_⟩; have n0_ := Aside0.mk (blk_below (g := gb453) (o := .cells #[.bool t448, .bool t449, .bool t450, .bool t451, .bool t452] 41 (0, 0)) (by (with_reducible repeat (first | refine blk_drewN ?_ _ | refine blk_drew ?_ | refine blk_alloc ?_ _)); refine blk_put (cs := #[.bool t448, .bool t449, .bool t450, .bool t451, .bool false]) ?_ 4 _ rfl; (with_reducible repeat (first | refine blk_drewN ?_ _ | refine blk_drew ?_ | refine blk_alloc ?_ _)); refine blk_put (cs := #[.bool t448, .bool t449, .bool t450, .bool false, .bool false]) ?_ 3 _ rfl; (with_reducible repeat (first | refine blk_drewN ?_ _ | refine blk_drew ?_ | refine blk_alloc ?_ _)); refine blk_put (cs := #[.bool t448, .bool t449, .bool false, .bool false, .bool false]) ?_ 2 _ rfl; (with_reducible repeat (first | refine blk_drewN ?_ _ | refine blk_drew ?_ | refine blk_alloc ?_ _)); refine blk_put (cs := #[.bool t448, .bool false, .bool false, .bool false, .bool false]) ?_ 1 _ rfl; (with_reducible repeat (first | refine blk_drewN ?_ _ | refine blk_drew ?_ | refine blk_alloc ?_ _)); refine blk_put (cs := #[.bool false, .bool false, .bool false, .bool false, .bool false]) ?_ 0 _ rfl; (with_reducible repeat (first | refine blk_drewN ?_ _ | refine blk_drew ?_ | refine blk_alloc ?_ _)); exact BK453.out) hb); have n1_ := Aside0.mk (below_step (by repeat (first | (with_reducible first | exact HB.out | apply below_alloc | apply pw_below_drewN | apply below_drew1 | refine below_set ?_ GE453.out) | exact HB.out)) hb); clear BK453; clear HB; have BK453 := n0_; have HB := n1_; clear n0_ n1_; (try clear hb); (try clear hb2); (try clear hk); (try clear hi)) | ((with_reducible refine gate_dst (N := 16) rfl ?_); refine box_event ?hg (N := 16) ?hd (cs := #[.bool false, .bool false, .bool false, .bool false, .bool false]) (t := 41) ?hr ?_; (case hd => rfl); (case hg => rfl); (case hr => first | (go_simp; done) | (go_simp; rfl)); intro gb460 hg w22 hbox hb; have n0_ := Aside0.mk (blk_below (g := gb453) (o := .cells #[.bool t448, .bool t449, .bool t450, .bool t451, .bool t452] 41 (0, 0)) (by (with_reducible repeat (first | refine blk_drewN ?_ _ | refine blk_drew ?_ | refine blk_alloc ?_ _)); exact BK453.out) hb); have n1_ := Aside0.mk (below_step (by repeat (first | (with_reducible first | exact HB.out | apply below_alloc | apply pw_below_drewN | apply below_drew1 | refine below_set ?_ GE453.out) | exact HB.out)) hb); have n2_ := Aside0.mk (hbox); have n3_ := Aside0.mk ((by rw [hg]; exact (below_size (by repeat (first | (with_reducible first | exact HB.out | apply below_alloc | apply pw_below_drewN | apply below_drew1 | refine below_set ?_ GE453.out) | exact HB.out))) : w.heap.size ≤ gb460)); have n4_ := Aside0.mk ((by rw [hg]; exact (below_size (by repeat (first | (with_reducible first | exact HB.out | apply below_alloc | apply pw_below_drewN | apply below_drew1 | refine below_set ?_ GE453.out) | exact HB.out))) : w.heap.size ≤ gb460)); have n5_ := Aside0.mk ((by rw [hg]; exact Nat.ne_of_lt (blk_lt (g := gb453) (o := .cells #[.bool t448, .bool t449, .bool t450, .bool t451, .bool t452] 41 (0, 0)) (by (with_reducible repeat (first | refine blk_drewN ?_ _ | refine blk_drew ?_ | refine blk_alloc ?_ _)); exact BK453.out)) : gb453 ≠ gb460)); have n6_ := Aside0.mk ((by rw [hg]; exact Nat.ne_of_gt (blk_lt (g := gb453) (o := .cells #[.bool t448, .bool t449, .bool t450, .bool t451, .bool t452] 41 (0, 0)) (by (with_reducible repeat (first | refine blk_drewN ?_ _ | refine blk_drew ?_ | refine blk_alloc ?_ _)); exact BK453.out)) : gb460 ≠ gb453)); clear BK453; clear HB; have BK453 := n0_; have HB := n1_; have BK460 := n2_; have GW460 := n3_; have GE460 := n4_; have NB453_460 := n5_; have NB460_453 := n6_; clear n0_ n1_ n2_ n3_ n4_ n5_ n6_; clear hb hbox hg; have hnb23 := NB460_453.out; have hnc23 := NB453_460.out; have hcz24_0 : w22.cell? ⟨gb460, 0, none⟩ = some (.bool false) := (blk_cell BK460.out 0).trans rfl; have hcz24_1 : w22.cell? ⟨gb460, 1, none⟩ = some (.bool false) := (blk_cell BK460.out 1).trans rfl; have hcz24_2 : w22.cell? ⟨gb460, 2, none⟩ = some (.bool false) := (blk_cell BK460.out 2).trans rfl; have hcz24_3 : w22.cell? ⟨gb460, 3, none⟩ = some (.bool false) := (blk_cell BK460.out 3).trans rfl; have hcz24_4 : w22.cell? ⟨gb460, 4, none⟩ = some (.bool false) := (blk_cell BK460.out 4).trans rfl; have hfz24_0 := blk_frozen BK460.out 0; have hfz24_1 := blk_frozen BK460.out 1; have hfz24_2 := blk_frozen BK460.out 2; have hfz24_3 := blk_frozen BK460.out 3; have hfz24_4 := blk_frozen BK460.out 4) | ((with_reducible refine gate_callee (f := 28) rfl ?_); refine goesL_ (some 57) rfl rfl Try.func28 (by kernel_rfl) rfl #[.int .i64 t445, .int .i64 0, .int .u32 t446, .int .i64 (wrap64 ((wrap64 (Int.tmod a2 5)) + (wrap64 (Int.tmod a3 5))))] rfl (by (try simp only [List.map_toArray, List.map_cons, List.map_nil]); first | done | rfl | (simp only [List.length_drop, List.length_take]; rfl)) ?_; (with_reducible refine (whole_Scale.calls k t445 0 t446 (wrap64 ((wrap64 (Int.tmod a2 5)) + (wrap64 (Int.tmod a3 5)))) t461 t462 t463 t464 t465 t466 _ A11.out).mono ?_); rintro e w25 ⟨rfl, hb⟩; refine ⟨_, rfl, ?_⟩; have n0_ := Aside0.mk (blk_below (g := gb453) (o := .cells #[.bool t448, .bool t449, .bool t450, .bool t451, .bool t452] 41 (0, 0)) (by (with_reducible repeat (first | refine blk_drewN ?_ _ | refine blk_drew ?_ | refine blk_alloc ?_ _)); refine blk_far ?_ NB453_460.out _; (with_reducible repeat (first | refine blk_drewN ?_ _ | refine blk_drew ?_ | refine blk_alloc ?_ _)); refine blk_far ?_ NB453_460.out _; (with_reducible repeat (first | refine blk_drewN ?_ _ | refine blk_drew ?_ | refine blk_alloc ?_ _)); refine blk_far ?_ NB453_460.out _; (with_reducible repeat (first | refine blk_drewN ?_ _ | refine blk_drew ?_ | refine blk_alloc ?_ _)); refine blk_far ?_ NB453_460.out _; (with_reducible repeat (first | refine blk_drewN ?_ _ | refine blk_drew ?_ | refine blk_alloc ?_ _)); refine blk_far ?_ NB453_460.out _; (with_reducible repeat (first | refine blk_drewN ?_ _ | refine blk_drew ?_ | refine blk_alloc ?_ _)); exact BK453.out) hb); have n1_ := Aside0.mk (blk_below (g := gb460) (o := .cells #[.bool t455, .bool t456, .bool t457, .bool t458, .bool t459] 41 (0, 0)) (by (with_reducible repeat (first | refine blk_drewN ?_ _ | refine blk_drew ?_ | refine blk_alloc ?_ _)); refine blk_put (cs := #[.bool t455, .bool t456, .bool t457, .bool t458, .bool false]) ?_ 4 _ rfl; (with_reducible repeat (first | refine blk_drewN ?_ _ | refine blk_drew ?_ | refine blk_alloc ?_ _)); refine blk_put (cs := #[.bool t455, .bool t456, .bool t457, .bool false, .bool false]) ?_ 3 _ rfl; (with_reducible repeat (first | refine blk_drewN ?_ _ | refine blk_drew ?_ | refine blk_alloc ?_ _)); refine blk_put (cs := #[.bool t455, .bool t456, .bool false, .bool false, .bool false]) ?_ 2 _ rfl; (with_reducible repeat (first | refine blk_drewN ?_ _ | refine blk_drew ?_ | refine blk_alloc ?_ _)); refine blk_put (cs := #[.bool t455, .bool false, .bool false, .bool false, .bool false]) ?_ 1 _ rfl; (with_reducible repeat (first | refine blk_drewN ?_ _ | refine blk_drew ?_ | refine blk_alloc ?_ _)); refine blk_put (cs := #[.bool false, .bool false, .bool false, .bool false, .bool false]) ?_ 0 _ rfl; (with_reducible repeat (first | refine blk_drewN ?_ _ | refine blk_drew ?_ | refine blk_alloc ?_ _)); exact BK460.out) hb); have n2_ := Aside0.mk (below_step (by repeat (first | (with_reducible first | exact HB.out | apply below_alloc | apply pw_below_drewN | apply below_drew1 | refine below_set ?_ GE453.out | refine below_set ?_ GE460.out) | exact HB.out)) hb); clear BK453; clear BK460; clear HB; have BK453 := n0_; have BK460 := n1_; have HB := n2_; clear n0_ n1_ n2_; (try clear hb); (try clear hb2); (try clear hk); (try clear hi)) | ((with_reducible refine gate_dst (N := 18) rfl ?_); refine box_event ?hg (N := 18) ?hd (cs := #[.bool false, .bool false, .bool false, .bool false, .bool false]) (t := 41) ?hr ?_; (case hd => rfl); (case hg => rfl); (case hr => first | (go_simp; done) | (go_simp; rfl)); intro gb467 hg w26 hbox hb; have n0_ := Aside0.mk (blk_below (g := gb453) (o := .cells #[.bool t448, .bool t449, .bool t450, .bool t451, .bool t452] 41 (0, 0)) (by (with_reducible repeat (first | refine blk_drewN ?_ _ | refine blk_drew ?_ | refine blk_alloc ?_ _)); exact BK453.out) hb); have n1_ := Aside0.mk (blk_below (g := gb460) (o := .cells #[.bool t455, .bool t456, .bool t457, .bool t458, .bool t459] 41 (0, 0)) (by (with_reducible repeat (first | refine blk_drewN ?_ _ | refine blk_drew ?_ | refine blk_alloc ?_ _)); exact BK460.out) hb); have n2_ := Aside0.mk (below_step (by repeat (first | (with_reducible first | exact HB.out | apply below_alloc | apply pw_below_drewN | apply below_drew1 | refine below_set ?_ GE453.out | refine below_set ?_ GE460.out) | exact HB.out)) hb); have n3_ := Aside0.mk (hbox); have n4_ := Aside0.mk ((by rw [hg]; exact (below_size (by repeat (first | (with_reducible first | exact HB.out | apply below_alloc | apply pw_below_drewN | apply below_drew1 | refine below_set ?_ GE453.out | refine below_set ?_ GE460.out) | exact HB.out))) : w.heap.size ≤ gb467)); have n5_ := Aside0.mk ((by rw [hg]; exact (below_size (by repeat (first | (with_reducible first | exact HB.out | apply below_alloc | apply pw_below_drewN | apply below_drew1 | refine below_set ?_ GE453.out | refine below_set ?_ GE460.out) | exact HB.out))) : w.heap.size ≤ gb467)); have n6_ := Aside0.mk ((by rw [hg]; exact Nat.ne_of_lt (blk_lt (g := gb453) (o := .cells #[.bool t448, .bool t449, .bool t450, .bool t451, .bool t452] 41 (0, 0)) (by (with_reducible repeat (first | refine blk_drewN ?_ _ | refine blk_drew ?_ | refine blk_alloc ?_ _)); exact BK453.out)) : gb453 ≠ gb467)); have n7_ := Aside0.mk ((by rw [hg]; exact Nat.ne_of_gt (blk_lt (g := gb453) (o := .cells #[.bool t448, .bool t449, .bool t450, .bool t451, .bool t452] 41 (0, 0)) (by (with_reducible repeat (first | refine blk_drewN ?_ _ | refine blk_drew ?_ | refine blk_alloc ?_ _)); exact BK453.out)) : gb467 ≠ gb453)); have n8_ := Aside0.mk ((by rw [hg]; exact Nat.ne_of_lt (blk_lt (g := gb460) (o := .cells #[.bool t455, .bool t456, .bool t457, .bool t458, .bool t459] 41 (0, 0)) (by (with_reducible repeat (first | refine blk_drewN ?_ _ | refine blk_drew ?_ | refine blk_alloc ?_ _)); exact BK460.out)) : gb460 ≠ gb467)); have n9_ := Aside0.mk ((by rw [hg]; exact Nat.ne_of_gt (blk_lt (g := gb460) (o := .cells #[.bool t455, .bool t456, .bool t457, .bool t458, .bool t459] 41 (0, 0)) (by (with_reducible repeat (first | refine blk_drewN ?_ _ | refine blk_drew ?_ | refine blk_alloc ?_ _)); exact BK460.out)) : gb467 ≠ gb460)); clear BK453; clear BK460; clear HB; have BK453 := n0_; have BK460 := n1_; have HB := n2_; have BK467 := n3_; have GW467 := n4_; have GE467 := n5_; have NB453_467 := n6_; have NB467_453 := n7_; have NB460_467 := n8_; have NB467_460 := n9_; clear n0_ n1_ n2_ n3_ n4_ n5_ n6_ n7_ n8_ n9_; clear hb hbox hg; have hnb27 := NB467_453.out; have hnc27 := NB453_467.out; have hnb28 := NB467_460.out; have hnc28 := NB460_467.out; have hcz29_0 : w26.cell? ⟨gb467, 0, none⟩ = some (.bool false) := (blk_cell BK467.out 0).trans rfl; have hcz29_1 : w26.cell? ⟨gb467, 1, none⟩ = some (.bool false) := (blk_cell BK467.out 1).trans rfl; have hcz29_2 : w26.cell? ⟨gb467, 2, none⟩ = some (.bool false) := (blk_cell BK467.out 2).trans rfl; have hcz29_3 : w26.cell? ⟨gb467, 3, none⟩ = some (.bool false) := (blk_cell BK467.out 3).trans rfl; have hcz29_4 : w26.cell? ⟨gb467, 4, none⟩ = some (.bool false) := (blk_cell BK467.out 4).trans rfl; have hfz29_0 := blk_frozen BK467.out 0; have hfz29_1 := blk_frozen BK467.out 1; have hfz29_2 := blk_frozen BK467.out 2; have hfz29_3 := blk_frozen BK467.out 3; have hfz29_4 := blk_frozen BK467.out 4) | ((with_reducible refine gate_callee (f := 28) rfl ?_); refine goesL_ (some 63) rfl rfl Try.func28 (by kernel_rfl) rfl #[.int .i64 t445, .int .i64 0, .int .u32 t446, .int .i64 4000] rfl (by (try simp only [List.map_toArray, List.map_cons, List.map_nil]); first | done | rfl | (simp only [List.length_drop, List.length_take]; rfl)) ?_; (with_reducible refine (whole_Scale.calls k t445 0 t446 4000 t468 t469 t470 t471 t472 t473 _ A12.out).mono ?_); rintro e w30 ⟨rfl, hb⟩; refine ⟨_, rfl, ?_⟩; have n0_ := Aside0.mk (blk_below (g := gb453) (o := .cells #[.bool t448, .bool t449, .bool t450, .bool t451, .bool t452] 41 (0, 0)) (by (with_reducible repeat (first | refine blk_drewN ?_ _ | refine blk_drew ?_ | refine blk_alloc ?_ _)); refine blk_far ?_ NB453_467.out _; (with_reducible repeat (first | refine blk_drewN ?_ _ | refine blk_drew ?_ | refine blk_alloc ?_ _)); refine blk_far ?_ NB453_467.out _; (with_reducible repeat (first | refine blk_drewN ?_ _ | refine blk_drew ?_ | refine blk_alloc ?_ _)); refine blk_far ?_ NB453_467.out _; (with_reducible repeat (first | refine blk_drewN ?_ _ | refine blk_drew ?_ | refine blk_alloc ?_ _)); refine blk_far ?_ NB453_467.out _; (with_reducible repeat (first | refine blk_drewN ?_ _ | refine blk_drew ?_ | refine blk_alloc ?_ _)); refine blk_far ?_ NB453_467.out _; (with_reducible repeat (first | refine blk_drewN ?_ _ | refine blk_drew ?_ | refine blk_alloc ?_ _)); exact BK453.out) hb); have n1_ := Aside0.mk (blk_below (g := gb460) (o := .cells #[.bool t455, .bool t456, .bool t457, .bool t458, .bool t459] 41 (0, 0)) (by (with_reducible repeat (first | refine blk_drewN ?_ _ | refine blk_drew ?_ | refine blk_alloc ?_ _)); refine blk_far ?_ NB460_467.out _; (with_reducible repeat (first | refine blk_drewN ?_ _ | refine blk_drew ?_ | refine blk_alloc ?_ _)); refine blk_far ?_ NB460_467.out _; (with_reducible repeat (first | refine blk_drewN ?_ _ | refine blk_drew ?_ | refine blk_alloc ?_ _)); refine blk_far ?_ NB460_467.out _; (with_reducible repeat (first | refine blk_drewN ?_ _ | refine blk_drew ?_ | refine blk_alloc ?_ _)); refine blk_far ?_ NB460_467.out _; (with_reducible repeat (first | refine blk_drewN ?_ _ | refine blk_drew ?_ | refine blk_alloc ?_ _)); refine blk_far ?_ NB460_467.out _; (with_reducible repeat (first | refine blk_drewN ?_ _ | refine blk_drew ?_ | refine blk_alloc ?_ _)); exact BK460.out) hb); have n2_ := Aside0.mk (blk_below (g := gb467) (o := .cells #[.bool t462, .bool t463, .bool t464, .bool t465, .bool t466] 41 (0, 0)) (by (with_reducible repeat (first | refine blk_drewN ?_ _ | refine blk_drew ?_ | refine blk_alloc ?_ _)); refine blk_put (cs := #[.bool t462, .bool t463, .bool t464, .bool t465, .bool false]) ?_ 4 _ rfl; (with_reducible repeat (first | refine blk_drewN ?_ _ | refine blk_drew ?_ | refine blk_alloc ?_ _)); refine blk_put (cs := #[.bool t462, .bool t463, .bool t464, .bool false, .bool false]) ?_ 3 _ rfl; (with_reducible repeat (first | refine blk_drewN ?_ _ | refine blk_drew ?_ | refine blk_alloc ?_ _)); refine blk_put (cs := #[.bool t462, .bool t463, .bool false, .bool false, .bool false]) ?_ 2 _ rfl; (with_reducible repeat (first | refine blk_drewN ?_ _ | refine blk_drew ?_ | refine blk_alloc ?_ _)); refine blk_put (cs := #[.bool t462, .bool false, .bool false, .bool false, .bool false]) ?_ 1 _ rfl; (with_reducible repeat (first | refine blk_drewN ?_ _ | refine blk_drew ?_ | refine blk_alloc ?_ _)); refine blk_put (cs := #[.bool false, .bool false, .bool false, .bool false, .bool false]) ?_ 0 _ rfl; (with_reducible repeat (first | refine blk_drewN ?_ _ | refine blk_drew ?_ | refine blk_alloc ?_ _)); exact BK467.out) hb); have n3_ := Aside0.mk (below_step (by repeat (first | (with_reducible first | exact HB.out | apply below_alloc | apply pw_below_drewN | apply below_drew1 | refine below_set ?_ GE453.out | refine below_set ?_ GE460.out | refine below_set ?_ GE467.out) | exact HB.out)) hb); clear BK453; clear BK460; clear BK467; clear HB; have BK453 := n0_; have BK460 := n1_; have BK467 := n2_; have HB := n3_; clear n0_ n1_ n2_ n3_; (try clear hb); (try clear hb2); (try clear hk); (try clear hi)) | ((with_reducible refine gate_dst (N := 20) rfl ?_); refine box_event ?hg (N := 20) ?hd (cs := #[.bool false, .bool false, .bool false, .bool false, .bool false]) (t := 41) ?hr ?_; (case hd => rfl); (case hg => rfl); (case hr => first | (go_simp; done) | (go_simp; rfl)); intro gb474 hg w31 hbox hb; have n0_ := Aside0.mk (blk_below (g := gb453) (o := .cells #[.bool t448, .bool t449, .bool t450, .bool t451, .bool t452] 41 (0, 0)) (by (with_reducible repeat (first | refine blk_drewN ?_ _ | refine blk_drew ?_ | refine blk_alloc ?_ _)); exact BK453.out) hb); have n1_ := Aside0.mk (blk_below (g := gb460) (o := .cells #[.bool t455, .bool t456, .bool t457, .bool t458, .bool t459] 41 (0, 0)) (by (with_reducible repeat (first | refine blk_drewN ?_ _ | refine blk_drew ?_ | refine blk_alloc ?_ _)); exact BK460.out) hb); have n2_ := Aside0.mk (blk_below (g := gb467) (o := .cells #[.bool t462, .bool t463, .bool t464, .bool t465, .bool t466] 41 (0, 0)) (by (with_reducible repeat (first | refine blk_drewN ?_ _ | refine blk_drew ?_ | refine blk_alloc ?_ _)); exact BK467.out) hb); have n3_ := Aside0.mk (below_step (by repeat (first | (with_reducible first | exact HB.out | apply below_alloc | apply pw_below_drewN | apply below_drew1 | refine below_set ?_ GE453.out | refine below_set ?_ GE460.out | refine below_set ?_ GE467.out) | exact HB.out)) hb); have n4_ := Aside0.mk (hbox); have n5_ := Aside0.mk ((by rw [hg]; exact (below_size (by repeat (first | (with_reducible first | exact HB.out | apply below_alloc | apply pw_below_drewN | apply below_drew1 | refine below_set ?_ GE453.out | refine below_set ?_ GE460.out | refine below_set ?_ GE467.out) | exact HB.out))) : w.heap.size ≤ gb474)); have n6_ := Aside0.mk ((by rw [hg]; exact (below_size (by repeat (first | (with_reducible first | exact HB.out | apply below_alloc | apply pw_below_drewN | apply below_drew1 | refine below_set ?_ GE453.out | refine below_set ?_ GE460.out | refine below_set ?_ GE467.out) | exact HB.out))) : w.heap.size ≤ gb474)); have n7_ := Aside0.mk ((by rw [hg]; exact Nat.ne_of_lt (blk_lt (g := gb453) (o := .cells #[.bool t448, .bool t449, .bool t450, .bool t451, .bool t452] 41 (0, 0)) (by (with_reducible repeat (first | refine blk_drewN ?_ _ | refine blk_drew ?_ | refine blk_alloc ?_ _)); exact BK453.out)) : gb453 ≠ gb474)); have n8_ := Aside0.mk ((by rw [hg]; exact Nat.ne_of_gt (blk_lt (g := gb453) (o := .cells #[.bool t448, .bool t449, .bool t450, .bool t451, .bool t452] 41 (0, 0)) (by (with_reducible repeat (first | refine blk_drewN ?_ _ | refine blk_drew ?_ | refine blk_alloc ?_ _)); exact BK453.out)) : gb474 ≠ gb453)); have n9_ := Aside0.mk ((by rw [hg]; exact Nat.ne_of_lt (blk_lt (g := gb460) (o := .cells #[.bool t455, .bool t456, .bool t457, .bool t458, .bool t459] 41 (0, 0)) (by (with_reducible repeat (first | refine blk_drewN ?_ _ | refine blk_drew ?_ | refine blk_alloc ?_ _)); exact BK460.out)) : gb460 ≠ gb474)); have n10_ := Aside0.mk ((by rw [hg]; exact Nat.ne_of_gt (blk_lt (g := gb460) (o := .cells #[.bool t455, .bool t456, .bool t457, .bool t458, .bool t459] 41 (0, 0)) (by (with_reducible repeat (first | refine blk_drewN ?_ _ | refine blk_drew ?_ | refine blk_alloc ?_ _)); exact BK460.out)) : gb474 ≠ gb460)); have n11_ := Aside0.mk ((by rw [hg]; exact Nat.ne_of_lt (blk_lt (g := gb467) (o := .cells #[.bool t462, .bool t463, .bool t464, .bool t465, .bool t466] 41 (0, 0)) (by (with_reducible repeat (first | refine blk_drewN ?_ _ | refine blk_drew ?_ | refine blk_alloc ?_ _)); exact BK467.out)) : gb467 ≠ gb474)); have n12_ := Aside0.mk ((by rw [hg]; exact Nat.ne_of_gt (blk_lt (g := gb467) (o := .cells #[.bool t462, .bool t463, .bool t464, .bool t465, .bool t466] 41 (0, 0)) (by (with_reducible repeat (first | refine blk_drewN ?_ _ | refine blk_drew ?_ | refine blk_alloc ?_ _)); exact BK467.out)) : gb474 ≠ gb467)); clear BK453; clear BK460; clear BK467; clear HB; have BK453 := n0_; have BK460 := n1_; have BK467 := n2_; have HB := n3_; have BK474 := n4_; have GW474 := n5_; have GE474 := n6_; have NB453_474 := n7_; have NB474_453 := n8_; have NB460_474 := n9_; have NB474_460 := n10_; have NB467_474 := n11_; have NB474_467 := n12_; clear n0_ n1_ n2_ n3_ n4_ n5_ n6_ n7_ n8_ n9_ n10_ n11_ n12_; clear hb hbox hg; have hnb32 := NB474_453.out; have hnc32 := NB453_474.out; have hnb33 := NB474_460.out; have hnc33 := NB460_474.out; have hnb34 := NB474_467.out; have hnc34 := NB467_474.out; have hcz35_0 : w31.cell? ⟨gb474, 0, none⟩ = some (.bool false) := (blk_cell BK474.out 0).trans rfl; have hcz35_1 : w31.cell? ⟨gb474, 1, none⟩ = some (.bool false) := (blk_cell BK474.out 1).trans rfl; have hcz35_2 : w31.cell? ⟨gb474, 2, none⟩ = some (.bool false) := (blk_cell BK474.out 2).trans rfl; have hcz35_3 : w31.cell? ⟨gb474, 3, none⟩ = some (.bool false) := (blk_cell BK474.out 3).trans rfl; have hcz35_4 : w31.cell? ⟨gb474, 4, none⟩ = some (.bool false) := (blk_cell BK474.out 4).trans rfl; have hfz35_0 := blk_frozen BK474.out 0; have hfz35_1 := blk_frozen BK474.out 1; have hfz35_2 := blk_frozen BK474.out 2; have hfz35_3 := blk_frozen BK474.out 3; have hfz35_4 := blk_frozen BK474.out 4) | ((with_reducible refine gate_callee (f := 28) rfl ?_); refine goesL_ (some 69) rfl rfl Try.func28 (by kernel_rfl) rfl #[.int .i64 t445, .int .i64 0, .int .u32 t446, .int .i64 (-4000)] rfl (by (try simp only [List.map_toArray, List.map_cons, List.map_nil]); first | done | rfl | (simp only [List.length_drop, List.length_take]; rfl)) ?_; (with_reducible refine (whole_Scale.calls k t445 0 t446 (-4000) t475 t476 t477 t478 t479 t480 _ A13.out).mono ?_); rintro e w36 ⟨rfl, hb⟩; refine ⟨_, rfl, ?_⟩; have n0_ := Aside0.mk (blk_below (g := gb453) (o := .cells #[.bool t448, .bool t449, .bool t450, .bool t451, .bool t452] 41 (0, 0)) (by (with_reducible repeat (first | refine blk_drewN ?_ _ | refine blk_drew ?_ | refine blk_alloc ?_ _)); refine blk_far ?_ NB453_474.out _; (with_reducible repeat (first | refine blk_drewN ?_ _ | refine blk_drew ?_ | refine blk_alloc ?_ _)); refine blk_far ?_ NB453_474.out _; (with_reducible repeat (first | refine blk_drewN ?_ _ | refine blk_drew ?_ | refine blk_alloc ?_ _)); refine blk_far ?_ NB453_474.out _; (with_reducible repeat (first | refine blk_drewN ?_ _ | refine blk_drew ?_ | refine blk_alloc ?_ _)); refine blk_far ?_ NB453_474.out _; (with_reducible repeat (first | refine blk_drewN ?_ _ | refine blk_drew ?_ | refine blk_alloc ?_ _)); refine blk_far ?_ NB453_474.out _; (with_reducible repeat (first | refine blk_drewN ?_ _ | refine blk_drew ?_ | refine blk_alloc ?_ _)); exact BK453.out) hb); have n1_ := Aside0.mk (blk_below (g := gb460) (o := .cells #[.bool t455, .bool t456, .bool t457, .bool t458, .bool t459] 41 (0, 0)) (by (with_reducible repeat (first | refine blk_drewN ?_ _ | refine blk_drew ?_ | refine blk_alloc ?_ _)); refine blk_far ?_ NB460_474.out _; (with_reducible repeat (first | refine blk_drewN ?_ _ | refine blk_drew ?_ | refine blk_alloc ?_ _)); refine blk_far ?_ NB460_474.out _; (with_reducible repeat (first | refine blk_drewN ?_ _ | refine blk_drew ?_ | refine blk_alloc ?_ _)); refine blk_far ?_ NB460_474.out _; (with_reducible repeat (first | refine blk_drewN ?_ _ | refine blk_drew ?_ | refine blk_alloc ?_ _)); refine blk_far ?_ NB460_474.out _; (with_reducible repeat (first | refine blk_drewN ?_ _ | refine blk_drew ?_ | refine blk_alloc ?_ _)); refine blk_far ?_ NB460_474.out _; (with_reducible repeat (first | refine blk_drewN ?_ _ | refine blk_drew ?_ | refine blk_alloc ?_ _)); exact BK460.out) hb); have n2_ := Aside0.mk (blk_below (g := gb467) (o := .cells #[.bool t462, .bool t463, .bool t464, .bool t465, .bool t466] 41 (0, 0)) (by (with_reducible repeat (first | refine blk_drewN ?_ _ | refine blk_drew ?_ | refine blk_alloc ?_ _)); refine blk_far ?_ NB467_474.out _; (with_reducible repeat (first | refine blk_drewN ?_ _ | refine blk_drew ?_ | refine blk_alloc ?_ _)); refine blk_far ?_ NB467_474.out _; (with_reducible repeat (first | refine blk_drewN ?_ _ | refine blk_drew ?_ | refine blk_alloc ?_ _)); refine blk_far ?_ NB467_474.out _; (with_reducible repeat (first | refine blk_drewN ?_ _ | refine blk_drew ?_ | refine blk_alloc ?_ _)); refine blk_far ?_ NB467_474.out _; (with_reducible repeat (first | refine blk_drewN ?_ _ | refine blk_drew ?_ | refine blk_alloc ?_ _)); refine blk_far ?_ NB467_474.out _; (with_reducible repeat (first | refine blk_drewN ?_ _ | refine blk_drew ?_ | refine blk_alloc ?_ _)); exact BK467.out) hb); have n3_ := Aside0.mk (blk_below (g := gb474) (o := .cells #[.bool t469, .bool t470, .bool t471, .bool t472, .bool t473] 41 (0, 0)) (by (with_reducible repeat (first | refine blk_drewN ?_ _ | refine blk_drew ?_ | refine blk_alloc ?_ _)); refine blk_put (cs := #[.bool t469, .bool t470, .bool t471, .bool t472, .bool false]) ?_ 4 _ rfl; (with_reducible repeat (first | refine blk_drewN ?_ _ | refine blk_drew ?_ | refine blk_alloc ?_ _)); refine blk_put (cs := #[.bool t469, .bool t470, .bool t471, .bool false, .bool false]) ?_ 3 _ rfl; (with_reducible repeat (first | refine blk_drewN ?_ _ | refine blk_drew ?_ | refine blk_alloc ?_ _)); refine blk_put (cs := #[.bool t469, .bool t470, .bool false, .bool false, .bool false]) ?_ 2 _ rfl; (with_reducible repeat (first | refine blk_drewN ?_ _ | refine blk_drew ?_ | refine blk_alloc ?_ _)); refine blk_put (cs := #[.bool t469, .bool false, .bool false, .bool false, .bool false]) ?_ 1 _ rfl; (with_reducible repeat (first | refine blk_drewN ?_ _ | refine blk_drew ?_ | refine blk_alloc ?_ _)); refine blk_put (cs := #[.bool false, .bool false, .bool false, .bool false, .bool false]) ?_ 0 _ rfl; (with_reducible repeat (first | refine blk_drewN ?_ _ | refine blk_drew ?_ | refine blk_alloc ?_ _)); exact BK474.out) hb); have n4_ := Aside0.mk (below_step (by repeat (first | (with_reducible first | exact HB.out | apply below_alloc | apply pw_below_drewN | apply below_drew1 | refine below_set ?_ GE453.out | refine below_set ?_ GE460.out | refine below_set ?_ GE467.out | refine below_set ?_ GE474.out) | exact HB.out)) hb); clear BK453; clear BK460; clear BK467; clear BK474; clear HB; have BK453 := n0_; have BK460 := n1_; have BK467 := n2_; have BK474 := n3_; have HB := n4_; clear n0_ n1_ n2_ n3_ n4_; (try clear hb); (try clear hb2); (try clear hk); (try clear hi)) | ((with_reducible refine gate_dst (N := 22) rfl ?_); refine box_event ?hg (N := 22) ?hd (cs := #[.bool false, .bool false, .bool false, .bool false, .bool false]) (t := 41) ?hr ?_; (case hd => rfl); (case hg => rfl); (case hr => first | (go_simp; done) | (go_simp; rfl)); intro gb481 hg w37 hbox hb; have n0_ := Aside0.mk (blk_below (g := gb453) (o := .cells #[.bool t448, .bool t449, .bool t450, .bool t451, .bool t452] 41 (0, 0)) (by (with_reducible repeat (first | refine blk_drewN ?_ _ | refine blk_drew ?_ | refine blk_alloc ?_ _)); exact BK453.out) hb); have n1_ := Aside0.mk (blk_below (g := gb460) (o := .cells #[.bool t455, .bool t456, .bool t457, .bool t458, .bool t459] 41 (0, 0)) (by (with_reducible repeat (first | refine blk_drewN ?_ _ | refine blk_drew ?_ | refine blk_alloc ?_ _)); exact BK460.out) hb); have n2_ := Aside0.mk (blk_below (g := gb467) (o := .cells #[.bool t462, .bool t463, .bool t464, .bool t465, .bool t466] 41 (0, 0)) (by (with_reducible repeat (first | refine blk_drewN ?_ _ | refine blk_drew ?_ | refine blk_alloc ?_ _)); exact BK467.out) hb); have n3_ := Aside0.mk (blk_below (g := gb474) (o := .cells #[.bool t469, .bool t470, .bool t471, .bool t472, .bool t473] 41 (0, 0)) (by (with_reducible repeat (first | refine blk_drewN ?_ _ | refine blk_drew ?_ | refine blk_alloc ?_ _)); exact BK474.out) hb); have n4_ := Aside0.mk (below_step (by repeat (first | (with_reducible first | exact HB.out | apply below_alloc | apply pw_below_drewN | apply below_drew1 | refine below_set ?_ GE453.out | refine below_set ?_ GE460.out | refine below_set ?_ GE467.out | refine below_set ?_ GE474.out) | exact HB.out)) hb); have n5_ := Aside0.mk (hbox); have n6_ := Aside0.mk ((by rw [hg]; exact (below_size (by repeat (first | (with_reducible first | exact HB.out | apply below_alloc | apply pw_below_drewN | apply below_drew1 | refine below_set ?_ GE453.out | refine below_set ?_ GE460.out | refine below_set ?_ GE467.out | refine below_set ?_ GE474.out) | exact HB.out))) : w.heap.size ≤ gb481)); have n7_ := Aside0.mk ((by rw [hg]; exact (below_size (by repeat (first | (with_reducible first | exact HB.out | apply below_alloc | apply pw_below_drewN | apply below_drew1 | refine below_set ?_ GE453.out | refine below_set ?_ GE460.out | refine below_set ?_ GE467.out | refine below_set ?_ GE474.out) | exact HB.out))) : w.heap.size ≤ gb481)); have n8_ := Aside0.mk ((by rw [hg]; exact Nat.ne_of_lt (blk_lt (g := gb453) (o := .cells #[.bool t448, .bool t449, .bool t450, .bool t451, .bool t452] 41 (0, 0)) (by (with_reducible repeat (first | refine blk_drewN ?_ _ | refine blk_drew ?_ | refine blk_alloc ?_ _)); exact BK453.out)) : gb453 ≠ gb481)); have n9_ := Aside0.mk ((by rw [hg]; exact Nat.ne_of_gt (blk_lt (g := gb453) (o := .cells #[.bool t448, .bool t449, .bool t450, .bool t451, .bool t452] 41 (0, 0)) (by (with_reducible repeat (first | refine blk_drewN ?_ _ | refine blk_drew ?_ | refine blk_alloc ?_ _)); exact BK453.out)) : gb481 ≠ gb453)); have n10_ := Aside0.mk ((by rw [hg]; exact Nat.ne_of_lt (blk_lt (g := gb460) (o := .cells #[.bool t455, .bool t456, .bool t457, .bool t458, .bool t459] 41 (0, 0)) (by (with_reducible repeat (first | refine blk_drewN ?_ _ | refine blk_drew ?_ | refine blk_alloc ?_ _)); exact BK460.out)) : gb460 ≠ gb481)); have n11_ := Aside0.mk ((by rw [hg]; exact Nat.ne_of_gt (blk_lt (g := gb460) (o := .cells #[.bool t455, .bool t456, .bool t457, .bool t458, .bool t459] 41 (0, 0)) (by (with_reducible repeat (first | refine blk_drewN ?_ _ | refine blk_drew ?_ | refine blk_alloc ?_ _)); exact BK460.out)) : gb481 ≠ gb460)); have n12_ := Aside0.mk ((by rw [hg]; exact Nat.ne_of_lt (blk_lt (g := gb467) (o := .cells #[.bool t462, .bool t463, .bool t464, .bool t465, .bool t466] 41 (0, 0)) (by (with_reducible repeat (first | refine blk_drewN ?_ _ | refine blk_drew ?_ | refine blk_alloc ?_ _)); exact BK467.out)) : gb467 ≠ gb481)); have n13_ := Aside0.mk ((by rw [hg]; exact Nat.ne_of_gt (blk_lt (g := gb467) (o := .cells #[.bool t462, .bool t463, .bool t464, .bool t465, .bool t466] 41 (0, 0)) (by (with_reducible repeat (first | refine blk_drewN ?_ _ | refine blk_drew ?_ | refine blk_alloc ?_ _)); exact BK467.out)) : gb481 ≠ gb467)); have n14_ := Aside0.mk ((by rw [hg]; exact Nat.ne_of_lt (blk_lt (g := gb474) (o := .cells #[.bool t469, .bool t470, .bool t471, .bool t472, .bool t473] 41 (0, 0)) (by (with_reducible repeat (first | refine blk_drewN ?_ _ | refine blk_drew ?_ | refine blk_alloc ?_ _)); exact BK474.out)) : gb474 ≠ gb481)); have n15_ := Aside0.mk ((by rw [hg]; exact Nat.ne_of_gt (blk_lt (g := gb474) (o := .cells #[.bool t469, .bool t470, .bool t471, .bool t472, .bool t473] 41 (0, 0)) (by (with_reducible repeat (first | refine blk_drewN ?_ _ | refine blk_drew ?_ | refine blk_alloc ?_ _)); exact BK474.out)) : gb481 ≠ gb474)); clear BK453; clear BK460; clear BK467; clear BK474; clear HB; have BK453 := n0_; have BK460 := n1_; have BK467 := n2_; have BK474 := n3_; have HB := n4_; have BK481 := n5_; have GW481 := n6_; have GE481 := n7_; have NB453_481 := n8_; have NB481_453 := n9_; have NB460_481 := n10_; have NB481_460 := n11_; have NB467_481 := n12_; have NB481_467 := n13_; have NB474_481 := n14_; have NB481_474 := n15_; clear n0_ n1_ n2_ n3_ n4_ n5_ n6_ n7_ n8_ n9_ n10_ n11_ n12_ n13_ n14_ n15_; clear hb hbox hg; have hnb38 := NB481_453.out; have hnc38 := NB453_481.out; have hnb39 := NB481_460.out; have hnc39 := NB460_481.out; have hnb40 := NB481_467.out; have hnc40 := NB467_481.out; have hnb41 := NB481_474.out; have hnc41 := NB474_481.out; have hcz42_0 : w37.cell? ⟨gb481, 0, none⟩ = some (.bool false) := (blk_cell BK481.out 0).trans rfl; have hcz42_1 : w37.cell? ⟨gb481, 1, none⟩ = some (.bool false) := (blk_cell BK481.out 1).trans rfl; have hcz42_2 : w37.cell? ⟨gb481, 2, none⟩ = some (.bool false) := (blk_cell BK481.out 2).trans rfl; have hcz42_3 : w37.cell? ⟨gb481, 3, none⟩ = some (.bool false) := (blk_cell BK481.out 3).trans rfl; have hcz42_4 : w37.cell? ⟨gb481, 4, none⟩ = some (.bool false) := (blk_cell BK481.out 4).trans rfl; have hfz42_0 := blk_frozen BK481.out 0; have hfz42_1 := blk_frozen BK481.out 1; have hfz42_2 := blk_frozen BK481.out 2; have hfz42_3 := blk_frozen BK481.out 3; have hfz42_4 := blk_frozen BK481.out 4))
      (try simp only [Act.put, List.setIfInBounds_toArray, List.set_cons_zero, List.set_cons_succ])
      go_cut [8] (fun v8 wc => ∃ (kq : Nat) (x8_14 : Bool), v8 = .bool x8_14 ∧ Aside0 (anneallaw8_WholeScales.j0 kq x8_14 = some r) ∧ Aside0 (kq ≤ k) ∧ Aside0 (wc.heap[gb453]? = some (.cells #[.bool t448, .bool t449, .bool t450, .bool t451, .bool t452] 41 (0, 0))) ∧ Aside0 (wc.heap[gb460]? = some (.cells #[.bool t455, .bool t456, .bool t457, .bool t458, .bool t459] 41 (0, 0))) ∧ Aside0 (wc.heap[gb467]? = some (.cells #[.bool t462, .bool t463, .bool t464, .bool t465, .bool t466] 41 (0, 0))) ∧ Aside0 (wc.heap[gb474]? = some (.cells #[.bool t469, .bool t470, .bool t471, .bool t472, .bool t473] 41 (0, 0))) ∧ Aside0 (wc.heap[gb481]? = some (.cells #[.bool t476, .bool t477, .bool t478, .bool t479, .bool t480] 41 (0, 0))) ∧ Aside0 (Below w.heap.size w wc))
      case first =>
        have H := HC15.out
        clear HC15
        by_cases c43 : t454 = 0
        · rw [if_pos c43] at H
          have c43b0 : (t454 == 0) = true := beq_iff_eq.mpr c43
          have c43b1 : (t454 != 0) = false := bne_eq_false_iff_eq.mpr c43
          clear c43
          (first | rw [c43b0] | (simp only [i64_w, i32_w]; rw [c43b0]) | skip)
          by_cases c44 : t468 = 0
          · rw [if_pos c44] at H
            have c44b0 : (t468 == 0) = true := beq_iff_eq.mpr c44
            have c44b1 : (t468 != 0) = false := bne_eq_false_iff_eq.mpr c44
            clear c44
            have H' := Aside0.mk H
            clear H
            go_wp2
            go_meet
            case rel => exact ⟨_, ((t475 == 0)), (by first | rfl | (simp; done) | (simp [*]; done) | (congr 1; (try unfold wrap64); omega) | (congr 1; rw [IntKind.wrap_u64]; omega)), H', ⟨by first | omega | exact Nat.le_refl _⟩, ⟨by (with_reducible repeat (first | refine blk_drewN ?_ _ | refine blk_drew ?_ | refine blk_alloc ?_ _)); refine blk_far ?_ NB453_481.out _; (with_reducible repeat (first | refine blk_drewN ?_ _ | refine blk_drew ?_ | refine blk_alloc ?_ _)); refine blk_far ?_ NB453_481.out _; (with_reducible repeat (first | refine blk_drewN ?_ _ | refine blk_drew ?_ | refine blk_alloc ?_ _)); refine blk_far ?_ NB453_481.out _; (with_reducible repeat (first | refine blk_drewN ?_ _ | refine blk_drew ?_ | refine blk_alloc ?_ _)); refine blk_far ?_ NB453_481.out _; (with_reducible repeat (first | refine blk_drewN ?_ _ | refine blk_drew ?_ | refine blk_alloc ?_ _)); refine blk_far ?_ NB453_481.out _; (with_reducible repeat (first | refine blk_drewN ?_ _ | refine blk_drew ?_ | refine blk_alloc ?_ _)); exact BK453.out⟩, ⟨by (with_reducible repeat (first | refine blk_drewN ?_ _ | refine blk_drew ?_ | refine blk_alloc ?_ _)); refine blk_far ?_ NB460_481.out _; (with_reducible repeat (first | refine blk_drewN ?_ _ | refine blk_drew ?_ | refine blk_alloc ?_ _)); refine blk_far ?_ NB460_481.out _; (with_reducible repeat (first | refine blk_drewN ?_ _ | refine blk_drew ?_ | refine blk_alloc ?_ _)); refine blk_far ?_ NB460_481.out _; (with_reducible repeat (first | refine blk_drewN ?_ _ | refine blk_drew ?_ | refine blk_alloc ?_ _)); refine blk_far ?_ NB460_481.out _; (with_reducible repeat (first | refine blk_drewN ?_ _ | refine blk_drew ?_ | refine blk_alloc ?_ _)); refine blk_far ?_ NB460_481.out _; (with_reducible repeat (first | refine blk_drewN ?_ _ | refine blk_drew ?_ | refine blk_alloc ?_ _)); exact BK460.out⟩, ⟨by (with_reducible repeat (first | refine blk_drewN ?_ _ | refine blk_drew ?_ | refine blk_alloc ?_ _)); refine blk_far ?_ NB467_481.out _; (with_reducible repeat (first | refine blk_drewN ?_ _ | refine blk_drew ?_ | refine blk_alloc ?_ _)); refine blk_far ?_ NB467_481.out _; (with_reducible repeat (first | refine blk_drewN ?_ _ | refine blk_drew ?_ | refine blk_alloc ?_ _)); refine blk_far ?_ NB467_481.out _; (with_reducible repeat (first | refine blk_drewN ?_ _ | refine blk_drew ?_ | refine blk_alloc ?_ _)); refine blk_far ?_ NB467_481.out _; (with_reducible repeat (first | refine blk_drewN ?_ _ | refine blk_drew ?_ | refine blk_alloc ?_ _)); refine blk_far ?_ NB467_481.out _; (with_reducible repeat (first | refine blk_drewN ?_ _ | refine blk_drew ?_ | refine blk_alloc ?_ _)); exact BK467.out⟩, ⟨by (with_reducible repeat (first | refine blk_drewN ?_ _ | refine blk_drew ?_ | refine blk_alloc ?_ _)); refine blk_far ?_ NB474_481.out _; (with_reducible repeat (first | refine blk_drewN ?_ _ | refine blk_drew ?_ | refine blk_alloc ?_ _)); refine blk_far ?_ NB474_481.out _; (with_reducible repeat (first | refine blk_drewN ?_ _ | refine blk_drew ?_ | refine blk_alloc ?_ _)); refine blk_far ?_ NB474_481.out _; (with_reducible repeat (first | refine blk_drewN ?_ _ | refine blk_drew ?_ | refine blk_alloc ?_ _)); refine blk_far ?_ NB474_481.out _; (with_reducible repeat (first | refine blk_drewN ?_ _ | refine blk_drew ?_ | refine blk_alloc ?_ _)); refine blk_far ?_ NB474_481.out _; (with_reducible repeat (first | refine blk_drewN ?_ _ | refine blk_drew ?_ | refine blk_alloc ?_ _)); exact BK474.out⟩, ⟨by (with_reducible repeat (first | refine blk_drewN ?_ _ | refine blk_drew ?_ | refine blk_alloc ?_ _)); refine blk_put (cs := #[.bool t476, .bool t477, .bool t478, .bool t479, .bool false]) ?_ 4 _ rfl; (with_reducible repeat (first | refine blk_drewN ?_ _ | refine blk_drew ?_ | refine blk_alloc ?_ _)); refine blk_put (cs := #[.bool t476, .bool t477, .bool t478, .bool false, .bool false]) ?_ 3 _ rfl; (with_reducible repeat (first | refine blk_drewN ?_ _ | refine blk_drew ?_ | refine blk_alloc ?_ _)); refine blk_put (cs := #[.bool t476, .bool t477, .bool false, .bool false, .bool false]) ?_ 2 _ rfl; (with_reducible repeat (first | refine blk_drewN ?_ _ | refine blk_drew ?_ | refine blk_alloc ?_ _)); refine blk_put (cs := #[.bool t476, .bool false, .bool false, .bool false, .bool false]) ?_ 1 _ rfl; (with_reducible repeat (first | refine blk_drewN ?_ _ | refine blk_drew ?_ | refine blk_alloc ?_ _)); refine blk_put (cs := #[.bool false, .bool false, .bool false, .bool false, .bool false]) ?_ 0 _ rfl; (with_reducible repeat (first | refine blk_drewN ?_ _ | refine blk_drew ?_ | refine blk_alloc ?_ _)); exact BK481.out⟩, ⟨by repeat (first | (with_reducible first | exact HB.out | apply below_alloc | apply pw_below_drewN | apply below_drew1 | refine below_set ?_ GE453.out | refine below_set ?_ GE460.out | refine below_set ?_ GE467.out | refine below_set ?_ GE474.out | refine below_set ?_ GE481.out) | exact HB.out)⟩⟩
          · rw [if_neg c44] at H
            have c44b0 : (t468 == 0) = false := beq_eq_false_iff_ne.mpr c44
            have c44b1 : (t468 != 0) = true := bne_iff_ne.mpr c44
            have H' := Aside0.mk H
            clear H
            go_wp2
            go_meet
            case rel => exact ⟨_, (false), (by first | rfl | (simp; done) | (simp [*]; done) | (congr 1; (try unfold wrap64); omega) | (congr 1; rw [IntKind.wrap_u64]; omega)), H', ⟨by first | omega | exact Nat.le_refl _⟩, ⟨by (with_reducible repeat (first | refine blk_drewN ?_ _ | refine blk_drew ?_ | refine blk_alloc ?_ _)); refine blk_far ?_ NB453_481.out _; (with_reducible repeat (first | refine blk_drewN ?_ _ | refine blk_drew ?_ | refine blk_alloc ?_ _)); refine blk_far ?_ NB453_481.out _; (with_reducible repeat (first | refine blk_drewN ?_ _ | refine blk_drew ?_ | refine blk_alloc ?_ _)); refine blk_far ?_ NB453_481.out _; (with_reducible repeat (first | refine blk_drewN ?_ _ | refine blk_drew ?_ | refine blk_alloc ?_ _)); refine blk_far ?_ NB453_481.out _; (with_reducible repeat (first | refine blk_drewN ?_ _ | refine blk_drew ?_ | refine blk_alloc ?_ _)); refine blk_far ?_ NB453_481.out _; (with_reducible repeat (first | refine blk_drewN ?_ _ | refine blk_drew ?_ | refine blk_alloc ?_ _)); exact BK453.out⟩, ⟨by (with_reducible repeat (first | refine blk_drewN ?_ _ | refine blk_drew ?_ | refine blk_alloc ?_ _)); refine blk_far ?_ NB460_481.out _; (with_reducible repeat (first | refine blk_drewN ?_ _ | refine blk_drew ?_ | refine blk_alloc ?_ _)); refine blk_far ?_ NB460_481.out _; (with_reducible repeat (first | refine blk_drewN ?_ _ | refine blk_drew ?_ | refine blk_alloc ?_ _)); refine blk_far ?_ NB460_481.out _; (with_reducible repeat (first | refine blk_drewN ?_ _ | refine blk_drew ?_ | refine blk_alloc ?_ _)); refine blk_far ?_ NB460_481.out _; (with_reducible repeat (first | refine blk_drewN ?_ _ | refine blk_drew ?_ | refine blk_alloc ?_ _)); refine blk_far ?_ NB460_481.out _; (with_reducible repeat (first | refine blk_drewN ?_ _ | refine blk_drew ?_ | refine blk_alloc ?_ _)); exact BK460.out⟩, ⟨by (with_reducible repeat (first | refine blk_drewN ?_ _ | refine blk_drew ?_ | refine blk_alloc ?_ _)); refine blk_far ?_ NB467_481.out _; (with_reducible repeat (first | refine blk_drewN ?_ _ | refine blk_drew ?_ | refine blk_alloc ?_ _)); refine blk_far ?_ NB467_481.out _; (with_reducible repeat (first | refine blk_drewN ?_ _ | refine blk_drew ?_ | refine blk_alloc ?_ _)); refine blk_far ?_ NB467_481.out _; (with_reducible repeat (first | refine blk_drewN ?_ _ | refine blk_drew ?_ | refine blk_alloc ?_ _)); refine blk_far ?_ NB467_481.out _; (with_reducible repeat (first | refine blk_drewN ?_ _ | refine blk_drew ?_ | refine blk_alloc ?_ _)); refine blk_far ?_ NB467_481.out _; (with_reducible repeat (first | refine blk_drewN ?_ _ | refine blk_drew ?_ | refine blk_alloc ?_ _)); exact BK467.out⟩, ⟨by (with_reducible repeat (first | refine blk_drewN ?_ _ | refine blk_drew ?_ | refine blk_alloc ?_ _)); refine blk_far ?_ NB474_481.out _; (with_reducible repeat (first | refine blk_drewN ?_ _ | refine blk_drew ?_ | refine blk_alloc ?_ _)); refine blk_far ?_ NB474_481.out _; (with_reducible repeat (first | refine blk_drewN ?_ _ | refine blk_drew ?_ | refine blk_alloc ?_ _)); refine blk_far ?_ NB474_481.out _; (with_reducible repeat (first | refine blk_drewN ?_ _ | refine blk_drew ?_ | refine blk_alloc ?_ _)); refine blk_far ?_ NB474_481.out _; (with_reducible repeat (first | refine blk_drewN ?_ _ | refine blk_drew ?_ | refine blk_alloc ?_ _)); refine blk_far ?_ NB474_481.out _; (with_reducible repeat (first | refine blk_drewN ?_ _ | refine blk_drew ?_ | refine blk_alloc ?_ _)); exact BK474.out⟩, ⟨by (with_reducible repeat (first | refine blk_drewN ?_ _ | refine blk_drew ?_ | refine blk_alloc ?_ _)); refine blk_put (cs := #[.bool t476, .bool t477, .bool t478, .bool t479, .bool false]) ?_ 4 _ rfl; (with_reducible repeat (first | refine blk_drewN ?_ _ | refine blk_drew ?_ | refine blk_alloc ?_ _)); refine blk_put (cs := #[.bool t476, .bool t477, .bool t478, .bool false, .bool false]) ?_ 3 _ rfl; (with_reducible repeat (first | refine blk_drewN ?_ _ | refine blk_drew ?_ | refine blk_alloc ?_ _)); refine blk_put (cs := #[.bool t476, .bool t477, .bool false, .bool false, .bool false]) ?_ 2 _ rfl; (with_reducible repeat (first | refine blk_drewN ?_ _ | refine blk_drew ?_ | refine blk_alloc ?_ _)); refine blk_put (cs := #[.bool t476, .bool false, .bool false, .bool false, .bool false]) ?_ 1 _ rfl; (with_reducible repeat (first | refine blk_drewN ?_ _ | refine blk_drew ?_ | refine blk_alloc ?_ _)); refine blk_put (cs := #[.bool false, .bool false, .bool false, .bool false, .bool false]) ?_ 0 _ rfl; (with_reducible repeat (first | refine blk_drewN ?_ _ | refine blk_drew ?_ | refine blk_alloc ?_ _)); exact BK481.out⟩, ⟨by repeat (first | (with_reducible first | exact HB.out | apply below_alloc | apply pw_below_drewN | apply below_drew1 | refine below_set ?_ GE453.out | refine below_set ?_ GE460.out | refine below_set ?_ GE467.out | refine below_set ?_ GE474.out | refine below_set ?_ GE481.out) | exact HB.out)⟩⟩
        · rw [if_neg c43] at H
          have c43b0 : (t454 == 0) = false := beq_eq_false_iff_ne.mpr c43
          have c43b1 : (t454 != 0) = true := bne_iff_ne.mpr c43
          (first | rw [c43b0] | (simp only [i64_w, i32_w]; rw [c43b0]) | skip)
          have H' := Aside0.mk H
          clear H
          go_wp2
          go_meet
          case rel => exact ⟨_, (false), (by first | rfl | (simp; done) | (simp [*]; done) | (congr 1; (try unfold wrap64); omega) | (congr 1; rw [IntKind.wrap_u64]; omega)), H', ⟨by first | omega | exact Nat.le_refl _⟩, ⟨by (with_reducible repeat (first | refine blk_drewN ?_ _ | refine blk_drew ?_ | refine blk_alloc ?_ _)); refine blk_far ?_ NB453_481.out _; (with_reducible repeat (first | refine blk_drewN ?_ _ | refine blk_drew ?_ | refine blk_alloc ?_ _)); refine blk_far ?_ NB453_481.out _; (with_reducible repeat (first | refine blk_drewN ?_ _ | refine blk_drew ?_ | refine blk_alloc ?_ _)); refine blk_far ?_ NB453_481.out _; (with_reducible repeat (first | refine blk_drewN ?_ _ | refine blk_drew ?_ | refine blk_alloc ?_ _)); refine blk_far ?_ NB453_481.out _; (with_reducible repeat (first | refine blk_drewN ?_ _ | refine blk_drew ?_ | refine blk_alloc ?_ _)); refine blk_far ?_ NB453_481.out _; (with_reducible repeat (first | refine blk_drewN ?_ _ | refine blk_drew ?_ | refine blk_alloc ?_ _)); exact BK453.out⟩, ⟨by (with_reducible repeat (first | refine blk_drewN ?_ _ | refine blk_drew ?_ | refine blk_alloc ?_ _)); refine blk_far ?_ NB460_481.out _; (with_reducible repeat (first | refine blk_drewN ?_ _ | refine blk_drew ?_ | refine blk_alloc ?_ _)); refine blk_far ?_ NB460_481.out _; (with_reducible repeat (first | refine blk_drewN ?_ _ | refine blk_drew ?_ | refine blk_alloc ?_ _)); refine blk_far ?_ NB460_481.out _; (with_reducible repeat (first | refine blk_drewN ?_ _ | refine blk_drew ?_ | refine blk_alloc ?_ _)); refine blk_far ?_ NB460_481.out _; (with_reducible repeat (first | refine blk_drewN ?_ _ | refine blk_drew ?_ | refine blk_alloc ?_ _)); refine blk_far ?_ NB460_481.out _; (with_reducible repeat (first | refine blk_drewN ?_ _ | refine blk_drew ?_ | refine blk_alloc ?_ _)); exact BK460.out⟩, ⟨by (with_reducible repeat (first | refine blk_drewN ?_ _ | refine blk_drew ?_ | refine blk_alloc ?_ _)); refine blk_far ?_ NB467_481.out _; (with_reducible repeat (first | refine blk_drewN ?_ _ | refine blk_drew ?_ | refine blk_alloc ?_ _)); refine blk_far ?_ NB467_481.out _; (with_reducible repeat (first | refine blk_drewN ?_ _ | refine blk_drew ?_ | refine blk_alloc ?_ _)); refine blk_far ?_ NB467_481.out _; (with_reducible repeat (first | refine blk_drewN ?_ _ | refine blk_drew ?_ | refine blk_alloc ?_ _)); refine blk_far ?_ NB467_481.out _; (with_reducible repeat (first | refine blk_drewN ?_ _ | refine blk_drew ?_ | refine blk_alloc ?_ _)); refine blk_far ?_ NB467_481.out _; (with_reducible repeat (first | refine blk_drewN ?_ _ | refine blk_drew ?_ | refine blk_alloc ?_ _)); exact BK467.out⟩, ⟨by (with_reducible repeat (first | refine blk_drewN ?_ _ | refine blk_drew ?_ | refine blk_alloc ?_ _)); refine blk_far ?_ NB474_481.out _; (with_reducible repeat (first | refine blk_drewN ?_ _ | refine blk_drew ?_ | refine blk_alloc ?_ _)); refine blk_far ?_ NB474_481.out _; (with_reducible repeat (first | refine blk_drewN ?_ _ | refine blk_drew ?_ | refine blk_alloc ?_ _)); refine blk_far ?_ NB474_481.out _; (with_reducible repeat (first | refine blk_drewN ?_ _ | refine blk_drew ?_ | refine blk_alloc ?_ _)); refine blk_far ?_ NB474_481.out _; (with_reducible repeat (first | refine blk_drewN ?_ _ | refine blk_drew ?_ | refine blk_alloc ?_ _)); refine blk_far ?_ NB474_481.out _; (with_reducible repeat (first | refine blk_drewN ?_ _ | refine blk_drew ?_ | refine blk_alloc ?_ _)); exact BK474.out⟩, ⟨by (with_reducible repeat (first | refine blk_drewN ?_ _ | refine blk_drew ?_ | refine blk_alloc ?_ _)); refine blk_put (cs := #[.bool t476, .bool t477, .bool t478, .bool t479, .bool false]) ?_ 4 _ rfl; (with_reducible repeat (first | refine blk_drewN ?_ _ | refine blk_drew ?_ | refine blk_alloc ?_ _)); refine blk_put (cs := #[.bool t476, .bool t477, .bool t478, .bool false, .bool false]) ?_ 3 _ rfl; (with_reducible repeat (first | refine blk_drewN ?_ _ | refine blk_drew ?_ | refine blk_alloc ?_ _)); refine blk_put (cs := #[.bool t476, .bool t477, .bool false, .bool false, .bool false]) ?_ 2 _ rfl; (with_reducible repeat (first | refine blk_drewN ?_ _ | refine blk_drew ?_ | refine blk_alloc ?_ _)); refine blk_put (cs := #[.bool t476, .bool false, .bool false, .bool false, .bool false]) ?_ 1 _ rfl; (with_reducible repeat (first | refine blk_drewN ?_ _ | refine blk_drew ?_ | refine blk_alloc ?_ _)); refine blk_put (cs := #[.bool false, .bool false, .bool false, .bool false, .bool false]) ?_ 0 _ rfl; (with_reducible repeat (first | refine blk_drewN ?_ _ | refine blk_drew ?_ | refine blk_alloc ?_ _)); exact BK481.out⟩, ⟨by repeat (first | (with_reducible first | exact HB.out | apply below_alloc | apply pw_below_drewN | apply below_drew1 | refine below_set ?_ GE453.out | refine below_set ?_ GE460.out | refine below_set ?_ GE467.out | refine below_set ?_ GE474.out | refine below_set ?_ GE481.out) | exact HB.out)⟩⟩
      case rest =>
        clear HC15
        try clear c1
        try clear c2
        try clear p2
        try clear c3
        try clear c4
        try clear c6
        try clear p6
        try clear c7
        try clear c14
        try clear c14b0
        try clear c14b1
        try clear c23
        try clear c25
        try clear c26
        try clear c27
        try clear c28
        try clear c32
        try clear c33
        try clear c34
        try clear c38
        try clear c39
        try clear c40
        try clear c41
        try clear c43
        try clear c43b0
        try clear c43b1
        try clear c44
        try clear c44b0
        try clear c44b1
        try clear hcz20_0
        try clear hcz20_1
        try clear hcz20_2
        try clear hcz20_3
        try clear hcz20_4
        try clear hcz24_0
        try clear hcz24_1
        try clear hcz24_2
        try clear hcz24_3
        try clear hcz24_4
        try clear hcz29_0
        try clear hcz29_1
        try clear hcz29_2
        try clear hcz29_3
        try clear hcz29_4
        try clear hcz35_0
        try clear hcz35_1
        try clear hcz35_2
        try clear hcz35_3
        try clear hcz35_4
        try clear hcz42_0
        try clear hcz42_1
        try clear hcz42_2
        try clear hcz42_3
        try clear hcz42_4
        try clear hfz20_0
        try clear hfz20_1
        try clear hfz20_2
        try clear hfz20_3
        try clear hfz20_4
        try clear hfz24_0
        try clear hfz24_1
        try clear hfz24_2
        try clear hfz24_3
        try clear hfz24_4
        try clear hfz29_0
        try clear hfz29_1
        try clear hfz29_2
        try clear hfz29_3
        try clear hfz29_4
        try clear hfz35_0
        try clear hfz35_1
        try clear hfz35_2
        try clear hfz35_3
        try clear hfz35_4
        try clear hfz42_0
        try clear hfz42_1
        try clear hfz42_2
        try clear hfz42_3
        try clear hfz42_4
        obtain ⟨kq, x8_14, rfl, HA, HJ14, BK453, BK460, BK467, BK474, BK481, HB⟩ := hcut
        cases kq with
        | zero => exact absurd HA.out (by simp [anneallaw8_WholeScales.j0])
        | succ kj14 =>
          have H := HA.out
          clear HA
          simp only [anneallaw8_WholeScales.j0] at H
          obtain rfl := Option.some.inj H
          go_wp2
          go_ret
          exact ⟨by first | rfl | (simp [errW_none, errW_some] <;> rfl) | (simp [*, errW_none, errW_some] <;> rfl), by repeat (first | (with_reducible first | exact HB.out | apply below_alloc | apply pw_below_drewN | apply below_drew1 | refine below_set ?_ GE453.out | refine below_set ?_ GE460.out | refine below_set ?_ GE467.out | refine below_set ?_ GE474.out | refine below_set ?_ GE481.out) | exact HB.out)⟩
    · rw [if_neg c14] at H
      have c14b0 : (t446 == 0) = false := beq_eq_false_iff_ne.mpr c14
      have c14b1 : (t446 != 0) = true := bne_iff_ne.mpr c14
      replace H := Option.bind_eq_some_iff.mp H
      obtain ⟨t482, A450, H⟩ := H
      replace H : (if t454 = t461 then (if (!t448 && (!t449 && (!t450 && (!t451 && (!t452))))) = true then (if (t455 == t448 && (t456 == t449 && (t457 == t450 && (t458 == t451 && (t459 == t452))))) = true then (if (t462 == t448 && (t463 == t449 && (t464 == t450 && (t465 == t451 && (t466 == t452))))) = true then ((annealref1_Inf.f t445 false).bind fun t483 => (if t468 = (Go.bits .or .u32 (Go.bits .and .u32 t446 t482) t483) then (if (!t469 && (!t470 && (t471 && (!t472 && (t473))))) = true then (if t475 = (Go.bits .and .u32 t446 t482) then (anneallaw8_WholeScales.j1 k (!t476 && (!t477 && (!t478 && (t479 && (t480)))))) else (anneallaw8_WholeScales.j1 k false)) else (anneallaw8_WholeScales.j1 k false)) else (anneallaw8_WholeScales.j1 k false))) else (anneallaw8_WholeScales.j1 k false)) else (anneallaw8_WholeScales.j1 k false)) else (anneallaw8_WholeScales.j1 k false)) else (anneallaw8_WholeScales.j1 k false)) = some r := H
      have A45 := Aside0.mk A450
      clear A450
      have HC46 := Aside0.mk H
      clear H
      go_enter Try.func7, Try.ntmps7
      go_upto_region 14 with (first | ((with_reducible refine gate_callee (f := 25) rfl ?_); refine goesL_ (some 24) rfl rfl Try.func25 (by kernel_rfl) rfl #[] rfl (by (try simp only [List.map_toArray, List.map_cons, List.map_nil]); first | done | rfl | (simp only [List.length_drop, List.length_take]; rfl)) ?_; (with_reducible refine (anneallaw8_known.calls k  true _ A5.out).mono ?_); rintro e w47 ⟨rfl, hb⟩; refine ⟨_, rfl, ?_⟩; have n0_ := Aside0.mk (below_step (by repeat (first | (with_reducible first | exact HB.out | apply below_alloc | apply pw_below_drewN | apply below_drew1) | exact HB.out)) hb); clear HB; have HB := n0_; clear n0_; (try clear hb); (try clear hb2); (try clear hk); (try clear hi)) | ((with_reducible refine gate_callee (f := 26) rfl ?_); refine goesL_ (some 27) rfl rfl Try.func26 (by kernel_rfl) rfl #[.int .u8 a0] rfl (by (try simp only [List.map_toArray, List.map_cons, List.map_nil]); first | done | rfl | (simp only [List.length_drop, List.length_take]; rfl)) ?_; (with_reducible refine (anneallaw8_form.calls a0 t445 _ A7.out).mono ?_); rintro e w48 ⟨rfl, hb⟩; refine ⟨_, rfl, ?_⟩; have n0_ := Aside0.mk (below_step (by repeat (first | (with_reducible first | exact HB.out | apply below_alloc | apply pw_below_drewN | apply below_drew1) | exact HB.out)) hb); clear HB; have HB := n0_; clear n0_; (try clear hb); (try clear hb2); (try clear hk); (try clear hi)) | ((with_reducible refine gate_callee (f := 27) rfl ?_); refine goesL_ (some 30) rfl rfl Try.func27 (by kernel_rfl) rfl #[.int .i64 t445, .int .u32 a1] rfl (by (try simp only [List.map_toArray, List.map_cons, List.map_nil]); first | done | rfl | (simp only [List.length_drop, List.length_take]; rfl)) ?_; (with_reducible refine (annealseat_Mild.calls t445 a1 t446 _ A8.out).mono ?_); rintro e w' ⟨rfl, ⟨nd, rfl⟩⟩; refine ⟨_, rfl, ?_⟩; (try (rw [drewN_self w48]; generalize hq_ : World.drewN w48 _ = w48; have n0_ : Aside0 (Below w.heap.size w w48) := ⟨by rw [← hq_]; exact (by repeat (first | (with_reducible first | exact HB.out | apply below_alloc | apply pw_below_drewN | apply below_drew1) | exact HB.out))⟩; clear HB hq_; have HB := n0_; clear n0_))) | ((with_reducible refine gate_callee (f := 28) rfl ?_); refine goesL_ (some 41) rfl rfl Try.func28 (by kernel_rfl) rfl #[.int .i64 t445, .int .i64 0, .int .u32 t446, .int .i64 (wrap64 (Int.tmod a2 5))] rfl (by (try simp only [List.map_toArray, List.map_cons, List.map_nil]); first | done | rfl | (simp only [List.length_drop, List.length_take]; rfl)) ?_; (with_reducible refine (whole_Scale.calls k t445 0 t446 (wrap64 (Int.tmod a2 5)) t447 t448 t449 t450 t451 t452 _ A9.out).mono ?_); rintro e w49 ⟨rfl, hb⟩; refine ⟨_, rfl, ?_⟩; have n0_ := Aside0.mk (below_step (by repeat (first | (with_reducible first | exact HB.out | apply below_alloc | apply pw_below_drewN | apply below_drew1) | exact HB.out)) hb); clear HB; have HB := n0_; clear n0_; (try clear hb); (try clear hb2); (try clear hk); (try clear hi)) | ((with_reducible refine gate_dst (N := 14) rfl ?_); refine box_event ?hg (N := 14) ?hd (cs := #[.bool false, .bool false, .bool false, .bool false, .bool false]) (t := 41) ?hr ?_; (case hd => rfl); (case hg => rfl); (case hr => first | (go_simp; done) | (go_simp; rfl)); intro gb453 hg w50 hbox hb; have n0_ := Aside0.mk (below_step (by repeat (first | (with_reducible first | exact HB.out | apply below_alloc | apply pw_below_drewN | apply below_drew1) | exact HB.out)) hb); have n1_ := Aside0.mk (hbox); have n2_ := Aside0.mk ((by rw [hg]; exact (below_size (by repeat (first | (with_reducible first | exact HB.out | apply below_alloc | apply pw_below_drewN | apply below_drew1) | exact HB.out))) : w.heap.size ≤ gb453)); have n3_ := Aside0.mk ((by rw [hg]; exact (below_size (by repeat (first | (with_reducible first | exact HB.out | apply below_alloc | apply pw_below_drewN | apply below_drew1) | exact HB.out))) : w.heap.size ≤ gb453)); clear HB; have HB := n0_; have BK453 := n1_; have GW453 := n2_; have GE453 := n3_; clear n0_ n1_ n2_ n3_; clear hb hbox hg; have hcz51_0 : w50.cell? ⟨gb453, 0, none⟩ = some (.bool false) := (blk_cell BK453.out 0).trans rfl; have hcz51_1 : w50.cell? ⟨gb453, 1, none⟩ = some (.bool false) := (blk_cell BK453.out 1).trans rfl; have hcz51_2 : w50.cell? ⟨gb453, 2, none⟩ = some (.bool false) := (blk_cell BK453.out 2).trans rfl; have hcz51_3 : w50.cell? ⟨gb453, 3, none⟩ = some (.bool false) := (blk_cell BK453.out 3).trans rfl; have hcz51_4 : w50.cell? ⟨gb453, 4, none⟩ = some (.bool false) := (blk_cell BK453.out 4).trans rfl; have hfz51_0 := blk_frozen BK453.out 0; have hfz51_1 := blk_frozen BK453.out 1; have hfz51_2 := blk_frozen BK453.out 2; have hfz51_3 := blk_frozen BK453.out 3; have hfz51_4 := blk_frozen BK453.out 4) | ((with_reducible refine gate_callee (f := 28) rfl ?_); refine goesL_ (some 48) rfl rfl Try.func28 (by kernel_rfl) rfl #[.int .i64 t445, .int .i64 0, .int .u32 t447, .int .i64 (wrap64 (Int.tmod a3 5))] rfl (by (try simp only [List.map_toArray, List.map_cons, List.map_nil]); first | done | rfl | (simp only [List.length_drop, List.length_take]; rfl)) ?_; (with_reducible refine (whole_Scale.calls k t445 0 t447 (wrap64 (Int.tmod a3 5)) t454 t455 t456 t457 t458 t459 _ A10.out).mono ?_); rintro e w52 ⟨rfl, hb⟩; refine ⟨_, rfl, ?_⟩; have n0_ := Aside0.mk (blk_below (g := gb453) (o := .cells #[.bool t448, .bool t449, .bool t450, .bool t451, .bool t452] 41 (0, 0)) (by (with_reducible repeat (first | refine blk_drewN ?_ _ | refine blk_drew ?_ | refine blk_alloc ?_ _)); refine blk_put (cs := #[.bool t448, .bool t449, .bool t450, .bool t451, .bool false]) ?_ 4 _ rfl; (with_reducible repeat (first | refine blk_drewN ?_ _ | refine blk_drew ?_ | refine blk_alloc ?_ _)); refine blk_put (cs := #[.bool t448, .bool t449, .bool t450, .bool false, .bool false]) ?_ 3 _ rfl; (with_reducible repeat (first | refine blk_drewN ?_ _ | refine blk_drew ?_ | refine blk_alloc ?_ _)); refine blk_put (cs := #[.bool t448, .bool t449, .bool false, .bool false, .bool false]) ?_ 2 _ rfl; (with_reducible repeat (first | refine blk_drewN ?_ _ | refine blk_drew ?_ | refine blk_alloc ?_ _)); refine blk_put (cs := #[.bool t448, .bool false, .bool false, .bool false, .bool false]) ?_ 1 _ rfl; (with_reducible repeat (first | refine blk_drewN ?_ _ | refine blk_drew ?_ | refine blk_alloc ?_ _)); refine blk_put (cs := #[.bool false, .bool false, .bool false, .bool false, .bool false]) ?_ 0 _ rfl; (with_reducible repeat (first | refine blk_drewN ?_ _ | refine blk_drew ?_ | refine blk_alloc ?_ _)); exact BK453.out) hb); have n1_ := Aside0.mk (below_step (by repeat (first | (with_reducible first | exact HB.out | apply below_alloc | apply pw_below_drewN | apply below_drew1 | refine below_set ?_ GE453.out) | exact HB.out)) hb); clear BK453; clear HB; have BK453 := n0_; have HB := n1_; clear n0_ n1_; (try clear hb); (try clear hb2); (try clear hk); (try clear hi)) | ((with_reducible refine gate_dst (N := 16) rfl ?_); refine box_event ?hg (N := 16) ?hd (cs := #[.bool false, .bool false, .bool false, .bool false, .bool false]) (t := 41) ?hr ?_; (case hd => rfl); (case hg => rfl); (case hr => first | (go_simp; done) | (go_simp; rfl)); intro gb460 hg w53 hbox hb; have n0_ := Aside0.mk (blk_below (g := gb453) (o := .cells #[.bool t448, .bool t449, .bool t450, .bool t451, .bool t452] 41 (0, 0)) (by (with_reducible repeat (first | refine blk_drewN ?_ _ | refine blk_drew ?_ | refine blk_alloc ?_ _)); exact BK453.out) hb); have n1_ := Aside0.mk (below_step (by repeat (first | (with_reducible first | exact HB.out | apply below_alloc | apply pw_below_drewN | apply below_drew1 | refine below_set ?_ GE453.out) | exact HB.out)) hb); have n2_ := Aside0.mk (hbox); have n3_ := Aside0.mk ((by rw [hg]; exact (below_size (by repeat (first | (with_reducible first | exact HB.out | apply below_alloc | apply pw_below_drewN | apply below_drew1 | refine below_set ?_ GE453.out) | exact HB.out))) : w.heap.size ≤ gb460)); have n4_ := Aside0.mk ((by rw [hg]; exact (below_size (by repeat (first | (with_reducible first | exact HB.out | apply below_alloc | apply pw_below_drewN | apply below_drew1 | refine below_set ?_ GE453.out) | exact HB.out))) : w.heap.size ≤ gb460)); have n5_ := Aside0.mk ((by rw [hg]; exact Nat.ne_of_lt (blk_lt (g := gb453) (o := .cells #[.bool t448, .bool t449, .bool t450, .bool t451, .bool t452] 41 (0, 0)) (by (with_reducible repeat (first | refine blk_drewN ?_ _ | refine blk_drew ?_ | refine blk_alloc ?_ _)); exact BK453.out)) : gb453 ≠ gb460)); have n6_ := Aside0.mk ((by rw [hg]; exact Nat.ne_of_gt (blk_lt (g := gb453) (o := .cells #[.bool t448, .bool t449, .bool t450, .bool t451, .bool t452] 41 (0, 0)) (by (with_reducible repeat (first | refine blk_drewN ?_ _ | refine blk_drew ?_ | refine blk_alloc ?_ _)); exact BK453.out)) : gb460 ≠ gb453)); clear BK453; clear HB; have BK453 := n0_; have HB := n1_; have BK460 := n2_; have GW460 := n3_; have GE460 := n4_; have NB453_460 := n5_; have NB460_453 := n6_; clear n0_ n1_ n2_ n3_ n4_ n5_ n6_; clear hb hbox hg; have hnb54 := NB460_453.out; have hnc54 := NB453_460.out; have hcz55_0 : w53.cell? ⟨gb460, 0, none⟩ = some (.bool false) := (blk_cell BK460.out 0).trans rfl; have hcz55_1 : w53.cell? ⟨gb460, 1, none⟩ = some (.bool false) := (blk_cell BK460.out 1).trans rfl; have hcz55_2 : w53.cell? ⟨gb460, 2, none⟩ = some (.bool false) := (blk_cell BK460.out 2).trans rfl; have hcz55_3 : w53.cell? ⟨gb460, 3, none⟩ = some (.bool false) := (blk_cell BK460.out 3).trans rfl; have hcz55_4 : w53.cell? ⟨gb460, 4, none⟩ = some (.bool false) := (blk_cell BK460.out 4).trans rfl; have hfz55_0 := blk_frozen BK460.out 0; have hfz55_1 := blk_frozen BK460.out 1; have hfz55_2 := blk_frozen BK460.out 2; have hfz55_3 := blk_frozen BK460.out 3; have hfz55_4 := blk_frozen BK460.out 4) | ((with_reducible refine gate_callee (f := 28) rfl ?_); refine goesL_ (some 57) rfl rfl Try.func28 (by kernel_rfl) rfl #[.int .i64 t445, .int .i64 0, .int .u32 t446, .int .i64 (wrap64 ((wrap64 (Int.tmod a2 5)) + (wrap64 (Int.tmod a3 5))))] rfl (by (try simp only [List.map_toArray, List.map_cons, List.map_nil]); first | done | rfl | (simp only [List.length_drop, List.length_take]; rfl)) ?_; (with_reducible refine (whole_Scale.calls k t445 0 t446 (wrap64 ((wrap64 (Int.tmod a2 5)) + (wrap64 (Int.tmod a3 5)))) t461 t462 t463 t464 t465 t466 _ A11.out).mono ?_); rintro e w56 ⟨rfl, hb⟩; refine ⟨_, rfl, ?_⟩; have n0_ := Aside0.mk (blk_below (g := gb453) (o := .cells #[.bool t448, .bool t449, .bool t450, .bool t451, .bool t452] 41 (0, 0)) (by (with_reducible repeat (first | refine blk_drewN ?_ _ | refine blk_drew ?_ | refine blk_alloc ?_ _)); refine blk_far ?_ NB453_460.out _; (with_reducible repeat (first | refine blk_drewN ?_ _ | refine blk_drew ?_ | refine blk_alloc ?_ _)); refine blk_far ?_ NB453_460.out _; (with_reducible repeat (first | refine blk_drewN ?_ _ | refine blk_drew ?_ | refine blk_alloc ?_ _)); refine blk_far ?_ NB453_460.out _; (with_reducible repeat (first | refine blk_drewN ?_ _ | refine blk_drew ?_ | refine blk_alloc ?_ _)); refine blk_far ?_ NB453_460.out _; (with_reducible repeat (first | refine blk_drewN ?_ _ | refine blk_drew ?_ | refine blk_alloc ?_ _)); refine blk_far ?_ NB453_460.out _; (with_reducible repeat (first | refine blk_drewN ?_ _ | refine blk_drew ?_ | refine blk_alloc ?_ _)); exact BK453.out) hb); have n1_ := Aside0.mk (blk_below (g := gb460) (o := .cells #[.bool t455, .bool t456, .bool t457, .bool t458, .bool t459] 41 (0, 0)) (by (with_reducible repeat (first | refine blk_drewN ?_ _ | refine blk_drew ?_ | refine blk_alloc ?_ _)); refine blk_put (cs := #[.bool t455, .bool t456, .bool t457, .bool t458, .bool false]) ?_ 4 _ rfl; (with_reducible repeat (first | refine blk_drewN ?_ _ | refine blk_drew ?_ | refine blk_alloc ?_ _)); refine blk_put (cs := #[.bool t455, .bool t456, .bool t457, .bool false, .bool false]) ?_ 3 _ rfl; (with_reducible repeat (first | refine blk_drewN ?_ _ | refine blk_drew ?_ | refine blk_alloc ?_ _)); refine blk_put (cs := #[.bool t455, .bool t456, .bool false, .bool false, .bool false]) ?_ 2 _ rfl; (with_reducible repeat (first | refine blk_drewN ?_ _ | refine blk_drew ?_ | refine blk_alloc ?_ _)); refine blk_put (cs := #[.bool t455, .bool false, .bool false, .bool false, .bool false]) ?_ 1 _ rfl; (with_reducible repeat (first | refine blk_drewN ?_ _ | refine blk_drew ?_ | refine blk_alloc ?_ _)); refine blk_put (cs := #[.bool false, .bool false, .bool false, .bool false, .bool false]) ?_ 0 _ rfl; (with_reducible repeat (first | refine blk_drewN ?_ _ | refine blk_drew ?_ | refine blk_alloc ?_ _)); exact BK460.out) hb); have n2_ := Aside0.mk (below_step (by repeat (first | (with_reducible first | exact HB.out | apply below_alloc | apply pw_below_drewN | apply below_drew1 | refine below_set ?_ GE453.out | refine below_set ?_ GE460.out) | exact HB.out)) hb); clear BK453; clear BK460; clear HB; have BK453 := n0_; have BK460 := n1_; have HB := n2_; clear n0_ n1_ n2_; (try clear hb); (try clear hb2); (try clear hk); (try clear hi)) | ((with_reducible refine gate_dst (N := 18) rfl ?_); refine box_event ?hg (N := 18) ?hd (cs := #[.bool false, .bool false, .bool false, .bool false, .bool false]) (t := 41) ?hr ?_; (case hd => rfl); (case hg => rfl); (case hr => first | (go_simp; done) | (go_simp; rfl)); intro gb467 hg w57 hbox hb; have n0_ := Aside0.mk (blk_below (g := gb453) (o := .cells #[.bool t448, .bool t449, .bool t450, .bool t451, .bool t452] 41 (0, 0)) (by (with_reducible repeat (first | refine blk_drewN ?_ _ | refine blk_drew ?_ | refine blk_alloc ?_ _)); exact BK453.out) hb); have n1_ := Aside0.mk (blk_below (g := gb460) (o := .cells #[.bool t455, .bool t456, .bool t457, .bool t458, .bool t459] 41 (0, 0)) (by (with_reducible repeat (first | refine blk_drewN ?_ _ | refine blk_drew ?_ | refine blk_alloc ?_ _)); exact BK460.out) hb); have n2_ := Aside0.mk (below_step (by repeat (first | (with_reducible first | exact HB.out | apply below_alloc | apply pw_below_drewN | apply below_drew1 | refine below_set ?_ GE453.out | refine below_set ?_ GE460.out) | exact HB.out)) hb); have n3_ := Aside0.mk (hbox); have n4_ := Aside0.mk ((by rw [hg]; exact (below_size (by repeat (first | (with_reducible first | exact HB.out | apply below_alloc | apply pw_below_drewN | apply below_drew1 | refine below_set ?_ GE453.out | refine below_set ?_ GE460.out) | exact HB.out))) : w.heap.size ≤ gb467)); have n5_ := Aside0.mk ((by rw [hg]; exact (below_size (by repeat (first | (with_reducible first | exact HB.out | apply below_alloc | apply pw_below_drewN | apply below_drew1 | refine below_set ?_ GE453.out | refine below_set ?_ GE460.out) | exact HB.out))) : w.heap.size ≤ gb467)); have n6_ := Aside0.mk ((by rw [hg]; exact Nat.ne_of_lt (blk_lt (g := gb453) (o := .cells #[.bool t448, .bool t449, .bool t450, .bool t451, .bool t452] 41 (0, 0)) (by (with_reducible repeat (first | refine blk_drewN ?_ _ | refine blk_drew ?_ | refine blk_alloc ?_ _)); exact BK453.out)) : gb453 ≠ gb467)); have n7_ := Aside0.mk ((by rw [hg]; exact Nat.ne_of_gt (blk_lt (g := gb453) (o := .cells #[.bool t448, .bool t449, .bool t450, .bool t451, .bool t452] 41 (0, 0)) (by (with_reducible repeat (first | refine blk_drewN ?_ _ | refine blk_drew ?_ | refine blk_alloc ?_ _)); exact BK453.out)) : gb467 ≠ gb453)); have n8_ := Aside0.mk ((by rw [hg]; exact Nat.ne_of_lt (blk_lt (g := gb460) (o := .cells #[.bool t455, .bool t456, .bool t457, .bool t458, .bool t459] 41 (0, 0)) (by (with_reducible repeat (first | refine blk_drewN ?_ _ | refine blk_drew ?_ | refine blk_alloc ?_ _)); exact BK460.out)) : gb460 ≠ gb467)); have n9_ := Aside0.mk ((by rw [hg]; exact Nat.ne_of_gt (blk_lt (g := gb460) (o := .cells #[.bool t455, .bool t456, .bool t457, .bool t458, .bool t459] 41 (0, 0)) (by (with_reducible repeat (first | refine blk_drewN ?_ _ | refine blk_drew ?_ | refine blk_alloc ?_ _)); exact BK460.out)) : gb467 ≠ gb460)); clear BK453; clear BK460; clear HB; have BK453 := n0_; have BK460 := n1_; have HB := n2_; have BK467 := n3_; have GW467 := n4_; have GE467 := n5_; have NB453_467 := n6_; have NB467_453 := n7_; have NB460_467 := n8_; have NB467_460 := n9_; clear n0_ n1_ n2_ n3_ n4_ n5_ n6_ n7_ n8_ n9_; clear hb hbox hg; have hnb58 := NB467_453.out; have hnc58 := NB453_467.out; have hnb59 := NB467_460.out; have hnc59 := NB460_467.out; have hcz60_0 : w57.cell? ⟨gb467, 0, none⟩ = some (.bool false) := (blk_cell BK467.out 0).trans rfl; have hcz60_1 : w57.cell? ⟨gb467, 1, none⟩ = some (.bool false) := (blk_cell BK467.out 1).trans rfl; have hcz60_2 : w57.cell? ⟨gb467, 2, none⟩ = some (.bool false) := (blk_cell BK467.out 2).trans rfl; have hcz60_3 : w57.cell? ⟨gb467, 3, none⟩ = some (.bool false) := (blk_cell BK467.out 3).trans rfl; have hcz60_4 : w57.cell? ⟨gb467, 4, none⟩ = some (.bool false) := (blk_cell BK467.out 4).trans rfl; have hfz60_0 := blk_frozen BK467.out 0; have hfz60_1 := blk_frozen BK467.out 1; have hfz60_2 := blk_frozen BK467.out 2; have hfz60_3 := blk_frozen BK467.out 3; have hfz60_4 := blk_frozen BK467.out 4) | ((with_reducible refine gate_callee (f := 28) rfl ?_); refine goesL_ (some 63) rfl rfl Try.func28 (by kernel_rfl) rfl #[.int .i64 t445, .int .i64 0, .int .u32 t446, .int .i64 4000] rfl (by (try simp only [List.map_toArray, List.map_cons, List.map_nil]); first | done | rfl | (simp only [List.length_drop, List.length_take]; rfl)) ?_; (with_reducible refine (whole_Scale.calls k t445 0 t446 4000 t468 t469 t470 t471 t472 t473 _ A12.out).mono ?_); rintro e w61 ⟨rfl, hb⟩; refine ⟨_, rfl, ?_⟩; have n0_ := Aside0.mk (blk_below (g := gb453) (o := .cells #[.bool t448, .bool t449, .bool t450, .bool t451, .bool t452] 41 (0, 0)) (by (with_reducible repeat (first | refine blk_drewN ?_ _ | refine blk_drew ?_ | refine blk_alloc ?_ _)); refine blk_far ?_ NB453_467.out _; (with_reducible repeat (first | refine blk_drewN ?_ _ | refine blk_drew ?_ | refine blk_alloc ?_ _)); refine blk_far ?_ NB453_467.out _; (with_reducible repeat (first | refine blk_drewN ?_ _ | refine blk_drew ?_ | refine blk_alloc ?_ _)); refine blk_far ?_ NB453_467.out _; (with_reducible repeat (first | refine blk_drewN ?_ _ | refine blk_drew ?_ | refine blk_alloc ?_ _)); refine blk_far ?_ NB453_467.out _; (with_reducible repeat (first | refine blk_drewN ?_ _ | refine blk_drew ?_ | refine blk_alloc ?_ _)); refine blk_far ?_ NB453_467.out _; (with_reducible repeat (first | refine blk_drewN ?_ _ | refine blk_drew ?_ | refine blk_alloc ?_ _)); exact BK453.out) hb); have n1_ := Aside0.mk (blk_below (g := gb460) (o := .cells #[.bool t455, .bool t456, .bool t457, .bool t458, .bool t459] 41 (0, 0)) (by (with_reducible repeat (first | refine blk_drewN ?_ _ | refine blk_drew ?_ | refine blk_alloc ?_ _)); refine blk_far ?_ NB460_467.out _; (with_reducible repeat (first | refine blk_drewN ?_ _ | refine blk_drew ?_ | refine blk_alloc ?_ _)); refine blk_far ?_ NB460_467.out _; (with_reducible repeat (first | refine blk_drewN ?_ _ | refine blk_drew ?_ | refine blk_alloc ?_ _)); refine blk_far ?_ NB460_467.out _; (with_reducible repeat (first | refine blk_drewN ?_ _ | refine blk_drew ?_ | refine blk_alloc ?_ _)); refine blk_far ?_ NB460_467.out _; (with_reducible repeat (first | refine blk_drewN ?_ _ | refine blk_drew ?_ | refine blk_alloc ?_ _)); refine blk_far ?_ NB460_467.out _; (with_reducible repeat (first | refine blk_drewN ?_ _ | refine blk_drew ?_ | refine blk_alloc ?_ _)); exact BK460.out) hb); have n2_ := Aside0.mk (blk_below (g := gb467) (o := .cells #[.bool t462, .bool t463, .bool t464, .bool t465, .bool t466] 41 (0, 0)) (by (with_reducible repeat (first | refine blk_drewN ?_ _ | refine blk_drew ?_ | refine blk_alloc ?_ _)); refine blk_put (cs := #[.bool t462, .bool t463, .bool t464, .bool t465, .bool false]) ?_ 4 _ rfl; (with_reducible repeat (first | refine blk_drewN ?_ _ | refine blk_drew ?_ | refine blk_alloc ?_ _)); refine blk_put (cs := #[.bool t462, .bool t463, .bool t464, .bool false, .bool false]) ?_ 3 _ rfl; (with_reducible repeat (first | refine blk_drewN ?_ _ | refine blk_drew ?_ | refine blk_alloc ?_ _)); refine blk_put (cs := #[.bool t462, .bool t463, .bool false, .bool false, .bool false]) ?_ 2 _ rfl; (with_reducible repeat (first | refine blk_drewN ?_ _ | refine blk_drew ?_ | refine blk_alloc ?_ _)); refine blk_put (cs := #[.bool t462, .bool false, .bool false, .bool false, .bool false]) ?_ 1 _ rfl; (with_reducible repeat (first | refine blk_drewN ?_ _ | refine blk_drew ?_ | refine blk_alloc ?_ _)); refine blk_put (cs := #[.bool false, .bool false, .bool false, .bool false, .bool false]) ?_ 0 _ rfl; (with_reducible repeat (first | refine blk_drewN ?_ _ | refine blk_drew ?_ | refine blk_alloc ?_ _)); exact BK467.out) hb); have n3_ := Aside0.mk (below_step (by repeat (first | (with_reducible first | exact HB.out | apply below_alloc | apply pw_below_drewN | apply below_drew1 | refine below_set ?_ GE453.out | refine below_set ?_ GE460.out | refine below_set ?_ GE467.out) | exact HB.out)) hb); clear BK453; clear BK460; clear BK467; clear HB; have BK453 := n0_; have BK460 := n1_; have BK467 := n2_; have HB := n3_; clear n0_ n1_ n2_ n3_; (try clear hb); (try clear hb2); (try clear hk); (try clear hi)) | ((with_reducible refine gate_dst (N := 20) rfl ?_); refine box_event ?hg (N := 20) ?hd (cs := #[.bool false, .bool false, .bool false, .bool false, .bool false]) (t := 41) ?hr ?_; (case hd => rfl); (case hg => rfl); (case hr => first | (go_simp; done) | (go_simp; rfl)); intro gb474 hg w62 hbox hb; have n0_ := Aside0.mk (blk_below (g := gb453) (o := .cells #[.bool t448, .bool t449, .bool t450, .bool t451, .bool t452] 41 (0, 0)) (by (with_reducible repeat (first | refine blk_drewN ?_ _ | refine blk_drew ?_ | refine blk_alloc ?_ _)); exact BK453.out) hb); have n1_ := Aside0.mk (blk_below (g := gb460) (o := .cells #[.bool t455, .bool t456, .bool t457, .bool t458, .bool t459] 41 (0, 0)) (by (with_reducible repeat (first | refine blk_drewN ?_ _ | refine blk_drew ?_ | refine blk_alloc ?_ _)); exact BK460.out) hb); have n2_ := Aside0.mk (blk_below (g := gb467) (o := .cells #[.bool t462, .bool t463, .bool t464, .bool t465, .bool t466] 41 (0, 0)) (by (with_reducible repeat (first | refine blk_drewN ?_ _ | refine blk_drew ?_ | refine blk_alloc ?_ _)); exact BK467.out) hb); have n3_ := Aside0.mk (below_step (by repeat (first | (with_reducible first | exact HB.out | apply below_alloc | apply pw_below_drewN | apply below_drew1 | refine below_set ?_ GE453.out | refine below_set ?_ GE460.out | refine below_set ?_ GE467.out) | exact HB.out)) hb); have n4_ := Aside0.mk (hbox); have n5_ := Aside0.mk ((by rw [hg]; exact (below_size (by repeat (first | (with_reducible first | exact HB.out | apply below_alloc | apply pw_below_drewN | apply below_drew1 | refine below_set ?_ GE453.out | refine below_set ?_ GE460.out | refine below_set ?_ GE467.out) | exact HB.out))) : w.heap.size ≤ gb474)); have n6_ := Aside0.mk ((by rw [hg]; exact (below_size (by repeat (first | (with_reducible first | exact HB.out | apply below_alloc | apply pw_below_drewN | apply below_drew1 | refine below_set ?_ GE453.out | refine below_set ?_ GE460.out | refine below_set ?_ GE467.out) | exact HB.out))) : w.heap.size ≤ gb474)); have n7_ := Aside0.mk ((by rw [hg]; exact Nat.ne_of_lt (blk_lt (g := gb453) (o := .cells #[.bool t448, .bool t449, .bool t450, .bool t451, .bool t452] 41 (0, 0)) (by (with_reducible repeat (first | refine blk_drewN ?_ _ | refine blk_drew ?_ | refine blk_alloc ?_ _)); exact BK453.out)) : gb453 ≠ gb474)); have n8_ := Aside0.mk ((by rw [hg]; exact Nat.ne_of_gt (blk_lt (g := gb453) (o := .cells #[.bool t448, .bool t449, .bool t450, .bool t451, .bool t452] 41 (0, 0)) (by (with_reducible repeat (first | refine blk_drewN ?_ _ | refine blk_drew ?_ | refine blk_alloc ?_ _)); exact BK453.out)) : gb474 ≠ gb453)); have n9_ := Aside0.mk ((by rw [hg]; exact Nat.ne_of_lt (blk_lt (g := gb460) (o := .cells #[.bool t455, .bool t456, .bool t457, .bool t458, .bool t459] 41 (0, 0)) (by (with_reducible repeat (first | refine blk_drewN ?_ _ | refine blk_drew ?_ | refine blk_alloc ?_ _)); exact BK460.out)) : gb460 ≠ gb474)); have n10_ := Aside0.mk ((by rw [hg]; exact Nat.ne_of_gt (blk_lt (g := gb460) (o := .cells #[.bool t455, .bool t456, .bool t457, .bool t458, .bool t459] 41 (0, 0)) (by (with_reducible repeat (first | refine blk_drewN ?_ _ | refine blk_drew ?_ | refine blk_alloc ?_ _)); exact BK460.out)) : gb474 ≠ gb460)); have n11_ := Aside0.mk ((by rw [hg]; exact Nat.ne_of_lt (blk_lt (g := gb467) (o := .cells #[.bool t462, .bool t463, .bool t464, .bool t465, .bool t466] 41 (0, 0)) (by (with_reducible repeat (first | refine blk_drewN ?_ _ | refine blk_drew ?_ | refine blk_alloc ?_ _)); exact BK467.out)) : gb467 ≠ gb474)); have n12_ := Aside0.mk ((by rw [hg]; exact Nat.ne_of_gt (blk_lt (g := gb467) (o := .cells #[.bool t462, .bool t463, .bool t464, .bool t465, .bool t466] 41 (0, 0)) (by (with_reducible repeat (first | refine blk_drewN ?_ _ | refine blk_drew ?_ | refine blk_alloc ?_ _)); exact BK467.out)) : gb474 ≠ gb467)); clear BK453; clear BK460; clear BK467; clear HB; have BK453 := n0_; have BK460 := n1_; have BK467 := n2_; have HB := n3_; have BK474 := n4_; have GW474 := n5_; have GE474 := n6_; have NB453_474 := n7_; have NB474_453 := n8_; have NB460_474 := n9_; have NB474_460 := n10_; have NB467_474 := n11_; have NB474_467 := n12_; clear n0_ n1_ n2_ n3_ n4_ n5_ n6_ n7_ n8_ n9_ n10_ n11_ n12_; clear hb hbox hg; have hnb63 := NB474_453.out; have hnc63 := NB453_474.out; have hnb64 := NB474_460.out; have hnc64 := NB460_474.out; have hnb65 := NB474_467.out; have hnc65 := NB467_474.out; have hcz66_0 : w62.cell? ⟨gb474, 0, none⟩ = some (.bool false) := (blk_cell BK474.out 0).trans rfl; have hcz66_1 : w62.cell? ⟨gb474, 1, none⟩ = some (.bool false) := (blk_cell BK474.out 1).trans rfl; have hcz66_2 : w62.cell? ⟨gb474, 2, none⟩ = some (.bool false) := (blk_cell BK474.out 2).trans rfl; have hcz66_3 : w62.cell? ⟨gb474, 3, none⟩ = some (.bool false) := (blk_cell BK474.out 3).trans rfl; have hcz66_4 : w62.cell? ⟨gb474, 4, none⟩ = some (.bool false) := (blk_cell BK474.out 4).trans rfl; have hfz66_0 := blk_frozen BK474.out 0; have hfz66_1 := blk_frozen BK474.out 1; have hfz66_2 := blk_frozen BK474.out 2; have hfz66_3 := blk_frozen BK474.out 3; have hfz66_4 := blk_frozen BK474.out 4) | ((with_reducible refine gate_callee (f := 28) rfl ?_); refine goesL_ (some 69) rfl rfl Try.func28 (by kernel_rfl) rfl #[.int .i64 t445, .int .i64 0, .int .u32 t446, .int .i64 (-4000)] rfl (by (try simp only [List.map_toArray, List.map_cons, List.map_nil]); first | done | rfl | (simp only [List.length_drop, List.length_take]; rfl)) ?_; (with_reducible refine (whole_Scale.calls k t445 0 t446 (-4000) t475 t476 t477 t478 t479 t480 _ A13.out).mono ?_); rintro e w67 ⟨rfl, hb⟩; refine ⟨_, rfl, ?_⟩; have n0_ := Aside0.mk (blk_below (g := gb453) (o := .cells #[.bool t448, .bool t449, .bool t450, .bool t451, .bool t452] 41 (0, 0)) (by (with_reducible repeat (first | refine blk_drewN ?_ _ | refine blk_drew ?_ | refine blk_alloc ?_ _)); refine blk_far ?_ NB453_474.out _; (with_reducible repeat (first | refine blk_drewN ?_ _ | refine blk_drew ?_ | refine blk_alloc ?_ _)); refine blk_far ?_ NB453_474.out _; (with_reducible repeat (first | refine blk_drewN ?_ _ | refine blk_drew ?_ | refine blk_alloc ?_ _)); refine blk_far ?_ NB453_474.out _; (with_reducible repeat (first | refine blk_drewN ?_ _ | refine blk_drew ?_ | refine blk_alloc ?_ _)); refine blk_far ?_ NB453_474.out _; (with_reducible repeat (first | refine blk_drewN ?_ _ | refine blk_drew ?_ | refine blk_alloc ?_ _)); refine blk_far ?_ NB453_474.out _; (with_reducible repeat (first | refine blk_drewN ?_ _ | refine blk_drew ?_ | refine blk_alloc ?_ _)); exact BK453.out) hb); have n1_ := Aside0.mk (blk_below (g := gb460) (o := .cells #[.bool t455, .bool t456, .bool t457, .bool t458, .bool t459] 41 (0, 0)) (by (with_reducible repeat (first | refine blk_drewN ?_ _ | refine blk_drew ?_ | refine blk_alloc ?_ _)); refine blk_far ?_ NB460_474.out _; (with_reducible repeat (first | refine blk_drewN ?_ _ | refine blk_drew ?_ | refine blk_alloc ?_ _)); refine blk_far ?_ NB460_474.out _; (with_reducible repeat (first | refine blk_drewN ?_ _ | refine blk_drew ?_ | refine blk_alloc ?_ _)); refine blk_far ?_ NB460_474.out _; (with_reducible repeat (first | refine blk_drewN ?_ _ | refine blk_drew ?_ | refine blk_alloc ?_ _)); refine blk_far ?_ NB460_474.out _; (with_reducible repeat (first | refine blk_drewN ?_ _ | refine blk_drew ?_ | refine blk_alloc ?_ _)); refine blk_far ?_ NB460_474.out _; (with_reducible repeat (first | refine blk_drewN ?_ _ | refine blk_drew ?_ | refine blk_alloc ?_ _)); exact BK460.out) hb); have n2_ := Aside0.mk (blk_below (g := gb467) (o := .cells #[.bool t462, .bool t463, .bool t464, .bool t465, .bool t466] 41 (0, 0)) (by (with_reducible repeat (first | refine blk_drewN ?_ _ | refine blk_drew ?_ | refine blk_alloc ?_ _)); refine blk_far ?_ NB467_474.out _; (with_reducible repeat (first | refine blk_drewN ?_ _ | refine blk_drew ?_ | refine blk_alloc ?_ _)); refine blk_far ?_ NB467_474.out _; (with_reducible repeat (first | refine blk_drewN ?_ _ | refine blk_drew ?_ | refine blk_alloc ?_ _)); refine blk_far ?_ NB467_474.out _; (with_reducible repeat (first | refine blk_drewN ?_ _ | refine blk_drew ?_ | refine blk_alloc ?_ _)); refine blk_far ?_ NB467_474.out _; (with_reducible repeat (first | refine blk_drewN ?_ _ | refine blk_drew ?_ | refine blk_alloc ?_ _)); refine blk_far ?_ NB467_474.out _; (with_reducible repeat (first | refine blk_drewN ?_ _ | refine blk_drew ?_ | refine blk_alloc ?_ _)); exact BK467.out) hb); have n3_ := Aside0.mk (blk_below (g := gb474) (o := .cells #[.bool t469, .bool t470, .bool t471, .bool t472, .bool t473] 41 (0, 0)) (by (with_reducible repeat (first | refine blk_drewN ?_ _ | refine blk_drew ?_ | refine blk_alloc ?_ _)); refine blk_put (cs := #[.bool t469, .bool t470, .bool t471, .bool t472, .bool false]) ?_ 4 _ rfl; (with_reducible repeat (first | refine blk_drewN ?_ _ | refine blk_drew ?_ | refine blk_alloc ?_ _)); refine blk_put (cs := #[.bool t469, .bool t470, .bool t471, .bool false, .bool false]) ?_ 3 _ rfl; (with_reducible repeat (first | refine blk_drewN ?_ _ | refine blk_drew ?_ | refine blk_alloc ?_ _)); refine blk_put (cs := #[.bool t469, .bool t470, .bool false, .bool false, .bool false]) ?_ 2 _ rfl; (with_reducible repeat (first | refine blk_drewN ?_ _ | refine blk_drew ?_ | refine blk_alloc ?_ _)); refine blk_put (cs := #[.bool t469, .bool false, .bool false, .bool false, .bool false]) ?_ 1 _ rfl; (with_reducible repeat (first | refine blk_drewN ?_ _ | refine blk_drew ?_ | refine blk_alloc ?_ _)); refine blk_put (cs := #[.bool false, .bool false, .bool false, .bool false, .bool false]) ?_ 0 _ rfl; (with_reducible repeat (first | refine blk_drewN ?_ _ | refine blk_drew ?_ | refine blk_alloc ?_ _)); exact BK474.out) hb); have n4_ := Aside0.mk (below_step (by repeat (first | (with_reducible first | exact HB.out | apply below_alloc | apply pw_below_drewN | apply below_drew1 | refine below_set ?_ GE453.out | refine below_set ?_ GE460.out | refine below_set ?_ GE467.out | refine below_set ?_ GE474.out) | exact HB.out)) hb); clear BK453; clear BK460; clear BK467; clear BK474; clear HB; have BK453 := n0_; have BK460 := n1_; have BK467 := n2_; have BK474 := n3_; have HB := n4_; clear n0_ n1_ n2_ n3_ n4_; (try clear hb); (try clear hb2); (try clear hk); (try clear hi)) | ((with_reducible refine gate_dst (N := 22) rfl ?_); refine box_event ?hg (N := 22) ?hd (cs := #[.bool false, .bool false, .bool false, .bool false, .bool false]) (t := 41) ?hr ?_; (case hd => rfl); (case hg => rfl); (case hr => first | (go_simp; done) | (go_simp; rfl)); intro gb481 hg w68 hbox hb; have n0_ := Aside0.mk (blk_below (g := gb453) (o := .cells #[.bool t448, .bool t449, .bool t450, .bool t451, .bool t452] 41 (0, 0)) (by (with_reducible repeat (first | refine blk_drewN ?_ _ | refine blk_drew ?_ | refine blk_alloc ?_ _)); exact BK453.out) hb); have n1_ := Aside0.mk (blk_below (g := gb460) (o := .cells #[.bool t455, .bool t456, .bool t457, .bool t458, .bool t459] 41 (0, 0)) (by (with_reducible repeat (first | refine blk_drewN ?_ _ | refine blk_drew ?_ | refine blk_alloc ?_ _)); exact BK460.out) hb); have n2_ := Aside0.mk (blk_below (g := gb467) (o := .cells #[.bool t462, .bool t463, .bool t464, .bool t465, .bool t466] 41 (0, 0)) (by (with_reducible repeat (first | refine blk_drewN ?_ _ | refine blk_drew ?_ | refine blk_alloc ?_ _)); exact BK467.out) hb); have n3_ := Aside0.mk (blk_below (g := gb474) (o := .cells #[.bool t469, .bool t470, .bool t471, .bool t472, .bool t473] 41 (0, 0)) (by (with_reducible repeat (first | refine blk_drewN ?_ _ | refine blk_drew ?_ | refine blk_alloc ?_ _)); exact BK474.out) hb); have n4_ := Aside0.mk (below_step (by repeat (first | (with_reducible first | exact HB.out | apply below_alloc | apply pw_below_drewN | apply below_drew1 | refine below_set ?_ GE453.out | refine below_set ?_ GE460.out | refine below_set ?_ GE467.out | refine below_set ?_ GE474.out) | exact HB.out)) hb); have n5_ := Aside0.mk (hbox); have n6_ := Aside0.mk ((by rw [hg]; exact (below_size (by repeat (first | (with_reducible first | exact HB.out | apply below_alloc | apply pw_below_drewN | apply below_drew1 | refine below_set ?_ GE453.out | refine below_set ?_ GE460.out | refine below_set ?_ GE467.out | refine below_set ?_ GE474.out) | exact HB.out))) : w.heap.size ≤ gb481)); have n7_ := Aside0.mk ((by rw [hg]; exact (below_size (by repeat (first | (with_reducible first | exact HB.out | apply below_alloc | apply pw_below_drewN | apply below_drew1 | refine below_set ?_ GE453.out | refine below_set ?_ GE460.out | refine below_set ?_ GE467.out | refine below_set ?_ GE474.out) | exact HB.out))) : w.heap.size ≤ gb481)); have n8_ := Aside0.mk ((by rw [hg]; exact Nat.ne_of_lt (blk_lt (g := gb453) (o := .cells #[.bool t448, .bool t449, .bool t450, .bool t451, .bool t452] 41 (0, 0)) (by (with_reducible repeat (first | refine blk_drewN ?_ _ | refine blk_drew ?_ | refine blk_alloc ?_ _)); exact BK453.out)) : gb453 ≠ gb481)); have n9_ := Aside0.mk ((by rw [hg]; exact Nat.ne_of_gt (blk_lt (g := gb453) (o := .cells #[.bool t448, .bool t449, .bool t450, .bool t451, .bool t452] 41 (0, 0)) (by (with_reducible repeat (first | refine blk_drewN ?_ _ | refine blk_drew ?_ | refine blk_alloc ?_ _)); exact BK453.out)) : gb481 ≠ gb453)); have n10_ := Aside0.mk ((by rw [hg]; exact Nat.ne_of_lt (blk_lt (g := gb460) (o := .cells #[.bool t455, .bool t456, .bool t457, .bool t458, .bool t459] 41 (0, 0)) (by (with_reducible repeat (first | refine blk_drewN ?_ _ | refine blk_drew ?_ | refine blk_alloc ?_ _)); exact BK460.out)) : gb460 ≠ gb481)); have n11_ := Aside0.mk ((by rw [hg]; exact Nat.ne_of_gt (blk_lt (g := gb460) (o := .cells #[.bool t455, .bool t456, .bool t457, .bool t458, .bool t459] 41 (0, 0)) (by (with_reducible repeat (first | refine blk_drewN ?_ _ | refine blk_drew ?_ | refine blk_alloc ?_ _)); exact BK460.out)) : gb481 ≠ gb460)); have n12_ := Aside0.mk ((by rw [hg]; exact Nat.ne_of_lt (blk_lt (g := gb467) (o := .cells #[.bool t462, .bool t463, .bool t464, .bool t465, .bool t466] 41 (0, 0)) (by (with_reducible repeat (first | refine blk_drewN ?_ _ | refine blk_drew ?_ | refine blk_alloc ?_ _)); exact BK467.out)) : gb467 ≠ gb481)); have n13_ := Aside0.mk ((by rw [hg]; exact Nat.ne_of_gt (blk_lt (g := gb467) (o := .cells #[.bool t462, .bool t463, .bool t464, .bool t465, .bool t466] 41 (0, 0)) (by (with_reducible repeat (first | refine blk_drewN ?_ _ | refine blk_drew ?_ | refine blk_alloc ?_ _)); exact BK467.out)) : gb481 ≠ gb467)); have n14_ := Aside0.mk ((by rw [hg]; exact Nat.ne_of_lt (blk_lt (g := gb474) (o := .cells #[.bool t469, .bool t470, .bool t471, .bool t472, .bool t473] 41 (0, 0)) (by (with_reducible repeat (first | refine blk_drewN ?_ _ | refine blk_drew ?_ | refine blk_alloc ?_ _)); exact BK474.out)) : gb474 ≠ gb481)); have n15_ := Aside0.mk ((by rw [hg]; exact Nat.ne_of_gt (blk_lt (g := gb474) (o := .cells #[.bool t469, .bool t470, .bool t471, .bool t472, .bool t473] 41 (0, 0)) (by (with_reducible repeat (first | refine blk_drewN ?_ _ | refine blk_drew ?_ | refine blk_alloc ?_ _)); exact BK474.out)) : gb481 ≠ gb474)); clear BK453; clear BK460; clear BK467; clear BK474; clear HB; have BK453 := n0_; have BK460 := n1_; have BK467 := n2_; have BK474 := n3_; have HB := n4_; have BK481 := n5_; have GW481 := n6_; have GE481 := n7_; have NB453_481 := n8_; have NB481_453 := n9_; have NB460_481 := n10_; have NB481_460 := n11_; have NB467_481 := n12_; have NB481_467 := n13_; have NB474_481 := n14_; have NB481_474 := n15_; clear n0_ n1_ n2_ n3_ n4_ n5_ n6_ n7_ n8_ n9_ n10_ n11_ n12_ n13_ n14_ n15_; clear hb hbox hg; have hnb69 := NB481_453.out; have hnc69 := NB453_481.out; have hnb70 := NB481_460.out; have hnc70 := NB460_481.out; have hnb71 := NB481_467.out; have hnc71 := NB467_481.out; have hnb72 := NB481_474.out; have hnc72 := NB474_481.out; have hcz73_0 : w68.cell? ⟨gb481, 0, none⟩ = some (.bool false) := (blk_cell BK481.out 0).trans rfl; have hcz73_1 : w68.cell? ⟨gb481, 1, none⟩ = some (.bool false) := (blk_cell BK481.out 1).trans rfl; have hcz73_2 : w68.cell? ⟨gb481, 2, none⟩ = some (.bool false) := (blk_cell BK481.out 2).trans rfl; have hcz73_3 : w68.cell? ⟨gb481, 3, none⟩ = some (.bool false) := (blk_cell BK481.out 3).trans rfl; have hcz73_4 : w68.cell? ⟨gb481, 4, none⟩ = some (.bool false) := (blk_cell BK481.out 4).trans rfl; have hfz73_0 := blk_frozen BK481.out 0; have hfz73_1 := blk_frozen BK481.out 1; have hfz73_2 := blk_frozen BK481.out 2; have hfz73_3 := blk_frozen BK481.out 3; have hfz73_4 := blk_frozen BK481.out 4) | ((with_reducible refine gate_callee (f := 29) rfl ?_); refine goesL_ (some 86) rfl rfl Try.func29 (by kernel_rfl) rfl #[.int .i64 t445, .bool true] rfl (by (try simp only [List.map_toArray, List.map_cons, List.map_nil]); first | done | rfl | (simp only [List.length_drop, List.length_take]; rfl)) ?_; (with_reducible refine (annealref1_Zero.calls t445 true t482 _ A45.out).mono ?_); rintro e w' ⟨rfl, ⟨nd, rfl⟩⟩; refine ⟨_, rfl, ?_⟩))
      (try simp only [Act.put, List.setIfInBounds_toArray, List.set_cons_zero, List.set_cons_succ])
      go_cut [8] (fun v8 wc => ∃ (kq : Nat) (x8_45 : Bool), v8 = .bool x8_45 ∧ Aside0 (anneallaw8_WholeScales.j1 kq x8_45 = some r) ∧ Aside0 (kq ≤ k) ∧ Aside0 (wc.heap[gb453]? = some (.cells #[.bool t448, .bool t449, .bool t450, .bool t451, .bool t452] 41 (0, 0))) ∧ Aside0 (wc.heap[gb460]? = some (.cells #[.bool t455, .bool t456, .bool t457, .bool t458, .bool t459] 41 (0, 0))) ∧ Aside0 (wc.heap[gb467]? = some (.cells #[.bool t462, .bool t463, .bool t464, .bool t465, .bool t466] 41 (0, 0))) ∧ Aside0 (wc.heap[gb474]? = some (.cells #[.bool t469, .bool t470, .bool t471, .bool t472, .bool t473] 41 (0, 0))) ∧ Aside0 (wc.heap[gb481]? = some (.cells #[.bool t476, .bool t477, .bool t478, .bool t479, .bool t480] 41 (0, 0))) ∧ Aside0 (Below w.heap.size w wc))
      case first =>
        have H := HC46.out
        clear HC46
        by_cases c74 : t454 = t461
        · rw [if_pos c74] at H
          have c74b0 : (t454 == t461) = true := beq_iff_eq.mpr c74
          have c74b1 : (t454 != t461) = false := bne_eq_false_iff_eq.mpr c74
          clear c74
          (first | rw [c74b0] | (simp only [i64_w, i32_w]; rw [c74b0]) | skip)
          by_cases c75 : (!t448 && (!t449 && (!t450 && (!t451 && (!t452))))) = true
          · rw [if_pos c75] at H
            have c75b0 : (!t448 && (!t449 && (!t450 && (!t451 && (!t452))))) = true := c75
            clear c75
            by_cases c76 : (t455 == t448 && (t456 == t449 && (t457 == t450 && (t458 == t451 && (t459 == t452))))) = true
            · rw [if_pos c76] at H
              have c76b0 : (t455 == t448 && (t456 == t449 && (t457 == t450 && (t458 == t451 && (t459 == t452))))) = true := c76
              (try (have c76b1 : decide (t455 = t448 && (t456 == t449 && (t457 == t450 && (t458 == t451 && (t459 == t452))))) = true := by simpa using c76))
              (try (have c76b2 : (t455 == t448 && (t456 == t449 && (t457 == t450 && (t458 == t451 && (t459 == t452))))) = true := by simpa using c76))
              clear c76
              by_cases c77 : (t462 == t448 && (t463 == t449 && (t464 == t450 && (t465 == t451 && (t466 == t452))))) = true
              · rw [if_pos c77] at H
                have c77b0 : (t462 == t448 && (t463 == t449 && (t464 == t450 && (t465 == t451 && (t466 == t452))))) = true := c77
                (try (have c77b1 : decide (t462 = t448 && (t463 == t449 && (t464 == t450 && (t465 == t451 && (t466 == t452))))) = true := by simpa using c77))
                (try (have c77b2 : (t462 == t448 && (t463 == t449 && (t464 == t450 && (t465 == t451 && (t466 == t452))))) = true := by simpa using c77))
                clear c77
                replace H := Option.bind_eq_some_iff.mp H
                obtain ⟨t483, A780, H⟩ := H
                replace H : (if t468 = (Go.bits .or .u32 (Go.bits .and .u32 t446 t482) t483) then (if (!t469 && (!t470 && (t471 && (!t472 && (t473))))) = true then (if t475 = (Go.bits .and .u32 t446 t482) then (anneallaw8_WholeScales.j1 k (!t476 && (!t477 && (!t478 && (t479 && (t480)))))) else (anneallaw8_WholeScales.j1 k false)) else (anneallaw8_WholeScales.j1 k false)) else (anneallaw8_WholeScales.j1 k false)) = some r := H
                have A78 := Aside0.mk A780
                clear A780
                by_cases c79 : t468 = (Go.bits .or .u32 (Go.bits .and .u32 t446 t482) t483)
                · rw [if_pos c79] at H
                  have c79b0 : (t468 == (Go.bits .or .u32 (Go.bits .and .u32 t446 t482) t483)) = true := beq_iff_eq.mpr c79
                  have c79b1 : (t468 != (Go.bits .or .u32 (Go.bits .and .u32 t446 t482) t483)) = false := bne_eq_false_iff_eq.mpr c79
                  clear c79
                  by_cases c80 : (!t469 && (!t470 && (t471 && (!t472 && (t473))))) = true
                  · rw [if_pos c80] at H
                    have c80b0 : (!t469 && (!t470 && (t471 && (!t472 && (t473))))) = true := c80
                    clear c80
                    by_cases c81 : t475 = (Go.bits .and .u32 t446 t482)
                    · rw [if_pos c81] at H
                      have c81b0 : (t475 == (Go.bits .and .u32 t446 t482)) = true := beq_iff_eq.mpr c81
                      have c81b1 : (t475 != (Go.bits .and .u32 t446 t482)) = false := bne_eq_false_iff_eq.mpr c81
                      clear c81
                      have H' := Aside0.mk H
                      clear H
                      have hnb82 := NB453_460.out
                      have hnc82 := NB460_453.out
                      have hnb83 := NB453_467.out
                      have hnc83 := NB467_453.out
                      have hnb84 := NB453_474.out
                      have hnc84 := NB474_453.out
                      have hnb85 := NB453_481.out
                      have hnc85 := NB481_453.out
                      have hcz86_0 : w68.cell? ⟨gb453, 0, none⟩ = some (.bool t448) := (blk_cell BK453.out 0).trans rfl
                      have hcz86_1 : w68.cell? ⟨gb453, 1, none⟩ = some (.bool t449) := (blk_cell BK453.out 1).trans rfl
                      have hcz86_2 : w68.cell? ⟨gb453, 2, none⟩ = some (.bool t450) := (blk_cell BK453.out 2).trans rfl
                      have hcz86_3 : w68.cell? ⟨gb453, 3, none⟩ = some (.bool t451) := (blk_cell BK453.out 3).trans rfl
                      have hcz86_4 : w68.cell? ⟨gb453, 4, none⟩ = some (.bool t452) := (blk_cell BK453.out 4).trans rfl
                      have hfz86_0 := blk_frozen BK453.out 0
                      have hfz86_1 := blk_frozen BK453.out 1
                      have hfz86_2 := blk_frozen BK453.out 2
                      have hfz86_3 := blk_frozen BK453.out 3
                      have hfz86_4 := blk_frozen BK453.out 4
                      have hnb87 := NB460_467.out
                      have hnc87 := NB467_460.out
                      have hnb88 := NB460_474.out
                      have hnc88 := NB474_460.out
                      have hnb89 := NB460_481.out
                      have hnc89 := NB481_460.out
                      have hcz90_0 : w68.cell? ⟨gb460, 0, none⟩ = some (.bool t455) := (blk_cell BK460.out 0).trans rfl
                      have hcz90_1 : w68.cell? ⟨gb460, 1, none⟩ = some (.bool t456) := (blk_cell BK460.out 1).trans rfl
                      have hcz90_2 : w68.cell? ⟨gb460, 2, none⟩ = some (.bool t457) := (blk_cell BK460.out 2).trans rfl
                      have hcz90_3 : w68.cell? ⟨gb460, 3, none⟩ = some (.bool t458) := (blk_cell BK460.out 3).trans rfl
                      have hcz90_4 : w68.cell? ⟨gb460, 4, none⟩ = some (.bool t459) := (blk_cell BK460.out 4).trans rfl
                      have hfz90_0 := blk_frozen BK460.out 0
                      have hfz90_1 := blk_frozen BK460.out 1
                      have hfz90_2 := blk_frozen BK460.out 2
                      have hfz90_3 := blk_frozen BK460.out 3
                      have hfz90_4 := blk_frozen BK460.out 4
                      have hnb91 := NB467_474.out
                      have hnc91 := NB474_467.out
                      have hnb92 := NB467_481.out
                      have hnc92 := NB481_467.out
                      have hcz93_0 : w68.cell? ⟨gb467, 0, none⟩ = some (.bool t462) := (blk_cell BK467.out 0).trans rfl
                      have hcz93_1 : w68.cell? ⟨gb467, 1, none⟩ = some (.bool t463) := (blk_cell BK467.out 1).trans rfl
                      have hcz93_2 : w68.cell? ⟨gb467, 2, none⟩ = some (.bool t464) := (blk_cell BK467.out 2).trans rfl
                      have hcz93_3 : w68.cell? ⟨gb467, 3, none⟩ = some (.bool t465) := (blk_cell BK467.out 3).trans rfl
                      have hcz93_4 : w68.cell? ⟨gb467, 4, none⟩ = some (.bool t466) := (blk_cell BK467.out 4).trans rfl
                      have hfz93_0 := blk_frozen BK467.out 0
                      have hfz93_1 := blk_frozen BK467.out 1
                      have hfz93_2 := blk_frozen BK467.out 2
                      have hfz93_3 := blk_frozen BK467.out 3
                      have hfz93_4 := blk_frozen BK467.out 4
                      go_wp2_with (first | (go_at_call 30; (with_reducible refine (annealref1_Inf.calls t445 false t483 _ A78.out).mono ?_); rintro e w' ⟨rfl, ⟨nd, rfl⟩⟩; have hnb94 := NB474_481.out; have hnc94 := NB481_474.out; have hcz95_0 : w68.cell? ⟨gb474, 0, none⟩ = some (.bool t469) := (blk_cell BK474.out 0).trans rfl; have hcz95_1 : w68.cell? ⟨gb474, 1, none⟩ = some (.bool t470) := (blk_cell BK474.out 1).trans rfl; have hcz95_2 : w68.cell? ⟨gb474, 2, none⟩ = some (.bool t471) := (blk_cell BK474.out 2).trans rfl; have hcz95_3 : w68.cell? ⟨gb474, 3, none⟩ = some (.bool t472) := (blk_cell BK474.out 3).trans rfl; have hcz95_4 : w68.cell? ⟨gb474, 4, none⟩ = some (.bool t473) := (blk_cell BK474.out 4).trans rfl; have hfz95_0 := blk_frozen BK474.out 0; have hfz95_1 := blk_frozen BK474.out 1; have hfz95_2 := blk_frozen BK474.out 2; have hfz95_3 := blk_frozen BK474.out 3; have hfz95_4 := blk_frozen BK474.out 4; have hcz96_0 : w68.cell? ⟨gb481, 0, none⟩ = some (.bool false) := (blk_cell BK481.out 0).trans rfl; have hcz96_1 : w68.cell? ⟨gb481, 1, none⟩ = some (.bool false) := (blk_cell BK481.out 1).trans rfl; have hcz96_2 : w68.cell? ⟨gb481, 2, none⟩ = some (.bool false) := (blk_cell BK481.out 2).trans rfl; have hcz96_3 : w68.cell? ⟨gb481, 3, none⟩ = some (.bool false) := (blk_cell BK481.out 3).trans rfl; have hcz96_4 : w68.cell? ⟨gb481, 4, none⟩ = some (.bool false) := (blk_cell BK481.out 4).trans rfl; have hfz96_0 := blk_frozen BK481.out 0; have hfz96_1 := blk_frozen BK481.out 1; have hfz96_2 := blk_frozen BK481.out 2; have hfz96_3 := blk_frozen BK481.out 3; have hfz96_4 := blk_frozen BK481.out 4))
                      go_meet
                      case rel => exact ⟨_, ((!t476 && (!t477 && (!t478 && (t479 && (t480)))))), (by first | rfl | (simp; done) | (simp [*]; done) | (congr 1; (try unfold wrap64); omega) | (congr 1; rw [IntKind.wrap_u64]; omega)), H', ⟨by first | omega | exact Nat.le_refl _⟩, ⟨by (with_reducible repeat (first | refine blk_drewN ?_ _ | refine blk_drew ?_ | refine blk_alloc ?_ _)); refine blk_far ?_ NB453_481.out _; (with_reducible repeat (first | refine blk_drewN ?_ _ | refine blk_drew ?_ | refine blk_alloc ?_ _)); refine blk_far ?_ NB453_481.out _; (with_reducible repeat (first | refine blk_drewN ?_ _ | refine blk_drew ?_ | refine blk_alloc ?_ _)); refine blk_far ?_ NB453_481.out _; (with_reducible repeat (first | refine blk_drewN ?_ _ | refine blk_drew ?_ | refine blk_alloc ?_ _)); refine blk_far ?_ NB453_481.out _; (with_reducible repeat (first | refine blk_drewN ?_ _ | refine blk_drew ?_ | refine blk_alloc ?_ _)); refine blk_far ?_ NB453_481.out _; (with_reducible repeat (first | refine blk_drewN ?_ _ | refine blk_drew ?_ | refine blk_alloc ?_ _)); exact BK453.out⟩, ⟨by (with_reducible repeat (first | refine blk_drewN ?_ _ | refine blk_drew ?_ | refine blk_alloc ?_ _)); refine blk_far ?_ NB460_481.out _; (with_reducible repeat (first | refine blk_drewN ?_ _ | refine blk_drew ?_ | refine blk_alloc ?_ _)); refine blk_far ?_ NB460_481.out _; (with_reducible repeat (first | refine blk_drewN ?_ _ | refine blk_drew ?_ | refine blk_alloc ?_ _)); refine blk_far ?_ NB460_481.out _; (with_reducible repeat (first | refine blk_drewN ?_ _ | refine blk_drew ?_ | refine blk_alloc ?_ _)); refine blk_far ?_ NB460_481.out _; (with_reducible repeat (first | refine blk_drewN ?_ _ | refine blk_drew ?_ | refine blk_alloc ?_ _)); refine blk_far ?_ NB460_481.out _; (with_reducible repeat (first | refine blk_drewN ?_ _ | refine blk_drew ?_ | refine blk_alloc ?_ _)); exact BK460.out⟩, ⟨by (with_reducible repeat (first | refine blk_drewN ?_ _ | refine blk_drew ?_ | refine blk_alloc ?_ _)); refine blk_far ?_ NB467_481.out _; (with_reducible repeat (first | refine blk_drewN ?_ _ | refine blk_drew ?_ | refine blk_alloc ?_ _)); refine blk_far ?_ NB467_481.out _; (with_reducible repeat (first | refine blk_drewN ?_ _ | refine blk_drew ?_ | refine blk_alloc ?_ _)); refine blk_far ?_ NB467_481.out _; (with_reducible repeat (first | refine blk_drewN ?_ _ | refine blk_drew ?_ | refine blk_alloc ?_ _)); refine blk_far ?_ NB467_481.out _; (with_reducible repeat (first | refine blk_drewN ?_ _ | refine blk_drew ?_ | refine blk_alloc ?_ _)); refine blk_far ?_ NB467_481.out _; (with_reducible repeat (first | refine blk_drewN ?_ _ | refine blk_drew ?_ | refine blk_alloc ?_ _)); exact BK467.out⟩, ⟨by (with_reducible repeat (first | refine blk_drewN ?_ _ | refine blk_drew ?_ | refine blk_alloc ?_ _)); refine blk_far ?_ NB474_481.out _; (with_reducible repeat (first | refine blk_drewN ?_ _ | refine blk_drew ?_ | refine blk_alloc ?_ _)); refine blk_far ?_ NB474_481.out _; (with_reducible repeat (first | refine blk_drewN ?_ _ | refine blk_drew ?_ | refine blk_alloc ?_ _)); refine blk_far ?_ NB474_481.out _; (with_reducible repeat (first | refine blk_drewN ?_ _ | refine blk_drew ?_ | refine blk_alloc ?_ _)); refine blk_far ?_ NB474_481.out _; (with_reducible repeat (first | refine blk_drewN ?_ _ | refine blk_drew ?_ | refine blk_alloc ?_ _)); refine blk_far ?_ NB474_481.out _; (with_reducible repeat (first | refine blk_drewN ?_ _ | refine blk_drew ?_ | refine blk_alloc ?_ _)); exact BK474.out⟩, ⟨by (with_reducible repeat (first | refine blk_drewN ?_ _ | refine blk_drew ?_ | refine blk_alloc ?_ _)); refine blk_put (cs := #[.bool t476, .bool t477, .bool t478, .bool t479, .bool false]) ?_ 4 _ rfl; (with_reducible repeat (first | refine blk_drewN ?_ _ | refine blk_drew ?_ | refine blk_alloc ?_ _)); refine blk_put (cs := #[.bool t476, .bool t477, .bool t478, .bool false, .bool false]) ?_ 3 _ rfl; (with_reducible repeat (first | refine blk_drewN ?_ _ | refine blk_drew ?_ | refine blk_alloc ?_ _)); refine blk_put (cs := #[.bool t476, .bool t477, .bool false, .bool false, .bool false]) ?_ 2 _ rfl; (with_reducible repeat (first | refine blk_drewN ?_ _ | refine blk_drew ?_ | refine blk_alloc ?_ _)); refine blk_put (cs := #[.bool t476, .bool false, .bool false, .bool false, .bool false]) ?_ 1 _ rfl; (with_reducible repeat (first | refine blk_drewN ?_ _ | refine blk_drew ?_ | refine blk_alloc ?_ _)); refine blk_put (cs := #[.bool false, .bool false, .bool false, .bool false, .bool false]) ?_ 0 _ rfl; (with_reducible repeat (first | refine blk_drewN ?_ _ | refine blk_drew ?_ | refine blk_alloc ?_ _)); exact BK481.out⟩, ⟨by repeat (first | (with_reducible first | exact HB.out | apply below_alloc | apply pw_below_drewN | apply below_drew1 | refine below_set ?_ GE453.out | refine below_set ?_ GE460.out | refine below_set ?_ GE467.out | refine below_set ?_ GE474.out | refine below_set ?_ GE481.out) | exact HB.out)⟩⟩
                    · rw [if_neg c81] at H
                      have c81b0 : (t475 == (Go.bits .and .u32 t446 t482)) = false := beq_eq_false_iff_ne.mpr c81
                      have c81b1 : (t475 != (Go.bits .and .u32 t446 t482)) = true := bne_iff_ne.mpr c81
                      have H' := Aside0.mk H
                      clear H
                      have hnb97 := NB453_460.out
                      have hnc97 := NB460_453.out
                      have hnb98 := NB453_467.out
                      have hnc98 := NB467_453.out
                      have hnb99 := NB453_474.out
                      have hnc99 := NB474_453.out
                      have hnb100 := NB453_481.out
                      have hnc100 := NB481_453.out
                      have hcz101_0 : w68.cell? ⟨gb453, 0, none⟩ = some (.bool t448) := (blk_cell BK453.out 0).trans rfl
                      have hcz101_1 : w68.cell? ⟨gb453, 1, none⟩ = some (.bool t449) := (blk_cell BK453.out 1).trans rfl
                      have hcz101_2 : w68.cell? ⟨gb453, 2, none⟩ = some (.bool t450) := (blk_cell BK453.out 2).trans rfl
                      have hcz101_3 : w68.cell? ⟨gb453, 3, none⟩ = some (.bool t451) := (blk_cell BK453.out 3).trans rfl
                      have hcz101_4 : w68.cell? ⟨gb453, 4, none⟩ = some (.bool t452) := (blk_cell BK453.out 4).trans rfl
                      have hfz101_0 := blk_frozen BK453.out 0
                      have hfz101_1 := blk_frozen BK453.out 1
                      have hfz101_2 := blk_frozen BK453.out 2
                      have hfz101_3 := blk_frozen BK453.out 3
                      have hfz101_4 := blk_frozen BK453.out 4
                      have hnb102 := NB460_467.out
                      have hnc102 := NB467_460.out
                      have hnb103 := NB460_474.out
                      have hnc103 := NB474_460.out
                      have hnb104 := NB460_481.out
                      have hnc104 := NB481_460.out
                      have hcz105_0 : w68.cell? ⟨gb460, 0, none⟩ = some (.bool t455) := (blk_cell BK460.out 0).trans rfl
                      have hcz105_1 : w68.cell? ⟨gb460, 1, none⟩ = some (.bool t456) := (blk_cell BK460.out 1).trans rfl
                      have hcz105_2 : w68.cell? ⟨gb460, 2, none⟩ = some (.bool t457) := (blk_cell BK460.out 2).trans rfl
                      have hcz105_3 : w68.cell? ⟨gb460, 3, none⟩ = some (.bool t458) := (blk_cell BK460.out 3).trans rfl
                      have hcz105_4 : w68.cell? ⟨gb460, 4, none⟩ = some (.bool t459) := (blk_cell BK460.out 4).trans rfl
                      have hfz105_0 := blk_frozen BK460.out 0
                      have hfz105_1 := blk_frozen BK460.out 1
                      have hfz105_2 := blk_frozen BK460.out 2
                      have hfz105_3 := blk_frozen BK460.out 3
                      have hfz105_4 := blk_frozen BK460.out 4
                      have hnb106 := NB467_474.out
                      have hnc106 := NB474_467.out
                      have hnb107 := NB467_481.out
                      have hnc107 := NB481_467.out
                      have hcz108_0 : w68.cell? ⟨gb467, 0, none⟩ = some (.bool t462) := (blk_cell BK467.out 0).trans rfl
                      have hcz108_1 : w68.cell? ⟨gb467, 1, none⟩ = some (.bool t463) := (blk_cell BK467.out 1).trans rfl
                      have hcz108_2 : w68.cell? ⟨gb467, 2, none⟩ = some (.bool t464) := (blk_cell BK467.out 2).trans rfl
                      have hcz108_3 : w68.cell? ⟨gb467, 3, none⟩ = some (.bool t465) := (blk_cell BK467.out 3).trans rfl
                      have hcz108_4 : w68.cell? ⟨gb467, 4, none⟩ = some (.bool t466) := (blk_cell BK467.out 4).trans rfl
                      have hfz108_0 := blk_frozen BK467.out 0
                      have hfz108_1 := blk_frozen BK467.out 1
                      have hfz108_2 := blk_frozen BK467.out 2
                      have hfz108_3 := blk_frozen BK467.out 3
                      have hfz108_4 := blk_frozen BK467.out 4
                      go_wp2_with (first | (go_at_call 30; (with_reducible refine (annealref1_Inf.calls t445 false t483 _ A78.out).mono ?_); rintro e w' ⟨rfl, ⟨nd, rfl⟩⟩; have hnb109 := NB474_481.out; have hnc109 := NB481_474.out; have hcz110_0 : w68.cell? ⟨gb474, 0, none⟩ = some (.bool t469) := (blk_cell BK474.out 0).trans rfl; have hcz110_1 : w68.cell? ⟨gb474, 1, none⟩ = some (.bool t470) := (blk_cell BK474.out 1).trans rfl; have hcz110_2 : w68.cell? ⟨gb474, 2, none⟩ = some (.bool t471) := (blk_cell BK474.out 2).trans rfl; have hcz110_3 : w68.cell? ⟨gb474, 3, none⟩ = some (.bool t472) := (blk_cell BK474.out 3).trans rfl; have hcz110_4 : w68.cell? ⟨gb474, 4, none⟩ = some (.bool t473) := (blk_cell BK474.out 4).trans rfl; have hfz110_0 := blk_frozen BK474.out 0; have hfz110_1 := blk_frozen BK474.out 1; have hfz110_2 := blk_frozen BK474.out 2; have hfz110_3 := blk_frozen BK474.out 3; have hfz110_4 := blk_frozen BK474.out 4))
                      go_meet
                      case rel => exact ⟨_, (false), (by first | rfl | (simp; done) | (simp [*]; done) | (congr 1; (try unfold wrap64); omega) | (congr 1; rw [IntKind.wrap_u64]; omega)), H', ⟨by first | omega | exact Nat.le_refl _⟩, ⟨by (with_reducible repeat (first | refine blk_drewN ?_ _ | refine blk_drew ?_ | refine blk_alloc ?_ _)); refine blk_far ?_ NB453_481.out _; (with_reducible repeat (first | refine blk_drewN ?_ _ | refine blk_drew ?_ | refine blk_alloc ?_ _)); refine blk_far ?_ NB453_481.out _; (with_reducible repeat (first | refine blk_drewN ?_ _ | refine blk_drew ?_ | refine blk_alloc ?_ _)); refine blk_far ?_ NB453_481.out _; (with_reducible repeat (first | refine blk_drewN ?_ _ | refine blk_drew ?_ | refine blk_alloc ?_ _)); refine blk_far ?_ NB453_481.out _; (with_reducible repeat (first | refine blk_drewN ?_ _ | refine blk_drew ?_ | refine blk_alloc ?_ _)); refine blk_far ?_ NB453_481.out _; (with_reducible repeat (first | refine blk_drewN ?_ _ | refine blk_drew ?_ | refine blk_alloc ?_ _)); exact BK453.out⟩, ⟨by (with_reducible repeat (first | refine blk_drewN ?_ _ | refine blk_drew ?_ | refine blk_alloc ?_ _)); refine blk_far ?_ NB460_481.out _; (with_reducible repeat (first | refine blk_drewN ?_ _ | refine blk_drew ?_ | refine blk_alloc ?_ _)); refine blk_far ?_ NB460_481.out _; (with_reducible repeat (first | refine blk_drewN ?_ _ | refine blk_drew ?_ | refine blk_alloc ?_ _)); refine blk_far ?_ NB460_481.out _; (with_reducible repeat (first | refine blk_drewN ?_ _ | refine blk_drew ?_ | refine blk_alloc ?_ _)); refine blk_far ?_ NB460_481.out _; (with_reducible repeat (first | refine blk_drewN ?_ _ | refine blk_drew ?_ | refine blk_alloc ?_ _)); refine blk_far ?_ NB460_481.out _; (with_reducible repeat (first | refine blk_drewN ?_ _ | refine blk_drew ?_ | refine blk_alloc ?_ _)); exact BK460.out⟩, ⟨by (with_reducible repeat (first | refine blk_drewN ?_ _ | refine blk_drew ?_ | refine blk_alloc ?_ _)); refine blk_far ?_ NB467_481.out _; (with_reducible repeat (first | refine blk_drewN ?_ _ | refine blk_drew ?_ | refine blk_alloc ?_ _)); refine blk_far ?_ NB467_481.out _; (with_reducible repeat (first | refine blk_drewN ?_ _ | refine blk_drew ?_ | refine blk_alloc ?_ _)); refine blk_far ?_ NB467_481.out _; (with_reducible repeat (first | refine blk_drewN ?_ _ | refine blk_drew ?_ | refine blk_alloc ?_ _)); refine blk_far ?_ NB467_481.out _; (with_reducible repeat (first | refine blk_drewN ?_ _ | refine blk_drew ?_ | refine blk_alloc ?_ _)); refine blk_far ?_ NB467_481.out _; (with_reducible repeat (first | refine blk_drewN ?_ _ | refine blk_drew ?_ | refine blk_alloc ?_ _)); exact BK467.out⟩, ⟨by (with_reducible repeat (first | refine blk_drewN ?_ _ | refine blk_drew ?_ | refine blk_alloc ?_ _)); refine blk_far ?_ NB474_481.out _; (with_reducible repeat (first | refine blk_drewN ?_ _ | refine blk_drew ?_ | refine blk_alloc ?_ _)); refine blk_far ?_ NB474_481.out _; (with_reducible repeat (first | refine blk_drewN ?_ _ | refine blk_drew ?_ | refine blk_alloc ?_ _)); refine blk_far ?_ NB474_481.out _; (with_reducible repeat (first | refine blk_drewN ?_ _ | refine blk_drew ?_ | refine blk_alloc ?_ _)); refine blk_far ?_ NB474_481.out _; (with_reducible repeat (first | refine blk_drewN ?_ _ | refine blk_drew ?_ | refine blk_alloc ?_ _)); refine blk_far ?_ NB474_481.out _; (with_reducible repeat (first | refine blk_drewN ?_ _ | refine blk_drew ?_ | refine blk_alloc ?_ _)); exact BK474.out⟩, ⟨by (with_reducible repeat (first | refine blk_drewN ?_ _ | refine blk_drew ?_ | refine blk_alloc ?_ _)); refine blk_put (cs := #[.bool t476, .bool t477, .bool t478, .bool t479, .bool false]) ?_ 4 _ rfl; (with_reducible repeat (first | refine blk_drewN ?_ _ | refine blk_drew ?_ | refine blk_alloc ?_ _)); refine blk_put (cs := #[.bool t476, .bool t477, .bool t478, .bool false, .bool false]) ?_ 3 _ rfl; (with_reducible repeat (first | refine blk_drewN ?_ _ | refine blk_drew ?_ | refine blk_alloc ?_ _)); refine blk_put (cs := #[.bool t476, .bool t477, .bool false, .bool false, .bool false]) ?_ 2 _ rfl; (with_reducible repeat (first | refine blk_drewN ?_ _ | refine blk_drew ?_ | refine blk_alloc ?_ _)); refine blk_put (cs := #[.bool t476, .bool false, .bool false, .bool false, .bool false]) ?_ 1 _ rfl; (with_reducible repeat (first | refine blk_drewN ?_ _ | refine blk_drew ?_ | refine blk_alloc ?_ _)); refine blk_put (cs := #[.bool false, .bool false, .bool false, .bool false, .bool false]) ?_ 0 _ rfl; (with_reducible repeat (first | refine blk_drewN ?_ _ | refine blk_drew ?_ | refine blk_alloc ?_ _)); exact BK481.out⟩, ⟨by repeat (first | (with_reducible first | exact HB.out | apply below_alloc | apply pw_below_drewN | apply below_drew1 | refine below_set ?_ GE453.out | refine below_set ?_ GE460.out | refine below_set ?_ GE467.out | refine below_set ?_ GE474.out | refine below_set ?_ GE481.out) | exact HB.out)⟩⟩
                  · rw [if_neg c80] at H
                    have c80b0 : (!t469 && (!t470 && (t471 && (!t472 && (t473))))) = false := by simpa using c80
                    clear c80
                    have H' := Aside0.mk H
                    clear H
                    have hnb111 := NB453_460.out
                    have hnc111 := NB460_453.out
                    have hnb112 := NB453_467.out
                    have hnc112 := NB467_453.out
                    have hnb113 := NB453_474.out
                    have hnc113 := NB474_453.out
                    have hnb114 := NB453_481.out
                    have hnc114 := NB481_453.out
                    have hcz115_0 : w68.cell? ⟨gb453, 0, none⟩ = some (.bool t448) := (blk_cell BK453.out 0).trans rfl
                    have hcz115_1 : w68.cell? ⟨gb453, 1, none⟩ = some (.bool t449) := (blk_cell BK453.out 1).trans rfl
                    have hcz115_2 : w68.cell? ⟨gb453, 2, none⟩ = some (.bool t450) := (blk_cell BK453.out 2).trans rfl
                    have hcz115_3 : w68.cell? ⟨gb453, 3, none⟩ = some (.bool t451) := (blk_cell BK453.out 3).trans rfl
                    have hcz115_4 : w68.cell? ⟨gb453, 4, none⟩ = some (.bool t452) := (blk_cell BK453.out 4).trans rfl
                    have hfz115_0 := blk_frozen BK453.out 0
                    have hfz115_1 := blk_frozen BK453.out 1
                    have hfz115_2 := blk_frozen BK453.out 2
                    have hfz115_3 := blk_frozen BK453.out 3
                    have hfz115_4 := blk_frozen BK453.out 4
                    have hnb116 := NB460_467.out
                    have hnc116 := NB467_460.out
                    have hnb117 := NB460_474.out
                    have hnc117 := NB474_460.out
                    have hnb118 := NB460_481.out
                    have hnc118 := NB481_460.out
                    have hcz119_0 : w68.cell? ⟨gb460, 0, none⟩ = some (.bool t455) := (blk_cell BK460.out 0).trans rfl
                    have hcz119_1 : w68.cell? ⟨gb460, 1, none⟩ = some (.bool t456) := (blk_cell BK460.out 1).trans rfl
                    have hcz119_2 : w68.cell? ⟨gb460, 2, none⟩ = some (.bool t457) := (blk_cell BK460.out 2).trans rfl
                    have hcz119_3 : w68.cell? ⟨gb460, 3, none⟩ = some (.bool t458) := (blk_cell BK460.out 3).trans rfl
                    have hcz119_4 : w68.cell? ⟨gb460, 4, none⟩ = some (.bool t459) := (blk_cell BK460.out 4).trans rfl
                    have hfz119_0 := blk_frozen BK460.out 0
                    have hfz119_1 := blk_frozen BK460.out 1
                    have hfz119_2 := blk_frozen BK460.out 2
                    have hfz119_3 := blk_frozen BK460.out 3
                    have hfz119_4 := blk_frozen BK460.out 4
                    have hnb120 := NB467_474.out
                    have hnc120 := NB474_467.out
                    have hnb121 := NB467_481.out
                    have hnc121 := NB481_467.out
                    have hcz122_0 : w68.cell? ⟨gb467, 0, none⟩ = some (.bool t462) := (blk_cell BK467.out 0).trans rfl
                    have hcz122_1 : w68.cell? ⟨gb467, 1, none⟩ = some (.bool t463) := (blk_cell BK467.out 1).trans rfl
                    have hcz122_2 : w68.cell? ⟨gb467, 2, none⟩ = some (.bool t464) := (blk_cell BK467.out 2).trans rfl
                    have hcz122_3 : w68.cell? ⟨gb467, 3, none⟩ = some (.bool t465) := (blk_cell BK467.out 3).trans rfl
                    have hcz122_4 : w68.cell? ⟨gb467, 4, none⟩ = some (.bool t466) := (blk_cell BK467.out 4).trans rfl
                    have hfz122_0 := blk_frozen BK467.out 0
                    have hfz122_1 := blk_frozen BK467.out 1
                    have hfz122_2 := blk_frozen BK467.out 2
                    have hfz122_3 := blk_frozen BK467.out 3
                    have hfz122_4 := blk_frozen BK467.out 4
                    go_wp2_with (first | (go_at_call 30; (with_reducible refine (annealref1_Inf.calls t445 false t483 _ A78.out).mono ?_); rintro e w' ⟨rfl, ⟨nd, rfl⟩⟩; have hnb123 := NB474_481.out; have hnc123 := NB481_474.out; have hcz124_0 : w68.cell? ⟨gb474, 0, none⟩ = some (.bool t469) := (blk_cell BK474.out 0).trans rfl; have hcz124_1 : w68.cell? ⟨gb474, 1, none⟩ = some (.bool t470) := (blk_cell BK474.out 1).trans rfl; have hcz124_2 : w68.cell? ⟨gb474, 2, none⟩ = some (.bool t471) := (blk_cell BK474.out 2).trans rfl; have hcz124_3 : w68.cell? ⟨gb474, 3, none⟩ = some (.bool t472) := (blk_cell BK474.out 3).trans rfl; have hcz124_4 : w68.cell? ⟨gb474, 4, none⟩ = some (.bool t473) := (blk_cell BK474.out 4).trans rfl; have hfz124_0 := blk_frozen BK474.out 0; have hfz124_1 := blk_frozen BK474.out 1; have hfz124_2 := blk_frozen BK474.out 2; have hfz124_3 := blk_frozen BK474.out 3; have hfz124_4 := blk_frozen BK474.out 4))
                    go_meet
                    case rel => exact ⟨_, (false), (by first | rfl | (simp; done) | (simp [*]; done) | (congr 1; (try unfold wrap64); omega) | (congr 1; rw [IntKind.wrap_u64]; omega)), H', ⟨by first | omega | exact Nat.le_refl _⟩, ⟨by (with_reducible repeat (first | refine blk_drewN ?_ _ | refine blk_drew ?_ | refine blk_alloc ?_ _)); refine blk_far ?_ NB453_481.out _; (with_reducible repeat (first | refine blk_drewN ?_ _ | refine blk_drew ?_ | refine blk_alloc ?_ _)); refine blk_far ?_ NB453_481.out _; (with_reducible repeat (first | refine blk_drewN ?_ _ | refine blk_drew ?_ | refine blk_alloc ?_ _)); refine blk_far ?_ NB453_481.out _; (with_reducible repeat (first | refine blk_drewN ?_ _ | refine blk_drew ?_ | refine blk_alloc ?_ _)); refine blk_far ?_ NB453_481.out _; (with_reducible repeat (first | refine blk_drewN ?_ _ | refine blk_drew ?_ | refine blk_alloc ?_ _)); refine blk_far ?_ NB453_481.out _; (with_reducible repeat (first | refine blk_drewN ?_ _ | refine blk_drew ?_ | refine blk_alloc ?_ _)); exact BK453.out⟩, ⟨by (with_reducible repeat (first | refine blk_drewN ?_ _ | refine blk_drew ?_ | refine blk_alloc ?_ _)); refine blk_far ?_ NB460_481.out _; (with_reducible repeat (first | refine blk_drewN ?_ _ | refine blk_drew ?_ | refine blk_alloc ?_ _)); refine blk_far ?_ NB460_481.out _; (with_reducible repeat (first | refine blk_drewN ?_ _ | refine blk_drew ?_ | refine blk_alloc ?_ _)); refine blk_far ?_ NB460_481.out _; (with_reducible repeat (first | refine blk_drewN ?_ _ | refine blk_drew ?_ | refine blk_alloc ?_ _)); refine blk_far ?_ NB460_481.out _; (with_reducible repeat (first | refine blk_drewN ?_ _ | refine blk_drew ?_ | refine blk_alloc ?_ _)); refine blk_far ?_ NB460_481.out _; (with_reducible repeat (first | refine blk_drewN ?_ _ | refine blk_drew ?_ | refine blk_alloc ?_ _)); exact BK460.out⟩, ⟨by (with_reducible repeat (first | refine blk_drewN ?_ _ | refine blk_drew ?_ | refine blk_alloc ?_ _)); refine blk_far ?_ NB467_481.out _; (with_reducible repeat (first | refine blk_drewN ?_ _ | refine blk_drew ?_ | refine blk_alloc ?_ _)); refine blk_far ?_ NB467_481.out _; (with_reducible repeat (first | refine blk_drewN ?_ _ | refine blk_drew ?_ | refine blk_alloc ?_ _)); refine blk_far ?_ NB467_481.out _; (with_reducible repeat (first | refine blk_drewN ?_ _ | refine blk_drew ?_ | refine blk_alloc ?_ _)); refine blk_far ?_ NB467_481.out _; (with_reducible repeat (first | refine blk_drewN ?_ _ | refine blk_drew ?_ | refine blk_alloc ?_ _)); refine blk_far ?_ NB467_481.out _; (with_reducible repeat (first | refine blk_drewN ?_ _ | refine blk_drew ?_ | refine blk_alloc ?_ _)); exact BK467.out⟩, ⟨by (with_reducible repeat (first | refine blk_drewN ?_ _ | refine blk_drew ?_ | refine blk_alloc ?_ _)); refine blk_far ?_ NB474_481.out _; (with_reducible repeat (first | refine blk_drewN ?_ _ | refine blk_drew ?_ | refine blk_alloc ?_ _)); refine blk_far ?_ NB474_481.out _; (with_reducible repeat (first | refine blk_drewN ?_ _ | refine blk_drew ?_ | refine blk_alloc ?_ _)); refine blk_far ?_ NB474_481.out _; (with_reducible repeat (first | refine blk_drewN ?_ _ | refine blk_drew ?_ | refine blk_alloc ?_ _)); refine blk_far ?_ NB474_481.out _; (with_reducible repeat (first | refine blk_drewN ?_ _ | refine blk_drew ?_ | refine blk_alloc ?_ _)); refine blk_far ?_ NB474_481.out _; (with_reducible repeat (first | refine blk_drewN ?_ _ | refine blk_drew ?_ | refine blk_alloc ?_ _)); exact BK474.out⟩, ⟨by (with_reducible repeat (first | refine blk_drewN ?_ _ | refine blk_drew ?_ | refine blk_alloc ?_ _)); refine blk_put (cs := #[.bool t476, .bool t477, .bool t478, .bool t479, .bool false]) ?_ 4 _ rfl; (with_reducible repeat (first | refine blk_drewN ?_ _ | refine blk_drew ?_ | refine blk_alloc ?_ _)); refine blk_put (cs := #[.bool t476, .bool t477, .bool t478, .bool false, .bool false]) ?_ 3 _ rfl; (with_reducible repeat (first | refine blk_drewN ?_ _ | refine blk_drew ?_ | refine blk_alloc ?_ _)); refine blk_put (cs := #[.bool t476, .bool t477, .bool false, .bool false, .bool false]) ?_ 2 _ rfl; (with_reducible repeat (first | refine blk_drewN ?_ _ | refine blk_drew ?_ | refine blk_alloc ?_ _)); refine blk_put (cs := #[.bool t476, .bool false, .bool false, .bool false, .bool false]) ?_ 1 _ rfl; (with_reducible repeat (first | refine blk_drewN ?_ _ | refine blk_drew ?_ | refine blk_alloc ?_ _)); refine blk_put (cs := #[.bool false, .bool false, .bool false, .bool false, .bool false]) ?_ 0 _ rfl; (with_reducible repeat (first | refine blk_drewN ?_ _ | refine blk_drew ?_ | refine blk_alloc ?_ _)); exact BK481.out⟩, ⟨by repeat (first | (with_reducible first | exact HB.out | apply below_alloc | apply pw_below_drewN | apply below_drew1 | refine below_set ?_ GE453.out | refine below_set ?_ GE460.out | refine below_set ?_ GE467.out | refine below_set ?_ GE474.out | refine below_set ?_ GE481.out) | exact HB.out)⟩⟩
                · rw [if_neg c79] at H
                  have c79b0 : (t468 == (Go.bits .or .u32 (Go.bits .and .u32 t446 t482) t483)) = false := beq_eq_false_iff_ne.mpr c79
                  have c79b1 : (t468 != (Go.bits .or .u32 (Go.bits .and .u32 t446 t482) t483)) = true := bne_iff_ne.mpr c79
                  have H' := Aside0.mk H
                  clear H
                  have hnb125 := NB453_460.out
                  have hnc125 := NB460_453.out
                  have hnb126 := NB453_467.out
                  have hnc126 := NB467_453.out
                  have hnb127 := NB453_474.out
                  have hnc127 := NB474_453.out
                  have hnb128 := NB453_481.out
                  have hnc128 := NB481_453.out
                  have hcz129_0 : w68.cell? ⟨gb453, 0, none⟩ = some (.bool t448) := (blk_cell BK453.out 0).trans rfl
                  have hcz129_1 : w68.cell? ⟨gb453, 1, none⟩ = some (.bool t449) := (blk_cell BK453.out 1).trans rfl
                  have hcz129_2 : w68.cell? ⟨gb453, 2, none⟩ = some (.bool t450) := (blk_cell BK453.out 2).trans rfl
                  have hcz129_3 : w68.cell? ⟨gb453, 3, none⟩ = some (.bool t451) := (blk_cell BK453.out 3).trans rfl
                  have hcz129_4 : w68.cell? ⟨gb453, 4, none⟩ = some (.bool t452) := (blk_cell BK453.out 4).trans rfl
                  have hfz129_0 := blk_frozen BK453.out 0
                  have hfz129_1 := blk_frozen BK453.out 1
                  have hfz129_2 := blk_frozen BK453.out 2
                  have hfz129_3 := blk_frozen BK453.out 3
                  have hfz129_4 := blk_frozen BK453.out 4
                  have hnb130 := NB460_467.out
                  have hnc130 := NB467_460.out
                  have hnb131 := NB460_474.out
                  have hnc131 := NB474_460.out
                  have hnb132 := NB460_481.out
                  have hnc132 := NB481_460.out
                  have hcz133_0 : w68.cell? ⟨gb460, 0, none⟩ = some (.bool t455) := (blk_cell BK460.out 0).trans rfl
                  have hcz133_1 : w68.cell? ⟨gb460, 1, none⟩ = some (.bool t456) := (blk_cell BK460.out 1).trans rfl
                  have hcz133_2 : w68.cell? ⟨gb460, 2, none⟩ = some (.bool t457) := (blk_cell BK460.out 2).trans rfl
                  have hcz133_3 : w68.cell? ⟨gb460, 3, none⟩ = some (.bool t458) := (blk_cell BK460.out 3).trans rfl
                  have hcz133_4 : w68.cell? ⟨gb460, 4, none⟩ = some (.bool t459) := (blk_cell BK460.out 4).trans rfl
                  have hfz133_0 := blk_frozen BK460.out 0
                  have hfz133_1 := blk_frozen BK460.out 1
                  have hfz133_2 := blk_frozen BK460.out 2
                  have hfz133_3 := blk_frozen BK460.out 3
                  have hfz133_4 := blk_frozen BK460.out 4
                  have hnb134 := NB467_474.out
                  have hnc134 := NB474_467.out
                  have hnb135 := NB467_481.out
                  have hnc135 := NB481_467.out
                  have hcz136_0 : w68.cell? ⟨gb467, 0, none⟩ = some (.bool t462) := (blk_cell BK467.out 0).trans rfl
                  have hcz136_1 : w68.cell? ⟨gb467, 1, none⟩ = some (.bool t463) := (blk_cell BK467.out 1).trans rfl
                  have hcz136_2 : w68.cell? ⟨gb467, 2, none⟩ = some (.bool t464) := (blk_cell BK467.out 2).trans rfl
                  have hcz136_3 : w68.cell? ⟨gb467, 3, none⟩ = some (.bool t465) := (blk_cell BK467.out 3).trans rfl
                  have hcz136_4 : w68.cell? ⟨gb467, 4, none⟩ = some (.bool t466) := (blk_cell BK467.out 4).trans rfl
                  have hfz136_0 := blk_frozen BK467.out 0
                  have hfz136_1 := blk_frozen BK467.out 1
                  have hfz136_2 := blk_frozen BK467.out 2
                  have hfz136_3 := blk_frozen BK467.out 3
                  have hfz136_4 := blk_frozen BK467.out 4
                  go_wp2_with (first | (go_at_call 30; (with_reducible refine (annealref1_Inf.calls t445 false t483 _ A78.out).mono ?_); rintro e w' ⟨rfl, ⟨nd, rfl⟩⟩))
                  go_meet
                  case rel => exact ⟨_, (false), (by first | rfl | (simp; done) | (simp [*]; done) | (congr 1; (try unfold wrap64); omega) | (congr 1; rw [IntKind.wrap_u64]; omega)), H', ⟨by first | omega | exact Nat.le_refl _⟩, ⟨by (with_reducible repeat (first | refine blk_drewN ?_ _ | refine blk_drew ?_ | refine blk_alloc ?_ _)); refine blk_far ?_ NB453_481.out _; (with_reducible repeat (first | refine blk_drewN ?_ _ | refine blk_drew ?_ | refine blk_alloc ?_ _)); refine blk_far ?_ NB453_481.out _; (with_reducible repeat (first | refine blk_drewN ?_ _ | refine blk_drew ?_ | refine blk_alloc ?_ _)); refine blk_far ?_ NB453_481.out _; (with_reducible repeat (first | refine blk_drewN ?_ _ | refine blk_drew ?_ | refine blk_alloc ?_ _)); refine blk_far ?_ NB453_481.out _; (with_reducible repeat (first | refine blk_drewN ?_ _ | refine blk_drew ?_ | refine blk_alloc ?_ _)); refine blk_far ?_ NB453_481.out _; (with_reducible repeat (first | refine blk_drewN ?_ _ | refine blk_drew ?_ | refine blk_alloc ?_ _)); exact BK453.out⟩, ⟨by (with_reducible repeat (first | refine blk_drewN ?_ _ | refine blk_drew ?_ | refine blk_alloc ?_ _)); refine blk_far ?_ NB460_481.out _; (with_reducible repeat (first | refine blk_drewN ?_ _ | refine blk_drew ?_ | refine blk_alloc ?_ _)); refine blk_far ?_ NB460_481.out _; (with_reducible repeat (first | refine blk_drewN ?_ _ | refine blk_drew ?_ | refine blk_alloc ?_ _)); refine blk_far ?_ NB460_481.out _; (with_reducible repeat (first | refine blk_drewN ?_ _ | refine blk_drew ?_ | refine blk_alloc ?_ _)); refine blk_far ?_ NB460_481.out _; (with_reducible repeat (first | refine blk_drewN ?_ _ | refine blk_drew ?_ | refine blk_alloc ?_ _)); refine blk_far ?_ NB460_481.out _; (with_reducible repeat (first | refine blk_drewN ?_ _ | refine blk_drew ?_ | refine blk_alloc ?_ _)); exact BK460.out⟩, ⟨by (with_reducible repeat (first | refine blk_drewN ?_ _ | refine blk_drew ?_ | refine blk_alloc ?_ _)); refine blk_far ?_ NB467_481.out _; (with_reducible repeat (first | refine blk_drewN ?_ _ | refine blk_drew ?_ | refine blk_alloc ?_ _)); refine blk_far ?_ NB467_481.out _; (with_reducible repeat (first | refine blk_drewN ?_ _ | refine blk_drew ?_ | refine blk_alloc ?_ _)); refine blk_far ?_ NB467_481.out _; (with_reducible repeat (first | refine blk_drewN ?_ _ | refine blk_drew ?_ | refine blk_alloc ?_ _)); refine blk_far ?_ NB467_481.out _; (with_reducible repeat (first | refine blk_drewN ?_ _ | refine blk_drew ?_ | refine blk_alloc ?_ _)); refine blk_far ?_ NB467_481.out _; (with_reducible repeat (first | refine blk_drewN ?_ _ | refine blk_drew ?_ | refine blk_alloc ?_ _)); exact BK467.out⟩, ⟨by (with_reducible repeat (first | refine blk_drewN ?_ _ | refine blk_drew ?_ | refine blk_alloc ?_ _)); refine blk_far ?_ NB474_481.out _; (with_reducible repeat (first | refine blk_drewN ?_ _ | refine blk_drew ?_ | refine blk_alloc ?_ _)); refine blk_far ?_ NB474_481.out _; (with_reducible repeat (first | refine blk_drewN ?_ _ | refine blk_drew ?_ | refine blk_alloc ?_ _)); refine blk_far ?_ NB474_481.out _; (with_reducible repeat (first | refine blk_drewN ?_ _ | refine blk_drew ?_ | refine blk_alloc ?_ _)); refine blk_far ?_ NB474_481.out _; (with_reducible repeat (first | refine blk_drewN ?_ _ | refine blk_drew ?_ | refine blk_alloc ?_ _)); refine blk_far ?_ NB474_481.out _; (with_reducible repeat (first | refine blk_drewN ?_ _ | refine blk_drew ?_ | refine blk_alloc ?_ _)); exact BK474.out⟩, ⟨by (with_reducible repeat (first | refine blk_drewN ?_ _ | refine blk_drew ?_ | refine blk_alloc ?_ _)); refine blk_put (cs := #[.bool t476, .bool t477, .bool t478, .bool t479, .bool false]) ?_ 4 _ rfl; (with_reducible repeat (first | refine blk_drewN ?_ _ | refine blk_drew ?_ | refine blk_alloc ?_ _)); refine blk_put (cs := #[.bool t476, .bool t477, .bool t478, .bool false, .bool false]) ?_ 3 _ rfl; (with_reducible repeat (first | refine blk_drewN ?_ _ | refine blk_drew ?_ | refine blk_alloc ?_ _)); refine blk_put (cs := #[.bool t476, .bool t477, .bool false, .bool false, .bool false]) ?_ 2 _ rfl; (with_reducible repeat (first | refine blk_drewN ?_ _ | refine blk_drew ?_ | refine blk_alloc ?_ _)); refine blk_put (cs := #[.bool t476, .bool false, .bool false, .bool false, .bool false]) ?_ 1 _ rfl; (with_reducible repeat (first | refine blk_drewN ?_ _ | refine blk_drew ?_ | refine blk_alloc ?_ _)); refine blk_put (cs := #[.bool false, .bool false, .bool false, .bool false, .bool false]) ?_ 0 _ rfl; (with_reducible repeat (first | refine blk_drewN ?_ _ | refine blk_drew ?_ | refine blk_alloc ?_ _)); exact BK481.out⟩, ⟨by repeat (first | (with_reducible first | exact HB.out | apply below_alloc | apply pw_below_drewN | apply below_drew1 | refine below_set ?_ GE453.out | refine below_set ?_ GE460.out | refine below_set ?_ GE467.out | refine below_set ?_ GE474.out | refine below_set ?_ GE481.out) | exact HB.out)⟩⟩
              · rw [if_neg c77] at H
                have c77b0 : (t462 == t448 && (t463 == t449 && (t464 == t450 && (t465 == t451 && (t466 == t452))))) = false := by simpa using c77
                (try (have c77b1 : decide (t462 = t448 && (t463 == t449 && (t464 == t450 && (t465 == t451 && (t466 == t452))))) = false := by simpa using c77))
                (try (have c77b2 : (t462 == t448 && (t463 == t449 && (t464 == t450 && (t465 == t451 && (t466 == t452))))) = false := by simpa using c77))
                (try (have c77b3 : ¬ (t462 = t448 && (t463 == t449 && (t464 == t450 && (t465 == t451 && (t466 == t452))))) := by simpa using c77))
                clear c77
                have H' := Aside0.mk H
                clear H
                have hnb137 := NB453_460.out
                have hnc137 := NB460_453.out
                have hnb138 := NB453_467.out
                have hnc138 := NB467_453.out
                have hnb139 := NB453_474.out
                have hnc139 := NB474_453.out
                have hnb140 := NB453_481.out
                have hnc140 := NB481_453.out
                have hcz141_0 : w68.cell? ⟨gb453, 0, none⟩ = some (.bool t448) := (blk_cell BK453.out 0).trans rfl
                have hcz141_1 : w68.cell? ⟨gb453, 1, none⟩ = some (.bool t449) := (blk_cell BK453.out 1).trans rfl
                have hcz141_2 : w68.cell? ⟨gb453, 2, none⟩ = some (.bool t450) := (blk_cell BK453.out 2).trans rfl
                have hcz141_3 : w68.cell? ⟨gb453, 3, none⟩ = some (.bool t451) := (blk_cell BK453.out 3).trans rfl
                have hcz141_4 : w68.cell? ⟨gb453, 4, none⟩ = some (.bool t452) := (blk_cell BK453.out 4).trans rfl
                have hfz141_0 := blk_frozen BK453.out 0
                have hfz141_1 := blk_frozen BK453.out 1
                have hfz141_2 := blk_frozen BK453.out 2
                have hfz141_3 := blk_frozen BK453.out 3
                have hfz141_4 := blk_frozen BK453.out 4
                have hnb142 := NB460_467.out
                have hnc142 := NB467_460.out
                have hnb143 := NB460_474.out
                have hnc143 := NB474_460.out
                have hnb144 := NB460_481.out
                have hnc144 := NB481_460.out
                have hcz145_0 : w68.cell? ⟨gb460, 0, none⟩ = some (.bool t455) := (blk_cell BK460.out 0).trans rfl
                have hcz145_1 : w68.cell? ⟨gb460, 1, none⟩ = some (.bool t456) := (blk_cell BK460.out 1).trans rfl
                have hcz145_2 : w68.cell? ⟨gb460, 2, none⟩ = some (.bool t457) := (blk_cell BK460.out 2).trans rfl
                have hcz145_3 : w68.cell? ⟨gb460, 3, none⟩ = some (.bool t458) := (blk_cell BK460.out 3).trans rfl
                have hcz145_4 : w68.cell? ⟨gb460, 4, none⟩ = some (.bool t459) := (blk_cell BK460.out 4).trans rfl
                have hfz145_0 := blk_frozen BK460.out 0
                have hfz145_1 := blk_frozen BK460.out 1
                have hfz145_2 := blk_frozen BK460.out 2
                have hfz145_3 := blk_frozen BK460.out 3
                have hfz145_4 := blk_frozen BK460.out 4
                have hnb146 := NB467_474.out
                have hnc146 := NB474_467.out
                have hnb147 := NB467_481.out
                have hnc147 := NB481_467.out
                have hcz148_0 : w68.cell? ⟨gb467, 0, none⟩ = some (.bool t462) := (blk_cell BK467.out 0).trans rfl
                have hcz148_1 : w68.cell? ⟨gb467, 1, none⟩ = some (.bool t463) := (blk_cell BK467.out 1).trans rfl
                have hcz148_2 : w68.cell? ⟨gb467, 2, none⟩ = some (.bool t464) := (blk_cell BK467.out 2).trans rfl
                have hcz148_3 : w68.cell? ⟨gb467, 3, none⟩ = some (.bool t465) := (blk_cell BK467.out 3).trans rfl
                have hcz148_4 : w68.cell? ⟨gb467, 4, none⟩ = some (.bool t466) := (blk_cell BK467.out 4).trans rfl
                have hfz148_0 := blk_frozen BK467.out 0
                have hfz148_1 := blk_frozen BK467.out 1
                have hfz148_2 := blk_frozen BK467.out 2
                have hfz148_3 := blk_frozen BK467.out 3
                have hfz148_4 := blk_frozen BK467.out 4
                go_wp2
                go_meet
                case rel => exact ⟨_, (false), (by first | rfl | (simp; done) | (simp [*]; done) | (congr 1; (try unfold wrap64); omega) | (congr 1; rw [IntKind.wrap_u64]; omega)), H', ⟨by first | omega | exact Nat.le_refl _⟩, ⟨by (with_reducible repeat (first | refine blk_drewN ?_ _ | refine blk_drew ?_ | refine blk_alloc ?_ _)); refine blk_far ?_ NB453_481.out _; (with_reducible repeat (first | refine blk_drewN ?_ _ | refine blk_drew ?_ | refine blk_alloc ?_ _)); refine blk_far ?_ NB453_481.out _; (with_reducible repeat (first | refine blk_drewN ?_ _ | refine blk_drew ?_ | refine blk_alloc ?_ _)); refine blk_far ?_ NB453_481.out _; (with_reducible repeat (first | refine blk_drewN ?_ _ | refine blk_drew ?_ | refine blk_alloc ?_ _)); refine blk_far ?_ NB453_481.out _; (with_reducible repeat (first | refine blk_drewN ?_ _ | refine blk_drew ?_ | refine blk_alloc ?_ _)); refine blk_far ?_ NB453_481.out _; (with_reducible repeat (first | refine blk_drewN ?_ _ | refine blk_drew ?_ | refine blk_alloc ?_ _)); exact BK453.out⟩, ⟨by (with_reducible repeat (first | refine blk_drewN ?_ _ | refine blk_drew ?_ | refine blk_alloc ?_ _)); refine blk_far ?_ NB460_481.out _; (with_reducible repeat (first | refine blk_drewN ?_ _ | refine blk_drew ?_ | refine blk_alloc ?_ _)); refine blk_far ?_ NB460_481.out _; (with_reducible repeat (first | refine blk_drewN ?_ _ | refine blk_drew ?_ | refine blk_alloc ?_ _)); refine blk_far ?_ NB460_481.out _; (with_reducible repeat (first | refine blk_drewN ?_ _ | refine blk_drew ?_ | refine blk_alloc ?_ _)); refine blk_far ?_ NB460_481.out _; (with_reducible repeat (first | refine blk_drewN ?_ _ | refine blk_drew ?_ | refine blk_alloc ?_ _)); refine blk_far ?_ NB460_481.out _; (with_reducible repeat (first | refine blk_drewN ?_ _ | refine blk_drew ?_ | refine blk_alloc ?_ _)); exact BK460.out⟩, ⟨by (with_reducible repeat (first | refine blk_drewN ?_ _ | refine blk_drew ?_ | refine blk_alloc ?_ _)); refine blk_far ?_ NB467_481.out _; (with_reducible repeat (first | refine blk_drewN ?_ _ | refine blk_drew ?_ | refine blk_alloc ?_ _)); refine blk_far ?_ NB467_481.out _; (with_reducible repeat (first | refine blk_drewN ?_ _ | refine blk_drew ?_ | refine blk_alloc ?_ _)); refine blk_far ?_ NB467_481.out _; (with_reducible repeat (first | refine blk_drewN ?_ _ | refine blk_drew ?_ | refine blk_alloc ?_ _)); refine blk_far ?_ NB467_481.out _; (with_reducible repeat (first | refine blk_drewN ?_ _ | refine blk_drew ?_ | refine blk_alloc ?_ _)); refine blk_far ?_ NB467_481.out _; (with_reducible repeat (first | refine blk_drewN ?_ _ | refine blk_drew ?_ | refine blk_alloc ?_ _)); exact BK467.out⟩, ⟨by (with_reducible repeat (first | refine blk_drewN ?_ _ | refine blk_drew ?_ | refine blk_alloc ?_ _)); refine blk_far ?_ NB474_481.out _; (with_reducible repeat (first | refine blk_drewN ?_ _ | refine blk_drew ?_ | refine blk_alloc ?_ _)); refine blk_far ?_ NB474_481.out _; (with_reducible repeat (first | refine blk_drewN ?_ _ | refine blk_drew ?_ | refine blk_alloc ?_ _)); refine blk_far ?_ NB474_481.out _; (with_reducible repeat (first | refine blk_drewN ?_ _ | refine blk_drew ?_ | refine blk_alloc ?_ _)); refine blk_far ?_ NB474_481.out _; (with_reducible repeat (first | refine blk_drewN ?_ _ | refine blk_drew ?_ | refine blk_alloc ?_ _)); refine blk_far ?_ NB474_481.out _; (with_reducible repeat (first | refine blk_drewN ?_ _ | refine blk_drew ?_ | refine blk_alloc ?_ _)); exact BK474.out⟩, ⟨by (with_reducible repeat (first | refine blk_drewN ?_ _ | refine blk_drew ?_ | refine blk_alloc ?_ _)); refine blk_put (cs := #[.bool t476, .bool t477, .bool t478, .bool t479, .bool false]) ?_ 4 _ rfl; (with_reducible repeat (first | refine blk_drewN ?_ _ | refine blk_drew ?_ | refine blk_alloc ?_ _)); refine blk_put (cs := #[.bool t476, .bool t477, .bool t478, .bool false, .bool false]) ?_ 3 _ rfl; (with_reducible repeat (first | refine blk_drewN ?_ _ | refine blk_drew ?_ | refine blk_alloc ?_ _)); refine blk_put (cs := #[.bool t476, .bool t477, .bool false, .bool false, .bool false]) ?_ 2 _ rfl; (with_reducible repeat (first | refine blk_drewN ?_ _ | refine blk_drew ?_ | refine blk_alloc ?_ _)); refine blk_put (cs := #[.bool t476, .bool false, .bool false, .bool false, .bool false]) ?_ 1 _ rfl; (with_reducible repeat (first | refine blk_drewN ?_ _ | refine blk_drew ?_ | refine blk_alloc ?_ _)); refine blk_put (cs := #[.bool false, .bool false, .bool false, .bool false, .bool false]) ?_ 0 _ rfl; (with_reducible repeat (first | refine blk_drewN ?_ _ | refine blk_drew ?_ | refine blk_alloc ?_ _)); exact BK481.out⟩, ⟨by repeat (first | (with_reducible first | exact HB.out | apply below_alloc | apply pw_below_drewN | apply below_drew1 | refine below_set ?_ GE453.out | refine below_set ?_ GE460.out | refine below_set ?_ GE467.out | refine below_set ?_ GE474.out | refine below_set ?_ GE481.out) | exact HB.out)⟩⟩
            · rw [if_neg c76] at H
              have c76b0 : (t455 == t448 && (t456 == t449 && (t457 == t450 && (t458 == t451 && (t459 == t452))))) = false := by simpa using c76
              (try (have c76b1 : decide (t455 = t448 && (t456 == t449 && (t457 == t450 && (t458 == t451 && (t459 == t452))))) = false := by simpa using c76))
              (try (have c76b2 : (t455 == t448 && (t456 == t449 && (t457 == t450 && (t458 == t451 && (t459 == t452))))) = false := by simpa using c76))
              (try (have c76b3 : ¬ (t455 = t448 && (t456 == t449 && (t457 == t450 && (t458 == t451 && (t459 == t452))))) := by simpa using c76))
              clear c76
              have H' := Aside0.mk H
              clear H
              have hnb149 := NB453_460.out
              have hnc149 := NB460_453.out
              have hnb150 := NB453_467.out
              have hnc150 := NB467_453.out
              have hnb151 := NB453_474.out
              have hnc151 := NB474_453.out
              have hnb152 := NB453_481.out
              have hnc152 := NB481_453.out
              have hcz153_0 : w68.cell? ⟨gb453, 0, none⟩ = some (.bool t448) := (blk_cell BK453.out 0).trans rfl
              have hcz153_1 : w68.cell? ⟨gb453, 1, none⟩ = some (.bool t449) := (blk_cell BK453.out 1).trans rfl
              have hcz153_2 : w68.cell? ⟨gb453, 2, none⟩ = some (.bool t450) := (blk_cell BK453.out 2).trans rfl
              have hcz153_3 : w68.cell? ⟨gb453, 3, none⟩ = some (.bool t451) := (blk_cell BK453.out 3).trans rfl
              have hcz153_4 : w68.cell? ⟨gb453, 4, none⟩ = some (.bool t452) := (blk_cell BK453.out 4).trans rfl
              have hfz153_0 := blk_frozen BK453.out 0
              have hfz153_1 := blk_frozen BK453.out 1
              have hfz153_2 := blk_frozen BK453.out 2
              have hfz153_3 := blk_frozen BK453.out 3
              have hfz153_4 := blk_frozen BK453.out 4
              have hnb154 := NB460_467.out
              have hnc154 := NB467_460.out
              have hnb155 := NB460_474.out
              have hnc155 := NB474_460.out
              have hnb156 := NB460_481.out
              have hnc156 := NB481_460.out
              have hcz157_0 : w68.cell? ⟨gb460, 0, none⟩ = some (.bool t455) := (blk_cell BK460.out 0).trans rfl
              have hcz157_1 : w68.cell? ⟨gb460, 1, none⟩ = some (.bool t456) := (blk_cell BK460.out 1).trans rfl
              have hcz157_2 : w68.cell? ⟨gb460, 2, none⟩ = some (.bool t457) := (blk_cell BK460.out 2).trans rfl
              have hcz157_3 : w68.cell? ⟨gb460, 3, none⟩ = some (.bool t458) := (blk_cell BK460.out 3).trans rfl
              have hcz157_4 : w68.cell? ⟨gb460, 4, none⟩ = some (.bool t459) := (blk_cell BK460.out 4).trans rfl
              have hfz157_0 := blk_frozen BK460.out 0
              have hfz157_1 := blk_frozen BK460.out 1
              have hfz157_2 := blk_frozen BK460.out 2
              have hfz157_3 := blk_frozen BK460.out 3
              have hfz157_4 := blk_frozen BK460.out 4
              go_wp2
              go_meet
              case rel => exact ⟨_, (false), (by first | rfl | (simp; done) | (simp [*]; done) | (congr 1; (try unfold wrap64); omega) | (congr 1; rw [IntKind.wrap_u64]; omega)), H', ⟨by first | omega | exact Nat.le_refl _⟩, ⟨by (with_reducible repeat (first | refine blk_drewN ?_ _ | refine blk_drew ?_ | refine blk_alloc ?_ _)); refine blk_far ?_ NB453_481.out _; (with_reducible repeat (first | refine blk_drewN ?_ _ | refine blk_drew ?_ | refine blk_alloc ?_ _)); refine blk_far ?_ NB453_481.out _; (with_reducible repeat (first | refine blk_drewN ?_ _ | refine blk_drew ?_ | refine blk_alloc ?_ _)); refine blk_far ?_ NB453_481.out _; (with_reducible repeat (first | refine blk_drewN ?_ _ | refine blk_drew ?_ | refine blk_alloc ?_ _)); refine blk_far ?_ NB453_481.out _; (with_reducible repeat (first | refine blk_drewN ?_ _ | refine blk_drew ?_ | refine blk_alloc ?_ _)); refine blk_far ?_ NB453_481.out _; (with_reducible repeat (first | refine blk_drewN ?_ _ | refine blk_drew ?_ | refine blk_alloc ?_ _)); exact BK453.out⟩, ⟨by (with_reducible repeat (first | refine blk_drewN ?_ _ | refine blk_drew ?_ | refine blk_alloc ?_ _)); refine blk_far ?_ NB460_481.out _; (with_reducible repeat (first | refine blk_drewN ?_ _ | refine blk_drew ?_ | refine blk_alloc ?_ _)); refine blk_far ?_ NB460_481.out _; (with_reducible repeat (first | refine blk_drewN ?_ _ | refine blk_drew ?_ | refine blk_alloc ?_ _)); refine blk_far ?_ NB460_481.out _; (with_reducible repeat (first | refine blk_drewN ?_ _ | refine blk_drew ?_ | refine blk_alloc ?_ _)); refine blk_far ?_ NB460_481.out _; (with_reducible repeat (first | refine blk_drewN ?_ _ | refine blk_drew ?_ | refine blk_alloc ?_ _)); refine blk_far ?_ NB460_481.out _; (with_reducible repeat (first | refine blk_drewN ?_ _ | refine blk_drew ?_ | refine blk_alloc ?_ _)); exact BK460.out⟩, ⟨by (with_reducible repeat (first | refine blk_drewN ?_ _ | refine blk_drew ?_ | refine blk_alloc ?_ _)); refine blk_far ?_ NB467_481.out _; (with_reducible repeat (first | refine blk_drewN ?_ _ | refine blk_drew ?_ | refine blk_alloc ?_ _)); refine blk_far ?_ NB467_481.out _; (with_reducible repeat (first | refine blk_drewN ?_ _ | refine blk_drew ?_ | refine blk_alloc ?_ _)); refine blk_far ?_ NB467_481.out _; (with_reducible repeat (first | refine blk_drewN ?_ _ | refine blk_drew ?_ | refine blk_alloc ?_ _)); refine blk_far ?_ NB467_481.out _; (with_reducible repeat (first | refine blk_drewN ?_ _ | refine blk_drew ?_ | refine blk_alloc ?_ _)); refine blk_far ?_ NB467_481.out _; (with_reducible repeat (first | refine blk_drewN ?_ _ | refine blk_drew ?_ | refine blk_alloc ?_ _)); exact BK467.out⟩, ⟨by (with_reducible repeat (first | refine blk_drewN ?_ _ | refine blk_drew ?_ | refine blk_alloc ?_ _)); refine blk_far ?_ NB474_481.out _; (with_reducible repeat (first | refine blk_drewN ?_ _ | refine blk_drew ?_ | refine blk_alloc ?_ _)); refine blk_far ?_ NB474_481.out _; (with_reducible repeat (first | refine blk_drewN ?_ _ | refine blk_drew ?_ | refine blk_alloc ?_ _)); refine blk_far ?_ NB474_481.out _; (with_reducible repeat (first | refine blk_drewN ?_ _ | refine blk_drew ?_ | refine blk_alloc ?_ _)); refine blk_far ?_ NB474_481.out _; (with_reducible repeat (first | refine blk_drewN ?_ _ | refine blk_drew ?_ | refine blk_alloc ?_ _)); refine blk_far ?_ NB474_481.out _; (with_reducible repeat (first | refine blk_drewN ?_ _ | refine blk_drew ?_ | refine blk_alloc ?_ _)); exact BK474.out⟩, ⟨by (with_reducible repeat (first | refine blk_drewN ?_ _ | refine blk_drew ?_ | refine blk_alloc ?_ _)); refine blk_put (cs := #[.bool t476, .bool t477, .bool t478, .bool t479, .bool false]) ?_ 4 _ rfl; (with_reducible repeat (first | refine blk_drewN ?_ _ | refine blk_drew ?_ | refine blk_alloc ?_ _)); refine blk_put (cs := #[.bool t476, .bool t477, .bool t478, .bool false, .bool false]) ?_ 3 _ rfl; (with_reducible repeat (first | refine blk_drewN ?_ _ | refine blk_drew ?_ | refine blk_alloc ?_ _)); refine blk_put (cs := #[.bool t476, .bool t477, .bool false, .bool false, .bool false]) ?_ 2 _ rfl; (with_reducible repeat (first | refine blk_drewN ?_ _ | refine blk_drew ?_ | refine blk_alloc ?_ _)); refine blk_put (cs := #[.bool t476, .bool false, .bool false, .bool false, .bool false]) ?_ 1 _ rfl; (with_reducible repeat (first | refine blk_drewN ?_ _ | refine blk_drew ?_ | refine blk_alloc ?_ _)); refine blk_put (cs := #[.bool false, .bool false, .bool false, .bool false, .bool false]) ?_ 0 _ rfl; (with_reducible repeat (first | refine blk_drewN ?_ _ | refine blk_drew ?_ | refine blk_alloc ?_ _)); exact BK481.out⟩, ⟨by repeat (first | (with_reducible first | exact HB.out | apply below_alloc | apply pw_below_drewN | apply below_drew1 | refine below_set ?_ GE453.out | refine below_set ?_ GE460.out | refine below_set ?_ GE467.out | refine below_set ?_ GE474.out | refine below_set ?_ GE481.out) | exact HB.out)⟩⟩
          · rw [if_neg c75] at H
            have c75b0 : (!t448 && (!t449 && (!t450 && (!t451 && (!t452))))) = false := by simpa using c75
            clear c75
            have H' := Aside0.mk H
            clear H
            have hnb158 := NB453_460.out
            have hnc158 := NB460_453.out
            have hnb159 := NB453_467.out
            have hnc159 := NB467_453.out
            have hnb160 := NB453_474.out
            have hnc160 := NB474_453.out
            have hnb161 := NB453_481.out
            have hnc161 := NB481_453.out
            have hcz162_0 : w68.cell? ⟨gb453, 0, none⟩ = some (.bool t448) := (blk_cell BK453.out 0).trans rfl
            have hcz162_1 : w68.cell? ⟨gb453, 1, none⟩ = some (.bool t449) := (blk_cell BK453.out 1).trans rfl
            have hcz162_2 : w68.cell? ⟨gb453, 2, none⟩ = some (.bool t450) := (blk_cell BK453.out 2).trans rfl
            have hcz162_3 : w68.cell? ⟨gb453, 3, none⟩ = some (.bool t451) := (blk_cell BK453.out 3).trans rfl
            have hcz162_4 : w68.cell? ⟨gb453, 4, none⟩ = some (.bool t452) := (blk_cell BK453.out 4).trans rfl
            have hfz162_0 := blk_frozen BK453.out 0
            have hfz162_1 := blk_frozen BK453.out 1
            have hfz162_2 := blk_frozen BK453.out 2
            have hfz162_3 := blk_frozen BK453.out 3
            have hfz162_4 := blk_frozen BK453.out 4
            go_wp2
            go_meet
            case rel => exact ⟨_, (false), (by first | rfl | (simp; done) | (simp [*]; done) | (congr 1; (try unfold wrap64); omega) | (congr 1; rw [IntKind.wrap_u64]; omega)), H', ⟨by first | omega | exact Nat.le_refl _⟩, ⟨by (with_reducible repeat (first | refine blk_drewN ?_ _ | refine blk_drew ?_ | refine blk_alloc ?_ _)); refine blk_far ?_ NB453_481.out _; (with_reducible repeat (first | refine blk_drewN ?_ _ | refine blk_drew ?_ | refine blk_alloc ?_ _)); refine blk_far ?_ NB453_481.out _; (with_reducible repeat (first | refine blk_drewN ?_ _ | refine blk_drew ?_ | refine blk_alloc ?_ _)); refine blk_far ?_ NB453_481.out _; (with_reducible repeat (first | refine blk_drewN ?_ _ | refine blk_drew ?_ | refine blk_alloc ?_ _)); refine blk_far ?_ NB453_481.out _; (with_reducible repeat (first | refine blk_drewN ?_ _ | refine blk_drew ?_ | refine blk_alloc ?_ _)); refine blk_far ?_ NB453_481.out _; (with_reducible repeat (first | refine blk_drewN ?_ _ | refine blk_drew ?_ | refine blk_alloc ?_ _)); exact BK453.out⟩, ⟨by (with_reducible repeat (first | refine blk_drewN ?_ _ | refine blk_drew ?_ | refine blk_alloc ?_ _)); refine blk_far ?_ NB460_481.out _; (with_reducible repeat (first | refine blk_drewN ?_ _ | refine blk_drew ?_ | refine blk_alloc ?_ _)); refine blk_far ?_ NB460_481.out _; (with_reducible repeat (first | refine blk_drewN ?_ _ | refine blk_drew ?_ | refine blk_alloc ?_ _)); refine blk_far ?_ NB460_481.out _; (with_reducible repeat (first | refine blk_drewN ?_ _ | refine blk_drew ?_ | refine blk_alloc ?_ _)); refine blk_far ?_ NB460_481.out _; (with_reducible repeat (first | refine blk_drewN ?_ _ | refine blk_drew ?_ | refine blk_alloc ?_ _)); refine blk_far ?_ NB460_481.out _; (with_reducible repeat (first | refine blk_drewN ?_ _ | refine blk_drew ?_ | refine blk_alloc ?_ _)); exact BK460.out⟩, ⟨by (with_reducible repeat (first | refine blk_drewN ?_ _ | refine blk_drew ?_ | refine blk_alloc ?_ _)); refine blk_far ?_ NB467_481.out _; (with_reducible repeat (first | refine blk_drewN ?_ _ | refine blk_drew ?_ | refine blk_alloc ?_ _)); refine blk_far ?_ NB467_481.out _; (with_reducible repeat (first | refine blk_drewN ?_ _ | refine blk_drew ?_ | refine blk_alloc ?_ _)); refine blk_far ?_ NB467_481.out _; (with_reducible repeat (first | refine blk_drewN ?_ _ | refine blk_drew ?_ | refine blk_alloc ?_ _)); refine blk_far ?_ NB467_481.out _; (with_reducible repeat (first | refine blk_drewN ?_ _ | refine blk_drew ?_ | refine blk_alloc ?_ _)); refine blk_far ?_ NB467_481.out _; (with_reducible repeat (first | refine blk_drewN ?_ _ | refine blk_drew ?_ | refine blk_alloc ?_ _)); exact BK467.out⟩, ⟨by (with_reducible repeat (first | refine blk_drewN ?_ _ | refine blk_drew ?_ | refine blk_alloc ?_ _)); refine blk_far ?_ NB474_481.out _; (with_reducible repeat (first | refine blk_drewN ?_ _ | refine blk_drew ?_ | refine blk_alloc ?_ _)); refine blk_far ?_ NB474_481.out _; (with_reducible repeat (first | refine blk_drewN ?_ _ | refine blk_drew ?_ | refine blk_alloc ?_ _)); refine blk_far ?_ NB474_481.out _; (with_reducible repeat (first | refine blk_drewN ?_ _ | refine blk_drew ?_ | refine blk_alloc ?_ _)); refine blk_far ?_ NB474_481.out _; (with_reducible repeat (first | refine blk_drewN ?_ _ | refine blk_drew ?_ | refine blk_alloc ?_ _)); refine blk_far ?_ NB474_481.out _; (with_reducible repeat (first | refine blk_drewN ?_ _ | refine blk_drew ?_ | refine blk_alloc ?_ _)); exact BK474.out⟩, ⟨by (with_reducible repeat (first | refine blk_drewN ?_ _ | refine blk_drew ?_ | refine blk_alloc ?_ _)); refine blk_put (cs := #[.bool t476, .bool t477, .bool t478, .bool t479, .bool false]) ?_ 4 _ rfl; (with_reducible repeat (first | refine blk_drewN ?_ _ | refine blk_drew ?_ | refine blk_alloc ?_ _)); refine blk_put (cs := #[.bool t476, .bool t477, .bool t478, .bool false, .bool false]) ?_ 3 _ rfl; (with_reducible repeat (first | refine blk_drewN ?_ _ | refine blk_drew ?_ | refine blk_alloc ?_ _)); refine blk_put (cs := #[.bool t476, .bool t477, .bool false, .bool false, .bool false]) ?_ 2 _ rfl; (with_reducible repeat (first | refine blk_drewN ?_ _ | refine blk_drew ?_ | refine blk_alloc ?_ _)); refine blk_put (cs := #[.bool t476, .bool false, .bool false, .bool false, .bool false]) ?_ 1 _ rfl; (with_reducible repeat (first | refine blk_drewN ?_ _ | refine blk_drew ?_ | refine blk_alloc ?_ _)); refine blk_put (cs := #[.bool false, .bool false, .bool false, .bool false, .bool false]) ?_ 0 _ rfl; (with_reducible repeat (first | refine blk_drewN ?_ _ | refine blk_drew ?_ | refine blk_alloc ?_ _)); exact BK481.out⟩, ⟨by repeat (first | (with_reducible first | exact HB.out | apply below_alloc | apply pw_below_drewN | apply below_drew1 | refine below_set ?_ GE453.out | refine below_set ?_ GE460.out | refine below_set ?_ GE467.out | refine below_set ?_ GE474.out | refine below_set ?_ GE481.out) | exact HB.out)⟩⟩
        · rw [if_neg c74] at H
          have c74b0 : (t454 == t461) = false := beq_eq_false_iff_ne.mpr c74
          have c74b1 : (t454 != t461) = true := bne_iff_ne.mpr c74
          (first | rw [c74b0] | (simp only [i64_w, i32_w]; rw [c74b0]) | skip)
          have H' := Aside0.mk H
          clear H
          go_wp2
          go_meet
          case rel => exact ⟨_, (false), (by first | rfl | (simp; done) | (simp [*]; done) | (congr 1; (try unfold wrap64); omega) | (congr 1; rw [IntKind.wrap_u64]; omega)), H', ⟨by first | omega | exact Nat.le_refl _⟩, ⟨by (with_reducible repeat (first | refine blk_drewN ?_ _ | refine blk_drew ?_ | refine blk_alloc ?_ _)); refine blk_far ?_ NB453_481.out _; (with_reducible repeat (first | refine blk_drewN ?_ _ | refine blk_drew ?_ | refine blk_alloc ?_ _)); refine blk_far ?_ NB453_481.out _; (with_reducible repeat (first | refine blk_drewN ?_ _ | refine blk_drew ?_ | refine blk_alloc ?_ _)); refine blk_far ?_ NB453_481.out _; (with_reducible repeat (first | refine blk_drewN ?_ _ | refine blk_drew ?_ | refine blk_alloc ?_ _)); refine blk_far ?_ NB453_481.out _; (with_reducible repeat (first | refine blk_drewN ?_ _ | refine blk_drew ?_ | refine blk_alloc ?_ _)); refine blk_far ?_ NB453_481.out _; (with_reducible repeat (first | refine blk_drewN ?_ _ | refine blk_drew ?_ | refine blk_alloc ?_ _)); exact BK453.out⟩, ⟨by (with_reducible repeat (first | refine blk_drewN ?_ _ | refine blk_drew ?_ | refine blk_alloc ?_ _)); refine blk_far ?_ NB460_481.out _; (with_reducible repeat (first | refine blk_drewN ?_ _ | refine blk_drew ?_ | refine blk_alloc ?_ _)); refine blk_far ?_ NB460_481.out _; (with_reducible repeat (first | refine blk_drewN ?_ _ | refine blk_drew ?_ | refine blk_alloc ?_ _)); refine blk_far ?_ NB460_481.out _; (with_reducible repeat (first | refine blk_drewN ?_ _ | refine blk_drew ?_ | refine blk_alloc ?_ _)); refine blk_far ?_ NB460_481.out _; (with_reducible repeat (first | refine blk_drewN ?_ _ | refine blk_drew ?_ | refine blk_alloc ?_ _)); refine blk_far ?_ NB460_481.out _; (with_reducible repeat (first | refine blk_drewN ?_ _ | refine blk_drew ?_ | refine blk_alloc ?_ _)); exact BK460.out⟩, ⟨by (with_reducible repeat (first | refine blk_drewN ?_ _ | refine blk_drew ?_ | refine blk_alloc ?_ _)); refine blk_far ?_ NB467_481.out _; (with_reducible repeat (first | refine blk_drewN ?_ _ | refine blk_drew ?_ | refine blk_alloc ?_ _)); refine blk_far ?_ NB467_481.out _; (with_reducible repeat (first | refine blk_drewN ?_ _ | refine blk_drew ?_ | refine blk_alloc ?_ _)); refine blk_far ?_ NB467_481.out _; (with_reducible repeat (first | refine blk_drewN ?_ _ | refine blk_drew ?_ | refine blk_alloc ?_ _)); refine blk_far ?_ NB467_481.out _; (with_reducible repeat (first | refine blk_drewN ?_ _ | refine blk_drew ?_ | refine blk_alloc ?_ _)); refine blk_far ?_ NB467_481.out _; (with_reducible repeat (first | refine blk_drewN ?_ _ | refine blk_drew ?_ | refine blk_alloc ?_ _)); exact BK467.out⟩, ⟨by (with_reducible repeat (first | refine blk_drewN ?_ _ | refine blk_drew ?_ | refine blk_alloc ?_ _)); refine blk_far ?_ NB474_481.out _; (with_reducible repeat (first | refine blk_drewN ?_ _ | refine blk_drew ?_ | refine blk_alloc ?_ _)); refine blk_far ?_ NB474_481.out _; (with_reducible repeat (first | refine blk_drewN ?_ _ | refine blk_drew ?_ | refine blk_alloc ?_ _)); refine blk_far ?_ NB474_481.out _; (with_reducible repeat (first | refine blk_drewN ?_ _ | refine blk_drew ?_ | refine blk_alloc ?_ _)); refine blk_far ?_ NB474_481.out _; (with_reducible repeat (first | refine blk_drewN ?_ _ | refine blk_drew ?_ | refine blk_alloc ?_ _)); refine blk_far ?_ NB474_481.out _; (with_reducible repeat (first | refine blk_drewN ?_ _ | refine blk_drew ?_ | refine blk_alloc ?_ _)); exact BK474.out⟩, ⟨by (with_reducible repeat (first | refine blk_drewN ?_ _ | refine blk_drew ?_ | refine blk_alloc ?_ _)); refine blk_put (cs := #[.bool t476, .bool t477, .bool t478, .bool t479, .bool false]) ?_ 4 _ rfl; (with_reducible repeat (first | refine blk_drewN ?_ _ | refine blk_drew ?_ | refine blk_alloc ?_ _)); refine blk_put (cs := #[.bool t476, .bool t477, .bool t478, .bool false, .bool false]) ?_ 3 _ rfl; (with_reducible repeat (first | refine blk_drewN ?_ _ | refine blk_drew ?_ | refine blk_alloc ?_ _)); refine blk_put (cs := #[.bool t476, .bool t477, .bool false, .bool false, .bool false]) ?_ 2 _ rfl; (with_reducible repeat (first | refine blk_drewN ?_ _ | refine blk_drew ?_ | refine blk_alloc ?_ _)); refine blk_put (cs := #[.bool t476, .bool false, .bool false, .bool false, .bool false]) ?_ 1 _ rfl; (with_reducible repeat (first | refine blk_drewN ?_ _ | refine blk_drew ?_ | refine blk_alloc ?_ _)); refine blk_put (cs := #[.bool false, .bool false, .bool false, .bool false, .bool false]) ?_ 0 _ rfl; (with_reducible repeat (first | refine blk_drewN ?_ _ | refine blk_drew ?_ | refine blk_alloc ?_ _)); exact BK481.out⟩, ⟨by repeat (first | (with_reducible first | exact HB.out | apply below_alloc | apply pw_below_drewN | apply below_drew1 | refine below_set ?_ GE453.out | refine below_set ?_ GE460.out | refine below_set ?_ GE467.out | refine below_set ?_ GE474.out | refine below_set ?_ GE481.out) | exact HB.out)⟩⟩
      case rest =>
        clear HC46
        try clear c1
        try clear c2
        try clear p2
        try clear c3
        try clear c4
        try clear c5
        try clear c6
        try clear p6
        try clear c7
        try clear c8
        try clear c9
        try clear c10
        try clear c11
        try clear c12
        try clear c13
        try clear c14
        try clear c14b0
        try clear c14b1
        try clear c15
        try clear c16
        try clear c23
        try clear c25
        try clear c26
        try clear c27
        try clear c28
        try clear c29
        try clear c32
        try clear c33
        try clear c34
        try clear c38
        try clear c39
        try clear c40
        try clear c41
        try clear c43
        try clear c43b0
        try clear c43b1
        try clear c44
        try clear c44b0
        try clear c44b1
        try clear c54
        try clear c58
        try clear c59
        try clear c63
        try clear c64
        try clear p64
        try clear c65
        try clear c69
        try clear c70
        try clear c71
        try clear c72
        try clear c74
        try clear c74b0
        try clear c74b1
        try clear c75
        try clear c75b0
        try clear c76
        try clear c76b0
        try clear c76b1
        try clear c76b2
        try clear c77
        try clear c77b0
        try clear c77b1
        try clear c77b2
        try clear c79
        try clear c79b0
        try clear c79b1
        try clear c80
        try clear c80b0
        try clear c81
        try clear c81b0
        try clear c81b1
        try clear c82
        try clear c83
        try clear c84
        try clear c85
        try clear c87
        try clear c88
        try clear c89
        try clear c91
        try clear c92
        try clear c94
        try clear c97
        try clear c98
        try clear c99
        try clear c100
        try clear c102
        try clear c103
        try clear c104
        try clear c106
        try clear c107
        try clear c109
        try clear c111
        try clear c112
        try clear c113
        try clear c114
        try clear c116
        try clear c117
        try clear c118
        try clear c120
        try clear c121
        try clear c123
        try clear c125
        try clear c126
        try clear c127
        try clear c128
        try clear c130
        try clear c131
        try clear c132
        try clear c134
        try clear c135
        try clear c137
        try clear c138
        try clear c139
        try clear c140
        try clear c142
        try clear c143
        try clear c144
        try clear c146
        try clear c147
        try clear c149
        try clear c150
        try clear c151
        try clear c152
        try clear c154
        try clear c155
        try clear c156
        try clear c158
        try clear c159
        try clear c160
        try clear c161
        try clear hcz101_0
        try clear hcz101_1
        try clear hcz101_2
        try clear hcz101_3
        try clear hcz101_4
        try clear hcz105_0
        try clear hcz105_1
        try clear hcz105_2
        try clear hcz105_3
        try clear hcz105_4
        try clear hcz108_0
        try clear hcz108_1
        try clear hcz108_2
        try clear hcz108_3
        try clear hcz108_4
        try clear hcz110_0
        try clear hcz110_1
        try clear hcz110_2
        try clear hcz110_3
        try clear hcz110_4
        try clear hcz115_0
        try clear hcz115_1
        try clear hcz115_2
        try clear hcz115_3
        try clear hcz115_4
        try clear hcz119_0
        try clear hcz119_1
        try clear hcz119_2
        try clear hcz119_3
        try clear hcz119_4
        try clear hcz122_0
        try clear hcz122_1
        try clear hcz122_2
        try clear hcz122_3
        try clear hcz122_4
        try clear hcz124_0
        try clear hcz124_1
        try clear hcz124_2
        try clear hcz124_3
        try clear hcz124_4
        try clear hcz129_0
        try clear hcz129_1
        try clear hcz129_2
        try clear hcz129_3
        try clear hcz129_4
        try clear hcz133_0
        try clear hcz133_1
        try clear hcz133_2
        try clear hcz133_3
        try clear hcz133_4
        try clear hcz136_0
        try clear hcz136_1
        try clear hcz136_2
        try clear hcz136_3
        try clear hcz136_4
        try clear hcz141_0
        try clear hcz141_1
        try clear hcz141_2
        try clear hcz141_3
        try clear hcz141_4
        try clear hcz145_0
        try clear hcz145_1
        try clear hcz145_2
        try clear hcz145_3
        try clear hcz145_4
        try clear hcz148_0
        try clear hcz148_1
        try clear hcz148_2
        try clear hcz148_3
        try clear hcz148_4
        try clear hcz153_0
        try clear hcz153_1
        try clear hcz153_2
        try clear hcz153_3
        try clear hcz153_4
        try clear hcz157_0
        try clear hcz157_1
        try clear hcz157_2
        try clear hcz157_3
        try clear hcz157_4
        try clear hcz162_0
        try clear hcz162_1
        try clear hcz162_2
        try clear hcz162_3
        try clear hcz162_4
        try clear hcz20_0
        try clear hcz20_1
        try clear hcz20_2
        try clear hcz20_3
        try clear hcz20_4
        try clear hcz24_0
        try clear hcz24_1
        try clear hcz24_2
        try clear hcz24_3
        try clear hcz24_4
        try clear hcz29_0
        try clear hcz29_1
        try clear hcz29_2
        try clear hcz29_3
        try clear hcz29_4
        try clear hcz35_0
        try clear hcz35_1
        try clear hcz35_2
        try clear hcz35_3
        try clear hcz35_4
        try clear hcz42_0
        try clear hcz42_1
        try clear hcz42_2
        try clear hcz42_3
        try clear hcz42_4
        try clear hcz51_0
        try clear hcz51_1
        try clear hcz51_2
        try clear hcz51_3
        try clear hcz51_4
        try clear hcz55_0
        try clear hcz55_1
        try clear hcz55_2
        try clear hcz55_3
        try clear hcz55_4
        try clear hcz60_0
        try clear hcz60_1
        try clear hcz60_2
        try clear hcz60_3
        try clear hcz60_4
        try clear hcz66_0
        try clear hcz66_1
        try clear hcz66_2
        try clear hcz66_3
        try clear hcz66_4
        try clear hcz73_0
        try clear hcz73_1
        try clear hcz73_2
        try clear hcz73_3
        try clear hcz73_4
        try clear hcz86_0
        try clear hcz86_1
        try clear hcz86_2
        try clear hcz86_3
        try clear hcz86_4
        try clear hcz90_0
        try clear hcz90_1
        try clear hcz90_2
        try clear hcz90_3
        try clear hcz90_4
        try clear hcz93_0
        try clear hcz93_1
        try clear hcz93_2
        try clear hcz93_3
        try clear hcz93_4
        try clear hcz95_0
        try clear hcz95_1
        try clear hcz95_2
        try clear hcz95_3
        try clear hcz95_4
        try clear hcz96_0
        try clear hcz96_1
        try clear hcz96_2
        try clear hcz96_3
        try clear hcz96_4
        try clear hfz101_0
        try clear hfz101_1
        try clear hfz101_2
        try clear hfz101_3
        try clear hfz101_4
        try clear hfz105_0
        try clear hfz105_1
        try clear hfz105_2
        try clear hfz105_3
        try clear hfz105_4
        try clear hfz108_0
        try clear hfz108_1
        try clear hfz108_2
        try clear hfz108_3
        try clear hfz108_4
        try clear hfz110_0
        try clear hfz110_1
        try clear hfz110_2
        try clear hfz110_3
        try clear hfz110_4
        try clear hfz115_0
        try clear hfz115_1
        try clear hfz115_2
        try clear hfz115_3
        try clear hfz115_4
        try clear hfz119_0
        try clear hfz119_1
        try clear hfz119_2
        try clear hfz119_3
        try clear hfz119_4
        try clear hfz122_0
        try clear hfz122_1
        try clear hfz122_2
        try clear hfz122_3
        try clear hfz122_4
        try clear hfz124_0
        try clear hfz124_1
        try clear hfz124_2
        try clear hfz124_3
        try clear hfz124_4
        try clear hfz129_0
        try clear hfz129_1
        try clear hfz129_2
        try clear hfz129_3
        try clear hfz129_4
        try clear hfz133_0
        try clear hfz133_1
        try clear hfz133_2
        try clear hfz133_3
        try clear hfz133_4
        try clear hfz136_0
        try clear hfz136_1
        try clear hfz136_2
        try clear hfz136_3
        try clear hfz136_4
        try clear hfz141_0
        try clear hfz141_1
        try clear hfz141_2
        try clear hfz141_3
        try clear hfz141_4
        try clear hfz145_0
        try clear hfz145_1
        try clear hfz145_2
        try clear hfz145_3
        try clear hfz145_4
        try clear hfz148_0
        try clear hfz148_1
        try clear hfz148_2
        try clear hfz148_3
        try clear hfz148_4
        try clear hfz153_0
        try clear hfz153_1
        try clear hfz153_2
        try clear hfz153_3
        try clear hfz153_4
        try clear hfz157_0
        try clear hfz157_1
        try clear hfz157_2
        try clear hfz157_3
        try clear hfz157_4
        try clear hfz162_0
        try clear hfz162_1
        try clear hfz162_2
        try clear hfz162_3
        try clear hfz162_4
        try clear hfz20_0
        try clear hfz20_1
        try clear hfz20_2
        try clear hfz20_3
        try clear hfz20_4
        try clear hfz24_0
        try clear hfz24_1
        try clear hfz24_2
        try clear hfz24_3
        try clear hfz24_4
        try clear hfz29_0
        try clear hfz29_1
        try clear hfz29_2
        try clear hfz29_3
        try clear hfz29_4
        try clear hfz35_0
        try clear hfz35_1
        try clear hfz35_2
        try clear hfz35_3
        try clear hfz35_4
        try clear hfz42_0
        try clear hfz42_1
        try clear hfz42_2
        try clear hfz42_3
        try clear hfz42_4
        try clear hfz51_0
        try clear hfz51_1
        try clear hfz51_2
        try clear hfz51_3
        try clear hfz51_4
        try clear hfz55_0
        try clear hfz55_1
        try clear hfz55_2
        try clear hfz55_3
        try clear hfz55_4
        try clear hfz60_0
        try clear hfz60_1
        try clear hfz60_2
        try clear hfz60_3
        try clear hfz60_4
        try clear hfz66_0
        try clear hfz66_1
        try clear hfz66_2
        try clear hfz66_3
        try clear hfz66_4
        try clear hfz73_0
        try clear hfz73_1
        try clear hfz73_2
        try clear hfz73_3
        try clear hfz73_4
        try clear hfz86_0
        try clear hfz86_1
        try clear hfz86_2
        try clear hfz86_3
        try clear hfz86_4
        try clear hfz90_0
        try clear hfz90_1
        try clear hfz90_2
        try clear hfz90_3
        try clear hfz90_4
        try clear hfz93_0
        try clear hfz93_1
        try clear hfz93_2
        try clear hfz93_3
        try clear hfz93_4
        try clear hfz95_0
        try clear hfz95_1
        try clear hfz95_2
        try clear hfz95_3
        try clear hfz95_4
        try clear hfz96_0
        try clear hfz96_1
        try clear hfz96_2
        try clear hfz96_3
        try clear hfz96_4
        try clear p2
        try clear p6
        obtain ⟨kq, x8_45, rfl, HA, HJ45, BK453, BK460, BK467, BK474, BK481, HB⟩ := hcut
        cases kq with
        | zero => exact absurd HA.out (by simp [anneallaw8_WholeScales.j1])
        | succ kj45 =>
          have H := HA.out
          clear HA
          simp only [anneallaw8_WholeScales.j1] at H
          obtain rfl := Option.some.inj H
          go_wp2
          go_ret
          exact ⟨by first | rfl | (simp [errW_none, errW_some] <;> rfl) | (simp [*, errW_none, errW_some] <;> rfl), by repeat (first | (with_reducible first | exact HB.out | apply below_alloc | apply pw_below_drewN | apply below_drew1 | refine below_set ?_ GE453.out | refine below_set ?_ GE460.out | refine below_set ?_ GE467.out | refine below_set ?_ GE474.out | refine below_set ?_ GE481.out) | exact HB.out)⟩
  · replace c6 := Bool.eq_false_iff.mpr c6
    subst c6
    have H1 : (some false) = some r := by rw [if_neg (show ¬ (false = true) by decide)] at H; exact H
    clear H
    have H := H1
    clear H1
    obtain rfl := Option.some.inj H
    go_enter Try.func7, Try.ntmps7
    go_wp2_with (first | ((with_reducible refine gate_callee (f := 25) rfl ?_); refine goesL_ (some 24) rfl rfl Try.func25 (by kernel_rfl) rfl #[] rfl (by (try simp only [List.map_toArray, List.map_cons, List.map_nil]); first | done | rfl | (simp only [List.length_drop, List.length_take]; rfl)) ?_; (with_reducible refine (anneallaw8_known.calls k  false _ A5.out).mono ?_); rintro e w163 ⟨rfl, hb⟩; refine ⟨_, rfl, ?_⟩; have n0_ := Aside0.mk (below_step (by repeat (first | (with_reducible first | exact HB.out | apply below_alloc | apply pw_below_drewN | apply below_drew1) | exact HB.out)) hb); clear HB; have HB := n0_; clear n0_; (try clear hb); (try clear hb2); (try clear hk); (try clear hi)))
    go_ret
    exact ⟨by first | rfl | (simp [errW_none, errW_some] <;> rfl) | (simp [*, errW_none, errW_some] <;> rfl), by repeat (first | (with_reducible first | exact HB.out | apply below_alloc | apply pw_below_drewN | apply below_drew1) | exact HB.out)⟩

/-- THE ONE PURE STATEMENT of anneallaw8_WholeScales: yours. -/
def anneallaw8_WholeScales.Pure : Prop := ∀ (a0 : Int) (a1 : Int) (a2 : Int) (a3 : Int), (Lit.int .u8 a0).wf = true → (Lit.int .u32 a1).wf = true → (Lit.int .u8 a2).wf = true → (Lit.int .u8 a3).wf = true → ∃ k, anneallaw8_WholeScales.f k a0 a1 a2 a3 = some true
theorem anneallaw8_WholeScales.walk (P : anneallaw8_WholeScales.Pure) (a0 : Int) (a1 : Int) (a2 : Int) (a3 : Int) (w : World) (w0 : (Lit.int .u8 a0).wf = true) (w1 : (Lit.int .u32 a1).wf = true) (w2 : (Lit.int .u8 a2).wf = true) (w3 : (Lit.int .u8 a3).wf = true) :
    Calls Try.prog 7 #[.int .u8 a0, .int .u32 a1, .int .u8 a2, .int .u8 a3] w fun e w' => e = .returned (.bool true) ∧ Below w.heap.size w w' := by
  obtain ⟨k, h⟩ := P a0 a1 a2 a3 w0 w1 w2 w3
  refine (anneallaw8_WholeScales.calls k a0 a1 a2 a3 true w h).mono ?_
  rintro e w' ⟨rfl, hd⟩
  exact ⟨rfl, hd⟩

end Go.Proofs.Ytngkpekmgahjiaa.P
