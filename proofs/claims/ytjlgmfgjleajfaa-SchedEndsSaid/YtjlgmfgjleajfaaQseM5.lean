import Derived.Test.YtjlgmfgjleajfaaQseZ
import Derived.Test.YtjlgmfgjleajfaaQseM1
import Derived.Test.YtjlgmfgjleajfaaQseM4
import Derived.Test.YtjlgmfgjleajfaaQseWMore
import Derived.Test.YtjlgmfgjleajfaaQseM2
-- Printed by a program of this session's out of Lean's print of the translation; Lean checks it.
set_option linter.unusedVariables false
set_option linter.unusedSimpArgs false
namespace Go.Proofs.Ytjlgmfgjleajfaa.P
open Go.RowKit Go.Proofs.YtjlgmfgjleajfaaW.PrintWords Go.Proofs.YtjlgmfgjleajfaaW.PrintLast Go.Proofs.YtjlgmfgjleajfaaW.PrintMore
attribute [local go_sem] max2_int min2_int max_two min_two max_three min_three max_four min_four

-- NEED 4
/-! ### anneallaw20_SchedWarms: function 3 -/
-- NEED 4
/-! ### anneallaw20_SchedEnds: function 4 -/
def anneallaw20_SchedEnds.f (k : Nat) (a0 : Int) (a1 : Int) (a2 : Int) : Option (Bool) := (anneallaw20_known.f k).bind fun t556 => (if t556 = true then ((sched_Factor.f k 1 (wrap64 (Int.tmod a0 20)) (wrap64 ((wrap64 (Int.tmod a0 20)) + (wrap64 (a1)))) (wrap64 ((wrap64 ((wrap64 (Int.tmod a0 20)) + (wrap64 (a1)))) + (wrap64 (a2))))).bind fun t557 => (if t557 = 0 then ((sched_Factor.f k 0 (wrap64 (Int.tmod a0 20)) (wrap64 ((wrap64 (Int.tmod a0 20)) + (wrap64 (a1)))) (wrap64 ((wrap64 ((wrap64 (Int.tmod a0 20)) + (wrap64 (a1)))) + (wrap64 (a2))))).bind fun t558 => (if t558 = 1065353216 then ((sched_Factor.f k 2 (wrap64 (Int.tmod a0 20)) (wrap64 ((wrap64 (Int.tmod a0 20)) + (wrap64 (a1)))) (wrap64 ((wrap64 ((wrap64 (Int.tmod a0 20)) + (wrap64 (a1)))) + (wrap64 (a2))))).bind fun t559 => (if t559 = 1008981770 then ((sched_Factor.f k 0 (wrap64 (Int.tmod a0 20)) (wrap64 ((wrap64 (Int.tmod a0 20)) + (wrap64 (a1)))) (wrap64 (Int.tmod a0 20))).bind fun t560 => (some (t560 == 1065353216))) else (some false))) else (some false))) else (some false))) else (some false))
set_option maxHeartbeats 8000000 in
set_option maxRecDepth 100000 in
theorem anneallaw20_SchedEnds.calls (k : Nat) (a0 : Int) (a1 : Int) (a2 : Int) (r : Bool) (w : World) (h : anneallaw20_SchedEnds.f k a0 a1 a2 = some r) :
  Calls Try.prog 4 #[.int .u8 a0, .int .u8 a1, .int .u8 a2] w fun e w' => e = .returned (.bool r) ∧ Below w.heap.size w w' := by
 have HB := Aside0.mk (Below.refl w.heap.size w)
 have H : ((anneallaw20_known.f k).bind fun t556 => (if t556 = true then ((sched_Factor.f k 1 (wrap64 (Int.tmod a0 20)) (wrap64 ((wrap64 (Int.tmod a0 20)) + (wrap64 (a1)))) (wrap64 ((wrap64 ((wrap64 (Int.tmod a0 20)) + (wrap64 (a1)))) + (wrap64 (a2))))).bind fun t557 => (if t557 = 0 then ((sched_Factor.f k 0 (wrap64 (Int.tmod a0 20)) (wrap64 ((wrap64 (Int.tmod a0 20)) + (wrap64 (a1)))) (wrap64 ((wrap64 ((wrap64 (Int.tmod a0 20)) + (wrap64 (a1)))) + (wrap64 (a2))))).bind fun t558 => (if t558 = 1065353216 then ((sched_Factor.f k 2 (wrap64 (Int.tmod a0 20)) (wrap64 ((wrap64 (Int.tmod a0 20)) + (wrap64 (a1)))) (wrap64 ((wrap64 ((wrap64 (Int.tmod a0 20)) + (wrap64 (a1)))) + (wrap64 (a2))))).bind fun t559 => (if t559 = 1008981770 then ((sched_Factor.f k 0 (wrap64 (Int.tmod a0 20)) (wrap64 ((wrap64 (Int.tmod a0 20)) + (wrap64 (a1)))) (wrap64 (Int.tmod a0 20))).bind fun t560 => (some (t560 == 1065353216))) else (some false))) else (some false))) else (some false))) else (some false))) = some r := h
 clear h
 replace H := Option.bind_eq_some_iff.mp H
 obtain ⟨t556, A40, H⟩ := H
 replace H : (if t556 = true then ((sched_Factor.f k 1 (wrap64 (Int.tmod a0 20)) (wrap64 ((wrap64 (Int.tmod a0 20)) + (wrap64 (a1)))) (wrap64 ((wrap64 ((wrap64 (Int.tmod a0 20)) + (wrap64 (a1)))) + (wrap64 (a2))))).bind fun t557 => (if t557 = 0 then ((sched_Factor.f k 0 (wrap64 (Int.tmod a0 20)) (wrap64 ((wrap64 (Int.tmod a0 20)) + (wrap64 (a1)))) (wrap64 ((wrap64 ((wrap64 (Int.tmod a0 20)) + (wrap64 (a1)))) + (wrap64 (a2))))).bind fun t558 => (if t558 = 1065353216 then ((sched_Factor.f k 2 (wrap64 (Int.tmod a0 20)) (wrap64 ((wrap64 (Int.tmod a0 20)) + (wrap64 (a1)))) (wrap64 ((wrap64 ((wrap64 (Int.tmod a0 20)) + (wrap64 (a1)))) + (wrap64 (a2))))).bind fun t559 => (if t559 = 1008981770 then ((sched_Factor.f k 0 (wrap64 (Int.tmod a0 20)) (wrap64 ((wrap64 (Int.tmod a0 20)) + (wrap64 (a1)))) (wrap64 (Int.tmod a0 20))).bind fun t560 => (some (t560 == 1065353216))) else (some false))) else (some false))) else (some false))) else (some false)) = some r := H
 have A4 := Aside0.mk A40
 clear A40
 by_cases c5 : t556 = true
 ·subst c5
  have H1 : ((sched_Factor.f k 1 (wrap64 (Int.tmod a0 20)) (wrap64 ((wrap64 (Int.tmod a0 20)) + (wrap64 (a1)))) (wrap64 ((wrap64 ((wrap64 (Int.tmod a0 20)) + (wrap64 (a1)))) + (wrap64 (a2))))).bind fun t557 => (if t557 = 0 then ((sched_Factor.f k 0 (wrap64 (Int.tmod a0 20)) (wrap64 ((wrap64 (Int.tmod a0 20)) + (wrap64 (a1)))) (wrap64 ((wrap64 ((wrap64 (Int.tmod a0 20)) + (wrap64 (a1)))) + (wrap64 (a2))))).bind fun t558 => (if t558 = 1065353216 then ((sched_Factor.f k 2 (wrap64 (Int.tmod a0 20)) (wrap64 ((wrap64 (Int.tmod a0 20)) + (wrap64 (a1)))) (wrap64 ((wrap64 ((wrap64 (Int.tmod a0 20)) + (wrap64 (a1)))) + (wrap64 (a2))))).bind fun t559 => (if t559 = 1008981770 then ((sched_Factor.f k 0 (wrap64 (Int.tmod a0 20)) (wrap64 ((wrap64 (Int.tmod a0 20)) + (wrap64 (a1)))) (wrap64 (Int.tmod a0 20))).bind fun t560 => (some (t560 == 1065353216))) else (some false))) else (some false))) else (some false))) = some r := by rw [if_pos rfl] at H; exact H
  clear H
  have H := H1
  clear H1
  replace H := Option.bind_eq_some_iff.mp H
  obtain ⟨t557, A60, H⟩ := H
  replace H : (if t557 = 0 then ((sched_Factor.f k 0 (wrap64 (Int.tmod a0 20)) (wrap64 ((wrap64 (Int.tmod a0 20)) + (wrap64 (a1)))) (wrap64 ((wrap64 ((wrap64 (Int.tmod a0 20)) + (wrap64 (a1)))) + (wrap64 (a2))))).bind fun t558 => (if t558 = 1065353216 then ((sched_Factor.f k 2 (wrap64 (Int.tmod a0 20)) (wrap64 ((wrap64 (Int.tmod a0 20)) + (wrap64 (a1)))) (wrap64 ((wrap64 ((wrap64 (Int.tmod a0 20)) + (wrap64 (a1)))) + (wrap64 (a2))))).bind fun t559 => (if t559 = 1008981770 then ((sched_Factor.f k 0 (wrap64 (Int.tmod a0 20)) (wrap64 ((wrap64 (Int.tmod a0 20)) + (wrap64 (a1)))) (wrap64 (Int.tmod a0 20))).bind fun t560 => (some (t560 == 1065353216))) else (some false))) else (some false))) else (some false)) = some r := H
  have A6 := Aside0.mk A60
  clear A60
  by_cases c7 : t557 = 0
  ·rw [if_pos c7] at H
   have c7b0 : (t557 == 0) = true := beq_iff_eq.mpr c7
   have c7b1 : (t557 != 0) = false := bne_eq_false_iff_eq.mpr c7
   clear c7
   replace H := Option.bind_eq_some_iff.mp H
   obtain ⟨t558, A80, H⟩ := H
   replace H : (if t558 = 1065353216 then ((sched_Factor.f k 2 (wrap64 (Int.tmod a0 20)) (wrap64 ((wrap64 (Int.tmod a0 20)) + (wrap64 (a1)))) (wrap64 ((wrap64 ((wrap64 (Int.tmod a0 20)) + (wrap64 (a1)))) + (wrap64 (a2))))).bind fun t559 => (if t559 = 1008981770 then ((sched_Factor.f k 0 (wrap64 (Int.tmod a0 20)) (wrap64 ((wrap64 (Int.tmod a0 20)) + (wrap64 (a1)))) (wrap64 (Int.tmod a0 20))).bind fun t560 => (some (t560 == 1065353216))) else (some false))) else (some false)) = some r := H
   have A8 := Aside0.mk A80
   clear A80
   by_cases c9 : t558 = 1065353216
   ·rw [if_pos c9] at H
    have c9b0 : (t558 == 1065353216) = true := beq_iff_eq.mpr c9
    have c9b1 : (t558 != 1065353216) = false := bne_eq_false_iff_eq.mpr c9
    clear c9
    replace H := Option.bind_eq_some_iff.mp H
    obtain ⟨t559, A100, H⟩ := H
    replace H : (if t559 = 1008981770 then ((sched_Factor.f k 0 (wrap64 (Int.tmod a0 20)) (wrap64 ((wrap64 (Int.tmod a0 20)) + (wrap64 (a1)))) (wrap64 (Int.tmod a0 20))).bind fun t560 => (some (t560 == 1065353216))) else (some false)) = some r := H
    have A10 := Aside0.mk A100
    clear A100
    by_cases c11 : t559 = 1008981770
    ·rw [if_pos c11] at H
     have c11b0 : (t559 == 1008981770) = true := beq_iff_eq.mpr c11
     have c11b1 : (t559 != 1008981770) = false := bne_eq_false_iff_eq.mpr c11
     clear c11
     replace H := Option.bind_eq_some_iff.mp H
     obtain ⟨t560, A120, H⟩ := H
     replace H : (some (t560 == 1065353216)) = some r := H
     have A12 := Aside0.mk A120
     clear A120
     obtain rfl := Option.some.inj H
     go_enter Try.func4, Try.ntmps4
     go_wp2_with (first | ((with_reducible refine gate_callee (f := 6) rfl ?_); refine goesL_ (some 10) rfl rfl Try.func6 (by kernel_rfl) rfl #[] rfl gl ?_; (with_reducible refine (anneallaw20_known.calls k  true _ A4.out).mono ?_); rintro e w13 ⟨rfl, hb⟩; refine ⟨_, rfl, ?_⟩; have n0_ := Aside0.mk (below_step (bl0 HB.out) hb); clear HB; have HB := n0_; clear n0_) | ((with_reducible refine gate_callee (f := 7) rfl ?_); refine goesL_ (some 28) rfl rfl Try.func7 (by kernel_rfl) rfl #[.int .i64 1, .int .i64 (wrap64 (Int.tmod a0 20)), .int .i64 (wrap64 ((wrap64 (Int.tmod a0 20)) + (wrap64 (a1)))), .int .i64 (wrap64 ((wrap64 ((wrap64 (Int.tmod a0 20)) + (wrap64 (a1)))) + (wrap64 (a2))))] rfl gl ?_; (with_reducible refine (sched_Factor.calls k 1 (wrap64 (Int.tmod a0 20)) (wrap64 ((wrap64 (Int.tmod a0 20)) + (wrap64 (a1)))) (wrap64 ((wrap64 ((wrap64 (Int.tmod a0 20)) + (wrap64 (a1)))) + (wrap64 (a2)))) t557 _ A6.out).mono ?_); rintro e w14 ⟨rfl, hb⟩; refine ⟨_, rfl, ?_⟩; have n0_ := Aside0.mk (below_step (bl0 HB.out) hb); clear HB; have HB := n0_; clear n0_) | (go_at_call 7; (with_reducible refine (sched_Factor.calls k 0 (wrap64 (Int.tmod a0 20)) (wrap64 ((wrap64 (Int.tmod a0 20)) + (wrap64 (a1)))) (wrap64 ((wrap64 ((wrap64 (Int.tmod a0 20)) + (wrap64 (a1)))) + (wrap64 (a2)))) t558 _ A8.out).mono ?_); rintro e w15 ⟨rfl, hb⟩; have n0_ := Aside0.mk (below_step (bl0 HB.out) hb); clear HB; have HB := n0_; clear n0_) | (go_at_call 7; (with_reducible refine (sched_Factor.calls k 2 (wrap64 (Int.tmod a0 20)) (wrap64 ((wrap64 (Int.tmod a0 20)) + (wrap64 (a1)))) (wrap64 ((wrap64 ((wrap64 (Int.tmod a0 20)) + (wrap64 (a1)))) + (wrap64 (a2)))) t559 _ A10.out).mono ?_); rintro e w16 ⟨rfl, hb⟩; have n0_ := Aside0.mk (below_step (bl0 HB.out) hb); clear HB; have HB := n0_; clear n0_) | (go_at_call 7; (with_reducible refine (sched_Factor.calls k 0 (wrap64 (Int.tmod a0 20)) (wrap64 ((wrap64 (Int.tmod a0 20)) + (wrap64 (a1)))) (wrap64 (Int.tmod a0 20)) t560 _ A12.out).mono ?_); rintro e w17 ⟨rfl, hb⟩; have n0_ := Aside0.mk (below_step (bl0 HB.out) hb); clear HB; have HB := n0_; clear n0_))
     go_ret
     exact ⟨by first | rfl | (simp [errW_none, errW_some] <;> rfl) | (simp [*, errW_none, errW_some] <;> rfl), bl0 HB.out⟩
    ·rw [if_neg c11] at H
     have c11b0 : (t559 == 1008981770) = false := beq_eq_false_iff_ne.mpr c11
     have c11b1 : (t559 != 1008981770) = true := bne_iff_ne.mpr c11
     obtain rfl := Option.some.inj H
     go_enter Try.func4, Try.ntmps4
     go_wp2_with (first | ((with_reducible refine gate_callee (f := 6) rfl ?_); refine goesL_ (some 10) rfl rfl Try.func6 (by kernel_rfl) rfl #[] rfl gl ?_; (with_reducible refine (anneallaw20_known.calls k  true _ A4.out).mono ?_); rintro e w18 ⟨rfl, hb⟩; refine ⟨_, rfl, ?_⟩; have n0_ := Aside0.mk (below_step (bl0 HB.out) hb); clear HB; have HB := n0_; clear n0_) | ((with_reducible refine gate_callee (f := 7) rfl ?_); refine goesL_ (some 28) rfl rfl Try.func7 (by kernel_rfl) rfl #[.int .i64 1, .int .i64 (wrap64 (Int.tmod a0 20)), .int .i64 (wrap64 ((wrap64 (Int.tmod a0 20)) + (wrap64 (a1)))), .int .i64 (wrap64 ((wrap64 ((wrap64 (Int.tmod a0 20)) + (wrap64 (a1)))) + (wrap64 (a2))))] rfl gl ?_; (with_reducible refine (sched_Factor.calls k 1 (wrap64 (Int.tmod a0 20)) (wrap64 ((wrap64 (Int.tmod a0 20)) + (wrap64 (a1)))) (wrap64 ((wrap64 ((wrap64 (Int.tmod a0 20)) + (wrap64 (a1)))) + (wrap64 (a2)))) t557 _ A6.out).mono ?_); rintro e w19 ⟨rfl, hb⟩; refine ⟨_, rfl, ?_⟩; have n0_ := Aside0.mk (below_step (bl0 HB.out) hb); clear HB; have HB := n0_; clear n0_) | (go_at_call 7; (with_reducible refine (sched_Factor.calls k 0 (wrap64 (Int.tmod a0 20)) (wrap64 ((wrap64 (Int.tmod a0 20)) + (wrap64 (a1)))) (wrap64 ((wrap64 ((wrap64 (Int.tmod a0 20)) + (wrap64 (a1)))) + (wrap64 (a2)))) t558 _ A8.out).mono ?_); rintro e w20 ⟨rfl, hb⟩; have n0_ := Aside0.mk (below_step (bl0 HB.out) hb); clear HB; have HB := n0_; clear n0_) | (go_at_call 7; (with_reducible refine (sched_Factor.calls k 2 (wrap64 (Int.tmod a0 20)) (wrap64 ((wrap64 (Int.tmod a0 20)) + (wrap64 (a1)))) (wrap64 ((wrap64 ((wrap64 (Int.tmod a0 20)) + (wrap64 (a1)))) + (wrap64 (a2)))) t559 _ A10.out).mono ?_); rintro e w21 ⟨rfl, hb⟩; have n0_ := Aside0.mk (below_step (bl0 HB.out) hb); clear HB; have HB := n0_; clear n0_))
     go_ret
     exact ⟨by first | rfl | (simp [errW_none, errW_some] <;> rfl) | (simp [*, errW_none, errW_some] <;> rfl), bl0 HB.out⟩
   ·rw [if_neg c9] at H
    have c9b0 : (t558 == 1065353216) = false := beq_eq_false_iff_ne.mpr c9
    have c9b1 : (t558 != 1065353216) = true := bne_iff_ne.mpr c9
    obtain rfl := Option.some.inj H
    go_enter Try.func4, Try.ntmps4
    go_wp2_with (first | ((with_reducible refine gate_callee (f := 6) rfl ?_); refine goesL_ (some 10) rfl rfl Try.func6 (by kernel_rfl) rfl #[] rfl gl ?_; (with_reducible refine (anneallaw20_known.calls k  true _ A4.out).mono ?_); rintro e w22 ⟨rfl, hb⟩; refine ⟨_, rfl, ?_⟩; have n0_ := Aside0.mk (below_step (bl0 HB.out) hb); clear HB; have HB := n0_; clear n0_) | ((with_reducible refine gate_callee (f := 7) rfl ?_); refine goesL_ (some 28) rfl rfl Try.func7 (by kernel_rfl) rfl #[.int .i64 1, .int .i64 (wrap64 (Int.tmod a0 20)), .int .i64 (wrap64 ((wrap64 (Int.tmod a0 20)) + (wrap64 (a1)))), .int .i64 (wrap64 ((wrap64 ((wrap64 (Int.tmod a0 20)) + (wrap64 (a1)))) + (wrap64 (a2))))] rfl gl ?_; (with_reducible refine (sched_Factor.calls k 1 (wrap64 (Int.tmod a0 20)) (wrap64 ((wrap64 (Int.tmod a0 20)) + (wrap64 (a1)))) (wrap64 ((wrap64 ((wrap64 (Int.tmod a0 20)) + (wrap64 (a1)))) + (wrap64 (a2)))) t557 _ A6.out).mono ?_); rintro e w23 ⟨rfl, hb⟩; refine ⟨_, rfl, ?_⟩; have n0_ := Aside0.mk (below_step (bl0 HB.out) hb); clear HB; have HB := n0_; clear n0_) | (go_at_call 7; (with_reducible refine (sched_Factor.calls k 0 (wrap64 (Int.tmod a0 20)) (wrap64 ((wrap64 (Int.tmod a0 20)) + (wrap64 (a1)))) (wrap64 ((wrap64 ((wrap64 (Int.tmod a0 20)) + (wrap64 (a1)))) + (wrap64 (a2)))) t558 _ A8.out).mono ?_); rintro e w24 ⟨rfl, hb⟩; have n0_ := Aside0.mk (below_step (bl0 HB.out) hb); clear HB; have HB := n0_; clear n0_))
    go_ret
    exact ⟨by first | rfl | (simp [errW_none, errW_some] <;> rfl) | (simp [*, errW_none, errW_some] <;> rfl), bl0 HB.out⟩
  ·rw [if_neg c7] at H
   have c7b0 : (t557 == 0) = false := beq_eq_false_iff_ne.mpr c7
   have c7b1 : (t557 != 0) = true := bne_iff_ne.mpr c7
   obtain rfl := Option.some.inj H
   go_enter Try.func4, Try.ntmps4
   go_wp2_with (first | ((with_reducible refine gate_callee (f := 6) rfl ?_); refine goesL_ (some 10) rfl rfl Try.func6 (by kernel_rfl) rfl #[] rfl gl ?_; (with_reducible refine (anneallaw20_known.calls k  true _ A4.out).mono ?_); rintro e w25 ⟨rfl, hb⟩; refine ⟨_, rfl, ?_⟩; have n0_ := Aside0.mk (below_step (bl0 HB.out) hb); clear HB; have HB := n0_; clear n0_) | ((with_reducible refine gate_callee (f := 7) rfl ?_); refine goesL_ (some 28) rfl rfl Try.func7 (by kernel_rfl) rfl #[.int .i64 1, .int .i64 (wrap64 (Int.tmod a0 20)), .int .i64 (wrap64 ((wrap64 (Int.tmod a0 20)) + (wrap64 (a1)))), .int .i64 (wrap64 ((wrap64 ((wrap64 (Int.tmod a0 20)) + (wrap64 (a1)))) + (wrap64 (a2))))] rfl gl ?_; (with_reducible refine (sched_Factor.calls k 1 (wrap64 (Int.tmod a0 20)) (wrap64 ((wrap64 (Int.tmod a0 20)) + (wrap64 (a1)))) (wrap64 ((wrap64 ((wrap64 (Int.tmod a0 20)) + (wrap64 (a1)))) + (wrap64 (a2)))) t557 _ A6.out).mono ?_); rintro e w26 ⟨rfl, hb⟩; refine ⟨_, rfl, ?_⟩; have n0_ := Aside0.mk (below_step (bl0 HB.out) hb); clear HB; have HB := n0_; clear n0_))
   go_ret
   exact ⟨by first | rfl | (simp [errW_none, errW_some] <;> rfl) | (simp [*, errW_none, errW_some] <;> rfl), bl0 HB.out⟩
 ·replace c5 := Bool.eq_false_iff.mpr c5
  subst c5
  have H1 : (some false) = some r := by rw [if_neg (show ¬ (false = true) by decide)] at H; exact H
  clear H
  have H := H1
  clear H1
  obtain rfl := Option.some.inj H
  go_enter Try.func4, Try.ntmps4
  go_wp2_with (first | ((with_reducible refine gate_callee (f := 6) rfl ?_); refine goesL_ (some 10) rfl rfl Try.func6 (by kernel_rfl) rfl #[] rfl gl ?_; (with_reducible refine (anneallaw20_known.calls k  false _ A4.out).mono ?_); rintro e w27 ⟨rfl, hb⟩; refine ⟨_, rfl, ?_⟩; have n0_ := Aside0.mk (below_step (bl0 HB.out) hb); clear HB; have HB := n0_; clear n0_))
  go_ret
  exact ⟨by first | rfl | (simp [errW_none, errW_some] <;> rfl) | (simp [*, errW_none, errW_some] <;> rfl), bl0 HB.out⟩

/-- THE ONE PURE STATEMENT of anneallaw20_SchedEnds: yours. -/
def anneallaw20_SchedEnds.Pure : Prop := ∀ (a0 : Int) (a1 : Int) (a2 : Int), (Lit.int .u8 a0).wf = true → (Lit.int .u8 a1).wf = true → (Lit.int .u8 a2).wf = true → ∃ k, anneallaw20_SchedEnds.f k a0 a1 a2 = some true
theorem anneallaw20_SchedEnds.walk (P : anneallaw20_SchedEnds.Pure) (a0 : Int) (a1 : Int) (a2 : Int) (w : World) (w0 : (Lit.int .u8 a0).wf = true) (w1 : (Lit.int .u8 a1).wf = true) (w2 : (Lit.int .u8 a2).wf = true) :
  Calls Try.prog 4 #[.int .u8 a0, .int .u8 a1, .int .u8 a2] w fun e w' => e = .returned (.bool true) ∧ Below w.heap.size w w' := by
 obtain ⟨k, h⟩ := P a0 a1 a2 w0 w1 w2
 refine (anneallaw20_SchedEnds.calls k a0 a1 a2 true w h).mono ?_
 rintro e w' ⟨rfl, hd⟩
 exact ⟨rfl, hd⟩

end Go.Proofs.Ytjlgmfgjleajfaa.P

/- Plain facts about whole numbers in their kinds: wraps, shifts, bits, as numbers from nought on. -/
namespace Go.Proofs.Ytjlgmfgjleajfaa.Num
open Go.RowKit Go.Proofs.YtjlgmfgjleajfaaW.PrintWords Go.Proofs.YtjlgmfgjleajfaaW.PrintLast Go.Proofs.YtjlgmfgjleajfaaW.PrintMore

theorem w64_id (n : Int) (h : -9223372036854775808 ≤ n) (h' : n ≤ 9223372036854775807) : wrap64 n = n := by unfold wrap64; omega
theorem wf_u8 {n : Int} (h : (Lit.int .u8 n).wf = true) : 0 ≤ n ∧ n < 256 := by
 simp [Lit.wf, IntKind.min, IntKind.max, IntKind.bits, IntKind.signed] at h; omega
end Go.Proofs.Ytjlgmfgjleajfaa.Num

/- What the functions of layer 1 compute, as plain numbers. -/
namespace Go.Proofs.Ytjlgmfgjleajfaa.BitsF
open Go.RowKit Go.Proofs.Ytjlgmfgjleajfaa.P Go.Proofs.Ytjlgmfgjleajfaa.Num Go.Proofs.YtjlgmfgjleajfaaW.PrintWords Go.Proofs.YtjlgmfgjleajfaaW.PrintLast Go.Proofs.YtjlgmfgjleajfaaW.PrintMore

end Go.Proofs.Ytjlgmfgjleajfaa.BitsF

/- SchedEnds: what a schedule has behind its end, and that a flat one never falls: for each warming, each length. -/
namespace Go.Proofs.Ytjlgmfgjleajfaa.Pure
open Go.RowKit Go.Proofs.Ytjlgmfgjleajfaa.P Go.Proofs.Ytjlgmfgjleajfaa.Num Go.Proofs.Ytjlgmfgjleajfaa.BitsF Go.Proofs.YtjlgmfgjleajfaaW.PrintWords Go.Proofs.YtjlgmfgjleajfaaW.PrintLast Go.Proofs.YtjlgmfgjleajfaaW.PrintMore

theorem known20_ev : Ev (fun k => anneallaw20_known.f k) true := Ev.of anneallaw20_known.mono (k := 60) (by kernel_rfl)
theorem mx_id (x : Int) (h : 0 ≤ x) : mx x 0 = x := by unfold mx; split <;> omega
theorem half_le (n : Int) (h0 : 0 ≤ n) (h1 : n ≤ 1000) : wrap64 (Int.tdiv n 2) ≤ n ∧ wrap64 (wrap64 (Int.tdiv n 4) * 3) ≤ n := by
 rw [Int.tdiv_eq_ediv_of_nonneg h0, Int.tdiv_eq_ediv_of_nonneg h0, w64_id (n / 2) (by omega) (by omega), w64_id (n / 4) (by omega) (by omega), w64_id (n / 4 * 3) (by omega) (by omega)]; omega
theorem ends_flat (k : Nat) (w t s : Int) (h0 : 0 ≤ w) (h1 : w ≤ s) (h3 : 0 ≤ t) : sched_Factor.f k 0 w t s = some 1065353216 := by
 unfold sched_Factor.f
 rw [mx_id w h0, mx_id s (by omega), if_neg (by omega), if_neg (by decide), if_neg (by decide)]
theorem ends_cosine (k : Nat) (w t s : Int) (h0 : 0 ≤ w) (h1 : w ≤ t) (h2 : t ≤ s) (h3 : s ≤ 1000) : sched_Factor.f k 1 w t s = some 0 := by
 unfold sched_Factor.f sched_cosine.f
 rw [mx_id w h0, mx_id t (by omega), mx_id s (by omega), if_neg (by omega), if_pos rfl, w64_id (s - w) (by omega) (by omega), w64_id (t - w) (by omega) (by omega), if_pos (by omega)]; rfl
theorem ends_stepped (k : Nat) (w t s : Int) (h0 : 0 ≤ w) (h1 : w ≤ t) (h2 : t ≤ s) (h3 : s ≤ 1000) : sched_Factor.f k 2 w t s = some 1008981770 := by
 have hh := half_le (t - w) (by omega) (by omega)
 unfold sched_Factor.f
 rw [mx_id w h0, mx_id t (by omega), mx_id s (by omega), if_neg (by omega), if_neg (by decide), if_pos rfl, w64_id (s - w) (by omega) (by omega), w64_id (t - w) (by omega) (by omega), if_neg (by omega), if_neg (by omega)]
theorem SchedEnds : anneallaw20_SchedEnds.Pure := by
 intro a0 a1 a2 h0 h1 h2
 obtain ⟨p0, q0⟩ := wf_u8 h0
 obtain ⟨p1, q1⟩ := wf_u8 h1
 obtain ⟨p2, q2⟩ := wf_u8 h2
 have e0 := Int.tmod_eq_emod_of_nonneg (b := 20) p0
 apply Ev.rounds
 unfold anneallaw20_SchedEnds.f
 refine Ev.bind known20_ev ?_
 refine Ev.congr (fun k => ?_) (Ev.now true)
 rw [if_pos rfl, e0, w64_id (a0 % 20) (by omega) (by omega), w64_id a1 (by omega) (by omega), w64_id a2 (by omega) (by omega), w64_id (a0 % 20 + a1) (by omega) (by omega), w64_id (a0 % 20 + a1 + a2) (by omega) (by omega),
  ends_cosine k _ _ _ (by omega) (by omega) (by omega) (by omega), Option.bind_some, if_pos rfl, ends_flat k _ _ _ (by omega) (by omega) (by omega), Option.bind_some, if_pos rfl, ends_stepped k _ _ _ (by omega) (by omega) (by omega) (by omega), Option.bind_some, if_pos rfl, ends_flat k _ _ _ (by omega) (by omega) (by omega), Option.bind_some]
 rfl
end Go.Proofs.Ytjlgmfgjleajfaa.Pure
