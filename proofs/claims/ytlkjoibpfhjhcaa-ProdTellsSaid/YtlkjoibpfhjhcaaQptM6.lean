import Derived.Test.YtlkjoibpfhjhcaaQptZ
import Derived.Test.YtlkjoibpfhjhcaaQptM1
import Derived.Test.YtlkjoibpfhjhcaaQptM4
import Derived.Test.YtlkjoibpfhjhcaaQptM5
-- Printed by a program of this session's out of Lean's print of the translation; Lean checks it.
namespace Go.Proofs.Ytlkjoibpfhjhcaa.P
open Go.RowKit Go.Proofs.YtlkjoibpfhjhcaaW.PrintWords Go.Proofs.YtlkjoibpfhjhcaaW.PrintLast Go.Proofs.YtlkjoibpfhjhcaaW.PrintMore
attribute [local go_sem] max2_int min2_int max_two min_two max_three min_three max_four min_four   -- for this text's walks alone
set_option linter.unusedVariables false
set_option linter.unusedSimpArgs false

attribute [local go_sem high] eqA27
/-! ### anneallaw4_SumNoughts: function 5 -/
/-! ### format_IsZero: function 77 -/
def format_IsZero.f (k : Nat) (a0 : Int) (a1 : Int) : Option (Bool) := (format_Class.f k a0 a1).bind fun t507 => (some (t507 == 0))
theorem format_IsZero.mono : ∀ a0 a1 k, LeO (format_IsZero.f k a0 a1) (format_IsZero.f (k + 1) a0 a1) := by
 intro a0 a1 k
 unfold format_IsZero.f
 repeat' first
   |(with_reducible exact format_Class.mono _ _ _)
   |(with_reducible exact LeO.refl _)
   |(with_reducible exact LeO.none _)
   |(with_reducible refine LeO.ite ?_ ?_)
   |(with_reducible refine LeO.bind ?_ (fun _ => ?_))
   |exact format_Class.mono _ _ _
   |exact LeO.none _
   |refine LeO.ite ?_ ?_
   |refine LeO.bind ?_ (fun _ => ?_)
set_option maxHeartbeats 8000000 in
set_option maxRecDepth 100000 in
theorem format_IsZero.calls (k : Nat) (a0 : Int) (a1 : Int) (r : Bool) (w : World) (h : format_IsZero.f k a0 a1 = some r) :
  Calls Try.prog 77 #[.int .i64 a0, .int .u32 a1] w fun e w' => e = .returned (.bool r) ∧ Drawn0 w w' := by
 have H : ((format_Class.f k a0 a1).bind fun t507 => (some (t507 == 0))) = some r := h
 clear h
 replace H := Option.bind_eq_some_iff.mp H
 obtain ⟨t507, A30, H⟩ := H
 replace H : (some (t507 == 0)) = some r := H
 have A3 := Aside0.mk A30
 clear A30
 obtain rfl := Option.some.inj H
 go_enter Try.func77, Try.ntmps77
 go_wp2_with (first | ((with_reducible refine gate_callee (f := 54) rfl ?_); refine goesL_ (some 7) rfl rfl Try.func54 (by kernel_rfl) rfl #[.int .i64 a0, .int .u32 a1] rfl gl ?_; (with_reducible refine (format_Class.calls k a0 a1 t507 _ A3.out).mono ?_); rintro e w' ⟨rfl, ⟨nd, rfl⟩⟩; refine ⟨_, rfl, ?_⟩))
 go_ret
 exact ⟨by first | rfl | (simp; done) | (simp [*]; done) | (congr 1; (try unfold wrap64); omega) | (congr 1; rw [IntKind.wrap_u64]; omega), by repeat (first | exact Drawn0.refl _ | apply Drawn0.step)⟩

/-! ### prod_torn: function 47 -/
def prod_torn.f (k : Nat) (a0 : Int) (a1 : Int) (a2 : Int) : Option (Bool) := (format_IsZero.f k a0 a1).bind fun t508 => (if t508 = true then ((format_IsInf.f k a0 a2).bind fun t509 => (if t509 = true then (some true) else ((format_IsInf.f k a0 a1).bind fun t510 => (if t510 = true then ((format_IsZero.f k a0 a2).bind fun t511 => (some t511)) else (some false))))) else ((format_IsInf.f k a0 a1).bind fun t512 => (if t512 = true then ((format_IsZero.f k a0 a2).bind fun t513 => (some t513)) else (some false))))
theorem prod_torn.mono : ∀ a0 a1 a2 k, LeO (prod_torn.f k a0 a1 a2) (prod_torn.f (k + 1) a0 a1 a2) := by
 intro a0 a1 a2 k
 unfold prod_torn.f
 repeat' first
   |(with_reducible exact format_IsInf.mono _ _ _)
   |(with_reducible exact format_IsZero.mono _ _ _)
   |(with_reducible exact LeO.refl _)
   |(with_reducible exact LeO.none _)
   |(with_reducible refine LeO.ite ?_ ?_)
   |(with_reducible refine LeO.bind ?_ (fun _ => ?_))
   |exact format_IsInf.mono _ _ _
   |exact format_IsZero.mono _ _ _
   |exact LeO.none _
   |refine LeO.ite ?_ ?_
   |refine LeO.bind ?_ (fun _ => ?_)
set_option maxHeartbeats 8000000 in
set_option maxRecDepth 100000 in
theorem prod_torn.calls (k : Nat) (a0 : Int) (a1 : Int) (a2 : Int) (r : Bool) (w : World) (h : prod_torn.f k a0 a1 a2 = some r) :
  Calls Try.prog 47 #[.int .i64 a0, .int .u32 a1, .int .u32 a2] w fun e w' => e = .returned (.bool r) ∧ Drawn0 w w' := by
 have H : ((format_IsZero.f k a0 a1).bind fun t508 => (if t508 = true then ((format_IsInf.f k a0 a2).bind fun t509 => (if t509 = true then (some true) else ((format_IsInf.f k a0 a1).bind fun t510 => (if t510 = true then ((format_IsZero.f k a0 a2).bind fun t511 => (some t511)) else (some false))))) else ((format_IsInf.f k a0 a1).bind fun t512 => (if t512 = true then ((format_IsZero.f k a0 a2).bind fun t513 => (some t513)) else (some false))))) = some r := h
 clear h
 replace H := Option.bind_eq_some_iff.mp H
 obtain ⟨t508, A40, H⟩ := H
 replace H : (if t508 = true then ((format_IsInf.f k a0 a2).bind fun t509 => (if t509 = true then (some true) else ((format_IsInf.f k a0 a1).bind fun t510 => (if t510 = true then ((format_IsZero.f k a0 a2).bind fun t511 => (some t511)) else (some false))))) else ((format_IsInf.f k a0 a1).bind fun t512 => (if t512 = true then ((format_IsZero.f k a0 a2).bind fun t513 => (some t513)) else (some false)))) = some r := H
 have A4 := Aside0.mk A40
 clear A40
 by_cases c5 : t508 = true
 ·subst c5
  have H1 : ((format_IsInf.f k a0 a2).bind fun t509 => (if t509 = true then (some true) else ((format_IsInf.f k a0 a1).bind fun t510 => (if t510 = true then ((format_IsZero.f k a0 a2).bind fun t511 => (some t511)) else (some false))))) = some r := by rw [if_pos rfl] at H; exact H
  clear H
  have H := H1
  clear H1
  replace H := Option.bind_eq_some_iff.mp H
  obtain ⟨t509, A60, H⟩ := H
  replace H : (if t509 = true then (some true) else ((format_IsInf.f k a0 a1).bind fun t510 => (if t510 = true then ((format_IsZero.f k a0 a2).bind fun t511 => (some t511)) else (some false)))) = some r := H
  have A6 := Aside0.mk A60
  clear A60
  by_cases c7 : t509 = true
  ·subst c7
   have H1 : (some true) = some r := by rw [if_pos rfl] at H; exact H
   clear H
   have H := H1
   clear H1
   obtain rfl := Option.some.inj H
   go_enter Try.func47, Try.ntmps47
   go_wp2_with (first | ((with_reducible refine gate_callee (f := 77) rfl ?_); refine goesL_ (some 9) rfl rfl Try.func77 (by kernel_rfl) rfl #[.int .i64 a0, .int .u32 a1] rfl gl ?_; (with_reducible refine (format_IsZero.calls k a0 a1 true _ A4.out).mono ?_); rintro e w' ⟨rfl, ⟨nd, rfl⟩⟩; refine ⟨_, rfl, ?_⟩) | (go_at_call 32; (with_reducible refine (format_IsInf.calls k a0 a2 true _ A6.out).mono ?_); rintro e w' ⟨rfl, ⟨nd, rfl⟩⟩))
   go_ret
   exact ⟨by first | rfl | (simp; done) | (simp [*]; done) | (congr 1; (try unfold wrap64); omega) | (congr 1; rw [IntKind.wrap_u64]; omega), by repeat (first | exact Drawn0.refl _ | apply Drawn0.step)⟩
  ·replace c7 := Bool.eq_false_iff.mpr c7
   subst c7
   have H1 : ((format_IsInf.f k a0 a1).bind fun t510 => (if t510 = true then ((format_IsZero.f k a0 a2).bind fun t511 => (some t511)) else (some false))) = some r := by rw [if_neg (show ¬ (false = true) by decide)] at H; exact H
   clear H
   have H := H1
   clear H1
   replace H := Option.bind_eq_some_iff.mp H
   obtain ⟨t510, A80, H⟩ := H
   replace H : (if t510 = true then ((format_IsZero.f k a0 a2).bind fun t511 => (some t511)) else (some false)) = some r := H
   have A8 := Aside0.mk A80
   clear A80
   by_cases c9 : t510 = true
   ·subst c9
    have H1 : ((format_IsZero.f k a0 a2).bind fun t511 => (some t511)) = some r := by rw [if_pos rfl] at H; exact H
    clear H
    have H := H1
    clear H1
    replace H := Option.bind_eq_some_iff.mp H
    obtain ⟨t511, A100, H⟩ := H
    replace H : (some t511) = some r := H
    have A10 := Aside0.mk A100
    clear A100
    obtain rfl := Option.some.inj H
    go_enter Try.func47, Try.ntmps47
    go_wp2_with (first | ((with_reducible refine gate_callee (f := 77) rfl ?_); refine goesL_ (some 9) rfl rfl Try.func77 (by kernel_rfl) rfl #[.int .i64 a0, .int .u32 a1] rfl gl ?_; (with_reducible refine (format_IsZero.calls k a0 a1 true _ A4.out).mono ?_); rintro e w' ⟨rfl, ⟨nd, rfl⟩⟩; refine ⟨_, rfl, ?_⟩) | (go_at_call 32; (with_reducible refine (format_IsInf.calls k a0 a2 false _ A6.out).mono ?_); rintro e w' ⟨rfl, ⟨nd, rfl⟩⟩) | (go_at_call 32; (with_reducible refine (format_IsInf.calls k a0 a1 true _ A8.out).mono ?_); rintro e w' ⟨rfl, ⟨nd, rfl⟩⟩) | (go_at_call 77; (with_reducible refine (format_IsZero.calls k a0 a2 t511 _ A10.out).mono ?_); rintro e w' ⟨rfl, ⟨nd, rfl⟩⟩))
    go_ret
    exact ⟨by first | rfl | (simp; done) | (simp [*]; done) | (congr 1; (try unfold wrap64); omega) | (congr 1; rw [IntKind.wrap_u64]; omega), by repeat (first | exact Drawn0.refl _ | apply Drawn0.step)⟩
   ·replace c9 := Bool.eq_false_iff.mpr c9
    subst c9
    have H1 : (some false) = some r := by rw [if_neg (show ¬ (false = true) by decide)] at H; exact H
    clear H
    have H := H1
    clear H1
    obtain rfl := Option.some.inj H
    go_enter Try.func47, Try.ntmps47
    go_wp2_with (first | ((with_reducible refine gate_callee (f := 77) rfl ?_); refine goesL_ (some 9) rfl rfl Try.func77 (by kernel_rfl) rfl #[.int .i64 a0, .int .u32 a1] rfl gl ?_; (with_reducible refine (format_IsZero.calls k a0 a1 true _ A4.out).mono ?_); rintro e w' ⟨rfl, ⟨nd, rfl⟩⟩; refine ⟨_, rfl, ?_⟩) | (go_at_call 32; (with_reducible refine (format_IsInf.calls k a0 a2 false _ A6.out).mono ?_); rintro e w' ⟨rfl, ⟨nd, rfl⟩⟩) | (go_at_call 32; (with_reducible refine (format_IsInf.calls k a0 a1 false _ A8.out).mono ?_); rintro e w' ⟨rfl, ⟨nd, rfl⟩⟩))
    go_ret
    exact ⟨by first | rfl | (simp; done) | (simp [*]; done) | (congr 1; (try unfold wrap64); omega) | (congr 1; rw [IntKind.wrap_u64]; omega), by repeat (first | exact Drawn0.refl _ | apply Drawn0.step)⟩
 ·replace c5 := Bool.eq_false_iff.mpr c5
  subst c5
  have H1 : ((format_IsInf.f k a0 a1).bind fun t512 => (if t512 = true then ((format_IsZero.f k a0 a2).bind fun t513 => (some t513)) else (some false))) = some r := by rw [if_neg (show ¬ (false = true) by decide)] at H; exact H
  clear H
  have H := H1
  clear H1
  replace H := Option.bind_eq_some_iff.mp H
  obtain ⟨t512, A110, H⟩ := H
  replace H : (if t512 = true then ((format_IsZero.f k a0 a2).bind fun t513 => (some t513)) else (some false)) = some r := H
  have A11 := Aside0.mk A110
  clear A110
  by_cases c12 : t512 = true
  ·subst c12
   have H1 : ((format_IsZero.f k a0 a2).bind fun t513 => (some t513)) = some r := by rw [if_pos rfl] at H; exact H
   clear H
   have H := H1
   clear H1
   replace H := Option.bind_eq_some_iff.mp H
   obtain ⟨t513, A130, H⟩ := H
   replace H : (some t513) = some r := H
   have A13 := Aside0.mk A130
   clear A130
   obtain rfl := Option.some.inj H
   go_enter Try.func47, Try.ntmps47
   go_wp2_with (first | ((with_reducible refine gate_callee (f := 77) rfl ?_); refine goesL_ (some 9) rfl rfl Try.func77 (by kernel_rfl) rfl #[.int .i64 a0, .int .u32 a1] rfl gl ?_; (with_reducible refine (format_IsZero.calls k a0 a1 false _ A4.out).mono ?_); rintro e w' ⟨rfl, ⟨nd, rfl⟩⟩; refine ⟨_, rfl, ?_⟩) | (go_at_call 32; (with_reducible refine (format_IsInf.calls k a0 a1 true _ A11.out).mono ?_); rintro e w' ⟨rfl, ⟨nd, rfl⟩⟩) | (go_at_call 77; (with_reducible refine (format_IsZero.calls k a0 a2 t513 _ A13.out).mono ?_); rintro e w' ⟨rfl, ⟨nd, rfl⟩⟩))
   go_ret
   exact ⟨by first | rfl | (simp; done) | (simp [*]; done) | (congr 1; (try unfold wrap64); omega) | (congr 1; rw [IntKind.wrap_u64]; omega), by repeat (first | exact Drawn0.refl _ | apply Drawn0.step)⟩
  ·replace c12 := Bool.eq_false_iff.mpr c12
   subst c12
   have H1 : (some false) = some r := by rw [if_neg (show ¬ (false = true) by decide)] at H; exact H
   clear H
   have H := H1
   clear H1
   obtain rfl := Option.some.inj H
   go_enter Try.func47, Try.ntmps47
   go_wp2_with (first | ((with_reducible refine gate_callee (f := 77) rfl ?_); refine goesL_ (some 9) rfl rfl Try.func77 (by kernel_rfl) rfl #[.int .i64 a0, .int .u32 a1] rfl gl ?_; (with_reducible refine (format_IsZero.calls k a0 a1 false _ A4.out).mono ?_); rintro e w' ⟨rfl, ⟨nd, rfl⟩⟩; refine ⟨_, rfl, ?_⟩) | (go_at_call 32; (with_reducible refine (format_IsInf.calls k a0 a1 false _ A11.out).mono ?_); rintro e w' ⟨rfl, ⟨nd, rfl⟩⟩))
   go_ret
   exact ⟨by first | rfl | (simp; done) | (simp [*]; done) | (congr 1; (try unfold wrap64); omega) | (congr 1; rw [IntKind.wrap_u64]; omega), by repeat (first | exact Drawn0.refl _ | apply Drawn0.step)⟩

/-! ### prod_product: function 50 -/
def prod_product.f (a0 : Int) (a1 : Int) (a2 : Int) : Option (Bool × Int × Int × Bool) := (sum_Of.f a0 a1).bind fun bt515 => ((sum_Of.f a0 a2).bind fun bt519 => (some ((bt515.1 != bt519.1), wrap64 (bt515.2.1 + bt519.2.1), IntKind.u64.wrap (bt515.2.2.1 * bt519.2.2.1), false)))
set_option maxHeartbeats 8000000 in
set_option maxRecDepth 100000 in
theorem prod_product.calls (a0 : Int) (a1 : Int) (a2 : Int) (r1 : Bool) (r2 : Int) (r3 : Int) (r4 : Bool) (w : World) (h : prod_product.f a0 a1 a2 = some (r1, r2, r3, r4)) :
  Calls Try.prog 50 #[.int .i64 a0, .int .u32 a1, .int .u32 a2] w fun e w' => e = .returned (.agg #[.bool r1, .int .i64 r2, .int .u64 r3, .bool r4]) ∧ Below w.heap.size w w' := by
 have hu56 := Try.underlying56
 have HB := Aside0.mk (Below.refl w.heap.size w)
 have H : ((sum_Of.f a0 a1).bind fun bt515 => ((sum_Of.f a0 a2).bind fun bt519 => (some ((bt515.1 != bt519.1), wrap64 (bt515.2.1 + bt519.2.1), IntKind.u64.wrap (bt515.2.2.1 * bt519.2.2.1), false)))) = some (r1, r2, r3, r4) := h
 clear h
 replace H := Option.bind_eq_some_iff.mp H
 obtain ⟨⟨t515, t516, t517, t518⟩, A40, H⟩ := H
 replace H : ((sum_Of.f a0 a2).bind fun bt519 => (some ((t515 != bt519.1), wrap64 (t516 + bt519.2.1), IntKind.u64.wrap (t517 * bt519.2.2.1), false))) = some (r1, r2, r3, r4) := H
 have A4 := Aside0.mk A40
 clear A40
 replace H := Option.bind_eq_some_iff.mp H
 obtain ⟨⟨t519, t520, t521, t522⟩, A50, H⟩ := H
 replace H : (some ((t515 != t519), wrap64 (t516 + t520), IntKind.u64.wrap (t517 * t521), false)) = some (r1, r2, r3, r4) := H
 have A5 := Aside0.mk A50
 clear A50
 simp only [Option.some.injEq, Prod.mk.injEq] at H
 obtain ⟨rfl, rfl, rfl, rfl⟩ := H
 go_enter Try.func50, Try.ntmps50
 go_wp2_with (first | ((with_reducible refine gate_dst (N := 6) rfl ?_); refine box_event ?hg (N := 6) ?hd (cs := #[.bool false, .int .i64 0, .int .u64 0, .bool false]) (t := 56) ?hr ?_; (case hd => rfl); (case hg => rfl); (case hr => first | (go_simp; done) | (go_simp; rfl)); intro gb514 hg w6 hbox hb; have n0_ := Aside0.mk (below_step (bl0 HB.out) hb); have n1_ := Aside0.mk (hbox); have n2_ := Aside0.mk ((by rw [hg]; exact (below_size (bl0 HB.out)) : w.heap.size ≤ gb514)); have n3_ := n2_; clear HB; have HB := n0_; have BK514 := n1_; have GW514 := n2_; have GE514 := n3_; clear n0_ n1_ n2_ n3_; clear hb hbox hg) | ((with_reducible refine gate_callee (f := 35) rfl ?_); refine goesL_ (some 11) rfl rfl Try.func35 (by kernel_rfl) rfl #[.int .i64 a0, .int .u32 a1] rfl gl ?_; (with_reducible refine (sum_Of.calls a0 a1 t515 t516 t517 t518 _ A4.out).mono ?_); rintro e w7 ⟨rfl, hb⟩; refine ⟨_, rfl, ?_⟩; have n0_ := Aside0.mk (blk_below (g := gb514) (o := .cells #[.bool false, .int .i64 0, .int .u64 0, .bool false] 56 (0, 0)) (bv BK514.out) hb); have n1_ := Aside0.mk (below_step (bl1 HB.out GE514.out) hb); clear BK514; clear HB; have BK514 := n0_; have HB := n1_; clear n0_ n1_) | ((with_reducible refine gate_callee (f := 35) rfl ?_); refine goesL_ (some 14) rfl rfl Try.func35 (by kernel_rfl) rfl #[.int .i64 a0, .int .u32 a2] rfl gl ?_; (with_reducible refine (sum_Of.calls a0 a2 t519 t520 t521 t522 _ A5.out).mono ?_); rintro e w8 ⟨rfl, hb⟩; refine ⟨_, rfl, ?_⟩; have n0_ := Aside0.mk (blk_below (g := gb514) (o := .cells #[.bool false, .int .i64 0, .int .u64 0, .bool false] 56 (0, 0)) (bv BK514.out) hb); have n1_ := Aside0.mk (below_step (bl1 HB.out GE514.out) hb); clear BK514; clear HB; have BK514 := n0_; have HB := n1_; clear n0_ n1_) | ((with_reducible refine gate_dst (N := 7) rfl ?_); refine box_event ?hg (N := 7) ?hd (cs := #[.bool false, .int .i64 0, .int .u64 0, .bool false]) (t := 56) ?hr ?_; (case hd => rfl); (case hg => rfl); (case hr => first | (go_simp; done) | (go_simp; rfl)); intro gb523 hg w9 hbox hb; have n0_ := Aside0.mk (blk_below (g := gb514) (o := .cells #[.bool false, .int .i64 0, .int .u64 0, .bool false] 56 (0, 0)) (bv BK514.out) hb); have n1_ := Aside0.mk (below_step (bl1 HB.out GE514.out) hb); have n2_ := Aside0.mk (hbox); have n3_ := Aside0.mk ((by rw [hg]; exact (below_size (bl1 HB.out GE514.out)) : w.heap.size ≤ gb523)); have n4_ := n3_; have n5_ := Aside0.mk ((by rw [hg]; exact Nat.ne_of_lt (blk_lt (g := gb514) (o := .cells #[.bool false, .int .i64 0, .int .u64 0, .bool false] 56 (0, 0)) (bv BK514.out)) : gb514 ≠ gb523)); have n6_ := Aside0.mk (Ne.symm n5_.out); clear BK514; clear HB; have BK514 := n0_; have HB := n1_; have BK523 := n2_; have GW523 := n3_; have GE523 := n4_; have NB514_523 := n5_; have NB523_514 := n6_; clear n0_ n1_ n2_ n3_ n4_ n5_ n6_; clear hb hbox hg) | ((with_reducible refine gate_dst (N := 8) rfl ?_); refine box_event ?hg (N := 8) ?hd (cs := #[.bool false, .int .i64 0, .int .u64 0, .bool false]) (t := 56) ?hr ?_; (case hd => rfl); (case hg => rfl); (case hr => first | (go_simp; done) | (go_simp; rfl)); intro gb524 hg w10 hbox hb; have n0_ := Aside0.mk (blk_below (g := gb514) (o := .cells #[.bool false, .int .i64 0, .int .u64 0, .bool false] 56 (0, 0)) (bv BK514.out) hb); have n1_ := Aside0.mk (blk_below (g := gb523) (o := .cells #[.bool false, .int .i64 0, .int .u64 0, .bool false] 56 (0, 0)) (bv BK523.out) hb); have n2_ := Aside0.mk (below_step (bl2 HB.out GE514.out GE523.out) hb); have n3_ := Aside0.mk (hbox); have n4_ := Aside0.mk ((by rw [hg]; exact (below_size (bl2 HB.out GE514.out GE523.out)) : w.heap.size ≤ gb524)); have n5_ := n4_; have n6_ := Aside0.mk ((by rw [hg]; exact Nat.ne_of_lt (blk_lt (g := gb514) (o := .cells #[.bool false, .int .i64 0, .int .u64 0, .bool false] 56 (0, 0)) (bv BK514.out)) : gb514 ≠ gb524)); have n7_ := Aside0.mk (Ne.symm n6_.out); have n8_ := Aside0.mk ((by rw [hg]; exact Nat.ne_of_lt (blk_lt (g := gb523) (o := .cells #[.bool false, .int .i64 0, .int .u64 0, .bool false] 56 (0, 0)) (bv BK523.out)) : gb523 ≠ gb524)); have n9_ := Aside0.mk (Ne.symm n8_.out); clear BK514; clear BK523; clear HB; have BK514 := n0_; have BK523 := n1_; have HB := n2_; have BK524 := n3_; have GW524 := n4_; have GE524 := n5_; have NB514_524 := n6_; have NB524_514 := n7_; have NB523_524 := n8_; have NB524_523 := n9_; clear n0_ n1_ n2_ n3_ n4_ n5_ n6_ n7_ n8_ n9_; clear hb hbox hg; have hnb11 := NB523_514.out; have hnc11 := NB514_523.out; have hnb12 := NB523_524.out; have hnc12 := NB524_523.out; obtain ⟨hcz13_0, hcz13_1, hcz13_2, hcz13_3⟩ := bc4 BK523.out; obtain ⟨hfz13_0, hfz13_1, hfz13_2, hfz13_3⟩ := bf4 BK523.out; have hnb14 := NB524_514.out; have hnc14 := NB514_524.out; obtain ⟨hcz15_0, hcz15_1, hcz15_2, hcz15_3⟩ := bc4 BK524.out; obtain ⟨hfz15_0, hfz15_1, hfz15_2, hfz15_3⟩ := bf4 BK524.out; obtain ⟨hcz16_0, hcz16_1, hcz16_2, hcz16_3⟩ := bc4 BK514.out; obtain ⟨hfz16_0, hfz16_1, hfz16_2, hfz16_3⟩ := bf4 BK514.out))
 refine bodyPost_ret (results_cell_row rfl _ _ gb514 56 #[.bool (t515 != t519), .int .i64 (wrap64 (t516 + t520)), .int .u64 (IntKind.u64.wrap (t517 * t521)), .bool false] (0, 0) _ rfl (by (with_reducible repeat first | apply bd | apply be | apply ba); refine blk_put (cs := #[.bool (t515 != t519), .int .i64 (wrap64 (t516 + t520)), .int .u64 (IntKind.u64.wrap (t517 * t521)), .bool false]) ?_ 3 _ rfl; (with_reducible repeat first | apply bd | apply be | apply ba); refine blk_put (cs := #[.bool (t515 != t519), .int .i64 (wrap64 (t516 + t520)), .int .u64 0, .bool false]) ?_ 2 _ rfl; (with_reducible repeat first | apply bd | apply be | apply ba); refine blk_put (cs := #[.bool (t515 != t519), .int .i64 0, .int .u64 0, .bool false]) ?_ 1 _ rfl; (with_reducible repeat first | apply bd | apply be | apply ba); refine blk_put (cs := #[.bool false, .int .i64 0, .int .u64 0, .bool false]) ?_ 0 _ rfl; (with_reducible repeat first | apply bd | apply be | apply ba); refine blk_far ?_ NB514_524.out _; (with_reducible repeat first | apply bd | apply be | apply ba); refine blk_far ?_ NB514_524.out _; (with_reducible repeat first | apply bd | apply be | apply ba); refine blk_far ?_ NB514_524.out _; (with_reducible repeat first | apply bd | apply be | apply ba); refine blk_far ?_ NB514_524.out _; (with_reducible repeat first | apply bd | apply be | apply ba); refine blk_far ?_ NB514_523.out _; (with_reducible repeat first | apply bd | apply be | apply ba); refine blk_far ?_ NB514_523.out _; (with_reducible repeat first | apply bd | apply be | apply ba); refine blk_far ?_ NB514_523.out _; (with_reducible repeat first | apply bd | apply be | apply ba); refine blk_far ?_ NB514_523.out _; (with_reducible repeat first | apply bd | apply be | apply ba); exact BK514.out) Try.underlying56 rfl (by kernel_rfl)) rfl ?_
 exact ⟨by first | rfl | (simp [errW_none, errW_some] <;> rfl) | (simp [*, errW_none, errW_some] <;> rfl), bl3 HB.out GE514.out GE523.out GE524.out⟩

end Go.Proofs.Ytlkjoibpfhjhcaa.P
