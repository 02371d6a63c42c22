import Derived.Test.YtngkpekmgahjiaaQwtZ
import Derived.Test.YtngkpekmgahjiaaQwtM1
import Derived.Test.YtngkpekmgahjiaaQwtM4
import Derived.Test.YtngkpekmgahjiaaQwtPx18
import Derived.Test.YtngkpekmgahjiaaQwtM5
import Derived.Test.YtngkpekmgahjiaaQwtM2
import Derived.Test.YtngkpekmgahjiaaQwtM3
-- Printed by a program of this session's out of Lean's print of the translation; Lean checks it.
namespace Go.Proofs.Ytngkpekmgahjiaa.P
open Go.RowKit Go.Proofs.YtngkpekmgahjiaaW.PrintWords Go.Proofs.YtngkpekmgahjiaaW.PrintLast Go.Proofs.YtngkpekmgahjiaaW.PrintMore
attribute [local go_sem] max2_int min2_int max_two min_two max_three min_three max_four min_four
set_option linter.unusedVariables false
set_option linter.unusedSimpArgs false

/-! ### annealref1_FromInt: function 40 -/
def annealref1_FromInt.f (k : Nat) (a0 : Int) (a1 : Int) (a2 : Int) : Option (Int × Bool × Bool × Bool × Bool × Bool) := if a2 < 0 then ((annealref1_Pack.f k a0 a1 true 0 (IntKind.u64.wrap (-(IntKind.u64.wrap (a2)))) false).bind fun bt373 => (some (bt373.1, bt373.2.1, bt373.2.2.1, bt373.2.2.2.1, bt373.2.2.2.2.1, bt373.2.2.2.2.2))) else ((annealref1_Pack.f k a0 a1 false 0 (IntKind.u64.wrap (a2)) false).bind fun bt379 => (some (bt379.1, bt379.2.1, bt379.2.2.1, bt379.2.2.2.1, bt379.2.2.2.2.1, bt379.2.2.2.2.2)))
set_option maxHeartbeats 8000000 in
set_option maxRecDepth 100000 in
theorem annealref1_FromInt.calls (k : Nat) (a0 : Int) (a1 : Int) (a2 : Int) (r1 : Int) (r2 : Bool) (r3 : Bool) (r4 : Bool) (r5 : Bool) (r6 : Bool) (w : World) (h : annealref1_FromInt.f k a0 a1 a2 = some (r1, r2, r3, r4, r5, r6)) :
  Calls Try.prog 40 #[.int .i64 a0, .int .i64 a1, .int .i64 a2] w fun e w' => e = .returned (.tuple #[.int .u32 r1, .agg #[.bool r2, .bool r3, .bool r4, .bool r5, .bool r6]]) ∧ Below w.heap.size w w' := by
 have hu41 := Try.underlying41
 have HB := Aside0.mk (Below.refl w.heap.size w)
 have H : (if a2 < 0 then ((annealref1_Pack.f k a0 a1 true 0 (IntKind.u64.wrap (-(IntKind.u64.wrap (a2)))) false).bind fun bt373 => (some (bt373.1, bt373.2.1, bt373.2.2.1, bt373.2.2.2.1, bt373.2.2.2.2.1, bt373.2.2.2.2.2))) else ((annealref1_Pack.f k a0 a1 false 0 (IntKind.u64.wrap (a2)) false).bind fun bt379 => (some (bt379.1, bt379.2.1, bt379.2.2.1, bt379.2.2.2.1, bt379.2.2.2.2.1, bt379.2.2.2.2.2)))) = some (r1, r2, r3, r4, r5, r6) := h
 clear h
 by_cases c4 : a2 < 0
 ·rw [if_pos c4] at H
  have c4b0 : decide (a2 < 0) = true := decide_eq_true c4
  clear c4
  replace H := Option.bind_eq_some_iff.mp H
  obtain ⟨⟨t373, t374, t375, t376, t377, t378⟩, A50, H⟩ := H
  replace H : (some (t373, t374, t375, t376, t377, t378)) = some (r1, r2, r3, r4, r5, r6) := H
  have A5 := Aside0.mk A50
  clear A50
  simp only [Option.some.injEq, Prod.mk.injEq] at H
  obtain ⟨rfl, rfl, rfl, rfl, rfl, rfl⟩ := H
  go_enter Try.func40, Try.ntmps40
  go_wp2_with (first | ((with_reducible refine gate_dst (N := 7) rfl ?_); refine box_event ?hg (N := 7) ?hd (cs := F5) (t := 41) ?hr ?_; (case hd => rfl); (case hg => rfl); (case hr => first | (go_simp; done) | (go_simp; rfl)); intro gb372 hg w6 hbox hb; have n0_ := Aside0.mk (below_step (bl0 HB.out) hb); have n1_ := Aside0.mk (hbox); have n2_ := Aside0.mk ((by rw [hg]; exact (below_size (bl0 HB.out)) : w.heap.size ≤ gb372)); have n3_ := n2_; clear HB; have HB := n0_; have BK372 := n1_; have GW372 := n2_; have GE372 := n3_; clear n0_ n1_ n2_ n3_; clear hb hbox hg) | ((with_reducible refine gate_callee (f := 52) rfl ?_); refine goesL_ (some 15) rfl rfl Try.func52 (by kernel_rfl) rfl #[.int .i64 a0, .int .i64 a1, .bool true, .int .i64 0, .int .u64 (IntKind.u64.wrap (-(IntKind.u64.wrap (a2)))), .bool false] rfl gl ?_; (with_reducible refine (annealref1_Pack.calls k a0 a1 true 0 (IntKind.u64.wrap (-(IntKind.u64.wrap (a2)))) false t373 t374 t375 t376 t377 t378 _ A5.out).mono ?_); rintro e w7 ⟨rfl, hb⟩; refine ⟨_, rfl, ?_⟩; have n0_ := Aside0.mk (blk_below (g := gb372) (o := o5_ false false false false false 41) (bv BK372.out) hb); have n1_ := Aside0.mk (below_step (bl1 HB.out GE372.out) hb); clear BK372; clear HB; have BK372 := n0_; have HB := n1_; clear n0_ n1_; obtain ⟨hcz8_0, hcz8_1, hcz8_2, hcz8_3, hcz8_4⟩ := bc5 BK372.out; obtain ⟨hfz8_0, hfz8_1, hfz8_2, hfz8_3, hfz8_4⟩ := bf5 BK372.out))
  refine bodyPost_ret (results_tc rfl _ _ gb372 41 #[.bool t374, .bool t375, .bool t376, .bool t377, .bool t378] (0, 0) _ rfl (by (with_reducible repeat first | apply bd | apply be | apply ba); refine blk_put (cs := q5_ t374 t375 t376 t377 false) ?_ 4 _ rfl; (with_reducible repeat first | apply bd | apply be | apply ba); refine blk_put (cs := q5_ t374 t375 t376 false false) ?_ 3 _ rfl; (with_reducible repeat first | apply bd | apply be | apply ba); refine blk_put (cs := q5_ t374 t375 false false false) ?_ 2 _ rfl; (with_reducible repeat first | apply bd | apply be | apply ba); refine blk_put (cs := q5_ t374 false false false false) ?_ 1 _ rfl; (with_reducible repeat first | apply bd | apply be | apply ba); refine blk_put (cs := F5) ?_ 0 _ rfl; (with_reducible repeat first | apply bd | apply be | apply ba); exact BK372.out) Try.underlying41 rfl (by kernel_rfl)) rfl ?_
  exact ⟨by first | rfl | (simp [errW_none, errW_some] <;> rfl) | (simp [*, errW_none, errW_some] <;> rfl), bl1 HB.out GE372.out⟩
 ·rw [if_neg c4] at H
  have c4b0 : decide (a2 < 0) = false := decide_eq_false c4
  clear c4
  replace H := Option.bind_eq_some_iff.mp H
  obtain ⟨⟨t379, t380, t381, t382, t383, t384⟩, A90, H⟩ := H
  replace H : (some (t379, t380, t381, t382, t383, t384)) = some (r1, r2, r3, r4, r5, r6) := H
  have A9 := Aside0.mk A90
  clear A90
  simp only [Option.some.injEq, Prod.mk.injEq] at H
  obtain ⟨rfl, rfl, rfl, rfl, rfl, rfl⟩ := H
  go_enter Try.func40, Try.ntmps40
  go_wp2_with (first | ((with_reducible refine gate_dst (N := 7) rfl ?_); refine box_event ?hg (N := 7) ?hd (cs := F5) (t := 41) ?hr ?_; (case hd => rfl); (case hg => rfl); (case hr => first | (go_simp; done) | (go_simp; rfl)); intro gb372 hg w10 hbox hb; have n0_ := Aside0.mk (below_step (bl0 HB.out) hb); have n1_ := Aside0.mk (hbox); have n2_ := Aside0.mk ((by rw [hg]; exact (below_size (bl0 HB.out)) : w.heap.size ≤ gb372)); have n3_ := n2_; clear HB; have HB := n0_; have BK372 := n1_; have GW372 := n2_; have GE372 := n3_; clear n0_ n1_ n2_ n3_; clear hb hbox hg) | ((with_reducible refine gate_callee (f := 52) rfl ?_); refine goesL_ (some 22) rfl rfl Try.func52 (by kernel_rfl) rfl #[.int .i64 a0, .int .i64 a1, .bool false, .int .i64 0, .int .u64 (IntKind.u64.wrap (a2)), .bool false] rfl gl ?_; (with_reducible refine (annealref1_Pack.calls k a0 a1 false 0 (IntKind.u64.wrap (a2)) false t379 t380 t381 t382 t383 t384 _ A9.out).mono ?_); rintro e w11 ⟨rfl, hb⟩; refine ⟨_, rfl, ?_⟩; have n0_ := Aside0.mk (blk_below (g := gb372) (o := o5_ false false false false false 41) (bv BK372.out) hb); have n1_ := Aside0.mk (below_step (bl1 HB.out GE372.out) hb); clear BK372; clear HB; have BK372 := n0_; have HB := n1_; clear n0_ n1_; obtain ⟨hcz12_0, hcz12_1, hcz12_2, hcz12_3, hcz12_4⟩ := bc5 BK372.out; obtain ⟨hfz12_0, hfz12_1, hfz12_2, hfz12_3, hfz12_4⟩ := bf5 BK372.out))
  refine bodyPost_ret (results_tc rfl _ _ gb372 41 #[.bool t380, .bool t381, .bool t382, .bool t383, .bool t384] (0, 0) _ rfl (by (with_reducible repeat first | apply bd | apply be | apply ba); refine blk_put (cs := q5_ t380 t381 t382 t383 false) ?_ 4 _ rfl; (with_reducible repeat first | apply bd | apply be | apply ba); refine blk_put (cs := q5_ t380 t381 t382 false false) ?_ 3 _ rfl; (with_reducible repeat first | apply bd | apply be | apply ba); refine blk_put (cs := q5_ t380 t381 false false false) ?_ 2 _ rfl; (with_reducible repeat first | apply bd | apply be | apply ba); refine blk_put (cs := q5_ t380 false false false false) ?_ 1 _ rfl; (with_reducible repeat first | apply bd | apply be | apply ba); refine blk_put (cs := F5) ?_ 0 _ rfl; (with_reducible repeat first | apply bd | apply be | apply ba); exact BK372.out) Try.underlying41 rfl (by kernel_rfl)) rfl ?_
  exact ⟨by first | rfl | (simp [errW_none, errW_some] <;> rfl) | (simp [*, errW_none, errW_some] <;> rfl), bl1 HB.out GE372.out⟩

/-! ### annealref1_units: function 79 -/
def annealref1_units.f (k : Nat) (a0 : Int) (a1 : Int) (a2 : Int) : Option (Bool × Int × Bool) := (annealref1_Unpack.f k a0 a2).bind fun bt385 => (if bt385.2.1 ≥ 0 then (if bt385.2.1 > 39 then (if bt385.2.2 > 0 then (some (bt385.1, 4611686018427387904, false)) else (if 0 ≤ (mn bt385.2.1 39) then (some (bt385.1, IntKind.u64.wrap (bt385.2.2 * 2 ^ (mn bt385.2.1 39).toNat), false)) else (none))) else (if 0 ≤ (mn bt385.2.1 39) then (some (bt385.1, IntKind.u64.wrap (bt385.2.2 * 2 ^ (mn bt385.2.1 39).toNat), false)) else (none))) else ((annealref1_divide.f k bt385.2.2 (wrap64 (-bt385.2.1))).bind fun bt388 => ((annealref1_up.f a1 bt385.1 ((Go.bits .and .u64 bt388.1 1) == 1) bt388.2.1 bt388.2.2).bind fun t391 => (if t391 = true then (if bt388.2.1 = true then (some (bt385.1, IntKind.u64.wrap (bt388.1 + 1), true)) else (some (bt385.1, IntKind.u64.wrap (bt388.1 + 1), bt388.2.2))) else (if bt388.2.1 = true then (some (bt385.1, bt388.1, true)) else (some (bt385.1, bt388.1, bt388.2.2)))))))
set_option maxHeartbeats 8000000 in
set_option maxRecDepth 100000 in
theorem annealref1_units.calls (k : Nat) (a0 : Int) (a1 : Int) (a2 : Int) (r1 : Bool) (r2 : Int) (r3 : Bool) (w : World) (h : annealref1_units.f k a0 a1 a2 = some (r1, r2, r3)) :
  Calls Try.prog 79 #[.int .i64 a0, .int .i64 a1, .int .u32 a2] w fun e w' => e = .returned (.tuple #[.bool r1, .int .u64 r2, .bool r3]) ∧ Below w.heap.size w w' := by
 have HB := Aside0.mk (Below.refl w.heap.size w)
 have H : ((annealref1_Unpack.f k a0 a2).bind fun bt385 => (if bt385.2.1 ≥ 0 then (if bt385.2.1 > 39 then (if bt385.2.2 > 0 then (some (bt385.1, 4611686018427387904, false)) else (if 0 ≤ (mn bt385.2.1 39) then (some (bt385.1, IntKind.u64.wrap (bt385.2.2 * 2 ^ (mn bt385.2.1 39).toNat), false)) else (none))) else (if 0 ≤ (mn bt385.2.1 39) then (some (bt385.1, IntKind.u64.wrap (bt385.2.2 * 2 ^ (mn bt385.2.1 39).toNat), false)) else (none))) else ((annealref1_divide.f k bt385.2.2 (wrap64 (-bt385.2.1))).bind fun bt388 => ((annealref1_up.f a1 bt385.1 ((Go.bits .and .u64 bt388.1 1) == 1) bt388.2.1 bt388.2.2).bind fun t391 => (if t391 = true then (if bt388.2.1 = true then (some (bt385.1, IntKind.u64.wrap (bt388.1 + 1), true)) else (some (bt385.1, IntKind.u64.wrap (bt388.1 + 1), bt388.2.2))) else (if bt388.2.1 = true then (some (bt385.1, bt388.1, true)) else (some (bt385.1, bt388.1, bt388.2.2)))))))) = some (r1, r2, r3) := h
 clear h
 replace H := Option.bind_eq_some_iff.mp H
 obtain ⟨⟨t385, t386, t387⟩, A40, H⟩ := H
 replace H : (if t386 ≥ 0 then (if t386 > 39 then (if t387 > 0 then (some (t385, 4611686018427387904, false)) else (if 0 ≤ (mn t386 39) then (some (t385, IntKind.u64.wrap (t387 * 2 ^ (mn t386 39).toNat), false)) else (none))) else (if 0 ≤ (mn t386 39) then (some (t385, IntKind.u64.wrap (t387 * 2 ^ (mn t386 39).toNat), false)) else (none))) else ((annealref1_divide.f k t387 (wrap64 (-t386))).bind fun bt388 => ((annealref1_up.f a1 t385 ((Go.bits .and .u64 bt388.1 1) == 1) bt388.2.1 bt388.2.2).bind fun t391 => (if t391 = true then (if bt388.2.1 = true then (some (t385, IntKind.u64.wrap (bt388.1 + 1), true)) else (some (t385, IntKind.u64.wrap (bt388.1 + 1), bt388.2.2))) else (if bt388.2.1 = true then (some (t385, bt388.1, true)) else (some (t385, bt388.1, bt388.2.2))))))) = some (r1, r2, r3) := H
 have A4 := Aside0.mk A40
 clear A40
 by_cases c5 : t386 ≥ 0
 ·rw [if_pos c5] at H
  have c5b0 : decide (0 ≤ t386) = true := decide_eq_true c5
  clear c5
  by_cases c6 : t386 > 39
  ·rw [if_pos c6] at H
   have c6b0 : decide (39 < t386) = true := decide_eq_true c6
   clear c6
   by_cases c7 : t387 > 0
   ·rw [if_pos c7] at H
    have c7b0 : decide (0 < t387) = true := decide_eq_true c7
    clear c7
    simp only [Option.some.injEq, Prod.mk.injEq] at H
    obtain ⟨rfl, rfl, rfl⟩ := H
    go_enter Try.func79, Try.ntmps79
    go_wp2_with (first | (go_at_call 60; (with_reducible refine (annealref1_Unpack.calls k a0 a2 t385 t386 t387 _ A4.out).mono ?_); rintro e w' ⟨rfl, ⟨nd, rfl⟩⟩; (try first | exact ⟨rfl, _, World.drewN_drewN _ _ _⟩ | exact ⟨rfl, _, Eq.trans (World.drewN_drewN _ _ _) (congrArg (World.drewN _) (Nat.add_assoc _ _ _))⟩)))
    repeat (go_quiet (first | (go_at_call 60; (with_reducible refine (annealref1_Unpack.calls k a0 a2 t385 t386 t387 _ A4.out).mono ?_); rintro e w' ⟨rfl, ⟨nd, rfl⟩⟩; (try first | exact ⟨rfl, _, World.drewN_drewN _ _ _⟩ | exact ⟨rfl, _, Eq.trans (World.drewN_drewN _ _ _) (congrArg (World.drewN _) (Nat.add_assoc _ _ _))⟩))); try go_wp2_with (first | (go_at_call 60; (with_reducible refine (annealref1_Unpack.calls k a0 a2 t385 t386 t387 _ A4.out).mono ?_); rintro e w' ⟨rfl, ⟨nd, rfl⟩⟩; (try first | exact ⟨rfl, _, World.drewN_drewN _ _ _⟩ | exact ⟨rfl, _, Eq.trans (World.drewN_drewN _ _ _) (congrArg (World.drewN _) (Nat.add_assoc _ _ _))⟩))))
    go_ret3
    exact ⟨by first | rfl | (simp [errW_none, errW_some] <;> rfl) | (simp [*, errW_none, errW_some] <;> rfl), bl0 HB.out⟩
   ·rw [if_neg c7] at H
    have c7b0 : decide (0 < t387) = false := decide_eq_false c7
    clear c7
    obtain ⟨ji8, hji8⟩ : ∃ j_ : Int, (mn t386 39) = j_ := ⟨_, rfl⟩
    replace H : (if 0 ≤ (ji8) then (some (t385, IntKind.u64.wrap (t387 * 2 ^ (ji8).toNat), false)) else (none)) = some (r1, r2, r3) := by first | (rw [hji8] at H; exact H) | (simp only [hji8] at H ⊢; exact H)
    (try rw [hji8] at A4)
    (try (have hji8h : ji8 ≤ 39 := by (rw [← hji8]; unfold mn; (repeat' split) <;> omega)))
    (try (have hji8g : ji8 ≤ 64 := by omega))
    have hji8_ : (if 39 < t386 then 39 else t386) = ji8 := hji8
    by_cases c9 : 0 ≤ (ji8)
    ·rw [if_pos c9] at H
     have c9b0 := eq_true c9
     have c9b1 : decide (0 ≤ (ji8)) = true := decide_eq_true c9
     clear c9
     simp only [Option.some.injEq, Prod.mk.injEq] at H
     obtain ⟨rfl, rfl, rfl⟩ := H
     go_enter Try.func79, Try.ntmps79
     go_wp2_with (first | (go_at_call 60; (with_reducible refine (annealref1_Unpack.calls k a0 a2 t385 t386 t387 _ A4.out).mono ?_); rintro e w' ⟨rfl, ⟨nd, rfl⟩⟩; (try first | exact ⟨rfl, _, World.drewN_drewN _ _ _⟩ | exact ⟨rfl, _, Eq.trans (World.drewN_drewN _ _ _) (congrArg (World.drewN _) (Nat.add_assoc _ _ _))⟩)))
     repeat (go_quiet (first | (go_at_call 60; (with_reducible refine (annealref1_Unpack.calls k a0 a2 t385 t386 t387 _ A4.out).mono ?_); rintro e w' ⟨rfl, ⟨nd, rfl⟩⟩; (try first | exact ⟨rfl, _, World.drewN_drewN _ _ _⟩ | exact ⟨rfl, _, Eq.trans (World.drewN_drewN _ _ _) (congrArg (World.drewN _) (Nat.add_assoc _ _ _))⟩))); try go_wp2_with (first | (go_at_call 60; (with_reducible refine (annealref1_Unpack.calls k a0 a2 t385 t386 t387 _ A4.out).mono ?_); rintro e w' ⟨rfl, ⟨nd, rfl⟩⟩; (try first | exact ⟨rfl, _, World.drewN_drewN _ _ _⟩ | exact ⟨rfl, _, Eq.trans (World.drewN_drewN _ _ _) (congrArg (World.drewN _) (Nat.add_assoc _ _ _))⟩))))
     go_ret3
     exact ⟨by first | rfl | (simp [errW_none, errW_some] <;> rfl) | (simp only [← hji8]; first | rfl | (simp [errW_none, errW_some] <;> rfl)) | (simp [*, errW_none, errW_some] <;> rfl), bl0 HB.out⟩
    ·rw [if_neg c9] at H
     exact absurd H (by simp)
  ·rw [if_neg c6] at H
   have c6b0 : decide (39 < t386) = false := decide_eq_false c6
   clear c6
   obtain ⟨ji10, hji10⟩ : ∃ j_ : Int, (mn t386 39) = j_ := ⟨_, rfl⟩
   replace H : (if 0 ≤ (ji10) then (some (t385, IntKind.u64.wrap (t387 * 2 ^ (ji10).toNat), false)) else (none)) = some (r1, r2, r3) := by first | (rw [hji10] at H; exact H) | (simp only [hji10] at H ⊢; exact H)
   (try rw [hji10] at A4)
   (try (have hji10h : ji10 ≤ 39 := by (rw [← hji10]; unfold mn; (repeat' split) <;> omega)))
   (try (have hji10g : ji10 ≤ 64 := by omega))
   have hji10_ : (if 39 < t386 then 39 else t386) = ji10 := hji10
   by_cases c11 : 0 ≤ (ji10)
   ·rw [if_pos c11] at H
    have c11b0 := eq_true c11
    have c11b1 : decide (0 ≤ (ji10)) = true := decide_eq_true c11
    clear c11
    simp only [Option.some.injEq, Prod.mk.injEq] at H
    obtain ⟨rfl, rfl, rfl⟩ := H
    go_enter Try.func79, Try.ntmps79
    go_wp2_with (first | (go_at_call 60; (with_reducible refine (annealref1_Unpack.calls k a0 a2 t385 t386 t387 _ A4.out).mono ?_); rintro e w' ⟨rfl, ⟨nd, rfl⟩⟩; (try first | exact ⟨rfl, _, World.drewN_drewN _ _ _⟩ | exact ⟨rfl, _, Eq.trans (World.drewN_drewN _ _ _) (congrArg (World.drewN _) (Nat.add_assoc _ _ _))⟩)))
    repeat (go_quiet (first | (go_at_call 60; (with_reducible refine (annealref1_Unpack.calls k a0 a2 t385 t386 t387 _ A4.out).mono ?_); rintro e w' ⟨rfl, ⟨nd, rfl⟩⟩; (try first | exact ⟨rfl, _, World.drewN_drewN _ _ _⟩ | exact ⟨rfl, _, Eq.trans (World.drewN_drewN _ _ _) (congrArg (World.drewN _) (Nat.add_assoc _ _ _))⟩))); try go_wp2_with (first | (go_at_call 60; (with_reducible refine (annealref1_Unpack.calls k a0 a2 t385 t386 t387 _ A4.out).mono ?_); rintro e w' ⟨rfl, ⟨nd, rfl⟩⟩; (try first | exact ⟨rfl, _, World.drewN_drewN _ _ _⟩ | exact ⟨rfl, _, Eq.trans (World.drewN_drewN _ _ _) (congrArg (World.drewN _) (Nat.add_assoc _ _ _))⟩))))
    go_ret3
    exact ⟨by first | rfl | (simp [errW_none, errW_some] <;> rfl) | (simp only [← hji10]; first | rfl | (simp [errW_none, errW_some] <;> rfl)) | (simp [*, errW_none, errW_some] <;> rfl), bl0 HB.out⟩
   ·rw [if_neg c11] at H
    exact absurd H (by simp)
 ·rw [if_neg c5] at H
  have c5b0 : decide (0 ≤ t386) = false := decide_eq_false c5
  clear c5
  replace H := Option.bind_eq_some_iff.mp H
  obtain ⟨⟨t388, t389, t390⟩, A120, H⟩ := H
  replace H : ((annealref1_up.f a1 t385 ((Go.bits .and .u64 t388 1) == 1) t389 t390).bind fun t391 => (if t391 = true then (if t389 = true then (some (t385, IntKind.u64.wrap (t388 + 1), true)) else (some (t385, IntKind.u64.wrap (t388 + 1), t390))) else (if t389 = true then (some (t385, t388, true)) else (some (t385, t388, t390))))) = some (r1, r2, r3) := H
  have A12 := Aside0.mk A120
  clear A120
  replace H := Option.bind_eq_some_iff.mp H
  obtain ⟨t391, A130, H⟩ := H
  replace H : (if t391 = true then (if t389 = true then (some (t385, IntKind.u64.wrap (t388 + 1), true)) else (some (t385, IntKind.u64.wrap (t388 + 1), t390))) else (if t389 = true then (some (t385, t388, true)) else (some (t385, t388, t390)))) = some (r1, r2, r3) := H
  have A13 := Aside0.mk A130
  clear A130
  by_cases c14 : t391 = true
  ·subst c14
   have H1 : (if t389 = true then (some (t385, IntKind.u64.wrap (t388 + 1), true)) else (some (t385, IntKind.u64.wrap (t388 + 1), t390))) = some (r1, r2, r3) := by rw [if_pos rfl] at H; exact H
   clear H
   have H := H1
   clear H1
   by_cases c15 : t389 = true
   ·subst c15
    have H1 : (some (t385, IntKind.u64.wrap (t388 + 1), true)) = some (r1, r2, r3) := by rw [if_pos rfl] at H; exact H
    clear H
    have H := H1
    clear H1
    simp only [Option.some.injEq, Prod.mk.injEq] at H
    obtain ⟨rfl, rfl, rfl⟩ := H
    go_enter Try.func79, Try.ntmps79
    go_wp2_with (first | (go_at_call 60; (with_reducible refine (annealref1_Unpack.calls k a0 a2 t385 t386 t387 _ A4.out).mono ?_); rintro e w' ⟨rfl, ⟨nd, rfl⟩⟩; (try first | exact ⟨rfl, _, World.drewN_drewN _ _ _⟩ | exact ⟨rfl, _, Eq.trans (World.drewN_drewN _ _ _) (congrArg (World.drewN _) (Nat.add_assoc _ _ _))⟩)) | (go_at_call 92; (with_reducible refine (annealref1_divide.calls k t387 (wrap64 (-t386)) t388 true t390 _ A12.out).mono ?_); rintro e w16 ⟨rfl, hb⟩; have n0_ := Aside0.mk (below_step (bl0 HB.out) hb); clear HB; have HB := n0_; clear n0_) | (go_at_call 93; (with_reducible refine (annealref1_up.calls a1 t385 ((Go.bits .and .u64 t388 1) == 1) true t390 true _ A13.out).mono ?_); rintro e w' ⟨rfl, ⟨nd, rfl⟩⟩; (try first | exact ⟨rfl, _, World.drewN_drewN _ _ _⟩ | exact ⟨rfl, _, Eq.trans (World.drewN_drewN _ _ _) (congrArg (World.drewN _) (Nat.add_assoc _ _ _))⟩)))
    repeat (go_quiet (first | (go_at_call 60; (with_reducible refine (annealref1_Unpack.calls k a0 a2 t385 t386 t387 _ A4.out).mono ?_); rintro e w' ⟨rfl, ⟨nd, rfl⟩⟩; (try first | exact ⟨rfl, _, World.drewN_drewN _ _ _⟩ | exact ⟨rfl, _, Eq.trans (World.drewN_drewN _ _ _) (congrArg (World.drewN _) (Nat.add_assoc _ _ _))⟩)) | (go_at_call 92; (with_reducible refine (annealref1_divide.calls k t387 (wrap64 (-t386)) t388 true t390 _ A12.out).mono ?_); rintro e w16 ⟨rfl, hb⟩; have n0_ := Aside0.mk (below_step (bl0 HB.out) hb); clear HB; have HB := n0_; clear n0_) | (go_at_call 93; (with_reducible refine (annealref1_up.calls a1 t385 ((Go.bits .and .u64 t388 1) == 1) true t390 true _ A13.out).mono ?_); rintro e w' ⟨rfl, ⟨nd, rfl⟩⟩; (try first | exact ⟨rfl, _, World.drewN_drewN _ _ _⟩ | exact ⟨rfl, _, Eq.trans (World.drewN_drewN _ _ _) (congrArg (World.drewN _) (Nat.add_assoc _ _ _))⟩))); try go_wp2_with (first | (go_at_call 60; (with_reducible refine (annealref1_Unpack.calls k a0 a2 t385 t386 t387 _ A4.out).mono ?_); rintro e w' ⟨rfl, ⟨nd, rfl⟩⟩; (try first | exact ⟨rfl, _, World.drewN_drewN _ _ _⟩ | exact ⟨rfl, _, Eq.trans (World.drewN_drewN _ _ _) (congrArg (World.drewN _) (Nat.add_assoc _ _ _))⟩)) | (go_at_call 92; (with_reducible refine (annealref1_divide.calls k t387 (wrap64 (-t386)) t388 true t390 _ A12.out).mono ?_); rintro e w16 ⟨rfl, hb⟩; have n0_ := Aside0.mk (below_step (bl0 HB.out) hb); clear HB; have HB := n0_; clear n0_) | (go_at_call 93; (with_reducible refine (annealref1_up.calls a1 t385 ((Go.bits .and .u64 t388 1) == 1) true t390 true _ A13.out).mono ?_); rintro e w' ⟨rfl, ⟨nd, rfl⟩⟩; (try first | exact ⟨rfl, _, World.drewN_drewN _ _ _⟩ | exact ⟨rfl, _, Eq.trans (World.drewN_drewN _ _ _) (congrArg (World.drewN _) (Nat.add_assoc _ _ _))⟩))))
    go_ret3
    exact ⟨by first | rfl | (simp [errW_none, errW_some] <;> rfl) | (simp [*, errW_none, errW_some] <;> rfl), bl0 HB.out⟩
   ·replace c15 := Bool.eq_false_iff.mpr c15
    subst c15
    have H1 : (some (t385, IntKind.u64.wrap (t388 + 1), t390)) = some (r1, r2, r3) := by rw [if_neg (show ¬ (false = true) by decide)] at H; exact H
    clear H
    have H := H1
    clear H1
    simp only [Option.some.injEq, Prod.mk.injEq] at H
    obtain ⟨rfl, rfl, rfl⟩ := H
    go_enter Try.func79, Try.ntmps79
    go_wp2_with (first | (go_at_call 60; (with_reducible refine (annealref1_Unpack.calls k a0 a2 t385 t386 t387 _ A4.out).mono ?_); rintro e w' ⟨rfl, ⟨nd, rfl⟩⟩; (try first | exact ⟨rfl, _, World.drewN_drewN _ _ _⟩ | exact ⟨rfl, _, Eq.trans (World.drewN_drewN _ _ _) (congrArg (World.drewN _) (Nat.add_assoc _ _ _))⟩)) | (go_at_call 92; (with_reducible refine (annealref1_divide.calls k t387 (wrap64 (-t386)) t388 false t390 _ A12.out).mono ?_); rintro e w17 ⟨rfl, hb⟩; have n0_ := Aside0.mk (below_step (bl0 HB.out) hb); clear HB; have HB := n0_; clear n0_) | (go_at_call 93; (with_reducible refine (annealref1_up.calls a1 t385 ((Go.bits .and .u64 t388 1) == 1) false t390 true _ A13.out).mono ?_); rintro e w' ⟨rfl, ⟨nd, rfl⟩⟩; (try first | exact ⟨rfl, _, World.drewN_drewN _ _ _⟩ | exact ⟨rfl, _, Eq.trans (World.drewN_drewN _ _ _) (congrArg (World.drewN _) (Nat.add_assoc _ _ _))⟩)))
    repeat (go_quiet (first | (go_at_call 60; (with_reducible refine (annealref1_Unpack.calls k a0 a2 t385 t386 t387 _ A4.out).mono ?_); rintro e w' ⟨rfl, ⟨nd, rfl⟩⟩; (try first | exact ⟨rfl, _, World.drewN_drewN _ _ _⟩ | exact ⟨rfl, _, Eq.trans (World.drewN_drewN _ _ _) (congrArg (World.drewN _) (Nat.add_assoc _ _ _))⟩)) | (go_at_call 92; (with_reducible refine (annealref1_divide.calls k t387 (wrap64 (-t386)) t388 false t390 _ A12.out).mono ?_); rintro e w17 ⟨rfl, hb⟩; have n0_ := Aside0.mk (below_step (bl0 HB.out) hb); clear HB; have HB := n0_; clear n0_) | (go_at_call 93; (with_reducible refine (annealref1_up.calls a1 t385 ((Go.bits .and .u64 t388 1) == 1) false t390 true _ A13.out).mono ?_); rintro e w' ⟨rfl, ⟨nd, rfl⟩⟩; (try first | exact ⟨rfl, _, World.drewN_drewN _ _ _⟩ | exact ⟨rfl, _, Eq.trans (World.drewN_drewN _ _ _) (congrArg (World.drewN _) (Nat.add_assoc _ _ _))⟩))); try go_wp2_with (first | (go_at_call 60; (with_reducible refine (annealref1_Unpack.calls k a0 a2 t385 t386 t387 _ A4.out).mono ?_); rintro e w' ⟨rfl, ⟨nd, rfl⟩⟩; (try first | exact ⟨rfl, _, World.drewN_drewN _ _ _⟩ | exact ⟨rfl, _, Eq.trans (World.drewN_drewN _ _ _) (congrArg (World.drewN _) (Nat.add_assoc _ _ _))⟩)) | (go_at_call 92; (with_reducible refine (annealref1_divide.calls k t387 (wrap64 (-t386)) t388 false t390 _ A12.out).mono ?_); rintro e w17 ⟨rfl, hb⟩; have n0_ := Aside0.mk (below_step (bl0 HB.out) hb); clear HB; have HB := n0_; clear n0_) | (go_at_call 93; (with_reducible refine (annealref1_up.calls a1 t385 ((Go.bits .and .u64 t388 1) == 1) false t390 true _ A13.out).mono ?_); rintro e w' ⟨rfl, ⟨nd, rfl⟩⟩; (try first | exact ⟨rfl, _, World.drewN_drewN _ _ _⟩ | exact ⟨rfl, _, Eq.trans (World.drewN_drewN _ _ _) (congrArg (World.drewN _) (Nat.add_assoc _ _ _))⟩))))
    go_ret3
    exact ⟨by first | rfl | (simp [errW_none, errW_some] <;> rfl) | (simp [*, errW_none, errW_some] <;> rfl), bl0 HB.out⟩
  ·replace c14 := Bool.eq_false_iff.mpr c14
   subst c14
   have H1 : (if t389 = true then (some (t385, t388, true)) else (some (t385, t388, t390))) = some (r1, r2, r3) := by rw [if_neg (show ¬ (false = true) by decide)] at H; exact H
   clear H
   have H := H1
   clear H1
   by_cases c18 : t389 = true
   ·subst c18
    have H1 : (some (t385, t388, true)) = some (r1, r2, r3) := by rw [if_pos rfl] at H; exact H
    clear H
    have H := H1
    clear H1
    simp only [Option.some.injEq, Prod.mk.injEq] at H
    obtain ⟨rfl, rfl, rfl⟩ := H
    go_enter Try.func79, Try.ntmps79
    go_wp2_with (first | (go_at_call 60; (with_reducible refine (annealref1_Unpack.calls k a0 a2 t385 t386 t387 _ A4.out).mono ?_); rintro e w' ⟨rfl, ⟨nd, rfl⟩⟩; (try first | exact ⟨rfl, _, World.drewN_drewN _ _ _⟩ | exact ⟨rfl, _, Eq.trans (World.drewN_drewN _ _ _) (congrArg (World.drewN _) (Nat.add_assoc _ _ _))⟩)) | (go_at_call 92; (with_reducible refine (annealref1_divide.calls k t387 (wrap64 (-t386)) t388 true t390 _ A12.out).mono ?_); rintro e w19 ⟨rfl, hb⟩; have n0_ := Aside0.mk (below_step (bl0 HB.out) hb); clear HB; have HB := n0_; clear n0_) | (go_at_call 93; (with_reducible refine (annealref1_up.calls a1 t385 ((Go.bits .and .u64 t388 1) == 1) true t390 false _ A13.out).mono ?_); rintro e w' ⟨rfl, ⟨nd, rfl⟩⟩; (try first | exact ⟨rfl, _, World.drewN_drewN _ _ _⟩ | exact ⟨rfl, _, Eq.trans (World.drewN_drewN _ _ _) (congrArg (World.drewN _) (Nat.add_assoc _ _ _))⟩)))
    repeat (go_quiet (first | (go_at_call 60; (with_reducible refine (annealref1_Unpack.calls k a0 a2 t385 t386 t387 _ A4.out).mono ?_); rintro e w' ⟨rfl, ⟨nd, rfl⟩⟩; (try first | exact ⟨rfl, _, World.drewN_drewN _ _ _⟩ | exact ⟨rfl, _, Eq.trans (World.drewN_drewN _ _ _) (congrArg (World.drewN _) (Nat.add_assoc _ _ _))⟩)) | (go_at_call 92; (with_reducible refine (annealref1_divide.calls k t387 (wrap64 (-t386)) t388 true t390 _ A12.out).mono ?_); rintro e w19 ⟨rfl, hb⟩; have n0_ := Aside0.mk (below_step (bl0 HB.out) hb); clear HB; have HB := n0_; clear n0_) | (go_at_call 93; (with_reducible refine (annealref1_up.calls a1 t385 ((Go.bits .and .u64 t388 1) == 1) true t390 false _ A13.out).mono ?_); rintro e w' ⟨rfl, ⟨nd, rfl⟩⟩; (try first | exact ⟨rfl, _, World.drewN_drewN _ _ _⟩ | exact ⟨rfl, _, Eq.trans (World.drewN_drewN _ _ _) (congrArg (World.drewN _) (Nat.add_assoc _ _ _))⟩))); try go_wp2_with (first | (go_at_call 60; (with_reducible refine (annealref1_Unpack.calls k a0 a2 t385 t386 t387 _ A4.out).mono ?_); rintro e w' ⟨rfl, ⟨nd, rfl⟩⟩; (try first | exact ⟨rfl, _, World.drewN_drewN _ _ _⟩ | exact ⟨rfl, _, Eq.trans (World.drewN_drewN _ _ _) (congrArg (World.drewN _) (Nat.add_assoc _ _ _))⟩)) | (go_at_call 92; (with_reducible refine (annealref1_divide.calls k t387 (wrap64 (-t386)) t388 true t390 _ A12.out).mono ?_); rintro e w19 ⟨rfl, hb⟩; have n0_ := Aside0.mk (below_step (bl0 HB.out) hb); clear HB; have HB := n0_; clear n0_) | (go_at_call 93; (with_reducible refine (annealref1_up.calls a1 t385 ((Go.bits .and .u64 t388 1) == 1) true t390 false _ A13.out).mono ?_); rintro e w' ⟨rfl, ⟨nd, rfl⟩⟩; (try first | exact ⟨rfl, _, World.drewN_drewN _ _ _⟩ | exact ⟨rfl, _, Eq.trans (World.drewN_drewN _ _ _) (congrArg (World.drewN _) (Nat.add_assoc _ _ _))⟩))))
    go_ret3
    exact ⟨by first | rfl | (simp [errW_none, errW_some] <;> rfl) | (simp [*, errW_none, errW_some] <;> rfl), bl0 HB.out⟩
   ·replace c18 := Bool.eq_false_iff.mpr c18
    subst c18
    have H1 : (some (t385, t388, t390)) = some (r1, r2, r3) := by rw [if_neg (show ¬ (false = true) by decide)] at H; exact H
    clear H
    have H := H1
    clear H1
    simp only [Option.some.injEq, Prod.mk.injEq] at H
    obtain ⟨rfl, rfl, rfl⟩ := H
    go_enter Try.func79, Try.ntmps79
    go_wp2_with (first | (go_at_call 60; (with_reducible refine (annealref1_Unpack.calls k a0 a2 t385 t386 t387 _ A4.out).mono ?_); rintro e w' ⟨rfl, ⟨nd, rfl⟩⟩; (try first | exact ⟨rfl, _, World.drewN_drewN _ _ _⟩ | exact ⟨rfl, _, Eq.trans (World.drewN_drewN _ _ _) (congrArg (World.drewN _) (Nat.add_assoc _ _ _))⟩)) | (go_at_call 92; (with_reducible refine (annealref1_divide.calls k t387 (wrap64 (-t386)) t388 false t390 _ A12.out).mono ?_); rintro e w20 ⟨rfl, hb⟩; have n0_ := Aside0.mk (below_step (bl0 HB.out) hb); clear HB; have HB := n0_; clear n0_) | (go_at_call 93; (with_reducible refine (annealref1_up.calls a1 t385 ((Go.bits .and .u64 t388 1) == 1) false t390 false _ A13.out).mono ?_); rintro e w' ⟨rfl, ⟨nd, rfl⟩⟩; (try first | exact ⟨rfl, _, World.drewN_drewN _ _ _⟩ | exact ⟨rfl, _, Eq.trans (World.drewN_drewN _ _ _) (congrArg (World.drewN _) (Nat.add_assoc _ _ _))⟩)))
    repeat (go_quiet (first | (go_at_call 60; (with_reducible refine (annealref1_Unpack.calls k a0 a2 t385 t386 t387 _ A4.out).mono ?_); rintro e w' ⟨rfl, ⟨nd, rfl⟩⟩; (try first | exact ⟨rfl, _, World.drewN_drewN _ _ _⟩ | exact ⟨rfl, _, Eq.trans (World.drewN_drewN _ _ _) (congrArg (World.drewN _) (Nat.add_assoc _ _ _))⟩)) | (go_at_call 92; (with_reducible refine (annealref1_divide.calls k t387 (wrap64 (-t386)) t388 false t390 _ A12.out).mono ?_); rintro e w20 ⟨rfl, hb⟩; have n0_ := Aside0.mk (below_step (bl0 HB.out) hb); clear HB; have HB := n0_; clear n0_) | (go_at_call 93; (with_reducible refine (annealref1_up.calls a1 t385 ((Go.bits .and .u64 t388 1) == 1) false t390 false _ A13.out).mono ?_); rintro e w' ⟨rfl, ⟨nd, rfl⟩⟩; (try first | exact ⟨rfl, _, World.drewN_drewN _ _ _⟩ | exact ⟨rfl, _, Eq.trans (World.drewN_drewN _ _ _) (congrArg (World.drewN _) (Nat.add_assoc _ _ _))⟩))); try go_wp2_with (first | (go_at_call 60; (with_reducible refine (annealref1_Unpack.calls k a0 a2 t385 t386 t387 _ A4.out).mono ?_); rintro e w' ⟨rfl, ⟨nd, rfl⟩⟩; (try first | exact ⟨rfl, _, World.drewN_drewN _ _ _⟩ | exact ⟨rfl, _, Eq.trans (World.drewN_drewN _ _ _) (congrArg (World.drewN _) (Nat.add_assoc _ _ _))⟩)) | (go_at_call 92; (with_reducible refine (annealref1_divide.calls k t387 (wrap64 (-t386)) t388 false t390 _ A12.out).mono ?_); rintro e w20 ⟨rfl, hb⟩; have n0_ := Aside0.mk (below_step (bl0 HB.out) hb); clear HB; have HB := n0_; clear n0_) | (go_at_call 93; (with_reducible refine (annealref1_up.calls a1 t385 ((Go.bits .and .u64 t388 1) == 1) false t390 false _ A13.out).mono ?_); rintro e w' ⟨rfl, ⟨nd, rfl⟩⟩; (try first | exact ⟨rfl, _, World.drewN_drewN _ _ _⟩ | exact ⟨rfl, _, Eq.trans (World.drewN_drewN _ _ _) (congrArg (World.drewN _) (Nat.add_assoc _ _ _))⟩))))
    go_ret3
    exact ⟨by first | rfl | (simp [errW_none, errW_some] <;> rfl) | (simp [*, errW_none, errW_some] <;> rfl), bl0 HB.out⟩


/-! ### annealref1_ToInt: function 46 -/
def annealref1_ToInt.j0 : Nat → Bool → Int → Bool → Bool → Option (Int × Bool × Bool × Bool × Bool × Bool)
 |0, _, _, _, _ => none
 |k + 1, x8, x9, x10, x33 => if x33 = true then (some ((-2147483648), true, false, false, false, false)) else (if x8 = true then (some (wrap32 (wrap64 (-(wrap64 (x9)))), false, false, false, false, x10)) else (some (wrap32 (x9), false, false, false, false, x10)))
def annealref1_ToInt.f (k : Nat) (a0 : Int) (a1 : Int) (a2 : Int) : Option (Int × Bool × Bool × Bool × Bool × Bool) := (annealref1_Finite.f k a0 a2).bind fun t393 => (if t393 = true then ((annealref1_units.f k a0 a1 a2).bind fun bt394 => (if bt394.2.1 > 2147483648 then (annealref1_ToInt.j0 k bt394.1 bt394.2.1 bt394.2.2 true) else (if bt394.2.1 = 2147483648 then (annealref1_ToInt.j0 k bt394.1 bt394.2.1 bt394.2.2 (!bt394.1)) else (annealref1_ToInt.j0 k bt394.1 bt394.2.1 bt394.2.2 false)))) else (some ((-2147483648), true, false, false, false, false)))
set_option maxHeartbeats 8000000 in
set_option maxRecDepth 100000 in
theorem annealref1_ToInt.calls (k : Nat) (a0 : Int) (a1 : Int) (a2 : Int) (r1 : Int) (r2 : Bool) (r3 : Bool) (r4 : Bool) (r5 : Bool) (r6 : Bool) (w : World) (h : annealref1_ToInt.f k a0 a1 a2 = some (r1, r2, r3, r4, r5, r6)) :
  Calls Try.prog 46 #[.int .i64 a0, .int .i64 a1, .int .u32 a2] w fun e w' => e = .returned (.tuple #[.int .i32 r1, .agg #[.bool r2, .bool r3, .bool r4, .bool r5, .bool r6]]) ∧ Below w.heap.size w w' := by
 have hu41 := Try.underlying41
 have HB := Aside0.mk (Below.refl w.heap.size w)
 have H : ((annealref1_Finite.f k a0 a2).bind fun t393 => (if t393 = true then ((annealref1_units.f k a0 a1 a2).bind fun bt394 => (if bt394.2.1 > 2147483648 then (annealref1_ToInt.j0 k bt394.1 bt394.2.1 bt394.2.2 true) else (if bt394.2.1 = 2147483648 then (annealref1_ToInt.j0 k bt394.1 bt394.2.1 bt394.2.2 (!bt394.1)) else (annealref1_ToInt.j0 k bt394.1 bt394.2.1 bt394.2.2 false)))) else (some ((-2147483648), true, false, false, false, false)))) = some (r1, r2, r3, r4, r5, r6) := h
 clear h
 replace H := Option.bind_eq_some_iff.mp H
 obtain ⟨t393, A40, H⟩ := H
 replace H : (if t393 = true then ((annealref1_units.f k a0 a1 a2).bind fun bt394 => (if bt394.2.1 > 2147483648 then (annealref1_ToInt.j0 k bt394.1 bt394.2.1 bt394.2.2 true) else (if bt394.2.1 = 2147483648 then (annealref1_ToInt.j0 k bt394.1 bt394.2.1 bt394.2.2 (!bt394.1)) else (annealref1_ToInt.j0 k bt394.1 bt394.2.1 bt394.2.2 false)))) else (some ((-2147483648), true, false, false, false, false))) = some (r1, r2, r3, r4, r5, r6) := H
 have A4 := Aside0.mk A40
 clear A40
 by_cases c5 : t393 = true
 ·subst c5
  have H1 : ((annealref1_units.f k a0 a1 a2).bind fun bt394 => (if bt394.2.1 > 2147483648 then (annealref1_ToInt.j0 k bt394.1 bt394.2.1 bt394.2.2 true) else (if bt394.2.1 = 2147483648 then (annealref1_ToInt.j0 k bt394.1 bt394.2.1 bt394.2.2 (!bt394.1)) else (annealref1_ToInt.j0 k bt394.1 bt394.2.1 bt394.2.2 false)))) = some (r1, r2, r3, r4, r5, r6) := by rw [if_pos rfl] at H; exact H
  clear H
  have H := H1
  clear H1
  replace H := Option.bind_eq_some_iff.mp H
  obtain ⟨⟨t394, t395, t396⟩, A60, H⟩ := H
  replace H : (if t395 > 2147483648 then (annealref1_ToInt.j0 k t394 t395 t396 true) else (if t395 = 2147483648 then (annealref1_ToInt.j0 k t394 t395 t396 (!t394)) else (annealref1_ToInt.j0 k t394 t395 t396 false))) = some (r1, r2, r3, r4, r5, r6) := H
  have A6 := Aside0.mk A60
  clear A60
  have HC7 := Aside0.mk H
  clear H
  go_enter Try.func46, Try.ntmps46
  go_upto_region 4 with (first | ((with_reducible refine gate_dst (N := 7) rfl ?_); refine box_event ?hg (N := 7) ?hd (cs := F5) (t := 41) ?hr ?_; (case hd => rfl); (case hg => rfl); (case hr => first | (go_simp; done) | (go_simp; rfl)); intro gb392 hg w8 hbox hb; have n0_ := Aside0.mk (below_step (bl0 HB.out) hb); have n1_ := Aside0.mk (hbox); have n2_ := Aside0.mk ((by rw [hg]; exact (below_size (bl0 HB.out)) : w.heap.size ≤ gb392)); have n3_ := n2_; clear HB; have HB := n0_; have BK392 := n1_; have GW392 := n2_; have GE392 := n3_; clear n0_ n1_ n2_ n3_; clear hb hbox hg) | ((with_reducible refine gate_callee (f := 58) rfl ?_); refine goesL_ (some 13) rfl rfl Try.func58 (by kernel_rfl) rfl #[.int .i64 a0, .int .u32 a2] rfl gl ?_; (with_reducible refine (annealref1_Finite.calls k a0 a2 true _ A4.out).mono ?_); rintro e w' ⟨rfl, ⟨nd, rfl⟩⟩; refine ⟨_, rfl, ?_⟩) | ((with_reducible refine gate_callee (f := 79) rfl ?_); refine goesL_ (some 20) rfl rfl Try.func79 (by kernel_rfl) rfl #[.int .i64 a0, .int .i64 a1, .int .u32 a2] rfl gl ?_; (with_reducible refine (annealref1_units.calls k a0 a1 a2 t394 t395 t396 _ A6.out).mono ?_); rintro e w9 ⟨rfl, hb⟩; refine ⟨_, rfl, ?_⟩; have n0_ := Aside0.mk (blk_below (g := gb392) (o := o5_ false false false false false 41) (bv BK392.out) hb); have n1_ := Aside0.mk (below_step (bl1 HB.out GE392.out) hb); clear BK392; clear HB; have BK392 := n0_; have HB := n1_; clear n0_ n1_))
  (try simp only [Act.put, sb, sz, ss])
  go_cut [33] (fun v33 wc => ∃ (kq : Nat) (x33_6 : Bool), v33 = .bool x33_6 ∧ Aside0 (annealref1_ToInt.j0 kq t394 t395 t396 x33_6 = some (r1, r2, r3, r4, r5, r6)) ∧ Aside0 (kq ≤ k) ∧ Aside0 (wc.heap[gb392]? = some (o5_ false false false false false 41)) ∧ Aside0 (Below w.heap.size w wc))
  case first =>
   have H := HC7.out
   clear HC7
   by_cases c10 : t395 > 2147483648
   ·rw [if_pos c10] at H
    have c10b0 : decide (2147483648 < t395) = true := decide_eq_true c10
    clear c10
    (first | rw [c10b0] | (simp only [i64_w, i32_w]; rw [c10b0]) | skip)
    have H' := Aside0.mk H
    clear H
    go_wp2
    go_meet
    case rel => exact ⟨_, (true), (by first | rfl | (simp; done) | (simp [*]; done) | (congr 1; (try unfold wrap64); omega) | (congr 1; rw [IntKind.wrap_u64]; omega)), H', ⟨by first | omega | exact Nat.le_refl _⟩, ⟨by (with_reducible repeat first | apply bd | apply be | apply ba); exact BK392.out⟩, ⟨bl1 HB.out GE392.out⟩⟩
   ·rw [if_neg c10] at H
    have c10b0 : decide (2147483648 < t395) = false := decide_eq_false c10
    clear c10
    (first | rw [c10b0] | (simp only [i64_w, i32_w]; rw [c10b0]) | skip)
    by_cases c11 : t395 = 2147483648
    ·rw [if_pos c11] at H
     have c11b0 : (t395 == 2147483648) = true := beq_iff_eq.mpr c11
     have c11b1 : (t395 != 2147483648) = false := bne_eq_false_iff_eq.mpr c11
     clear c11
     have H' := Aside0.mk H
     clear H
     go_wp2
     go_meet
     case rel => exact ⟨_, (!t394), (by first | rfl | (simp; done) | (simp [*]; done) | (congr 1; (try unfold wrap64); omega) | (congr 1; rw [IntKind.wrap_u64]; omega)), H', ⟨by first | omega | exact Nat.le_refl _⟩, ⟨by (with_reducible repeat first | apply bd | apply be | apply ba); exact BK392.out⟩, ⟨bl1 HB.out GE392.out⟩⟩
    ·rw [if_neg c11] at H
     have c11b0 : (t395 == 2147483648) = false := beq_eq_false_iff_ne.mpr c11
     have c11b1 : (t395 != 2147483648) = true := bne_iff_ne.mpr c11
     have H' := Aside0.mk H
     clear H
     go_wp2
     go_meet
     case rel => exact ⟨_, (false), (by first | rfl | (simp; done) | (simp [*]; done) | (congr 1; (try unfold wrap64); omega) | (congr 1; rw [IntKind.wrap_u64]; omega)), H', ⟨by first | omega | exact Nat.le_refl _⟩, ⟨by (with_reducible repeat first | apply bd | apply be | apply ba); exact BK392.out⟩, ⟨bl1 HB.out GE392.out⟩⟩
  case rest =>
   clear HC7
   try clear c1 p2 c4 c5 p6 c7 c10 c10b0 c11 c11b0 c11b1
   obtain ⟨kq, x33_6, rfl, HA, HJ6, BK392, HB⟩ := hcut
   cases kq with
   |zero => exact absurd HA.out (by simp [annealref1_ToInt.j0])
   |succ kj6 =>
    have H := HA.out
    clear HA
    simp only [annealref1_ToInt.j0] at H
    by_cases c12 : x33_6 = true
    ·subst c12
     have H1 : (some ((-2147483648), true, false, false, false, false)) = some (r1, r2, r3, r4, r5, r6) := by rw [if_pos rfl] at H; exact H
     clear H
     have H := H1
     clear H1
     simp only [Option.some.injEq, Prod.mk.injEq] at H
     obtain ⟨rfl, rfl, rfl, rfl, rfl, rfl⟩ := H
     have hcz13_0 : wc.cell? ⟨gb392, 0, none⟩ = some (.bool false) := (blk_cell BK392.out 0).trans rfl
     have hcz13_1 : wc.cell? ⟨gb392, 1, none⟩ = some (.bool false) := (blk_cell BK392.out 1).trans rfl
     have hcz13_2 : wc.cell? ⟨gb392, 2, none⟩ = some (.bool false) := (blk_cell BK392.out 2).trans rfl
     have hcz13_3 : wc.cell? ⟨gb392, 3, none⟩ = some (.bool false) := (blk_cell BK392.out 3).trans rfl
     have hcz13_4 : wc.cell? ⟨gb392, 4, none⟩ = some (.bool false) := (blk_cell BK392.out 4).trans rfl
     have hfz13_0 := blk_frozen BK392.out 0
     have hfz13_1 := blk_frozen BK392.out 1
     have hfz13_2 := blk_frozen BK392.out 2
     have hfz13_3 := blk_frozen BK392.out 3
     have hfz13_4 := blk_frozen BK392.out 4
     go_wp2
     refine bodyPost_ret (results_tc rfl _ _ gb392 41 #[.bool true, .bool false, .bool false, .bool false, .bool false] (0, 0) _ rfl (by (with_reducible repeat first | apply bd | apply be | apply ba); refine blk_put (cs := q5_ true false false false false) ?_ 4 _ rfl; (with_reducible repeat first | apply bd | apply be | apply ba); refine blk_put (cs := q5_ true false false false false) ?_ 3 _ rfl; (with_reducible repeat first | apply bd | apply be | apply ba); refine blk_put (cs := q5_ true false false false false) ?_ 2 _ rfl; (with_reducible repeat first | apply bd | apply be | apply ba); refine blk_put (cs := q5_ true false false false false) ?_ 1 _ rfl; (with_reducible repeat first | apply bd | apply be | apply ba); refine blk_put (cs := F5) ?_ 0 _ rfl; (with_reducible repeat first | apply bd | apply be | apply ba); exact BK392.out) Try.underlying41 rfl (by kernel_rfl)) rfl ?_
     exact ⟨by first | rfl | (simp [errW_none, errW_some] <;> rfl) | (simp [*, errW_none, errW_some] <;> rfl), bl1 HB.out GE392.out⟩
    ·replace c12 := Bool.eq_false_iff.mpr c12
     subst c12
     have H1 : (if t394 = true then (some (wrap32 (wrap64 (-(wrap64 (t395)))), false, false, false, false, t396)) else (some (wrap32 (t395), false, false, false, false, t396))) = some (r1, r2, r3, r4, r5, r6) := by rw [if_neg (show ¬ (false = true) by decide)] at H; exact H
     clear H
     have H := H1
     clear H1
     by_cases c14 : t394 = true
     ·subst c14
      have H1 : (some (wrap32 (wrap64 (-(wrap64 (t395)))), false, false, false, false, t396)) = some (r1, r2, r3, r4, r5, r6) := by rw [if_pos rfl] at H; exact H
      clear H
      have H := H1
      clear H1
      simp only [Option.some.injEq, Prod.mk.injEq] at H
      obtain ⟨rfl, rfl, rfl, rfl, rfl, rfl⟩ := H
      have hcz15_0 : wc.cell? ⟨gb392, 0, none⟩ = some (.bool false) := (blk_cell BK392.out 0).trans rfl
      have hcz15_1 : wc.cell? ⟨gb392, 1, none⟩ = some (.bool false) := (blk_cell BK392.out 1).trans rfl
      have hcz15_2 : wc.cell? ⟨gb392, 2, none⟩ = some (.bool false) := (blk_cell BK392.out 2).trans rfl
      have hcz15_3 : wc.cell? ⟨gb392, 3, none⟩ = some (.bool false) := (blk_cell BK392.out 3).trans rfl
      have hcz15_4 : wc.cell? ⟨gb392, 4, none⟩ = some (.bool false) := (blk_cell BK392.out 4).trans rfl
      have hfz15_0 := blk_frozen BK392.out 0
      have hfz15_1 := blk_frozen BK392.out 1
      have hfz15_2 := blk_frozen BK392.out 2
      have hfz15_3 := blk_frozen BK392.out 3
      have hfz15_4 := blk_frozen BK392.out 4
      go_wp2
      refine bodyPost_ret (results_tc rfl _ _ gb392 41 #[.bool false, .bool false, .bool false, .bool false, .bool t396] (0, 0) _ rfl (by (with_reducible repeat first | apply bd | apply be | apply ba); refine blk_put (cs := F5) ?_ 4 _ rfl; (with_reducible repeat first | apply bd | apply be | apply ba); refine blk_put (cs := F5) ?_ 3 _ rfl; (with_reducible repeat first | apply bd | apply be | apply ba); refine blk_put (cs := F5) ?_ 2 _ rfl; (with_reducible repeat first | apply bd | apply be | apply ba); refine blk_put (cs := F5) ?_ 1 _ rfl; (with_reducible repeat first | apply bd | apply be | apply ba); refine blk_put (cs := F5) ?_ 0 _ rfl; (with_reducible repeat first | apply bd | apply be | apply ba); exact BK392.out) Try.underlying41 rfl (by kernel_rfl)) rfl ?_
      exact ⟨by first | rfl | (simp [errW_none, errW_some] <;> rfl) | (simp [*, errW_none, errW_some] <;> rfl), bl1 HB.out GE392.out⟩
     ·replace c14 := Bool.eq_false_iff.mpr c14
      subst c14
      have H1 : (some (wrap32 (t395), false, false, false, false, t396)) = some (r1, r2, r3, r4, r5, r6) := by rw [if_neg (show ¬ (false = true) by decide)] at H; exact H
      clear H
      have H := H1
      clear H1
      simp only [Option.some.injEq, Prod.mk.injEq] at H
      obtain ⟨rfl, rfl, rfl, rfl, rfl, rfl⟩ := H
      have hcz16_0 : wc.cell? ⟨gb392, 0, none⟩ = some (.bool false) := (blk_cell BK392.out 0).trans rfl
      have hcz16_1 : wc.cell? ⟨gb392, 1, none⟩ = some (.bool false) := (blk_cell BK392.out 1).trans rfl
      have hcz16_2 : wc.cell? ⟨gb392, 2, none⟩ = some (.bool false) := (blk_cell BK392.out 2).trans rfl
      have hcz16_3 : wc.cell? ⟨gb392, 3, none⟩ = some (.bool false) := (blk_cell BK392.out 3).trans rfl
      have hcz16_4 : wc.cell? ⟨gb392, 4, none⟩ = some (.bool false) := (blk_cell BK392.out 4).trans rfl
      have hfz16_0 := blk_frozen BK392.out 0
      have hfz16_1 := blk_frozen BK392.out 1
      have hfz16_2 := blk_frozen BK392.out 2
      have hfz16_3 := blk_frozen BK392.out 3
      have hfz16_4 := blk_frozen BK392.out 4
      go_wp2
      refine bodyPost_ret (results_tc rfl _ _ gb392 41 #[.bool false, .bool false, .bool false, .bool false, .bool t396] (0, 0) _ rfl (by (with_reducible repeat first | apply bd | apply be | apply ba); refine blk_put (cs := F5) ?_ 4 _ rfl; (with_reducible repeat first | apply bd | apply be | apply ba); refine blk_put (cs := F5) ?_ 3 _ rfl; (with_reducible repeat first | apply bd | apply be | apply ba); refine blk_put (cs := F5) ?_ 2 _ rfl; (with_reducible repeat first | apply bd | apply be | apply ba); refine blk_put (cs := F5) ?_ 1 _ rfl; (with_reducible repeat first | apply bd | apply be | apply ba); refine blk_put (cs := F5) ?_ 0 _ rfl; (with_reducible repeat first | apply bd | apply be | apply ba); exact BK392.out) Try.underlying41 rfl (by kernel_rfl)) rfl ?_
      exact ⟨by first | rfl | (simp [errW_none, errW_some] <;> rfl) | (simp [*, errW_none, errW_some] <;> rfl), bl1 HB.out GE392.out⟩
 ·replace c5 := Bool.eq_false_iff.mpr c5
  subst c5
  have H1 : (some ((-2147483648), true, false, false, false, false)) = some (r1, r2, r3, r4, r5, r6) := by rw [if_neg (show ¬ (false = true) by decide)] at H; exact H
  clear H
  have H := H1
  clear H1
  simp only [Option.some.injEq, Prod.mk.injEq] at H
  obtain ⟨rfl, rfl, rfl, rfl, rfl, rfl⟩ := H
  go_enter Try.func46, Try.ntmps46
  go_wp2_with (first | ((with_reducible refine gate_dst (N := 7) rfl ?_); refine box_event ?hg (N := 7) ?hd (cs := F5) (t := 41) ?hr ?_; (case hd => rfl); (case hg => rfl); (case hr => first | (go_simp; done) | (go_simp; rfl)); intro gb392 hg w17 hbox hb; have n0_ := Aside0.mk (below_step (bl0 HB.out) hb); have n1_ := Aside0.mk (hbox); have n2_ := Aside0.mk ((by rw [hg]; exact (below_size (bl0 HB.out)) : w.heap.size ≤ gb392)); have n3_ := n2_; clear HB; have HB := n0_; have BK392 := n1_; have GW392 := n2_; have GE392 := n3_; clear n0_ n1_ n2_ n3_; clear hb hbox hg) | ((with_reducible refine gate_callee (f := 58) rfl ?_); refine goesL_ (some 13) rfl rfl Try.func58 (by kernel_rfl) rfl #[.int .i64 a0, .int .u32 a2] rfl gl ?_; (with_reducible refine (annealref1_Finite.calls k a0 a2 false _ A4.out).mono ?_); rintro e w' ⟨rfl, ⟨nd, rfl⟩⟩; refine ⟨_, rfl, ?_⟩; (try (rw [drewN_self w17]; generalize hq_ : World.drewN w17 _ = w17; have n0_ : Aside0 (w17.heap[gb392]? = some (o5_ false false false false false 41)) := ⟨by rw [← hq_]; exact (bv BK392.out)⟩; have n1_ : Aside0 (Below w.heap.size w w17) := ⟨by rw [← hq_]; exact (bl1 HB.out GE392.out)⟩; clear BK392 HB hq_; have BK392 := n0_; have HB := n1_; clear n0_ n1_)); obtain ⟨hcz18_0, hcz18_1, hcz18_2, hcz18_3, hcz18_4⟩ := bc5 BK392.out; obtain ⟨hfz18_0, hfz18_1, hfz18_2, hfz18_3, hfz18_4⟩ := bf5 BK392.out))
  refine bodyPost_ret (results_tc rfl _ _ gb392 41 #[.bool true, .bool false, .bool false, .bool false, .bool false] (0, 0) _ rfl (by (with_reducible repeat first | apply bd | apply be | apply ba); refine blk_put (cs := q5_ true false false false false) ?_ 4 _ rfl; (with_reducible repeat first | apply bd | apply be | apply ba); refine blk_put (cs := q5_ true false false false false) ?_ 3 _ rfl; (with_reducible repeat first | apply bd | apply be | apply ba); refine blk_put (cs := q5_ true false false false false) ?_ 2 _ rfl; (with_reducible repeat first | apply bd | apply be | apply ba); refine blk_put (cs := q5_ true false false false false) ?_ 1 _ rfl; (with_reducible repeat first | apply bd | apply be | apply ba); refine blk_put (cs := F5) ?_ 0 _ rfl; (with_reducible repeat first | apply bd | apply be | apply ba); exact BK392.out) Try.underlying41 rfl (by kernel_rfl)) rfl ?_
  exact ⟨by first | rfl | (simp [errW_none, errW_some] <;> rfl) | (simp [*, errW_none, errW_some] <;> rfl), bl1 HB.out GE392.out⟩

/-! ### whole_Round: function 47 -/
def whole_Round.f (k : Nat) (a0 : Int) (a1 : Int) (a2 : Int) : Option (Int × Bool × Bool × Bool × Bool × Bool) := (whole_apart.f k a0 a2).bind fun bt398 => (if bt398.2.2.2.2.2.2 = true then (some (bt398.1, bt398.2.1, bt398.2.2.1, bt398.2.2.2.1, bt398.2.2.2.2.1, bt398.2.2.2.2.2.1)) else ((sum_Of.f a0 a2).bind fun bt406 => (if bt406.2.1 ≥ 0 then ((format_Mask.f a0).bind fun t411 => (some (Go.bits .and .u32 a2 t411, false, false, false, false, false))) else ((whole_units.f k bt406.1 bt406.2.1 bt406.2.2.1 bt406.2.2.2 a1).bind fun bt412 => ((round_Pack.f k a0 a1 bt406.1 0 bt412.1 false).bind fun bt414 => (some (bt414.1, false, false, false, false, bt412.2)))))))
set_option maxHeartbeats 8000000 in
set_option maxRecDepth 100000 in
theorem whole_Round.calls (k : Nat) (a0 : Int) (a1 : Int) (a2 : Int) (r1 : Int) (r2 : Bool) (r3 : Bool) (r4 : Bool) (r5 : Bool) (r6 : Bool) (w : World) (h : whole_Round.f k a0 a1 a2 = some (r1, r2, r3, r4, r5, r6)) :
  Calls Try.prog 47 #[.int .i64 a0, .int .i64 a1, .int .u32 a2] w fun e w' => e = .returned (.tuple #[.int .u32 r1, .agg #[.bool r2, .bool r3, .bool r4, .bool r5, .bool r6]]) ∧ Below w.heap.size w w' := by
 have hu41 := Try.underlying41
 have hu75 := Try.underlying75
 have HB := Aside0.mk (Below.refl w.heap.size w)
 have H : ((whole_apart.f k a0 a2).bind fun bt398 => (if bt398.2.2.2.2.2.2 = true then (some (bt398.1, bt398.2.1, bt398.2.2.1, bt398.2.2.2.1, bt398.2.2.2.2.1, bt398.2.2.2.2.2.1)) else ((sum_Of.f a0 a2).bind fun bt406 => (if bt406.2.1 ≥ 0 then ((format_Mask.f a0).bind fun t411 => (some (Go.bits .and .u32 a2 t411, false, false, false, false, false))) else ((whole_units.f k bt406.1 bt406.2.1 bt406.2.2.1 bt406.2.2.2 a1).bind fun bt412 => ((round_Pack.f k a0 a1 bt406.1 0 bt412.1 false).bind fun bt414 => (some (bt414.1, false, false, false, false, bt412.2)))))))) = some (r1, r2, r3, r4, r5, r6) := h
 clear h
 replace H := Option.bind_eq_some_iff.mp H
 obtain ⟨⟨t398, t399, t400, t401, t402, t403, t404⟩, A40, H⟩ := H
 replace H : (if t404 = true then (some (t398, t399, t400, t401, t402, t403)) else ((sum_Of.f a0 a2).bind fun bt406 => (if bt406.2.1 ≥ 0 then ((format_Mask.f a0).bind fun t411 => (some (Go.bits .and .u32 a2 t411, false, false, false, false, false))) else ((whole_units.f k bt406.1 bt406.2.1 bt406.2.2.1 bt406.2.2.2 a1).bind fun bt412 => ((round_Pack.f k a0 a1 bt406.1 0 bt412.1 false).bind fun bt414 => (some (bt414.1, false, false, false, false, bt412.2))))))) = some (r1, r2, r3, r4, r5, r6) := H
 have A4 := Aside0.mk A40
 clear A40
 by_cases c5 : t404 = true
 ·subst c5
  have H1 : (some (t398, t399, t400, t401, t402, t403)) = some (r1, r2, r3, r4, r5, r6) := by rw [if_pos rfl] at H; exact H
  clear H
  have H := H1
  clear H1
  simp only [Option.some.injEq, Prod.mk.injEq] at H
  obtain ⟨rfl, rfl, rfl, rfl, rfl, rfl⟩ := H
  go_enter Try.func47, Try.ntmps47
  try go_wp2_with (first | ((with_reducible refine gate_dst (N := 7) rfl ?_); refine box_event ?hg (N := 7) ?hd (cs := F5) (t := 41) ?hr ?_; (case hd => rfl); (case hg => rfl); (case hr => first | (go_simp; done) | (go_simp; rfl)); intro gb397 hg w6 hbox hb; have n0_ := Aside0.mk (below_step (bl0 HB.out) hb); have n1_ := Aside0.mk (hbox); have n2_ := Aside0.mk ((by rw [hg]; exact (below_size (bl0 HB.out)) : w.heap.size ≤ gb397)); have n3_ := n2_; clear HB; have HB := n0_; have BK397 := n1_; have GW397 := n2_; have GE397 := n3_; clear n0_ n1_ n2_ n3_; clear hb hbox hg) | ((with_reducible refine gate_callee (f := 54) rfl ?_); refine goesL_ (some 19) rfl rfl Try.func54 (by kernel_rfl) rfl #[.int .i64 a0, .int .u32 a2] rfl gl ?_; (with_reducible refine (whole_apart.calls k a0 a2 t398 t399 t400 t401 t402 t403 true _ A4.out).mono ?_); rintro e w7 ⟨rfl, hb⟩; refine ⟨_, rfl, ?_⟩; have n0_ := Aside0.mk (blk_below (g := gb397) (o := o5_ false false false false false 41) (bv BK397.out) hb); have n1_ := Aside0.mk (below_step (bl1 HB.out GE397.out) hb); clear BK397; clear HB; have BK397 := n0_; have HB := n1_; clear n0_ n1_) | ((with_reducible refine gate_dst (N := 9) rfl ?_); refine box_event ?hg (N := 9) ?hd (cs := F5) (t := 41) ?hr ?_; (case hd => rfl); (case hg => rfl); (case hr => first | (go_simp; done) | (go_simp; rfl)); intro gb405 hg w8 hbox hb; have n0_ := Aside0.mk (blk_below (g := gb397) (o := o5_ false false false false false 41) (bv BK397.out) hb); have n1_ := Aside0.mk (below_step (bl1 HB.out GE397.out) hb); have n2_ := Aside0.mk (hbox); have n3_ := Aside0.mk ((by rw [hg]; exact (below_size (bl1 HB.out GE397.out)) : w.heap.size ≤ gb405)); have n4_ := n3_; have n5_ := Aside0.mk ((by rw [hg]; exact Nat.ne_of_lt (blk_lt (g := gb397) (o := .cells F5 41 (0, 0)) (bv BK397.out)) : gb397 ≠ gb405)); have n6_ := Aside0.mk (Ne.symm n5_.out); clear BK397; clear HB; have BK397 := n0_; have HB := n1_; have BK405 := n2_; have GW405 := n3_; have GE405 := n4_; have NB397_405 := n5_; have NB405_397 := n6_; clear n0_ n1_ n2_ n3_ n4_ n5_ n6_; clear hb hbox hg; have hnb9 := NB405_397.out; have hnc9 := NB397_405.out; obtain ⟨hcz10_0, hcz10_1, hcz10_2, hcz10_3, hcz10_4⟩ := bc5 BK405.out; obtain ⟨hfz10_0, hfz10_1, hfz10_2, hfz10_3, hfz10_4⟩ := bf5 BK405.out))
  have n0_ : Aside0 ((((((w8.setCell ⟨gb405, 0, none⟩ (.bool t399)).setCell ⟨gb405, 1, none⟩ (.bool t400)).setCell ⟨gb405, 2, none⟩ (.bool t401)).setCell ⟨gb405, 3, none⟩ (.bool t402)).setCell ⟨gb405, 4, none⟩ (.bool t403)).heap[gb397]? = some (o5_ false false false false false 41)) := ⟨by (with_reducible repeat first | apply bd | apply be | apply ba); refine blk_far ?_ NB397_405.out _; (with_reducible repeat first | apply bd | apply be | apply ba); refine blk_far ?_ NB397_405.out _; (with_reducible repeat first | apply bd | apply be | apply ba); refine blk_far ?_ NB397_405.out _; (with_reducible repeat first | apply bd | apply be | apply ba); refine blk_far ?_ NB397_405.out _; (with_reducible repeat first | apply bd | apply be | apply ba); refine blk_far ?_ NB397_405.out _; (with_reducible repeat first | apply bd | apply be | apply ba); exact BK397.out⟩
  have n1_ : Aside0 ((((((w8.setCell ⟨gb405, 0, none⟩ (.bool t399)).setCell ⟨gb405, 1, none⟩ (.bool t400)).setCell ⟨gb405, 2, none⟩ (.bool t401)).setCell ⟨gb405, 3, none⟩ (.bool t402)).setCell ⟨gb405, 4, none⟩ (.bool t403)).heap[gb405]? = some (o5_ t399 t400 t401 t402 t403 41)) := ⟨by (with_reducible repeat first | apply bd | apply be | apply ba); refine blk_put (cs := q5_ t399 t400 t401 t402 false) ?_ 4 _ rfl; (with_reducible repeat first | apply bd | apply be | apply ba); refine blk_put (cs := q5_ t399 t400 t401 false false) ?_ 3 _ rfl; (with_reducible repeat first | apply bd | apply be | apply ba); refine blk_put (cs := q5_ t399 t400 false false false) ?_ 2 _ rfl; (with_reducible repeat first | apply bd | apply be | apply ba); refine blk_put (cs := q5_ t399 false false false false) ?_ 1 _ rfl; (with_reducible repeat first | apply bd | apply be | apply ba); refine blk_put (cs := F5) ?_ 0 _ rfl; (with_reducible repeat first | apply bd | apply be | apply ba); exact BK405.out⟩
  have n2_ : Aside0 (Below w.heap.size w (((((w8.setCell ⟨gb405, 0, none⟩ (.bool t399)).setCell ⟨gb405, 1, none⟩ (.bool t400)).setCell ⟨gb405, 2, none⟩ (.bool t401)).setCell ⟨gb405, 3, none⟩ (.bool t402)).setCell ⟨gb405, 4, none⟩ (.bool t403))) := ⟨bl2 HB.out GE397.out GE405.out⟩
  (try clear BK397)
  (try clear BK405)
  (try clear HB)
  generalize (((((w8.setCell ⟨gb405, 0, none⟩ (.bool t399)).setCell ⟨gb405, 1, none⟩ (.bool t400)).setCell ⟨gb405, 2, none⟩ (.bool t401)).setCell ⟨gb405, 3, none⟩ (.bool t402)).setCell ⟨gb405, 4, none⟩ (.bool t403)) = w11 at n0_ n1_ n2_ ⊢
  have BK397 := n0_
  have BK405 := n1_
  have HB := n2_
  clear n0_ n1_ n2_
  have n0_ := Aside0.mk (blk_drew BK397.out)
  have n1_ := Aside0.mk (blk_drew BK405.out)
  have n2_ := Aside0.mk (below_drew1 HB.out)
  clear BK397
  clear BK405
  clear HB
  have BK397 := n0_
  have BK405 := n1_
  have HB := n2_
  clear n0_ n1_ n2_
  refine start_ (n := 4) (S := fun w' => w'.cell? ⟨gb405, 0, none⟩ = some (.bool t399) ∧ w'.cell? ⟨gb405, 1, none⟩ = some (.bool t400) ∧ w'.cell? ⟨gb405, 2, none⟩ = some (.bool t401) ∧ w'.cell? ⟨gb405, 3, none⟩ = some (.bool t402) ∧ w'.cell? ⟨gb405, 4, none⟩ = some (.bool t403)) (ds := []) #[false, false, false, false] (by kernel_rfl) rfl rfl ⟨(blk_cell BK405.out 0).trans rfl, (blk_cell BK405.out 1).trans rfl, (blk_cell BK405.out 2).trans rfl, (blk_cell BK405.out 3).trans rfl, (blk_cell BK405.out 4).trans rfl⟩ (fun hHeld => ?_)
  generalize w11.drew = w12 at BK397 BK405 HB hHeld ⊢
  refine pure_ (i := 0) (N := some 24) (v := ?_) (a' := ?_) #[true, false, false, false] rfl rfl (by kernel_rfl) (fun _ _ _ h => h) (Or.inl ⟨by rfl, ?_⟩) ?_ ?_
  rotate_left
  ·intro w'
   go_simp
   with_reducible rfl
  rotate_left
  ·simp only [Act.put, sb, sz, ss, i64_w, i32_w]
   rfl
  refine pure_ (i := 2) (N := some 6) (v := ?_) (a' := ?_) #[true, false, true, false] rfl rfl (by kernel_rfl) (fun _ _ _ h => h) (Or.inl ⟨by rfl, ?_⟩) ?_ ?_
  rotate_left
  ·intro w'
   go_simp
   with_reducible rfl
  rotate_left
  ·simp only [Act.put, sb, sz, ss, i64_w, i32_w]
   rfl
  refine take_ (i := 1) (N := some 25) (v := ?_) (a' := ?_) #[true, true, true, false] rfl rfl (by kernel_rfl) (fun _ _ _ h => h) (Or.inl ⟨by rfl, ?_⟩) hHeld ?_ ?_
  rotate_left
  ·rintro w' ⟨s0, s1, s2, s3, s4⟩
   go_simp
   with_reducible rfl
  rotate_left
  ·simp only [Act.put, sb, sz, ss, i64_w, i32_w]
   rfl
  refine one_ (i := 3) (N := none) #[true, true, true, true] rfl rfl (by kernel_rfl) (by decide) (fun K hK => ?_)
  have hs13 : w12.cell? ⟨gb397, 0, none⟩ = some (.bool false) := (blk_cell BK397.out 0).trans rfl
  have hfs13 := blk_frozen BK397.out 0
  have hns13_1 := NB405_397.out
  have hms13_1 := NB397_405.out
  have hs14 : w12.cell? ⟨gb397, 1, none⟩ = some (.bool false) := (blk_cell BK397.out 1).trans rfl
  have hfs14 := blk_frozen BK397.out 1
  have hns14_1 := NB405_397.out
  have hms14_1 := NB397_405.out
  have hs15 : w12.cell? ⟨gb397, 2, none⟩ = some (.bool false) := (blk_cell BK397.out 2).trans rfl
  have hfs15 := blk_frozen BK397.out 2
  have hns15_1 := NB405_397.out
  have hms15_1 := NB397_405.out
  have hs16 : w12.cell? ⟨gb397, 3, none⟩ = some (.bool false) := (blk_cell BK397.out 3).trans rfl
  have hfs16 := blk_frozen BK397.out 3
  have hns16_1 := NB405_397.out
  have hms16_1 := NB397_405.out
  have hs17 : w12.cell? ⟨gb397, 4, none⟩ = some (.bool false) := (blk_cell BK397.out 4).trans rfl
  have hfs17 := blk_frozen BK397.out 4
  have hns17_1 := NB405_397.out
  have hms17_1 := NB397_405.out
  refine skip_ (w1 := ?_) (by rfl) rfl ?_ ?_
  rotate_left
  ·go_simp
   rfl
  refine hK.out _ _ ⟨(cf5 NB405_397.out (hHeld.1)), (cf5 NB405_397.out (hHeld.2.1)), (cf5 NB405_397.out (hHeld.2.2.1)), (cf5 NB405_397.out (hHeld.2.2.2.1)), (cf5 NB405_397.out (hHeld.2.2.2.2))⟩ (fun hHeld => ?_)
  clear hK K
  refine done_ (by kernel_rfl) ?_
  try go_wp2
  refine bodyPost_ret (results_tc rfl _ _ gb397 41 #[.bool t399, .bool t400, .bool t401, .bool t402, .bool t403] (0, 0) _ rfl (by (with_reducible repeat first | apply bd | apply be | apply ba); refine blk_put (cs := q5_ t399 t400 t401 t402 false) ?_ 4 _ rfl; (with_reducible repeat first | apply bd | apply be | apply ba); refine blk_put (cs := q5_ t399 t400 t401 false false) ?_ 3 _ rfl; (with_reducible repeat first | apply bd | apply be | apply ba); refine blk_put (cs := q5_ t399 t400 false false false) ?_ 2 _ rfl; (with_reducible repeat first | apply bd | apply be | apply ba); refine blk_put (cs := q5_ t399 false false false false) ?_ 1 _ rfl; (with_reducible repeat first | apply bd | apply be | apply ba); refine blk_put (cs := F5) ?_ 0 _ rfl; (with_reducible repeat first | apply bd | apply be | apply ba); exact BK397.out) Try.underlying41 rfl (by kernel_rfl)) rfl ?_
  exact ⟨by first | rfl | (simp [errW_none, errW_some] <;> rfl) | (simp [*, errW_none, errW_some] <;> rfl), bl2 HB.out GE397.out GE405.out⟩
 ·replace c5 := Bool.eq_false_iff.mpr c5
  subst c5
  have H1 : ((sum_Of.f a0 a2).bind fun bt406 => (if bt406.2.1 ≥ 0 then ((format_Mask.f a0).bind fun t411 => (some (Go.bits .and .u32 a2 t411, false, false, false, false, false))) else ((whole_units.f k bt406.1 bt406.2.1 bt406.2.2.1 bt406.2.2.2 a1).bind fun bt412 => ((round_Pack.f k a0 a1 bt406.1 0 bt412.1 false).bind fun bt414 => (some (bt414.1, false, false, false, false, bt412.2)))))) = some (r1, r2, r3, r4, r5, r6) := by rw [if_neg (show ¬ (false = true) by decide)] at H; exact H
  clear H
  have H := H1
  clear H1
  replace H := Option.bind_eq_some_iff.mp H
  obtain ⟨⟨t406, t407, t408, t409⟩, A180, H⟩ := H
  replace H : (if t407 ≥ 0 then ((format_Mask.f a0).bind fun t411 => (some (Go.bits .and .u32 a2 t411, false, false, false, false, false))) else ((whole_units.f k t406 t407 t408 t409 a1).bind fun bt412 => ((round_Pack.f k a0 a1 t406 0 bt412.1 false).bind fun bt414 => (some (bt414.1, false, false, false, false, bt412.2))))) = some (r1, r2, r3, r4, r5, r6) := H
  have A18 := Aside0.mk A180
  clear A180
  by_cases c19 : t407 ≥ 0
  ·rw [if_pos c19] at H
   have c19b0 : decide (0 ≤ t407) = true := decide_eq_true c19
   clear c19
   replace H := Option.bind_eq_some_iff.mp H
   obtain ⟨t411, A200, H⟩ := H
   replace H : (some (Go.bits .and .u32 a2 t411, false, false, false, false, false)) = some (r1, r2, r3, r4, r5, r6) := H
   have A20 := Aside0.mk A200
   clear A200
   simp only [Option.some.injEq, Prod.mk.injEq] at H
   obtain ⟨rfl, rfl, rfl, rfl, rfl, rfl⟩ := H
   go_enter Try.func47, Try.ntmps47
   go_wp2_with (first | ((with_reducible refine gate_dst (N := 7) rfl ?_); refine box_event ?hg (N := 7) ?hd (cs := F5) (t := 41) ?hr ?_; (case hd => rfl); (case hg => rfl); (case hr => first | (go_simp; done) | (go_simp; rfl)); intro gb397 hg w21 hbox hb; have n0_ := Aside0.mk (below_step (bl0 HB.out) hb); have n1_ := Aside0.mk (hbox); have n2_ := Aside0.mk ((by rw [hg]; exact (below_size (bl0 HB.out)) : w.heap.size ≤ gb397)); have n3_ := n2_; clear HB; have HB := n0_; have BK397 := n1_; have GW397 := n2_; have GE397 := n3_; clear n0_ n1_ n2_ n3_; clear hb hbox hg) | ((with_reducible refine gate_callee (f := 54) rfl ?_); refine goesL_ (some 19) rfl rfl Try.func54 (by kernel_rfl) rfl #[.int .i64 a0, .int .u32 a2] rfl gl ?_; (with_reducible refine (whole_apart.calls k a0 a2 t398 t399 t400 t401 t402 t403 false _ A4.out).mono ?_); rintro e w22 ⟨rfl, hb⟩; refine ⟨_, rfl, ?_⟩; have n0_ := Aside0.mk (blk_below (g := gb397) (o := o5_ false false false false false 41) (bv BK397.out) hb); have n1_ := Aside0.mk (below_step (bl1 HB.out GE397.out) hb); clear BK397; clear HB; have BK397 := n0_; have HB := n1_; clear n0_ n1_) | ((with_reducible refine gate_dst (N := 9) rfl ?_); refine box_event ?hg (N := 9) ?hd (cs := F5) (t := 41) ?hr ?_; (case hd => rfl); (case hg => rfl); (case hr => first | (go_simp; done) | (go_simp; rfl)); intro gb405 hg w23 hbox hb; have n0_ := Aside0.mk (blk_below (g := gb397) (o := o5_ false false false false false 41) (bv BK397.out) hb); have n1_ := Aside0.mk (below_step (bl1 HB.out GE397.out) hb); have n2_ := Aside0.mk (hbox); have n3_ := Aside0.mk ((by rw [hg]; exact (below_size (bl1 HB.out GE397.out)) : w.heap.size ≤ gb405)); have n4_ := n3_; have n5_ := Aside0.mk ((by rw [hg]; exact Nat.ne_of_lt (blk_lt (g := gb397) (o := .cells F5 41 (0, 0)) (bv BK397.out)) : gb397 ≠ gb405)); have n6_ := Aside0.mk (Ne.symm n5_.out); clear BK397; clear HB; have BK397 := n0_; have HB := n1_; have BK405 := n2_; have GW405 := n3_; have GE405 := n4_; have NB397_405 := n5_; have NB405_397 := n6_; clear n0_ n1_ n2_ n3_ n4_ n5_ n6_; clear hb hbox hg; have hnb24 := NB405_397.out; have hnc24 := NB397_405.out; obtain ⟨hcz25_0, hcz25_1, hcz25_2, hcz25_3, hcz25_4⟩ := bc5 BK405.out; obtain ⟨hfz25_0, hfz25_1, hfz25_2, hfz25_3, hfz25_4⟩ := bf5 BK405.out) | ((with_reducible refine gate_callee (f := 55) rfl ?_); refine goesL_ (some 28) rfl rfl Try.func55 (by kernel_rfl) rfl #[.int .i64 a0, .int .u32 a2] rfl gl ?_; (with_reducible refine (sum_Of.calls a0 a2 t406 t407 t408 t409 _ A18.out).mono ?_); rintro e w26 ⟨rfl, hb⟩; refine ⟨_, rfl, ?_⟩; have n0_ := Aside0.mk (blk_below (g := gb397) (o := o5_ false false false false false 41) (by (with_reducible repeat first | apply bd | apply be | apply ba); refine blk_far ?_ NB397_405.out _; (with_reducible repeat first | apply bd | apply be | apply ba); refine blk_far ?_ NB397_405.out _; (with_reducible repeat first | apply bd | apply be | apply ba); refine blk_far ?_ NB397_405.out _; (with_reducible repeat first | apply bd | apply be | apply ba); refine blk_far ?_ NB397_405.out _; (with_reducible repeat first | apply bd | apply be | apply ba); refine blk_far ?_ NB397_405.out _; (with_reducible repeat first | apply bd | apply be | apply ba); exact BK397.out) hb); have n1_ := Aside0.mk (blk_below (g := gb405) (o := o5_ t399 t400 t401 t402 t403 41) (by (with_reducible repeat first | apply bd | apply be | apply ba); refine blk_put (cs := q5_ t399 t400 t401 t402 false) ?_ 4 _ rfl; (with_reducible repeat first | apply bd | apply be | apply ba); refine blk_put (cs := q5_ t399 t400 t401 false false) ?_ 3 _ rfl; (with_reducible repeat first | apply bd | apply be | apply ba); refine blk_put (cs := q5_ t399 t400 false false false) ?_ 2 _ rfl; (with_reducible repeat first | apply bd | apply be | apply ba); refine blk_put (cs := q5_ t399 false false false false) ?_ 1 _ rfl; (with_reducible repeat first | apply bd | apply be | apply ba); refine blk_put (cs := F5) ?_ 0 _ rfl; (with_reducible repeat first | apply bd | apply be | apply ba); exact BK405.out) hb); have n2_ := Aside0.mk (below_step (bl2 HB.out GE397.out GE405.out) hb); clear BK397; clear BK405; clear HB; have BK397 := n0_; have BK405 := n1_; have HB := n2_; clear n0_ n1_ n2_) | ((with_reducible refine gate_dst (N := 11) rfl ?_); refine box_event ?hg (N := 11) ?hd (cs := #[.bool false, .int .i64 0, .int .u64 0, .bool false]) (t := 75) ?hr ?_; (case hd => rfl); (case hg => rfl); (case hr => first | (go_simp; done) | (go_simp; rfl)); intro gb410 hg w27 hbox hb; have n0_ := Aside0.mk (blk_below (g := gb397) (o := o5_ false false false false false 41) (bv BK397.out) hb); have n1_ := Aside0.mk (blk_below (g := gb405) (o := o5_ t399 t400 t401 t402 t403 41) (bv BK405.out) hb); have n2_ := Aside0.mk (below_step (bl2 HB.out GE397.out GE405.out) hb); have n3_ := Aside0.mk (hbox); have n4_ := Aside0.mk ((by rw [hg]; exact (below_size (bl2 HB.out GE397.out GE405.out)) : w.heap.size ≤ gb410)); have n5_ := n4_; have n6_ := Aside0.mk ((by rw [hg]; exact Nat.ne_of_lt (blk_lt (g := gb397) (o := .cells F5 41 (0, 0)) (bv BK397.out)) : gb397 ≠ gb410)); have n7_ := Aside0.mk (Ne.symm n6_.out); have n8_ := Aside0.mk ((by rw [hg]; exact Nat.ne_of_lt (blk_lt (g := gb405) (o := o5_ t399 t400 t401 t402 t403 41) (bv BK405.out)) : gb405 ≠ gb410)); have n9_ := Aside0.mk (Ne.symm n8_.out); clear BK397; clear BK405; clear HB; have BK397 := n0_; have BK405 := n1_; have HB := n2_; have BK410 := n3_; have GW410 := n4_; have GE410 := n5_; have NB397_410 := n6_; have NB410_397 := n7_; have NB405_410 := n8_; have NB410_405 := n9_; clear n0_ n1_ n2_ n3_ n4_ n5_ n6_ n7_ n8_ n9_; clear hb hbox hg; have hnb28 := NB410_397.out; have hnc28 := NB397_410.out; have hnb29 := NB410_405.out; have hnc29 := NB405_410.out; obtain ⟨hcz30_0, hcz30_1, hcz30_2, hcz30_3⟩ := bc4 BK410.out; obtain ⟨hfz30_0, hfz30_1, hfz30_2, hfz30_3⟩ := bf4 BK410.out) | ((with_reducible refine gate_store (t := 75) (p := 11) rfl ?_); refine store_event (t := 75) (p := 11) (v := ?vo_w31) (w1 := ((((w27.setCell ⟨gb410, 0, none⟩ (.bool t406)).setCell ⟨gb410, 1, none⟩ (.int .i64 t407)).setCell ⟨gb410, 2, none⟩ (.int .u64 t408)).setCell ⟨gb410, 3, none⟩ (.bool t409))) ?hg ?ho ?hn ?hr ?_; (case ho => rfl); (case hg => rfl); (case hn => rfl); (case hr => first | (go_simp; done) | (go_simp; rfl)); intro w31 hw; have n0_ : Aside0 (w31.heap[gb397]? = some (o5_ false false false false false 41)) := ⟨(by rw [hw]; exact (by (with_reducible repeat first | apply bd | apply be | apply ba); refine blk_far ?_ NB397_410.out _; (with_reducible repeat first | apply bd | apply be | apply ba); refine blk_far ?_ NB397_410.out _; (with_reducible repeat first | apply bd | apply be | apply ba); refine blk_far ?_ NB397_410.out _; (with_reducible repeat first | apply bd | apply be | apply ba); refine blk_far ?_ NB397_410.out _; (with_reducible repeat first | apply bd | apply be | apply ba); exact BK397.out))⟩; have n1_ : Aside0 (w31.heap[gb405]? = some (o5_ t399 t400 t401 t402 t403 41)) := ⟨(by rw [hw]; exact (by (with_reducible repeat first | apply bd | apply be | apply ba); refine blk_far ?_ NB405_410.out _; (with_reducible repeat first | apply bd | apply be | apply ba); refine blk_far ?_ NB405_410.out _; (with_reducible repeat first | apply bd | apply be | apply ba); refine blk_far ?_ NB405_410.out _; (with_reducible repeat first | apply bd | apply be | apply ba); refine blk_far ?_ NB405_410.out _; (with_reducible repeat first | apply bd | apply be | apply ba); exact BK405.out))⟩; have n2_ : Aside0 (w31.heap[gb410]? = some (.cells #[.bool t406, .int .i64 t407, .int .u64 t408, .bool t409] 75 (0, 0))) := ⟨(by rw [hw]; exact (by (with_reducible repeat first | apply bd | apply be | apply ba); refine blk_put (cs := #[.bool t406, .int .i64 t407, .int .u64 t408, .bool false]) ?_ 3 _ rfl; (with_reducible repeat first | apply bd | apply be | apply ba); refine blk_put (cs := #[.bool t406, .int .i64 t407, .int .u64 0, .bool false]) ?_ 2 _ rfl; (with_reducible repeat first | apply bd | apply be | apply ba); refine blk_put (cs := #[.bool t406, .int .i64 0, .int .u64 0, .bool false]) ?_ 1 _ rfl; (with_reducible repeat first | apply bd | apply be | apply ba); refine blk_put (cs := #[.bool false, .int .i64 0, .int .u64 0, .bool false]) ?_ 0 _ rfl; (with_reducible repeat first | apply bd | apply be | apply ba); exact BK410.out))⟩; have n3_ : Aside0 (Below w.heap.size w w31) := ⟨(by rw [hw]; exact (bl3 HB.out GE397.out GE405.out GE410.out))⟩; clear hw; clear BK397; clear BK405; clear BK410; clear HB; have BK397 := n0_; have BK405 := n1_; have BK410 := n2_; have HB := n3_; clear n0_ n1_ n2_ n3_; obtain ⟨hcz32_0, hcz32_1, hcz32_2, hcz32_3⟩ := bc4 BK410.out; obtain ⟨hfz32_0, hfz32_1, hfz32_2, hfz32_3⟩ := bf4 BK410.out) | ((with_reducible refine gate_callee (f := 80) rfl ?_); refine goesL_ (some 34) rfl rfl Try.func80 (by kernel_rfl) rfl #[.int .i64 a0] rfl gl ?_; (with_reducible refine (format_Mask.calls a0 t411 _ A20.out).mono ?_); rintro e w' ⟨rfl, ⟨nd, rfl⟩⟩; refine ⟨_, rfl, ?_⟩; (try (rw [drewN_self w31]; generalize hq_ : World.drewN w31 _ = w31; have n0_ : Aside0 (w31.heap[gb397]? = some (o5_ false false false false false 41)) := ⟨by rw [← hq_]; exact (bv BK397.out)⟩; have n1_ : Aside0 (w31.heap[gb405]? = some (o5_ t399 t400 t401 t402 t403 41)) := ⟨by rw [← hq_]; exact (bv BK405.out)⟩; have n2_ : Aside0 (w31.heap[gb410]? = some (.cells #[.bool t406, .int .i64 t407, .int .u64 t408, .bool t409] 75 (0, 0))) := ⟨by rw [← hq_]; exact (bv BK410.out)⟩; have n3_ : Aside0 (Below w.heap.size w w31) := ⟨by rw [← hq_]; exact (bl3 HB.out GE397.out GE405.out GE410.out)⟩; clear BK397 BK405 BK410 HB hq_; have BK397 := n0_; have BK405 := n1_; have BK410 := n2_; have HB := n3_; clear n0_ n1_ n2_ n3_)); obtain ⟨hcz33_0, hcz33_1, hcz33_2, hcz33_3, hcz33_4⟩ := bc5 BK397.out; obtain ⟨hfz33_0, hfz33_1, hfz33_2, hfz33_3, hfz33_4⟩ := bf5 BK397.out))
   refine bodyPost_ret (results_tc rfl _ _ gb397 41 #[.bool false, .bool false, .bool false, .bool false, .bool false] (0, 0) _ rfl (by (with_reducible repeat first | apply bd | apply be | apply ba); refine blk_put (cs := F5) ?_ 4 _ rfl; (with_reducible repeat first | apply bd | apply be | apply ba); refine blk_put (cs := F5) ?_ 3 _ rfl; (with_reducible repeat first | apply bd | apply be | apply ba); refine blk_put (cs := F5) ?_ 2 _ rfl; (with_reducible repeat first | apply bd | apply be | apply ba); refine blk_put (cs := F5) ?_ 1 _ rfl; (with_reducible repeat first | apply bd | apply be | apply ba); refine blk_put (cs := F5) ?_ 0 _ rfl; (with_reducible repeat first | apply bd | apply be | apply ba); exact BK397.out) Try.underlying41 rfl (by kernel_rfl)) rfl ?_
   exact ⟨by first | rfl | (simp [errW_none, errW_some] <;> rfl) | (simp [*, errW_none, errW_some] <;> rfl), bl3 HB.out GE397.out GE405.out GE410.out⟩
  ·rw [if_neg c19] at H
   have c19b0 : decide (0 ≤ t407) = false := decide_eq_false c19
   clear c19
   replace H := Option.bind_eq_some_iff.mp H
   obtain ⟨⟨t412, t413⟩, A340, H⟩ := H
   replace H : ((round_Pack.f k a0 a1 t406 0 t412 false).bind fun bt414 => (some (bt414.1, false, false, false, false, t413))) = some (r1, r2, r3, r4, r5, r6) := H
   have A34 := Aside0.mk A340
   clear A340
   replace H := Option.bind_eq_some_iff.mp H
   obtain ⟨⟨t414, t415, t416, t417, t418, t419⟩, A350, H⟩ := H
   replace H : (some (t414, false, false, false, false, t413)) = some (r1, r2, r3, r4, r5, r6) := H
   have A35 := Aside0.mk A350
   clear A350
   simp only [Option.some.injEq, Prod.mk.injEq] at H
   obtain ⟨rfl, rfl, rfl, rfl, rfl, rfl⟩ := H
   go_enter Try.func47, Try.ntmps47
   go_wp2_with (first | ((with_reducible refine gate_dst (N := 7) rfl ?_); refine box_event ?hg (N := 7) ?hd (cs := F5) (t := 41) ?hr ?_; (case hd => rfl); (case hg => rfl); (case hr => first | (go_simp; done) | (go_simp; rfl)); intro gb397 hg w36 hbox hb; have n0_ := Aside0.mk (below_step (bl0 HB.out) hb); have n1_ := Aside0.mk (hbox); have n2_ := Aside0.mk ((by rw [hg]; exact (below_size (bl0 HB.out)) : w.heap.size ≤ gb397)); have n3_ := n2_; clear HB; have HB := n0_; have BK397 := n1_; have GW397 := n2_; have GE397 := n3_; clear n0_ n1_ n2_ n3_; clear hb hbox hg) | ((with_reducible refine gate_callee (f := 54) rfl ?_); refine goesL_ (some 19) rfl rfl Try.func54 (by kernel_rfl) rfl #[.int .i64 a0, .int .u32 a2] rfl gl ?_; (with_reducible refine (whole_apart.calls k a0 a2 t398 t399 t400 t401 t402 t403 false _ A4.out).mono ?_); rintro e w37 ⟨rfl, hb⟩; refine ⟨_, rfl, ?_⟩; have n0_ := Aside0.mk (blk_below (g := gb397) (o := o5_ false false false false false 41) (bv BK397.out) hb); have n1_ := Aside0.mk (below_step (bl1 HB.out GE397.out) hb); clear BK397; clear HB; have BK397 := n0_; have HB := n1_; clear n0_ n1_) | ((with_reducible refine gate_dst (N := 9) rfl ?_); refine box_event ?hg (N := 9) ?hd (cs := F5) (t := 41) ?hr ?_; (case hd => rfl); (case hg => rfl); (case hr => first | (go_simp; done) | (go_simp; rfl)); intro gb405 hg w38 hbox hb; have n0_ := Aside0.mk (blk_below (g := gb397) (o := o5_ false false false false false 41) (bv BK397.out) hb); have n1_ := Aside0.mk (below_step (bl1 HB.out GE397.out) hb); have n2_ := Aside0.mk (hbox); have n3_ := Aside0.mk ((by rw [hg]; exact (below_size (bl1 HB.out GE397.out)) : w.heap.size ≤ gb405)); have n4_ := n3_; have n5_ := Aside0.mk ((by rw [hg]; exact Nat.ne_of_lt (blk_lt (g := gb397) (o := .cells F5 41 (0, 0)) (bv BK397.out)) : gb397 ≠ gb405)); have n6_ := Aside0.mk (Ne.symm n5_.out); clear BK397; clear HB; have BK397 := n0_; have HB := n1_; have BK405 := n2_; have GW405 := n3_; have GE405 := n4_; have NB397_405 := n5_; have NB405_397 := n6_; clear n0_ n1_ n2_ n3_ n4_ n5_ n6_; clear hb hbox hg; have hnb39 := NB405_397.out; have hnc39 := NB397_405.out; obtain ⟨hcz40_0, hcz40_1, hcz40_2, hcz40_3, hcz40_4⟩ := bc5 BK405.out; obtain ⟨hfz40_0, hfz40_1, hfz40_2, hfz40_3, hfz40_4⟩ := bf5 BK405.out) | ((with_reducible refine gate_callee (f := 55) rfl ?_); refine goesL_ (some 28) rfl rfl Try.func55 (by kernel_rfl) rfl #[.int .i64 a0, .int .u32 a2] rfl gl ?_; (with_reducible refine (sum_Of.calls a0 a2 t406 t407 t408 t409 _ A18.out).mono ?_); rintro e w41 ⟨rfl, hb⟩; refine ⟨_, rfl, ?_⟩; have n0_ := Aside0.mk (blk_below (g := gb397) (o := o5_ false false false false false 41) (by (with_reducible repeat first | apply bd | apply be | apply ba); refine blk_far ?_ NB397_405.out _; (with_reducible repeat first | apply bd | apply be | apply ba); refine blk_far ?_ NB397_405.out _; (with_reducible repeat first | apply bd | apply be | apply ba); refine blk_far ?_ NB397_405.out _; (with_reducible repeat first | apply bd | apply be | apply ba); refine blk_far ?_ NB397_405.out _; (with_reducible repeat first | apply bd | apply be | apply ba); refine blk_far ?_ NB397_405.out _; (with_reducible repeat first | apply bd | apply be | apply ba); exact BK397.out) hb); have n1_ := Aside0.mk (blk_below (g := gb405) (o := o5_ t399 t400 t401 t402 t403 41) (by (with_reducible repeat first | apply bd | apply be | apply ba); refine blk_put (cs := q5_ t399 t400 t401 t402 false) ?_ 4 _ rfl; (with_reducible repeat first | apply bd | apply be | apply ba); refine blk_put (cs := q5_ t399 t400 t401 false false) ?_ 3 _ rfl; (with_reducible repeat first | apply bd | apply be | apply ba); refine blk_put (cs := q5_ t399 t400 false false false) ?_ 2 _ rfl; (with_reducible repeat first | apply bd | apply be | apply ba); refine blk_put (cs := q5_ t399 false false false false) ?_ 1 _ rfl; (with_reducible repeat first | apply bd | apply be | apply ba); refine blk_put (cs := F5) ?_ 0 _ rfl; (with_reducible repeat first | apply bd | apply be | apply ba); exact BK405.out) hb); have n2_ := Aside0.mk (below_step (bl2 HB.out GE397.out GE405.out) hb); clear BK397; clear BK405; clear HB; have BK397 := n0_; have BK405 := n1_; have HB := n2_; clear n0_ n1_ n2_) | ((with_reducible refine gate_dst (N := 11) rfl ?_); refine box_event ?hg (N := 11) ?hd (cs := #[.bool false, .int .i64 0, .int .u64 0, .bool false]) (t := 75) ?hr ?_; (case hd => rfl); (case hg => rfl); (case hr => first | (go_simp; done) | (go_simp; rfl)); intro gb410 hg w42 hbox hb; have n0_ := Aside0.mk (blk_below (g := gb397) (o := o5_ false false false false false 41) (bv BK397.out) hb); have n1_ := Aside0.mk (blk_below (g := gb405) (o := o5_ t399 t400 t401 t402 t403 41) (bv BK405.out) hb); have n2_ := Aside0.mk (below_step (bl2 HB.out GE397.out GE405.out) hb); have n3_ := Aside0.mk (hbox); have n4_ := Aside0.mk ((by rw [hg]; exact (below_size (bl2 HB.out GE397.out GE405.out)) : w.heap.size ≤ gb410)); have n5_ := n4_; have n6_ := Aside0.mk ((by rw [hg]; exact Nat.ne_of_lt (blk_lt (g := gb397) (o := .cells F5 41 (0, 0)) (bv BK397.out)) : gb397 ≠ gb410)); have n7_ := Aside0.mk (Ne.symm n6_.out); have n8_ := Aside0.mk ((by rw [hg]; exact Nat.ne_of_lt (blk_lt (g := gb405) (o := o5_ t399 t400 t401 t402 t403 41) (bv BK405.out)) : gb405 ≠ gb410)); have n9_ := Aside0.mk (Ne.symm n8_.out); clear BK397; clear BK405; clear HB; have BK397 := n0_; have BK405 := n1_; have HB := n2_; have BK410 := n3_; have GW410 := n4_; have GE410 := n5_; have NB397_410 := n6_; have NB410_397 := n7_; have NB405_410 := n8_; have NB410_405 := n9_; clear n0_ n1_ n2_ n3_ n4_ n5_ n6_ n7_ n8_ n9_; clear hb hbox hg; have hnb43 := NB410_397.out; have hnc43 := NB397_410.out; have hnb44 := NB410_405.out; have hnc44 := NB405_410.out; obtain ⟨hcz45_0, hcz45_1, hcz45_2, hcz45_3⟩ := bc4 BK410.out; obtain ⟨hfz45_0, hfz45_1, hfz45_2, hfz45_3⟩ := bf4 BK410.out) | ((with_reducible refine gate_callee (f := 62) rfl ?_); refine goesL_ (some 40) rfl rfl Try.func62 (by kernel_rfl) rfl #[.agg #[.bool t406, .int .i64 t407, .int .u64 t408, .bool t409], .int .i64 a1] rfl gl ?_; (with_reducible refine (whole_units.calls k t406 t407 t408 t409 a1 t412 t413 _ A34.out).mono ?_); rintro e w46 ⟨rfl, hb⟩; refine ⟨_, rfl, ?_⟩; have n0_ := Aside0.mk (blk_below (g := gb397) (o := o5_ false false false false false 41) (by (with_reducible repeat first | apply bd | apply be | apply ba); refine blk_far ?_ NB397_410.out _; (with_reducible repeat first | apply bd | apply be | apply ba); refine blk_far ?_ NB397_410.out _; (with_reducible repeat first | apply bd | apply be | apply ba); refine blk_far ?_ NB397_410.out _; (with_reducible repeat first | apply bd | apply be | apply ba); refine blk_far ?_ NB397_410.out _; (with_reducible repeat first | apply bd | apply be | apply ba); exact BK397.out) hb); have n1_ := Aside0.mk (blk_below (g := gb405) (o := o5_ t399 t400 t401 t402 t403 41) (by (with_reducible repeat first | apply bd | apply be | apply ba); refine blk_far ?_ NB405_410.out _; (with_reducible repeat first | apply bd | apply be | apply ba); refine blk_far ?_ NB405_410.out _; (with_reducible repeat first | apply bd | apply be | apply ba); refine blk_far ?_ NB405_410.out _; (with_reducible repeat first | apply bd | apply be | apply ba); refine blk_far ?_ NB405_410.out _; (with_reducible repeat first | apply bd | apply be | apply ba); exact BK405.out) hb); have n2_ := Aside0.mk (blk_below (g := gb410) (o := .cells #[.bool t406, .int .i64 t407, .int .u64 t408, .bool t409] 75 (0, 0)) (by (with_reducible repeat first | apply bd | apply be | apply ba); refine blk_put (cs := #[.bool t406, .int .i64 t407, .int .u64 t408, .bool false]) ?_ 3 _ rfl; (with_reducible repeat first | apply bd | apply be | apply ba); refine blk_put (cs := #[.bool t406, .int .i64 t407, .int .u64 0, .bool false]) ?_ 2 _ rfl; (with_reducible repeat first | apply bd | apply be | apply ba); refine blk_put (cs := #[.bool t406, .int .i64 0, .int .u64 0, .bool false]) ?_ 1 _ rfl; (with_reducible repeat first | apply bd | apply be | apply ba); refine blk_put (cs := #[.bool false, .int .i64 0, .int .u64 0, .bool false]) ?_ 0 _ rfl; (with_reducible repeat first | apply bd | apply be | apply ba); exact BK410.out) hb); have n3_ := Aside0.mk (below_step (bl3 HB.out GE397.out GE405.out GE410.out) hb); clear BK397; clear BK405; clear BK410; clear HB; have BK397 := n0_; have BK405 := n1_; have BK410 := n2_; have HB := n3_; clear n0_ n1_ n2_ n3_; obtain ⟨hcz47_0, hcz47_1, hcz47_2, hcz47_3⟩ := bc4 BK410.out; obtain ⟨hfz47_0, hfz47_1, hfz47_2, hfz47_3⟩ := bf4 BK410.out) | ((with_reducible refine gate_callee (f := 51) rfl ?_); refine goesL_ (some 49) rfl rfl Try.func51 (by kernel_rfl) rfl #[.int .i64 a0, .int .i64 a1, .bool t406, .int .i64 0, .int .u64 t412, .bool false] rfl gl ?_; (with_reducible refine (round_Pack.calls k a0 a1 t406 0 t412 false t414 t415 t416 t417 t418 t419 _ A35.out).mono ?_); rintro e w48 ⟨rfl, hb⟩; refine ⟨_, rfl, ?_⟩; have n0_ := Aside0.mk (blk_below (g := gb397) (o := o5_ false false false false false 41) (bv BK397.out) hb); have n1_ := Aside0.mk (blk_below (g := gb405) (o := o5_ t399 t400 t401 t402 t403 41) (bv BK405.out) hb); have n2_ := Aside0.mk (blk_below (g := gb410) (o := .cells #[.bool t406, .int .i64 t407, .int .u64 t408, .bool t409] 75 (0, 0)) (bv BK410.out) hb); have n3_ := Aside0.mk (below_step (bl3 HB.out GE397.out GE405.out GE410.out) hb); clear BK397; clear BK405; clear BK410; clear HB; have BK397 := n0_; have BK405 := n1_; have BK410 := n2_; have HB := n3_; clear n0_ n1_ n2_ n3_) | ((with_reducible refine gate_dst (N := 15) rfl ?_); refine box_event ?hg (N := 15) ?hd (cs := F5) (t := 41) ?hr ?_; (case hd => rfl); (case hg => rfl); (case hr => first | (go_simp; done) | (go_simp; rfl)); intro gb420 hg w49 hbox hb; have n0_ := Aside0.mk (blk_below (g := gb397) (o := o5_ false false false false false 41) (bv BK397.out) hb); have n1_ := Aside0.mk (blk_below (g := gb405) (o := o5_ t399 t400 t401 t402 t403 41) (bv BK405.out) hb); have n2_ := Aside0.mk (blk_below (g := gb410) (o := .cells #[.bool t406, .int .i64 t407, .int .u64 t408, .bool t409] 75 (0, 0)) (bv BK410.out) hb); have n3_ := Aside0.mk (below_step (bl3 HB.out GE397.out GE405.out GE410.out) hb); have n4_ := Aside0.mk (hbox); have n5_ := Aside0.mk ((by rw [hg]; exact (below_size (bl3 HB.out GE397.out GE405.out GE410.out)) : w.heap.size ≤ gb420)); have n6_ := n5_; have n7_ := Aside0.mk ((by rw [hg]; exact Nat.ne_of_lt (blk_lt (g := gb397) (o := .cells F5 41 (0, 0)) (bv BK397.out)) : gb397 ≠ gb420)); have n8_ := Aside0.mk (Ne.symm n7_.out); have n9_ := Aside0.mk ((by rw [hg]; exact Nat.ne_of_lt (blk_lt (g := gb405) (o := o5_ t399 t400 t401 t402 t403 41) (bv BK405.out)) : gb405 ≠ gb420)); have n10_ := Aside0.mk (Ne.symm n9_.out); have n11_ := Aside0.mk ((by rw [hg]; exact Nat.ne_of_lt (blk_lt (g := gb410) (o := .cells #[.bool t406, .int .i64 t407, .int .u64 t408, .bool t409] 75 (0, 0)) (bv BK410.out)) : gb410 ≠ gb420)); have n12_ := Aside0.mk (Ne.symm n11_.out); clear BK397; clear BK405; clear BK410; clear HB; have BK397 := n0_; have BK405 := n1_; have BK410 := n2_; have HB := n3_; have BK420 := n4_; have GW420 := n5_; have GE420 := n6_; have NB397_420 := n7_; have NB420_397 := n8_; have NB405_420 := n9_; have NB420_405 := n10_; have NB410_420 := n11_; have NB420_410 := n12_; clear n0_ n1_ n2_ n3_ n4_ n5_ n6_ n7_ n8_ n9_ n10_ n11_ n12_; clear hb hbox hg; have hnb50 := NB420_397.out; have hnc50 := NB397_420.out; have hnb51 := NB420_405.out; have hnc51 := NB405_420.out; have hnb52 := NB420_410.out; have hnc52 := NB410_420.out; obtain ⟨hcz53_0, hcz53_1, hcz53_2, hcz53_3, hcz53_4⟩ := bc5 BK420.out; obtain ⟨hfz53_0, hfz53_1, hfz53_2, hfz53_3, hfz53_4⟩ := bf5 BK420.out; obtain ⟨hcz54_0, hcz54_1, hcz54_2, hcz54_3, hcz54_4⟩ := bc5 BK397.out; obtain ⟨hfz54_0, hfz54_1, hfz54_2, hfz54_3, hfz54_4⟩ := bf5 BK397.out))
   refine bodyPost_ret (results_tc rfl _ _ gb397 41 #[.bool false, .bool false, .bool false, .bool false, .bool t413] (0, 0) _ rfl (by (with_reducible repeat first | apply bd | apply be | apply ba); refine blk_put (cs := F5) ?_ 4 _ rfl; (with_reducible repeat first | apply bd | apply be | apply ba); refine blk_put (cs := F5) ?_ 3 _ rfl; (with_reducible repeat first | apply bd | apply be | apply ba); refine blk_put (cs := F5) ?_ 2 _ rfl; (with_reducible repeat first | apply bd | apply be | apply ba); refine blk_put (cs := F5) ?_ 1 _ rfl; (with_reducible repeat first | apply bd | apply be | apply ba); refine blk_put (cs := F5) ?_ 0 _ rfl; (with_reducible repeat first | apply bd | apply be | apply ba); refine blk_far ?_ NB397_420.out _; (with_reducible repeat first | apply bd | apply be | apply ba); refine blk_far ?_ NB397_420.out _; (with_reducible repeat first | apply bd | apply be | apply ba); refine blk_far ?_ NB397_420.out _; (with_reducible repeat first | apply bd | apply be | apply ba); refine blk_far ?_ NB397_420.out _; (with_reducible repeat first | apply bd | apply be | apply ba); refine blk_far ?_ NB397_420.out _; (with_reducible repeat first | apply bd | apply be | apply ba); exact BK397.out) Try.underlying41 rfl (by kernel_rfl)) rfl ?_
   exact ⟨by first | rfl | (simp [errW_none, errW_some] <;> rfl) | (simp [*, errW_none, errW_some] <;> rfl), bl4 HB.out GE397.out GE405.out GE410.out GE420.out⟩


/-! ### annealref1_Round: function 48 -/
def annealref1_Round.j0 : Nat → Int → Int → Int → Bool → Option (Int × Bool × Bool × Bool × Bool × Bool)
 |0, _, _, _, _ => none
 |k + 1, x0, x1, x2, x44 => if x44 = true then ((annealref1_Mask.f x0).bind fun t432 => (some (Go.bits .and .u32 x2 t432, false, false, false, false, false))) else ((annealref1_units.f k x0 x1 x2).bind fun bt433 => ((annealref1_Pack.f k x0 x1 bt433.1 0 bt433.2.1 false).bind fun bt436 => (some (bt436.1, false, false, false, false, bt433.2.2))))
def annealref1_Round.f (k : Nat) (a0 : Int) (a1 : Int) (a2 : Int) : Option (Int × Bool × Bool × Bool × Bool × Bool) := (annealref1_nans.f k a0 (([a2] : List Int))).bind fun bt425 => (if bt425.1 = true then ((annealref1_Nan.f a0).bind fun t427 => (some (t427, bt425.2, false, false, false, false))) else ((annealref1_Unpack.f k a0 a2).bind fun bt428 => ((annealref1_Finite.f k a0 a2).bind fun t431 => (if t431 = true then (annealref1_Round.j0 k a0 a1 a2 (decide (bt428.2.1 ≥ 0))) else (annealref1_Round.j0 k a0 a1 a2 true)))))
set_option maxHeartbeats 8000000 in
set_option maxRecDepth 100000 in
theorem annealref1_Round.calls (k : Nat) (a0 : Int) (a1 : Int) (a2 : Int) (r1 : Int) (r2 : Bool) (r3 : Bool) (r4 : Bool) (r5 : Bool) (r6 : Bool) (w : World) (h : annealref1_Round.f k a0 a1 a2 = some (r1, r2, r3, r4, r5, r6)) :
  Calls Try.prog 48 #[.int .i64 a0, .int .i64 a1, .int .u32 a2] w fun e w' => e = .returned (.tuple #[.int .u32 r1, .agg #[.bool r2, .bool r3, .bool r4, .bool r5, .bool r6]]) ∧ Below w.heap.size w w' := by
 have hu41 := Try.underlying41
 have HB := Aside0.mk (Below.refl w.heap.size w)
 have H : ((annealref1_nans.f k a0 (([a2] : List Int))).bind fun bt425 => (if bt425.1 = true then ((annealref1_Nan.f a0).bind fun t427 => (some (t427, bt425.2, false, false, false, false))) else ((annealref1_Unpack.f k a0 a2).bind fun bt428 => ((annealref1_Finite.f k a0 a2).bind fun t431 => (if t431 = true then (annealref1_Round.j0 k a0 a1 a2 (decide (bt428.2.1 ≥ 0))) else (annealref1_Round.j0 k a0 a1 a2 true)))))) = some (r1, r2, r3, r4, r5, r6) := h
 clear h
 obtain ⟨y422, hy422⟩ : ∃ y_ : List Int, y_ = (([a2] : List Int)) := ⟨_, rfl⟩
 replace H : ((annealref1_nans.f k a0 y422).bind fun bt425 => (if bt425.1 = true then ((annealref1_Nan.f a0).bind fun t427 => (some (t427, bt425.2, false, false, false, false))) else ((annealref1_Unpack.f k a0 a2).bind fun bt428 => ((annealref1_Finite.f k a0 a2).bind fun t431 => (if t431 = true then (annealref1_Round.j0 k a0 a1 a2 (decide (bt428.2.1 ≥ 0))) else (annealref1_Round.j0 k a0 a1 a2 true)))))) = some (r1, r2, r3, r4, r5, r6) := by first | (rw [hy422]; with_reducible exact H) | (have H2_ := (Option.bind_some _ _).symm.trans H; rw [hy422]; with_reducible exact H2_) | (have H2_ := (Option.bind_some _ _).symm.trans H; with_reducible exact H2_) | with_reducible exact H | (rw [hy422]; exact H) | exact H
 have Ny422 := Aside0.mk hy422
 clear hy422
 replace H := Option.bind_eq_some_iff.mp H
 obtain ⟨⟨t425, t426⟩, A40, H⟩ := H
 replace H : (if t425 = true then ((annealref1_Nan.f a0).bind fun t427 => (some (t427, t426, false, false, false, false))) else ((annealref1_Unpack.f k a0 a2).bind fun bt428 => ((annealref1_Finite.f k a0 a2).bind fun t431 => (if t431 = true then (annealref1_Round.j0 k a0 a1 a2 (decide (bt428.2.1 ≥ 0))) else (annealref1_Round.j0 k a0 a1 a2 true))))) = some (r1, r2, r3, r4, r5, r6) := H
 have A4 := Aside0.mk A40
 clear A40
 by_cases c5 : t425 = true
 ·subst c5
  have H1 : ((annealref1_Nan.f a0).bind fun t427 => (some (t427, t426, false, false, false, false))) = some (r1, r2, r3, r4, r5, r6) := by rw [if_pos rfl] at H; exact H
  clear H
  have H := H1
  clear H1
  replace H := Option.bind_eq_some_iff.mp H
  obtain ⟨t427, A60, H⟩ := H
  replace H : (some (t427, t426, false, false, false, false)) = some (r1, r2, r3, r4, r5, r6) := H
  have A6 := Aside0.mk A60
  clear A60
  simp only [Option.some.injEq, Prod.mk.injEq] at H
  obtain ⟨rfl, rfl, rfl, rfl, rfl, rfl⟩ := H
  go_enter Try.func48, Try.ntmps48
  go_wp2_with (first | ((with_reducible refine gate_dst (N := 7) rfl ?_); refine box_event ?hg (N := 7) ?hd (cs := F5) (t := 41) ?hr ?_; (case hd => rfl); (case hg => rfl); (case hr => first | (go_simp; done) | (go_simp; rfl)); intro gb421 hg w7 hbox hb; have n0_ := Aside0.mk (below_step (bl0 HB.out) hb); have n1_ := Aside0.mk (hbox); have n2_ := Aside0.mk ((by rw [hg]; exact (below_size (bl0 HB.out)) : w.heap.size ≤ gb421)); have n3_ := n2_; clear HB; have HB := n0_; have BK421 := n1_; have GW421 := n2_; have GE421 := n3_; clear n0_ n1_ n2_ n3_; clear hb hbox hg) | ((with_reducible refine gate_dst (N := 21) rfl ?_); refine Kd.R_lit (Kd.int .u32) _ 22 ?hg (N := 21) ?hd (xs := ([a2] : List Int)) (inner := [.int .u32 a2]) (ok := fun _ => True) (okp := fun _ => True) ?hr ?hp (fun _ hk => hk) trivial (Below.refl _ _) (Nat.le_refl _) (by simp) ?_; (case hd => rfl); (case hg => rfl); (case hr => first | (go_simp; done) | (go_simp; rfl)); (case hp => exact (Reps.one (show Kd.M (Kd.int .u32) _ _ _ a2 [.int .u32 a2] from rfl) (Reps.none _ _))); intro v423 w8 ho9 hb hg_ hnew_; clear hg_ hnew_; (first | rw [← Ny422.out] at ho9 | (simp only [Int.reduceToNat] at ho9; rw [← Ny422.out] at ho9)); have n0_ := Aside0.mk (Kd.R_lower ho9 (below_size (bl1 HB.out GE421.out))); have n1_ := Aside0.mk (blk_below (g := gb421) (o := o5_ false false false false false 41) (bv BK421.out) hb); have n2_ := Aside0.mk (below_step (bl1 HB.out GE421.out) hb); clear BK421; clear HB; have HO424 := n0_; have BK421 := n1_; have HB := n2_; clear n0_ n1_ n2_; clear hb ho9; obtain ⟨Ao10, co10, eo10⟩ := Kd.R_slice HO424.out; subst eo10) | ((with_reducible refine gate_callee (f := 57) rfl ?_); refine goesL_ (some 22) rfl rfl Try.func57 (by kernel_rfl) rfl #[.int .i64 a0, .slice Ao10 y422.length co10] rfl gl ?_; (with_reducible refine (annealref1_nans.calls k a0 _ _ y422 true t426 _ ?side1 ?side2 A4.out).mono ?_); (case side1 => repeat (first | exact (Kd.R_reads' HO424.out).2.2 | (with_reducible refine Kd.C_alloc ?_ _) | (with_reducible refine Kd.C_drewN ?_ _) | (with_reducible refine Kd.C_drew ?_))); (case side2 => exact (Kd.R_reads' HO424.out).2.1); rintro e w' ⟨rfl, ⟨nd, rfl⟩⟩; refine ⟨_, rfl, ?_⟩; (try (rw [drewN_self w8]; generalize hq_ : World.drewN w8 _ = w8; have n0_ : Aside0 (Kd.R (Kd.int .u32) 22 w8 w.heap.size (fun _ => True) (.slice Ao10 y422.length co10) y422) := ⟨by rw [← hq_]; exact (by (with_reducible repeat (first | apply Kd.R_alloc | apply Kd.R_drewN | apply Kd.R_drew)); exact HO424.out)⟩; have n1_ : Aside0 (w8.heap[gb421]? = some (o5_ false false false false false 41)) := ⟨by rw [← hq_]; exact (bv BK421.out)⟩; have n2_ : Aside0 (Below w.heap.size w w8) := ⟨by rw [← hq_]; exact (bl1 HB.out GE421.out)⟩; clear HO424 BK421 HB hq_; have HO424 := n0_; have BK421 := n1_; have HB := n2_; clear n0_ n1_ n2_))) | ((with_reducible refine gate_callee (f := 43) rfl ?_); refine goesL_ (some 27) rfl rfl Try.func43 (by kernel_rfl) rfl #[.int .i64 a0] rfl gl ?_; (with_reducible refine (annealref1_Nan.calls a0 t427 _ A6.out).mono ?_); rintro e w' ⟨rfl, ⟨nd, rfl⟩⟩; refine ⟨_, rfl, ?_⟩; (try (rw [drewN_self w8]; generalize hq_ : World.drewN w8 _ = w8; have n0_ : Aside0 (Kd.R (Kd.int .u32) 22 w8 w.heap.size (fun _ => True) (.slice Ao10 y422.length co10) y422) := ⟨by rw [← hq_]; exact (by (with_reducible repeat (first | apply Kd.R_alloc | apply Kd.R_drewN | apply Kd.R_drew)); exact HO424.out)⟩; have n1_ : Aside0 (w8.heap[gb421]? = some (o5_ false false false false false 41)) := ⟨by rw [← hq_]; exact (bv BK421.out)⟩; have n2_ : Aside0 (Below w.heap.size w w8) := ⟨by rw [← hq_]; exact (bl1 HB.out GE421.out)⟩; clear HO424 BK421 HB hq_; have HO424 := n0_; have BK421 := n1_; have HB := n2_; clear n0_ n1_ n2_)); obtain ⟨hcz11_0, hcz11_1, hcz11_2, hcz11_3, hcz11_4⟩ := bc5 BK421.out; obtain ⟨hfz11_0, hfz11_1, hfz11_2, hfz11_3, hfz11_4⟩ := bf5 BK421.out))
  refine bodyPost_ret (results_tc rfl _ _ gb421 41 #[.bool t426, .bool false, .bool false, .bool false, .bool false] (0, 0) _ rfl (by (with_reducible repeat first | apply bd | apply be | apply ba); refine blk_put (cs := q5_ t426 false false false false) ?_ 4 _ rfl; (with_reducible repeat first | apply bd | apply be | apply ba); refine blk_put (cs := q5_ t426 false false false false) ?_ 3 _ rfl; (with_reducible repeat first | apply bd | apply be | apply ba); refine blk_put (cs := q5_ t426 false false false false) ?_ 2 _ rfl; (with_reducible repeat first | apply bd | apply be | apply ba); refine blk_put (cs := q5_ t426 false false false false) ?_ 1 _ rfl; (with_reducible repeat first | apply bd | apply be | apply ba); refine blk_put (cs := F5) ?_ 0 _ rfl; (with_reducible repeat first | apply bd | apply be | apply ba); exact BK421.out) Try.underlying41 rfl (by kernel_rfl)) rfl ?_
  exact ⟨by first | rfl | (simp [errW_none, errW_some] <;> rfl) | (simp [*, errW_none, errW_some] <;> rfl), bl1 HB.out GE421.out⟩
 ·replace c5 := Bool.eq_false_iff.mpr c5
  subst c5
  have H1 : ((annealref1_Unpack.f k a0 a2).bind fun bt428 => ((annealref1_Finite.f k a0 a2).bind fun t431 => (if t431 = true then (annealref1_Round.j0 k a0 a1 a2 (decide (bt428.2.1 ≥ 0))) else (annealref1_Round.j0 k a0 a1 a2 true)))) = some (r1, r2, r3, r4, r5, r6) := by rw [if_neg (show ¬ (false = true) by decide)] at H; exact H
  clear H
  have H := H1
  clear H1
  replace H := Option.bind_eq_some_iff.mp H
  obtain ⟨⟨t428, t429, t430⟩, A120, H⟩ := H
  replace H : ((annealref1_Finite.f k a0 a2).bind fun t431 => (if t431 = true then (annealref1_Round.j0 k a0 a1 a2 (decide (t429 ≥ 0))) else (annealref1_Round.j0 k a0 a1 a2 true))) = some (r1, r2, r3, r4, r5, r6) := H
  have A12 := Aside0.mk A120
  clear A120
  have HC13 := Aside0.mk H
  clear H
  go_enter Try.func48, Try.ntmps48
  go_upto_region 5 with (first | ((with_reducible refine gate_dst (N := 7) rfl ?_); refine box_event ?hg (N := 7) ?hd (cs := F5) (t := 41) ?hr ?_; (case hd => rfl); (case hg => rfl); (case hr => first | (go_simp; done) | (go_simp; rfl)); intro gb421 hg w14 hbox hb; have n0_ := Aside0.mk (below_step (bl0 HB.out) hb); have n1_ := Aside0.mk (hbox); have n2_ := Aside0.mk ((by rw [hg]; exact (below_size (bl0 HB.out)) : w.heap.size ≤ gb421)); have n3_ := n2_; clear HB; have HB := n0_; have BK421 := n1_; have GW421 := n2_; have GE421 := n3_; clear n0_ n1_ n2_ n3_; clear hb hbox hg) | ((with_reducible refine gate_dst (N := 21) rfl ?_); refine Kd.R_lit (Kd.int .u32) _ 22 ?hg (N := 21) ?hd (xs := ([a2] : List Int)) (inner := [.int .u32 a2]) (ok := fun _ => True) (okp := fun _ => True) ?hr ?hp (fun _ hk => hk) trivial (Below.refl _ _) (Nat.le_refl _) (by simp) ?_; (case hd => rfl); (case hg => rfl); (case hr => first | (go_simp; done) | (go_simp; rfl)); (case hp => exact (Reps.one (show Kd.M (Kd.int .u32) _ _ _ a2 [.int .u32 a2] from rfl) (Reps.none _ _))); intro v423 w15 ho16 hb hg_ hnew_; clear hg_ hnew_; (first | rw [← Ny422.out] at ho16 | (simp only [Int.reduceToNat] at ho16; rw [← Ny422.out] at ho16)); have n0_ := Aside0.mk (Kd.R_lower ho16 (below_size (bl1 HB.out GE421.out))); have n1_ := Aside0.mk (blk_below (g := gb421) (o := o5_ false false false false false 41) (bv BK421.out) hb); have n2_ := Aside0.mk (below_step (bl1 HB.out GE421.out) hb); clear BK421; clear HB; have HO424 := n0_; have BK421 := n1_; have HB := n2_; clear n0_ n1_ n2_; clear hb ho16; obtain ⟨Ao17, co17, eo17⟩ := Kd.R_slice HO424.out; subst eo17) | ((with_reducible refine gate_callee (f := 57) rfl ?_); refine goesL_ (some 22) rfl rfl Try.func57 (by kernel_rfl) rfl #[.int .i64 a0, .slice Ao17 y422.length co17] rfl gl ?_; (with_reducible refine (annealref1_nans.calls k a0 _ _ y422 false t426 _ ?side1 ?side2 A4.out).mono ?_); (case side1 => repeat (first | exact (Kd.R_reads' HO424.out).2.2 | (with_reducible refine Kd.C_alloc ?_ _) | (with_reducible refine Kd.C_drewN ?_ _) | (with_reducible refine Kd.C_drew ?_))); (case side2 => exact (Kd.R_reads' HO424.out).2.1); rintro e w' ⟨rfl, ⟨nd, rfl⟩⟩; refine ⟨_, rfl, ?_⟩) | ((with_reducible refine gate_callee (f := 60) rfl ?_); refine goesL_ (some 33) rfl rfl Try.func60 (by kernel_rfl) rfl #[.int .i64 a0, .int .u32 a2] rfl gl ?_; (with_reducible refine (annealref1_Unpack.calls k a0 a2 t428 t429 t430 _ A12.out).mono ?_); rintro e w' ⟨rfl, ⟨nd, rfl⟩⟩; refine ⟨_, rfl, ?_⟩))
  (try simp only [Act.put, sb, sz, ss])
  go_cut [44] (fun v44 wc => ∃ (kq : Nat) (x44_12 : Bool), v44 = .bool x44_12 ∧ Aside0 (annealref1_Round.j0 kq a0 a1 a2 x44_12 = some (r1, r2, r3, r4, r5, r6)) ∧ Aside0 (kq ≤ k) ∧ Aside0 (wc.heap[gb421]? = some (o5_ false false false false false 41)) ∧ Aside0 (Below w.heap.size w wc))
  case first =>
   have H := HC13.out
   clear HC13
   replace H := Option.bind_eq_some_iff.mp H
   obtain ⟨t431, A180, H⟩ := H
   replace H : (if t431 = true then (annealref1_Round.j0 k a0 a1 a2 (decide (t429 ≥ 0))) else (annealref1_Round.j0 k a0 a1 a2 true)) = some (r1, r2, r3, r4, r5, r6) := H
   have A18 := Aside0.mk A180
   clear A180
   by_cases c19 : t431 = true
   ·subst c19
    have H1 : (annealref1_Round.j0 k a0 a1 a2 (decide (t429 ≥ 0))) = some (r1, r2, r3, r4, r5, r6) := by rw [if_pos rfl] at H; exact H
    clear H
    have H := H1
    clear H1
    have H' := Aside0.mk H
    clear H
    go_wp2_with (first | ((with_reducible refine gate_callee (f := 58) rfl ?_); refine goesL_ (some 39) rfl rfl Try.func58 (by kernel_rfl) rfl #[.int .i64 a0, .int .u32 a2] rfl gl ?_; (with_reducible refine (annealref1_Finite.calls k a0 a2 true _ A18.out).mono ?_); rintro e w' ⟨rfl, ⟨nd, rfl⟩⟩; refine ⟨_, rfl, ?_⟩))
    go_meet
    case rel => exact ⟨_, (decide (t429 ≥ 0)), (by first | rfl | (simp; done) | (simp [*]; done) | (congr 1; (try unfold wrap64); omega) | (congr 1; rw [IntKind.wrap_u64]; omega)), H', ⟨by first | omega | exact Nat.le_refl _⟩, ⟨by (with_reducible repeat first | apply bd | apply be | apply ba); exact BK421.out⟩, ⟨bl1 HB.out GE421.out⟩⟩
   ·replace c19 := Bool.eq_false_iff.mpr c19
    subst c19
    have H1 : (annealref1_Round.j0 k a0 a1 a2 true) = some (r1, r2, r3, r4, r5, r6) := by rw [if_neg (show ¬ (false = true) by decide)] at H; exact H
    clear H
    have H := H1
    clear H1
    have H' := Aside0.mk H
    clear H
    go_wp2_with (first | ((with_reducible refine gate_callee (f := 58) rfl ?_); refine goesL_ (some 39) rfl rfl Try.func58 (by kernel_rfl) rfl #[.int .i64 a0, .int .u32 a2] rfl gl ?_; (with_reducible refine (annealref1_Finite.calls k a0 a2 false _ A18.out).mono ?_); rintro e w' ⟨rfl, ⟨nd, rfl⟩⟩; refine ⟨_, rfl, ?_⟩))
    go_meet
    case rel => exact ⟨_, (true), (by first | rfl | (simp; done) | (simp [*]; done) | (congr 1; (try unfold wrap64); omega) | (congr 1; rw [IntKind.wrap_u64]; omega)), H', ⟨by first | omega | exact Nat.le_refl _⟩, ⟨by (with_reducible repeat first | apply bd | apply be | apply ba); exact BK421.out⟩, ⟨bl1 HB.out GE421.out⟩⟩
  case rest =>
   clear HC13
   try clear c1 p2 c4 c5 c6 p6 c19 hcz11_0 hcz11_1 hcz11_2 hcz11_3 hcz11_4 hfz11_0 hfz11_1 hfz11_2 hfz11_3 hfz11_4
   obtain ⟨kq, x44_12, rfl, HA, HJ12, BK421, HB⟩ := hcut
   cases kq with
   |zero => exact absurd HA.out (by simp [annealref1_Round.j0])
   |succ kj12 =>
    have H := HA.out
    clear HA
    simp only [annealref1_Round.j0] at H
    by_cases c20 : x44_12 = true
    ·subst c20
     have H1 : ((annealref1_Mask.f a0).bind fun t432 => (some (Go.bits .and .u32 a2 t432, false, false, false, false, false))) = some (r1, r2, r3, r4, r5, r6) := by rw [if_pos rfl] at H; exact H
     clear H
     have H := H1
     clear H1
     replace H := Option.bind_eq_some_iff.mp H
     obtain ⟨t432, A210, H⟩ := H
     replace H : (some (Go.bits .and .u32 a2 t432, false, false, false, false, false)) = some (r1, r2, r3, r4, r5, r6) := H
     have A21 := Aside0.mk A210
     clear A210
     simp only [Option.some.injEq, Prod.mk.injEq] at H
     obtain ⟨rfl, rfl, rfl, rfl, rfl, rfl⟩ := H
     go_wp2_with (first | ((with_reducible refine gate_callee (f := 59) rfl ?_); refine goesL_ (some 47) rfl rfl Try.func59 (by kernel_rfl) rfl #[.int .i64 a0] rfl gl ?_; (with_reducible refine (annealref1_Mask.calls a0 t432 _ A21.out).mono ?_); rintro e w' ⟨rfl, ⟨nd, rfl⟩⟩; refine ⟨_, rfl, ?_⟩; (try (rw [drewN_self wc]; generalize hq_ : World.drewN wc _ = wc; have n0_ : Aside0 (wc.heap[gb421]? = some (o5_ false false false false false 41)) := ⟨by rw [← hq_]; exact (bv BK421.out)⟩; have n1_ : Aside0 (Below w.heap.size w wc) := ⟨by rw [← hq_]; exact (bl1 HB.out GE421.out)⟩; clear BK421 HB hq_; have BK421 := n0_; have HB := n1_; clear n0_ n1_)); obtain ⟨hcz22_0, hcz22_1, hcz22_2, hcz22_3, hcz22_4⟩ := bc5 BK421.out; obtain ⟨hfz22_0, hfz22_1, hfz22_2, hfz22_3, hfz22_4⟩ := bf5 BK421.out))
     refine bodyPost_ret (results_tc rfl _ _ gb421 41 #[.bool false, .bool false, .bool false, .bool false, .bool false] (0, 0) _ rfl (by (with_reducible repeat first | apply bd | apply be | apply ba); refine blk_put (cs := F5) ?_ 4 _ rfl; (with_reducible repeat first | apply bd | apply be | apply ba); refine blk_put (cs := F5) ?_ 3 _ rfl; (with_reducible repeat first | apply bd | apply be | apply ba); refine blk_put (cs := F5) ?_ 2 _ rfl; (with_reducible repeat first | apply bd | apply be | apply ba); refine blk_put (cs := F5) ?_ 1 _ rfl; (with_reducible repeat first | apply bd | apply be | apply ba); refine blk_put (cs := F5) ?_ 0 _ rfl; (with_reducible repeat first | apply bd | apply be | apply ba); exact BK421.out) Try.underlying41 rfl (by kernel_rfl)) rfl ?_
     exact ⟨by first | rfl | (simp [errW_none, errW_some] <;> rfl) | (simp [*, errW_none, errW_some] <;> rfl), bl1 HB.out GE421.out⟩
    ·replace c20 := Bool.eq_false_iff.mpr c20
     subst c20
     have H1 : ((annealref1_units.f kj12 a0 a1 a2).bind fun bt433 => ((annealref1_Pack.f kj12 a0 a1 bt433.1 0 bt433.2.1 false).bind fun bt436 => (some (bt436.1, false, false, false, false, bt433.2.2)))) = some (r1, r2, r3, r4, r5, r6) := by rw [if_neg (show ¬ (false = true) by decide)] at H; exact H
     clear H
     have H := H1
     clear H1
     replace H := Option.bind_eq_some_iff.mp H
     obtain ⟨⟨t433, t434, t435⟩, A230, H⟩ := H
     replace H : ((annealref1_Pack.f kj12 a0 a1 t433 0 t434 false).bind fun bt436 => (some (bt436.1, false, false, false, false, t435))) = some (r1, r2, r3, r4, r5, r6) := H
     have A23 := Aside0.mk A230
     clear A230
     replace H := Option.bind_eq_some_iff.mp H
     obtain ⟨⟨t436, t437, t438, t439, t440, t441⟩, A240, H⟩ := H
     replace H : (some (t436, false, false, false, false, t435)) = some (r1, r2, r3, r4, r5, r6) := H
     have A24 := Aside0.mk A240
     clear A240
     simp only [Option.some.injEq, Prod.mk.injEq] at H
     obtain ⟨rfl, rfl, rfl, rfl, rfl, rfl⟩ := H
     go_wp2_with (first | ((with_reducible refine gate_callee (f := 79) rfl ?_); refine goesL_ (some 54) rfl rfl Try.func79 (by kernel_rfl) rfl #[.int .i64 a0, .int .i64 a1, .int .u32 a2] rfl gl ?_; (with_reducible refine (annealref1_units.calls kj12 a0 a1 a2 t433 t434 t435 _ A23.out).mono ?_); rintro e w25 ⟨rfl, hb⟩; refine ⟨_, rfl, ?_⟩; have n0_ := Aside0.mk (blk_below (g := gb421) (o := o5_ false false false false false 41) (bv BK421.out) hb); have n1_ := Aside0.mk (below_step (bl1 HB.out GE421.out) hb); clear BK421; clear HB; have BK421 := n0_; have HB := n1_; clear n0_ n1_) | ((with_reducible refine gate_callee (f := 52) rfl ?_); refine goesL_ (some 63) rfl rfl Try.func52 (by kernel_rfl) rfl #[.int .i64 a0, .int .i64 a1, .bool t433, .int .i64 0, .int .u64 t434, .bool false] rfl gl ?_; (with_reducible refine (annealref1_Pack.calls kj12 a0 a1 t433 0 t434 false t436 t437 t438 t439 t440 t441 _ A24.out).mono ?_); rintro e w26 ⟨rfl, hb⟩; refine ⟨_, rfl, ?_⟩; have n0_ := Aside0.mk (blk_below (g := gb421) (o := o5_ false false false false false 41) (bv BK421.out) hb); have n1_ := Aside0.mk (below_step (bl1 HB.out GE421.out) hb); clear BK421; clear HB; have BK421 := n0_; have HB := n1_; clear n0_ n1_) | ((with_reducible refine gate_dst (N := 17) rfl ?_); refine box_event ?hg (N := 17) ?hd (cs := F5) (t := 41) ?hr ?_; (case hd => rfl); (case hg => rfl); (case hr => first | (go_simp; done) | (go_simp; rfl)); intro gb442 hg w27 hbox hb; have n0_ := Aside0.mk (blk_below (g := gb421) (o := o5_ false false false false false 41) (bv BK421.out) hb); have n1_ := Aside0.mk (below_step (bl1 HB.out GE421.out) hb); have n2_ := Aside0.mk (hbox); have n3_ := Aside0.mk ((by rw [hg]; exact (below_size (bl1 HB.out GE421.out)) : w.heap.size ≤ gb442)); have n4_ := n3_; have n5_ := Aside0.mk ((by rw [hg]; exact Nat.ne_of_lt (blk_lt (g := gb421) (o := .cells F5 41 (0, 0)) (bv BK421.out)) : gb421 ≠ gb442)); have n6_ := Aside0.mk (Ne.symm n5_.out); clear BK421; clear HB; have BK421 := n0_; have HB := n1_; have BK442 := n2_; have GW442 := n3_; have GE442 := n4_; have NB421_442 := n5_; have NB442_421 := n6_; clear n0_ n1_ n2_ n3_ n4_ n5_ n6_; clear hb hbox hg; have hnb28 := NB442_421.out; have hnc28 := NB421_442.out; obtain ⟨hcz29_0, hcz29_1, hcz29_2, hcz29_3, hcz29_4⟩ := bc5 BK442.out; obtain ⟨hfz29_0, hfz29_1, hfz29_2, hfz29_3, hfz29_4⟩ := bf5 BK442.out; obtain ⟨hcz30_0, hcz30_1, hcz30_2, hcz30_3, hcz30_4⟩ := bc5 BK421.out; obtain ⟨hfz30_0, hfz30_1, hfz30_2, hfz30_3, hfz30_4⟩ := bf5 BK421.out))
     refine bodyPost_ret (results_tc rfl _ _ gb421 41 #[.bool false, .bool false, .bool false, .bool false, .bool t435] (0, 0) _ rfl (by (with_reducible repeat first | apply bd | apply be | apply ba); refine blk_put (cs := F5) ?_ 4 _ rfl; (with_reducible repeat first | apply bd | apply be | apply ba); refine blk_put (cs := F5) ?_ 3 _ rfl; (with_reducible repeat first | apply bd | apply be | apply ba); refine blk_put (cs := F5) ?_ 2 _ rfl; (with_reducible repeat first | apply bd | apply be | apply ba); refine blk_put (cs := F5) ?_ 1 _ rfl; (with_reducible repeat first | apply bd | apply be | apply ba); refine blk_put (cs := F5) ?_ 0 _ rfl; (with_reducible repeat first | apply bd | apply be | apply ba); refine blk_far ?_ NB421_442.out _; (with_reducible repeat first | apply bd | apply be | apply ba); refine blk_far ?_ NB421_442.out _; (with_reducible repeat first | apply bd | apply be | apply ba); refine blk_far ?_ NB421_442.out _; (with_reducible repeat first | apply bd | apply be | apply ba); refine blk_far ?_ NB421_442.out _; (with_reducible repeat first | apply bd | apply be | apply ba); refine blk_far ?_ NB421_442.out _; (with_reducible repeat first | apply bd | apply be | apply ba); exact BK421.out) Try.underlying41 rfl (by kernel_rfl)) rfl ?_
     exact ⟨by first | rfl | (simp [errW_none, errW_some] <;> rfl) | (simp [*, errW_none, errW_some] <;> rfl), bl2 HB.out GE421.out GE442.out⟩

end Go.Proofs.Ytngkpekmgahjiaa.P
