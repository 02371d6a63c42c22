import Derived.Test.YtngkpekmgahjiaaQwbM1
import Derived.Test.YtngkpekmgahjiaaQwbPx9
import Derived.Test.YtngkpekmgahjiaaQwbPx27
import Derived.Test.YtngkpekmgahjiaaQwbPx28
-- Printed by a program of this session's out of Lean's print of the translation; Lean checks it.
namespace Go.Proofs.Ytngkpekmgahjiaa.P
open Go.RowKit Go.Proofs.YtngkpekmgahjiaaW.PrintWords Go.Proofs.YtngkpekmgahjiaaW.PrintLast Go.Proofs.YtngkpekmgahjiaaW.PrintMore
attribute [local go_sem] max2_int min2_int max_two min_two max_three min_three max_four min_four   -- for this text's walks alone
set_option linter.unusedVariables false
set_option linter.unusedSimpArgs false

/-! ### whole_ToInt: function 32 -/
def whole_ToInt.j0 : Nat → Bool → Int → Option (Int × Bool × Bool × Bool × Bool × Bool)
  | 0, _, _ => none
  | k + 1, x10, x11 => if x11 = (wrap64 (wrap32 (x11))) then (some (wrap32 (x11), false, false, false, false, x10)) else (some ((-2147483648), true, false, false, false, false))
def whole_ToInt.f (k : Nat) (a0 : Int) (a1 : Int) (a2 : Int) : Option (Int × Bool × Bool × Bool × Bool × Bool) := (format_Finite.f a0 a2).bind fun t400 => (if t400 = true then ((sum_Of.f a0 a2).bind fun bt401 => ((whole_units.f k bt401.1 bt401.2.1 bt401.2.2.1 bt401.2.2.2 a1).bind fun bt406 => (if bt401.1 = true then (whole_ToInt.j0 k bt406.2 (wrap64 (-(wrap64 (bt406.1))))) else (whole_ToInt.j0 k bt406.2 (wrap64 (bt406.1)))))) else (some ((-2147483648), true, false, false, false, false)))
theorem whole_ToInt.mono_l : ∀ k, (∀ y0 y1, LeO (whole_ToInt.j0 k y0 y1) (whole_ToInt.j0 (k + 1) y0 y1))
  | 0 => fun _ _ r h => by simp [whole_ToInt.j0] at h
  | k + 1 => by
    have ih0 := whole_ToInt.mono_l k
    · intro y0 y1
      unfold whole_ToInt.j0
      repeat' first
      | (with_reducible exact ih0 _ _)
      | (with_reducible exact whole_units.mono _ _ _ _ _ _)
      | (with_reducible exact LeO.refl _)
      | (with_reducible exact LeO.none _)
      | (with_reducible refine LeO.ite ?_ ?_)
      | (with_reducible refine LeO.bind ?_ (fun _ => ?_))
      | exact ih0 _ _
      | exact whole_units.mono _ _ _ _ _ _
      | exact LeO.none _
      | refine LeO.ite ?_ ?_
      | refine LeO.bind ?_ (fun _ => ?_)
theorem whole_ToInt.mono : ∀ a0 a1 a2 k, LeO (whole_ToInt.f k a0 a1 a2) (whole_ToInt.f (k + 1) a0 a1 a2) := by
  intro a0 a1 a2 k
  have ih0 := whole_ToInt.mono_l k
  unfold whole_ToInt.f
  repeat' first
      | (with_reducible exact ih0 _ _)
      | (with_reducible exact whole_units.mono _ _ _ _ _ _)
      | (with_reducible exact LeO.refl _)
      | (with_reducible exact LeO.none _)
      | (with_reducible refine LeO.ite ?_ ?_)
      | (with_reducible refine LeO.bind ?_ (fun _ => ?_))
      | exact ih0 _ _
      | exact whole_units.mono _ _ _ _ _ _
      | exact LeO.none _
      | refine LeO.ite ?_ ?_
      | refine LeO.bind ?_ (fun _ => ?_)
set_option maxHeartbeats 8000000 in
set_option maxRecDepth 100000 in
theorem whole_ToInt.calls (k : Nat) (a0 : Int) (a1 : Int) (a2 : Int) (r1 : Int) (r2 : Bool) (r3 : Bool) (r4 : Bool) (r5 : Bool) (r6 : Bool) (w : World) (h : whole_ToInt.f k a0 a1 a2 = some (r1, r2, r3, r4, r5, r6)) :
    Calls Try.prog 32 #[.int .i64 a0, .int .i64 a1, .int .u32 a2] w fun e w' => e = .returned (.tuple #[.int .i32 r1, .agg #[.bool r2, .bool r3, .bool r4, .bool r5, .bool r6]]) ∧ Below w.heap.size w w' := by
  have hu41 := Try.underlying41
  have hu75 := Try.underlying75
  have HB := Aside0.mk (Below.refl w.heap.size w)
  have H : ((format_Finite.f a0 a2).bind fun t400 => (if t400 = true then ((sum_Of.f a0 a2).bind fun bt401 => ((whole_units.f k bt401.1 bt401.2.1 bt401.2.2.1 bt401.2.2.2 a1).bind fun bt406 => (if bt401.1 = true then (whole_ToInt.j0 k bt406.2 (wrap64 (-(wrap64 (bt406.1))))) else (whole_ToInt.j0 k bt406.2 (wrap64 (bt406.1)))))) else (some ((-2147483648), true, false, false, false, false)))) = some (r1, r2, r3, r4, r5, r6) := h
  clear h
  replace H := Option.bind_eq_some_iff.mp H
  obtain ⟨t400, A40, H⟩ := H
  replace H : (if t400 = true then ((sum_Of.f a0 a2).bind fun bt401 => ((whole_units.f k bt401.1 bt401.2.1 bt401.2.2.1 bt401.2.2.2 a1).bind fun bt406 => (if bt401.1 = true then (whole_ToInt.j0 k bt406.2 (wrap64 (-(wrap64 (bt406.1))))) else (whole_ToInt.j0 k bt406.2 (wrap64 (bt406.1)))))) else (some ((-2147483648), true, false, false, false, false))) = some (r1, r2, r3, r4, r5, r6) := H
  have A4 := Aside0.mk A40
  clear A40
  by_cases c5 : t400 = true
  · subst c5
    have H1 : ((sum_Of.f a0 a2).bind fun bt401 => ((whole_units.f k bt401.1 bt401.2.1 bt401.2.2.1 bt401.2.2.2 a1).bind fun bt406 => (if bt401.1 = true then (whole_ToInt.j0 k bt406.2 (wrap64 (-(wrap64 (bt406.1))))) else (whole_ToInt.j0 k bt406.2 (wrap64 (bt406.1)))))) = some (r1, r2, r3, r4, r5, r6) := by rw [if_pos rfl] at H; exact H
    clear H
    have H := H1
    clear H1
    replace H := Option.bind_eq_some_iff.mp H
    obtain ⟨⟨t401, t402, t403, t404⟩, A60, H⟩ := H
    replace H : ((whole_units.f k t401 t402 t403 t404 a1).bind fun bt406 => (if t401 = true then (whole_ToInt.j0 k bt406.2 (wrap64 (-(wrap64 (bt406.1))))) else (whole_ToInt.j0 k bt406.2 (wrap64 (bt406.1))))) = some (r1, r2, r3, r4, r5, r6) := H
    have A6 := Aside0.mk A60
    clear A60
    replace H := Option.bind_eq_some_iff.mp H
    obtain ⟨⟨t406, t407⟩, A70, H⟩ := H
    replace H : (if t401 = true then (whole_ToInt.j0 k t407 (wrap64 (-(wrap64 (t406))))) else (whole_ToInt.j0 k t407 (wrap64 (t406)))) = some (r1, r2, r3, r4, r5, r6) := H
    have A7 := Aside0.mk A70
    clear A70
    have HC8 := Aside0.mk H
    clear H
    go_enter Try.func32, Try.ntmps32
    go_upto_if 27 with (first | ((with_reducible refine gate_dst (N := 7) rfl ?_); refine box_event ?hg (N := 7) ?hd (cs := #[.bool false, .bool false, .bool false, .bool false, .bool false]) (t := 41) ?hr ?_; (case hd => rfl); (case hg => rfl); (case hr => first | (go_simp; done) | (go_simp; rfl)); intro gb399 hg w9 hbox hb; have n0_ := Aside0.mk (below_step (by repeat (first | (with_reducible first | exact HB.out | apply below_alloc | apply pw_below_drewN | apply below_drew1) | exact HB.out)) hb); have n1_ := Aside0.mk (hbox); have n2_ := Aside0.mk ((by rw [hg]; exact (below_size (by repeat (first | (with_reducible first | exact HB.out | apply below_alloc | apply pw_below_drewN | apply below_drew1) | exact HB.out))) : w.heap.size ≤ gb399)); have n3_ := Aside0.mk ((by rw [hg]; exact (below_size (by repeat (first | (with_reducible first | exact HB.out | apply below_alloc | apply pw_below_drewN | apply below_drew1) | exact HB.out))) : w.heap.size ≤ gb399)); clear HB; have HB := n0_; have BK399 := n1_; have GW399 := n2_; have GE399 := n3_; clear n0_ n1_ n2_ n3_; clear hb hbox hg) | ((with_reducible refine gate_callee (f := 61) rfl ?_); refine goesL_ (some 14) rfl rfl Try.func61 (by kernel_rfl) rfl #[.int .i64 a0, .int .u32 a2] rfl (by (try simp only [List.map_toArray, List.map_cons, List.map_nil]); first | done | rfl | (simp only [List.length_drop, List.length_take]; rfl)) ?_; (with_reducible refine (format_Finite.calls a0 a2 true _ A4.out).mono ?_); rintro e w' ⟨rfl, ⟨nd, rfl⟩⟩; refine ⟨_, rfl, ?_⟩; (try (rw [drewN_self w9]; generalize hq_ : World.drewN w9 _ = w9; have n0_ : Aside0 (w9.heap[gb399]? = some (.cells #[.bool false, .bool false, .bool false, .bool false, .bool false] 41 (0, 0))) := ⟨by rw [← hq_]; exact (by (with_reducible repeat (first | refine blk_drewN ?_ _ | refine blk_drew ?_ | refine blk_alloc ?_ _)); exact BK399.out)⟩; have n1_ : Aside0 (Below w.heap.size w w9) := ⟨by rw [← hq_]; exact (by repeat (first | (with_reducible first | exact HB.out | apply below_alloc | apply pw_below_drewN | apply below_drew1 | refine below_set ?_ GE399.out) | exact HB.out))⟩; clear BK399 HB hq_; have BK399 := n0_; have HB := n1_; clear n0_ n1_))) | ((with_reducible refine gate_callee (f := 55) rfl ?_); refine goesL_ (some 17) rfl rfl Try.func55 (by kernel_rfl) rfl #[.int .i64 a0, .int .u32 a2] rfl (by (try simp only [List.map_toArray, List.map_cons, List.map_nil]); first | done | rfl | (simp only [List.length_drop, List.length_take]; rfl)) ?_; (with_reducible refine (sum_Of.calls a0 a2 t401 t402 t403 t404 _ A6.out).mono ?_); rintro e w10 ⟨rfl, hb⟩; refine ⟨_, rfl, ?_⟩; have n0_ := Aside0.mk (blk_below (g := gb399) (o := .cells #[.bool false, .bool false, .bool false, .bool false, .bool false] 41 (0, 0)) (by (with_reducible repeat (first | refine blk_drewN ?_ _ | refine blk_drew ?_ | refine blk_alloc ?_ _)); exact BK399.out) hb); have n1_ := Aside0.mk (below_step (by repeat (first | (with_reducible first | exact HB.out | apply below_alloc | apply pw_below_drewN | apply below_drew1 | refine below_set ?_ GE399.out) | exact HB.out)) hb); clear BK399; clear HB; have BK399 := n0_; have HB := n1_; clear n0_ n1_; (try clear hb); (try clear hb2); (try clear hk); (try clear hi)) | ((with_reducible refine gate_dst (N := 8) rfl ?_); refine box_event ?hg (N := 8) ?hd (cs := #[.bool false, .int .i64 0, .int .u64 0, .bool false]) (t := 75) ?hr ?_; (case hd => rfl); (case hg => rfl); (case hr => first | (go_simp; done) | (go_simp; rfl)); intro gb405 hg w11 hbox hb; have n0_ := Aside0.mk (blk_below (g := gb399) (o := .cells #[.bool false, .bool false, .bool false, .bool false, .bool false] 41 (0, 0)) (by (with_reducible repeat (first | refine blk_drewN ?_ _ | refine blk_drew ?_ | refine blk_alloc ?_ _)); exact BK399.out) hb); have n1_ := Aside0.mk (below_step (by repeat (first | (with_reducible first | exact HB.out | apply below_alloc | apply pw_below_drewN | apply below_drew1 | refine below_set ?_ GE399.out) | exact HB.out)) hb); have n2_ := Aside0.mk (hbox); have n3_ := Aside0.mk ((by rw [hg]; exact (below_size (by repeat (first | (with_reducible first | exact HB.out | apply below_alloc | apply pw_below_drewN | apply below_drew1 | refine below_set ?_ GE399.out) | exact HB.out))) : w.heap.size ≤ gb405)); have n4_ := Aside0.mk ((by rw [hg]; exact (below_size (by repeat (first | (with_reducible first | exact HB.out | apply below_alloc | apply pw_below_drewN | apply below_drew1 | refine below_set ?_ GE399.out) | exact HB.out))) : w.heap.size ≤ gb405)); have n5_ := Aside0.mk ((by rw [hg]; exact Nat.ne_of_lt (blk_lt (g := gb399) (o := .cells #[.bool false, .bool false, .bool false, .bool false, .bool false] 41 (0, 0)) (by (with_reducible repeat (first | refine blk_drewN ?_ _ | refine blk_drew ?_ | refine blk_alloc ?_ _)); exact BK399.out)) : gb399 ≠ gb405)); have n6_ := Aside0.mk ((by rw [hg]; exact Nat.ne_of_gt (blk_lt (g := gb399) (o := .cells #[.bool false, .bool false, .bool false, .bool false, .bool false] 41 (0, 0)) (by (with_reducible repeat (first | refine blk_drewN ?_ _ | refine blk_drew ?_ | refine blk_alloc ?_ _)); exact BK399.out)) : gb405 ≠ gb399)); clear BK399; clear HB; have BK399 := n0_; have HB := n1_; have BK405 := n2_; have GW405 := n3_; have GE405 := n4_; have NB399_405 := n5_; have NB405_399 := n6_; clear n0_ n1_ n2_ n3_ n4_ n5_ n6_; clear hb hbox hg; have hnb12 := NB405_399.out; have hnc12 := NB399_405.out; have hcz13_0 : w11.cell? ⟨gb405, 0, none⟩ = some (.bool false) := (blk_cell BK405.out 0).trans rfl; have hcz13_1 : w11.cell? ⟨gb405, 1, none⟩ = some (.int .i64 0) := (blk_cell BK405.out 1).trans rfl; have hcz13_2 : w11.cell? ⟨gb405, 2, none⟩ = some (.int .u64 0) := (blk_cell BK405.out 2).trans rfl; have hcz13_3 : w11.cell? ⟨gb405, 3, none⟩ = some (.bool false) := (blk_cell BK405.out 3).trans rfl; have hfz13_0 := blk_frozen BK405.out 0; have hfz13_1 := blk_frozen BK405.out 1; have hfz13_2 := blk_frozen BK405.out 2; have hfz13_3 := blk_frozen BK405.out 3) | ((with_reducible refine gate_callee (f := 62) rfl ?_); refine goesL_ (some 21) rfl rfl Try.func62 (by kernel_rfl) rfl #[.agg #[.bool t401, .int .i64 t402, .int .u64 t403, .bool t404], .int .i64 a1] rfl (by (try simp only [List.map_toArray, List.map_cons, List.map_nil]); first | done | rfl | (simp only [List.length_drop, List.length_take]; rfl)) ?_; (with_reducible refine (whole_units.calls k t401 t402 t403 t404 a1 t406 t407 _ A7.out).mono ?_); rintro e w14 ⟨rfl, hb⟩; refine ⟨_, rfl, ?_⟩; have n0_ := Aside0.mk (blk_below (g := gb399) (o := .cells #[.bool false, .bool false, .bool false, .bool false, .bool false] 41 (0, 0)) (by (with_reducible repeat (first | refine blk_drewN ?_ _ | refine blk_drew ?_ | refine blk_alloc ?_ _)); refine blk_far ?_ NB399_405.out _; (with_reducible repeat (first | refine blk_drewN ?_ _ | refine blk_drew ?_ | refine blk_alloc ?_ _)); refine blk_far ?_ NB399_405.out _; (with_reducible repeat (first | refine blk_drewN ?_ _ | refine blk_drew ?_ | refine blk_alloc ?_ _)); refine blk_far ?_ NB399_405.out _; (with_reducible repeat (first | refine blk_drewN ?_ _ | refine blk_drew ?_ | refine blk_alloc ?_ _)); refine blk_far ?_ NB399_405.out _; (with_reducible repeat (first | refine blk_drewN ?_ _ | refine blk_drew ?_ | refine blk_alloc ?_ _)); exact BK399.out) hb); have n1_ := Aside0.mk (blk_below (g := gb405) (o := .cells #[.bool t401, .int .i64 t402, .int .u64 t403, .bool t404] 75 (0, 0)) (by (with_reducible repeat (first | refine blk_drewN ?_ _ | refine blk_drew ?_ | refine blk_alloc ?_ _)); refine blk_put (cs := #[.bool t401, .int .i64 t402, .int .u64 t403, .bool false]) ?_ 3 _ rfl; (with_reducible repeat (first | refine blk_drewN ?_ _ | refine blk_drew ?_ | refine blk_alloc ?_ _)); refine blk_put (cs := #[.bool t401, .int .i64 t402, .int .u64 0, .bool false]) ?_ 2 _ rfl; (with_reducible repeat (first | refine blk_drewN ?_ _ | refine blk_drew ?_ | refine blk_alloc ?_ _)); refine blk_put (cs := #[.bool t401, .int .i64 0, .int .u64 0, .bool false]) ?_ 1 _ rfl; (with_reducible repeat (first | refine blk_drewN ?_ _ | refine blk_drew ?_ | refine blk_alloc ?_ _)); refine blk_put (cs := #[.bool false, .int .i64 0, .int .u64 0, .bool false]) ?_ 0 _ rfl; (with_reducible repeat (first | refine blk_drewN ?_ _ | refine blk_drew ?_ | refine blk_alloc ?_ _)); exact BK405.out) hb); have n2_ := Aside0.mk (below_step (by repeat (first | (with_reducible first | exact HB.out | apply below_alloc | apply pw_below_drewN | apply below_drew1 | refine below_set ?_ GE399.out | refine below_set ?_ GE405.out) | exact HB.out)) hb); clear BK399; clear BK405; clear HB; have BK399 := n0_; have BK405 := n1_; have HB := n2_; clear n0_ n1_ n2_; (try clear hb); (try clear hb2); (try clear hk); (try clear hi); have hcz15_0 : w14.cell? ⟨gb405, 0, none⟩ = some (.bool t401) := (blk_cell BK405.out 0).trans rfl; have hcz15_1 : w14.cell? ⟨gb405, 1, none⟩ = some (.int .i64 t402) := (blk_cell BK405.out 1).trans rfl; have hcz15_2 : w14.cell? ⟨gb405, 2, none⟩ = some (.int .u64 t403) := (blk_cell BK405.out 2).trans rfl; have hcz15_3 : w14.cell? ⟨gb405, 3, none⟩ = some (.bool t404) := (blk_cell BK405.out 3).trans rfl; have hfz15_0 := blk_frozen BK405.out 0; have hfz15_1 := blk_frozen BK405.out 1; have hfz15_2 := blk_frozen BK405.out 2; have hfz15_3 := blk_frozen BK405.out 3))
    (try simp only [Act.put, List.setIfInBounds_toArray, List.set_cons_zero, List.set_cons_succ])
    go_cut [11] (fun v11 wc => ∃ (kq : Nat) (x11_7 : Int), v11 = .int .i64 x11_7 ∧ Aside0 (whole_ToInt.j0 kq t407 x11_7 = some (r1, r2, r3, r4, r5, r6)) ∧ Aside0 (kq ≤ k) ∧ Aside0 (wc.heap[gb399]? = some (.cells #[.bool false, .bool false, .bool false, .bool false, .bool false] 41 (0, 0))) ∧ Aside0 (wc.heap[gb405]? = some (.cells #[.bool t401, .int .i64 t402, .int .u64 t403, .bool t404] 75 (0, 0))) ∧ Aside0 (Below w.heap.size w wc))
    case first =>
      have H := HC8.out
      clear HC8
      by_cases c16 : t401 = true
      · subst c16
        have H1 : (whole_ToInt.j0 k t407 (wrap64 (-(wrap64 (t406))))) = some (r1, r2, r3, r4, r5, r6) := by rw [if_pos rfl] at H; exact H
        clear H
        have H := H1
        clear H1
        have H' := Aside0.mk H
        clear H
        go_wp2
        go_meet
        case rel => exact ⟨_, (wrap64 (-(wrap64 (t406)))), (by first | rfl | (simp; done) | (simp [*]; done) | (congr 1; (try unfold wrap64); omega) | (congr 1; rw [IntKind.wrap_u64]; omega)), H', ⟨by first | omega | exact Nat.le_refl _⟩, ⟨by (with_reducible repeat (first | refine blk_drewN ?_ _ | refine blk_drew ?_ | refine blk_alloc ?_ _)); exact BK399.out⟩, ⟨by (with_reducible repeat (first | refine blk_drewN ?_ _ | refine blk_drew ?_ | refine blk_alloc ?_ _)); exact BK405.out⟩, ⟨by repeat (first | (with_reducible first | exact HB.out | apply below_alloc | apply pw_below_drewN | apply below_drew1 | refine below_set ?_ GE399.out | refine below_set ?_ GE405.out) | exact HB.out)⟩⟩
      · replace c16 := Bool.eq_false_iff.mpr c16
        subst c16
        have H1 : (whole_ToInt.j0 k t407 (wrap64 (t406))) = some (r1, r2, r3, r4, r5, r6) := by rw [if_neg (show ¬ (false = true) by decide)] at H; exact H
        clear H
        have H := H1
        clear H1
        have H' := Aside0.mk H
        clear H
        go_wp2
        go_meet
        case rel => exact ⟨_, (wrap64 (t406)), (by first | rfl | (simp; done) | (simp [*]; done) | (congr 1; (try unfold wrap64); omega) | (congr 1; rw [IntKind.wrap_u64]; omega)), H', ⟨by first | omega | exact Nat.le_refl _⟩, ⟨by (with_reducible repeat (first | refine blk_drewN ?_ _ | refine blk_drew ?_ | refine blk_alloc ?_ _)); exact BK399.out⟩, ⟨by (with_reducible repeat (first | refine blk_drewN ?_ _ | refine blk_drew ?_ | refine blk_alloc ?_ _)); exact BK405.out⟩, ⟨by repeat (first | (with_reducible first | exact HB.out | apply below_alloc | apply pw_below_drewN | apply below_drew1 | refine below_set ?_ GE399.out | refine below_set ?_ GE405.out) | exact HB.out)⟩⟩
    case rest =>
      clear HC8
      try clear c1
      try clear p2
      try clear c3
      try clear c5
      try clear c6
      try clear p6
      try clear c12
      try clear c16
      try clear hcz13_0
      try clear hcz13_1
      try clear hcz13_2
      try clear hcz13_3
      try clear hcz15_0
      try clear hcz15_1
      try clear hcz15_2
      try clear hcz15_3
      try clear hfz13_0
      try clear hfz13_1
      try clear hfz13_2
      try clear hfz13_3
      try clear hfz15_0
      try clear hfz15_1
      try clear hfz15_2
      try clear hfz15_3
      obtain ⟨kq, x11_7, rfl, HA, HJ7, BK399, BK405, HB⟩ := hcut
      cases kq with
      | zero => exact absurd HA.out (by simp [whole_ToInt.j0])
      | succ kj7 =>
        have H := HA.out
        clear HA
        simp only [whole_ToInt.j0] at H
        by_cases c17 : x11_7 = (wrap64 (wrap32 (x11_7)))
        · rw [if_pos c17] at H
          have c17b0 : (x11_7 == (wrap64 (wrap32 (x11_7)))) = true := beq_iff_eq.mpr c17
          have c17b1 : (x11_7 != (wrap64 (wrap32 (x11_7)))) = false := bne_eq_false_iff_eq.mpr c17
          clear c17
          simp only [Option.some.injEq, Prod.mk.injEq] at H
          obtain ⟨rfl, rfl, rfl, rfl, rfl, rfl⟩ := H
          have hnb18 := NB399_405.out
          have hnc18 := NB405_399.out
          have hcz19_0 : wc.cell? ⟨gb399, 0, none⟩ = some (.bool false) := (blk_cell BK399.out 0).trans rfl
          have hcz19_1 : wc.cell? ⟨gb399, 1, none⟩ = some (.bool false) := (blk_cell BK399.out 1).trans rfl
          have hcz19_2 : wc.cell? ⟨gb399, 2, none⟩ = some (.bool false) := (blk_cell BK399.out 2).trans rfl
          have hcz19_3 : wc.cell? ⟨gb399, 3, none⟩ = some (.bool false) := (blk_cell BK399.out 3).trans rfl
          have hcz19_4 : wc.cell? ⟨gb399, 4, none⟩ = some (.bool false) := (blk_cell BK399.out 4).trans rfl
          have hfz19_0 := blk_frozen BK399.out 0
          have hfz19_1 := blk_frozen BK399.out 1
          have hfz19_2 := blk_frozen BK399.out 2
          have hfz19_3 := blk_frozen BK399.out 3
          have hfz19_4 := blk_frozen BK399.out 4
          go_wp2
          refine bodyPost_ret (results_tc rfl _ _ gb399 41 #[.bool false, .bool false, .bool false, .bool false, .bool t407] (0, 0) _ rfl (by (with_reducible repeat (first | refine blk_drewN ?_ _ | refine blk_drew ?_ | refine blk_alloc ?_ _)); refine blk_put (cs := #[.bool false, .bool false, .bool false, .bool false, .bool false]) ?_ 4 _ rfl; (with_reducible repeat (first | refine blk_drewN ?_ _ | refine blk_drew ?_ | refine blk_alloc ?_ _)); refine blk_put (cs := #[.bool false, .bool false, .bool false, .bool false, .bool false]) ?_ 3 _ rfl; (with_reducible repeat (first | refine blk_drewN ?_ _ | refine blk_drew ?_ | refine blk_alloc ?_ _)); refine blk_put (cs := #[.bool false, .bool false, .bool false, .bool false, .bool false]) ?_ 2 _ rfl; (with_reducible repeat (first | refine blk_drewN ?_ _ | refine blk_drew ?_ | refine blk_alloc ?_ _)); refine blk_put (cs := #[.bool false, .bool false, .bool false, .bool false, .bool false]) ?_ 1 _ rfl; (with_reducible repeat (first | refine blk_drewN ?_ _ | refine blk_drew ?_ | refine blk_alloc ?_ _)); refine blk_put (cs := #[.bool false, .bool false, .bool false, .bool false, .bool false]) ?_ 0 _ rfl; (with_reducible repeat (first | refine blk_drewN ?_ _ | refine blk_drew ?_ | refine blk_alloc ?_ _)); exact BK399.out) Try.underlying41 rfl (by kernel_rfl)) rfl ?_
          exact ⟨by first | rfl | (simp [errW_none, errW_some] <;> rfl) | (simp [*, errW_none, errW_some] <;> rfl), by repeat (first | (with_reducible first | exact HB.out | apply below_alloc | apply pw_below_drewN | apply below_drew1 | refine below_set ?_ GE399.out | refine below_set ?_ GE405.out) | exact HB.out)⟩
        · rw [if_neg c17] at H
          have c17b0 : (x11_7 == (wrap64 (wrap32 (x11_7)))) = false := beq_eq_false_iff_ne.mpr c17
          have c17b1 : (x11_7 != (wrap64 (wrap32 (x11_7)))) = true := bne_iff_ne.mpr c17
          simp only [Option.some.injEq, Prod.mk.injEq] at H
          obtain ⟨rfl, rfl, rfl, rfl, rfl, rfl⟩ := H
          have hnb20 := NB399_405.out
          have hnc20 := NB405_399.out
          have hcz21_0 : wc.cell? ⟨gb399, 0, none⟩ = some (.bool false) := (blk_cell BK399.out 0).trans rfl
          have hcz21_1 : wc.cell? ⟨gb399, 1, none⟩ = some (.bool false) := (blk_cell BK399.out 1).trans rfl
          have hcz21_2 : wc.cell? ⟨gb399, 2, none⟩ = some (.bool false) := (blk_cell BK399.out 2).trans rfl
          have hcz21_3 : wc.cell? ⟨gb399, 3, none⟩ = some (.bool false) := (blk_cell BK399.out 3).trans rfl
          have hcz21_4 : wc.cell? ⟨gb399, 4, none⟩ = some (.bool false) := (blk_cell BK399.out 4).trans rfl
          have hfz21_0 := blk_frozen BK399.out 0
          have hfz21_1 := blk_frozen BK399.out 1
          have hfz21_2 := blk_frozen BK399.out 2
          have hfz21_3 := blk_frozen BK399.out 3
          have hfz21_4 := blk_frozen BK399.out 4
          go_wp2
          refine bodyPost_ret (results_tc rfl _ _ gb399 41 #[.bool true, .bool false, .bool false, .bool false, .bool false] (0, 0) _ rfl (by (with_reducible repeat (first | refine blk_drewN ?_ _ | refine blk_drew ?_ | refine blk_alloc ?_ _)); refine blk_put (cs := #[.bool true, .bool false, .bool false, .bool false, .bool false]) ?_ 4 _ rfl; (with_reducible repeat (first | refine blk_drewN ?_ _ | refine blk_drew ?_ | refine blk_alloc ?_ _)); refine blk_put (cs := #[.bool true, .bool false, .bool false, .bool false, .bool false]) ?_ 3 _ rfl; (with_reducible repeat (first | refine blk_drewN ?_ _ | refine blk_drew ?_ | refine blk_alloc ?_ _)); refine blk_put (cs := #[.bool true, .bool false, .bool false, .bool false, .bool false]) ?_ 2 _ rfl; (with_reducible repeat (first | refine blk_drewN ?_ _ | refine blk_drew ?_ | refine blk_alloc ?_ _)); refine blk_put (cs := #[.bool true, .bool false, .bool false, .bool false, .bool false]) ?_ 1 _ rfl; (with_reducible repeat (first | refine blk_drewN ?_ _ | refine blk_drew ?_ | refine blk_alloc ?_ _)); refine blk_put (cs := #[.bool false, .bool false, .bool false, .bool false, .bool false]) ?_ 0 _ rfl; (with_reducible repeat (first | refine blk_drewN ?_ _ | refine blk_drew ?_ | refine blk_alloc ?_ _)); exact BK399.out) Try.underlying41 rfl (by kernel_rfl)) rfl ?_
          exact ⟨by first | rfl | (simp [errW_none, errW_some] <;> rfl) | (simp [*, errW_none, errW_some] <;> rfl), by repeat (first | (with_reducible first | exact HB.out | apply below_alloc | apply pw_below_drewN | apply below_drew1 | refine below_set ?_ GE399.out | refine below_set ?_ GE405.out) | exact HB.out)⟩
  · replace c5 := Bool.eq_false_iff.mpr c5
    subst c5
    have H1 : (some ((-2147483648), true, false, false, false, false)) = some (r1, r2, r3, r4, r5, r6) := by rw [if_neg (show ¬ (false = true) by decide)] at H; exact H
    clear H
    have H := H1
    clear H1
    simp only [Option.some.injEq, Prod.mk.injEq] at H
    obtain ⟨rfl, rfl, rfl, rfl, rfl, rfl⟩ := H
    go_enter Try.func32, Try.ntmps32
    go_wp2_with (first | ((with_reducible refine gate_dst (N := 7) rfl ?_); refine box_event ?hg (N := 7) ?hd (cs := #[.bool false, .bool false, .bool false, .bool false, .bool false]) (t := 41) ?hr ?_; (case hd => rfl); (case hg => rfl); (case hr => first | (go_simp; done) | (go_simp; rfl)); intro gb399 hg w22 hbox hb; have n0_ := Aside0.mk (below_step (by repeat (first | (with_reducible first | exact HB.out | apply below_alloc | apply pw_below_drewN | apply below_drew1) | exact HB.out)) hb); have n1_ := Aside0.mk (hbox); have n2_ := Aside0.mk ((by rw [hg]; exact (below_size (by repeat (first | (with_reducible first | exact HB.out | apply below_alloc | apply pw_below_drewN | apply below_drew1) | exact HB.out))) : w.heap.size ≤ gb399)); have n3_ := Aside0.mk ((by rw [hg]; exact (below_size (by repeat (first | (with_reducible first | exact HB.out | apply below_alloc | apply pw_below_drewN | apply below_drew1) | exact HB.out))) : w.heap.size ≤ gb399)); clear HB; have HB := n0_; have BK399 := n1_; have GW399 := n2_; have GE399 := n3_; clear n0_ n1_ n2_ n3_; clear hb hbox hg) | ((with_reducible refine gate_callee (f := 61) rfl ?_); refine goesL_ (some 14) rfl rfl Try.func61 (by kernel_rfl) rfl #[.int .i64 a0, .int .u32 a2] rfl (by (try simp only [List.map_toArray, List.map_cons, List.map_nil]); first | done | rfl | (simp only [List.length_drop, List.length_take]; rfl)) ?_; (with_reducible refine (format_Finite.calls a0 a2 false _ A4.out).mono ?_); rintro e w' ⟨rfl, ⟨nd, rfl⟩⟩; refine ⟨_, rfl, ?_⟩; (try (rw [drewN_self w22]; generalize hq_ : World.drewN w22 _ = w22; have n0_ : Aside0 (w22.heap[gb399]? = some (.cells #[.bool false, .bool false, .bool false, .bool false, .bool false] 41 (0, 0))) := ⟨by rw [← hq_]; exact (by (with_reducible repeat (first | refine blk_drewN ?_ _ | refine blk_drew ?_ | refine blk_alloc ?_ _)); exact BK399.out)⟩; have n1_ : Aside0 (Below w.heap.size w w22) := ⟨by rw [← hq_]; exact (by repeat (first | (with_reducible first | exact HB.out | apply below_alloc | apply pw_below_drewN | apply below_drew1 | refine below_set ?_ GE399.out) | exact HB.out))⟩; clear BK399 HB hq_; have BK399 := n0_; have HB := n1_; clear n0_ n1_)); have hcz23_0 : w22.cell? ⟨gb399, 0, none⟩ = some (.bool false) := (blk_cell BK399.out 0).trans rfl; have hcz23_1 : w22.cell? ⟨gb399, 1, none⟩ = some (.bool false) := (blk_cell BK399.out 1).trans rfl; have hcz23_2 : w22.cell? ⟨gb399, 2, none⟩ = some (.bool false) := (blk_cell BK399.out 2).trans rfl; have hcz23_3 : w22.cell? ⟨gb399, 3, none⟩ = some (.bool false) := (blk_cell BK399.out 3).trans rfl; have hcz23_4 : w22.cell? ⟨gb399, 4, none⟩ = some (.bool false) := (blk_cell BK399.out 4).trans rfl; have hfz23_0 := blk_frozen BK399.out 0; have hfz23_1 := blk_frozen BK399.out 1; have hfz23_2 := blk_frozen BK399.out 2; have hfz23_3 := blk_frozen BK399.out 3; have hfz23_4 := blk_frozen BK399.out 4))
    refine bodyPost_ret (results_tc rfl _ _ gb399 41 #[.bool true, .bool false, .bool false, .bool false, .bool false] (0, 0) _ rfl (by (with_reducible repeat (first | refine blk_drewN ?_ _ | refine blk_drew ?_ | refine blk_alloc ?_ _)); refine blk_put (cs := #[.bool true, .bool false, .bool false, .bool false, .bool false]) ?_ 4 _ rfl; (with_reducible repeat (first | refine blk_drewN ?_ _ | refine blk_drew ?_ | refine blk_alloc ?_ _)); refine blk_put (cs := #[.bool true, .bool false, .bool false, .bool false, .bool false]) ?_ 3 _ rfl; (with_reducible repeat (first | refine blk_drewN ?_ _ | refine blk_drew ?_ | refine blk_alloc ?_ _)); refine blk_put (cs := #[.bool true, .bool false, .bool false, .bool false, .bool false]) ?_ 2 _ rfl; (with_reducible repeat (first | refine blk_drewN ?_ _ | refine blk_drew ?_ | refine blk_alloc ?_ _)); refine blk_put (cs := #[.bool true, .bool false, .bool false, .bool false, .bool false]) ?_ 1 _ rfl; (with_reducible repeat (first | refine blk_drewN ?_ _ | refine blk_drew ?_ | refine blk_alloc ?_ _)); refine blk_put (cs := #[.bool false, .bool false, .bool false, .bool false, .bool false]) ?_ 0 _ rfl; (with_reducible repeat (first | refine blk_drewN ?_ _ | refine blk_drew ?_ | refine blk_alloc ?_ _)); exact BK399.out) Try.underlying41 rfl (by kernel_rfl)) rfl ?_
    exact ⟨by first | rfl | (simp [errW_none, errW_some] <;> rfl) | (simp [*, errW_none, errW_some] <;> rfl), by repeat (first | (with_reducible first | exact HB.out | apply below_alloc | apply pw_below_drewN | apply below_drew1 | refine below_set ?_ GE399.out) | exact HB.out)⟩

/-! ### whole_amount: function 78 -/
def whole_amount.f (a0 : Int) : Option (Int) := if a0 < 0 then (some (IntKind.u64.wrap (-(IntKind.u64.wrap (a0))))) else (some (IntKind.u64.wrap (a0)))
set_option maxHeartbeats 8000000 in
set_option maxRecDepth 100000 in
theorem whole_amount.calls (a0 : Int) (r : Int) (w : World) (h : whole_amount.f a0 = some r) :
    Calls Try.prog 78 #[.int .i64 a0] w fun e w' => e = .returned (.int .u64 r) ∧ Drawn0 w w' := by
  have H : (if a0 < 0 then (some (IntKind.u64.wrap (-(IntKind.u64.wrap (a0))))) else (some (IntKind.u64.wrap (a0)))) = some r := h
  clear h
  by_cases c2 : a0 < 0
  · rw [if_pos c2] at H
    have c2b0 : decide (a0 < 0) = true := decide_eq_true c2
    clear c2
    obtain rfl := Option.some.inj H
    go_enter Try.func78, Try.ntmps78
    go_wp2
    go_ret
    exact ⟨by first | rfl | (simp; done) | (simp [*]; done) | (congr 1; (try unfold wrap64); omega) | (congr 1; rw [IntKind.wrap_u64]; omega), by repeat (first | exact Drawn0.refl _ | apply Drawn0.step)⟩
  · rw [if_neg c2] at H
    have c2b0 : decide (a0 < 0) = false := decide_eq_false c2
    clear c2
    obtain rfl := Option.some.inj H
    go_enter Try.func78, Try.ntmps78
    go_wp2
    go_ret
    exact ⟨by first | rfl | (simp; done) | (simp [*]; done) | (congr 1; (try unfold wrap64); omega) | (congr 1; rw [IntKind.wrap_u64]; omega), by repeat (first | exact Drawn0.refl _ | apply Drawn0.step)⟩

/-! ### whole_FromInt: function 45 -/
def whole_FromInt.f (k : Nat) (a0 : Int) (a1 : Int) (a2 : Int) : Option (Int × Bool × Bool × Bool × Bool × Bool) := (whole_amount.f a2).bind fun t409 => ((round_Pack.f k a0 a1 (decide (a2 < 0)) 0 t409 false).bind fun bt410 => (some (bt410.1, bt410.2.1, bt410.2.2.1, bt410.2.2.2.1, bt410.2.2.2.2.1, bt410.2.2.2.2.2)))
theorem whole_FromInt.mono : ∀ a0 a1 a2 k, LeO (whole_FromInt.f k a0 a1 a2) (whole_FromInt.f (k + 1) a0 a1 a2) := by
  intro a0 a1 a2 k
  unfold whole_FromInt.f
  repeat' first
      | (with_reducible exact round_Pack.mono _ _ _ _ _ _ _)
      | (with_reducible exact LeO.refl _)
      | (with_reducible exact LeO.none _)
      | (with_reducible refine LeO.ite ?_ ?_)
      | (with_reducible refine LeO.bind ?_ (fun _ => ?_))
      | exact round_Pack.mono _ _ _ _ _ _ _
      | exact LeO.none _
      | refine LeO.ite ?_ ?_
      | refine LeO.bind ?_ (fun _ => ?_)
set_option maxHeartbeats 8000000 in
set_option maxRecDepth 100000 in
theorem whole_FromInt.calls (k : Nat) (a0 : Int) (a1 : Int) (a2 : Int) (r1 : Int) (r2 : Bool) (r3 : Bool) (r4 : Bool) (r5 : Bool) (r6 : Bool) (w : World) (h : whole_FromInt.f k a0 a1 a2 = some (r1, r2, r3, r4, r5, r6)) :
    Calls Try.prog 45 #[.int .i64 a0, .int .i64 a1, .int .i64 a2] w fun e w' => e = .returned (.tuple #[.int .u32 r1, .agg #[.bool r2, .bool r3, .bool r4, .bool r5, .bool r6]]) ∧ Below w.heap.size w w' := by
  have hu41 := Try.underlying41
  have HB := Aside0.mk (Below.refl w.heap.size w)
  have H : ((whole_amount.f a2).bind fun t409 => ((round_Pack.f k a0 a1 (decide (a2 < 0)) 0 t409 false).bind fun bt410 => (some (bt410.1, bt410.2.1, bt410.2.2.1, bt410.2.2.2.1, bt410.2.2.2.2.1, bt410.2.2.2.2.2)))) = some (r1, r2, r3, r4, r5, r6) := h
  clear h
  replace H := Option.bind_eq_some_iff.mp H
  obtain ⟨t409, A40, H⟩ := H
  replace H : ((round_Pack.f k a0 a1 (decide (a2 < 0)) 0 t409 false).bind fun bt410 => (some (bt410.1, bt410.2.1, bt410.2.2.1, bt410.2.2.2.1, bt410.2.2.2.2.1, bt410.2.2.2.2.2))) = some (r1, r2, r3, r4, r5, r6) := H
  have A4 := Aside0.mk A40
  clear A40
  replace H := Option.bind_eq_some_iff.mp H
  obtain ⟨⟨t410, t411, t412, t413, t414, t415⟩, A50, H⟩ := H
  replace H : (some (t410, t411, t412, t413, t414, t415)) = some (r1, r2, r3, r4, r5, r6) := H
  have A5 := Aside0.mk A50
  clear A50
  simp only [Option.some.injEq, Prod.mk.injEq] at H
  obtain ⟨rfl, rfl, rfl, rfl, rfl, rfl⟩ := H
  go_enter Try.func45, Try.ntmps45
  go_wp2_with (first | ((with_reducible refine gate_dst (N := 7) rfl ?_); refine box_event ?hg (N := 7) ?hd (cs := #[.bool false, .bool false, .bool false, .bool false, .bool false]) (t := 41) ?hr ?_; (case hd => rfl); (case hg => rfl); (case hr => first | (go_simp; done) | (go_simp; rfl)); intro gb408 hg w6 hbox hb; have n0_ := Aside0.mk (below_step (by repeat (first | (with_reducible first | exact HB.out | apply below_alloc | apply pw_below_drewN | apply below_drew1) | exact HB.out)) hb); have n1_ := Aside0.mk (hbox); have n2_ := Aside0.mk ((by rw [hg]; exact (below_size (by repeat (first | (with_reducible first | exact HB.out | apply below_alloc | apply pw_below_drewN | apply below_drew1) | exact HB.out))) : w.heap.size ≤ gb408)); have n3_ := Aside0.mk ((by rw [hg]; exact (below_size (by repeat (first | (with_reducible first | exact HB.out | apply below_alloc | apply pw_below_drewN | apply below_drew1) | exact HB.out))) : w.heap.size ≤ gb408)); clear HB; have HB := n0_; have BK408 := n1_; have GW408 := n2_; have GE408 := n3_; clear n0_ n1_ n2_ n3_; clear hb hbox hg) | ((with_reducible refine gate_callee (f := 78) rfl ?_); refine goesL_ (some 13) rfl rfl Try.func78 (by kernel_rfl) rfl #[.int .i64 a2] rfl (by (try simp only [List.map_toArray, List.map_cons, List.map_nil]); first | done | rfl | (simp only [List.length_drop, List.length_take]; rfl)) ?_; (with_reducible refine (whole_amount.calls a2 t409 _ A4.out).mono ?_); rintro e w' ⟨rfl, ⟨nd, rfl⟩⟩; refine ⟨_, rfl, ?_⟩; (try (rw [drewN_self w6]; generalize hq_ : World.drewN w6 _ = w6; have n0_ : Aside0 (w6.heap[gb408]? = some (.cells #[.bool false, .bool false, .bool false, .bool false, .bool false] 41 (0, 0))) := ⟨by rw [← hq_]; exact (by (with_reducible repeat (first | refine blk_drewN ?_ _ | refine blk_drew ?_ | refine blk_alloc ?_ _)); exact BK408.out)⟩; have n1_ : Aside0 (Below w.heap.size w w6) := ⟨by rw [← hq_]; exact (by repeat (first | (with_reducible first | exact HB.out | apply below_alloc | apply pw_below_drewN | apply below_drew1 | refine below_set ?_ GE408.out) | exact HB.out))⟩; clear BK408 HB hq_; have BK408 := n0_; have HB := n1_; clear n0_ n1_))) | ((with_reducible refine gate_callee (f := 51) rfl ?_); refine goesL_ (some 14) rfl rfl Try.func51 (by kernel_rfl) rfl #[.int .i64 a0, .int .i64 a1, .bool (decide (a2 < 0)), .int .i64 0, .int .u64 t409, .bool false] rfl (by (try simp only [List.map_toArray, List.map_cons, List.map_nil]); first | done | rfl | (simp only [List.length_drop, List.length_take]; rfl)) ?_; (with_reducible refine (round_Pack.calls k a0 a1 (decide (a2 < 0)) 0 t409 false t410 t411 t412 t413 t414 t415 _ A5.out).mono ?_); rintro e w7 ⟨rfl, hb⟩; refine ⟨_, rfl, ?_⟩; have n0_ := Aside0.mk (blk_below (g := gb408) (o := .cells #[.bool false, .bool false, .bool false, .bool false, .bool false] 41 (0, 0)) (by (with_reducible repeat (first | refine blk_drewN ?_ _ | refine blk_drew ?_ | refine blk_alloc ?_ _)); exact BK408.out) hb); have n1_ := Aside0.mk (below_step (by repeat (first | (with_reducible first | exact HB.out | apply below_alloc | apply pw_below_drewN | apply below_drew1 | refine below_set ?_ GE408.out) | exact HB.out)) hb); clear BK408; clear HB; have BK408 := n0_; have HB := n1_; clear n0_ n1_; (try clear hb); (try clear hb2); (try clear hk); (try clear hi); have hcz8_0 : w7.cell? ⟨gb408, 0, none⟩ = some (.bool false) := (blk_cell BK408.out 0).trans rfl; have hcz8_1 : w7.cell? ⟨gb408, 1, none⟩ = some (.bool false) := (blk_cell BK408.out 1).trans rfl; have hcz8_2 : w7.cell? ⟨gb408, 2, none⟩ = some (.bool false) := (blk_cell BK408.out 2).trans rfl; have hcz8_3 : w7.cell? ⟨gb408, 3, none⟩ = some (.bool false) := (blk_cell BK408.out 3).trans rfl; have hcz8_4 : w7.cell? ⟨gb408, 4, none⟩ = some (.bool false) := (blk_cell BK408.out 4).trans rfl; have hfz8_0 := blk_frozen BK408.out 0; have hfz8_1 := blk_frozen BK408.out 1; have hfz8_2 := blk_frozen BK408.out 2; have hfz8_3 := blk_frozen BK408.out 3; have hfz8_4 := blk_frozen BK408.out 4))
  refine bodyPost_ret (results_tc rfl _ _ gb408 41 #[.bool t411, .bool t412, .bool t413, .bool t414, .bool t415] (0, 0) _ rfl (by (with_reducible repeat (first | refine blk_drewN ?_ _ | refine blk_drew ?_ | refine blk_alloc ?_ _)); refine blk_put (cs := #[.bool t411, .bool t412, .bool t413, .bool t414, .bool false]) ?_ 4 _ rfl; (with_reducible repeat (first | refine blk_drewN ?_ _ | refine blk_drew ?_ | refine blk_alloc ?_ _)); refine blk_put (cs := #[.bool t411, .bool t412, .bool t413, .bool false, .bool false]) ?_ 3 _ rfl; (with_reducible repeat (first | refine blk_drewN ?_ _ | refine blk_drew ?_ | refine blk_alloc ?_ _)); refine blk_put (cs := #[.bool t411, .bool t412, .bool false, .bool false, .bool false]) ?_ 2 _ rfl; (with_reducible repeat (first | refine blk_drewN ?_ _ | refine blk_drew ?_ | refine blk_alloc ?_ _)); refine blk_put (cs := #[.bool t411, .bool false, .bool false, .bool false, .bool false]) ?_ 1 _ rfl; (with_reducible repeat (first | refine blk_drewN ?_ _ | refine blk_drew ?_ | refine blk_alloc ?_ _)); refine blk_put (cs := #[.bool false, .bool false, .bool false, .bool false, .bool false]) ?_ 0 _ rfl; (with_reducible repeat (first | refine blk_drewN ?_ _ | refine blk_drew ?_ | refine blk_alloc ?_ _)); exact BK408.out) Try.underlying41 rfl (by kernel_rfl)) rfl ?_
  exact ⟨by first | rfl | (simp [errW_none, errW_some] <;> rfl) | (simp [*, errW_none, errW_some] <;> rfl), by repeat (first | (with_reducible first | exact HB.out | apply below_alloc | apply pw_below_drewN | apply below_drew1 | refine below_set ?_ GE408.out) | exact HB.out)⟩

end Go.Proofs.Ytngkpekmgahjiaa.P
