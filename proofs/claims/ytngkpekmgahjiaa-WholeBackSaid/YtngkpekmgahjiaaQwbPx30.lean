import Derived.Test.YtngkpekmgahjiaaQwbM1
import Derived.Test.YtngkpekmgahjiaaQwbPx28
import Derived.Test.YtngkpekmgahjiaaQwbM4
-- Printed by a program of this session's out of Lean's print of the translation; Lean checks it.
namespace Go.Proofs.Ytngkpekmgahjiaa.P
open Go.RowKit Go.Proofs.YtngkpekmgahjiaaW.PrintWords Go.Proofs.YtngkpekmgahjiaaW.PrintLast Go.Proofs.YtngkpekmgahjiaaW.PrintMore
attribute [local go_sem] max2_int min2_int max_two min_two max_three min_three max_four min_four   -- for this text's walks alone
set_option linter.unusedVariables false
set_option linter.unusedSimpArgs false

attribute [local go_sem high] eqA41
/-! ### anneallaw8_known: function 25 -/
def anneallaw8_known.j0 : Nat → Bool → Option (Bool)
  | 0, _ => none
  | k + 1, x0 => some x0
def anneallaw8_known.f (k : Nat)  : Option (Bool) := (whole_ToInt.f k 2 0 1075838976).bind fun bt416 => ((whole_FromInt.f k 0 0 (-3)).bind fun bt423 => ((whole_Scale.f k 2 0 1065353216 3).bind fun bt430 => (if bt416.1 = 2 then (if (!bt416.2.1 && (!bt416.2.2.1 && (!bt416.2.2.2.1 && (!bt416.2.2.2.2.1 && (bt416.2.2.2.2.2))))) = true then (if bt423.1 = 49664 then (if (!bt423.2.1 && (!bt423.2.2.1 && (!bt423.2.2.2.1 && (!bt423.2.2.2.2.1 && (!bt423.2.2.2.2.2))))) = true then (anneallaw8_known.j0 k (bt430.1 == 1090519040)) else (anneallaw8_known.j0 k false)) else (anneallaw8_known.j0 k false)) else (anneallaw8_known.j0 k false)) else (anneallaw8_known.j0 k false))))
theorem anneallaw8_known.mono_l : ∀ k, (∀ y0, LeO (anneallaw8_known.j0 k y0) (anneallaw8_known.j0 (k + 1) y0))
  | 0 => fun _ r h => by simp [anneallaw8_known.j0] at h
  | k + 1 => by
    have ih0 := anneallaw8_known.mono_l k
    · intro y0
      unfold anneallaw8_known.j0
      repeat' first
      | (with_reducible exact ih0 _)
      | (with_reducible exact whole_FromInt.mono _ _ _ _)
      | (with_reducible exact whole_Scale.mono _ _ _ _ _)
      | (with_reducible exact whole_ToInt.mono _ _ _ _)
      | (with_reducible exact LeO.refl _)
      | (with_reducible exact LeO.none _)
      | (with_reducible refine LeO.ite ?_ ?_)
      | (with_reducible refine LeO.bind ?_ (fun _ => ?_))
      | exact ih0 _
      | exact whole_FromInt.mono _ _ _ _
      | exact whole_Scale.mono _ _ _ _ _
      | exact whole_ToInt.mono _ _ _ _
      | exact LeO.none _
      | refine LeO.ite ?_ ?_
      | refine LeO.bind ?_ (fun _ => ?_)
theorem anneallaw8_known.mono : ∀ k, LeO (anneallaw8_known.f k ) (anneallaw8_known.f (k + 1) ) := by
  intro  k
  have ih0 := anneallaw8_known.mono_l k
  unfold anneallaw8_known.f
  repeat' first
      | (with_reducible exact ih0 _)
      | (with_reducible exact whole_FromInt.mono _ _ _ _)
      | (with_reducible exact whole_Scale.mono _ _ _ _ _)
      | (with_reducible exact whole_ToInt.mono _ _ _ _)
      | (with_reducible exact LeO.refl _)
      | (with_reducible exact LeO.none _)
      | (with_reducible refine LeO.ite ?_ ?_)
      | (with_reducible refine LeO.bind ?_ (fun _ => ?_))
      | exact ih0 _
      | exact whole_FromInt.mono _ _ _ _
      | exact whole_Scale.mono _ _ _ _ _
      | exact whole_ToInt.mono _ _ _ _
      | exact LeO.none _
      | refine LeO.ite ?_ ?_
      | refine LeO.bind ?_ (fun _ => ?_)
set_option maxHeartbeats 8000000 in
set_option maxRecDepth 100000 in
theorem anneallaw8_known.calls (k : Nat)  (r : Bool) (w : World) (h : anneallaw8_known.f k  = some r) :
    Calls Try.prog 25 #[] w fun e w' => e = .returned (.bool r) ∧ Below w.heap.size w w' := by
  have hu41 := Try.underlying41
  have HB := Aside0.mk (Below.refl w.heap.size w)
  have H : ((whole_ToInt.f k 2 0 1075838976).bind fun bt416 => ((whole_FromInt.f k 0 0 (-3)).bind fun bt423 => ((whole_Scale.f k 2 0 1065353216 3).bind fun bt430 => (if bt416.1 = 2 then (if (!bt416.2.1 && (!bt416.2.2.1 && (!bt416.2.2.2.1 && (!bt416.2.2.2.2.1 && (bt416.2.2.2.2.2))))) = true then (if bt423.1 = 49664 then (if (!bt423.2.1 && (!bt423.2.2.1 && (!bt423.2.2.2.1 && (!bt423.2.2.2.2.1 && (!bt423.2.2.2.2.2))))) = true then (anneallaw8_known.j0 k (bt430.1 == 1090519040)) else (anneallaw8_known.j0 k false)) else (anneallaw8_known.j0 k false)) else (anneallaw8_known.j0 k false)) else (anneallaw8_known.j0 k false))))) = some r := h
  clear h
  replace H := Option.bind_eq_some_iff.mp H
  obtain ⟨⟨t416, t417, t418, t419, t420, t421⟩, A10, H⟩ := H
  replace H : ((whole_FromInt.f k 0 0 (-3)).bind fun bt423 => ((whole_Scale.f k 2 0 1065353216 3).bind fun bt430 => (if t416 = 2 then (if (!t417 && (!t418 && (!t419 && (!t420 && (t421))))) = true then (if bt423.1 = 49664 then (if (!bt423.2.1 && (!bt423.2.2.1 && (!bt423.2.2.2.1 && (!bt423.2.2.2.2.1 && (!bt423.2.2.2.2.2))))) = true then (anneallaw8_known.j0 k (bt430.1 == 1090519040)) else (anneallaw8_known.j0 k false)) else (anneallaw8_known.j0 k false)) else (anneallaw8_known.j0 k false)) else (anneallaw8_known.j0 k false)))) = some r := H
  have A1 := Aside0.mk A10
  clear A10
  replace H := Option.bind_eq_some_iff.mp H
  obtain ⟨⟨t423, t424, t425, t426, t427, t428⟩, A20, H⟩ := H
  replace H : ((whole_Scale.f k 2 0 1065353216 3).bind fun bt430 => (if t416 = 2 then (if (!t417 && (!t418 && (!t419 && (!t420 && (t421))))) = true then (if t423 = 49664 then (if (!t424 && (!t425 && (!t426 && (!t427 && (!t428))))) = true then (anneallaw8_known.j0 k (bt430.1 == 1090519040)) else (anneallaw8_known.j0 k false)) else (anneallaw8_known.j0 k false)) else (anneallaw8_known.j0 k false)) else (anneallaw8_known.j0 k false))) = some r := H
  have A2 := Aside0.mk A20
  clear A20
  replace H := Option.bind_eq_some_iff.mp H
  obtain ⟨⟨t430, t431, t432, t433, t434, t435⟩, A30, H⟩ := H
  replace H : (if t416 = 2 then (if (!t417 && (!t418 && (!t419 && (!t420 && (t421))))) = true then (if t423 = 49664 then (if (!t424 && (!t425 && (!t426 && (!t427 && (!t428))))) = true then (anneallaw8_known.j0 k (t430 == 1090519040)) else (anneallaw8_known.j0 k false)) else (anneallaw8_known.j0 k false)) else (anneallaw8_known.j0 k false)) else (anneallaw8_known.j0 k false)) = some r := H
  have A3 := Aside0.mk A30
  clear A30
  have HC4 := Aside0.mk H
  clear H
  go_enter Try.func25, Try.ntmps25
  go_upto_region 4 with (first | ((with_reducible refine gate_callee (f := 32) rfl ?_); refine goesL_ (some 8) rfl rfl Try.func32 (by kernel_rfl) rfl #[.int .i64 2, .int .i64 0, .int .u32 1075838976] rfl (by (try simp only [List.map_toArray, List.map_cons, List.map_nil]); first | done | rfl | (simp only [List.length_drop, List.length_take]; rfl)) ?_; (with_reducible refine (whole_ToInt.calls k 2 0 1075838976 t416 t417 t418 t419 t420 t421 _ A1.out).mono ?_); rintro e w5 ⟨rfl, hb⟩; refine ⟨_, rfl, ?_⟩; have n0_ := Aside0.mk (below_step (by repeat (first | (with_reducible first | exact HB.out | apply below_alloc | apply pw_below_drewN | apply below_drew1) | exact HB.out)) hb); clear HB; have HB := n0_; clear n0_; (try clear hb); (try clear hb2); (try clear hk); (try clear hi)) | ((with_reducible refine gate_dst (N := 2) rfl ?_); refine box_event ?hg (N := 2) ?hd (cs := #[.bool false, .bool false, .bool false, .bool false, .bool false]) (t := 41) ?hr ?_; (case hd => rfl); (case hg => rfl); (case hr => first | (go_simp; done) | (go_simp; rfl)); intro gb422 hg w6 hbox hb; have n0_ := Aside0.mk (below_step (by repeat (first | (with_reducible first | exact HB.out | apply below_alloc | apply pw_below_drewN | apply below_drew1) | exact HB.out)) hb); have n1_ := Aside0.mk (hbox); have n2_ := Aside0.mk ((by rw [hg]; exact (below_size (by repeat (first | (with_reducible first | exact HB.out | apply below_alloc | apply pw_below_drewN | apply below_drew1) | exact HB.out))) : w.heap.size ≤ gb422)); have n3_ := Aside0.mk ((by rw [hg]; exact (below_size (by repeat (first | (with_reducible first | exact HB.out | apply below_alloc | apply pw_below_drewN | apply below_drew1) | exact HB.out))) : w.heap.size ≤ gb422)); clear HB; have HB := n0_; have BK422 := n1_; have GW422 := n2_; have GE422 := n3_; clear n0_ n1_ n2_ n3_; clear hb hbox hg; have hcz7_0 : w6.cell? ⟨gb422, 0, none⟩ = some (.bool false) := (blk_cell BK422.out 0).trans rfl; have hcz7_1 : w6.cell? ⟨gb422, 1, none⟩ = some (.bool false) := (blk_cell BK422.out 1).trans rfl; have hcz7_2 : w6.cell? ⟨gb422, 2, none⟩ = some (.bool false) := (blk_cell BK422.out 2).trans rfl; have hcz7_3 : w6.cell? ⟨gb422, 3, none⟩ = some (.bool false) := (blk_cell BK422.out 3).trans rfl; have hcz7_4 : w6.cell? ⟨gb422, 4, none⟩ = some (.bool false) := (blk_cell BK422.out 4).trans rfl; have hfz7_0 := blk_frozen BK422.out 0; have hfz7_1 := blk_frozen BK422.out 1; have hfz7_2 := blk_frozen BK422.out 2; have hfz7_3 := blk_frozen BK422.out 3; have hfz7_4 := blk_frozen BK422.out 4) | ((with_reducible refine gate_callee (f := 45) rfl ?_); refine goesL_ (some 12) rfl rfl Try.func45 (by kernel_rfl) rfl #[.int .i64 0, .int .i64 0, .int .i64 (-3)] rfl (by (try simp only [List.map_toArray, List.map_cons, List.map_nil]); first | done | rfl | (simp only [List.length_drop, List.length_take]; rfl)) ?_; (with_reducible refine (whole_FromInt.calls k 0 0 (-3) t423 t424 t425 t426 t427 t428 _ A2.out).mono ?_); rintro e w8 ⟨rfl, hb⟩; refine ⟨_, rfl, ?_⟩; have n0_ := Aside0.mk (blk_below (g := gb422) (o := .cells #[.bool t417, .bool t418, .bool t419, .bool t420, .bool t421] 41 (0, 0)) (by (with_reducible repeat (first | refine blk_drewN ?_ _ | refine blk_drew ?_ | refine blk_alloc ?_ _)); refine blk_put (cs := #[.bool t417, .bool t418, .bool t419, .bool t420, .bool false]) ?_ 4 _ rfl; (with_reducible repeat (first | refine blk_drewN ?_ _ | refine blk_drew ?_ | refine blk_alloc ?_ _)); refine blk_put (cs := #[.bool t417, .bool t418, .bool t419, .bool false, .bool false]) ?_ 3 _ rfl; (with_reducible repeat (first | refine blk_drewN ?_ _ | refine blk_drew ?_ | refine blk_alloc ?_ _)); refine blk_put (cs := #[.bool t417, .bool t418, .bool false, .bool false, .bool false]) ?_ 2 _ rfl; (with_reducible repeat (first | refine blk_drewN ?_ _ | refine blk_drew ?_ | refine blk_alloc ?_ _)); refine blk_put (cs := #[.bool t417, .bool false, .bool false, .bool false, .bool false]) ?_ 1 _ rfl; (with_reducible repeat (first | refine blk_drewN ?_ _ | refine blk_drew ?_ | refine blk_alloc ?_ _)); refine blk_put (cs := #[.bool false, .bool false, .bool false, .bool false, .bool false]) ?_ 0 _ rfl; (with_reducible repeat (first | refine blk_drewN ?_ _ | refine blk_drew ?_ | refine blk_alloc ?_ _)); exact BK422.out) hb); have n1_ := Aside0.mk (below_step (by repeat (first | (with_reducible first | exact HB.out | apply below_alloc | apply pw_below_drewN | apply below_drew1 | refine below_set ?_ GE422.out) | exact HB.out)) hb); clear BK422; clear HB; have BK422 := n0_; have HB := n1_; clear n0_ n1_; (try clear hb); (try clear hb2); (try clear hk); (try clear hi)) | ((with_reducible refine gate_dst (N := 4) rfl ?_); refine box_event ?hg (N := 4) ?hd (cs := #[.bool false, .bool false, .bool false, .bool false, .bool false]) (t := 41) ?hr ?_; (case hd => rfl); (case hg => rfl); (case hr => first | (go_simp; done) | (go_simp; rfl)); intro gb429 hg w9 hbox hb; have n0_ := Aside0.mk (blk_below (g := gb422) (o := .cells #[.bool t417, .bool t418, .bool t419, .bool t420, .bool t421] 41 (0, 0)) (by (with_reducible repeat (first | refine blk_drewN ?_ _ | refine blk_drew ?_ | refine blk_alloc ?_ _)); exact BK422.out) hb); have n1_ := Aside0.mk (below_step (by repeat (first | (with_reducible first | exact HB.out | apply below_alloc | apply pw_below_drewN | apply below_drew1 | refine below_set ?_ GE422.out) | exact HB.out)) hb); have n2_ := Aside0.mk (hbox); have n3_ := Aside0.mk ((by rw [hg]; exact (below_size (by repeat (first | (with_reducible first | exact HB.out | apply below_alloc | apply pw_below_drewN | apply below_drew1 | refine below_set ?_ GE422.out) | exact HB.out))) : w.heap.size ≤ gb429)); have n4_ := Aside0.mk ((by rw [hg]; exact (below_size (by repeat (first | (with_reducible first | exact HB.out | apply below_alloc | apply pw_below_drewN | apply below_drew1 | refine below_set ?_ GE422.out) | exact HB.out))) : w.heap.size ≤ gb429)); have n5_ := Aside0.mk ((by rw [hg]; exact Nat.ne_of_lt (blk_lt (g := gb422) (o := .cells #[.bool t417, .bool t418, .bool t419, .bool t420, .bool t421] 41 (0, 0)) (by (with_reducible repeat (first | refine blk_drewN ?_ _ | refine blk_drew ?_ | refine blk_alloc ?_ _)); exact BK422.out)) : gb422 ≠ gb429)); have n6_ := Aside0.mk ((by rw [hg]; exact Nat.ne_of_gt (blk_lt (g := gb422) (o := .cells #[.bool t417, .bool t418, .bool t419, .bool t420, .bool t421] 41 (0, 0)) (by (with_reducible repeat (first | refine blk_drewN ?_ _ | refine blk_drew ?_ | refine blk_alloc ?_ _)); exact BK422.out)) : gb429 ≠ gb422)); clear BK422; clear HB; have BK422 := n0_; have HB := n1_; have BK429 := n2_; have GW429 := n3_; have GE429 := n4_; have NB422_429 := n5_; have NB429_422 := n6_; clear n0_ n1_ n2_ n3_ n4_ n5_ n6_; clear hb hbox hg; have hnb10 := NB429_422.out; have hnc10 := NB422_429.out; have hcz11_0 : w9.cell? ⟨gb429, 0, none⟩ = some (.bool false) := (blk_cell BK429.out 0).trans rfl; have hcz11_1 : w9.cell? ⟨gb429, 1, none⟩ = some (.bool false) := (blk_cell BK429.out 1).trans rfl; have hcz11_2 : w9.cell? ⟨gb429, 2, none⟩ = some (.bool false) := (blk_cell BK429.out 2).trans rfl; have hcz11_3 : w9.cell? ⟨gb429, 3, none⟩ = some (.bool false) := (blk_cell BK429.out 3).trans rfl; have hcz11_4 : w9.cell? ⟨gb429, 4, none⟩ = some (.bool false) := (blk_cell BK429.out 4).trans rfl; have hfz11_0 := blk_frozen BK429.out 0; have hfz11_1 := blk_frozen BK429.out 1; have hfz11_2 := blk_frozen BK429.out 2; have hfz11_3 := blk_frozen BK429.out 3; have hfz11_4 := blk_frozen BK429.out 4) | ((with_reducible refine gate_callee (f := 28) rfl ?_); refine goesL_ (some 16) rfl rfl Try.func28 (by kernel_rfl) rfl #[.int .i64 2, .int .i64 0, .int .u32 1065353216, .int .i64 3] rfl (by (try simp only [List.map_toArray, List.map_cons, List.map_nil]); first | done | rfl | (simp only [List.length_drop, List.length_take]; rfl)) ?_; (with_reducible refine (whole_Scale.calls k 2 0 1065353216 3 t430 t431 t432 t433 t434 t435 _ A3.out).mono ?_); rintro e w12 ⟨rfl, hb⟩; refine ⟨_, rfl, ?_⟩; have n0_ := Aside0.mk (blk_below (g := gb422) (o := .cells #[.bool t417, .bool t418, .bool t419, .bool t420, .bool t421] 41 (0, 0)) (by (with_reducible repeat (first | refine blk_drewN ?_ _ | refine blk_drew ?_ | refine blk_alloc ?_ _)); refine blk_far ?_ NB422_429.out _; (with_reducible repeat (first | refine blk_drewN ?_ _ | refine blk_drew ?_ | refine blk_alloc ?_ _)); refine blk_far ?_ NB422_429.out _; (with_reducible repeat (first | refine blk_drewN ?_ _ | refine blk_drew ?_ | refine blk_alloc ?_ _)); refine blk_far ?_ NB422_429.out _; (with_reducible repeat (first | refine blk_drewN ?_ _ | refine blk_drew ?_ | refine blk_alloc ?_ _)); refine blk_far ?_ NB422_429.out _; (with_reducible repeat (first | refine blk_drewN ?_ _ | refine blk_drew ?_ | refine blk_alloc ?_ _)); refine blk_far ?_ NB422_429.out _; (with_reducible repeat (first | refine blk_drewN ?_ _ | refine blk_drew ?_ | refine blk_alloc ?_ _)); exact BK422.out) hb); have n1_ := Aside0.mk (blk_below (g := gb429) (o := .cells #[.bool t424, .bool t425, .bool t426, .bool t427, .bool t428] 41 (0, 0)) (by (with_reducible repeat (first | refine blk_drewN ?_ _ | refine blk_drew ?_ | refine blk_alloc ?_ _)); refine blk_put (cs := #[.bool t424, .bool t425, .bool t426, .bool t427, .bool false]) ?_ 4 _ rfl; (with_reducible repeat (first | refine blk_drewN ?_ _ | refine blk_drew ?_ | refine blk_alloc ?_ _)); refine blk_put (cs := #[.bool t424, .bool t425, .bool t426, .bool false, .bool false]) ?_ 3 _ rfl; (with_reducible repeat (first | refine blk_drewN ?_ _ | refine blk_drew ?_ | refine blk_alloc ?_ _)); refine blk_put (cs := #[.bool t424, .bool t425, .bool false, .bool false, .bool false]) ?_ 2 _ rfl; (with_reducible repeat (first | refine blk_drewN ?_ _ | refine blk_drew ?_ | refine blk_alloc ?_ _)); refine blk_put (cs := #[.bool t424, .bool false, .bool false, .bool false, .bool false]) ?_ 1 _ rfl; (with_reducible repeat (first | refine blk_drewN ?_ _ | refine blk_drew ?_ | refine blk_alloc ?_ _)); refine blk_put (cs := #[.bool false, .bool false, .bool false, .bool false, .bool false]) ?_ 0 _ rfl; (with_reducible repeat (first | refine blk_drewN ?_ _ | refine blk_drew ?_ | refine blk_alloc ?_ _)); exact BK429.out) hb); have n2_ := Aside0.mk (below_step (by repeat (first | (with_reducible first | exact HB.out | apply below_alloc | apply pw_below_drewN | apply below_drew1 | refine below_set ?_ GE422.out | refine below_set ?_ GE429.out) | exact HB.out)) hb); clear BK422; clear BK429; clear HB; have BK422 := n0_; have BK429 := n1_; have HB := n2_; clear n0_ n1_ n2_; (try clear hb); (try clear hb2); (try clear hk); (try clear hi)) | ((with_reducible refine gate_dst (N := 6) rfl ?_); refine box_event ?hg (N := 6) ?hd (cs := #[.bool false, .bool false, .bool false, .bool false, .bool false]) (t := 41) ?hr ?_; (case hd => rfl); (case hg => rfl); (case hr => first | (go_simp; done) | (go_simp; rfl)); intro gb436 hg w13 hbox hb; have n0_ := Aside0.mk (blk_below (g := gb422) (o := .cells #[.bool t417, .bool t418, .bool t419, .bool t420, .bool t421] 41 (0, 0)) (by (with_reducible repeat (first | refine blk_drewN ?_ _ | refine blk_drew ?_ | refine blk_alloc ?_ _)); exact BK422.out) hb); have n1_ := Aside0.mk (blk_below (g := gb429) (o := .cells #[.bool t424, .bool t425, .bool t426, .bool t427, .bool t428] 41 (0, 0)) (by (with_reducible repeat (first | refine blk_drewN ?_ _ | refine blk_drew ?_ | refine blk_alloc ?_ _)); exact BK429.out) hb); have n2_ := Aside0.mk (below_step (by repeat (first | (with_reducible first | exact HB.out | apply below_alloc | apply pw_below_drewN | apply below_drew1 | refine below_set ?_ GE422.out | refine below_set ?_ GE429.out) | exact HB.out)) hb); have n3_ := Aside0.mk (hbox); have n4_ := Aside0.mk ((by rw [hg]; exact (below_size (by repeat (first | (with_reducible first | exact HB.out | apply below_alloc | apply pw_below_drewN | apply below_drew1 | refine below_set ?_ GE422.out | refine below_set ?_ GE429.out) | exact HB.out))) : w.heap.size ≤ gb436)); have n5_ := Aside0.mk ((by rw [hg]; exact (below_size (by repeat (first | (with_reducible first | exact HB.out | apply below_alloc | apply pw_below_drewN | apply below_drew1 | refine below_set ?_ GE422.out | refine below_set ?_ GE429.out) | exact HB.out))) : w.heap.size ≤ gb436)); have n6_ := Aside0.mk ((by rw [hg]; exact Nat.ne_of_lt (blk_lt (g := gb422) (o := .cells #[.bool t417, .bool t418, .bool t419, .bool t420, .bool t421] 41 (0, 0)) (by (with_reducible repeat (first | refine blk_drewN ?_ _ | refine blk_drew ?_ | refine blk_alloc ?_ _)); exact BK422.out)) : gb422 ≠ gb436)); have n7_ := Aside0.mk ((by rw [hg]; exact Nat.ne_of_gt (blk_lt (g := gb422) (o := .cells #[.bool t417, .bool t418, .bool t419, .bool t420, .bool t421] 41 (0, 0)) (by (with_reducible repeat (first | refine blk_drewN ?_ _ | refine blk_drew ?_ | refine blk_alloc ?_ _)); exact BK422.out)) : gb436 ≠ gb422)); have n8_ := Aside0.mk ((by rw [hg]; exact Nat.ne_of_lt (blk_lt (g := gb429) (o := .cells #[.bool t424, .bool t425, .bool t426, .bool t427, .bool t428] 41 (0, 0)) (by (with_reducible repeat (first | refine blk_drewN ?_ _ | refine blk_drew ?_ | refine blk_alloc ?_ _)); exact BK429.out)) : gb429 ≠ gb436)); have n9_ := Aside0.mk ((by rw [hg]; exact Nat.ne_of_gt (blk_lt (g := gb429) (o := .cells #[.bool t424, .bool t425, .bool t426, .bool t427, .bool t428] 41 (0, 0)) (by (with_reducible repeat (first | refine blk_drewN ?_ _ | refine blk_drew ?_ | refine blk_alloc ?_ _)); exact BK429.out)) : gb436 ≠ gb429)); clear BK422; clear BK429; clear HB; have BK422 := n0_; have BK429 := n1_; have HB := n2_; have BK436 := n3_; have GW436 := n4_; have GE436 := n5_; have NB422_436 := n6_; have NB436_422 := n7_; have NB429_436 := n8_; have NB436_429 := n9_; clear n0_ n1_ n2_ n3_ n4_ n5_ n6_ n7_ n8_ n9_; clear hb hbox hg; have hnb14 := NB436_422.out; have hnc14 := NB422_436.out; have hnb15 := NB436_429.out; have hnc15 := NB429_436.out; have hcz16_0 : w13.cell? ⟨gb436, 0, none⟩ = some (.bool false) := (blk_cell BK436.out 0).trans rfl; have hcz16_1 : w13.cell? ⟨gb436, 1, none⟩ = some (.bool false) := (blk_cell BK436.out 1).trans rfl; have hcz16_2 : w13.cell? ⟨gb436, 2, none⟩ = some (.bool false) := (blk_cell BK436.out 2).trans rfl; have hcz16_3 : w13.cell? ⟨gb436, 3, none⟩ = some (.bool false) := (blk_cell BK436.out 3).trans rfl; have hcz16_4 : w13.cell? ⟨gb436, 4, none⟩ = some (.bool false) := (blk_cell BK436.out 4).trans rfl; have hfz16_0 := blk_frozen BK436.out 0; have hfz16_1 := blk_frozen BK436.out 1; have hfz16_2 := blk_frozen BK436.out 2; have hfz16_3 := blk_frozen BK436.out 3; have hfz16_4 := blk_frozen BK436.out 4))
  (try simp only [Act.put, List.setIfInBounds_toArray, List.set_cons_zero, List.set_cons_succ])
  go_cut [0] (fun v0 wc => ∃ (kq : Nat) (x0_3 : Bool), v0 = .bool x0_3 ∧ Aside0 (anneallaw8_known.j0 kq x0_3 = some r) ∧ Aside0 (kq ≤ k) ∧ Aside0 (wc.heap[gb422]? = some (.cells #[.bool t417, .bool t418, .bool t419, .bool t420, .bool t421] 41 (0, 0))) ∧ Aside0 (wc.heap[gb429]? = some (.cells #[.bool t424, .bool t425, .bool t426, .bool t427, .bool t428] 41 (0, 0))) ∧ Aside0 (wc.heap[gb436]? = some (.cells #[.bool t431, .bool t432, .bool t433, .bool t434, .bool t435] 41 (0, 0))) ∧ Aside0 (Below w.heap.size w wc))
  case first =>
    have H := HC4.out
    clear HC4
    by_cases c17 : t416 = 2
    · rw [if_pos c17] at H
      have c17b0 : (t416 == 2) = true := beq_iff_eq.mpr c17
      have c17b1 : (t416 != 2) = false := bne_eq_false_iff_eq.mpr c17
      clear c17
      (first | rw [c17b0] | (simp only [i64_w, i32_w]; rw [c17b0]) | skip)
      by_cases c18 : (!t417 && (!t418 && (!t419 && (!t420 && (t421))))) = true
      · rw [if_pos c18] at H
        have c18b0 : (!t417 && (!t418 && (!t419 && (!t420 && (t421))))) = true := c18
        clear c18
        by_cases c19 : t423 = 49664
        · rw [if_pos c19] at H
          have c19b0 : (t423 == 49664) = true := beq_iff_eq.mpr c19
          have c19b1 : (t423 != 49664) = false := bne_eq_false_iff_eq.mpr c19
          clear c19
          by_cases c20 : (!t424 && (!t425 && (!t426 && (!t427 && (!t428))))) = true
          · rw [if_pos c20] at H
            have c20b0 : (!t424 && (!t425 && (!t426 && (!t427 && (!t428))))) = true := c20
            clear c20
            have H' := Aside0.mk H
            clear H
            have hnb21 := NB422_429.out
            have hnc21 := NB429_422.out
            have hnb22 := NB422_436.out
            have hnc22 := NB436_422.out
            have hcz23_0 : w13.cell? ⟨gb422, 0, none⟩ = some (.bool t417) := (blk_cell BK422.out 0).trans rfl
            have hcz23_1 : w13.cell? ⟨gb422, 1, none⟩ = some (.bool t418) := (blk_cell BK422.out 1).trans rfl
            have hcz23_2 : w13.cell? ⟨gb422, 2, none⟩ = some (.bool t419) := (blk_cell BK422.out 2).trans rfl
            have hcz23_3 : w13.cell? ⟨gb422, 3, none⟩ = some (.bool t420) := (blk_cell BK422.out 3).trans rfl
            have hcz23_4 : w13.cell? ⟨gb422, 4, none⟩ = some (.bool t421) := (blk_cell BK422.out 4).trans rfl
            have hfz23_0 := blk_frozen BK422.out 0
            have hfz23_1 := blk_frozen BK422.out 1
            have hfz23_2 := blk_frozen BK422.out 2
            have hfz23_3 := blk_frozen BK422.out 3
            have hfz23_4 := blk_frozen BK422.out 4
            have hnb24 := NB429_436.out
            have hnc24 := NB436_429.out
            have hcz25_0 : w13.cell? ⟨gb429, 0, none⟩ = some (.bool t424) := (blk_cell BK429.out 0).trans rfl
            have hcz25_1 : w13.cell? ⟨gb429, 1, none⟩ = some (.bool t425) := (blk_cell BK429.out 1).trans rfl
            have hcz25_2 : w13.cell? ⟨gb429, 2, none⟩ = some (.bool t426) := (blk_cell BK429.out 2).trans rfl
            have hcz25_3 : w13.cell? ⟨gb429, 3, none⟩ = some (.bool t427) := (blk_cell BK429.out 3).trans rfl
            have hcz25_4 : w13.cell? ⟨gb429, 4, none⟩ = some (.bool t428) := (blk_cell BK429.out 4).trans rfl
            have hfz25_0 := blk_frozen BK429.out 0
            have hfz25_1 := blk_frozen BK429.out 1
            have hfz25_2 := blk_frozen BK429.out 2
            have hfz25_3 := blk_frozen BK429.out 3
            have hfz25_4 := blk_frozen BK429.out 4
            go_wp2
            go_meet
            case rel => exact ⟨_, ((t430 == 1090519040)), (by first | rfl | (simp; done) | (simp [*]; done) | (congr 1; (try unfold wrap64); omega) | (congr 1; rw [IntKind.wrap_u64]; omega)), H', ⟨by first | omega | exact Nat.le_refl _⟩, ⟨by (with_reducible repeat (first | refine blk_drewN ?_ _ | refine blk_drew ?_ | refine blk_alloc ?_ _)); refine blk_far ?_ NB422_436.out _; (with_reducible repeat (first | refine blk_drewN ?_ _ | refine blk_drew ?_ | refine blk_alloc ?_ _)); refine blk_far ?_ NB422_436.out _; (with_reducible repeat (first | refine blk_drewN ?_ _ | refine blk_drew ?_ | refine blk_alloc ?_ _)); refine blk_far ?_ NB422_436.out _; (with_reducible repeat (first | refine blk_drewN ?_ _ | refine blk_drew ?_ | refine blk_alloc ?_ _)); refine blk_far ?_ NB422_436.out _; (with_reducible repeat (first | refine blk_drewN ?_ _ | refine blk_drew ?_ | refine blk_alloc ?_ _)); refine blk_far ?_ NB422_436.out _; (with_reducible repeat (first | refine blk_drewN ?_ _ | refine blk_drew ?_ | refine blk_alloc ?_ _)); exact BK422.out⟩, ⟨by (with_reducible repeat (first | refine blk_drewN ?_ _ | refine blk_drew ?_ | refine blk_alloc ?_ _)); refine blk_far ?_ NB429_436.out _; (with_reducible repeat (first | refine blk_drewN ?_ _ | refine blk_drew ?_ | refine blk_alloc ?_ _)); refine blk_far ?_ NB429_436.out _; (with_reducible repeat (first | refine blk_drewN ?_ _ | refine blk_drew ?_ | refine blk_alloc ?_ _)); refine blk_far ?_ NB429_436.out _; (with_reducible repeat (first | refine blk_drewN ?_ _ | refine blk_drew ?_ | refine blk_alloc ?_ _)); refine blk_far ?_ NB429_436.out _; (with_reducible repeat (first | refine blk_drewN ?_ _ | refine blk_drew ?_ | refine blk_alloc ?_ _)); refine blk_far ?_ NB429_436.out _; (with_reducible repeat (first | refine blk_drewN ?_ _ | refine blk_drew ?_ | refine blk_alloc ?_ _)); exact BK429.out⟩, ⟨by (with_reducible repeat (first | refine blk_drewN ?_ _ | refine blk_drew ?_ | refine blk_alloc ?_ _)); refine blk_put (cs := #[.bool t431, .bool t432, .bool t433, .bool t434, .bool false]) ?_ 4 _ rfl; (with_reducible repeat (first | refine blk_drewN ?_ _ | refine blk_drew ?_ | refine blk_alloc ?_ _)); refine blk_put (cs := #[.bool t431, .bool t432, .bool t433, .bool false, .bool false]) ?_ 3 _ rfl; (with_reducible repeat (first | refine blk_drewN ?_ _ | refine blk_drew ?_ | refine blk_alloc ?_ _)); refine blk_put (cs := #[.bool t431, .bool t432, .bool false, .bool false, .bool false]) ?_ 2 _ rfl; (with_reducible repeat (first | refine blk_drewN ?_ _ | refine blk_drew ?_ | refine blk_alloc ?_ _)); refine blk_put (cs := #[.bool t431, .bool false, .bool false, .bool false, .bool false]) ?_ 1 _ rfl; (with_reducible repeat (first | refine blk_drewN ?_ _ | refine blk_drew ?_ | refine blk_alloc ?_ _)); refine blk_put (cs := #[.bool false, .bool false, .bool false, .bool false, .bool false]) ?_ 0 _ rfl; (with_reducible repeat (first | refine blk_drewN ?_ _ | refine blk_drew ?_ | refine blk_alloc ?_ _)); exact BK436.out⟩, ⟨by repeat (first | (with_reducible first | exact HB.out | apply below_alloc | apply pw_below_drewN | apply below_drew1 | refine below_set ?_ GE422.out | refine below_set ?_ GE429.out | refine below_set ?_ GE436.out) | exact HB.out)⟩⟩
          · rw [if_neg c20] at H
            have c20b0 : (!t424 && (!t425 && (!t426 && (!t427 && (!t428))))) = false := by simpa using c20
            clear c20
            have H' := Aside0.mk H
            clear H
            have hnb26 := NB422_429.out
            have hnc26 := NB429_422.out
            have hnb27 := NB422_436.out
            have hnc27 := NB436_422.out
            have hcz28_0 : w13.cell? ⟨gb422, 0, none⟩ = some (.bool t417) := (blk_cell BK422.out 0).trans rfl
            have hcz28_1 : w13.cell? ⟨gb422, 1, none⟩ = some (.bool t418) := (blk_cell BK422.out 1).trans rfl
            have hcz28_2 : w13.cell? ⟨gb422, 2, none⟩ = some (.bool t419) := (blk_cell BK422.out 2).trans rfl
            have hcz28_3 : w13.cell? ⟨gb422, 3, none⟩ = some (.bool t420) := (blk_cell BK422.out 3).trans rfl
            have hcz28_4 : w13.cell? ⟨gb422, 4, none⟩ = some (.bool t421) := (blk_cell BK422.out 4).trans rfl
            have hfz28_0 := blk_frozen BK422.out 0
            have hfz28_1 := blk_frozen BK422.out 1
            have hfz28_2 := blk_frozen BK422.out 2
            have hfz28_3 := blk_frozen BK422.out 3
            have hfz28_4 := blk_frozen BK422.out 4
            have hnb29 := NB429_436.out
            have hnc29 := NB436_429.out
            have hcz30_0 : w13.cell? ⟨gb429, 0, none⟩ = some (.bool t424) := (blk_cell BK429.out 0).trans rfl
            have hcz30_1 : w13.cell? ⟨gb429, 1, none⟩ = some (.bool t425) := (blk_cell BK429.out 1).trans rfl
            have hcz30_2 : w13.cell? ⟨gb429, 2, none⟩ = some (.bool t426) := (blk_cell BK429.out 2).trans rfl
            have hcz30_3 : w13.cell? ⟨gb429, 3, none⟩ = some (.bool t427) := (blk_cell BK429.out 3).trans rfl
            have hcz30_4 : w13.cell? ⟨gb429, 4, none⟩ = some (.bool t428) := (blk_cell BK429.out 4).trans rfl
            have hfz30_0 := blk_frozen BK429.out 0
            have hfz30_1 := blk_frozen BK429.out 1
            have hfz30_2 := blk_frozen BK429.out 2
            have hfz30_3 := blk_frozen BK429.out 3
            have hfz30_4 := blk_frozen BK429.out 4
            go_wp2
            go_meet
            case rel => exact ⟨_, (false), (by first | rfl | (simp; done) | (simp [*]; done) | (congr 1; (try unfold wrap64); omega) | (congr 1; rw [IntKind.wrap_u64]; omega)), H', ⟨by first | omega | exact Nat.le_refl _⟩, ⟨by (with_reducible repeat (first | refine blk_drewN ?_ _ | refine blk_drew ?_ | refine blk_alloc ?_ _)); refine blk_far ?_ NB422_436.out _; (with_reducible repeat (first | refine blk_drewN ?_ _ | refine blk_drew ?_ | refine blk_alloc ?_ _)); refine blk_far ?_ NB422_436.out _; (with_reducible repeat (first | refine blk_drewN ?_ _ | refine blk_drew ?_ | refine blk_alloc ?_ _)); refine blk_far ?_ NB422_436.out _; (with_reducible repeat (first | refine blk_drewN ?_ _ | refine blk_drew ?_ | refine blk_alloc ?_ _)); refine blk_far ?_ NB422_436.out _; (with_reducible repeat (first | refine blk_drewN ?_ _ | refine blk_drew ?_ | refine blk_alloc ?_ _)); refine blk_far ?_ NB422_436.out _; (with_reducible repeat (first | refine blk_drewN ?_ _ | refine blk_drew ?_ | refine blk_alloc ?_ _)); exact BK422.out⟩, ⟨by (with_reducible repeat (first | refine blk_drewN ?_ _ | refine blk_drew ?_ | refine blk_alloc ?_ _)); refine blk_far ?_ NB429_436.out _; (with_reducible repeat (first | refine blk_drewN ?_ _ | refine blk_drew ?_ | refine blk_alloc ?_ _)); refine blk_far ?_ NB429_436.out _; (with_reducible repeat (first | refine blk_drewN ?_ _ | refine blk_drew ?_ | refine blk_alloc ?_ _)); refine blk_far ?_ NB429_436.out _; (with_reducible repeat (first | refine blk_drewN ?_ _ | refine blk_drew ?_ | refine blk_alloc ?_ _)); refine blk_far ?_ NB429_436.out _; (with_reducible repeat (first | refine blk_drewN ?_ _ | refine blk_drew ?_ | refine blk_alloc ?_ _)); refine blk_far ?_ NB429_436.out _; (with_reducible repeat (first | refine blk_drewN ?_ _ | refine blk_drew ?_ | refine blk_alloc ?_ _)); exact BK429.out⟩, ⟨by (with_reducible repeat (first | refine blk_drewN ?_ _ | refine blk_drew ?_ | refine blk_alloc ?_ _)); refine blk_put (cs := #[.bool t431, .bool t432, .bool t433, .bool t434, .bool false]) ?_ 4 _ rfl; (with_reducible repeat (first | refine blk_drewN ?_ _ | refine blk_drew ?_ | refine blk_alloc ?_ _)); refine blk_put (cs := #[.bool t431, .bool t432, .bool t433, .bool false, .bool false]) ?_ 3 _ rfl; (with_reducible repeat (first | refine blk_drewN ?_ _ | refine blk_drew ?_ | refine blk_alloc ?_ _)); refine blk_put (cs := #[.bool t431, .bool t432, .bool false, .bool false, .bool false]) ?_ 2 _ rfl; (with_reducible repeat (first | refine blk_drewN ?_ _ | refine blk_drew ?_ | refine blk_alloc ?_ _)); refine blk_put (cs := #[.bool t431, .bool false, .bool false, .bool false, .bool false]) ?_ 1 _ rfl; (with_reducible repeat (first | refine blk_drewN ?_ _ | refine blk_drew ?_ | refine blk_alloc ?_ _)); refine blk_put (cs := #[.bool false, .bool false, .bool false, .bool false, .bool false]) ?_ 0 _ rfl; (with_reducible repeat (first | refine blk_drewN ?_ _ | refine blk_drew ?_ | refine blk_alloc ?_ _)); exact BK436.out⟩, ⟨by repeat (first | (with_reducible first | exact HB.out | apply below_alloc | apply pw_below_drewN | apply below_drew1 | refine below_set ?_ GE422.out | refine below_set ?_ GE429.out | refine below_set ?_ GE436.out) | exact HB.out)⟩⟩
        · rw [if_neg c19] at H
          have c19b0 : (t423 == 49664) = false := beq_eq_false_iff_ne.mpr c19
          have c19b1 : (t423 != 49664) = true := bne_iff_ne.mpr c19
          have H' := Aside0.mk H
          clear H
          have hnb31 := NB422_429.out
          have hnc31 := NB429_422.out
          have hnb32 := NB422_436.out
          have hnc32 := NB436_422.out
          have hcz33_0 : w13.cell? ⟨gb422, 0, none⟩ = some (.bool t417) := (blk_cell BK422.out 0).trans rfl
          have hcz33_1 : w13.cell? ⟨gb422, 1, none⟩ = some (.bool t418) := (blk_cell BK422.out 1).trans rfl
          have hcz33_2 : w13.cell? ⟨gb422, 2, none⟩ = some (.bool t419) := (blk_cell BK422.out 2).trans rfl
          have hcz33_3 : w13.cell? ⟨gb422, 3, none⟩ = some (.bool t420) := (blk_cell BK422.out 3).trans rfl
          have hcz33_4 : w13.cell? ⟨gb422, 4, none⟩ = some (.bool t421) := (blk_cell BK422.out 4).trans rfl
          have hfz33_0 := blk_frozen BK422.out 0
          have hfz33_1 := blk_frozen BK422.out 1
          have hfz33_2 := blk_frozen BK422.out 2
          have hfz33_3 := blk_frozen BK422.out 3
          have hfz33_4 := blk_frozen BK422.out 4
          go_wp2
          go_meet
          case rel => exact ⟨_, (false), (by first | rfl | (simp; done) | (simp [*]; done) | (congr 1; (try unfold wrap64); omega) | (congr 1; rw [IntKind.wrap_u64]; omega)), H', ⟨by first | omega | exact Nat.le_refl _⟩, ⟨by (with_reducible repeat (first | refine blk_drewN ?_ _ | refine blk_drew ?_ | refine blk_alloc ?_ _)); refine blk_far ?_ NB422_436.out _; (with_reducible repeat (first | refine blk_drewN ?_ _ | refine blk_drew ?_ | refine blk_alloc ?_ _)); refine blk_far ?_ NB422_436.out _; (with_reducible repeat (first | refine blk_drewN ?_ _ | refine blk_drew ?_ | refine blk_alloc ?_ _)); refine blk_far ?_ NB422_436.out _; (with_reducible repeat (first | refine blk_drewN ?_ _ | refine blk_drew ?_ | refine blk_alloc ?_ _)); refine blk_far ?_ NB422_436.out _; (with_reducible repeat (first | refine blk_drewN ?_ _ | refine blk_drew ?_ | refine blk_alloc ?_ _)); refine blk_far ?_ NB422_436.out _; (with_reducible repeat (first | refine blk_drewN ?_ _ | refine blk_drew ?_ | refine blk_alloc ?_ _)); exact BK422.out⟩, ⟨by (with_reducible repeat (first | refine blk_drewN ?_ _ | refine blk_drew ?_ | refine blk_alloc ?_ _)); refine blk_far ?_ NB429_436.out _; (with_reducible repeat (first | refine blk_drewN ?_ _ | refine blk_drew ?_ | refine blk_alloc ?_ _)); refine blk_far ?_ NB429_436.out _; (with_reducible repeat (first | refine blk_drewN ?_ _ | refine blk_drew ?_ | refine blk_alloc ?_ _)); refine blk_far ?_ NB429_436.out _; (with_reducible repeat (first | refine blk_drewN ?_ _ | refine blk_drew ?_ | refine blk_alloc ?_ _)); refine blk_far ?_ NB429_436.out _; (with_reducible repeat (first | refine blk_drewN ?_ _ | refine blk_drew ?_ | refine blk_alloc ?_ _)); refine blk_far ?_ NB429_436.out _; (with_reducible repeat (first | refine blk_drewN ?_ _ | refine blk_drew ?_ | refine blk_alloc ?_ _)); exact BK429.out⟩, ⟨by (with_reducible repeat (first | refine blk_drewN ?_ _ | refine blk_drew ?_ | refine blk_alloc ?_ _)); refine blk_put (cs := #[.bool t431, .bool t432, .bool t433, .bool t434, .bool false]) ?_ 4 _ rfl; (with_reducible repeat (first | refine blk_drewN ?_ _ | refine blk_drew ?_ | refine blk_alloc ?_ _)); refine blk_put (cs := #[.bool t431, .bool t432, .bool t433, .bool false, .bool false]) ?_ 3 _ rfl; (with_reducible repeat (first | refine blk_drewN ?_ _ | refine blk_drew ?_ | refine blk_alloc ?_ _)); refine blk_put (cs := #[.bool t431, .bool t432, .bool false, .bool false, .bool false]) ?_ 2 _ rfl; (with_reducible repeat (first | refine blk_drewN ?_ _ | refine blk_drew ?_ | refine blk_alloc ?_ _)); refine blk_put (cs := #[.bool t431, .bool false, .bool false, .bool false, .bool false]) ?_ 1 _ rfl; (with_reducible repeat (first | refine blk_drewN ?_ _ | refine blk_drew ?_ | refine blk_alloc ?_ _)); refine blk_put (cs := #[.bool false, .bool false, .bool false, .bool false, .bool false]) ?_ 0 _ rfl; (with_reducible repeat (first | refine blk_drewN ?_ _ | refine blk_drew ?_ | refine blk_alloc ?_ _)); exact BK436.out⟩, ⟨by repeat (first | (with_reducible first | exact HB.out | apply below_alloc | apply pw_below_drewN | apply below_drew1 | refine below_set ?_ GE422.out | refine below_set ?_ GE429.out | refine below_set ?_ GE436.out) | exact HB.out)⟩⟩
      · rw [if_neg c18] at H
        have c18b0 : (!t417 && (!t418 && (!t419 && (!t420 && (t421))))) = false := by simpa using c18
        clear c18
        have H' := Aside0.mk H
        clear H
        have hnb34 := NB422_429.out
        have hnc34 := NB429_422.out
        have hnb35 := NB422_436.out
        have hnc35 := NB436_422.out
        have hcz36_0 : w13.cell? ⟨gb422, 0, none⟩ = some (.bool t417) := (blk_cell BK422.out 0).trans rfl
        have hcz36_1 : w13.cell? ⟨gb422, 1, none⟩ = some (.bool t418) := (blk_cell BK422.out 1).trans rfl
        have hcz36_2 : w13.cell? ⟨gb422, 2, none⟩ = some (.bool t419) := (blk_cell BK422.out 2).trans rfl
        have hcz36_3 : w13.cell? ⟨gb422, 3, none⟩ = some (.bool t420) := (blk_cell BK422.out 3).trans rfl
        have hcz36_4 : w13.cell? ⟨gb422, 4, none⟩ = some (.bool t421) := (blk_cell BK422.out 4).trans rfl
        have hfz36_0 := blk_frozen BK422.out 0
        have hfz36_1 := blk_frozen BK422.out 1
        have hfz36_2 := blk_frozen BK422.out 2
        have hfz36_3 := blk_frozen BK422.out 3
        have hfz36_4 := blk_frozen BK422.out 4
        go_wp2
        go_meet
        case rel => exact ⟨_, (false), (by first | rfl | (simp; done) | (simp [*]; done) | (congr 1; (try unfold wrap64); omega) | (congr 1; rw [IntKind.wrap_u64]; omega)), H', ⟨by first | omega | exact Nat.le_refl _⟩, ⟨by (with_reducible repeat (first | refine blk_drewN ?_ _ | refine blk_drew ?_ | refine blk_alloc ?_ _)); refine blk_far ?_ NB422_436.out _; (with_reducible repeat (first | refine blk_drewN ?_ _ | refine blk_drew ?_ | refine blk_alloc ?_ _)); refine blk_far ?_ NB422_436.out _; (with_reducible repeat (first | refine blk_drewN ?_ _ | refine blk_drew ?_ | refine blk_alloc ?_ _)); refine blk_far ?_ NB422_436.out _; (with_reducible repeat (first | refine blk_drewN ?_ _ | refine blk_drew ?_ | refine blk_alloc ?_ _)); refine blk_far ?_ NB422_436.out _; (with_reducible repeat (first | refine blk_drewN ?_ _ | refine blk_drew ?_ | refine blk_alloc ?_ _)); refine blk_far ?_ NB422_436.out _; (with_reducible repeat (first | refine blk_drewN ?_ _ | refine blk_drew ?_ | refine blk_alloc ?_ _)); exact BK422.out⟩, ⟨by (with_reducible repeat (first | refine blk_drewN ?_ _ | refine blk_drew ?_ | refine blk_alloc ?_ _)); refine blk_far ?_ NB429_436.out _; (with_reducible repeat (first | refine blk_drewN ?_ _ | refine blk_drew ?_ | refine blk_alloc ?_ _)); refine blk_far ?_ NB429_436.out _; (with_reducible repeat (first | refine blk_drewN ?_ _ | refine blk_drew ?_ | refine blk_alloc ?_ _)); refine blk_far ?_ NB429_436.out _; (with_reducible repeat (first | refine blk_drewN ?_ _ | refine blk_drew ?_ | refine blk_alloc ?_ _)); refine blk_far ?_ NB429_436.out _; (with_reducible repeat (first | refine blk_drewN ?_ _ | refine blk_drew ?_ | refine blk_alloc ?_ _)); refine blk_far ?_ NB429_436.out _; (with_reducible repeat (first | refine blk_drewN ?_ _ | refine blk_drew ?_ | refine blk_alloc ?_ _)); exact BK429.out⟩, ⟨by (with_reducible repeat (first | refine blk_drewN ?_ _ | refine blk_drew ?_ | refine blk_alloc ?_ _)); refine blk_put (cs := #[.bool t431, .bool t432, .bool t433, .bool t434, .bool false]) ?_ 4 _ rfl; (with_reducible repeat (first | refine blk_drewN ?_ _ | refine blk_drew ?_ | refine blk_alloc ?_ _)); refine blk_put (cs := #[.bool t431, .bool t432, .bool t433, .bool false, .bool false]) ?_ 3 _ rfl; (with_reducible repeat (first | refine blk_drewN ?_ _ | refine blk_drew ?_ | refine blk_alloc ?_ _)); refine blk_put (cs := #[.bool t431, .bool t432, .bool false, .bool false, .bool false]) ?_ 2 _ rfl; (with_reducible repeat (first | refine blk_drewN ?_ _ | refine blk_drew ?_ | refine blk_alloc ?_ _)); refine blk_put (cs := #[.bool t431, .bool false, .bool false, .bool false, .bool false]) ?_ 1 _ rfl; (with_reducible repeat (first | refine blk_drewN ?_ _ | refine blk_drew ?_ | refine blk_alloc ?_ _)); refine blk_put (cs := #[.bool false, .bool false, .bool false, .bool false, .bool false]) ?_ 0 _ rfl; (with_reducible repeat (first | refine blk_drewN ?_ _ | refine blk_drew ?_ | refine blk_alloc ?_ _)); exact BK436.out⟩, ⟨by repeat (first | (with_reducible first | exact HB.out | apply below_alloc | apply pw_below_drewN | apply below_drew1 | refine below_set ?_ GE422.out | refine below_set ?_ GE429.out | refine below_set ?_ GE436.out) | exact HB.out)⟩⟩
    · rw [if_neg c17] at H
      have c17b0 : (t416 == 2) = false := beq_eq_false_iff_ne.mpr c17
      have c17b1 : (t416 != 2) = true := bne_iff_ne.mpr c17
      (first | rw [c17b0] | (simp only [i64_w, i32_w]; rw [c17b0]) | skip)
      have H' := Aside0.mk H
      clear H
      go_wp2
      go_meet
      case rel => exact ⟨_, (false), (by first | rfl | (simp; done) | (simp [*]; done) | (congr 1; (try unfold wrap64); omega) | (congr 1; rw [IntKind.wrap_u64]; omega)), H', ⟨by first | omega | exact Nat.le_refl _⟩, ⟨by (with_reducible repeat (first | refine blk_drewN ?_ _ | refine blk_drew ?_ | refine blk_alloc ?_ _)); refine blk_far ?_ NB422_436.out _; (with_reducible repeat (first | refine blk_drewN ?_ _ | refine blk_drew ?_ | refine blk_alloc ?_ _)); refine blk_far ?_ NB422_436.out _; (with_reducible repeat (first | refine blk_drewN ?_ _ | refine blk_drew ?_ | refine blk_alloc ?_ _)); refine blk_far ?_ NB422_436.out _; (with_reducible repeat (first | refine blk_drewN ?_ _ | refine blk_drew ?_ | refine blk_alloc ?_ _)); refine blk_far ?_ NB422_436.out _; (with_reducible repeat (first | refine blk_drewN ?_ _ | refine blk_drew ?_ | refine blk_alloc ?_ _)); refine blk_far ?_ NB422_436.out _; (with_reducible repeat (first | refine blk_drewN ?_ _ | refine blk_drew ?_ | refine blk_alloc ?_ _)); exact BK422.out⟩, ⟨by (with_reducible repeat (first | refine blk_drewN ?_ _ | refine blk_drew ?_ | refine blk_alloc ?_ _)); refine blk_far ?_ NB429_436.out _; (with_reducible repeat (first | refine blk_drewN ?_ _ | refine blk_drew ?_ | refine blk_alloc ?_ _)); refine blk_far ?_ NB429_436.out _; (with_reducible repeat (first | refine blk_drewN ?_ _ | refine blk_drew ?_ | refine blk_alloc ?_ _)); refine blk_far ?_ NB429_436.out _; (with_reducible repeat (first | refine blk_drewN ?_ _ | refine blk_drew ?_ | refine blk_alloc ?_ _)); refine blk_far ?_ NB429_436.out _; (with_reducible repeat (first | refine blk_drewN ?_ _ | refine blk_drew ?_ | refine blk_alloc ?_ _)); refine blk_far ?_ NB429_436.out _; (with_reducible repeat (first | refine blk_drewN ?_ _ | refine blk_drew ?_ | refine blk_alloc ?_ _)); exact BK429.out⟩, ⟨by (with_reducible repeat (first | refine blk_drewN ?_ _ | refine blk_drew ?_ | refine blk_alloc ?_ _)); refine blk_put (cs := #[.bool t431, .bool t432, .bool t433, .bool t434, .bool false]) ?_ 4 _ rfl; (with_reducible repeat (first | refine blk_drewN ?_ _ | refine blk_drew ?_ | refine blk_alloc ?_ _)); refine blk_put (cs := #[.bool t431, .bool t432, .bool t433, .bool false, .bool false]) ?_ 3 _ rfl; (with_reducible repeat (first | refine blk_drewN ?_ _ | refine blk_drew ?_ | refine blk_alloc ?_ _)); refine blk_put (cs := #[.bool t431, .bool t432, .bool false, .bool false, .bool false]) ?_ 2 _ rfl; (with_reducible repeat (first | refine blk_drewN ?_ _ | refine blk_drew ?_ | refine blk_alloc ?_ _)); refine blk_put (cs := #[.bool t431, .bool false, .bool false, .bool false, .bool false]) ?_ 1 _ rfl; (with_reducible repeat (first | refine blk_drewN ?_ _ | refine blk_drew ?_ | refine blk_alloc ?_ _)); refine blk_put (cs := #[.bool false, .bool false, .bool false, .bool false, .bool false]) ?_ 0 _ rfl; (with_reducible repeat (first | refine blk_drewN ?_ _ | refine blk_drew ?_ | refine blk_alloc ?_ _)); exact BK436.out⟩, ⟨by repeat (first | (with_reducible first | exact HB.out | apply below_alloc | apply pw_below_drewN | apply below_drew1 | refine below_set ?_ GE422.out | refine below_set ?_ GE429.out | refine below_set ?_ GE436.out) | exact HB.out)⟩⟩
  case rest =>
    clear HC4
    try clear c1
    try clear c2
    try clear p2
    try clear c3
    try clear c4
    try clear p6
    try clear c10
    try clear c14
    try clear c15
    try clear c17
    try clear c17b0
    try clear c17b1
    try clear c18
    try clear c18b0
    try clear c19
    try clear c19b0
    try clear c19b1
    try clear c20
    try clear c20b0
    try clear c21
    try clear c22
    try clear c24
    try clear c25
    try clear c26
    try clear c27
    try clear c28
    try clear c29
    try clear c31
    try clear c32
    try clear c34
    try clear c35
    try clear hcz11_0
    try clear hcz11_1
    try clear hcz11_2
    try clear hcz11_3
    try clear hcz11_4
    try clear hcz16_0
    try clear hcz16_1
    try clear hcz16_2
    try clear hcz16_3
    try clear hcz16_4
    try clear hcz23_0
    try clear hcz23_1
    try clear hcz23_2
    try clear hcz23_3
    try clear hcz23_4
    try clear hcz25_0
    try clear hcz25_1
    try clear hcz25_2
    try clear hcz25_3
    try clear hcz25_4
    try clear hcz28_0
    try clear hcz28_1
    try clear hcz28_2
    try clear hcz28_3
    try clear hcz28_4
    try clear hcz30_0
    try clear hcz30_1
    try clear hcz30_2
    try clear hcz30_3
    try clear hcz30_4
    try clear hcz33_0
    try clear hcz33_1
    try clear hcz33_2
    try clear hcz33_3
    try clear hcz33_4
    try clear hcz36_0
    try clear hcz36_1
    try clear hcz36_2
    try clear hcz36_3
    try clear hcz36_4
    try clear hcz7_0
    try clear hcz7_1
    try clear hcz7_2
    try clear hcz7_3
    try clear hcz7_4
    try clear hfz11_0
    try clear hfz11_1
    try clear hfz11_2
    try clear hfz11_3
    try clear hfz11_4
    try clear hfz16_0
    try clear hfz16_1
    try clear hfz16_2
    try clear hfz16_3
    try clear hfz16_4
    try clear hfz23_0
    try clear hfz23_1
    try clear hfz23_2
    try clear hfz23_3
    try clear hfz23_4
    try clear hfz25_0
    try clear hfz25_1
    try clear hfz25_2
    try clear hfz25_3
    try clear hfz25_4
    try clear hfz28_0
    try clear hfz28_1
    try clear hfz28_2
    try clear hfz28_3
    try clear hfz28_4
    try clear hfz30_0
    try clear hfz30_1
    try clear hfz30_2
    try clear hfz30_3
    try clear hfz30_4
    try clear hfz33_0
    try clear hfz33_1
    try clear hfz33_2
    try clear hfz33_3
    try clear hfz33_4
    try clear hfz36_0
    try clear hfz36_1
    try clear hfz36_2
    try clear hfz36_3
    try clear hfz36_4
    try clear hfz7_0
    try clear hfz7_1
    try clear hfz7_2
    try clear hfz7_3
    try clear hfz7_4
    obtain ⟨kq, x0_3, rfl, HA, HJ3, BK422, BK429, BK436, HB⟩ := hcut
    cases kq with
    | zero => exact absurd HA.out (by simp [anneallaw8_known.j0])
    | succ kj3 =>
      have H := HA.out
      clear HA
      simp only [anneallaw8_known.j0] at H
      obtain rfl := Option.some.inj H
      go_wp2
      go_ret
      exact ⟨by first | rfl | (simp [errW_none, errW_some] <;> rfl) | (simp [*, errW_none, errW_some] <;> rfl), by repeat (first | (with_reducible first | exact HB.out | apply below_alloc | apply pw_below_drewN | apply below_drew1 | refine below_set ?_ GE422.out | refine below_set ?_ GE429.out | refine below_set ?_ GE436.out) | exact HB.out)⟩

/-! ### anneallaw8_form: function 26 -/
def anneallaw8_form.f (a0 : Int) : Option (Int) := (some (([0, 1, 2] : List Int) : List Int)).bind fun y437 => (if 0 ≤ (Int.tmod a0 3) then (if (Int.tmod a0 3) < (y437.length : Int) then (some (rd y437 (Int.tmod a0 3))) else (none)) else (none))
set_option maxHeartbeats 8000000 in
set_option maxRecDepth 100000 in
theorem anneallaw8_form.calls (a0 : Int) (r : Int) (w : World) (h : anneallaw8_form.f a0 = some r) :
    Calls Try.prog 26 #[.int .u8 a0] w fun e w' => e = .returned (.int .i64 r) ∧ Below w.heap.size w w' := by
  have HB := Aside0.mk (Below.refl w.heap.size w)
  have H : ((some (([0, 1, 2] : List Int) : List Int)).bind fun y437 => (if 0 ≤ (Int.tmod a0 3) then (if (Int.tmod a0 3) < (y437.length : Int) then (some (rd y437 (Int.tmod a0 3))) else (none)) else (none))) = some r := h
  clear h
  obtain ⟨y437, hy437⟩ : ∃ y_ : List Int, y_ = (([0, 1, 2] : List Int)) := ⟨_, rfl⟩
  replace H : (if 0 ≤ (Int.tmod a0 3) then (if (Int.tmod a0 3) < (y437.length : Int) then (some (rd y437 (Int.tmod a0 3))) else (none)) else (none)) = some r := by first | (rw [hy437]; with_reducible exact H) | (have H2_ := (Option.bind_some _ _).symm.trans H; rw [hy437]; with_reducible exact H2_) | (have H2_ := (Option.bind_some _ _).symm.trans H; with_reducible exact H2_) | with_reducible exact H | (rw [hy437]; exact H) | exact H
  have Ny437 := Aside0.mk hy437
  clear hy437
  obtain ⟨ji2, hji2⟩ : ∃ j_ : Int, (Int.tmod a0 3) = j_ := ⟨_, rfl⟩
  replace H : (if 0 ≤ (ji2) then (if (ji2) < (y437.length : Int) then (some (rd y437 (ji2))) else (none)) else (none)) = some r := by first | (rw [hji2] at H; exact H) | (simp only [hji2] at H ⊢; exact H)
  by_cases c3 : 0 ≤ (ji2)
  · rw [if_pos c3] at H
    have c3b0 : decide (0 ≤ (ji2)) = true := decide_eq_true c3
    clear c3
    by_cases c4 : (ji2) < (y437.length : Int)
    · rw [if_pos c4] at H
      have c4b0 : decide ((ji2) < (y437.length : Int)) = true := decide_eq_true c4
      clear c4
      obtain rfl := Option.some.inj H
      go_enter Try.func26, Try.ntmps26
      go_wp2_with (first | ((with_reducible refine gate_dst (N := 3) rfl ?_); refine Kd.R_lit (Kd.int .i64) _ 3 ?hg (N := 3) ?hd (xs := ([0, 1, 2] : List Int)) (inner := [.int .i64 0, .int .i64 1, .int .i64 2]) (ok := fun _ => True) (okp := fun _ => True) ?hr ?hp (fun _ hk => hk) trivial (Below.refl _ _) (Nat.le_refl _) (by simp) ?_; (case hd => rfl); (case hg => rfl); (case hr => first | (go_simp; done) | (go_simp; rfl)); (case hp => exact (Reps.one (show Kd.M (Kd.int .i64) _ _ _ 0 [.int .i64 0] from rfl) (Reps.one (show Kd.M (Kd.int .i64) _ _ _ 1 [.int .i64 1] from rfl) (Reps.one (show Kd.M (Kd.int .i64) _ _ _ 2 [.int .i64 2] from rfl) (Reps.none _ _))))); intro v438 w5 ho6 hb hg_ hnew_; clear hg_ hnew_; (first | rw [← Ny437.out] at ho6 | (simp only [Int.reduceToNat] at ho6; rw [← Ny437.out] at ho6)); have n0_ := Aside0.mk (Kd.R_lower ho6 (below_size (by repeat (first | (with_reducible first | exact HB.out | apply below_alloc | apply pw_below_drewN | apply below_drew1) | exact HB.out)))); have n1_ := Aside0.mk (below_step (by repeat (first | (with_reducible first | exact HB.out | apply below_alloc | apply pw_below_drewN | apply below_drew1) | exact HB.out)) hb); clear HB; have HO439 := n0_; have HB := n1_; clear n0_ n1_; clear hb ho6; obtain ⟨Ao7, co7, eo7⟩ := Kd.R_slice HO439.out; subst eo7; have p440 : 0 ≤ ((ji2) : Int) := of_decide_eq_true (by first | (with_reducible assumption) | assumption); have q440 : (ji2) < (y437.length : Int) := of_decide_eq_true (by first | (with_reducible assumption) | assumption); obtain ⟨ad440, e440, hx440_0⟩ := Kd.at_int (Kd.R_reads' HO439.out).2.2 (ji2) p440 q440; cases e440; replace p440 := eq_true p440; replace q440 := eq_true q440))
      go_ret
      exact ⟨by first | rfl | (simp [errW_none, errW_some] <;> rfl) | (simp only [← hji2]; first | rfl | (simp [errW_none, errW_some] <;> rfl)) | (simp [*, errW_none, errW_some] <;> rfl), by repeat (first | (with_reducible first | exact HB.out | apply below_alloc | apply pw_below_drewN | apply below_drew1) | exact HB.out)⟩
    · rw [if_neg c4] at H
      exact absurd H (by simp)
  · rw [if_neg c3] at H
    exact absurd H (by simp)

end Go.Proofs.Ytngkpekmgahjiaa.P
