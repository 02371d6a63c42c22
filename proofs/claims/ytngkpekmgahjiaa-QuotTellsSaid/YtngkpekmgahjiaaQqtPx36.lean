import Derived.Test.YtngkpekmgahjiaaQqtZ
import Derived.Test.YtngkpekmgahjiaaQqtM1
import Derived.Test.YtngkpekmgahjiaaQqtPx9
import Derived.Test.YtngkpekmgahjiaaQqtM3
-- Printed by a program of this session's out of Lean's print of the translation; Lean checks it.
namespace Go.Proofs.Ytngkpekmgahjiaa.P
open Go.RowKit Go.Proofs.YtngkpekmgahjiaaW.PrintWords Go.Proofs.YtngkpekmgahjiaaW.PrintLast Go.Proofs.YtngkpekmgahjiaaW.PrintMore
attribute [local go_sem] max2_int min2_int max_two min_two max_three min_three max_four min_four   -- for this text's walks alone
set_option linter.unusedVariables false
set_option linter.unusedSimpArgs false

/-! ### quot_Div: function 36 -/
mutual
def quot_Div.j0 : Nat → Int → Int → Int → Int → Bool → Int → Int → Bool → Option (Int × Bool × Bool × Bool × Bool × Bool)
 |0, _, _, _, _, _, _, _, _ => none
 |k + 1, x0, x1, x2, x3, x13, x14, x15, x46 => if x46 = true then ((sum_Bad.f x0).bind fun bt580 => (some (bt580.1, bt580.2.1, bt580.2.2.1, bt580.2.2.2.1, bt580.2.2.2.2.1, bt580.2.2.2.2.2))) else (if x14 = 3 then ((format_Inf.f x0 x13).bind fun t586 => (some (t586, false, false, false, false, false))) else (if x15 = 3 then (quot_Div.j1 k x0 x1 x2 x3 x13 x15 true) else (quot_Div.j1 k x0 x1 x2 x3 x13 x15 (x14 == 0))))
def quot_Div.j1 : Nat → Int → Int → Int → Int → Bool → Int → Bool → Option (Int × Bool × Bool × Bool × Bool × Bool)
 |0, _, _, _, _, _, _, _ => none
 |k + 1, x0, x1, x2, x3, x13, x15, x69 => if x69 = true then ((format_Zero.f x0 x13).bind fun t587 => (some (t587, false, false, false, false, false))) else (if x15 = 0 then ((format_Inf.f x0 x13).bind fun t588 => (some (t588, false, true, false, false, false))) else ((sum_Of.f x0 x2).bind fun bt589 => ((sum_Of.f x0 x3).bind fun bt593 => ((bits_Len.f k bt589.2.2.1).bind fun t599 => ((bits_Shift.f k bt589.2.2.1 (wrap64 (-(wrap64 (62 - t599))))).bind fun bt600 => (if bt593.2.2.1 = 0 then (none) else ((round_Pack.f k x0 x1 x13 (wrap64 ((wrap64 (bt589.2.1 - (wrap64 (62 - t599)))) - bt593.2.1)) (IntKind.u64.wrap (Int.tdiv bt600.1 bt593.2.2.1)) ((Int.tmod bt600.1 bt593.2.2.1) != 0)).bind fun bt602 => (some (bt602.1, bt602.2.1, bt602.2.2.1, bt602.2.2.2.1, bt602.2.2.2.2.1, bt602.2.2.2.2.2)))))))))
end
def quot_Div.f (k : Nat) (a0 : Int) (a1 : Int) (a2 : Int) (a3 : Int) : Option (Int × Bool × Bool × Bool × Bool × Bool) := (sum_Nans.f k a0 (([a2, a3] : List Int))).bind fun bt568 => (if bt568.2.2.2.2.2.2 = true then (some (bt568.1, bt568.2.1, bt568.2.2.1, bt568.2.2.2.1, bt568.2.2.2.2.1, bt568.2.2.2.2.2.1)) else ((format_Neg.f a0 a2).bind fun t576 => ((format_Neg.f a0 a3).bind fun t577 => ((format_Class.f k a0 a2).bind fun t578 => ((format_Class.f k a0 a3).bind fun t579 => (if t578 = t579 then (if t578 = 0 then (quot_Div.j0 k a0 a1 a2 a3 (t576 != t577) t578 t579 true) else (quot_Div.j0 k a0 a1 a2 a3 (t576 != t577) t578 t579 (t578 == 3))) else (quot_Div.j0 k a0 a1 a2 a3 (t576 != t577) t578 t579 false)))))))
theorem quot_Div.mono_l : ∀ k, (∀ y0 y1 y2 y3 y4 y5 y6 y7, LeO (quot_Div.j0 k y0 y1 y2 y3 y4 y5 y6 y7) (quot_Div.j0 (k + 1) y0 y1 y2 y3 y4 y5 y6 y7)) ∧ (∀ y0 y1 y2 y3 y4 y5 y6, LeO (quot_Div.j1 k y0 y1 y2 y3 y4 y5 y6) (quot_Div.j1 (k + 1) y0 y1 y2 y3 y4 y5 y6))
 |0 => ⟨fun _ _ _ _ _ _ _ _ r h => by simp [quot_Div.j0] at h, fun _ _ _ _ _ _ _ r h => by simp [quot_Div.j1] at h⟩
 |k + 1 => by
  obtain ⟨ih0, ih1⟩ := quot_Div.mono_l k
  refine ⟨?_, ?_⟩
  ·intro y0 y1 y2 y3 y4 y5 y6 y7
   unfold quot_Div.j0
   repeat' first
   |(with_reducible exact ih0 _ _ _ _ _ _ _ _)
   |(with_reducible exact ih1 _ _ _ _ _ _ _)
   |(with_reducible exact bits_Len.mono _ _)
   |(with_reducible exact bits_Shift.mono _ _ _)
   |(with_reducible exact format_Class.mono _ _ _)
   |(with_reducible exact round_Pack.mono _ _ _ _ _ _ _)
   |(with_reducible exact sum_Nans.mono _ _ _)
   |(with_reducible exact LeO.refl _)
   |(with_reducible exact LeO.none _)
   |(with_reducible refine LeO.ite ?_ ?_)
   |(with_reducible refine LeO.bind ?_ (fun _ => ?_))
   |exact ih0 _ _ _ _ _ _ _ _
   |exact ih1 _ _ _ _ _ _ _
   |exact bits_Len.mono _ _
   |exact bits_Shift.mono _ _ _
   |exact format_Class.mono _ _ _
   |exact round_Pack.mono _ _ _ _ _ _ _
   |exact sum_Nans.mono _ _ _
   |exact LeO.none _
   |refine LeO.ite ?_ ?_
   |refine LeO.bind ?_ (fun _ => ?_)
  ·intro y0 y1 y2 y3 y4 y5 y6
   unfold quot_Div.j1
   repeat' first
   |(with_reducible exact ih0 _ _ _ _ _ _ _ _)
   |(with_reducible exact ih1 _ _ _ _ _ _ _)
   |(with_reducible exact bits_Len.mono _ _)
   |(with_reducible exact bits_Shift.mono _ _ _)
   |(with_reducible exact format_Class.mono _ _ _)
   |(with_reducible exact round_Pack.mono _ _ _ _ _ _ _)
   |(with_reducible exact sum_Nans.mono _ _ _)
   |(with_reducible exact LeO.refl _)
   |(with_reducible exact LeO.none _)
   |(with_reducible refine LeO.ite ?_ ?_)
   |(with_reducible refine LeO.bind ?_ (fun _ => ?_))
   |exact ih0 _ _ _ _ _ _ _ _
   |exact ih1 _ _ _ _ _ _ _
   |exact bits_Len.mono _ _
   |exact bits_Shift.mono _ _ _
   |exact format_Class.mono _ _ _
   |exact round_Pack.mono _ _ _ _ _ _ _
   |exact sum_Nans.mono _ _ _
   |exact LeO.none _
   |refine LeO.ite ?_ ?_
   |refine LeO.bind ?_ (fun _ => ?_)
theorem quot_Div.mono : ∀ a0 a1 a2 a3 k, LeO (quot_Div.f k a0 a1 a2 a3) (quot_Div.f (k + 1) a0 a1 a2 a3) := by
 intro a0 a1 a2 a3 k
 obtain ⟨ih0, ih1⟩ := quot_Div.mono_l k
 unfold quot_Div.f
 repeat' first
   |(with_reducible exact ih0 _ _ _ _ _ _ _ _)
   |(with_reducible exact ih1 _ _ _ _ _ _ _)
   |(with_reducible exact bits_Len.mono _ _)
   |(with_reducible exact bits_Shift.mono _ _ _)
   |(with_reducible exact format_Class.mono _ _ _)
   |(with_reducible exact round_Pack.mono _ _ _ _ _ _ _)
   |(with_reducible exact sum_Nans.mono _ _ _)
   |(with_reducible exact LeO.refl _)
   |(with_reducible exact LeO.none _)
   |(with_reducible refine LeO.ite ?_ ?_)
   |(with_reducible refine LeO.bind ?_ (fun _ => ?_))
   |exact ih0 _ _ _ _ _ _ _ _
   |exact ih1 _ _ _ _ _ _ _
   |exact bits_Len.mono _ _
   |exact bits_Shift.mono _ _ _
   |exact format_Class.mono _ _ _
   |exact round_Pack.mono _ _ _ _ _ _ _
   |exact sum_Nans.mono _ _ _
   |exact LeO.none _
   |refine LeO.ite ?_ ?_
   |refine LeO.bind ?_ (fun _ => ?_)
def quot_Div.T17 : Bool × List (List Nat × List Nat) := (true, [([], []), ([], []), ([], []), ([], []), ([3], [3]), ([], []), ([4, 5], [4, 5]), ([], []), ([7], [7]), ([6, 8], [6, 8]), ([], []), ([], []), ([11], [11]), ([10, 12], [10, 12]), ([], []), ([], []), ([15], [15]), ([14, 16], [14, 16]), ([17], [17]), ([0, 1, 2, 9, 13, 18], [0, 1, 2, 9, 13, 18]), ([19], [19]), ([19], [19]), ([20, 19, 0, 1, 2, 3, 4, 5, 6, 7, 8, 9, 10, 11, 12, 13, 14, 15, 16, 17, 18, 19, 20, 21], [20]), ([21, 22, 0, 1, 2, 3, 4, 5, 6, 7, 8, 9, 10, 11, 12, 13, 14, 15, 16, 17, 18, 19, 20, 21, 22], [21])])
def quot_Div.B17 : List Nat := [0, 0, 0, 0, 8, 0, 56, 0, 128, 504, 0, 0, 2048, 7168, 0, 0, 32768, 114688, 245760, 524287, 1048575, 1048575, 4194303, 8388607]
theorem quot_Div.tab17 : rtab .any (opsOf Try.f36 17) = quot_Div.T17 := by kernel_rfl
theorem quot_Div.bits17 : waitsOk quot_Div.T17.2 quot_Div.B17 = true := by kernel_rfl
set_option maxHeartbeats 8000000 in
set_option maxRecDepth 100000 in
theorem quot_Div.calls (k : Nat) (a0 : Int) (a1 : Int) (a2 : Int) (a3 : Int) (r1 : Int) (r2 : Bool) (r3 : Bool) (r4 : Bool) (r5 : Bool) (r6 : Bool) (w : World) (h : quot_Div.f k a0 a1 a2 a3 = some (r1, r2, r3, r4, r5, r6)) :
  Calls Try.prog 36 #[.int .i64 a0, .int .i64 a1, .int .u32 a2, .int .u32 a3] w fun e w' => e = .returned (.tuple #[.int .u32 r1, .agg #[.bool r2, .bool r3, .bool r4, .bool r5, .bool r6]]) ∧ Below w.heap.size w w' := by
 have hu41 := Try.underlying41
 have hu75 := Try.underlying75
 have HB := Aside0.mk (Below.refl w.heap.size w)
 have H : ((sum_Nans.f k a0 (([a2, a3] : List Int))).bind fun bt568 => (if bt568.2.2.2.2.2.2 = true then (some (bt568.1, bt568.2.1, bt568.2.2.1, bt568.2.2.2.1, bt568.2.2.2.2.1, bt568.2.2.2.2.2.1)) else ((format_Neg.f a0 a2).bind fun t576 => ((format_Neg.f a0 a3).bind fun t577 => ((format_Class.f k a0 a2).bind fun t578 => ((format_Class.f k a0 a3).bind fun t579 => (if t578 = t579 then (if t578 = 0 then (quot_Div.j0 k a0 a1 a2 a3 (t576 != t577) t578 t579 true) else (quot_Div.j0 k a0 a1 a2 a3 (t576 != t577) t578 t579 (t578 == 3))) else (quot_Div.j0 k a0 a1 a2 a3 (t576 != t577) t578 t579 false)))))))) = some (r1, r2, r3, r4, r5, r6) := h
 clear h
 obtain ⟨y565, hy565⟩ : ∃ y_ : List Int, y_ = (([a2, a3] : List Int)) := ⟨_, rfl⟩
 replace H : ((sum_Nans.f k a0 y565).bind fun bt568 => (if bt568.2.2.2.2.2.2 = true then (some (bt568.1, bt568.2.1, bt568.2.2.1, bt568.2.2.2.1, bt568.2.2.2.2.1, bt568.2.2.2.2.2.1)) else ((format_Neg.f a0 a2).bind fun t576 => ((format_Neg.f a0 a3).bind fun t577 => ((format_Class.f k a0 a2).bind fun t578 => ((format_Class.f k a0 a3).bind fun t579 => (if t578 = t579 then (if t578 = 0 then (quot_Div.j0 k a0 a1 a2 a3 (t576 != t577) t578 t579 true) else (quot_Div.j0 k a0 a1 a2 a3 (t576 != t577) t578 t579 (t578 == 3))) else (quot_Div.j0 k a0 a1 a2 a3 (t576 != t577) t578 t579 false)))))))) = some (r1, r2, r3, r4, r5, r6) := by first | (rw [hy565]; with_reducible exact H) | (have H2_ := (Option.bind_some _ _).symm.trans H; rw [hy565]; with_reducible exact H2_) | (have H2_ := (Option.bind_some _ _).symm.trans H; with_reducible exact H2_) | with_reducible exact H | (rw [hy565]; exact H) | exact H
 have Ny565 := Aside0.mk hy565
 clear hy565
 replace H := Option.bind_eq_some_iff.mp H
 obtain ⟨⟨t568, t569, t570, t571, t572, t573, t574⟩, A50, H⟩ := H
 replace H : (if t574 = true then (some (t568, t569, t570, t571, t572, t573)) else ((format_Neg.f a0 a2).bind fun t576 => ((format_Neg.f a0 a3).bind fun t577 => ((format_Class.f k a0 a2).bind fun t578 => ((format_Class.f k a0 a3).bind fun t579 => (if t578 = t579 then (if t578 = 0 then (quot_Div.j0 k a0 a1 a2 a3 (t576 != t577) t578 t579 true) else (quot_Div.j0 k a0 a1 a2 a3 (t576 != t577) t578 t579 (t578 == 3))) else (quot_Div.j0 k a0 a1 a2 a3 (t576 != t577) t578 t579 false))))))) = some (r1, r2, r3, r4, r5, r6) := H
 have A5 := Aside0.mk A50
 clear A50
 by_cases c6 : t574 = true
 ·subst c6
  have H1 : (some (t568, t569, t570, t571, t572, t573)) = some (r1, r2, r3, r4, r5, r6) := by rw [if_pos rfl] at H; exact H
  clear H
  have H := H1
  clear H1
  simp only [Option.some.injEq, Prod.mk.injEq] at H
  obtain ⟨rfl, rfl, rfl, rfl, rfl, rfl⟩ := H
  go_enter Try.func36, Try.ntmps36
  try go_wp2_with (first | ((with_reducible refine gate_dst (N := 9) rfl ?_); refine box_event ?hg (N := 9) ?hd (cs := F5) (t := 41) ?hr ?_; (case hd => rfl); (case hg => rfl); (case hr => first | (go_simp; done) | (go_simp; rfl)); intro gb564 hg w7 hbox hb; have n0_ := Aside0.mk (below_step (bl0 HB.out) hb); have n1_ := Aside0.mk (hbox); have n2_ := Aside0.mk ((by rw [hg]; exact (below_size (bl0 HB.out)) : w.heap.size ≤ gb564)); have n3_ := n2_; clear HB; have HB := n0_; have BK564 := n1_; have GW564 := n2_; have GE564 := n3_; clear n0_ n1_ n2_ n3_; clear hb hbox hg) | ((with_reducible refine gate_dst (N := 25) rfl ?_); refine Kd.R_lit (Kd.int .u32) _ 22 ?hg (N := 25) ?hd (xs := ([a2, a3] : List Int)) (inner := [.int .u32 a2, .int .u32 a3]) (ok := fun _ => True) (okp := fun _ => True) ?hr ?hp (fun _ hk => hk) trivial (Below.refl _ _) (Nat.le_refl _) (by simp) ?_; (case hd => rfl); (case hg => rfl); (case hr => first | (go_simp; done) | (go_simp; rfl)); (case hp => exact (Reps.one (show Kd.M (Kd.int .u32) _ _ _ a2 [.int .u32 a2] from rfl) (Reps.one (show Kd.M (Kd.int .u32) _ _ _ a3 [.int .u32 a3] from rfl) (Reps.none _ _)))); intro v566 w8 ho9 hb hg_ hnew_; clear hg_ hnew_; (first | rw [← Ny565.out] at ho9 | (simp only [Int.reduceToNat] at ho9; rw [← Ny565.out] at ho9)); have n0_ := Aside0.mk (Kd.R_lower ho9 (below_size (bl1 HB.out GE564.out))); have n1_ := Aside0.mk (blk_below (g := gb564) (o := .cells #[.bool false, .bool false, .bool false, .bool false, .bool false] 41 (0, 0)) (bv BK564.out) hb); have n2_ := Aside0.mk (below_step (bl1 HB.out GE564.out) hb); clear BK564; clear HB; have HO567 := n0_; have BK564 := n1_; have HB := n2_; clear n0_ n1_ n2_; clear hb ho9; obtain ⟨Ao10, co10, eo10⟩ := Kd.R_slice HO567.out; subst eo10) | ((with_reducible refine gate_callee (f := 63) rfl ?_); refine goesL_ (some 26) rfl rfl Try.func63 (by kernel_rfl) rfl #[.int .i64 a0, .slice Ao10 y565.length co10] rfl gl ?_; (with_reducible refine (sum_Nans.calls k a0 _ _ y565 t568 t569 t570 t571 t572 t573 true _ ?side1 ?side2 A5.out).mono ?_); (case side1 => repeat (first | exact (Kd.R_reads' HO567.out).2.2 | (with_reducible refine Kd.C_alloc ?_ _) | (with_reducible refine Kd.C_drewN ?_ _) | (with_reducible refine Kd.C_drew ?_))); (case side2 => exact (Kd.R_reads' HO567.out).2.1); rintro e w11 ⟨rfl, hb⟩; refine ⟨_, rfl, ?_⟩; have n0_ := Aside0.mk (Kd.R_below (by (with_reducible repeat (first | apply Kd.R_alloc | apply Kd.R_drewN | apply Kd.R_drew)); exact HO567.out) hb); have n1_ := Aside0.mk (blk_below (g := gb564) (o := .cells #[.bool false, .bool false, .bool false, .bool false, .bool false] 41 (0, 0)) (bv BK564.out) hb); have n2_ := Aside0.mk (below_step (bl1 HB.out GE564.out) hb); clear HO567; clear BK564; clear HB; have HO567 := n0_; have BK564 := n1_; have HB := n2_; clear n0_ n1_ n2_) | ((with_reducible refine gate_dst (N := 11) rfl ?_); refine box_event ?hg (N := 11) ?hd (cs := F5) (t := 41) ?hr ?_; (case hd => rfl); (case hg => rfl); (case hr => first | (go_simp; done) | (go_simp; rfl)); intro gb575 hg w12 hbox hb; have n0_ := Aside0.mk (Kd.R_below (by (with_reducible repeat (first | apply Kd.R_alloc | apply Kd.R_drewN | apply Kd.R_drew)); exact HO567.out) hb); have n1_ := Aside0.mk (blk_below (g := gb564) (o := .cells #[.bool false, .bool false, .bool false, .bool false, .bool false] 41 (0, 0)) (bv BK564.out) hb); have n2_ := Aside0.mk (below_step (bl1 HB.out GE564.out) hb); have n3_ := Aside0.mk (hbox); have n4_ := Aside0.mk ((by rw [hg]; exact (below_size (bl1 HB.out GE564.out)) : w.heap.size ≤ gb575)); have n5_ := n4_; have n6_ := Aside0.mk ((by rw [hg]; exact Nat.ne_of_lt (blk_lt (g := gb564) (o := .cells F5 41 (0, 0)) (bv BK564.out)) : gb564 ≠ gb575)); have n7_ := Aside0.mk (Ne.symm n6_.out); clear HO567; clear BK564; clear HB; have HO567 := n0_; have BK564 := n1_; have HB := n2_; have BK575 := n3_; have GW575 := n4_; have GE575 := n5_; have NB564_575 := n6_; have NB575_564 := n7_; clear n0_ n1_ n2_ n3_ n4_ n5_ n6_ n7_; clear hb hbox hg; have hnb13 := NB575_564.out; have hnc13 := NB564_575.out; obtain ⟨hcz14_0, hcz14_1, hcz14_2, hcz14_3, hcz14_4⟩ := bc5 BK575.out; obtain ⟨hfz14_0, hfz14_1, hfz14_2, hfz14_3, hfz14_4⟩ := bf5 BK575.out))
  have n0_ : Aside0 (Kd.R (Kd.int .u32) 22 (((((w12.setCell ⟨gb575, 0, none⟩ (.bool t569)).setCell ⟨gb575, 1, none⟩ (.bool t570)).setCell ⟨gb575, 2, none⟩ (.bool t571)).setCell ⟨gb575, 3, none⟩ (.bool t572)).setCell ⟨gb575, 4, none⟩ (.bool t573)) w.heap.size (fun _ => True) (.slice Ao10 y565.length co10) y565) := ⟨by (with_reducible repeat (first | apply Kd.R_alloc | apply Kd.R_drewN | apply Kd.R_drew)); exact Kd.R_mono (Kd.R_far (p := ⟨gb575, 4, none⟩) (Kd.R_far (p := ⟨gb575, 3, none⟩) (Kd.R_far (p := ⟨gb575, 2, none⟩) (Kd.R_far (p := ⟨gb575, 1, none⟩) (Kd.R_far (p := ⟨gb575, 0, none⟩) (Kd.R_types HO567.out BK575.out (by decide)) (fun _ hk => hk.2) (.bool t569)) (fun _ hk => hk.2) (.bool t570)) (fun _ hk => hk.2) (.bool t571)) (fun _ hk => hk.2) (.bool t572)) (fun _ hk => hk.2) (.bool t573)) (fun _ hk => trivial)⟩
  have n1_ : Aside0 ((((((w12.setCell ⟨gb575, 0, none⟩ (.bool t569)).setCell ⟨gb575, 1, none⟩ (.bool t570)).setCell ⟨gb575, 2, none⟩ (.bool t571)).setCell ⟨gb575, 3, none⟩ (.bool t572)).setCell ⟨gb575, 4, none⟩ (.bool t573)).heap[gb564]? = some (.cells #[.bool false, .bool false, .bool false, .bool false, .bool false] 41 (0, 0))) := ⟨by (with_reducible repeat first | apply bd | apply be | apply ba); refine blk_far ?_ NB564_575.out _; (with_reducible repeat first | apply bd | apply be | apply ba); refine blk_far ?_ NB564_575.out _; (with_reducible repeat first | apply bd | apply be | apply ba); refine blk_far ?_ NB564_575.out _; (with_reducible repeat first | apply bd | apply be | apply ba); refine blk_far ?_ NB564_575.out _; (with_reducible repeat first | apply bd | apply be | apply ba); refine blk_far ?_ NB564_575.out _; (with_reducible repeat first | apply bd | apply be | apply ba); exact BK564.out⟩
  have n2_ : Aside0 ((((((w12.setCell ⟨gb575, 0, none⟩ (.bool t569)).setCell ⟨gb575, 1, none⟩ (.bool t570)).setCell ⟨gb575, 2, none⟩ (.bool t571)).setCell ⟨gb575, 3, none⟩ (.bool t572)).setCell ⟨gb575, 4, none⟩ (.bool t573)).heap[gb575]? = some (.cells #[.bool t569, .bool t570, .bool t571, .bool t572, .bool t573] 41 (0, 0))) := ⟨by (with_reducible repeat first | apply bd | apply be | apply ba); refine blk_put (cs := #[.bool t569, .bool t570, .bool t571, .bool t572, .bool false]) ?_ 4 _ rfl; (with_reducible repeat first | apply bd | apply be | apply ba); refine blk_put (cs := #[.bool t569, .bool t570, .bool t571, .bool false, .bool false]) ?_ 3 _ rfl; (with_reducible repeat first | apply bd | apply be | apply ba); refine blk_put (cs := #[.bool t569, .bool t570, .bool false, .bool false, .bool false]) ?_ 2 _ rfl; (with_reducible repeat first | apply bd | apply be | apply ba); refine blk_put (cs := #[.bool t569, .bool false, .bool false, .bool false, .bool false]) ?_ 1 _ rfl; (with_reducible repeat first | apply bd | apply be | apply ba); refine blk_put (cs := F5) ?_ 0 _ rfl; (with_reducible repeat first | apply bd | apply be | apply ba); exact BK575.out⟩
  have n3_ : Aside0 (Below w.heap.size w (((((w12.setCell ⟨gb575, 0, none⟩ (.bool t569)).setCell ⟨gb575, 1, none⟩ (.bool t570)).setCell ⟨gb575, 2, none⟩ (.bool t571)).setCell ⟨gb575, 3, none⟩ (.bool t572)).setCell ⟨gb575, 4, none⟩ (.bool t573))) := ⟨bl2 HB.out GE564.out GE575.out⟩
  (try clear HO567)
  (try clear BK564)
  (try clear BK575)
  (try clear HB)
  generalize (((((w12.setCell ⟨gb575, 0, none⟩ (.bool t569)).setCell ⟨gb575, 1, none⟩ (.bool t570)).setCell ⟨gb575, 2, none⟩ (.bool t571)).setCell ⟨gb575, 3, none⟩ (.bool t572)).setCell ⟨gb575, 4, none⟩ (.bool t573)) = w15 at n0_ n1_ n2_ n3_ ⊢
  have HO567 := n0_
  have BK564 := n1_
  have BK575 := n2_
  have HB := n3_
  clear n0_ n1_ n2_ n3_
  have n0_ := Aside0.mk (Kd.R_drew HO567.out)
  have n1_ := Aside0.mk (blk_drew BK564.out)
  have n2_ := Aside0.mk (blk_drew BK575.out)
  have n3_ := Aside0.mk (below_drew1 HB.out)
  clear HO567
  clear BK564
  clear BK575
  clear HB
  have HO567 := n0_
  have BK564 := n1_
  have BK575 := n2_
  have HB := n3_
  clear n0_ n1_ n2_ n3_
  refine start_ (n := 4) (S := fun w' => w'.cell? ⟨gb575, 0, none⟩ = some (.bool t569) ∧ w'.cell? ⟨gb575, 1, none⟩ = some (.bool t570) ∧ w'.cell? ⟨gb575, 2, none⟩ = some (.bool t571) ∧ w'.cell? ⟨gb575, 3, none⟩ = some (.bool t572) ∧ w'.cell? ⟨gb575, 4, none⟩ = some (.bool t573)) (ds := []) #[false, false, false, false] (by kernel_rfl) rfl rfl ⟨(blk_cell BK575.out 0).trans rfl, (blk_cell BK575.out 1).trans rfl, (blk_cell BK575.out 2).trans rfl, (blk_cell BK575.out 3).trans rfl, (blk_cell BK575.out 4).trans rfl⟩ (fun hHeld => ?_)
  generalize w15.drew = w16 at HO567 BK564 BK575 HB hHeld ⊢
  refine pure_ (i := 0) (N := some 31) (v := ?_) (a' := ?_) #[true, false, false, false] rfl rfl (by kernel_rfl) (fun _ _ _ h => h) (Or.inl ⟨by rfl, ?_⟩) ?_ ?_
  rotate_left
  ·intro w'
   go_simp
   with_reducible rfl
  rotate_left
  ·simp only [Act.put, sb, sz, ss, i64_w, i32_w]
   rfl
  refine pure_ (i := 2) (N := some 8) (v := ?_) (a' := ?_) #[true, false, true, false] rfl rfl (by kernel_rfl) (fun _ _ _ h => h) (Or.inl ⟨by rfl, ?_⟩) ?_ ?_
  rotate_left
  ·intro w'
   go_simp
   with_reducible rfl
  rotate_left
  ·simp only [Act.put, sb, sz, ss, i64_w, i32_w]
   rfl
  refine take_ (i := 1) (N := some 32) (v := ?_) (a' := ?_) #[true, true, true, false] rfl rfl (by kernel_rfl) (fun _ _ _ h => h) (Or.inl ⟨by rfl, ?_⟩) hHeld ?_ ?_
  rotate_left
  ·rintro w' ⟨s0, s1, s2, s3, s4⟩
   go_simp
   with_reducible rfl
  rotate_left
  ·simp only [Act.put, sb, sz, ss, i64_w, i32_w]
   rfl
  refine one_ (i := 3) (N := none) #[true, true, true, true] rfl rfl (by kernel_rfl) (by decide) (fun K hK => ?_)
  have hs17 : w16.cell? ⟨gb564, 0, none⟩ = some (.bool false) := (blk_cell BK564.out 0).trans rfl
  have hfs17 := blk_frozen BK564.out 0
  have hns17_1 := NB575_564.out
  have hms17_1 := NB564_575.out
  have hs18 : w16.cell? ⟨gb564, 1, none⟩ = some (.bool false) := (blk_cell BK564.out 1).trans rfl
  have hfs18 := blk_frozen BK564.out 1
  have hns18_1 := NB575_564.out
  have hms18_1 := NB564_575.out
  have hs19 : w16.cell? ⟨gb564, 2, none⟩ = some (.bool false) := (blk_cell BK564.out 2).trans rfl
  have hfs19 := blk_frozen BK564.out 2
  have hns19_1 := NB575_564.out
  have hms19_1 := NB564_575.out
  have hs20 : w16.cell? ⟨gb564, 3, none⟩ = some (.bool false) := (blk_cell BK564.out 3).trans rfl
  have hfs20 := blk_frozen BK564.out 3
  have hns20_1 := NB575_564.out
  have hms20_1 := NB564_575.out
  have hs21 : w16.cell? ⟨gb564, 4, none⟩ = some (.bool false) := (blk_cell BK564.out 4).trans rfl
  have hfs21 := blk_frozen BK564.out 4
  have hns21_1 := NB575_564.out
  have hms21_1 := NB564_575.out
  refine skip_ (w1 := ?_) (by rfl) rfl ?_ ?_
  rotate_left
  ·go_simp
   rfl
  refine hK.out _ _ ⟨(cf5 NB575_564.out (hHeld.1)), (cf5 NB575_564.out (hHeld.2.1)), (cf5 NB575_564.out (hHeld.2.2.1)), (cf5 NB575_564.out (hHeld.2.2.2.1)), (cf5 NB575_564.out (hHeld.2.2.2.2))⟩ (fun hHeld => ?_)
  clear hK K
  refine done_ (by kernel_rfl) ?_
  try go_wp2
  refine bodyPost_ret (results_tc rfl _ _ gb564 41 #[.bool t569, .bool t570, .bool t571, .bool t572, .bool t573] (0, 0) _ rfl (by (with_reducible repeat first | apply bd | apply be | apply ba); refine blk_put (cs := #[.bool t569, .bool t570, .bool t571, .bool t572, .bool false]) ?_ 4 _ rfl; (with_reducible repeat first | apply bd | apply be | apply ba); refine blk_put (cs := #[.bool t569, .bool t570, .bool t571, .bool false, .bool false]) ?_ 3 _ rfl; (with_reducible repeat first | apply bd | apply be | apply ba); refine blk_put (cs := #[.bool t569, .bool t570, .bool false, .bool false, .bool false]) ?_ 2 _ rfl; (with_reducible repeat first | apply bd | apply be | apply ba); refine blk_put (cs := #[.bool t569, .bool false, .bool false, .bool false, .bool false]) ?_ 1 _ rfl; (with_reducible repeat first | apply bd | apply be | apply ba); refine blk_put (cs := F5) ?_ 0 _ rfl; (with_reducible repeat first | apply bd | apply be | apply ba); exact BK564.out) Try.underlying41 rfl (by kernel_rfl)) rfl ?_
  exact ⟨by first | rfl | (simp [errW_none, errW_some] <;> rfl) | (simp [*, errW_none, errW_some] <;> rfl), bl2 HB.out GE564.out GE575.out⟩
 ·replace c6 := Bool.eq_false_iff.mpr c6
  subst c6
  have H1 : ((format_Neg.f a0 a2).bind fun t576 => ((format_Neg.f a0 a3).bind fun t577 => ((format_Class.f k a0 a2).bind fun t578 => ((format_Class.f k a0 a3).bind fun t579 => (if t578 = t579 then (if t578 = 0 then (quot_Div.j0 k a0 a1 a2 a3 (t576 != t577) t578 t579 true) else (quot_Div.j0 k a0 a1 a2 a3 (t576 != t577) t578 t579 (t578 == 3))) else (quot_Div.j0 k a0 a1 a2 a3 (t576 != t577) t578 t579 false)))))) = some (r1, r2, r3, r4, r5, r6) := by rw [if_neg (show ¬ (false = true) by decide)] at H; exact H
  clear H
  have H := H1
  clear H1
  replace H := Option.bind_eq_some_iff.mp H
  obtain ⟨t576, A220, H⟩ := H
  replace H : ((format_Neg.f a0 a3).bind fun t577 => ((format_Class.f k a0 a2).bind fun t578 => ((format_Class.f k a0 a3).bind fun t579 => (if t578 = t579 then (if t578 = 0 then (quot_Div.j0 k a0 a1 a2 a3 (t576 != t577) t578 t579 true) else (quot_Div.j0 k a0 a1 a2 a3 (t576 != t577) t578 t579 (t578 == 3))) else (quot_Div.j0 k a0 a1 a2 a3 (t576 != t577) t578 t579 false))))) = some (r1, r2, r3, r4, r5, r6) := H
  have A22 := Aside0.mk A220
  clear A220
  replace H := Option.bind_eq_some_iff.mp H
  obtain ⟨t577, A230, H⟩ := H
  replace H : ((format_Class.f k a0 a2).bind fun t578 => ((format_Class.f k a0 a3).bind fun t579 => (if t578 = t579 then (if t578 = 0 then (quot_Div.j0 k a0 a1 a2 a3 (t576 != t577) t578 t579 true) else (quot_Div.j0 k a0 a1 a2 a3 (t576 != t577) t578 t579 (t578 == 3))) else (quot_Div.j0 k a0 a1 a2 a3 (t576 != t577) t578 t579 false)))) = some (r1, r2, r3, r4, r5, r6) := H
  have A23 := Aside0.mk A230
  clear A230
  replace H := Option.bind_eq_some_iff.mp H
  obtain ⟨t578, A240, H⟩ := H
  replace H : ((format_Class.f k a0 a3).bind fun t579 => (if t578 = t579 then (if t578 = 0 then (quot_Div.j0 k a0 a1 a2 a3 (t576 != t577) t578 t579 true) else (quot_Div.j0 k a0 a1 a2 a3 (t576 != t577) t578 t579 (t578 == 3))) else (quot_Div.j0 k a0 a1 a2 a3 (t576 != t577) t578 t579 false))) = some (r1, r2, r3, r4, r5, r6) := H
  have A24 := Aside0.mk A240
  clear A240
  replace H := Option.bind_eq_some_iff.mp H
  obtain ⟨t579, A250, H⟩ := H
  replace H : (if t578 = t579 then (if t578 = 0 then (quot_Div.j0 k a0 a1 a2 a3 (t576 != t577) t578 t579 true) else (quot_Div.j0 k a0 a1 a2 a3 (t576 != t577) t578 t579 (t578 == 3))) else (quot_Div.j0 k a0 a1 a2 a3 (t576 != t577) t578 t579 false)) = some (r1, r2, r3, r4, r5, r6) := H
  have A25 := Aside0.mk A250
  clear A250
  have HC26 := Aside0.mk H
  clear H
  go_enter Try.func36, Try.ntmps36
  go_upto_region 6 with (first | ((with_reducible refine gate_dst (N := 9) rfl ?_); refine box_event ?hg (N := 9) ?hd (cs := F5) (t := 41) ?hr ?_; (case hd => rfl); (case hg => rfl); (case hr => first | (go_simp; done) | (go_simp; rfl)); intro gb564 hg w27 hbox hb; have n0_ := Aside0.mk (below_step (bl0 HB.out) hb); have n1_ := Aside0.mk (hbox); have n2_ := Aside0.mk ((by rw [hg]; exact (below_size (bl0 HB.out)) : w.heap.size ≤ gb564)); have n3_ := n2_; clear HB; have HB := n0_; have BK564 := n1_; have GW564 := n2_; have GE564 := n3_; clear n0_ n1_ n2_ n3_; clear hb hbox hg) | ((with_reducible refine gate_dst (N := 25) rfl ?_); refine Kd.R_lit (Kd.int .u32) _ 22 ?hg (N := 25) ?hd (xs := ([a2, a3] : List Int)) (inner := [.int .u32 a2, .int .u32 a3]) (ok := fun _ => True) (okp := fun _ => True) ?hr ?hp (fun _ hk => hk) trivial (Below.refl _ _) (Nat.le_refl _) (by simp) ?_; (case hd => rfl); (case hg => rfl); (case hr => first | (go_simp; done) | (go_simp; rfl)); (case hp => exact (Reps.one (show Kd.M (Kd.int .u32) _ _ _ a2 [.int .u32 a2] from rfl) (Reps.one (show Kd.M (Kd.int .u32) _ _ _ a3 [.int .u32 a3] from rfl) (Reps.none _ _)))); intro v566 w28 ho29 hb hg_ hnew_; clear hg_ hnew_; (first | rw [← Ny565.out] at ho29 | (simp only [Int.reduceToNat] at ho29; rw [← Ny565.out] at ho29)); have n0_ := Aside0.mk (Kd.R_lower ho29 (below_size (bl1 HB.out GE564.out))); have n1_ := Aside0.mk (blk_below (g := gb564) (o := .cells #[.bool false, .bool false, .bool false, .bool false, .bool false] 41 (0, 0)) (bv BK564.out) hb); have n2_ := Aside0.mk (below_step (bl1 HB.out GE564.out) hb); clear BK564; clear HB; have HO567 := n0_; have BK564 := n1_; have HB := n2_; clear n0_ n1_ n2_; clear hb ho29; obtain ⟨Ao30, co30, eo30⟩ := Kd.R_slice HO567.out; subst eo30) | ((with_reducible refine gate_callee (f := 63) rfl ?_); refine goesL_ (some 26) rfl rfl Try.func63 (by kernel_rfl) rfl #[.int .i64 a0, .slice Ao30 y565.length co30] rfl gl ?_; (with_reducible refine (sum_Nans.calls k a0 _ _ y565 t568 t569 t570 t571 t572 t573 false _ ?side1 ?side2 A5.out).mono ?_); (case side1 => repeat (first | exact (Kd.R_reads' HO567.out).2.2 | (with_reducible refine Kd.C_alloc ?_ _) | (with_reducible refine Kd.C_drewN ?_ _) | (with_reducible refine Kd.C_drew ?_))); (case side2 => exact (Kd.R_reads' HO567.out).2.1); rintro e w31 ⟨rfl, hb⟩; refine ⟨_, rfl, ?_⟩; have n0_ := Aside0.mk (Kd.R_below (by (with_reducible repeat (first | apply Kd.R_alloc | apply Kd.R_drewN | apply Kd.R_drew)); exact HO567.out) hb); have n1_ := Aside0.mk (blk_below (g := gb564) (o := .cells #[.bool false, .bool false, .bool false, .bool false, .bool false] 41 (0, 0)) (bv BK564.out) hb); have n2_ := Aside0.mk (below_step (bl1 HB.out GE564.out) hb); clear HO567; clear BK564; clear HB; have HO567 := n0_; have BK564 := n1_; have HB := n2_; clear n0_ n1_ n2_) | ((with_reducible refine gate_dst (N := 11) rfl ?_); refine box_event ?hg (N := 11) ?hd (cs := F5) (t := 41) ?hr ?_; (case hd => rfl); (case hg => rfl); (case hr => first | (go_simp; done) | (go_simp; rfl)); intro gb575 hg w32 hbox hb; have n0_ := Aside0.mk (Kd.R_below (by (with_reducible repeat (first | apply Kd.R_alloc | apply Kd.R_drewN | apply Kd.R_drew)); exact HO567.out) hb); have n1_ := Aside0.mk (blk_below (g := gb564) (o := .cells #[.bool false, .bool false, .bool false, .bool false, .bool false] 41 (0, 0)) (bv BK564.out) hb); have n2_ := Aside0.mk (below_step (bl1 HB.out GE564.out) hb); have n3_ := Aside0.mk (hbox); have n4_ := Aside0.mk ((by rw [hg]; exact (below_size (bl1 HB.out GE564.out)) : w.heap.size ≤ gb575)); have n5_ := n4_; have n6_ := Aside0.mk ((by rw [hg]; exact Nat.ne_of_lt (blk_lt (g := gb564) (o := .cells F5 41 (0, 0)) (bv BK564.out)) : gb564 ≠ gb575)); have n7_ := Aside0.mk (Ne.symm n6_.out); clear HO567; clear BK564; clear HB; have HO567 := n0_; have BK564 := n1_; have HB := n2_; have BK575 := n3_; have GW575 := n4_; have GE575 := n5_; have NB564_575 := n6_; have NB575_564 := n7_; clear n0_ n1_ n2_ n3_ n4_ n5_ n6_ n7_; clear hb hbox hg; have hnb33 := NB575_564.out; have hnc33 := NB564_575.out; obtain ⟨hcz34_0, hcz34_1, hcz34_2, hcz34_3, hcz34_4⟩ := bc5 BK575.out; obtain ⟨hfz34_0, hfz34_1, hfz34_2, hfz34_3, hfz34_4⟩ := bf5 BK575.out) | ((with_reducible refine gate_store (t := 41) (p := 11) rfl ?_); refine store_event (t := 41) (p := 11) (v := ?vo_w35) (w1 := (((((w32.setCell ⟨gb575, 0, none⟩ (.bool t569)).setCell ⟨gb575, 1, none⟩ (.bool t570)).setCell ⟨gb575, 2, none⟩ (.bool t571)).setCell ⟨gb575, 3, none⟩ (.bool t572)).setCell ⟨gb575, 4, none⟩ (.bool t573))) ?hg ?ho ?hn ?hr ?_; (case ho => rfl); (case hg => rfl); (case hn => rfl); (case hr => first | (go_simp; done) | (go_simp; rfl)); intro w35 hw; have n0_ : Aside0 (Kd.R (Kd.int .u32) 22 w35 w.heap.size (fun _ => True) (.slice Ao30 y565.length co30) y565) := ⟨(by rw [hw]; exact (by (with_reducible repeat (first | apply Kd.R_alloc | apply Kd.R_drewN | apply Kd.R_drew)); exact Kd.R_mono (Kd.R_far (p := ⟨gb575, 4, none⟩) (Kd.R_far (p := ⟨gb575, 3, none⟩) (Kd.R_far (p := ⟨gb575, 2, none⟩) (Kd.R_far (p := ⟨gb575, 1, none⟩) (Kd.R_far (p := ⟨gb575, 0, none⟩) (Kd.R_types HO567.out BK575.out (by decide)) (fun _ hk => hk.2) (.bool t569)) (fun _ hk => hk.2) (.bool t570)) (fun _ hk => hk.2) (.bool t571)) (fun _ hk => hk.2) (.bool t572)) (fun _ hk => hk.2) (.bool t573)) (fun _ hk => trivial)))⟩; have n1_ : Aside0 (w35.heap[gb564]? = some (.cells #[.bool false, .bool false, .bool false, .bool false, .bool false] 41 (0, 0))) := ⟨(by rw [hw]; exact (by (with_reducible repeat first | apply bd | apply be | apply ba); refine blk_far ?_ NB564_575.out _; (with_reducible repeat first | apply bd | apply be | apply ba); refine blk_far ?_ NB564_575.out _; (with_reducible repeat first | apply bd | apply be | apply ba); refine blk_far ?_ NB564_575.out _; (with_reducible repeat first | apply bd | apply be | apply ba); refine blk_far ?_ NB564_575.out _; (with_reducible repeat first | apply bd | apply be | apply ba); refine blk_far ?_ NB564_575.out _; (with_reducible repeat first | apply bd | apply be | apply ba); exact BK564.out))⟩; have n2_ : Aside0 (w35.heap[gb575]? = some (.cells #[.bool t569, .bool t570, .bool t571, .bool t572, .bool t573] 41 (0, 0))) := ⟨(by rw [hw]; exact (by (with_reducible repeat first | apply bd | apply be | apply ba); refine blk_put (cs := #[.bool t569, .bool t570, .bool t571, .bool t572, .bool false]) ?_ 4 _ rfl; (with_reducible repeat first | apply bd | apply be | apply ba); refine blk_put (cs := #[.bool t569, .bool t570, .bool t571, .bool false, .bool false]) ?_ 3 _ rfl; (with_reducible repeat first | apply bd | apply be | apply ba); refine blk_put (cs := #[.bool t569, .bool t570, .bool false, .bool false, .bool false]) ?_ 2 _ rfl; (with_reducible repeat first | apply bd | apply be | apply ba); refine blk_put (cs := #[.bool t569, .bool false, .bool false, .bool false, .bool false]) ?_ 1 _ rfl; (with_reducible repeat first | apply bd | apply be | apply ba); refine blk_put (cs := F5) ?_ 0 _ rfl; (with_reducible repeat first | apply bd | apply be | apply ba); exact BK575.out))⟩; have n3_ : Aside0 (Below w.heap.size w w35) := ⟨(by rw [hw]; exact (bl2 HB.out GE564.out GE575.out))⟩; clear hw; clear HO567; clear BK564; clear BK575; clear HB; have HO567 := n0_; have BK564 := n1_; have BK575 := n2_; have HB := n3_; clear n0_ n1_ n2_ n3_) | ((with_reducible refine gate_callee (f := 64) rfl ?_); refine goesL_ (some 35) rfl rfl Try.func64 (by kernel_rfl) rfl #[.int .i64 a0, .int .u32 a2] rfl gl ?_; (with_reducible refine (format_Neg.calls a0 a2 t576 _ A22.out).mono ?_); rintro e w' ⟨rfl, ⟨nd, rfl⟩⟩; refine ⟨_, rfl, ?_⟩) | ((with_reducible refine gate_callee (f := 64) rfl ?_); refine goesL_ (some 38) rfl rfl Try.func64 (by kernel_rfl) rfl #[.int .i64 a0, .int .u32 a3] rfl gl ?_; (with_reducible refine (format_Neg.calls a0 a3 t577 _ A23.out).mono ?_); rintro e w' ⟨rfl, ⟨nd, rfl⟩⟩; refine ⟨_, rfl, ?_⟩) | ((with_reducible refine gate_callee (f := 65) rfl ?_); refine goesL_ (some 42) rfl rfl Try.func65 (by kernel_rfl) rfl #[.int .i64 a0, .int .u32 a2] rfl gl ?_; (with_reducible refine (format_Class.calls k a0 a2 t578 _ A24.out).mono ?_); rintro e w' ⟨rfl, ⟨nd, rfl⟩⟩; refine ⟨_, rfl, ?_⟩) | ((with_reducible refine gate_callee (f := 65) rfl ?_); refine goesL_ (some 45) rfl rfl Try.func65 (by kernel_rfl) rfl #[.int .i64 a0, .int .u32 a3] rfl gl ?_; (with_reducible refine (format_Class.calls k a0 a3 t579 _ A25.out).mono ?_); rintro e w' ⟨rfl, ⟨nd, rfl⟩⟩; refine ⟨_, rfl, ?_⟩))
  (try simp only [Act.put, sb, sz, ss])
  go_cut [46] (fun v46 wc => ∃ (kq : Nat) (x46_25 : Bool), v46 = .bool x46_25 ∧ Aside0 (quot_Div.j0 kq a0 a1 a2 a3 (t576 != t577) t578 t579 x46_25 = some (r1, r2, r3, r4, r5, r6)) ∧ Aside0 (kq ≤ k) ∧ Aside0 (wc.heap[gb564]? = some (.cells #[.bool false, .bool false, .bool false, .bool false, .bool false] 41 (0, 0))) ∧ Aside0 (wc.heap[gb575]? = some (.cells #[.bool t569, .bool t570, .bool t571, .bool t572, .bool t573] 41 (0, 0))) ∧ Aside0 (Below w.heap.size w wc))
  case first =>
   have H := HC26.out
   clear HC26
   by_cases c36 : t578 = t579
   ·rw [if_pos c36] at H
    have c36b0 : (t578 == t579) = true := beq_iff_eq.mpr c36
    have c36b1 : (t578 != t579) = false := bne_eq_false_iff_eq.mpr c36
    clear c36
    (first | rw [c36b0] | (simp only [i64_w, i32_w]; rw [c36b0]) | skip)
    by_cases c37 : t578 = 0
    ·rw [if_pos c37] at H
     have c37b0 : (t578 == 0) = true := beq_iff_eq.mpr c37
     have c37b1 : (t578 != 0) = false := bne_eq_false_iff_eq.mpr c37
     clear c37
     have H' := Aside0.mk H
     clear H
     go_wp2
     go_meet
     case rel => exact ⟨_, (true), (by first | rfl | (simp; done) | (simp [*]; done) | (congr 1; (try unfold wrap64); omega) | (congr 1; rw [IntKind.wrap_u64]; omega)), H', ⟨by first | omega | exact Nat.le_refl _⟩, ⟨by (with_reducible repeat first | apply bd | apply be | apply ba); exact BK564.out⟩, ⟨by (with_reducible repeat first | apply bd | apply be | apply ba); exact BK575.out⟩, ⟨bl2 HB.out GE564.out GE575.out⟩⟩
    ·rw [if_neg c37] at H
     have c37b0 : (t578 == 0) = false := beq_eq_false_iff_ne.mpr c37
     have c37b1 : (t578 != 0) = true := bne_iff_ne.mpr c37
     have H' := Aside0.mk H
     clear H
     go_wp2
     go_meet
     case rel => exact ⟨_, ((t578 == 3)), (by first | rfl | (simp; done) | (simp [*]; done) | (congr 1; (try unfold wrap64); omega) | (congr 1; rw [IntKind.wrap_u64]; omega)), H', ⟨by first | omega | exact Nat.le_refl _⟩, ⟨by (with_reducible repeat first | apply bd | apply be | apply ba); exact BK564.out⟩, ⟨by (with_reducible repeat first | apply bd | apply be | apply ba); exact BK575.out⟩, ⟨bl2 HB.out GE564.out GE575.out⟩⟩
   ·rw [if_neg c36] at H
    have c36b0 : (t578 == t579) = false := beq_eq_false_iff_ne.mpr c36
    have c36b1 : (t578 != t579) = true := bne_iff_ne.mpr c36
    (first | rw [c36b0] | (simp only [i64_w, i32_w]; rw [c36b0]) | skip)
    have H' := Aside0.mk H
    clear H
    go_wp2
    go_meet
    case rel => exact ⟨_, (false), (by first | rfl | (simp; done) | (simp [*]; done) | (congr 1; (try unfold wrap64); omega) | (congr 1; rw [IntKind.wrap_u64]; omega)), H', ⟨by first | omega | exact Nat.le_refl _⟩, ⟨by (with_reducible repeat first | apply bd | apply be | apply ba); exact BK564.out⟩, ⟨by (with_reducible repeat first | apply bd | apply be | apply ba); exact BK575.out⟩, ⟨bl2 HB.out GE564.out GE575.out⟩⟩
  case rest =>
   clear HC26
   try clear c1 p2 c3 c6 p6 c13 c33 c36 c36b0 c36b1 c37 c37b0 c37b1 hcz14_0 hcz14_1 hcz14_2 hcz14_3 hcz14_4 hcz34_0 hcz34_1 hcz34_2 hcz34_3 hcz34_4 hfz14_0 hfz14_1 hfz14_2 hfz14_3 hfz14_4 hfz34_0 hfz34_1 hfz34_2 hfz34_3 hfz34_4
   obtain ⟨kq, x46_25, rfl, HA, HJ25, BK564, BK575, HB⟩ := hcut
   cases kq with
   |zero => exact absurd HA.out (by simp [quot_Div.j0])
   |succ kj25 =>
    have H := HA.out
    clear HA
    simp only [quot_Div.j0] at H
    by_cases c38 : x46_25 = true
    ·subst c38
     have H1 : ((sum_Bad.f a0).bind fun bt580 => (some (bt580.1, bt580.2.1, bt580.2.2.1, bt580.2.2.2.1, bt580.2.2.2.2.1, bt580.2.2.2.2.2))) = some (r1, r2, r3, r4, r5, r6) := by rw [if_pos rfl] at H; exact H
     clear H
     have H := H1
     clear H1
     replace H := Option.bind_eq_some_iff.mp H
     obtain ⟨⟨t580, t581, t582, t583, t584, t585⟩, A390, H⟩ := H
     replace H : (some (t580, t581, t582, t583, t584, t585)) = some (r1, r2, r3, r4, r5, r6) := H
     have A39 := Aside0.mk A390
     clear A390
     simp only [Option.some.injEq, Prod.mk.injEq] at H
     obtain ⟨rfl, rfl, rfl, rfl, rfl, rfl⟩ := H
     go_wp2_with (first | ((with_reducible refine gate_callee (f := 66) rfl ?_); refine goesL_ (some 59) rfl rfl Try.func66 (by kernel_rfl) rfl #[.int .i64 a0] rfl gl ?_; (with_reducible refine (sum_Bad.calls a0 t580 t581 t582 t583 t584 t585 _ A39.out).mono ?_); rintro e w40 ⟨rfl, hb⟩; refine ⟨_, rfl, ?_⟩; have n0_ := Aside0.mk (blk_below (g := gb564) (o := .cells #[.bool false, .bool false, .bool false, .bool false, .bool false] 41 (0, 0)) (bv BK564.out) hb); have n1_ := Aside0.mk (blk_below (g := gb575) (o := .cells #[.bool t569, .bool t570, .bool t571, .bool t572, .bool t573] 41 (0, 0)) (bv BK575.out) hb); have n2_ := Aside0.mk (below_step (bl2 HB.out GE564.out GE575.out) hb); clear BK564; clear BK575; clear HB; have BK564 := n0_; have BK575 := n1_; have HB := n2_; clear n0_ n1_ n2_; have hnb41 := NB564_575.out; have hnc41 := NB575_564.out; obtain ⟨hcz42_0, hcz42_1, hcz42_2, hcz42_3, hcz42_4⟩ := bc5 BK564.out; obtain ⟨hfz42_0, hfz42_1, hfz42_2, hfz42_3, hfz42_4⟩ := bf5 BK564.out))
     refine bodyPost_ret (results_tc rfl _ _ gb564 41 #[.bool t581, .bool t582, .bool t583, .bool t584, .bool t585] (0, 0) _ rfl (by (with_reducible repeat first | apply bd | apply be | apply ba); refine blk_put (cs := #[.bool t581, .bool t582, .bool t583, .bool t584, .bool false]) ?_ 4 _ rfl; (with_reducible repeat first | apply bd | apply be | apply ba); refine blk_put (cs := #[.bool t581, .bool t582, .bool t583, .bool false, .bool false]) ?_ 3 _ rfl; (with_reducible repeat first | apply bd | apply be | apply ba); refine blk_put (cs := #[.bool t581, .bool t582, .bool false, .bool false, .bool false]) ?_ 2 _ rfl; (with_reducible repeat first | apply bd | apply be | apply ba); refine blk_put (cs := #[.bool t581, .bool false, .bool false, .bool false, .bool false]) ?_ 1 _ rfl; (with_reducible repeat first | apply bd | apply be | apply ba); refine blk_put (cs := F5) ?_ 0 _ rfl; (with_reducible repeat first | apply bd | apply be | apply ba); exact BK564.out) Try.underlying41 rfl (by kernel_rfl)) rfl ?_
     exact ⟨by first | rfl | (simp [errW_none, errW_some] <;> rfl) | (simp [*, errW_none, errW_some] <;> rfl), bl2 HB.out GE564.out GE575.out⟩
    ·replace c38 := Bool.eq_false_iff.mpr c38
     subst c38
     have H1 : (if t578 = 3 then ((format_Inf.f a0 (t576 != t577)).bind fun t586 => (some (t586, false, false, false, false, false))) else (if t579 = 3 then (quot_Div.j1 kj25 a0 a1 a2 a3 (t576 != t577) t579 true) else (quot_Div.j1 kj25 a0 a1 a2 a3 (t576 != t577) t579 (t578 == 0)))) = some (r1, r2, r3, r4, r5, r6) := by rw [if_neg (show ¬ (false = true) by decide)] at H; exact H
     clear H
     have H := H1
     clear H1
     by_cases c43 : t578 = 3
     ·rw [if_pos c43] at H
      have c43b0 : (t578 == 3) = true := beq_iff_eq.mpr c43
      have c43b1 : (t578 != 3) = false := bne_eq_false_iff_eq.mpr c43
      clear c43
      replace H := Option.bind_eq_some_iff.mp H
      obtain ⟨t586, A440, H⟩ := H
      replace H : (some (t586, false, false, false, false, false)) = some (r1, r2, r3, r4, r5, r6) := H
      have A44 := Aside0.mk A440
      clear A440
      simp only [Option.some.injEq, Prod.mk.injEq] at H
      obtain ⟨rfl, rfl, rfl, rfl, rfl, rfl⟩ := H
      go_wp2_with (first | ((with_reducible refine gate_callee (f := 67) rfl ?_); refine goesL_ (some 67) rfl rfl Try.func67 (by kernel_rfl) rfl #[.int .i64 a0, .bool (t576 != t577)] rfl gl ?_; (with_reducible refine (format_Inf.calls a0 (t576 != t577) t586 _ A44.out).mono ?_); rintro e w' ⟨rfl, ⟨nd, rfl⟩⟩; refine ⟨_, rfl, ?_⟩; (try (rw [drewN_self wc]; generalize hq_ : World.drewN wc _ = wc; have n0_ : Aside0 (wc.heap[gb564]? = some (.cells #[.bool false, .bool false, .bool false, .bool false, .bool false] 41 (0, 0))) := ⟨by rw [← hq_]; exact (bv BK564.out)⟩; have n1_ : Aside0 (wc.heap[gb575]? = some (.cells #[.bool t569, .bool t570, .bool t571, .bool t572, .bool t573] 41 (0, 0))) := ⟨by rw [← hq_]; exact (bv BK575.out)⟩; have n2_ : Aside0 (Below w.heap.size w wc) := ⟨by rw [← hq_]; exact (bl2 HB.out GE564.out GE575.out)⟩; clear BK564 BK575 HB hq_; have BK564 := n0_; have BK575 := n1_; have HB := n2_; clear n0_ n1_ n2_)); have hnb45 := NB564_575.out; have hnc45 := NB575_564.out; obtain ⟨hcz46_0, hcz46_1, hcz46_2, hcz46_3, hcz46_4⟩ := bc5 BK564.out; obtain ⟨hfz46_0, hfz46_1, hfz46_2, hfz46_3, hfz46_4⟩ := bf5 BK564.out))
      refine bodyPost_ret (results_tc rfl _ _ gb564 41 #[.bool false, .bool false, .bool false, .bool false, .bool false] (0, 0) _ rfl (by (with_reducible repeat first | apply bd | apply be | apply ba); refine blk_put (cs := F5) ?_ 4 _ rfl; (with_reducible repeat first | apply bd | apply be | apply ba); refine blk_put (cs := F5) ?_ 3 _ rfl; (with_reducible repeat first | apply bd | apply be | apply ba); refine blk_put (cs := F5) ?_ 2 _ rfl; (with_reducible repeat first | apply bd | apply be | apply ba); refine blk_put (cs := F5) ?_ 1 _ rfl; (with_reducible repeat first | apply bd | apply be | apply ba); refine blk_put (cs := F5) ?_ 0 _ rfl; (with_reducible repeat first | apply bd | apply be | apply ba); exact BK564.out) Try.underlying41 rfl (by kernel_rfl)) rfl ?_
      exact ⟨by first | rfl | (simp [errW_none, errW_some] <;> rfl) | (simp [*, errW_none, errW_some] <;> rfl), bl2 HB.out GE564.out GE575.out⟩
     ·rw [if_neg c43] at H
      have c43b0 : (t578 == 3) = false := beq_eq_false_iff_ne.mpr c43
      have c43b1 : (t578 != 3) = true := bne_iff_ne.mpr c43
      have HC47 := Aside0.mk H
      clear H
      go_upto_region 10 with (fail)
      go_cut [69] (fun v69 wc => ∃ (kq : Nat) (x69_46 : Bool), v69 = .bool x69_46 ∧ Aside0 (quot_Div.j1 kq a0 a1 a2 a3 (t576 != t577) t579 x69_46 = some (r1, r2, r3, r4, r5, r6)) ∧ Aside0 (kq ≤ kj25) ∧ Aside0 (wc.heap[gb564]? = some (.cells #[.bool false, .bool false, .bool false, .bool false, .bool false] 41 (0, 0))) ∧ Aside0 (wc.heap[gb575]? = some (.cells #[.bool t569, .bool t570, .bool t571, .bool t572, .bool t573] 41 (0, 0))) ∧ Aside0 (Below w.heap.size w wc))
      case first =>
       have H := HC47.out
       clear HC47
       by_cases c48 : t579 = 3
       ·rw [if_pos c48] at H
        have c48b0 : (t579 == 3) = true := beq_iff_eq.mpr c48
        have c48b1 : (t579 != 3) = false := bne_eq_false_iff_eq.mpr c48
        clear c48
        (first | rw [c48b0] | (simp only [i64_w, i32_w]; rw [c48b0]) | skip)
        have H' := Aside0.mk H
        clear H
        go_wp2
        go_meet
        case rel => exact ⟨_, (true), (by first | rfl | (simp; done) | (simp [*]; done) | (congr 1; (try unfold wrap64); omega) | (congr 1; rw [IntKind.wrap_u64]; omega)), H', ⟨by have := HJ25.out; first | omega | exact Nat.le_refl _⟩, ⟨by (with_reducible repeat first | apply bd | apply be | apply ba); exact BK564.out⟩, ⟨by (with_reducible repeat first | apply bd | apply be | apply ba); exact BK575.out⟩, ⟨bl2 HB.out GE564.out GE575.out⟩⟩
       ·rw [if_neg c48] at H
        have c48b0 : (t579 == 3) = false := beq_eq_false_iff_ne.mpr c48
        have c48b1 : (t579 != 3) = true := bne_iff_ne.mpr c48
        (first | rw [c48b0] | (simp only [i64_w, i32_w]; rw [c48b0]) | skip)
        have H' := Aside0.mk H
        clear H
        go_wp2
        go_meet
        case rel => exact ⟨_, ((t578 == 0)), (by first | rfl | (simp; done) | (simp [*]; done) | (congr 1; (try unfold wrap64); omega) | (congr 1; rw [IntKind.wrap_u64]; omega)), H', ⟨by have := HJ25.out; first | omega | exact Nat.le_refl _⟩, ⟨by (with_reducible repeat first | apply bd | apply be | apply ba); exact BK564.out⟩, ⟨by (with_reducible repeat first | apply bd | apply be | apply ba); exact BK575.out⟩, ⟨bl2 HB.out GE564.out GE575.out⟩⟩
      case rest =>
       clear HC47
       try clear c1 p2 c3 c4 c6 p6 c13 c33 c36 c36b0 c36b1 c37 c37b0 c37b1 c38 c41 c43 c43b0 c43b1 c45 c48 c48b0 c48b1 hcz14_0 hcz14_1 hcz14_2 hcz14_3 hcz14_4 hcz34_0 hcz34_1 hcz34_2 hcz34_3 hcz34_4 hcz42_0 hcz42_1 hcz42_2 hcz42_3 hcz42_4 hcz46_0 hcz46_1 hcz46_2 hcz46_3 hcz46_4 hfz14_0 hfz14_1 hfz14_2 hfz14_3 hfz14_4 hfz34_0 hfz34_1 hfz34_2 hfz34_3 hfz34_4 hfz42_0 hfz42_1 hfz42_2 hfz42_3 hfz42_4 hfz46_0 hfz46_1 hfz46_2 hfz46_3 hfz46_4 p2 p6
       obtain ⟨kq, x69_46, rfl, HA, HJ46, BK564, BK575, HB⟩ := hcut
       cases kq with
       |zero => exact absurd HA.out (by simp [quot_Div.j1])
       |succ kj46 =>
        have H := HA.out
        clear HA
        simp only [quot_Div.j1] at H
        by_cases c49 : x69_46 = true
        ·subst c49
         have H1 : ((format_Zero.f a0 (t576 != t577)).bind fun t587 => (some (t587, false, false, false, false, false))) = some (r1, r2, r3, r4, r5, r6) := by rw [if_pos rfl] at H; exact H
         clear H
         have H := H1
         clear H1
         replace H := Option.bind_eq_some_iff.mp H
         obtain ⟨t587, A500, H⟩ := H
         replace H : (some (t587, false, false, false, false, false)) = some (r1, r2, r3, r4, r5, r6) := H
         have A50 := Aside0.mk A500
         clear A500
         simp only [Option.some.injEq, Prod.mk.injEq] at H
         obtain ⟨rfl, rfl, rfl, rfl, rfl, rfl⟩ := H
         go_wp2_with (first | ((with_reducible refine gate_callee (f := 68) rfl ?_); refine goesL_ (some 78) rfl rfl Try.func68 (by kernel_rfl) rfl #[.int .i64 a0, .bool (t576 != t577)] rfl gl ?_; (with_reducible refine (format_Zero.calls a0 (t576 != t577) t587 _ A50.out).mono ?_); rintro e w' ⟨rfl, ⟨nd, rfl⟩⟩; refine ⟨_, rfl, ?_⟩; (try (rw [drewN_self wc]; generalize hq_ : World.drewN wc _ = wc; have n0_ : Aside0 (wc.heap[gb564]? = some (.cells #[.bool false, .bool false, .bool false, .bool false, .bool false] 41 (0, 0))) := ⟨by rw [← hq_]; exact (bv BK564.out)⟩; have n1_ : Aside0 (wc.heap[gb575]? = some (.cells #[.bool t569, .bool t570, .bool t571, .bool t572, .bool t573] 41 (0, 0))) := ⟨by rw [← hq_]; exact (bv BK575.out)⟩; have n2_ : Aside0 (Below w.heap.size w wc) := ⟨by rw [← hq_]; exact (bl2 HB.out GE564.out GE575.out)⟩; clear BK564 BK575 HB hq_; have BK564 := n0_; have BK575 := n1_; have HB := n2_; clear n0_ n1_ n2_)); have hnb51 := NB564_575.out; have hnc51 := NB575_564.out; obtain ⟨hcz52_0, hcz52_1, hcz52_2, hcz52_3, hcz52_4⟩ := bc5 BK564.out; obtain ⟨hfz52_0, hfz52_1, hfz52_2, hfz52_3, hfz52_4⟩ := bf5 BK564.out))
         refine bodyPost_ret (results_tc rfl _ _ gb564 41 #[.bool false, .bool false, .bool false, .bool false, .bool false] (0, 0) _ rfl (by (with_reducible repeat first | apply bd | apply be | apply ba); refine blk_put (cs := F5) ?_ 4 _ rfl; (with_reducible repeat first | apply bd | apply be | apply ba); refine blk_put (cs := F5) ?_ 3 _ rfl; (with_reducible repeat first | apply bd | apply be | apply ba); refine blk_put (cs := F5) ?_ 2 _ rfl; (with_reducible repeat first | apply bd | apply be | apply ba); refine blk_put (cs := F5) ?_ 1 _ rfl; (with_reducible repeat first | apply bd | apply be | apply ba); refine blk_put (cs := F5) ?_ 0 _ rfl; (with_reducible repeat first | apply bd | apply be | apply ba); exact BK564.out) Try.underlying41 rfl (by kernel_rfl)) rfl ?_
         exact ⟨by first | rfl | (simp [errW_none, errW_some] <;> rfl) | (simp [*, errW_none, errW_some] <;> rfl), bl2 HB.out GE564.out GE575.out⟩
        ·replace c49 := Bool.eq_false_iff.mpr c49
         subst c49
         have H1 : (if t579 = 0 then ((format_Inf.f a0 (t576 != t577)).bind fun t588 => (some (t588, false, true, false, false, false))) else ((sum_Of.f a0 a2).bind fun bt589 => ((sum_Of.f a0 a3).bind fun bt593 => ((bits_Len.f kj46 bt589.2.2.1).bind fun t599 => ((bits_Shift.f kj46 bt589.2.2.1 (wrap64 (-(wrap64 (62 - t599))))).bind fun bt600 => (if bt593.2.2.1 = 0 then (none) else ((round_Pack.f kj46 a0 a1 (t576 != t577) (wrap64 ((wrap64 (bt589.2.1 - (wrap64 (62 - t599)))) - bt593.2.1)) (IntKind.u64.wrap (Int.tdiv bt600.1 bt593.2.2.1)) ((Int.tmod bt600.1 bt593.2.2.1) != 0)).bind fun bt602 => (some (bt602.1, bt602.2.1, bt602.2.2.1, bt602.2.2.2.1, bt602.2.2.2.2.1, bt602.2.2.2.2.2))))))))) = some (r1, r2, r3, r4, r5, r6) := by rw [if_neg (show ¬ (false = true) by decide)] at H; exact H
         clear H
         have H := H1
         clear H1
         by_cases c53 : t579 = 0
         ·rw [if_pos c53] at H
          have c53b0 : (t579 == 0) = true := beq_iff_eq.mpr c53
          have c53b1 : (t579 != 0) = false := bne_eq_false_iff_eq.mpr c53
          clear c53
          replace H := Option.bind_eq_some_iff.mp H
          obtain ⟨t588, A540, H⟩ := H
          replace H : (some (t588, false, true, false, false, false)) = some (r1, r2, r3, r4, r5, r6) := H
          have A54 := Aside0.mk A540
          clear A540
          simp only [Option.some.injEq, Prod.mk.injEq] at H
          obtain ⟨rfl, rfl, rfl, rfl, rfl, rfl⟩ := H
          go_wp2_with (first | ((with_reducible refine gate_callee (f := 67) rfl ?_); refine goesL_ (some 85) rfl rfl Try.func67 (by kernel_rfl) rfl #[.int .i64 a0, .bool (t576 != t577)] rfl gl ?_; (with_reducible refine (format_Inf.calls a0 (t576 != t577) t588 _ A54.out).mono ?_); rintro e w' ⟨rfl, ⟨nd, rfl⟩⟩; refine ⟨_, rfl, ?_⟩; (try (rw [drewN_self wc]; generalize hq_ : World.drewN wc _ = wc; have n0_ : Aside0 (wc.heap[gb564]? = some (.cells #[.bool false, .bool false, .bool false, .bool false, .bool false] 41 (0, 0))) := ⟨by rw [← hq_]; exact (bv BK564.out)⟩; have n1_ : Aside0 (wc.heap[gb575]? = some (.cells #[.bool t569, .bool t570, .bool t571, .bool t572, .bool t573] 41 (0, 0))) := ⟨by rw [← hq_]; exact (bv BK575.out)⟩; have n2_ : Aside0 (Below w.heap.size w wc) := ⟨by rw [← hq_]; exact (bl2 HB.out GE564.out GE575.out)⟩; clear BK564 BK575 HB hq_; have BK564 := n0_; have BK575 := n1_; have HB := n2_; clear n0_ n1_ n2_)); have hnb55 := NB564_575.out; have hnc55 := NB575_564.out; obtain ⟨hcz56_0, hcz56_1, hcz56_2, hcz56_3, hcz56_4⟩ := bc5 BK564.out; obtain ⟨hfz56_0, hfz56_1, hfz56_2, hfz56_3, hfz56_4⟩ := bf5 BK564.out))
          refine bodyPost_ret (results_tc rfl _ _ gb564 41 #[.bool false, .bool true, .bool false, .bool false, .bool false] (0, 0) _ rfl (by (with_reducible repeat first | apply bd | apply be | apply ba); refine blk_put (cs := #[.bool false, .bool true, .bool false, .bool false, .bool false]) ?_ 4 _ rfl; (with_reducible repeat first | apply bd | apply be | apply ba); refine blk_put (cs := #[.bool false, .bool true, .bool false, .bool false, .bool false]) ?_ 3 _ rfl; (with_reducible repeat first | apply bd | apply be | apply ba); refine blk_put (cs := #[.bool false, .bool true, .bool false, .bool false, .bool false]) ?_ 2 _ rfl; (with_reducible repeat first | apply bd | apply be | apply ba); refine blk_put (cs := F5) ?_ 1 _ rfl; (with_reducible repeat first | apply bd | apply be | apply ba); refine blk_put (cs := F5) ?_ 0 _ rfl; (with_reducible repeat first | apply bd | apply be | apply ba); exact BK564.out) Try.underlying41 rfl (by kernel_rfl)) rfl ?_
          exact ⟨by first | rfl | (simp [errW_none, errW_some] <;> rfl) | (simp [*, errW_none, errW_some] <;> rfl), bl2 HB.out GE564.out GE575.out⟩
         ·rw [if_neg c53] at H
          have c53b0 : (t579 == 0) = false := beq_eq_false_iff_ne.mpr c53
          have c53b1 : (t579 != 0) = true := bne_iff_ne.mpr c53
          replace H := Option.bind_eq_some_iff.mp H
          obtain ⟨⟨t589, t590, t591, t592⟩, A570, H⟩ := H
          replace H : ((sum_Of.f a0 a3).bind fun bt593 => ((bits_Len.f kj46 t591).bind fun t599 => ((bits_Shift.f kj46 t591 (wrap64 (-(wrap64 (62 - t599))))).bind fun bt600 => (if bt593.2.2.1 = 0 then (none) else ((round_Pack.f kj46 a0 a1 (t576 != t577) (wrap64 ((wrap64 (t590 - (wrap64 (62 - t599)))) - bt593.2.1)) (IntKind.u64.wrap (Int.tdiv bt600.1 bt593.2.2.1)) ((Int.tmod bt600.1 bt593.2.2.1) != 0)).bind fun bt602 => (some (bt602.1, bt602.2.1, bt602.2.2.1, bt602.2.2.2.1, bt602.2.2.2.2.1, bt602.2.2.2.2.2))))))) = some (r1, r2, r3, r4, r5, r6) := H
          have A57 := Aside0.mk A570
          clear A570
          replace H := Option.bind_eq_some_iff.mp H
          obtain ⟨⟨t593, t594, t595, t596⟩, A580, H⟩ := H
          replace H : ((bits_Len.f kj46 t591).bind fun t599 => ((bits_Shift.f kj46 t591 (wrap64 (-(wrap64 (62 - t599))))).bind fun bt600 => (if t595 = 0 then (none) else ((round_Pack.f kj46 a0 a1 (t576 != t577) (wrap64 ((wrap64 (t590 - (wrap64 (62 - t599)))) - t594)) (IntKind.u64.wrap (Int.tdiv bt600.1 t595)) ((Int.tmod bt600.1 t595) != 0)).bind fun bt602 => (some (bt602.1, bt602.2.1, bt602.2.2.1, bt602.2.2.2.1, bt602.2.2.2.2.1, bt602.2.2.2.2.2)))))) = some (r1, r2, r3, r4, r5, r6) := H
          have A58 := Aside0.mk A580
          clear A580
          replace H := Option.bind_eq_some_iff.mp H
          obtain ⟨t599, A590, H⟩ := H
          replace H : ((bits_Shift.f kj46 t591 (wrap64 (-(wrap64 (62 - t599))))).bind fun bt600 => (if t595 = 0 then (none) else ((round_Pack.f kj46 a0 a1 (t576 != t577) (wrap64 ((wrap64 (t590 - (wrap64 (62 - t599)))) - t594)) (IntKind.u64.wrap (Int.tdiv bt600.1 t595)) ((Int.tmod bt600.1 t595) != 0)).bind fun bt602 => (some (bt602.1, bt602.2.1, bt602.2.2.1, bt602.2.2.2.1, bt602.2.2.2.2.1, bt602.2.2.2.2.2))))) = some (r1, r2, r3, r4, r5, r6) := H
          have A59 := Aside0.mk A590
          clear A590
          replace H := Option.bind_eq_some_iff.mp H
          obtain ⟨⟨t600, t601⟩, A600, H⟩ := H
          replace H : (if t595 = 0 then (none) else ((round_Pack.f kj46 a0 a1 (t576 != t577) (wrap64 ((wrap64 (t590 - (wrap64 (62 - t599)))) - t594)) (IntKind.u64.wrap (Int.tdiv t600 t595)) ((Int.tmod t600 t595) != 0)).bind fun bt602 => (some (bt602.1, bt602.2.1, bt602.2.2.1, bt602.2.2.2.1, bt602.2.2.2.2.1, bt602.2.2.2.2.2)))) = some (r1, r2, r3, r4, r5, r6) := H
          have A60 := Aside0.mk A600
          clear A600
          by_cases c61 : t595 = 0
          ·rw [if_pos c61] at H
           exact absurd H (by simp)
          ·rw [if_neg c61] at H
           have c61b0 : (t595 == 0) = false := beq_eq_false_iff_ne.mpr c61
           have c61b1 : (t595 != 0) = true := bne_iff_ne.mpr c61
           replace H := Option.bind_eq_some_iff.mp H
           obtain ⟨⟨t602, t603, t604, t605, t606, t607⟩, A620, H⟩ := H
           replace H : (some (t602, t603, t604, t605, t606, t607)) = some (r1, r2, r3, r4, r5, r6) := H
           have A62 := Aside0.mk A620
           clear A620
           simp only [Option.some.injEq, Prod.mk.injEq] at H
           obtain ⟨rfl, rfl, rfl, rfl, rfl, rfl⟩ := H
           try go_wp2_with (first | ((with_reducible refine gate_callee (f := 55) rfl ?_); refine goesL_ (some 89) rfl rfl Try.func55 (by kernel_rfl) rfl #[.int .i64 a0, .int .u32 a2] rfl gl ?_; (with_reducible refine (sum_Of.calls a0 a2 t589 t590 t591 t592 _ A57.out).mono ?_); rintro e w63 ⟨rfl, hb⟩; refine ⟨_, rfl, ?_⟩; have n0_ := Aside0.mk (blk_below (g := gb564) (o := .cells #[.bool false, .bool false, .bool false, .bool false, .bool false] 41 (0, 0)) (bv BK564.out) hb); have n1_ := Aside0.mk (blk_below (g := gb575) (o := .cells #[.bool t569, .bool t570, .bool t571, .bool t572, .bool t573] 41 (0, 0)) (bv BK575.out) hb); have n2_ := Aside0.mk (below_step (bl2 HB.out GE564.out GE575.out) hb); clear BK564; clear BK575; clear HB; have BK564 := n0_; have BK575 := n1_; have HB := n2_; clear n0_ n1_ n2_) | ((with_reducible refine gate_callee (f := 55) rfl ?_); refine goesL_ (some 92) rfl rfl Try.func55 (by kernel_rfl) rfl #[.int .i64 a0, .int .u32 a3] rfl gl ?_; (with_reducible refine (sum_Of.calls a0 a3 t593 t594 t595 t596 _ A58.out).mono ?_); rintro e w64 ⟨rfl, hb⟩; refine ⟨_, rfl, ?_⟩; have n0_ := Aside0.mk (blk_below (g := gb564) (o := .cells #[.bool false, .bool false, .bool false, .bool false, .bool false] 41 (0, 0)) (bv BK564.out) hb); have n1_ := Aside0.mk (blk_below (g := gb575) (o := .cells #[.bool t569, .bool t570, .bool t571, .bool t572, .bool t573] 41 (0, 0)) (bv BK575.out) hb); have n2_ := Aside0.mk (below_step (bl2 HB.out GE564.out GE575.out) hb); clear BK564; clear BK575; clear HB; have BK564 := n0_; have BK575 := n1_; have HB := n2_; clear n0_ n1_ n2_) | ((with_reducible refine gate_dst (N := 16) rfl ?_); refine box_event ?hg (N := 16) ?hd (cs := #[.bool false, .int .i64 0, .int .u64 0, .bool false]) (t := 75) ?hr ?_; (case hd => rfl); (case hg => rfl); (case hr => first | (go_simp; done) | (go_simp; rfl)); intro gb597 hg w65 hbox hb; have n0_ := Aside0.mk (blk_below (g := gb564) (o := .cells #[.bool false, .bool false, .bool false, .bool false, .bool false] 41 (0, 0)) (bv BK564.out) hb); have n1_ := Aside0.mk (blk_below (g := gb575) (o := .cells #[.bool t569, .bool t570, .bool t571, .bool t572, .bool t573] 41 (0, 0)) (bv BK575.out) hb); have n2_ := Aside0.mk (below_step (bl2 HB.out GE564.out GE575.out) hb); have n3_ := Aside0.mk (hbox); have n4_ := Aside0.mk ((by rw [hg]; exact (below_size (bl2 HB.out GE564.out GE575.out)) : w.heap.size ≤ gb597)); have n5_ := n4_; have n6_ := Aside0.mk ((by rw [hg]; exact Nat.ne_of_lt (blk_lt (g := gb564) (o := .cells F5 41 (0, 0)) (bv BK564.out)) : gb564 ≠ gb597)); have n7_ := Aside0.mk (Ne.symm n6_.out); have n8_ := Aside0.mk ((by rw [hg]; exact Nat.ne_of_lt (blk_lt (g := gb575) (o := .cells #[.bool t569, .bool t570, .bool t571, .bool t572, .bool t573] 41 (0, 0)) (bv BK575.out)) : gb575 ≠ gb597)); have n9_ := Aside0.mk (Ne.symm n8_.out); clear BK564; clear BK575; clear HB; have BK564 := n0_; have BK575 := n1_; have HB := n2_; have BK597 := n3_; have GW597 := n4_; have GE597 := n5_; have NB564_597 := n6_; have NB597_564 := n7_; have NB575_597 := n8_; have NB597_575 := n9_; clear n0_ n1_ n2_ n3_ n4_ n5_ n6_ n7_ n8_ n9_; clear hb hbox hg) | ((with_reducible refine gate_dst (N := 17) rfl ?_); refine box_event ?hg (N := 17) ?hd (cs := #[.bool false, .int .i64 0, .int .u64 0, .bool false]) (t := 75) ?hr ?_; (case hd => rfl); (case hg => rfl); (case hr => first | (go_simp; done) | (go_simp; rfl)); intro gb598 hg w66 hbox hb; have n0_ := Aside0.mk (blk_below (g := gb564) (o := .cells #[.bool false, .bool false, .bool false, .bool false, .bool false] 41 (0, 0)) (bv BK564.out) hb); have n1_ := Aside0.mk (blk_below (g := gb575) (o := .cells #[.bool t569, .bool t570, .bool t571, .bool t572, .bool t573] 41 (0, 0)) (bv BK575.out) hb); have n2_ := Aside0.mk (blk_below (g := gb597) (o := .cells #[.bool false, .int .i64 0, .int .u64 0, .bool false] 75 (0, 0)) (bv BK597.out) hb); have n3_ := Aside0.mk (below_step (bl3 HB.out GE564.out GE575.out GE597.out) hb); have n4_ := Aside0.mk (hbox); have n5_ := Aside0.mk ((by rw [hg]; exact (below_size (bl3 HB.out GE564.out GE575.out GE597.out)) : w.heap.size ≤ gb598)); have n6_ := n5_; have n7_ := Aside0.mk ((by rw [hg]; exact Nat.ne_of_lt (blk_lt (g := gb564) (o := .cells F5 41 (0, 0)) (bv BK564.out)) : gb564 ≠ gb598)); have n8_ := Aside0.mk (Ne.symm n7_.out); have n9_ := Aside0.mk ((by rw [hg]; exact Nat.ne_of_lt (blk_lt (g := gb575) (o := .cells #[.bool t569, .bool t570, .bool t571, .bool t572, .bool t573] 41 (0, 0)) (bv BK575.out)) : gb575 ≠ gb598)); have n10_ := Aside0.mk (Ne.symm n9_.out); have n11_ := Aside0.mk ((by rw [hg]; exact Nat.ne_of_lt (blk_lt (g := gb597) (o := .cells #[.bool false, .int .i64 0, .int .u64 0, .bool false] 75 (0, 0)) (bv BK597.out)) : gb597 ≠ gb598)); have n12_ := Aside0.mk (Ne.symm n11_.out); clear BK564; clear BK575; clear BK597; clear HB; have BK564 := n0_; have BK575 := n1_; have BK597 := n2_; have HB := n3_; have BK598 := n4_; have GW598 := n5_; have GE598 := n6_; have NB564_598 := n7_; have NB598_564 := n8_; have NB575_598 := n9_; have NB598_575 := n10_; have NB597_598 := n11_; have NB598_597 := n12_; clear n0_ n1_ n2_ n3_ n4_ n5_ n6_ n7_ n8_ n9_ n10_ n11_ n12_; clear hb hbox hg; have hnb67 := NB597_564.out; have hnc67 := NB564_597.out; have hnb68 := NB597_575.out; have hnc68 := NB575_597.out; have hnb69 := NB597_598.out; have hnc69 := NB598_597.out; obtain ⟨hcz70_0, hcz70_1, hcz70_2, hcz70_3⟩ := bc4 BK597.out; obtain ⟨hfz70_0, hfz70_1, hfz70_2, hfz70_3⟩ := bf4 BK597.out) | ((with_reducible refine gate_store (t := 75) (p := 16) rfl ?_); refine store_event (t := 75) (p := 16) (v := ?vo_w71) (w1 := ((((w66.setCell ⟨gb597, 0, none⟩ (.bool t589)).setCell ⟨gb597, 1, none⟩ (.int .i64 t590)).setCell ⟨gb597, 2, none⟩ (.int .u64 t591)).setCell ⟨gb597, 3, none⟩ (.bool t592))) ?hg ?ho ?hn ?hr ?_; (case ho => rfl); (case hg => rfl); (case hn => rfl); (case hr => first | (go_simp; done) | (go_simp; rfl)); intro w71 hw; have n0_ : Aside0 (w71.heap[gb564]? = some (.cells #[.bool false, .bool false, .bool false, .bool false, .bool false] 41 (0, 0))) := ⟨(by rw [hw]; exact (by (with_reducible repeat first | apply bd | apply be | apply ba); refine blk_far ?_ NB564_597.out _; (with_reducible repeat first | apply bd | apply be | apply ba); refine blk_far ?_ NB564_597.out _; (with_reducible repeat first | apply bd | apply be | apply ba); refine blk_far ?_ NB564_597.out _; (with_reducible repeat first | apply bd | apply be | apply ba); refine blk_far ?_ NB564_597.out _; (with_reducible repeat first | apply bd | apply be | apply ba); exact BK564.out))⟩; have n1_ : Aside0 (w71.heap[gb575]? = some (.cells #[.bool t569, .bool t570, .bool t571, .bool t572, .bool t573] 41 (0, 0))) := ⟨(by rw [hw]; exact (by (with_reducible repeat first | apply bd | apply be | apply ba); refine blk_far ?_ NB575_597.out _; (with_reducible repeat first | apply bd | apply be | apply ba); refine blk_far ?_ NB575_597.out _; (with_reducible repeat first | apply bd | apply be | apply ba); refine blk_far ?_ NB575_597.out _; (with_reducible repeat first | apply bd | apply be | apply ba); refine blk_far ?_ NB575_597.out _; (with_reducible repeat first | apply bd | apply be | apply ba); exact BK575.out))⟩; have n2_ : Aside0 (w71.heap[gb597]? = some (.cells #[.bool t589, .int .i64 t590, .int .u64 t591, .bool t592] 75 (0, 0))) := ⟨(by rw [hw]; exact (by (with_reducible repeat first | apply bd | apply be | apply ba); refine blk_put (cs := #[.bool t589, .int .i64 t590, .int .u64 t591, .bool false]) ?_ 3 _ rfl; (with_reducible repeat first | apply bd | apply be | apply ba); refine blk_put (cs := #[.bool t589, .int .i64 t590, .int .u64 0, .bool false]) ?_ 2 _ rfl; (with_reducible repeat first | apply bd | apply be | apply ba); refine blk_put (cs := #[.bool t589, .int .i64 0, .int .u64 0, .bool false]) ?_ 1 _ rfl; (with_reducible repeat first | apply bd | apply be | apply ba); refine blk_put (cs := #[.bool false, .int .i64 0, .int .u64 0, .bool false]) ?_ 0 _ rfl; (with_reducible repeat first | apply bd | apply be | apply ba); exact BK597.out))⟩; have n3_ : Aside0 (w71.heap[gb598]? = some (.cells #[.bool false, .int .i64 0, .int .u64 0, .bool false] 75 (0, 0))) := ⟨(by rw [hw]; exact (by (with_reducible repeat first | apply bd | apply be | apply ba); refine blk_far ?_ NB598_597.out _; (with_reducible repeat first | apply bd | apply be | apply ba); refine blk_far ?_ NB598_597.out _; (with_reducible repeat first | apply bd | apply be | apply ba); refine blk_far ?_ NB598_597.out _; (with_reducible repeat first | apply bd | apply be | apply ba); refine blk_far ?_ NB598_597.out _; (with_reducible repeat first | apply bd | apply be | apply ba); exact BK598.out))⟩; have n4_ : Aside0 (Below w.heap.size w w71) := ⟨(by rw [hw]; exact (bl4 HB.out GE564.out GE575.out GE597.out GE598.out))⟩; clear hw; clear BK564; clear BK575; clear BK597; clear BK598; clear HB; have BK564 := n0_; have BK575 := n1_; have BK597 := n2_; have BK598 := n3_; have HB := n4_; clear n0_ n1_ n2_ n3_ n4_; have hnb72 := NB598_564.out; have hnc72 := NB564_598.out; have hnb73 := NB598_575.out; have hnc73 := NB575_598.out; obtain ⟨hcz74_0, hcz74_1, hcz74_2, hcz74_3⟩ := bc4 BK598.out; obtain ⟨hfz74_0, hfz74_1, hfz74_2, hfz74_3⟩ := bf4 BK598.out) | ((with_reducible refine gate_store (t := 75) (p := 17) rfl ?_); refine store_event (t := 75) (p := 17) (v := ?vo_w75) (w1 := ((((w71.setCell ⟨gb598, 0, none⟩ (.bool t593)).setCell ⟨gb598, 1, none⟩ (.int .i64 t594)).setCell ⟨gb598, 2, none⟩ (.int .u64 t595)).setCell ⟨gb598, 3, none⟩ (.bool t596))) ?hg ?ho ?hn ?hr ?_; (case ho => rfl); (case hg => rfl); (case hn => rfl); (case hr => first | (go_simp; done) | (go_simp; rfl)); intro w75 hw; have n0_ : Aside0 (w75.heap[gb564]? = some (.cells #[.bool false, .bool false, .bool false, .bool false, .bool false] 41 (0, 0))) := ⟨(by rw [hw]; exact (by (with_reducible repeat first | apply bd | apply be | apply ba); refine blk_far ?_ NB564_598.out _; (with_reducible repeat first | apply bd | apply be | apply ba); refine blk_far ?_ NB564_598.out _; (with_reducible repeat first | apply bd | apply be | apply ba); refine blk_far ?_ NB564_598.out _; (with_reducible repeat first | apply bd | apply be | apply ba); refine blk_far ?_ NB564_598.out _; (with_reducible repeat first | apply bd | apply be | apply ba); exact BK564.out))⟩; have n1_ : Aside0 (w75.heap[gb575]? = some (.cells #[.bool t569, .bool t570, .bool t571, .bool t572, .bool t573] 41 (0, 0))) := ⟨(by rw [hw]; exact (by (with_reducible repeat first | apply bd | apply be | apply ba); refine blk_far ?_ NB575_598.out _; (with_reducible repeat first | apply bd | apply be | apply ba); refine blk_far ?_ NB575_598.out _; (with_reducible repeat first | apply bd | apply be | apply ba); refine blk_far ?_ NB575_598.out _; (with_reducible repeat first | apply bd | apply be | apply ba); refine blk_far ?_ NB575_598.out _; (with_reducible repeat first | apply bd | apply be | apply ba); exact BK575.out))⟩; have n2_ : Aside0 (w75.heap[gb597]? = some (.cells #[.bool t589, .int .i64 t590, .int .u64 t591, .bool t592] 75 (0, 0))) := ⟨(by rw [hw]; exact (by (with_reducible repeat first | apply bd | apply be | apply ba); refine blk_far ?_ NB597_598.out _; (with_reducible repeat first | apply bd | apply be | apply ba); refine blk_far ?_ NB597_598.out _; (with_reducible repeat first | apply bd | apply be | apply ba); refine blk_far ?_ NB597_598.out _; (with_reducible repeat first | apply bd | apply be | apply ba); refine blk_far ?_ NB597_598.out _; (with_reducible repeat first | apply bd | apply be | apply ba); exact BK597.out))⟩; have n3_ : Aside0 (w75.heap[gb598]? = some (.cells #[.bool t593, .int .i64 t594, .int .u64 t595, .bool t596] 75 (0, 0))) := ⟨(by rw [hw]; exact (by (with_reducible repeat first | apply bd | apply be | apply ba); refine blk_put (cs := #[.bool t593, .int .i64 t594, .int .u64 t595, .bool false]) ?_ 3 _ rfl; (with_reducible repeat first | apply bd | apply be | apply ba); refine blk_put (cs := #[.bool t593, .int .i64 t594, .int .u64 0, .bool false]) ?_ 2 _ rfl; (with_reducible repeat first | apply bd | apply be | apply ba); refine blk_put (cs := #[.bool t593, .int .i64 0, .int .u64 0, .bool false]) ?_ 1 _ rfl; (with_reducible repeat first | apply bd | apply be | apply ba); refine blk_put (cs := #[.bool false, .int .i64 0, .int .u64 0, .bool false]) ?_ 0 _ rfl; (with_reducible repeat first | apply bd | apply be | apply ba); exact BK598.out))⟩; have n4_ : Aside0 (Below w.heap.size w w75) := ⟨(by rw [hw]; exact (bl4 HB.out GE564.out GE575.out GE597.out GE598.out))⟩; clear hw; clear BK564; clear BK575; clear BK597; clear BK598; clear HB; have BK564 := n0_; have BK575 := n1_; have BK597 := n2_; have BK598 := n3_; have HB := n4_; clear n0_ n1_ n2_ n3_ n4_; obtain ⟨hcz76_0, hcz76_1, hcz76_2, hcz76_3⟩ := bc4 BK597.out; obtain ⟨hfz76_0, hfz76_1, hfz76_2, hfz76_3⟩ := bf4 BK597.out) | ((with_reducible refine gate_callee (f := 69) rfl ?_); refine goesL_ (some 95) rfl rfl Try.func69 (by kernel_rfl) rfl #[.int .u64 t591] rfl gl ?_; (with_reducible refine (bits_Len.calls kj46 t591 t599 _ A59.out).mono ?_); rintro e w' ⟨rfl, ⟨nd, rfl⟩⟩; refine ⟨_, rfl, ?_⟩; (try (rw [drewN_self w75]; generalize hq_ : World.drewN w75 _ = w75; have n0_ : Aside0 (w75.heap[gb564]? = some (.cells #[.bool false, .bool false, .bool false, .bool false, .bool false] 41 (0, 0))) := ⟨by rw [← hq_]; exact (bv BK564.out)⟩; have n1_ : Aside0 (w75.heap[gb575]? = some (.cells #[.bool t569, .bool t570, .bool t571, .bool t572, .bool t573] 41 (0, 0))) := ⟨by rw [← hq_]; exact (bv BK575.out)⟩; have n2_ : Aside0 (w75.heap[gb597]? = some (.cells #[.bool t589, .int .i64 t590, .int .u64 t591, .bool t592] 75 (0, 0))) := ⟨by rw [← hq_]; exact (bv BK597.out)⟩; have n3_ : Aside0 (w75.heap[gb598]? = some (.cells #[.bool t593, .int .i64 t594, .int .u64 t595, .bool t596] 75 (0, 0))) := ⟨by rw [← hq_]; exact (bv BK598.out)⟩; have n4_ : Aside0 (Below w.heap.size w w75) := ⟨by rw [← hq_]; exact (bl4 HB.out GE564.out GE575.out GE597.out GE598.out)⟩; clear BK564 BK575 BK597 BK598 HB hq_; have BK564 := n0_; have BK575 := n1_; have BK597 := n2_; have BK598 := n3_; have HB := n4_; clear n0_ n1_ n2_ n3_ n4_)); obtain ⟨hcz77_0, hcz77_1, hcz77_2, hcz77_3⟩ := bc4 BK597.out; obtain ⟨hfz77_0, hfz77_1, hfz77_2, hfz77_3⟩ := bf4 BK597.out) | ((with_reducible refine gate_callee (f := 70) rfl ?_); refine goesL_ (some 102) rfl rfl Try.func70 (by kernel_rfl) rfl #[.int .u64 t591, .int .i64 (wrap64 (-(wrap64 (62 - t599))))] rfl gl ?_; (with_reducible refine (bits_Shift.calls kj46 t591 (wrap64 (-(wrap64 (62 - t599)))) t600 t601 _ A60.out).mono ?_); rintro e w' ⟨rfl, ⟨nd, rfl⟩⟩; refine ⟨_, rfl, ?_⟩; (try (rw [drewN_self w75]; generalize hq_ : World.drewN w75 _ = w75; have n0_ : Aside0 (w75.heap[gb564]? = some (.cells #[.bool false, .bool false, .bool false, .bool false, .bool false] 41 (0, 0))) := ⟨by rw [← hq_]; exact (bv BK564.out)⟩; have n1_ : Aside0 (w75.heap[gb575]? = some (.cells #[.bool t569, .bool t570, .bool t571, .bool t572, .bool t573] 41 (0, 0))) := ⟨by rw [← hq_]; exact (bv BK575.out)⟩; have n2_ : Aside0 (w75.heap[gb597]? = some (.cells #[.bool t589, .int .i64 t590, .int .u64 t591, .bool t592] 75 (0, 0))) := ⟨by rw [← hq_]; exact (bv BK597.out)⟩; have n3_ : Aside0 (w75.heap[gb598]? = some (.cells #[.bool t593, .int .i64 t594, .int .u64 t595, .bool t596] 75 (0, 0))) := ⟨by rw [← hq_]; exact (bv BK598.out)⟩; have n4_ : Aside0 (Below w.heap.size w w75) := ⟨by rw [← hq_]; exact (bl4 HB.out GE564.out GE575.out GE597.out GE598.out)⟩; clear BK564 BK575 BK597 BK598 HB hq_; have BK564 := n0_; have BK575 := n1_; have BK597 := n2_; have BK598 := n3_; have HB := n4_; clear n0_ n1_ n2_ n3_ n4_))))
           have n0_ := Aside0.mk (blk_drew BK564.out)
           have n1_ := Aside0.mk (blk_drew BK575.out)
           have n2_ := Aside0.mk (blk_drew BK597.out)
           have n3_ := Aside0.mk (blk_drew BK598.out)
           have n4_ := Aside0.mk (below_drew1 HB.out)
           clear BK564
           clear BK575
           clear BK597
           clear BK598
           clear HB
           have BK564 := n0_
           have BK575 := n1_
           have BK597 := n2_
           have BK598 := n3_
           have HB := n4_
           clear n0_ n1_ n2_ n3_ n4_
           refine start_ (n := 24) (S := fun w' => w'.cell? ⟨gb597, 0, none⟩ = some (.bool t589) ∧ w'.cell? ⟨gb597, 1, none⟩ = some (.int .i64 t590) ∧ w'.cell? ⟨gb597, 2, none⟩ = some (.int .u64 t591) ∧ w'.cell? ⟨gb597, 3, none⟩ = some (.bool t592) ∧ w'.cell? ⟨gb598, 0, none⟩ = some (.bool t593) ∧ w'.cell? ⟨gb598, 1, none⟩ = some (.int .i64 t594) ∧ w'.cell? ⟨gb598, 2, none⟩ = some (.int .u64 t595) ∧ w'.cell? ⟨gb598, 3, none⟩ = some (.bool t596)) (ds := []) (tf 0 24) (by kernel_rfl) rfl rfl ⟨(blk_cell BK597.out 0).trans rfl, (blk_cell BK597.out 1).trans rfl, (blk_cell BK597.out 2).trans rfl, (blk_cell BK597.out 3).trans rfl, (blk_cell BK598.out 0).trans rfl, (blk_cell BK598.out 1).trans rfl, (blk_cell BK598.out 2).trans rfl, (blk_cell BK598.out 3).trans rfl⟩ (fun hHeld => ?_); refine with_tabW quot_Div.tab17 quot_Div.bits17 (fun HT_ HW_ => ?_)
           generalize w75.drew = w78 at BK564 BK575 BK597 BK598 HB hHeld ⊢
           refine pure_ (i := 0) (N := some 105) (v := ?_) (a' := ?_) (tf 1 23) rfl rfl (any_of HT_.out (by kernel_rfl)) (fun _ _ _ h => h) (Or.inl ⟨by rfl, ?_⟩) ?_ ?_
           rotate_left
           ·intro w'
            go_simp
            with_reducible rfl
           rotate_left
           ·simp only [Act.put, sb, sz, ss, i64_w, i32_w]
            rfl
           refine pure_ (i := 1) (N := some 106) (v := ?_) (a' := ?_) (tf 2 22) rfl rfl (any_of HT_.out (by kernel_rfl)) (fun _ _ _ h => h) (Or.inl ⟨by rfl, ?_⟩) ?_ ?_
           rotate_left
           ·intro w'
            go_simp
            with_reducible rfl
           rotate_left
           ·simp only [Act.put, sb, sz, ss, i64_w, i32_w]
            rfl
           refine pure_ (i := 2) (N := some 107) (v := ?_) (a' := ?_) (tf 3 21) rfl rfl (any_of HT_.out (by kernel_rfl)) (fun _ _ _ h => h) (Or.inl ⟨by rfl, ?_⟩) ?_ ?_
           rotate_left
           ·intro w'
            go_simp
            with_reducible rfl
           rotate_left
           ·simp only [Act.put, sb, sz, ss, i64_w, i32_w]
            rfl
           refine pure_ (i := 3) (N := some 108) (v := ?_) (a' := ?_) (tf 4 20) rfl rfl (any_of HT_.out (by kernel_rfl)) (fun _ _ _ h => h) (Or.inl ⟨by rfl, ?_⟩) ?_ ?_
           rotate_left
           ·intro w'
            go_simp
            with_reducible rfl
           rotate_left
           ·simp only [Act.put, sb, sz, ss, i64_w, i32_w]
            rfl
           refine pure_ (i := 5) (N := some 110) (v := ?_) (a' := ?_) #[true, true, true, true, false, true, false, false, false, false, false, false, false, false, false, false, false, false, false, false, false, false, false, false] rfl rfl (any_of HT_.out (by kernel_rfl)) (fun _ _ _ h => h) (Or.inl ⟨by rfl, ?_⟩) ?_ ?_
           rotate_left
           ·intro w'
            go_simp
            with_reducible rfl
           rotate_left
           ·simp only [Act.put, sb, sz, ss, i64_w, i32_w]
            rfl
           refine pure_ (i := 7) (N := some 112) (v := ?_) (a' := ?_) #[true, true, true, true, false, true, false, true, false, false, false, false, false, false, false, false, false, false, false, false, false, false, false, false] rfl rfl (any_of HT_.out (by kernel_rfl)) (fun _ _ _ h => h) (Or.inl ⟨by rfl, ?_⟩) ?_ ?_
           rotate_left
           ·intro w'
            go_simp
            with_reducible rfl
           rotate_left
           ·simp only [Act.put, sb, sz, ss, i64_w, i32_w]
            rfl
           refine pure_ (i := 10) (N := some 115) (v := ?_) (a' := ?_) #[true, true, true, true, false, true, false, true, false, false, true, false, false, false, false, false, false, false, false, false, false, false, false, false] rfl rfl (any_of HT_.out (by kernel_rfl)) (fun _ _ _ h => h) (Or.inl ⟨by rfl, ?_⟩) ?_ ?_
           rotate_left
           ·intro w'
            go_simp
            with_reducible rfl
           rotate_left
           ·simp only [Act.put, sb, sz, ss, i64_w, i32_w]
            rfl
           refine pure_ (i := 11) (N := some 116) (v := ?_) (a' := ?_) #[true, true, true, true, false, true, false, true, false, false, true, true, false, false, false, false, false, false, false, false, false, false, false, false] rfl rfl (any_of HT_.out (by kernel_rfl)) (fun _ _ _ h => h) (Or.inl ⟨by rfl, ?_⟩) ?_ ?_
           rotate_left
           ·intro w'
            go_simp
            with_reducible rfl
           rotate_left
           ·simp only [Act.put, sb, sz, ss, i64_w, i32_w]
            rfl
           refine pure_ (i := 14) (N := some 119) (v := ?_) (a' := ?_) #[true, true, true, true, false, true, false, true, false, false, true, true, false, false, true, false, false, false, false, false, false, false, false, false] rfl rfl (any_of HT_.out (by kernel_rfl)) (fun _ _ _ h => h) (Or.inl ⟨by rfl, ?_⟩) ?_ ?_
           rotate_left
           ·intro w'
            go_simp
            with_reducible rfl
           rotate_left
           ·simp only [Act.put, sb, sz, ss, i64_w, i32_w]
            rfl
           refine pure_ (i := 15) (N := some 120) (v := ?_) (a' := ?_) #[true, true, true, true, false, true, false, true, false, false, true, true, false, false, true, true, false, false, false, false, false, false, false, false] rfl rfl (any_of HT_.out (by kernel_rfl)) (fun _ _ _ h => h) (Or.inl ⟨by rfl, ?_⟩) ?_ ?_
           rotate_left
           ·intro w'
            go_simp
            with_reducible rfl
           rotate_left
           ·simp only [Act.put, sb, sz, ss, i64_w, i32_w]
            rfl
           refine take_ (i := 4) (N := some 109) (v := ?_) (a' := ?_) #[true, true, true, true, true, true, false, true, false, false, true, true, false, false, true, true, false, false, false, false, false, false, false, false] rfl rfl (take_ofW HT_.out HW_.out (by kernel_rfl)) (fun _ _ _ h => h) (Or.inl ⟨by rfl, ?_⟩) hHeld ?_ ?_
           rotate_left
           ·rintro w' ⟨s0, s1, s2, s3, s4, s5, s6, s7⟩
            go_simp
            with_reducible rfl
           rotate_left
           ·simp only [Act.put, sb, sz, ss, i64_w, i32_w]
            rfl
           refine pure_ (i := 6) (N := some 111) (v := ?_) (a' := ?_) #[true, true, true, true, true, true, true, true, false, false, true, true, false, false, true, true, false, false, false, false, false, false, false, false] rfl rfl (any_of HT_.out (by kernel_rfl)) (fun _ _ _ h => h) (Or.inl ⟨by rfl, ?_⟩) ?_ ?_
           rotate_left
           ·intro w'
            go_simp
            with_reducible rfl
           rotate_left
           ·simp only [Act.put, sb, sz, ss, i64_w, i32_w]
            rfl
           refine take_ (i := 8) (N := some 113) (v := ?_) (a' := ?_) #[true, true, true, true, true, true, true, true, true, false, true, true, false, false, true, true, false, false, false, false, false, false, false, false] rfl rfl (take_ofW HT_.out HW_.out (by kernel_rfl)) (fun _ _ _ h => h) (Or.inl ⟨by rfl, ?_⟩) hHeld ?_ ?_
           rotate_left
           ·rintro w' ⟨s0, s1, s2, s3, s4, s5, s6, s7⟩
            go_simp
            with_reducible rfl
           rotate_left
           ·simp only [Act.put, sb, sz, ss, i64_w, i32_w]
            rfl
           refine pure_ (i := 9) (N := some 114) (v := ?_) (a' := ?_) #[true, true, true, true, true, true, true, true, true, true, true, true, false, false, true, true, false, false, false, false, false, false, false, false] rfl rfl (any_of HT_.out (by kernel_rfl)) (fun _ _ _ h => h) (Or.inl ⟨by rfl, ?_⟩) ?_ ?_
           rotate_left
           ·intro w'
            go_simp
            with_reducible rfl
           rotate_left
           ·simp only [Act.put, sb, sz, ss, i64_w, i32_w]
            rfl
           refine take_ (i := 12) (N := some 117) (v := ?_) (a' := ?_) #[true, true, true, true, true, true, true, true, true, true, true, true, true, false, true, true, false, false, false, false, false, false, false, false] rfl rfl (take_ofW HT_.out HW_.out (by kernel_rfl)) (fun _ _ _ h => h) (Or.inl ⟨by rfl, ?_⟩) hHeld ?_ ?_
           rotate_left
           ·rintro w' ⟨s0, s1, s2, s3, s4, s5, s6, s7⟩
            go_simp
            with_reducible rfl
           rotate_left
           ·simp only [Act.put, sb, sz, ss, i64_w, i32_w]
            rfl
           refine pure_ (i := 13) (N := some 118) (v := ?_) (a' := ?_) (tf 16 8) rfl rfl (any_of HT_.out (by kernel_rfl)) (fun _ _ _ h => h) (Or.inl ⟨by rfl, ?_⟩) ?_ ?_
           rotate_left
           ·intro w'
            go_simp
            with_reducible rfl
           rotate_left
           ·simp only [Act.put, sb, sz, ss, i64_w, i32_w]
            rfl
           refine take_ (i := 16) (N := some 121) (v := ?_) (a' := ?_) (tf 17 7) rfl rfl (take_ofW HT_.out HW_.out (by kernel_rfl)) (fun _ _ _ h => h) (Or.inl ⟨by rfl, ?_⟩) hHeld ?_ ?_
           rotate_left
           ·rintro w' ⟨s0, s1, s2, s3, s4, s5, s6, s7⟩
            go_simp
            with_reducible rfl
           rotate_left
           ·simp only [Act.put, sb, sz, ss, i64_w, i32_w]
            rfl
           refine pure_ (i := 17) (N := some 122) (v := ?_) (a' := ?_) (tf 18 6) rfl rfl (any_of HT_.out (by kernel_rfl)) (fun _ _ _ h => h) (Or.inl ⟨by rfl, ?_⟩) ?_ ?_
           rotate_left
           ·intro w'
            go_simp
            with_reducible rfl
           rotate_left
           ·simp only [Act.put, sb, sz, ss, i64_w, i32_w]
            rfl
           refine pure_ (i := 18) (N := some 123) (v := ?_) (a' := ?_) (tf 19 5) rfl rfl (any_of HT_.out (by kernel_rfl)) (fun _ _ _ h => h) (Or.inl ⟨by rfl, ?_⟩) ?_ ?_
           rotate_left
           ·intro w'
            go_simp
            with_reducible rfl
           rotate_left
           ·simp only [Act.put, sb, sz, ss, i64_w, i32_w]
            rfl
           refine one_ (i := 19) (N := some 124) (tf 20 4) rfl rfl (one_of HT_.out (by kernel_rfl)) (by decide) (fun K hK => ?_)
           refine goes_ Try.func51 (by kernel_rfl) rfl #[.int .i64 a0, .int .i64 a1, .bool (t576 != t577), .int .i64 (wrap64 ((wrap64 (t590 - (wrap64 (62 - t599)))) - t594)), .int .u64 (IntKind.u64.wrap (Int.tdiv t600 t595)), .bool ((Int.tmod t600 t595) != 0)] (by rfl) rfl rfl gl ?_
           with_reducible refine (round_Pack.calls kj46 a0 a1 (t576 != t577) (wrap64 ((wrap64 (t590 - (wrap64 (62 - t599)))) - t594)) (IntKind.u64.wrap (Int.tdiv t600 t595)) ((Int.tmod t600 t595) != 0) t602 t603 t604 t605 t606 t607 _ A62.out).mono ?_
           rintro e w79 ⟨rfl, hb⟩
           refine ⟨_, rfl, ?_⟩
           have n0_ := Aside0.mk (blk_below (g := gb564) (o := .cells #[.bool false, .bool false, .bool false, .bool false, .bool false] 41 (0, 0)) (bv BK564.out) hb)
           have n1_ := Aside0.mk (blk_below (g := gb575) (o := .cells #[.bool t569, .bool t570, .bool t571, .bool t572, .bool t573] 41 (0, 0)) (bv BK575.out) hb)
           have n2_ := Aside0.mk (blk_below (g := gb597) (o := .cells #[.bool t589, .int .i64 t590, .int .u64 t591, .bool t592] 75 (0, 0)) (bv BK597.out) hb)
           have n3_ := Aside0.mk (blk_below (g := gb598) (o := .cells #[.bool t593, .int .i64 t594, .int .u64 t595, .bool t596] 75 (0, 0)) (bv BK598.out) hb)
           have n4_ := Aside0.mk (below_step (bl4 HB.out GE564.out GE575.out GE597.out GE598.out) hb)
           clear BK564
           clear BK575
           clear BK597
           clear BK598
           clear HB
           have BK564 := n0_
           have BK575 := n1_
           have BK597 := n2_
           have BK598 := n3_
           have HB := n4_
           clear n0_ n1_ n2_ n3_ n4_
           (try clear hb)
           (try clear hb2)
           (try clear hk)
           (try clear hi)
           refine hK.out _ _ ⟨(blk_cell BK597.out 0).trans rfl, (blk_cell BK597.out 1).trans rfl, (blk_cell BK597.out 2).trans rfl, (blk_cell BK597.out 3).trans rfl, (blk_cell BK598.out 0).trans rfl, (blk_cell BK598.out 1).trans rfl, (blk_cell BK598.out 2).trans rfl, (blk_cell BK598.out 3).trans rfl⟩ (fun hHeld => ?_)
           clear hK K
           refine norm_ (a' := ?_) ?_ ?_
           rotate_left
           ·show Act.put _ (some 124) _ = _
            simp only [Act.put, sb, sz, ss, i64_w, i32_w]
            rfl
           refine pure_ (i := 20) (N := some 125) (v := ?_) (a' := ?_) (tf 21 3) rfl rfl (any_of HT_.out (by kernel_rfl)) (fun _ _ _ h => h) (Or.inl ⟨by rfl, ?_⟩) ?_ ?_
           rotate_left
           ·intro w'
            go_simp
            with_reducible rfl
           rotate_left
           ·simp only [Act.put, sb, sz, ss, i64_w, i32_w]
            rfl
           refine pure_ (i := 21) (N := some 126) (v := ?_) (a' := ?_) (tf 22 2) rfl rfl (any_of HT_.out (by kernel_rfl)) (fun _ _ _ h => h) (Or.inl ⟨by rfl, ?_⟩) ?_ ?_
           rotate_left
           ·intro w'
            go_simp
            with_reducible rfl
           rotate_left
           ·simp only [Act.put, sb, sz, ss, i64_w, i32_w]
            rfl
           refine pure_ (i := 22) (N := some 8) (v := ?_) (a' := ?_) (tf 23 1) rfl rfl (any_of HT_.out (by kernel_rfl)) (fun _ _ _ h => h) (Or.inl ⟨by rfl, ?_⟩) ?_ ?_
           rotate_left
           ·intro w'
            go_simp
            with_reducible rfl
           rotate_left
           ·simp only [Act.put, sb, sz, ss, i64_w, i32_w]
            rfl
           refine one_ (i := 23) (N := none) (tf 24 0) rfl rfl (one_of HT_.out (by kernel_rfl)) (by decide) (fun K hK => ?_)
           have hs80 : w79.cell? ⟨gb564, 0, none⟩ = some (.bool false) := (blk_cell BK564.out 0).trans rfl
           have hfs80 := blk_frozen BK564.out 0
           have hns80_1 := NB575_564.out
           have hns80_2 := NB597_564.out
           have hns80_3 := NB598_564.out
           have hms80_1 := NB564_575.out
           have hms80_2 := NB564_597.out
           have hms80_3 := NB564_598.out
           have hs81 : w79.cell? ⟨gb564, 1, none⟩ = some (.bool false) := (blk_cell BK564.out 1).trans rfl
           have hfs81 := blk_frozen BK564.out 1
           have hns81_1 := NB575_564.out
           have hns81_2 := NB597_564.out
           have hns81_3 := NB598_564.out
           have hms81_1 := NB564_575.out
           have hms81_2 := NB564_597.out
           have hms81_3 := NB564_598.out
           have hs82 : w79.cell? ⟨gb564, 2, none⟩ = some (.bool false) := (blk_cell BK564.out 2).trans rfl
           have hfs82 := blk_frozen BK564.out 2
           have hns82_1 := NB575_564.out
           have hns82_2 := NB597_564.out
           have hns82_3 := NB598_564.out
           have hms82_1 := NB564_575.out
           have hms82_2 := NB564_597.out
           have hms82_3 := NB564_598.out
           have hs83 : w79.cell? ⟨gb564, 3, none⟩ = some (.bool false) := (blk_cell BK564.out 3).trans rfl
           have hfs83 := blk_frozen BK564.out 3
           have hns83_1 := NB575_564.out
           have hns83_2 := NB597_564.out
           have hns83_3 := NB598_564.out
           have hms83_1 := NB564_575.out
           have hms83_2 := NB564_597.out
           have hms83_3 := NB564_598.out
           have hs84 : w79.cell? ⟨gb564, 4, none⟩ = some (.bool false) := (blk_cell BK564.out 4).trans rfl
           have hfs84 := blk_frozen BK564.out 4
           have hns84_1 := NB575_564.out
           have hns84_2 := NB597_564.out
           have hns84_3 := NB598_564.out
           have hms84_1 := NB564_575.out
           have hms84_2 := NB564_597.out
           have hms84_3 := NB564_598.out
           refine skip_ (w1 := ?_) (by rfl) rfl ?_ ?_
           rotate_left
           ·go_simp
            rfl
           refine hK.out _ _ ⟨(cf5 NB597_564.out (hHeld.1)), (cf5 NB597_564.out (hHeld.2.1)), (cf5 NB597_564.out (hHeld.2.2.1)), (cf5 NB597_564.out (hHeld.2.2.2.1)), (cf5 NB598_564.out (hHeld.2.2.2.2.1)), (cf5 NB598_564.out (hHeld.2.2.2.2.2.1)), (cf5 NB598_564.out (hHeld.2.2.2.2.2.2.1)), (cf5 NB598_564.out (hHeld.2.2.2.2.2.2.2))⟩ (fun hHeld => ?_)
           clear hK K
           refine done_ (done_of HT_.out (by kernel_rfl)) ?_
           try go_wp2
           refine bodyPost_ret (results_tc rfl _ _ gb564 41 #[.bool t603, .bool t604, .bool t605, .bool t606, .bool t607] (0, 0) _ rfl (by (with_reducible repeat first | apply bd | apply be | apply ba); refine blk_put (cs := #[.bool t603, .bool t604, .bool t605, .bool t606, .bool false]) ?_ 4 _ rfl; (with_reducible repeat first | apply bd | apply be | apply ba); refine blk_put (cs := #[.bool t603, .bool t604, .bool t605, .bool false, .bool false]) ?_ 3 _ rfl; (with_reducible repeat first | apply bd | apply be | apply ba); refine blk_put (cs := #[.bool t603, .bool t604, .bool false, .bool false, .bool false]) ?_ 2 _ rfl; (with_reducible repeat first | apply bd | apply be | apply ba); refine blk_put (cs := #[.bool t603, .bool false, .bool false, .bool false, .bool false]) ?_ 1 _ rfl; (with_reducible repeat first | apply bd | apply be | apply ba); refine blk_put (cs := F5) ?_ 0 _ rfl; (with_reducible repeat first | apply bd | apply be | apply ba); exact BK564.out) Try.underlying41 rfl (by kernel_rfl)) rfl ?_
           exact ⟨by first | rfl | (simp [errW_none, errW_some] <;> rfl) | (simp [*, errW_none, errW_some] <;> rfl), bl4 HB.out GE564.out GE575.out GE597.out GE598.out⟩

end Go.Proofs.Ytngkpekmgahjiaa.P
