import Derived.Test.YtngkpekmgahjiaaQqtZ
import Derived.Test.YtngkpekmgahjiaaQqtM1
import Derived.Test.YtngkpekmgahjiaaQqtM3
import Derived.Test.YtngkpekmgahjiaaQqtM6
import Derived.Test.YtngkpekmgahjiaaQqtPx17
import Derived.Test.YtngkpekmgahjiaaQqtM5
import Derived.Test.YtngkpekmgahjiaaQqtM7
-- Printed by a program of this session's out of Lean's print of the translation; Lean checks it.
namespace Go.Proofs.Ytngkpekmgahjiaa.P
open Go.RowKit Go.Proofs.YtngkpekmgahjiaaW.PrintWords Go.Proofs.YtngkpekmgahjiaaW.PrintLast Go.Proofs.YtngkpekmgahjiaaW.PrintMore
attribute [local go_sem] max2_int min2_int max_two min_two max_three min_three max_four min_four   -- for this text's walks alone
set_option linter.unusedVariables false
set_option linter.unusedSimpArgs false

/-! ### annealref1_Div: function 37 -/
mutual
def annealref1_Div.j0 : Nat → Int → Int → Int → Int → Bool → Bool → Option (Int × Bool × Bool × Bool × Bool × Bool)
 |0, _, _, _, _, _, _ => none
 |k + 1, x0, x1, x2, x3, x12, x39 => if x39 = true then ((annealref1_Nan.f x0).bind fun t688 => (some (t688, true, false, false, false, false))) else ((annealref1_inf.f k x0 x2).bind fun t689 => (if t689 = true then ((annealref1_Inf.f x0 x12).bind fun t690 => (some (t690, false, false, false, false, false))) else ((annealref1_inf.f k x0 x3).bind fun t691 => (if t691 = true then (annealref1_Div.j1 k x0 x1 x2 x3 x12 true) else ((annealref1_zero.f k x0 x2).bind fun t692 => (annealref1_Div.j1 k x0 x1 x2 x3 x12 t692))))))
def annealref1_Div.j1 : Nat → Int → Int → Int → Int → Bool → Bool → Option (Int × Bool × Bool × Bool × Bool × Bool)
 |0, _, _, _, _, _, _ => none
 |k + 1, x0, x1, x2, x3, x12, x69 => if x69 = true then ((annealref1_Zero.f x0 x12).bind fun t693 => (some (t693, false, false, false, false, false))) else ((annealref1_zero.f k x0 x3).bind fun t694 => (if t694 = true then ((annealref1_Inf.f x0 x12).bind fun t695 => (some (t695, false, true, false, false, false))) else ((annealref1_Unpack.f k x0 x2).bind fun bt696 => ((annealref1_Unpack.f k x0 x3).bind fun bt699 => (annealref1_Div.l0 k x0 x1 x12 bt696.2.1 bt696.2.2 bt699.2.1 bt699.2.2)))))
def annealref1_Div.l0 : Nat → Int → Int → Bool → Int → Int → Int → Int → Option (Int × Bool × Bool × Bool × Bool × Bool)
 |0, _, _, _, _, _, _, _ => none
 |k + 1, x0, x1, x12, x14, x15, x17, x18 => if x15 < 8388608 then (annealref1_Div.l0 k x0 x1 x12 (wrap64 (x14 - 1)) (IntKind.u64.wrap (x15 * 2)) x17 x18) else (annealref1_Div.l1 k x0 x1 x12 x14 x15 x17 x18)
def annealref1_Div.l1 : Nat → Int → Int → Bool → Int → Int → Int → Int → Option (Int × Bool × Bool × Bool × Bool × Bool)
 |0, _, _, _, _, _, _, _ => none
 |k + 1, x0, x1, x12, x14, x15, x17, x18 => if x18 < 8388608 then (annealref1_Div.l1 k x0 x1 x12 x14 x15 (wrap64 (x17 - 1)) (IntKind.u64.wrap (x18 * 2))) else (if x18 = 0 then (none) else ((annealref1_Pack.f k x0 x1 x12 (wrap64 ((wrap64 (x14 - x17)) - 40)) (IntKind.u64.wrap (Int.tdiv (IntKind.u64.wrap (x15 * 1099511627776)) x18)) ((Int.tmod (IntKind.u64.wrap (x15 * 1099511627776)) x18) != 0)).bind fun bt702 => (some (bt702.1, bt702.2.1, bt702.2.2.1, bt702.2.2.2.1, bt702.2.2.2.2.1, bt702.2.2.2.2.2))))
end
def annealref1_Div.f (k : Nat) (a0 : Int) (a1 : Int) (a2 : Int) (a3 : Int) : Option (Int × Bool × Bool × Bool × Bool × Bool) := (annealref1_nans.f k a0 (([a2, a3] : List Int))).bind fun bt677 => (if bt677.1 = true then ((annealref1_Nan.f a0).bind fun t679 => (some (t679, bt677.2, false, false, false, false))) else ((annealref1_neg.f a0 a2).bind fun t680 => ((annealref1_neg.f a0 a3).bind fun t681 => ((annealref1_zero.f k a0 a2).bind fun t682 => (if t682 = true then ((annealref1_zero.f k a0 a3).bind fun t683 => (if t683 = true then (annealref1_Div.j0 k a0 a1 a2 a3 (t680 != t681) true) else ((annealref1_inf.f k a0 a2).bind fun t684 => (if t684 = true then ((annealref1_inf.f k a0 a3).bind fun t685 => (annealref1_Div.j0 k a0 a1 a2 a3 (t680 != t681) t685)) else (annealref1_Div.j0 k a0 a1 a2 a3 (t680 != t681) false))))) else ((annealref1_inf.f k a0 a2).bind fun t686 => (if t686 = true then ((annealref1_inf.f k a0 a3).bind fun t687 => (annealref1_Div.j0 k a0 a1 a2 a3 (t680 != t681) t687)) else (annealref1_Div.j0 k a0 a1 a2 a3 (t680 != t681) false))))))))
def annealref1_Div.T20 : Bool × List (List Nat × List Nat) := (true, [([], []), ([], []), ([], []), ([], []), ([], []), ([3, 4], [3, 4]), ([5], [5]), ([], []), ([], []), ([7, 8], [7, 8]), ([], []), ([], []), ([10, 11], [10, 11]), ([12], [12]), ([0, 1, 2, 6, 9, 13], [0, 1, 2, 6, 9, 13]), ([14], [14]), ([14], [14]), ([15, 14, 0, 1, 2, 3, 4, 5, 6, 7, 8, 9, 10, 11, 12, 13, 14, 15, 16], [15]), ([16, 17, 0, 1, 2, 3, 4, 5, 6, 7, 8, 9, 10, 11, 12, 13, 14, 15, 16, 17], [16])])
def annealref1_Div.B20 : List Nat := [0, 0, 0, 0, 0, 24, 56, 0, 0, 384, 0, 0, 3072, 7168, 16383, 32767, 32767, 131071, 262143]
theorem annealref1_Div.tab20 : rtab .any (opsOf Try.f37 20) = annealref1_Div.T20 := by kernel_rfl
theorem annealref1_Div.bits20 : waitsOk annealref1_Div.T20.2 annealref1_Div.B20 = true := by kernel_rfl
set_option maxHeartbeats 8000000 in
set_option maxRecDepth 100000 in
theorem annealref1_Div.calls (k : Nat) (a0 : Int) (a1 : Int) (a2 : Int) (a3 : Int) (r1 : Int) (r2 : Bool) (r3 : Bool) (r4 : Bool) (r5 : Bool) (r6 : Bool) (w : World) (h : annealref1_Div.f k a0 a1 a2 a3 = some (r1, r2, r3, r4, r5, r6)) :
  Calls Try.prog 37 #[.int .i64 a0, .int .i64 a1, .int .u32 a2, .int .u32 a3] w fun e w' => e = .returned (.tuple #[.int .u32 r1, .agg #[.bool r2, .bool r3, .bool r4, .bool r5, .bool r6]]) ∧ Below w.heap.size w w' := by
 have hu41 := Try.underlying41
 have HB := Aside0.mk (Below.refl w.heap.size w)
 have H : ((annealref1_nans.f k a0 (([a2, a3] : List Int))).bind fun bt677 => (if bt677.1 = true then ((annealref1_Nan.f a0).bind fun t679 => (some (t679, bt677.2, false, false, false, false))) else ((annealref1_neg.f a0 a2).bind fun t680 => ((annealref1_neg.f a0 a3).bind fun t681 => ((annealref1_zero.f k a0 a2).bind fun t682 => (if t682 = true then ((annealref1_zero.f k a0 a3).bind fun t683 => (if t683 = true then (annealref1_Div.j0 k a0 a1 a2 a3 (t680 != t681) true) else ((annealref1_inf.f k a0 a2).bind fun t684 => (if t684 = true then ((annealref1_inf.f k a0 a3).bind fun t685 => (annealref1_Div.j0 k a0 a1 a2 a3 (t680 != t681) t685)) else (annealref1_Div.j0 k a0 a1 a2 a3 (t680 != t681) false))))) else ((annealref1_inf.f k a0 a2).bind fun t686 => (if t686 = true then ((annealref1_inf.f k a0 a3).bind fun t687 => (annealref1_Div.j0 k a0 a1 a2 a3 (t680 != t681) t687)) else (annealref1_Div.j0 k a0 a1 a2 a3 (t680 != t681) false))))))))) = some (r1, r2, r3, r4, r5, r6) := h
 clear h
 obtain ⟨y674, hy674⟩ : ∃ y_ : List Int, y_ = (([a2, a3] : List Int)) := ⟨_, rfl⟩
 replace H : ((annealref1_nans.f k a0 y674).bind fun bt677 => (if bt677.1 = true then ((annealref1_Nan.f a0).bind fun t679 => (some (t679, bt677.2, false, false, false, false))) else ((annealref1_neg.f a0 a2).bind fun t680 => ((annealref1_neg.f a0 a3).bind fun t681 => ((annealref1_zero.f k a0 a2).bind fun t682 => (if t682 = true then ((annealref1_zero.f k a0 a3).bind fun t683 => (if t683 = true then (annealref1_Div.j0 k a0 a1 a2 a3 (t680 != t681) true) else ((annealref1_inf.f k a0 a2).bind fun t684 => (if t684 = true then ((annealref1_inf.f k a0 a3).bind fun t685 => (annealref1_Div.j0 k a0 a1 a2 a3 (t680 != t681) t685)) else (annealref1_Div.j0 k a0 a1 a2 a3 (t680 != t681) false))))) else ((annealref1_inf.f k a0 a2).bind fun t686 => (if t686 = true then ((annealref1_inf.f k a0 a3).bind fun t687 => (annealref1_Div.j0 k a0 a1 a2 a3 (t680 != t681) t687)) else (annealref1_Div.j0 k a0 a1 a2 a3 (t680 != t681) false))))))))) = some (r1, r2, r3, r4, r5, r6) := by first | (rw [hy674]; with_reducible exact H) | (have H2_ := (Option.bind_some _ _).symm.trans H; rw [hy674]; with_reducible exact H2_) | (have H2_ := (Option.bind_some _ _).symm.trans H; with_reducible exact H2_) | with_reducible exact H | (rw [hy674]; exact H) | exact H
 have Ny674 := Aside0.mk hy674
 clear hy674
 replace H := Option.bind_eq_some_iff.mp H
 obtain ⟨⟨t677, t678⟩, A50, H⟩ := H
 replace H : (if t677 = true then ((annealref1_Nan.f a0).bind fun t679 => (some (t679, t678, false, false, false, false))) else ((annealref1_neg.f a0 a2).bind fun t680 => ((annealref1_neg.f a0 a3).bind fun t681 => ((annealref1_zero.f k a0 a2).bind fun t682 => (if t682 = true then ((annealref1_zero.f k a0 a3).bind fun t683 => (if t683 = true then (annealref1_Div.j0 k a0 a1 a2 a3 (t680 != t681) true) else ((annealref1_inf.f k a0 a2).bind fun t684 => (if t684 = true then ((annealref1_inf.f k a0 a3).bind fun t685 => (annealref1_Div.j0 k a0 a1 a2 a3 (t680 != t681) t685)) else (annealref1_Div.j0 k a0 a1 a2 a3 (t680 != t681) false))))) else ((annealref1_inf.f k a0 a2).bind fun t686 => (if t686 = true then ((annealref1_inf.f k a0 a3).bind fun t687 => (annealref1_Div.j0 k a0 a1 a2 a3 (t680 != t681) t687)) else (annealref1_Div.j0 k a0 a1 a2 a3 (t680 != t681) false)))))))) = some (r1, r2, r3, r4, r5, r6) := H
 have A5 := Aside0.mk A50
 clear A50
 by_cases c6 : t677 = true
 ·subst c6
  have H1 : ((annealref1_Nan.f a0).bind fun t679 => (some (t679, t678, false, false, false, false))) = some (r1, r2, r3, r4, r5, r6) := by rw [if_pos rfl] at H; exact H
  clear H
  have H := H1
  clear H1
  replace H := Option.bind_eq_some_iff.mp H
  obtain ⟨t679, A70, H⟩ := H
  replace H : (some (t679, t678, false, false, false, false)) = some (r1, r2, r3, r4, r5, r6) := H
  have A7 := Aside0.mk A70
  clear A70
  simp only [Option.some.injEq, Prod.mk.injEq] at H
  obtain ⟨rfl, rfl, rfl, rfl, rfl, rfl⟩ := H
  go_enter Try.func37, Try.ntmps37
  go_wp2_with (first | ((with_reducible refine gate_dst (N := 9) rfl ?_); refine box_event ?hg (N := 9) ?hd (cs := F5) (t := 41) ?hr ?_; (case hd => rfl); (case hg => rfl); (case hr => first | (go_simp; done) | (go_simp; rfl)); intro gb673 hg w8 hbox hb; have n0_ := Aside0.mk (below_step (bl0 HB.out) hb); have n1_ := Aside0.mk (hbox); have n2_ := Aside0.mk ((by rw [hg]; exact (below_size (bl0 HB.out)) : w.heap.size ≤ gb673)); have n3_ := n2_; clear HB; have HB := n0_; have BK673 := n1_; have GW673 := n2_; have GE673 := n3_; clear n0_ n1_ n2_ n3_; clear hb hbox hg) | ((with_reducible refine gate_dst (N := 23) rfl ?_); refine Kd.R_lit (Kd.int .u32) _ 22 ?hg (N := 23) ?hd (xs := ([a2, a3] : List Int)) (inner := [.int .u32 a2, .int .u32 a3]) (ok := fun _ => True) (okp := fun _ => True) ?hr ?hp (fun _ hk => hk) trivial (Below.refl _ _) (Nat.le_refl _) (by simp) ?_; (case hd => rfl); (case hg => rfl); (case hr => first | (go_simp; done) | (go_simp; rfl)); (case hp => exact (Reps.one (show Kd.M (Kd.int .u32) _ _ _ a2 [.int .u32 a2] from rfl) (Reps.one (show Kd.M (Kd.int .u32) _ _ _ a3 [.int .u32 a3] from rfl) (Reps.none _ _)))); intro v675 w9 ho10 hb hg_ hnew_; clear hg_ hnew_; (first | rw [← Ny674.out] at ho10 | (simp only [Int.reduceToNat] at ho10; rw [← Ny674.out] at ho10)); have n0_ := Aside0.mk (Kd.R_lower ho10 (below_size (bl1 HB.out GE673.out))); have n1_ := Aside0.mk (blk_below (g := gb673) (o := .cells #[.bool false, .bool false, .bool false, .bool false, .bool false] 41 (0, 0)) (bv BK673.out) hb); have n2_ := Aside0.mk (below_step (bl1 HB.out GE673.out) hb); clear BK673; clear HB; have HO676 := n0_; have BK673 := n1_; have HB := n2_; clear n0_ n1_ n2_; clear hb ho10; obtain ⟨Ao11, co11, eo11⟩ := Kd.R_slice HO676.out; subst eo11) | ((with_reducible refine gate_callee (f := 57) rfl ?_); refine goesL_ (some 24) rfl rfl Try.func57 (by kernel_rfl) rfl #[.int .i64 a0, .slice Ao11 y674.length co11] rfl gl ?_; (with_reducible refine (annealref1_nans.calls k a0 _ _ y674 true t678 _ ?side1 ?side2 A5.out).mono ?_); (case side1 => repeat (first | exact (Kd.R_reads' HO676.out).2.2 | (with_reducible refine Kd.C_alloc ?_ _) | (with_reducible refine Kd.C_drewN ?_ _) | (with_reducible refine Kd.C_drew ?_))); (case side2 => exact (Kd.R_reads' HO676.out).2.1); rintro e w' ⟨rfl, ⟨nd, rfl⟩⟩; refine ⟨_, rfl, ?_⟩; (try (rw [drewN_self w9]; generalize hq_ : World.drewN w9 _ = w9; have n0_ : Aside0 (Kd.R (Kd.int .u32) 22 w9 w.heap.size (fun _ => True) (.slice Ao11 y674.length co11) y674) := ⟨by rw [← hq_]; exact (by (with_reducible repeat (first | apply Kd.R_alloc | apply Kd.R_drewN | apply Kd.R_drew)); exact HO676.out)⟩; have n1_ : Aside0 (w9.heap[gb673]? = some (.cells #[.bool false, .bool false, .bool false, .bool false, .bool false] 41 (0, 0))) := ⟨by rw [← hq_]; exact (bv BK673.out)⟩; have n2_ : Aside0 (Below w.heap.size w w9) := ⟨by rw [← hq_]; exact (bl1 HB.out GE673.out)⟩; clear HO676 BK673 HB hq_; have HO676 := n0_; have BK673 := n1_; have HB := n2_; clear n0_ n1_ n2_))) | ((with_reducible refine gate_callee (f := 43) rfl ?_); refine goesL_ (some 29) rfl rfl Try.func43 (by kernel_rfl) rfl #[.int .i64 a0] rfl gl ?_; (with_reducible refine (annealref1_Nan.calls a0 t679 _ A7.out).mono ?_); rintro e w' ⟨rfl, ⟨nd, rfl⟩⟩; refine ⟨_, rfl, ?_⟩; (try (rw [drewN_self w9]; generalize hq_ : World.drewN w9 _ = w9; have n0_ : Aside0 (Kd.R (Kd.int .u32) 22 w9 w.heap.size (fun _ => True) (.slice Ao11 y674.length co11) y674) := ⟨by rw [← hq_]; exact (by (with_reducible repeat (first | apply Kd.R_alloc | apply Kd.R_drewN | apply Kd.R_drew)); exact HO676.out)⟩; have n1_ : Aside0 (w9.heap[gb673]? = some (.cells #[.bool false, .bool false, .bool false, .bool false, .bool false] 41 (0, 0))) := ⟨by rw [← hq_]; exact (bv BK673.out)⟩; have n2_ : Aside0 (Below w.heap.size w w9) := ⟨by rw [← hq_]; exact (bl1 HB.out GE673.out)⟩; clear HO676 BK673 HB hq_; have HO676 := n0_; have BK673 := n1_; have HB := n2_; clear n0_ n1_ n2_)); obtain ⟨hcz12_0, hcz12_1, hcz12_2, hcz12_3, hcz12_4⟩ := bc5 BK673.out; obtain ⟨hfz12_0, hfz12_1, hfz12_2, hfz12_3, hfz12_4⟩ := bf5 BK673.out))
  refine bodyPost_ret (results_tc rfl _ _ gb673 41 #[.bool t678, .bool false, .bool false, .bool false, .bool false] (0, 0) _ rfl (by (with_reducible repeat first | apply bd | apply be | apply ba); refine blk_put (cs := #[.bool t678, .bool false, .bool false, .bool false, .bool false]) ?_ 4 _ rfl; (with_reducible repeat first | apply bd | apply be | apply ba); refine blk_put (cs := #[.bool t678, .bool false, .bool false, .bool false, .bool false]) ?_ 3 _ rfl; (with_reducible repeat first | apply bd | apply be | apply ba); refine blk_put (cs := #[.bool t678, .bool false, .bool false, .bool false, .bool false]) ?_ 2 _ rfl; (with_reducible repeat first | apply bd | apply be | apply ba); refine blk_put (cs := #[.bool t678, .bool false, .bool false, .bool false, .bool false]) ?_ 1 _ rfl; (with_reducible repeat first | apply bd | apply be | apply ba); refine blk_put (cs := F5) ?_ 0 _ rfl; (with_reducible repeat first | apply bd | apply be | apply ba); exact BK673.out) Try.underlying41 rfl (by kernel_rfl)) rfl ?_
  exact ⟨by first | rfl | (simp [errW_none, errW_some] <;> rfl) | (simp [*, errW_none, errW_some] <;> rfl), bl1 HB.out GE673.out⟩
 ·replace c6 := Bool.eq_false_iff.mpr c6
  subst c6
  have H1 : ((annealref1_neg.f a0 a2).bind fun t680 => ((annealref1_neg.f a0 a3).bind fun t681 => ((annealref1_zero.f k a0 a2).bind fun t682 => (if t682 = true then ((annealref1_zero.f k a0 a3).bind fun t683 => (if t683 = true then (annealref1_Div.j0 k a0 a1 a2 a3 (t680 != t681) true) else ((annealref1_inf.f k a0 a2).bind fun t684 => (if t684 = true then ((annealref1_inf.f k a0 a3).bind fun t685 => (annealref1_Div.j0 k a0 a1 a2 a3 (t680 != t681) t685)) else (annealref1_Div.j0 k a0 a1 a2 a3 (t680 != t681) false))))) else ((annealref1_inf.f k a0 a2).bind fun t686 => (if t686 = true then ((annealref1_inf.f k a0 a3).bind fun t687 => (annealref1_Div.j0 k a0 a1 a2 a3 (t680 != t681) t687)) else (annealref1_Div.j0 k a0 a1 a2 a3 (t680 != t681) false))))))) = some (r1, r2, r3, r4, r5, r6) := by rw [if_neg (show ¬ (false = true) by decide)] at H; exact H
  clear H
  have H := H1
  clear H1
  replace H := Option.bind_eq_some_iff.mp H
  obtain ⟨t680, A130, H⟩ := H
  replace H : ((annealref1_neg.f a0 a3).bind fun t681 => ((annealref1_zero.f k a0 a2).bind fun t682 => (if t682 = true then ((annealref1_zero.f k a0 a3).bind fun t683 => (if t683 = true then (annealref1_Div.j0 k a0 a1 a2 a3 (t680 != t681) true) else ((annealref1_inf.f k a0 a2).bind fun t684 => (if t684 = true then ((annealref1_inf.f k a0 a3).bind fun t685 => (annealref1_Div.j0 k a0 a1 a2 a3 (t680 != t681) t685)) else (annealref1_Div.j0 k a0 a1 a2 a3 (t680 != t681) false))))) else ((annealref1_inf.f k a0 a2).bind fun t686 => (if t686 = true then ((annealref1_inf.f k a0 a3).bind fun t687 => (annealref1_Div.j0 k a0 a1 a2 a3 (t680 != t681) t687)) else (annealref1_Div.j0 k a0 a1 a2 a3 (t680 != t681) false)))))) = some (r1, r2, r3, r4, r5, r6) := H
  have A13 := Aside0.mk A130
  clear A130
  replace H := Option.bind_eq_some_iff.mp H
  obtain ⟨t681, A140, H⟩ := H
  replace H : ((annealref1_zero.f k a0 a2).bind fun t682 => (if t682 = true then ((annealref1_zero.f k a0 a3).bind fun t683 => (if t683 = true then (annealref1_Div.j0 k a0 a1 a2 a3 (t680 != t681) true) else ((annealref1_inf.f k a0 a2).bind fun t684 => (if t684 = true then ((annealref1_inf.f k a0 a3).bind fun t685 => (annealref1_Div.j0 k a0 a1 a2 a3 (t680 != t681) t685)) else (annealref1_Div.j0 k a0 a1 a2 a3 (t680 != t681) false))))) else ((annealref1_inf.f k a0 a2).bind fun t686 => (if t686 = true then ((annealref1_inf.f k a0 a3).bind fun t687 => (annealref1_Div.j0 k a0 a1 a2 a3 (t680 != t681) t687)) else (annealref1_Div.j0 k a0 a1 a2 a3 (t680 != t681) false))))) = some (r1, r2, r3, r4, r5, r6) := H
  have A14 := Aside0.mk A140
  clear A140
  have HC15 := Aside0.mk H
  clear H
  go_enter Try.func37, Try.ntmps37
  go_upto_region 5 with (first | ((with_reducible refine gate_dst (N := 9) rfl ?_); refine box_event ?hg (N := 9) ?hd (cs := F5) (t := 41) ?hr ?_; (case hd => rfl); (case hg => rfl); (case hr => first | (go_simp; done) | (go_simp; rfl)); intro gb673 hg w16 hbox hb; have n0_ := Aside0.mk (below_step (bl0 HB.out) hb); have n1_ := Aside0.mk (hbox); have n2_ := Aside0.mk ((by rw [hg]; exact (below_size (bl0 HB.out)) : w.heap.size ≤ gb673)); have n3_ := n2_; clear HB; have HB := n0_; have BK673 := n1_; have GW673 := n2_; have GE673 := n3_; clear n0_ n1_ n2_ n3_; clear hb hbox hg) | ((with_reducible refine gate_dst (N := 23) rfl ?_); refine Kd.R_lit (Kd.int .u32) _ 22 ?hg (N := 23) ?hd (xs := ([a2, a3] : List Int)) (inner := [.int .u32 a2, .int .u32 a3]) (ok := fun _ => True) (okp := fun _ => True) ?hr ?hp (fun _ hk => hk) trivial (Below.refl _ _) (Nat.le_refl _) (by simp) ?_; (case hd => rfl); (case hg => rfl); (case hr => first | (go_simp; done) | (go_simp; rfl)); (case hp => exact (Reps.one (show Kd.M (Kd.int .u32) _ _ _ a2 [.int .u32 a2] from rfl) (Reps.one (show Kd.M (Kd.int .u32) _ _ _ a3 [.int .u32 a3] from rfl) (Reps.none _ _)))); intro v675 w17 ho18 hb hg_ hnew_; clear hg_ hnew_; (first | rw [← Ny674.out] at ho18 | (simp only [Int.reduceToNat] at ho18; rw [← Ny674.out] at ho18)); have n0_ := Aside0.mk (Kd.R_lower ho18 (below_size (bl1 HB.out GE673.out))); have n1_ := Aside0.mk (blk_below (g := gb673) (o := .cells #[.bool false, .bool false, .bool false, .bool false, .bool false] 41 (0, 0)) (bv BK673.out) hb); have n2_ := Aside0.mk (below_step (bl1 HB.out GE673.out) hb); clear BK673; clear HB; have HO676 := n0_; have BK673 := n1_; have HB := n2_; clear n0_ n1_ n2_; clear hb ho18; obtain ⟨Ao19, co19, eo19⟩ := Kd.R_slice HO676.out; subst eo19) | ((with_reducible refine gate_callee (f := 57) rfl ?_); refine goesL_ (some 24) rfl rfl Try.func57 (by kernel_rfl) rfl #[.int .i64 a0, .slice Ao19 y674.length co19] rfl gl ?_; (with_reducible refine (annealref1_nans.calls k a0 _ _ y674 false t678 _ ?side1 ?side2 A5.out).mono ?_); (case side1 => repeat (first | exact (Kd.R_reads' HO676.out).2.2 | (with_reducible refine Kd.C_alloc ?_ _) | (with_reducible refine Kd.C_drewN ?_ _) | (with_reducible refine Kd.C_drew ?_))); (case side2 => exact (Kd.R_reads' HO676.out).2.1); rintro e w' ⟨rfl, ⟨nd, rfl⟩⟩; refine ⟨_, rfl, ?_⟩) | ((with_reducible refine gate_callee (f := 71) rfl ?_); refine goesL_ (some 34) rfl rfl Try.func71 (by kernel_rfl) rfl #[.int .i64 a0, .int .u32 a2] rfl gl ?_; (with_reducible refine (annealref1_neg.calls a0 a2 t680 _ A13.out).mono ?_); rintro e w' ⟨rfl, ⟨nd, rfl⟩⟩; refine ⟨_, rfl, ?_⟩) | ((with_reducible refine gate_callee (f := 71) rfl ?_); refine goesL_ (some 37) rfl rfl Try.func71 (by kernel_rfl) rfl #[.int .i64 a0, .int .u32 a3] rfl gl ?_; (with_reducible refine (annealref1_neg.calls a0 a3 t681 _ A14.out).mono ?_); rintro e w' ⟨rfl, ⟨nd, rfl⟩⟩; refine ⟨_, rfl, ?_⟩))
  (try simp only [Act.put, sb, sz, ss])
  go_cut [39] (fun v39 wc => ∃ (kq : Nat) (x39_14 : Bool), v39 = .bool x39_14 ∧ Aside0 (annealref1_Div.j0 kq a0 a1 a2 a3 (t680 != t681) x39_14 = some (r1, r2, r3, r4, r5, r6)) ∧ Aside0 (kq ≤ k) ∧ Aside0 (wc.heap[gb673]? = some (.cells #[.bool false, .bool false, .bool false, .bool false, .bool false] 41 (0, 0))) ∧ Aside0 (Below w.heap.size w wc))
  case first =>
   have H := HC15.out
   clear HC15
   replace H := Option.bind_eq_some_iff.mp H
   obtain ⟨t682, A200, H⟩ := H
   replace H : (if t682 = true then ((annealref1_zero.f k a0 a3).bind fun t683 => (if t683 = true then (annealref1_Div.j0 k a0 a1 a2 a3 (t680 != t681) true) else ((annealref1_inf.f k a0 a2).bind fun t684 => (if t684 = true then ((annealref1_inf.f k a0 a3).bind fun t685 => (annealref1_Div.j0 k a0 a1 a2 a3 (t680 != t681) t685)) else (annealref1_Div.j0 k a0 a1 a2 a3 (t680 != t681) false))))) else ((annealref1_inf.f k a0 a2).bind fun t686 => (if t686 = true then ((annealref1_inf.f k a0 a3).bind fun t687 => (annealref1_Div.j0 k a0 a1 a2 a3 (t680 != t681) t687)) else (annealref1_Div.j0 k a0 a1 a2 a3 (t680 != t681) false)))) = some (r1, r2, r3, r4, r5, r6) := H
   have A20 := Aside0.mk A200
   clear A200
   by_cases c21 : t682 = true
   ·subst c21
    have H1 : ((annealref1_zero.f k a0 a3).bind fun t683 => (if t683 = true then (annealref1_Div.j0 k a0 a1 a2 a3 (t680 != t681) true) else ((annealref1_inf.f k a0 a2).bind fun t684 => (if t684 = true then ((annealref1_inf.f k a0 a3).bind fun t685 => (annealref1_Div.j0 k a0 a1 a2 a3 (t680 != t681) t685)) else (annealref1_Div.j0 k a0 a1 a2 a3 (t680 != t681) false))))) = some (r1, r2, r3, r4, r5, r6) := by rw [if_pos rfl] at H; exact H
    clear H
    have H := H1
    clear H1
    replace H := Option.bind_eq_some_iff.mp H
    obtain ⟨t683, A220, H⟩ := H
    replace H : (if t683 = true then (annealref1_Div.j0 k a0 a1 a2 a3 (t680 != t681) true) else ((annealref1_inf.f k a0 a2).bind fun t684 => (if t684 = true then ((annealref1_inf.f k a0 a3).bind fun t685 => (annealref1_Div.j0 k a0 a1 a2 a3 (t680 != t681) t685)) else (annealref1_Div.j0 k a0 a1 a2 a3 (t680 != t681) false)))) = some (r1, r2, r3, r4, r5, r6) := H
    have A22 := Aside0.mk A220
    clear A220
    by_cases c23 : t683 = true
    ·subst c23
     have H1 : (annealref1_Div.j0 k a0 a1 a2 a3 (t680 != t681) true) = some (r1, r2, r3, r4, r5, r6) := by rw [if_pos rfl] at H; exact H
     clear H
     have H := H1
     clear H1
     have H' := Aside0.mk H
     clear H
     go_wp2_with (first | ((with_reducible refine gate_callee (f := 72) rfl ?_); refine goesL_ (some 42) rfl rfl Try.func72 (by kernel_rfl) rfl #[.int .i64 a0, .int .u32 a2] rfl gl ?_; (with_reducible refine (annealref1_zero.calls k a0 a2 true _ A20.out).mono ?_); rintro e w' ⟨rfl, ⟨nd, rfl⟩⟩; refine ⟨_, rfl, ?_⟩) | (go_at_call 72; (with_reducible refine (annealref1_zero.calls k a0 a3 true _ A22.out).mono ?_); rintro e w' ⟨rfl, ⟨nd, rfl⟩⟩))
     go_meet
     case rel => exact ⟨_, (true), (by first | rfl | (simp; done) | (simp [*]; done) | (congr 1; (try unfold wrap64); omega) | (congr 1; rw [IntKind.wrap_u64]; omega)), H', ⟨by first | omega | exact Nat.le_refl _⟩, ⟨by (with_reducible repeat first | apply bd | apply be | apply ba); exact BK673.out⟩, ⟨bl1 HB.out GE673.out⟩⟩
    ·replace c23 := Bool.eq_false_iff.mpr c23
     subst c23
     have H1 : ((annealref1_inf.f k a0 a2).bind fun t684 => (if t684 = true then ((annealref1_inf.f k a0 a3).bind fun t685 => (annealref1_Div.j0 k a0 a1 a2 a3 (t680 != t681) t685)) else (annealref1_Div.j0 k a0 a1 a2 a3 (t680 != t681) false))) = some (r1, r2, r3, r4, r5, r6) := by rw [if_neg (show ¬ (false = true) by decide)] at H; exact H
     clear H
     have H := H1
     clear H1
     replace H := Option.bind_eq_some_iff.mp H
     obtain ⟨t684, A240, H⟩ := H
     replace H : (if t684 = true then ((annealref1_inf.f k a0 a3).bind fun t685 => (annealref1_Div.j0 k a0 a1 a2 a3 (t680 != t681) t685)) else (annealref1_Div.j0 k a0 a1 a2 a3 (t680 != t681) false)) = some (r1, r2, r3, r4, r5, r6) := H
     have A24 := Aside0.mk A240
     clear A240
     by_cases c25 : t684 = true
     ·subst c25
      have H1 : ((annealref1_inf.f k a0 a3).bind fun t685 => (annealref1_Div.j0 k a0 a1 a2 a3 (t680 != t681) t685)) = some (r1, r2, r3, r4, r5, r6) := by rw [if_pos rfl] at H; exact H
      clear H
      have H := H1
      clear H1
      replace H := Option.bind_eq_some_iff.mp H
      obtain ⟨t685, A260, H⟩ := H
      replace H : (annealref1_Div.j0 k a0 a1 a2 a3 (t680 != t681) t685) = some (r1, r2, r3, r4, r5, r6) := H
      have A26 := Aside0.mk A260
      clear A260
      have H' := Aside0.mk H
      clear H
      go_wp2_with (first | ((with_reducible refine gate_callee (f := 72) rfl ?_); refine goesL_ (some 42) rfl rfl Try.func72 (by kernel_rfl) rfl #[.int .i64 a0, .int .u32 a2] rfl gl ?_; (with_reducible refine (annealref1_zero.calls k a0 a2 true _ A20.out).mono ?_); rintro e w' ⟨rfl, ⟨nd, rfl⟩⟩; refine ⟨_, rfl, ?_⟩) | (go_at_call 72; (with_reducible refine (annealref1_zero.calls k a0 a3 false _ A22.out).mono ?_); rintro e w' ⟨rfl, ⟨nd, rfl⟩⟩) | (go_at_call 73; (with_reducible refine (annealref1_inf.calls k a0 a2 true _ A24.out).mono ?_); rintro e w' ⟨rfl, ⟨nd, rfl⟩⟩) | (go_at_call 73; (with_reducible refine (annealref1_inf.calls k a0 a3 t685 _ A26.out).mono ?_); rintro e w' ⟨rfl, ⟨nd, rfl⟩⟩))
      go_meet
      case rel => exact ⟨_, (t685), (by first | rfl | (simp; done) | (simp [*]; done) | (congr 1; (try unfold wrap64); omega) | (congr 1; rw [IntKind.wrap_u64]; omega)), H', ⟨by first | omega | exact Nat.le_refl _⟩, ⟨by (with_reducible repeat first | apply bd | apply be | apply ba); exact BK673.out⟩, ⟨bl1 HB.out GE673.out⟩⟩
     ·replace c25 := Bool.eq_false_iff.mpr c25
      subst c25
      have H1 : (annealref1_Div.j0 k a0 a1 a2 a3 (t680 != t681) false) = some (r1, r2, r3, r4, r5, r6) := by rw [if_neg (show ¬ (false = true) by decide)] at H; exact H
      clear H
      have H := H1
      clear H1
      have H' := Aside0.mk H
      clear H
      go_wp2_with (first | ((with_reducible refine gate_callee (f := 72) rfl ?_); refine goesL_ (some 42) rfl rfl Try.func72 (by kernel_rfl) rfl #[.int .i64 a0, .int .u32 a2] rfl gl ?_; (with_reducible refine (annealref1_zero.calls k a0 a2 true _ A20.out).mono ?_); rintro e w' ⟨rfl, ⟨nd, rfl⟩⟩; refine ⟨_, rfl, ?_⟩) | (go_at_call 72; (with_reducible refine (annealref1_zero.calls k a0 a3 false _ A22.out).mono ?_); rintro e w' ⟨rfl, ⟨nd, rfl⟩⟩) | (go_at_call 73; (with_reducible refine (annealref1_inf.calls k a0 a2 false _ A24.out).mono ?_); rintro e w' ⟨rfl, ⟨nd, rfl⟩⟩))
      go_meet
      case rel => exact ⟨_, (false), (by first | rfl | (simp; done) | (simp [*]; done) | (congr 1; (try unfold wrap64); omega) | (congr 1; rw [IntKind.wrap_u64]; omega)), H', ⟨by first | omega | exact Nat.le_refl _⟩, ⟨by (with_reducible repeat first | apply bd | apply be | apply ba); exact BK673.out⟩, ⟨bl1 HB.out GE673.out⟩⟩
   ·replace c21 := Bool.eq_false_iff.mpr c21
    subst c21
    have H1 : ((annealref1_inf.f k a0 a2).bind fun t686 => (if t686 = true then ((annealref1_inf.f k a0 a3).bind fun t687 => (annealref1_Div.j0 k a0 a1 a2 a3 (t680 != t681) t687)) else (annealref1_Div.j0 k a0 a1 a2 a3 (t680 != t681) false))) = some (r1, r2, r3, r4, r5, r6) := by rw [if_neg (show ¬ (false = true) by decide)] at H; exact H
    clear H
    have H := H1
    clear H1
    replace H := Option.bind_eq_some_iff.mp H
    obtain ⟨t686, A270, H⟩ := H
    replace H : (if t686 = true then ((annealref1_inf.f k a0 a3).bind fun t687 => (annealref1_Div.j0 k a0 a1 a2 a3 (t680 != t681) t687)) else (annealref1_Div.j0 k a0 a1 a2 a3 (t680 != t681) false)) = some (r1, r2, r3, r4, r5, r6) := H
    have A27 := Aside0.mk A270
    clear A270
    by_cases c28 : t686 = true
    ·subst c28
     have H1 : ((annealref1_inf.f k a0 a3).bind fun t687 => (annealref1_Div.j0 k a0 a1 a2 a3 (t680 != t681) t687)) = some (r1, r2, r3, r4, r5, r6) := by rw [if_pos rfl] at H; exact H
     clear H
     have H := H1
     clear H1
     replace H := Option.bind_eq_some_iff.mp H
     obtain ⟨t687, A290, H⟩ := H
     replace H : (annealref1_Div.j0 k a0 a1 a2 a3 (t680 != t681) t687) = some (r1, r2, r3, r4, r5, r6) := H
     have A29 := Aside0.mk A290
     clear A290
     have H' := Aside0.mk H
     clear H
     go_wp2_with (first | ((with_reducible refine gate_callee (f := 72) rfl ?_); refine goesL_ (some 42) rfl rfl Try.func72 (by kernel_rfl) rfl #[.int .i64 a0, .int .u32 a2] rfl gl ?_; (with_reducible refine (annealref1_zero.calls k a0 a2 false _ A20.out).mono ?_); rintro e w' ⟨rfl, ⟨nd, rfl⟩⟩; refine ⟨_, rfl, ?_⟩) | (go_at_call 73; (with_reducible refine (annealref1_inf.calls k a0 a2 true _ A27.out).mono ?_); rintro e w' ⟨rfl, ⟨nd, rfl⟩⟩) | (go_at_call 73; (with_reducible refine (annealref1_inf.calls k a0 a3 t687 _ A29.out).mono ?_); rintro e w' ⟨rfl, ⟨nd, rfl⟩⟩))
     go_meet
     case rel => exact ⟨_, (t687), (by first | rfl | (simp; done) | (simp [*]; done) | (congr 1; (try unfold wrap64); omega) | (congr 1; rw [IntKind.wrap_u64]; omega)), H', ⟨by first | omega | exact Nat.le_refl _⟩, ⟨by (with_reducible repeat first | apply bd | apply be | apply ba); exact BK673.out⟩, ⟨bl1 HB.out GE673.out⟩⟩
    ·replace c28 := Bool.eq_false_iff.mpr c28
     subst c28
     have H1 : (annealref1_Div.j0 k a0 a1 a2 a3 (t680 != t681) false) = some (r1, r2, r3, r4, r5, r6) := by rw [if_neg (show ¬ (false = true) by decide)] at H; exact H
     clear H
     have H := H1
     clear H1
     have H' := Aside0.mk H
     clear H
     go_wp2_with (first | ((with_reducible refine gate_callee (f := 72) rfl ?_); refine goesL_ (some 42) rfl rfl Try.func72 (by kernel_rfl) rfl #[.int .i64 a0, .int .u32 a2] rfl gl ?_; (with_reducible refine (annealref1_zero.calls k a0 a2 false _ A20.out).mono ?_); rintro e w' ⟨rfl, ⟨nd, rfl⟩⟩; refine ⟨_, rfl, ?_⟩) | (go_at_call 73; (with_reducible refine (annealref1_inf.calls k a0 a2 false _ A27.out).mono ?_); rintro e w' ⟨rfl, ⟨nd, rfl⟩⟩))
     go_meet
     case rel => exact ⟨_, (false), (by first | rfl | (simp; done) | (simp [*]; done) | (congr 1; (try unfold wrap64); omega) | (congr 1; rw [IntKind.wrap_u64]; omega)), H', ⟨by first | omega | exact Nat.le_refl _⟩, ⟨by (with_reducible repeat first | apply bd | apply be | apply ba); exact BK673.out⟩, ⟨bl1 HB.out GE673.out⟩⟩
  case rest =>
   clear HC15
   try clear c2 p2 c3 c4 c5 c6 p6 c7 c21 c23 c25 c28 hcz12_0 hcz12_1 hcz12_2 hcz12_3 hcz12_4 hfz12_0 hfz12_1 hfz12_2 hfz12_3 hfz12_4
   obtain ⟨kq, x39_14, rfl, HA, HJ14, BK673, HB⟩ := hcut
   cases kq with
   |zero => exact absurd HA.out (by simp [annealref1_Div.j0])
   |succ kj14 =>
    have H := HA.out
    clear HA
    simp only [annealref1_Div.j0] at H
    by_cases c30 : x39_14 = true
    ·subst c30
     have H1 : ((annealref1_Nan.f a0).bind fun t688 => (some (t688, true, false, false, false, false))) = some (r1, r2, r3, r4, r5, r6) := by rw [if_pos rfl] at H; exact H
     clear H
     have H := H1
     clear H1
     replace H := Option.bind_eq_some_iff.mp H
     obtain ⟨t688, A310, H⟩ := H
     replace H : (some (t688, true, false, false, false, false)) = some (r1, r2, r3, r4, r5, r6) := H
     have A31 := Aside0.mk A310
     clear A310
     simp only [Option.some.injEq, Prod.mk.injEq] at H
     obtain ⟨rfl, rfl, rfl, rfl, rfl, rfl⟩ := H
     go_wp2_with (first | ((with_reducible refine gate_callee (f := 43) rfl ?_); refine goesL_ (some 59) rfl rfl Try.func43 (by kernel_rfl) rfl #[.int .i64 a0] rfl gl ?_; (with_reducible refine (annealref1_Nan.calls a0 t688 _ A31.out).mono ?_); rintro e w' ⟨rfl, ⟨nd, rfl⟩⟩; refine ⟨_, rfl, ?_⟩; (try (rw [drewN_self wc]; generalize hq_ : World.drewN wc _ = wc; have n0_ : Aside0 (wc.heap[gb673]? = some (.cells #[.bool false, .bool false, .bool false, .bool false, .bool false] 41 (0, 0))) := ⟨by rw [← hq_]; exact (bv BK673.out)⟩; have n1_ : Aside0 (Below w.heap.size w wc) := ⟨by rw [← hq_]; exact (bl1 HB.out GE673.out)⟩; clear BK673 HB hq_; have BK673 := n0_; have HB := n1_; clear n0_ n1_)); obtain ⟨hcz32_0, hcz32_1, hcz32_2, hcz32_3, hcz32_4⟩ := bc5 BK673.out; obtain ⟨hfz32_0, hfz32_1, hfz32_2, hfz32_3, hfz32_4⟩ := bf5 BK673.out))
     refine bodyPost_ret (results_tc rfl _ _ gb673 41 #[.bool true, .bool false, .bool false, .bool false, .bool false] (0, 0) _ rfl (by (with_reducible repeat first | apply bd | apply be | apply ba); refine blk_put (cs := #[.bool true, .bool false, .bool false, .bool false, .bool false]) ?_ 4 _ rfl; (with_reducible repeat first | apply bd | apply be | apply ba); refine blk_put (cs := #[.bool true, .bool false, .bool false, .bool false, .bool false]) ?_ 3 _ rfl; (with_reducible repeat first | apply bd | apply be | apply ba); refine blk_put (cs := #[.bool true, .bool false, .bool false, .bool false, .bool false]) ?_ 2 _ rfl; (with_reducible repeat first | apply bd | apply be | apply ba); refine blk_put (cs := #[.bool true, .bool false, .bool false, .bool false, .bool false]) ?_ 1 _ rfl; (with_reducible repeat first | apply bd | apply be | apply ba); refine blk_put (cs := F5) ?_ 0 _ rfl; (with_reducible repeat first | apply bd | apply be | apply ba); exact BK673.out) Try.underlying41 rfl (by kernel_rfl)) rfl ?_
     exact ⟨by first | rfl | (simp [errW_none, errW_some] <;> rfl) | (simp [*, errW_none, errW_some] <;> rfl), bl1 HB.out GE673.out⟩
    ·replace c30 := Bool.eq_false_iff.mpr c30
     subst c30
     have H1 : ((annealref1_inf.f kj14 a0 a2).bind fun t689 => (if t689 = true then ((annealref1_Inf.f a0 (t680 != t681)).bind fun t690 => (some (t690, false, false, false, false, false))) else ((annealref1_inf.f kj14 a0 a3).bind fun t691 => (if t691 = true then (annealref1_Div.j1 kj14 a0 a1 a2 a3 (t680 != t681) true) else ((annealref1_zero.f kj14 a0 a2).bind fun t692 => (annealref1_Div.j1 kj14 a0 a1 a2 a3 (t680 != t681) t692)))))) = some (r1, r2, r3, r4, r5, r6) := by rw [if_neg (show ¬ (false = true) by decide)] at H; exact H
     clear H
     have H := H1
     clear H1
     replace H := Option.bind_eq_some_iff.mp H
     obtain ⟨t689, A330, H⟩ := H
     replace H : (if t689 = true then ((annealref1_Inf.f a0 (t680 != t681)).bind fun t690 => (some (t690, false, false, false, false, false))) else ((annealref1_inf.f kj14 a0 a3).bind fun t691 => (if t691 = true then (annealref1_Div.j1 kj14 a0 a1 a2 a3 (t680 != t681) true) else ((annealref1_zero.f kj14 a0 a2).bind fun t692 => (annealref1_Div.j1 kj14 a0 a1 a2 a3 (t680 != t681) t692))))) = some (r1, r2, r3, r4, r5, r6) := H
     have A33 := Aside0.mk A330
     clear A330
     by_cases c34 : t689 = true
     ·subst c34
      have H1 : ((annealref1_Inf.f a0 (t680 != t681)).bind fun t690 => (some (t690, false, false, false, false, false))) = some (r1, r2, r3, r4, r5, r6) := by rw [if_pos rfl] at H; exact H
      clear H
      have H := H1
      clear H1
      replace H := Option.bind_eq_some_iff.mp H
      obtain ⟨t690, A350, H⟩ := H
      replace H : (some (t690, false, false, false, false, false)) = some (r1, r2, r3, r4, r5, r6) := H
      have A35 := Aside0.mk A350
      clear A350
      simp only [Option.some.injEq, Prod.mk.injEq] at H
      obtain ⟨rfl, rfl, rfl, rfl, rfl, rfl⟩ := H
      go_wp2_with (first | ((with_reducible refine gate_callee (f := 73) rfl ?_); refine goesL_ (some 64) rfl rfl Try.func73 (by kernel_rfl) rfl #[.int .i64 a0, .int .u32 a2] rfl gl ?_; (with_reducible refine (annealref1_inf.calls kj14 a0 a2 true _ A33.out).mono ?_); rintro e w' ⟨rfl, ⟨nd, rfl⟩⟩; refine ⟨_, rfl, ?_⟩; (try (rw [drewN_self wc]; generalize hq_ : World.drewN wc _ = wc; have n0_ : Aside0 (wc.heap[gb673]? = some (.cells #[.bool false, .bool false, .bool false, .bool false, .bool false] 41 (0, 0))) := ⟨by rw [← hq_]; exact (bv BK673.out)⟩; have n1_ : Aside0 (Below w.heap.size w wc) := ⟨by rw [← hq_]; exact (bl1 HB.out GE673.out)⟩; clear BK673 HB hq_; have BK673 := n0_; have HB := n1_; clear n0_ n1_))) | ((with_reducible refine gate_callee (f := 30) rfl ?_); refine goesL_ (some 67) rfl rfl Try.func30 (by kernel_rfl) rfl #[.int .i64 a0, .bool (t680 != t681)] rfl gl ?_; (with_reducible refine (annealref1_Inf.calls a0 (t680 != t681) t690 _ A35.out).mono ?_); rintro e w' ⟨rfl, ⟨nd, rfl⟩⟩; refine ⟨_, rfl, ?_⟩; (try (rw [drewN_self wc]; generalize hq_ : World.drewN wc _ = wc; have n0_ : Aside0 (wc.heap[gb673]? = some (.cells #[.bool false, .bool false, .bool false, .bool false, .bool false] 41 (0, 0))) := ⟨by rw [← hq_]; exact (bv BK673.out)⟩; have n1_ : Aside0 (Below w.heap.size w wc) := ⟨by rw [← hq_]; exact (bl1 HB.out GE673.out)⟩; clear BK673 HB hq_; have BK673 := n0_; have HB := n1_; clear n0_ n1_)); obtain ⟨hcz36_0, hcz36_1, hcz36_2, hcz36_3, hcz36_4⟩ := bc5 BK673.out; obtain ⟨hfz36_0, hfz36_1, hfz36_2, hfz36_3, hfz36_4⟩ := bf5 BK673.out))
      refine bodyPost_ret (results_tc rfl _ _ gb673 41 #[.bool false, .bool false, .bool false, .bool false, .bool false] (0, 0) _ rfl (by (with_reducible repeat first | apply bd | apply be | apply ba); refine blk_put (cs := F5) ?_ 4 _ rfl; (with_reducible repeat first | apply bd | apply be | apply ba); refine blk_put (cs := F5) ?_ 3 _ rfl; (with_reducible repeat first | apply bd | apply be | apply ba); refine blk_put (cs := F5) ?_ 2 _ rfl; (with_reducible repeat first | apply bd | apply be | apply ba); refine blk_put (cs := F5) ?_ 1 _ rfl; (with_reducible repeat first | apply bd | apply be | apply ba); refine blk_put (cs := F5) ?_ 0 _ rfl; (with_reducible repeat first | apply bd | apply be | apply ba); exact BK673.out) Try.underlying41 rfl (by kernel_rfl)) rfl ?_
      exact ⟨by first | rfl | (simp [errW_none, errW_some] <;> rfl) | (simp [*, errW_none, errW_some] <;> rfl), bl1 HB.out GE673.out⟩
     ·replace c34 := Bool.eq_false_iff.mpr c34
      subst c34
      have H1 : ((annealref1_inf.f kj14 a0 a3).bind fun t691 => (if t691 = true then (annealref1_Div.j1 kj14 a0 a1 a2 a3 (t680 != t681) true) else ((annealref1_zero.f kj14 a0 a2).bind fun t692 => (annealref1_Div.j1 kj14 a0 a1 a2 a3 (t680 != t681) t692)))) = some (r1, r2, r3, r4, r5, r6) := by rw [if_neg (show ¬ (false = true) by decide)] at H; exact H
      clear H
      have H := H1
      clear H1
      have HC37 := Aside0.mk H
      clear H
      go_upto_region 9 with (first | ((with_reducible refine gate_callee (f := 73) rfl ?_); refine goesL_ (some 64) rfl rfl Try.func73 (by kernel_rfl) rfl #[.int .i64 a0, .int .u32 a2] rfl gl ?_; (with_reducible refine (annealref1_inf.calls kj14 a0 a2 false _ A33.out).mono ?_); rintro e w' ⟨rfl, ⟨nd, rfl⟩⟩; refine ⟨_, rfl, ?_⟩))
      (try simp only [Act.put, sb, sz, ss])
      go_cut [69] (fun v69 wc => ∃ (kq : Nat) (x69_36 : Bool), v69 = .bool x69_36 ∧ Aside0 (annealref1_Div.j1 kq a0 a1 a2 a3 (t680 != t681) x69_36 = some (r1, r2, r3, r4, r5, r6)) ∧ Aside0 (kq ≤ kj14) ∧ Aside0 (wc.heap[gb673]? = some (.cells #[.bool false, .bool false, .bool false, .bool false, .bool false] 41 (0, 0))) ∧ Aside0 (Below w.heap.size w wc))
      case first =>
       have H := HC37.out
       clear HC37
       replace H := Option.bind_eq_some_iff.mp H
       obtain ⟨t691, A380, H⟩ := H
       replace H : (if t691 = true then (annealref1_Div.j1 kj14 a0 a1 a2 a3 (t680 != t681) true) else ((annealref1_zero.f kj14 a0 a2).bind fun t692 => (annealref1_Div.j1 kj14 a0 a1 a2 a3 (t680 != t681) t692))) = some (r1, r2, r3, r4, r5, r6) := H
       have A38 := Aside0.mk A380
       clear A380
       by_cases c39 : t691 = true
       ·subst c39
        have H1 : (annealref1_Div.j1 kj14 a0 a1 a2 a3 (t680 != t681) true) = some (r1, r2, r3, r4, r5, r6) := by rw [if_pos rfl] at H; exact H
        clear H
        have H := H1
        clear H1
        have H' := Aside0.mk H
        clear H
        go_wp2_with (first | ((with_reducible refine gate_callee (f := 73) rfl ?_); refine goesL_ (some 72) rfl rfl Try.func73 (by kernel_rfl) rfl #[.int .i64 a0, .int .u32 a3] rfl gl ?_; (with_reducible refine (annealref1_inf.calls kj14 a0 a3 true _ A38.out).mono ?_); rintro e w' ⟨rfl, ⟨nd, rfl⟩⟩; refine ⟨_, rfl, ?_⟩))
        go_meet
        case rel => exact ⟨_, (true), (by first | rfl | (simp; done) | (simp [*]; done) | (congr 1; (try unfold wrap64); omega) | (congr 1; rw [IntKind.wrap_u64]; omega)), H', ⟨by have := HJ14.out; first | omega | exact Nat.le_refl _⟩, ⟨by (with_reducible repeat first | apply bd | apply be | apply ba); exact BK673.out⟩, ⟨bl1 HB.out GE673.out⟩⟩
       ·replace c39 := Bool.eq_false_iff.mpr c39
        subst c39
        have H1 : ((annealref1_zero.f kj14 a0 a2).bind fun t692 => (annealref1_Div.j1 kj14 a0 a1 a2 a3 (t680 != t681) t692)) = some (r1, r2, r3, r4, r5, r6) := by rw [if_neg (show ¬ (false = true) by decide)] at H; exact H
        clear H
        have H := H1
        clear H1
        replace H := Option.bind_eq_some_iff.mp H
        obtain ⟨t692, A400, H⟩ := H
        replace H : (annealref1_Div.j1 kj14 a0 a1 a2 a3 (t680 != t681) t692) = some (r1, r2, r3, r4, r5, r6) := H
        have A40 := Aside0.mk A400
        clear A400
        have H' := Aside0.mk H
        clear H
        go_wp2_with (first | ((with_reducible refine gate_callee (f := 73) rfl ?_); refine goesL_ (some 72) rfl rfl Try.func73 (by kernel_rfl) rfl #[.int .i64 a0, .int .u32 a3] rfl gl ?_; (with_reducible refine (annealref1_inf.calls kj14 a0 a3 false _ A38.out).mono ?_); rintro e w' ⟨rfl, ⟨nd, rfl⟩⟩; refine ⟨_, rfl, ?_⟩) | (go_at_call 72; (with_reducible refine (annealref1_zero.calls kj14 a0 a2 t692 _ A40.out).mono ?_); rintro e w' ⟨rfl, ⟨nd, rfl⟩⟩))
        go_meet
        case rel => exact ⟨_, (t692), (by first | rfl | (simp; done) | (simp [*]; done) | (congr 1; (try unfold wrap64); omega) | (congr 1; rw [IntKind.wrap_u64]; omega)), H', ⟨by have := HJ14.out; first | omega | exact Nat.le_refl _⟩, ⟨by (with_reducible repeat first | apply bd | apply be | apply ba); exact BK673.out⟩, ⟨bl1 HB.out GE673.out⟩⟩
      case rest =>
       clear HC37
       try clear c2 p2 c3 c4 c5 c6 p6 c7 c21 c23 c25 c28 c30 c34 c37 c39 hcz12_0 hcz12_1 hcz12_2 hcz12_3 hcz12_4 hcz32_0 hcz32_1 hcz32_2 hcz32_3 hcz32_4 hcz36_0 hcz36_1 hcz36_2 hcz36_3 hcz36_4 hfz12_0 hfz12_1 hfz12_2 hfz12_3 hfz12_4 hfz32_0 hfz32_1 hfz32_2 hfz32_3 hfz32_4 hfz36_0 hfz36_1 hfz36_2 hfz36_3 hfz36_4 p2 p6
       obtain ⟨kq, x69_36, rfl, HA, HJ36, BK673, HB⟩ := hcut
       cases kq with
       |zero => exact absurd HA.out (by simp [annealref1_Div.j1])
       |succ kj36 =>
        have H := HA.out
        clear HA
        simp only [annealref1_Div.j1] at H
        by_cases c41 : x69_36 = true
        ·subst c41
         have H1 : ((annealref1_Zero.f a0 (t680 != t681)).bind fun t693 => (some (t693, false, false, false, false, false))) = some (r1, r2, r3, r4, r5, r6) := by rw [if_pos rfl] at H; exact H
         clear H
         have H := H1
         clear H1
         replace H := Option.bind_eq_some_iff.mp H
         obtain ⟨t693, A420, H⟩ := H
         replace H : (some (t693, false, false, false, false, false)) = some (r1, r2, r3, r4, r5, r6) := H
         have A42 := Aside0.mk A420
         clear A420
         simp only [Option.some.injEq, Prod.mk.injEq] at H
         obtain ⟨rfl, rfl, rfl, rfl, rfl, rfl⟩ := H
         go_wp2_with (first | ((with_reducible refine gate_callee (f := 29) rfl ?_); refine goesL_ (some 80) rfl rfl Try.func29 (by kernel_rfl) rfl #[.int .i64 a0, .bool (t680 != t681)] rfl gl ?_; (with_reducible refine (annealref1_Zero.calls a0 (t680 != t681) t693 _ A42.out).mono ?_); rintro e w' ⟨rfl, ⟨nd, rfl⟩⟩; refine ⟨_, rfl, ?_⟩; (try (rw [drewN_self wc]; generalize hq_ : World.drewN wc _ = wc; have n0_ : Aside0 (wc.heap[gb673]? = some (.cells #[.bool false, .bool false, .bool false, .bool false, .bool false] 41 (0, 0))) := ⟨by rw [← hq_]; exact (bv BK673.out)⟩; have n1_ : Aside0 (Below w.heap.size w wc) := ⟨by rw [← hq_]; exact (bl1 HB.out GE673.out)⟩; clear BK673 HB hq_; have BK673 := n0_; have HB := n1_; clear n0_ n1_)); obtain ⟨hcz43_0, hcz43_1, hcz43_2, hcz43_3, hcz43_4⟩ := bc5 BK673.out; obtain ⟨hfz43_0, hfz43_1, hfz43_2, hfz43_3, hfz43_4⟩ := bf5 BK673.out))
         refine bodyPost_ret (results_tc rfl _ _ gb673 41 #[.bool false, .bool false, .bool false, .bool false, .bool false] (0, 0) _ rfl (by (with_reducible repeat first | apply bd | apply be | apply ba); refine blk_put (cs := F5) ?_ 4 _ rfl; (with_reducible repeat first | apply bd | apply be | apply ba); refine blk_put (cs := F5) ?_ 3 _ rfl; (with_reducible repeat first | apply bd | apply be | apply ba); refine blk_put (cs := F5) ?_ 2 _ rfl; (with_reducible repeat first | apply bd | apply be | apply ba); refine blk_put (cs := F5) ?_ 1 _ rfl; (with_reducible repeat first | apply bd | apply be | apply ba); refine blk_put (cs := F5) ?_ 0 _ rfl; (with_reducible repeat first | apply bd | apply be | apply ba); exact BK673.out) Try.underlying41 rfl (by kernel_rfl)) rfl ?_
         exact ⟨by first | rfl | (simp [errW_none, errW_some] <;> rfl) | (simp [*, errW_none, errW_some] <;> rfl), bl1 HB.out GE673.out⟩
        ·replace c41 := Bool.eq_false_iff.mpr c41
         subst c41
         have H1 : ((annealref1_zero.f kj36 a0 a3).bind fun t694 => (if t694 = true then ((annealref1_Inf.f a0 (t680 != t681)).bind fun t695 => (some (t695, false, true, false, false, false))) else ((annealref1_Unpack.f kj36 a0 a2).bind fun bt696 => ((annealref1_Unpack.f kj36 a0 a3).bind fun bt699 => (annealref1_Div.l0 kj36 a0 a1 (t680 != t681) bt696.2.1 bt696.2.2 bt699.2.1 bt699.2.2))))) = some (r1, r2, r3, r4, r5, r6) := by rw [if_neg (show ¬ (false = true) by decide)] at H; exact H
         clear H
         have H := H1
         clear H1
         replace H := Option.bind_eq_some_iff.mp H
         obtain ⟨t694, A440, H⟩ := H
         replace H : (if t694 = true then ((annealref1_Inf.f a0 (t680 != t681)).bind fun t695 => (some (t695, false, true, false, false, false))) else ((annealref1_Unpack.f kj36 a0 a2).bind fun bt696 => ((annealref1_Unpack.f kj36 a0 a3).bind fun bt699 => (annealref1_Div.l0 kj36 a0 a1 (t680 != t681) bt696.2.1 bt696.2.2 bt699.2.1 bt699.2.2)))) = some (r1, r2, r3, r4, r5, r6) := H
         have A44 := Aside0.mk A440
         clear A440
         by_cases c45 : t694 = true
         ·subst c45
          have H1 : ((annealref1_Inf.f a0 (t680 != t681)).bind fun t695 => (some (t695, false, true, false, false, false))) = some (r1, r2, r3, r4, r5, r6) := by rw [if_pos rfl] at H; exact H
          clear H
          have H := H1
          clear H1
          replace H := Option.bind_eq_some_iff.mp H
          obtain ⟨t695, A460, H⟩ := H
          replace H : (some (t695, false, true, false, false, false)) = some (r1, r2, r3, r4, r5, r6) := H
          have A46 := Aside0.mk A460
          clear A460
          simp only [Option.some.injEq, Prod.mk.injEq] at H
          obtain ⟨rfl, rfl, rfl, rfl, rfl, rfl⟩ := H
          go_wp2_with (first | ((with_reducible refine gate_callee (f := 72) rfl ?_); refine goesL_ (some 85) rfl rfl Try.func72 (by kernel_rfl) rfl #[.int .i64 a0, .int .u32 a3] rfl gl ?_; (with_reducible refine (annealref1_zero.calls kj36 a0 a3 true _ A44.out).mono ?_); rintro e w' ⟨rfl, ⟨nd, rfl⟩⟩; refine ⟨_, rfl, ?_⟩; (try (rw [drewN_self wc]; generalize hq_ : World.drewN wc _ = wc; have n0_ : Aside0 (wc.heap[gb673]? = some (.cells #[.bool false, .bool false, .bool false, .bool false, .bool false] 41 (0, 0))) := ⟨by rw [← hq_]; exact (bv BK673.out)⟩; have n1_ : Aside0 (Below w.heap.size w wc) := ⟨by rw [← hq_]; exact (bl1 HB.out GE673.out)⟩; clear BK673 HB hq_; have BK673 := n0_; have HB := n1_; clear n0_ n1_))) | ((with_reducible refine gate_callee (f := 30) rfl ?_); refine goesL_ (some 88) rfl rfl Try.func30 (by kernel_rfl) rfl #[.int .i64 a0, .bool (t680 != t681)] rfl gl ?_; (with_reducible refine (annealref1_Inf.calls a0 (t680 != t681) t695 _ A46.out).mono ?_); rintro e w' ⟨rfl, ⟨nd, rfl⟩⟩; refine ⟨_, rfl, ?_⟩; (try (rw [drewN_self wc]; generalize hq_ : World.drewN wc _ = wc; have n0_ : Aside0 (wc.heap[gb673]? = some (.cells #[.bool false, .bool false, .bool false, .bool false, .bool false] 41 (0, 0))) := ⟨by rw [← hq_]; exact (bv BK673.out)⟩; have n1_ : Aside0 (Below w.heap.size w wc) := ⟨by rw [← hq_]; exact (bl1 HB.out GE673.out)⟩; clear BK673 HB hq_; have BK673 := n0_; have HB := n1_; clear n0_ n1_)); obtain ⟨hcz47_0, hcz47_1, hcz47_2, hcz47_3, hcz47_4⟩ := bc5 BK673.out; obtain ⟨hfz47_0, hfz47_1, hfz47_2, hfz47_3, hfz47_4⟩ := bf5 BK673.out))
          refine bodyPost_ret (results_tc rfl _ _ gb673 41 #[.bool false, .bool true, .bool false, .bool false, .bool false] (0, 0) _ rfl (by (with_reducible repeat first | apply bd | apply be | apply ba); refine blk_put (cs := #[.bool false, .bool true, .bool false, .bool false, .bool false]) ?_ 4 _ rfl; (with_reducible repeat first | apply bd | apply be | apply ba); refine blk_put (cs := #[.bool false, .bool true, .bool false, .bool false, .bool false]) ?_ 3 _ rfl; (with_reducible repeat first | apply bd | apply be | apply ba); refine blk_put (cs := #[.bool false, .bool true, .bool false, .bool false, .bool false]) ?_ 2 _ rfl; (with_reducible repeat first | apply bd | apply be | apply ba); refine blk_put (cs := F5) ?_ 1 _ rfl; (with_reducible repeat first | apply bd | apply be | apply ba); refine blk_put (cs := F5) ?_ 0 _ rfl; (with_reducible repeat first | apply bd | apply be | apply ba); exact BK673.out) Try.underlying41 rfl (by kernel_rfl)) rfl ?_
          exact ⟨by first | rfl | (simp [errW_none, errW_some] <;> rfl) | (simp [*, errW_none, errW_some] <;> rfl), bl1 HB.out GE673.out⟩
         ·replace c45 := Bool.eq_false_iff.mpr c45
          subst c45
          have H1 : ((annealref1_Unpack.f kj36 a0 a2).bind fun bt696 => ((annealref1_Unpack.f kj36 a0 a3).bind fun bt699 => (annealref1_Div.l0 kj36 a0 a1 (t680 != t681) bt696.2.1 bt696.2.2 bt699.2.1 bt699.2.2))) = some (r1, r2, r3, r4, r5, r6) := by rw [if_neg (show ¬ (false = true) by decide)] at H; exact H
          clear H
          have H := H1
          clear H1
          replace H := Option.bind_eq_some_iff.mp H
          obtain ⟨⟨t696, t697, t698⟩, A480, H⟩ := H
          replace H : ((annealref1_Unpack.f kj36 a0 a3).bind fun bt699 => (annealref1_Div.l0 kj36 a0 a1 (t680 != t681) t697 t698 bt699.2.1 bt699.2.2)) = some (r1, r2, r3, r4, r5, r6) := H
          have A48 := Aside0.mk A480
          clear A480
          replace H := Option.bind_eq_some_iff.mp H
          obtain ⟨⟨t699, t700, t701⟩, A490, H⟩ := H
          replace H : (annealref1_Div.l0 kj36 a0 a1 (t680 != t681) t697 t698 t700 t701) = some (r1, r2, r3, r4, r5, r6) := H
          have A49 := Aside0.mk A490
          clear A490
          have H' := Aside0.mk H
          clear H
          go_wp2_with (first | ((with_reducible refine gate_callee (f := 72) rfl ?_); refine goesL_ (some 85) rfl rfl Try.func72 (by kernel_rfl) rfl #[.int .i64 a0, .int .u32 a3] rfl gl ?_; (with_reducible refine (annealref1_zero.calls kj36 a0 a3 false _ A44.out).mono ?_); rintro e w' ⟨rfl, ⟨nd, rfl⟩⟩; refine ⟨_, rfl, ?_⟩) | ((with_reducible refine gate_callee (f := 60) rfl ?_); refine goesL_ (some 93) rfl rfl Try.func60 (by kernel_rfl) rfl #[.int .i64 a0, .int .u32 a2] rfl gl ?_; (with_reducible refine (annealref1_Unpack.calls kj36 a0 a2 t696 t697 t698 _ A48.out).mono ?_); rintro e w' ⟨rfl, ⟨nd, rfl⟩⟩; refine ⟨_, rfl, ?_⟩) | ((with_reducible refine gate_callee (f := 60) rfl ?_); refine goesL_ (some 100) rfl rfl Try.func60 (by kernel_rfl) rfl #[.int .i64 a0, .int .u32 a3] rfl gl ?_; (with_reducible refine (annealref1_Unpack.calls kj36 a0 a3 t699 t700 t701 _ A49.out).mono ?_); rintro e w' ⟨rfl, ⟨nd, rfl⟩⟩; refine ⟨_, rfl, ?_⟩))
          go_loopg [14, 15] kj36 (fun kq v14 v15 w' => ∃ (x14_3 : Int) (x15_3 : Int), v14 = .int .i64 x14_3 ∧ v15 = .int .u64 x15_3 ∧ Aside0 (annealref1_Div.l0 kq a0 a1 (t680 != t681) x14_3 x15_3 t700 t701 = some (r1, r2, r3, r4, r5, r6)) ∧ Aside0 (kq ≤ kj36) ∧ Aside0 (w'.heap[gb673]? = some (.cells #[.bool false, .bool false, .bool false, .bool false, .bool false] 41 (0, 0))) ∧ Aside0 (Below w.heap.size w w'))
          case atStart => exact ⟨(t697), (t698), (by first | rfl | (simp; done) | (simp [*]; done) | (congr 1; (try unfold wrap64); omega) | (congr 1; rw [IntKind.wrap_u64]; omega)), (by first | rfl | (simp; done) | (simp [*]; done) | (congr 1; (try unfold wrap64); omega) | (congr 1; rw [IntKind.wrap_u64]; omega)), H', ⟨Nat.le_refl _⟩, ⟨by (with_reducible repeat first | apply bd | apply be | apply ba); exact BK673.out⟩, ⟨bl1 HB.out GE673.out⟩⟩
          case round =>
           clear H'
           try clear c2 p2 c3 c4 c5 c6 p6 c7 c21 c23 c25 c28 c29 c30 c34 c37 c39 c41 c43 c45 hcz12_0 hcz12_1 hcz12_2 hcz12_3 hcz12_4 hcz32_0 hcz32_1 hcz32_2 hcz32_3 hcz32_4 hcz36_0 hcz36_1 hcz36_2 hcz36_3 hcz36_4 hcz43_0 hcz43_1 hcz43_2 hcz43_3 hcz43_4 hcz47_0 hcz47_1 hcz47_2 hcz47_3 hcz47_4 hfz12_0 hfz12_1 hfz12_2 hfz12_3 hfz12_4 hfz32_0 hfz32_1 hfz32_2 hfz32_3 hfz32_4 hfz36_0 hfz36_1 hfz36_2 hfz36_3 hfz36_4 hfz43_0 hfz43_1 hfz43_2 hfz43_3 hfz43_4 hfz47_0 hfz47_1 hfz47_2 hfz47_3 hfz47_4 p2 p6
           obtain ⟨x14_3, x15_3, rfl, rfl, HA, HK3, BK673, HB⟩ := hrel
           cases gk with
           |zero => exact absurd HA.out (by simp [annealref1_Div.l0])
           |succ k3 =>
            have H := HA.out
            clear HA
            simp only [annealref1_Div.l0] at H
            by_cases c50 : x15_3 < 8388608
            ·rw [if_pos c50] at H
             have c50b0 : decide (x15_3 < 8388608) = true := decide_eq_true c50
             clear c50
             have H' := Aside0.mk H
             clear H
             go_wp2
             go_roundg k3
             case measure => have := HJ14.out; have := HJ36.out; have := HK3.out; omega
             case rel => exact ⟨(wrap64 (x14_3 - 1)), (IntKind.u64.wrap (x15_3 * 2)), (by first | rfl | (simp; done) | (simp [*]; done) | (congr 1; (try unfold wrap64); omega) | (congr 1; rw [IntKind.wrap_u64]; omega)), (by first | rfl | (simp; done) | (simp [*]; done) | (congr 1; (try unfold wrap64); omega) | (congr 1; rw [IntKind.wrap_u64]; omega)), H', ⟨by have := HJ14.out; have := HJ36.out; have := HK3.out; omega⟩, ⟨by (with_reducible repeat first | apply bd | apply be | apply ba); exact BK673.out⟩, ⟨bl1 HB.out GE673.out⟩⟩
            ·rw [if_neg c50] at H
             have c50b0 : decide (x15_3 < 8388608) = false := decide_eq_false c50
             clear c50
             have H' := Aside0.mk H
             clear H
             go_wp2
             go_loopg [17, 18] k3 (fun kq v17 v18 w' => ∃ (x17_4 : Int) (x18_4 : Int), v17 = .int .i64 x17_4 ∧ v18 = .int .u64 x18_4 ∧ Aside0 (annealref1_Div.l1 kq a0 a1 (t680 != t681) x14_3 x15_3 x17_4 x18_4 = some (r1, r2, r3, r4, r5, r6)) ∧ Aside0 (kq ≤ k3) ∧ Aside0 (w'.heap[gb673]? = some (.cells #[.bool false, .bool false, .bool false, .bool false, .bool false] 41 (0, 0))) ∧ Aside0 (Below w.heap.size w w'))
             case atStart => exact ⟨(t700), (t701), (by first | rfl | (simp; done) | (simp [*]; done) | (congr 1; (try unfold wrap64); omega) | (congr 1; rw [IntKind.wrap_u64]; omega)), (by first | rfl | (simp; done) | (simp [*]; done) | (congr 1; (try unfold wrap64); omega) | (congr 1; rw [IntKind.wrap_u64]; omega)), H', ⟨Nat.le_refl _⟩, ⟨by (with_reducible repeat first | apply bd | apply be | apply ba); exact BK673.out⟩, ⟨bl1 HB.out GE673.out⟩⟩
             case round =>
              clear H'
              try clear c2 p2 c3 c4 c5 c6 p6 c7 c21 c23 c25 c28 c29 c30 c34 c37 c39 c41 c43 c45 c50 c50b0 hcz12_0 hcz12_1 hcz12_2 hcz12_3 hcz12_4 hcz32_0 hcz32_1 hcz32_2 hcz32_3 hcz32_4 hcz36_0 hcz36_1 hcz36_2 hcz36_3 hcz36_4 hcz43_0 hcz43_1 hcz43_2 hcz43_3 hcz43_4 hcz47_0 hcz47_1 hcz47_2 hcz47_3 hcz47_4 hfz12_0 hfz12_1 hfz12_2 hfz12_3 hfz12_4 hfz32_0 hfz32_1 hfz32_2 hfz32_3 hfz32_4 hfz36_0 hfz36_1 hfz36_2 hfz36_3 hfz36_4 hfz43_0 hfz43_1 hfz43_2 hfz43_3 hfz43_4 hfz47_0 hfz47_1 hfz47_2 hfz47_3 hfz47_4 p2 p6
              obtain ⟨x17_4, x18_4, rfl, rfl, HA, HK4, BK673, HB⟩ := hrel
              cases gk with
              |zero => exact absurd HA.out (by simp [annealref1_Div.l1])
              |succ k4 =>
               have H := HA.out
               clear HA
               simp only [annealref1_Div.l1] at H
               by_cases c51 : x18_4 < 8388608
               ·rw [if_pos c51] at H
                have c51b0 : decide (x18_4 < 8388608) = true := decide_eq_true c51
                clear c51
                have H' := Aside0.mk H
                clear H
                go_wp2
                go_roundg k4
                case measure => have := HJ14.out; have := HJ36.out; have := HK3.out; have := HK4.out; omega
                case rel => exact ⟨(wrap64 (x17_4 - 1)), (IntKind.u64.wrap (x18_4 * 2)), (by first | rfl | (simp; done) | (simp [*]; done) | (congr 1; (try unfold wrap64); omega) | (congr 1; rw [IntKind.wrap_u64]; omega)), (by first | rfl | (simp; done) | (simp [*]; done) | (congr 1; (try unfold wrap64); omega) | (congr 1; rw [IntKind.wrap_u64]; omega)), H', ⟨by have := HJ14.out; have := HJ36.out; have := HK3.out; have := HK4.out; omega⟩, ⟨by (with_reducible repeat first | apply bd | apply be | apply ba); exact BK673.out⟩, ⟨bl1 HB.out GE673.out⟩⟩
               ·rw [if_neg c51] at H
                have c51b0 : decide (x18_4 < 8388608) = false := decide_eq_false c51
                clear c51
                by_cases c52 : x18_4 = 0
                ·rw [if_pos c52] at H
                 exact absurd H (by simp)
                ·rw [if_neg c52] at H
                 have c52b0 : (x18_4 == 0) = false := beq_eq_false_iff_ne.mpr c52
                 have c52b1 : (x18_4 != 0) = true := bne_iff_ne.mpr c52
                 replace H := Option.bind_eq_some_iff.mp H
                 obtain ⟨⟨t702, t703, t704, t705, t706, t707⟩, A530, H⟩ := H
                 replace H : (some (t702, t703, t704, t705, t706, t707)) = some (r1, r2, r3, r4, r5, r6) := H
                 have A53 := Aside0.mk A530
                 clear A530
                 simp only [Option.some.injEq, Prod.mk.injEq] at H
                 obtain ⟨rfl, rfl, rfl, rfl, rfl, rfl⟩ := H
                 try go_wp2
                 have n0_ := Aside0.mk (blk_drew BK673.out)
                 have n1_ := Aside0.mk (below_drew1 HB.out)
                 clear BK673
                 clear HB
                 have BK673 := n0_
                 have HB := n1_
                 clear n0_ n1_
                 refine start_ (n := 19) (S := fun w' => True) (ds := []) (tf 0 19) (by kernel_rfl) rfl rfl trivial (fun hHeld => ?_); refine with_tabW annealref1_Div.tab20 annealref1_Div.bits20 (fun HT_ HW_ => ?_)
                 generalize wr.drew = w54 at BK673 HB hHeld ⊢
                 refine pure_ (i := 0) (N := some 118) (v := ?_) (a' := ?_) (tf 1 18) rfl rfl (any_of HT_.out (by kernel_rfl)) (fun _ _ _ h => h) (Or.inl ⟨by rfl, ?_⟩) ?_ ?_
                 rotate_left
                 ·intro w'
                  go_simp
                  with_reducible rfl
                 rotate_left
                 ·simp only [Act.put, sb, sz, ss, i64_w, i32_w]
                  rfl
                 refine pure_ (i := 1) (N := some 119) (v := ?_) (a' := ?_) (tf 2 17) rfl rfl (any_of HT_.out (by kernel_rfl)) (fun _ _ _ h => h) (Or.inl ⟨by rfl, ?_⟩) ?_ ?_
                 rotate_left
                 ·intro w'
                  go_simp
                  with_reducible rfl
                 rotate_left
                 ·simp only [Act.put, sb, sz, ss, i64_w, i32_w]
                  rfl
                 refine pure_ (i := 2) (N := some 120) (v := ?_) (a' := ?_) (tf 3 16) rfl rfl (any_of HT_.out (by kernel_rfl)) (fun _ _ _ h => h) (Or.inl ⟨by rfl, ?_⟩) ?_ ?_
                 rotate_left
                 ·intro w'
                  go_simp
                  with_reducible rfl
                 rotate_left
                 ·simp only [Act.put, sb, sz, ss, i64_w, i32_w]
                  rfl
                 refine pure_ (i := 3) (N := some 121) (v := ?_) (a' := ?_) (tf 4 15) rfl rfl (any_of HT_.out (by kernel_rfl)) (fun _ _ _ h => h) (Or.inl ⟨by rfl, ?_⟩) ?_ ?_
                 rotate_left
                 ·intro w'
                  go_simp
                  with_reducible rfl
                 rotate_left
                 ·simp only [Act.put, sb, sz, ss, i64_w, i32_w]
                  rfl
                 refine pure_ (i := 4) (N := some 122) (v := ?_) (a' := ?_) (tf 5 14) rfl rfl (any_of HT_.out (by kernel_rfl)) (fun _ _ _ h => h) (Or.inl ⟨by rfl, ?_⟩) ?_ ?_
                 rotate_left
                 ·intro w'
                  go_simp
                  with_reducible rfl
                 rotate_left
                 ·simp only [Act.put, sb, sz, ss, i64_w, i32_w]
                  rfl
                 refine pure_ (i := 5) (N := some 123) (v := ?_) (a' := ?_) (tf 6 13) rfl rfl (any_of HT_.out (by kernel_rfl)) (fun _ _ _ h => h) (Or.inl ⟨by rfl, ?_⟩) ?_ ?_
                 rotate_left
                 ·intro w'
                  go_simp
                  with_reducible rfl
                 rotate_left
                 ·simp only [Act.put, sb, sz, ss, i64_w, i32_w]
                  rfl
                 refine pure_ (i := 6) (N := some 124) (v := ?_) (a' := ?_) (tf 7 12) rfl rfl (any_of HT_.out (by kernel_rfl)) (fun _ _ _ h => h) (Or.inl ⟨by rfl, ?_⟩) ?_ ?_
                 rotate_left
                 ·intro w'
                  go_simp
                  with_reducible rfl
                 rotate_left
                 ·simp only [Act.put, sb, sz, ss, i64_w, i32_w]
                  rfl
                 refine pure_ (i := 7) (N := some 125) (v := ?_) (a' := ?_) (tf 8 11) rfl rfl (any_of HT_.out (by kernel_rfl)) (fun _ _ _ h => h) (Or.inl ⟨by rfl, ?_⟩) ?_ ?_
                 rotate_left
                 ·intro w'
                  go_simp
                  with_reducible rfl
                 rotate_left
                 ·simp only [Act.put, sb, sz, ss, i64_w, i32_w]
                  rfl
                 refine pure_ (i := 8) (N := some 126) (v := ?_) (a' := ?_) (tf 9 10) rfl rfl (any_of HT_.out (by kernel_rfl)) (fun _ _ _ h => h) (Or.inl ⟨by rfl, ?_⟩) ?_ ?_
                 rotate_left
                 ·intro w'
                  go_simp
                  with_reducible rfl
                 rotate_left
                 ·simp only [Act.put, sb, sz, ss, i64_w, i32_w]
                  rfl
                 refine pure_ (i := 9) (N := some 127) (v := ?_) (a' := ?_) (tf 10 9) rfl rfl (any_of HT_.out (by kernel_rfl)) (fun _ _ _ h => h) (Or.inl ⟨by rfl, ?_⟩) ?_ ?_
                 rotate_left
                 ·intro w'
                  go_simp
                  with_reducible rfl
                 rotate_left
                 ·simp only [Act.put, sb, sz, ss, i64_w, i32_w]
                  rfl
                 refine pure_ (i := 10) (N := some 128) (v := ?_) (a' := ?_) (tf 11 8) rfl rfl (any_of HT_.out (by kernel_rfl)) (fun _ _ _ h => h) (Or.inl ⟨by rfl, ?_⟩) ?_ ?_
                 rotate_left
                 ·intro w'
                  go_simp
                  with_reducible rfl
                 rotate_left
                 ·simp only [Act.put, sb, sz, ss, i64_w, i32_w]
                  rfl
                 refine pure_ (i := 11) (N := some 129) (v := ?_) (a' := ?_) (tf 12 7) rfl rfl (any_of HT_.out (by kernel_rfl)) (fun _ _ _ h => h) (Or.inl ⟨by rfl, ?_⟩) ?_ ?_
                 rotate_left
                 ·intro w'
                  go_simp
                  with_reducible rfl
                 rotate_left
                 ·simp only [Act.put, sb, sz, ss, i64_w, i32_w]
                  rfl
                 refine pure_ (i := 12) (N := some 130) (v := ?_) (a' := ?_) (tf 13 6) rfl rfl (any_of HT_.out (by kernel_rfl)) (fun _ _ _ h => h) (Or.inl ⟨by rfl, ?_⟩) ?_ ?_
                 rotate_left
                 ·intro w'
                  go_simp
                  with_reducible rfl
                 rotate_left
                 ·simp only [Act.put, sb, sz, ss, i64_w, i32_w]
                  rfl
                 refine pure_ (i := 13) (N := some 131) (v := ?_) (a' := ?_) (tf 14 5) rfl rfl (any_of HT_.out (by kernel_rfl)) (fun _ _ _ h => h) (Or.inl ⟨by rfl, ?_⟩) ?_ ?_
                 rotate_left
                 ·intro w'
                  go_simp
                  with_reducible rfl
                 rotate_left
                 ·simp only [Act.put, sb, sz, ss, i64_w, i32_w]
                  rfl
                 refine one_ (i := 14) (N := some 132) (tf 15 4) rfl rfl (one_of HT_.out (by kernel_rfl)) (by decide) (fun K hK => ?_)
                 refine goes_ Try.func52 (by kernel_rfl) rfl #[.int .i64 a0, .int .i64 a1, .bool (t680 != t681), .int .i64 (wrap64 ((wrap64 (x14_3 - x17_4)) - 40)), .int .u64 (IntKind.u64.wrap (Int.tdiv (IntKind.u64.wrap (x15_3 * 1099511627776)) x18_4)), .bool ((Int.tmod (IntKind.u64.wrap (x15_3 * 1099511627776)) x18_4) != 0)] (by rfl) rfl rfl gl ?_
                 with_reducible refine (annealref1_Pack.calls k4 a0 a1 (t680 != t681) (wrap64 ((wrap64 (x14_3 - x17_4)) - 40)) (IntKind.u64.wrap (Int.tdiv (IntKind.u64.wrap (x15_3 * 1099511627776)) x18_4)) ((Int.tmod (IntKind.u64.wrap (x15_3 * 1099511627776)) x18_4) != 0) t702 t703 t704 t705 t706 t707 _ A53.out).mono ?_
                 rintro e w55 ⟨rfl, hb⟩
                 refine ⟨_, rfl, ?_⟩
                 have n0_ := Aside0.mk (blk_below (g := gb673) (o := .cells #[.bool false, .bool false, .bool false, .bool false, .bool false] 41 (0, 0)) (bv BK673.out) hb)
                 have n1_ := Aside0.mk (below_step (bl1 HB.out GE673.out) hb)
                 clear BK673
                 clear HB
                 have BK673 := n0_
                 have HB := n1_
                 clear n0_ n1_
                 (try clear hb)
                 (try clear hb2)
                 (try clear hk)
                 (try clear hi)
                 refine hK.out _ _ trivial (fun hHeld => ?_)
                 clear hK K
                 refine norm_ (a' := ?_) ?_ ?_
                 rotate_left
                 ·show Act.put _ (some 132) _ = _
                  simp only [Act.put, sb, sz, ss, i64_w, i32_w]
                  rfl
                 refine pure_ (i := 15) (N := some 133) (v := ?_) (a' := ?_) (tf 16 3) rfl rfl (any_of HT_.out (by kernel_rfl)) (fun _ _ _ h => h) (Or.inl ⟨by rfl, ?_⟩) ?_ ?_
                 rotate_left
                 ·intro w'
                  go_simp
                  with_reducible rfl
                 rotate_left
                 ·simp only [Act.put, sb, sz, ss, i64_w, i32_w]
                  rfl
                 refine pure_ (i := 16) (N := some 134) (v := ?_) (a' := ?_) (tf 17 2) rfl rfl (any_of HT_.out (by kernel_rfl)) (fun _ _ _ h => h) (Or.inl ⟨by rfl, ?_⟩) ?_ ?_
                 rotate_left
                 ·intro w'
                  go_simp
                  with_reducible rfl
                 rotate_left
                 ·simp only [Act.put, sb, sz, ss, i64_w, i32_w]
                  rfl
                 refine pure_ (i := 17) (N := some 8) (v := ?_) (a' := ?_) (tf 18 1) rfl rfl (any_of HT_.out (by kernel_rfl)) (fun _ _ _ h => h) (Or.inl ⟨by rfl, ?_⟩) ?_ ?_
                 rotate_left
                 ·intro w'
                  go_simp
                  with_reducible rfl
                 rotate_left
                 ·simp only [Act.put, sb, sz, ss, i64_w, i32_w]
                  rfl
                 refine one_ (i := 18) (N := none) (tf 19 0) rfl rfl (one_of HT_.out (by kernel_rfl)) (by decide) (fun K hK => ?_)
                 have hs56 : w55.cell? ⟨gb673, 0, none⟩ = some (.bool false) := (blk_cell BK673.out 0).trans rfl
                 have hfs56 := blk_frozen BK673.out 0
                 have hs57 : w55.cell? ⟨gb673, 1, none⟩ = some (.bool false) := (blk_cell BK673.out 1).trans rfl
                 have hfs57 := blk_frozen BK673.out 1
                 have hs58 : w55.cell? ⟨gb673, 2, none⟩ = some (.bool false) := (blk_cell BK673.out 2).trans rfl
                 have hfs58 := blk_frozen BK673.out 2
                 have hs59 : w55.cell? ⟨gb673, 3, none⟩ = some (.bool false) := (blk_cell BK673.out 3).trans rfl
                 have hfs59 := blk_frozen BK673.out 3
                 have hs60 : w55.cell? ⟨gb673, 4, none⟩ = some (.bool false) := (blk_cell BK673.out 4).trans rfl
                 have hfs60 := blk_frozen BK673.out 4
                 refine skip_ (w1 := ?_) (by rfl) rfl ?_ ?_
                 rotate_left
                 ·go_simp
                  rfl
                 refine hK.out _ _ trivial (fun hHeld => ?_)
                 clear hK K
                 refine done_ (done_of HT_.out (by kernel_rfl)) ?_
                 try go_wp2
                 refine bodyPost_ret (results_tc rfl _ _ gb673 41 #[.bool t703, .bool t704, .bool t705, .bool t706, .bool t707] (0, 0) _ rfl (by (with_reducible repeat first | apply bd | apply be | apply ba); refine blk_put (cs := #[.bool t703, .bool t704, .bool t705, .bool t706, .bool false]) ?_ 4 _ rfl; (with_reducible repeat first | apply bd | apply be | apply ba); refine blk_put (cs := #[.bool t703, .bool t704, .bool t705, .bool false, .bool false]) ?_ 3 _ rfl; (with_reducible repeat first | apply bd | apply be | apply ba); refine blk_put (cs := #[.bool t703, .bool t704, .bool false, .bool false, .bool false]) ?_ 2 _ rfl; (with_reducible repeat first | apply bd | apply be | apply ba); refine blk_put (cs := #[.bool t703, .bool false, .bool false, .bool false, .bool false]) ?_ 1 _ rfl; (with_reducible repeat first | apply bd | apply be | apply ba); refine blk_put (cs := F5) ?_ 0 _ rfl; (with_reducible repeat first | apply bd | apply be | apply ba); exact BK673.out) Try.underlying41 rfl (by kernel_rfl)) rfl ?_
                 exact ⟨by first | rfl | (simp [errW_none, errW_some] <;> rfl) | (simp [*, errW_none, errW_some] <;> rfl), bl1 HB.out GE673.out⟩

end Go.Proofs.Ytngkpekmgahjiaa.P
