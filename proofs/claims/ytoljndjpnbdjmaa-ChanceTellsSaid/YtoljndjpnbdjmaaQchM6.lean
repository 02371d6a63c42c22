import Derived.Test.YtoljndjpnbdjmaaQchZ
import Derived.Test.YtoljndjpnbdjmaaQchM1
import Derived.Test.YtoljndjpnbdjmaaQchM4
import Derived.Test.YtoljndjpnbdjmaaQchPx12
import Derived.Test.YtoljndjpnbdjmaaQchM3
import Derived.Test.YtoljndjpnbdjmaaQchM5
import Derived.Test.YtoljndjpnbdjmaaQchPx22
import Derived.Test.YtoljndjpnbdjmaaQchWMore
import Derived.Test.YtoljndjpnbdjmaaQchM2
-- Printed by a program of this session's out of Lean's print of the translation; Lean checks it.
namespace Go.Proofs.Ytoljndjpnbdjmaa.P
open Go.RowKit Go.Proofs.YtoljndjpnbdjmaaW.PrintWords Go.Proofs.YtoljndjpnbdjmaaW.PrintLast Go.Proofs.YtoljndjpnbdjmaaW.PrintMore
attribute [local go_sem] max2_int min2_int max_two min_two max_three min_three max_four min_four   -- for this text's walks alone
set_option linter.unusedVariables false
set_option linter.unusedSimpArgs false

/-! ### annealref1_inf: function 68 -/
def annealref1_inf.f (k : Nat) (a0 : Int) (a1 : Int) : Option (Bool) := (annealref1_Class.f k a0 a1).bind fun t462 => (some (t462 == 3))
set_option maxHeartbeats 8000000 in
set_option maxRecDepth 100000 in
theorem annealref1_inf.calls (k : Nat) (a0 : Int) (a1 : Int) (r : Bool) (w : World) (h : annealref1_inf.f k a0 a1 = some r) :
  Calls Try.prog 68 #[.int .i64 a0, .int .u32 a1] w fun e w' => e = .returned (.bool r) ∧ Drawn0 w w' := by
 have H : ((annealref1_Class.f k a0 a1).bind fun t462 => (some (t462 == 3))) = some r := h
 clear h
 replace H := Option.bind_eq_some_iff.mp H
 obtain ⟨t462, A30, H⟩ := H
 replace H : (some (t462 == 3)) = some r := H
 have A3 := Aside0.mk A30
 clear A30
 obtain rfl := Option.some.inj H
 go_enter Try.func68, Try.ntmps68
 go_wp2_with (first | ((with_reducible refine gate_callee (f := 34) rfl ?_); refine goesL_ (some 7) rfl rfl Try.func34 (by kernel_rfl) rfl #[.int .i64 a0, .int .u32 a1] rfl gl ?_; (with_reducible refine (annealref1_Class.calls k a0 a1 t462 _ A3.out).mono ?_); rintro e w' ⟨rfl, ⟨nd, rfl⟩⟩; refine ⟨_, rfl, ?_⟩))
 go_ret
 exact ⟨by first | rfl | (simp; done) | (simp [*]; done) | (congr 1; (try unfold wrap64); omega) | (congr 1; rw [IntKind.wrap_u64]; omega), by repeat (first | exact Drawn0.refl _ | apply Drawn0.step)⟩

/-! ### annealref1_To: function 29 -/
def annealref1_To.f (k : Nat) (a0 : Int) (a1 : Int) (a2 : Int) (a3 : Int) : Option (Int × Bool × Bool × Bool × Bool × Bool) := (annealref1_nans.f k a0 (([a3] : List Int))).bind fun bt467 => (if bt467.1 = true then ((annealref1_Nan.f a1).bind fun t469 => (some (t469, bt467.2, false, false, false, false))) else ((annealref1_inf.f k a0 a3).bind fun t470 => (if t470 = true then ((annealref1_neg.f a0 a3).bind fun t471 => ((annealref1_Inf.f a1 t471).bind fun t472 => (some (t472, false, false, false, false, false)))) else ((annealref1_Unpack.f k a0 a3).bind fun bt473 => ((annealref1_Pack.f k a1 a2 bt473.1 bt473.2.1 bt473.2.2 false).bind fun bt476 => (some (bt476.1, bt476.2.1, bt476.2.2.1, bt476.2.2.2.1, bt476.2.2.2.2.1, bt476.2.2.2.2.2)))))))
set_option maxHeartbeats 8000000 in
set_option maxRecDepth 100000 in
theorem annealref1_To.calls (k : Nat) (a0 : Int) (a1 : Int) (a2 : Int) (a3 : Int) (r1 : Int) (r2 : Bool) (r3 : Bool) (r4 : Bool) (r5 : Bool) (r6 : Bool) (w : World) (h : annealref1_To.f k a0 a1 a2 a3 = some (r1, r2, r3, r4, r5, r6)) :
  Calls Try.prog 29 #[.int .i64 a0, .int .i64 a1, .int .i64 a2, .int .u32 a3] w fun e w' => e = .returned (.tuple #[.int .u32 r1, .agg #[.bool r2, .bool r3, .bool r4, .bool r5, .bool r6]]) ∧ Below w.heap.size w w' := by
 have hu30 := Try.underlying30
 have HB := Aside0.mk (Below.refl w.heap.size w)
 have H : ((annealref1_nans.f k a0 (([a3] : List Int))).bind fun bt467 => (if bt467.1 = true then ((annealref1_Nan.f a1).bind fun t469 => (some (t469, bt467.2, false, false, false, false))) else ((annealref1_inf.f k a0 a3).bind fun t470 => (if t470 = true then ((annealref1_neg.f a0 a3).bind fun t471 => ((annealref1_Inf.f a1 t471).bind fun t472 => (some (t472, false, false, false, false, false)))) else ((annealref1_Unpack.f k a0 a3).bind fun bt473 => ((annealref1_Pack.f k a1 a2 bt473.1 bt473.2.1 bt473.2.2 false).bind fun bt476 => (some (bt476.1, bt476.2.1, bt476.2.2.1, bt476.2.2.2.1, bt476.2.2.2.2.1, bt476.2.2.2.2.2)))))))) = some (r1, r2, r3, r4, r5, r6) := h
 clear h
 obtain ⟨y464, hy464⟩ : ∃ y_ : List Int, y_ = (([a3] : List Int)) := ⟨_, rfl⟩
 replace H : ((annealref1_nans.f k a0 y464).bind fun bt467 => (if bt467.1 = true then ((annealref1_Nan.f a1).bind fun t469 => (some (t469, bt467.2, false, false, false, false))) else ((annealref1_inf.f k a0 a3).bind fun t470 => (if t470 = true then ((annealref1_neg.f a0 a3).bind fun t471 => ((annealref1_Inf.f a1 t471).bind fun t472 => (some (t472, false, false, false, false, false)))) else ((annealref1_Unpack.f k a0 a3).bind fun bt473 => ((annealref1_Pack.f k a1 a2 bt473.1 bt473.2.1 bt473.2.2 false).bind fun bt476 => (some (bt476.1, bt476.2.1, bt476.2.2.1, bt476.2.2.2.1, bt476.2.2.2.2.1, bt476.2.2.2.2.2)))))))) = some (r1, r2, r3, r4, r5, r6) := by first | (rw [hy464]; with_reducible exact H) | (have H2_ := (Option.bind_some _ _).symm.trans H; rw [hy464]; with_reducible exact H2_) | (have H2_ := (Option.bind_some _ _).symm.trans H; with_reducible exact H2_) | with_reducible exact H | (rw [hy464]; exact H) | exact H
 have Ny464 := Aside0.mk hy464
 clear hy464
 replace H := Option.bind_eq_some_iff.mp H
 obtain ⟨⟨t467, t468⟩, A50, H⟩ := H
 replace H : (if t467 = true then ((annealref1_Nan.f a1).bind fun t469 => (some (t469, t468, false, false, false, false))) else ((annealref1_inf.f k a0 a3).bind fun t470 => (if t470 = true then ((annealref1_neg.f a0 a3).bind fun t471 => ((annealref1_Inf.f a1 t471).bind fun t472 => (some (t472, false, false, false, false, false)))) else ((annealref1_Unpack.f k a0 a3).bind fun bt473 => ((annealref1_Pack.f k a1 a2 bt473.1 bt473.2.1 bt473.2.2 false).bind fun bt476 => (some (bt476.1, bt476.2.1, bt476.2.2.1, bt476.2.2.2.1, bt476.2.2.2.2.1, bt476.2.2.2.2.2))))))) = some (r1, r2, r3, r4, r5, r6) := H
 have A5 := Aside0.mk A50
 clear A50
 by_cases c6 : t467 = true
 ·subst c6
  have H1 : ((annealref1_Nan.f a1).bind fun t469 => (some (t469, t468, false, false, false, false))) = some (r1, r2, r3, r4, r5, r6) := by rw [if_pos rfl] at H; exact H
  clear H
  have H := H1
  clear H1
  replace H := Option.bind_eq_some_iff.mp H
  obtain ⟨t469, A70, H⟩ := H
  replace H : (some (t469, t468, false, false, false, false)) = some (r1, r2, r3, r4, r5, r6) := H
  have A7 := Aside0.mk A70
  clear A70
  simp only [Option.some.injEq, Prod.mk.injEq] at H
  obtain ⟨rfl, rfl, rfl, rfl, rfl, rfl⟩ := H
  go_enter Try.func29, Try.ntmps29
  go_wp2_with (first | ((with_reducible refine gate_dst (N := 9) rfl ?_); refine box_event ?hg (N := 9) ?hd (cs := #[.bool false, .bool false, .bool false, .bool false, .bool false]) (t := 30) ?hr ?_; (case hd => rfl); (case hg => rfl); (case hr => first | (go_simp; done) | (go_simp; rfl)); intro gb463 hg w8 hbox hb; have n0_ := Aside0.mk (below_step (bl0 HB.out) hb); have n1_ := Aside0.mk (hbox); have n2_ := Aside0.mk ((by rw [hg]; exact (below_size (bl0 HB.out)) : w.heap.size ≤ gb463)); have n3_ := Aside0.mk ((by rw [hg]; exact (below_size (bl0 HB.out)) : w.heap.size ≤ gb463)); clear HB; have HB := n0_; have BK463 := n1_; have GW463 := n2_; have GE463 := n3_; clear n0_ n1_ n2_ n3_; clear hb hbox hg) | ((with_reducible refine gate_dst (N := 18) rfl ?_); refine Kd.R_lit (Kd.int .u32) _ 28 ?hg (N := 18) ?hd (xs := ([a3] : List Int)) (inner := [.int .u32 a3]) (ok := fun _ => True) (okp := fun _ => True) ?hr ?hp (fun _ hk => hk) trivial (Below.refl _ _) (Nat.le_refl _) (by simp) ?_; (case hd => rfl); (case hg => rfl); (case hr => first | (go_simp; done) | (go_simp; rfl)); (case hp => exact (Reps.one (show Kd.M (Kd.int .u32) _ _ _ a3 [.int .u32 a3] from rfl) (Reps.none _ _))); intro v465 w9 ho10 hb hg_ hnew_; clear hg_ hnew_; (first | rw [← Ny464.out] at ho10 | (simp only [Int.reduceToNat] at ho10; rw [← Ny464.out] at ho10)); have n0_ := Aside0.mk (Kd.R_lower ho10 (below_size (bl1 HB.out GE463.out))); have n1_ := Aside0.mk (blk_below (g := gb463) (o := .cells #[.bool false, .bool false, .bool false, .bool false, .bool false] 30 (0, 0)) (bv BK463.out) hb); have n2_ := Aside0.mk (below_step (bl1 HB.out GE463.out) hb); clear BK463; clear HB; have HO466 := n0_; have BK463 := n1_; have HB := n2_; clear n0_ n1_ n2_; clear hb ho10; obtain ⟨Ao11, co11, eo11⟩ := Kd.R_slice HO466.out; subst eo11) | ((with_reducible refine gate_callee (f := 67) rfl ?_); refine goesL_ (some 19) rfl rfl Try.func67 (by kernel_rfl) rfl #[.int .i64 a0, .slice Ao11 y464.length co11] rfl gl ?_; (with_reducible refine (annealref1_nans.calls k a0 _ _ y464 true t468 _ ?side1 ?side2 A5.out).mono ?_); (case side1 => repeat (first | exact (Kd.R_reads' HO466.out).2.2 | (with_reducible refine Kd.C_alloc ?_ _) | (with_reducible refine Kd.C_drewN ?_ _) | (with_reducible refine Kd.C_drew ?_))); (case side2 => exact (Kd.R_reads' HO466.out).2.1); rintro e w' ⟨rfl, ⟨nd, rfl⟩⟩; refine ⟨_, rfl, ?_⟩; (try (rw [drewN_self w9]; generalize hq_ : World.drewN w9 _ = w9; have n0_ : Aside0 (Kd.R (Kd.int .u32) 28 w9 w.heap.size (fun _ => True) (.slice Ao11 y464.length co11) y464) := ⟨by rw [← hq_]; exact (by (with_reducible repeat (first | apply Kd.R_alloc | apply Kd.R_drewN | apply Kd.R_drew)); exact HO466.out)⟩; have n1_ : Aside0 (w9.heap[gb463]? = some (.cells #[.bool false, .bool false, .bool false, .bool false, .bool false] 30 (0, 0))) := ⟨by rw [← hq_]; exact (bv BK463.out)⟩; have n2_ : Aside0 (Below w.heap.size w w9) := ⟨by rw [← hq_]; exact (bl1 HB.out GE463.out)⟩; clear HO466 BK463 HB hq_; have HO466 := n0_; have BK463 := n1_; have HB := n2_; clear n0_ n1_ n2_))) | ((with_reducible refine gate_callee (f := 35) rfl ?_); refine goesL_ (some 24) rfl rfl Try.func35 (by kernel_rfl) rfl #[.int .i64 a1] rfl gl ?_; (with_reducible refine (annealref1_Nan.calls a1 t469 _ A7.out).mono ?_); rintro e w' ⟨rfl, ⟨nd, rfl⟩⟩; refine ⟨_, rfl, ?_⟩; (try (rw [drewN_self w9]; generalize hq_ : World.drewN w9 _ = w9; have n0_ : Aside0 (Kd.R (Kd.int .u32) 28 w9 w.heap.size (fun _ => True) (.slice Ao11 y464.length co11) y464) := ⟨by rw [← hq_]; exact (by (with_reducible repeat (first | apply Kd.R_alloc | apply Kd.R_drewN | apply Kd.R_drew)); exact HO466.out)⟩; have n1_ : Aside0 (w9.heap[gb463]? = some (.cells #[.bool false, .bool false, .bool false, .bool false, .bool false] 30 (0, 0))) := ⟨by rw [← hq_]; exact (bv BK463.out)⟩; have n2_ : Aside0 (Below w.heap.size w w9) := ⟨by rw [← hq_]; exact (bl1 HB.out GE463.out)⟩; clear HO466 BK463 HB hq_; have HO466 := n0_; have BK463 := n1_; have HB := n2_; clear n0_ n1_ n2_)); obtain ⟨hcz12_0, hcz12_1, hcz12_2, hcz12_3, hcz12_4⟩ := bc5 BK463.out; obtain ⟨hfz12_0, hfz12_1, hfz12_2, hfz12_3, hfz12_4⟩ := bf5 BK463.out))
  refine bodyPost_ret (results_tc rfl _ _ gb463 30 #[.bool t468, .bool false, .bool false, .bool false, .bool false] (0, 0) _ rfl (by (with_reducible repeat (first | refine blk_drewN ?_ _ | refine blk_drew ?_ | refine blk_alloc ?_ _)); refine blk_put (cs := #[.bool t468, .bool false, .bool false, .bool false, .bool false]) ?_ 4 _ rfl; (with_reducible repeat (first | refine blk_drewN ?_ _ | refine blk_drew ?_ | refine blk_alloc ?_ _)); refine blk_put (cs := #[.bool t468, .bool false, .bool false, .bool false, .bool false]) ?_ 3 _ rfl; (with_reducible repeat (first | refine blk_drewN ?_ _ | refine blk_drew ?_ | refine blk_alloc ?_ _)); refine blk_put (cs := #[.bool t468, .bool false, .bool false, .bool false, .bool false]) ?_ 2 _ rfl; (with_reducible repeat (first | refine blk_drewN ?_ _ | refine blk_drew ?_ | refine blk_alloc ?_ _)); refine blk_put (cs := #[.bool t468, .bool false, .bool false, .bool false, .bool false]) ?_ 1 _ rfl; (with_reducible repeat (first | refine blk_drewN ?_ _ | refine blk_drew ?_ | refine blk_alloc ?_ _)); refine blk_put (cs := #[.bool false, .bool false, .bool false, .bool false, .bool false]) ?_ 0 _ rfl; (with_reducible repeat (first | refine blk_drewN ?_ _ | refine blk_drew ?_ | refine blk_alloc ?_ _)); exact BK463.out) Try.underlying30 rfl (by kernel_rfl)) rfl ?_
  exact ⟨by first | rfl | (simp [errW_none, errW_some] <;> rfl) | (simp [*, errW_none, errW_some] <;> rfl), bl1 HB.out GE463.out⟩
 ·replace c6 := Bool.eq_false_iff.mpr c6
  subst c6
  have H1 : ((annealref1_inf.f k a0 a3).bind fun t470 => (if t470 = true then ((annealref1_neg.f a0 a3).bind fun t471 => ((annealref1_Inf.f a1 t471).bind fun t472 => (some (t472, false, false, false, false, false)))) else ((annealref1_Unpack.f k a0 a3).bind fun bt473 => ((annealref1_Pack.f k a1 a2 bt473.1 bt473.2.1 bt473.2.2 false).bind fun bt476 => (some (bt476.1, bt476.2.1, bt476.2.2.1, bt476.2.2.2.1, bt476.2.2.2.2.1, bt476.2.2.2.2.2)))))) = some (r1, r2, r3, r4, r5, r6) := by rw [if_neg (show ¬ (false = true) by decide)] at H; exact H
  clear H
  have H := H1
  clear H1
  replace H := Option.bind_eq_some_iff.mp H
  obtain ⟨t470, A130, H⟩ := H
  replace H : (if t470 = true then ((annealref1_neg.f a0 a3).bind fun t471 => ((annealref1_Inf.f a1 t471).bind fun t472 => (some (t472, false, false, false, false, false)))) else ((annealref1_Unpack.f k a0 a3).bind fun bt473 => ((annealref1_Pack.f k a1 a2 bt473.1 bt473.2.1 bt473.2.2 false).bind fun bt476 => (some (bt476.1, bt476.2.1, bt476.2.2.1, bt476.2.2.2.1, bt476.2.2.2.2.1, bt476.2.2.2.2.2))))) = some (r1, r2, r3, r4, r5, r6) := H
  have A13 := Aside0.mk A130
  clear A130
  by_cases c14 : t470 = true
  ·subst c14
   have H1 : ((annealref1_neg.f a0 a3).bind fun t471 => ((annealref1_Inf.f a1 t471).bind fun t472 => (some (t472, false, false, false, false, false)))) = some (r1, r2, r3, r4, r5, r6) := by rw [if_pos rfl] at H; exact H
   clear H
   have H := H1
   clear H1
   replace H := Option.bind_eq_some_iff.mp H
   obtain ⟨t471, A150, H⟩ := H
   replace H : ((annealref1_Inf.f a1 t471).bind fun t472 => (some (t472, false, false, false, false, false))) = some (r1, r2, r3, r4, r5, r6) := H
   have A15 := Aside0.mk A150
   clear A150
   replace H := Option.bind_eq_some_iff.mp H
   obtain ⟨t472, A160, H⟩ := H
   replace H : (some (t472, false, false, false, false, false)) = some (r1, r2, r3, r4, r5, r6) := H
   have A16 := Aside0.mk A160
   clear A160
   simp only [Option.some.injEq, Prod.mk.injEq] at H
   obtain ⟨rfl, rfl, rfl, rfl, rfl, rfl⟩ := H
   go_enter Try.func29, Try.ntmps29
   go_wp2_with (first | ((with_reducible refine gate_dst (N := 9) rfl ?_); refine box_event ?hg (N := 9) ?hd (cs := #[.bool false, .bool false, .bool false, .bool false, .bool false]) (t := 30) ?hr ?_; (case hd => rfl); (case hg => rfl); (case hr => first | (go_simp; done) | (go_simp; rfl)); intro gb463 hg w17 hbox hb; have n0_ := Aside0.mk (below_step (bl0 HB.out) hb); have n1_ := Aside0.mk (hbox); have n2_ := Aside0.mk ((by rw [hg]; exact (below_size (bl0 HB.out)) : w.heap.size ≤ gb463)); have n3_ := Aside0.mk ((by rw [hg]; exact (below_size (bl0 HB.out)) : w.heap.size ≤ gb463)); clear HB; have HB := n0_; have BK463 := n1_; have GW463 := n2_; have GE463 := n3_; clear n0_ n1_ n2_ n3_; clear hb hbox hg) | ((with_reducible refine gate_dst (N := 18) rfl ?_); refine Kd.R_lit (Kd.int .u32) _ 28 ?hg (N := 18) ?hd (xs := ([a3] : List Int)) (inner := [.int .u32 a3]) (ok := fun _ => True) (okp := fun _ => True) ?hr ?hp (fun _ hk => hk) trivial (Below.refl _ _) (Nat.le_refl _) (by simp) ?_; (case hd => rfl); (case hg => rfl); (case hr => first | (go_simp; done) | (go_simp; rfl)); (case hp => exact (Reps.one (show Kd.M (Kd.int .u32) _ _ _ a3 [.int .u32 a3] from rfl) (Reps.none _ _))); intro v465 w18 ho19 hb hg_ hnew_; clear hg_ hnew_; (first | rw [← Ny464.out] at ho19 | (simp only [Int.reduceToNat] at ho19; rw [← Ny464.out] at ho19)); have n0_ := Aside0.mk (Kd.R_lower ho19 (below_size (bl1 HB.out GE463.out))); have n1_ := Aside0.mk (blk_below (g := gb463) (o := .cells #[.bool false, .bool false, .bool false, .bool false, .bool false] 30 (0, 0)) (bv BK463.out) hb); have n2_ := Aside0.mk (below_step (bl1 HB.out GE463.out) hb); clear BK463; clear HB; have HO466 := n0_; have BK463 := n1_; have HB := n2_; clear n0_ n1_ n2_; clear hb ho19; obtain ⟨Ao20, co20, eo20⟩ := Kd.R_slice HO466.out; subst eo20) | ((with_reducible refine gate_callee (f := 67) rfl ?_); refine goesL_ (some 19) rfl rfl Try.func67 (by kernel_rfl) rfl #[.int .i64 a0, .slice Ao20 y464.length co20] rfl gl ?_; (with_reducible refine (annealref1_nans.calls k a0 _ _ y464 false t468 _ ?side1 ?side2 A5.out).mono ?_); (case side1 => repeat (first | exact (Kd.R_reads' HO466.out).2.2 | (with_reducible refine Kd.C_alloc ?_ _) | (with_reducible refine Kd.C_drewN ?_ _) | (with_reducible refine Kd.C_drew ?_))); (case side2 => exact (Kd.R_reads' HO466.out).2.1); rintro e w' ⟨rfl, ⟨nd, rfl⟩⟩; refine ⟨_, rfl, ?_⟩; (try (rw [drewN_self w18]; generalize hq_ : World.drewN w18 _ = w18; have n0_ : Aside0 (Kd.R (Kd.int .u32) 28 w18 w.heap.size (fun _ => True) (.slice Ao20 y464.length co20) y464) := ⟨by rw [← hq_]; exact (by (with_reducible repeat (first | apply Kd.R_alloc | apply Kd.R_drewN | apply Kd.R_drew)); exact HO466.out)⟩; have n1_ : Aside0 (w18.heap[gb463]? = some (.cells #[.bool false, .bool false, .bool false, .bool false, .bool false] 30 (0, 0))) := ⟨by rw [← hq_]; exact (bv BK463.out)⟩; have n2_ : Aside0 (Below w.heap.size w w18) := ⟨by rw [← hq_]; exact (bl1 HB.out GE463.out)⟩; clear HO466 BK463 HB hq_; have HO466 := n0_; have BK463 := n1_; have HB := n2_; clear n0_ n1_ n2_))) | ((with_reducible refine gate_callee (f := 68) rfl ?_); refine goesL_ (some 29) rfl rfl Try.func68 (by kernel_rfl) rfl #[.int .i64 a0, .int .u32 a3] rfl gl ?_; (with_reducible refine (annealref1_inf.calls k a0 a3 true _ A13.out).mono ?_); rintro e w' ⟨rfl, ⟨nd, rfl⟩⟩; refine ⟨_, rfl, ?_⟩; (try (rw [drewN_self w18]; generalize hq_ : World.drewN w18 _ = w18; have n0_ : Aside0 (Kd.R (Kd.int .u32) 28 w18 w.heap.size (fun _ => True) (.slice Ao20 y464.length co20) y464) := ⟨by rw [← hq_]; exact (by (with_reducible repeat (first | apply Kd.R_alloc | apply Kd.R_drewN | apply Kd.R_drew)); exact HO466.out)⟩; have n1_ : Aside0 (w18.heap[gb463]? = some (.cells #[.bool false, .bool false, .bool false, .bool false, .bool false] 30 (0, 0))) := ⟨by rw [← hq_]; exact (bv BK463.out)⟩; have n2_ : Aside0 (Below w.heap.size w w18) := ⟨by rw [← hq_]; exact (bl1 HB.out GE463.out)⟩; clear HO466 BK463 HB hq_; have HO466 := n0_; have BK463 := n1_; have HB := n2_; clear n0_ n1_ n2_))) | ((with_reducible refine gate_callee (f := 60) rfl ?_); refine goesL_ (some 33) rfl rfl Try.func60 (by kernel_rfl) rfl #[.int .i64 a0, .int .u32 a3] rfl gl ?_; (with_reducible refine (annealref1_neg.calls a0 a3 t471 _ A15.out).mono ?_); rintro e w' ⟨rfl, ⟨nd, rfl⟩⟩; refine ⟨_, rfl, ?_⟩; (try (rw [drewN_self w18]; generalize hq_ : World.drewN w18 _ = w18; have n0_ : Aside0 (Kd.R (Kd.int .u32) 28 w18 w.heap.size (fun _ => True) (.slice Ao20 y464.length co20) y464) := ⟨by rw [← hq_]; exact (by (with_reducible repeat (first | apply Kd.R_alloc | apply Kd.R_drewN | apply Kd.R_drew)); exact HO466.out)⟩; have n1_ : Aside0 (w18.heap[gb463]? = some (.cells #[.bool false, .bool false, .bool false, .bool false, .bool false] 30 (0, 0))) := ⟨by rw [← hq_]; exact (bv BK463.out)⟩; have n2_ : Aside0 (Below w.heap.size w w18) := ⟨by rw [← hq_]; exact (bl1 HB.out GE463.out)⟩; clear HO466 BK463 HB hq_; have HO466 := n0_; have BK463 := n1_; have HB := n2_; clear n0_ n1_ n2_))) | ((with_reducible refine gate_callee (f := 69) rfl ?_); refine goesL_ (some 34) rfl rfl Try.func69 (by kernel_rfl) rfl #[.int .i64 a1, .bool t471] rfl gl ?_; (with_reducible refine (annealref1_Inf.calls a1 t471 t472 _ A16.out).mono ?_); rintro e w' ⟨rfl, ⟨nd, rfl⟩⟩; refine ⟨_, rfl, ?_⟩; (try (rw [drewN_self w18]; generalize hq_ : World.drewN w18 _ = w18; have n0_ : Aside0 (Kd.R (Kd.int .u32) 28 w18 w.heap.size (fun _ => True) (.slice Ao20 y464.length co20) y464) := ⟨by rw [← hq_]; exact (by (with_reducible repeat (first | apply Kd.R_alloc | apply Kd.R_drewN | apply Kd.R_drew)); exact HO466.out)⟩; have n1_ : Aside0 (w18.heap[gb463]? = some (.cells #[.bool false, .bool false, .bool false, .bool false, .bool false] 30 (0, 0))) := ⟨by rw [← hq_]; exact (bv BK463.out)⟩; have n2_ : Aside0 (Below w.heap.size w w18) := ⟨by rw [← hq_]; exact (bl1 HB.out GE463.out)⟩; clear HO466 BK463 HB hq_; have HO466 := n0_; have BK463 := n1_; have HB := n2_; clear n0_ n1_ n2_)); obtain ⟨hcz21_0, hcz21_1, hcz21_2, hcz21_3, hcz21_4⟩ := bc5 BK463.out; obtain ⟨hfz21_0, hfz21_1, hfz21_2, hfz21_3, hfz21_4⟩ := bf5 BK463.out))
   refine bodyPost_ret (results_tc rfl _ _ gb463 30 #[.bool false, .bool false, .bool false, .bool false, .bool false] (0, 0) _ rfl (by (with_reducible repeat (first | refine blk_drewN ?_ _ | refine blk_drew ?_ | refine blk_alloc ?_ _)); refine blk_put (cs := #[.bool false, .bool false, .bool false, .bool false, .bool false]) ?_ 4 _ rfl; (with_reducible repeat (first | refine blk_drewN ?_ _ | refine blk_drew ?_ | refine blk_alloc ?_ _)); refine blk_put (cs := #[.bool false, .bool false, .bool false, .bool false, .bool false]) ?_ 3 _ rfl; (with_reducible repeat (first | refine blk_drewN ?_ _ | refine blk_drew ?_ | refine blk_alloc ?_ _)); refine blk_put (cs := #[.bool false, .bool false, .bool false, .bool false, .bool false]) ?_ 2 _ rfl; (with_reducible repeat (first | refine blk_drewN ?_ _ | refine blk_drew ?_ | refine blk_alloc ?_ _)); refine blk_put (cs := #[.bool false, .bool false, .bool false, .bool false, .bool false]) ?_ 1 _ rfl; (with_reducible repeat (first | refine blk_drewN ?_ _ | refine blk_drew ?_ | refine blk_alloc ?_ _)); refine blk_put (cs := #[.bool false, .bool false, .bool false, .bool false, .bool false]) ?_ 0 _ rfl; (with_reducible repeat (first | refine blk_drewN ?_ _ | refine blk_drew ?_ | refine blk_alloc ?_ _)); exact BK463.out) Try.underlying30 rfl (by kernel_rfl)) rfl ?_
   exact ⟨by first | rfl | (simp [errW_none, errW_some] <;> rfl) | (simp [*, errW_none, errW_some] <;> rfl), bl1 HB.out GE463.out⟩
  ·replace c14 := Bool.eq_false_iff.mpr c14
   subst c14
   have H1 : ((annealref1_Unpack.f k a0 a3).bind fun bt473 => ((annealref1_Pack.f k a1 a2 bt473.1 bt473.2.1 bt473.2.2 false).bind fun bt476 => (some (bt476.1, bt476.2.1, bt476.2.2.1, bt476.2.2.2.1, bt476.2.2.2.2.1, bt476.2.2.2.2.2)))) = some (r1, r2, r3, r4, r5, r6) := by rw [if_neg (show ¬ (false = true) by decide)] at H; exact H
   clear H
   have H := H1
   clear H1
   replace H := Option.bind_eq_some_iff.mp H
   obtain ⟨⟨t473, t474, t475⟩, A220, H⟩ := H
   replace H : ((annealref1_Pack.f k a1 a2 t473 t474 t475 false).bind fun bt476 => (some (bt476.1, bt476.2.1, bt476.2.2.1, bt476.2.2.2.1, bt476.2.2.2.2.1, bt476.2.2.2.2.2))) = some (r1, r2, r3, r4, r5, r6) := H
   have A22 := Aside0.mk A220
   clear A220
   replace H := Option.bind_eq_some_iff.mp H
   obtain ⟨⟨t476, t477, t478, t479, t480, t481⟩, A230, H⟩ := H
   replace H : (some (t476, t477, t478, t479, t480, t481)) = some (r1, r2, r3, r4, r5, r6) := H
   have A23 := Aside0.mk A230
   clear A230
   simp only [Option.some.injEq, Prod.mk.injEq] at H
   obtain ⟨rfl, rfl, rfl, rfl, rfl, rfl⟩ := H
   go_enter Try.func29, Try.ntmps29
   go_wp2_with (first | ((with_reducible refine gate_dst (N := 9) rfl ?_); refine box_event ?hg (N := 9) ?hd (cs := #[.bool false, .bool false, .bool false, .bool false, .bool false]) (t := 30) ?hr ?_; (case hd => rfl); (case hg => rfl); (case hr => first | (go_simp; done) | (go_simp; rfl)); intro gb463 hg w24 hbox hb; have n0_ := Aside0.mk (below_step (bl0 HB.out) hb); have n1_ := Aside0.mk (hbox); have n2_ := Aside0.mk ((by rw [hg]; exact (below_size (bl0 HB.out)) : w.heap.size ≤ gb463)); have n3_ := Aside0.mk ((by rw [hg]; exact (below_size (bl0 HB.out)) : w.heap.size ≤ gb463)); clear HB; have HB := n0_; have BK463 := n1_; have GW463 := n2_; have GE463 := n3_; clear n0_ n1_ n2_ n3_; clear hb hbox hg) | ((with_reducible refine gate_dst (N := 18) rfl ?_); refine Kd.R_lit (Kd.int .u32) _ 28 ?hg (N := 18) ?hd (xs := ([a3] : List Int)) (inner := [.int .u32 a3]) (ok := fun _ => True) (okp := fun _ => True) ?hr ?hp (fun _ hk => hk) trivial (Below.refl _ _) (Nat.le_refl _) (by simp) ?_; (case hd => rfl); (case hg => rfl); (case hr => first | (go_simp; done) | (go_simp; rfl)); (case hp => exact (Reps.one (show Kd.M (Kd.int .u32) _ _ _ a3 [.int .u32 a3] from rfl) (Reps.none _ _))); intro v465 w25 ho26 hb hg_ hnew_; clear hg_ hnew_; (first | rw [← Ny464.out] at ho26 | (simp only [Int.reduceToNat] at ho26; rw [← Ny464.out] at ho26)); have n0_ := Aside0.mk (Kd.R_lower ho26 (below_size (bl1 HB.out GE463.out))); have n1_ := Aside0.mk (blk_below (g := gb463) (o := .cells #[.bool false, .bool false, .bool false, .bool false, .bool false] 30 (0, 0)) (bv BK463.out) hb); have n2_ := Aside0.mk (below_step (bl1 HB.out GE463.out) hb); clear BK463; clear HB; have HO466 := n0_; have BK463 := n1_; have HB := n2_; clear n0_ n1_ n2_; clear hb ho26; obtain ⟨Ao27, co27, eo27⟩ := Kd.R_slice HO466.out; subst eo27) | ((with_reducible refine gate_callee (f := 67) rfl ?_); refine goesL_ (some 19) rfl rfl Try.func67 (by kernel_rfl) rfl #[.int .i64 a0, .slice Ao27 y464.length co27] rfl gl ?_; (with_reducible refine (annealref1_nans.calls k a0 _ _ y464 false t468 _ ?side1 ?side2 A5.out).mono ?_); (case side1 => repeat (first | exact (Kd.R_reads' HO466.out).2.2 | (with_reducible refine Kd.C_alloc ?_ _) | (with_reducible refine Kd.C_drewN ?_ _) | (with_reducible refine Kd.C_drew ?_))); (case side2 => exact (Kd.R_reads' HO466.out).2.1); rintro e w' ⟨rfl, ⟨nd, rfl⟩⟩; refine ⟨_, rfl, ?_⟩; (try (rw [drewN_self w25]; generalize hq_ : World.drewN w25 _ = w25; have n0_ : Aside0 (Kd.R (Kd.int .u32) 28 w25 w.heap.size (fun _ => True) (.slice Ao27 y464.length co27) y464) := ⟨by rw [← hq_]; exact (by (with_reducible repeat (first | apply Kd.R_alloc | apply Kd.R_drewN | apply Kd.R_drew)); exact HO466.out)⟩; have n1_ : Aside0 (w25.heap[gb463]? = some (.cells #[.bool false, .bool false, .bool false, .bool false, .bool false] 30 (0, 0))) := ⟨by rw [← hq_]; exact (bv BK463.out)⟩; have n2_ : Aside0 (Below w.heap.size w w25) := ⟨by rw [← hq_]; exact (bl1 HB.out GE463.out)⟩; clear HO466 BK463 HB hq_; have HO466 := n0_; have BK463 := n1_; have HB := n2_; clear n0_ n1_ n2_))) | ((with_reducible refine gate_callee (f := 68) rfl ?_); refine goesL_ (some 29) rfl rfl Try.func68 (by kernel_rfl) rfl #[.int .i64 a0, .int .u32 a3] rfl gl ?_; (with_reducible refine (annealref1_inf.calls k a0 a3 false _ A13.out).mono ?_); rintro e w' ⟨rfl, ⟨nd, rfl⟩⟩; refine ⟨_, rfl, ?_⟩; (try (rw [drewN_self w25]; generalize hq_ : World.drewN w25 _ = w25; have n0_ : Aside0 (Kd.R (Kd.int .u32) 28 w25 w.heap.size (fun _ => True) (.slice Ao27 y464.length co27) y464) := ⟨by rw [← hq_]; exact (by (with_reducible repeat (first | apply Kd.R_alloc | apply Kd.R_drewN | apply Kd.R_drew)); exact HO466.out)⟩; have n1_ : Aside0 (w25.heap[gb463]? = some (.cells #[.bool false, .bool false, .bool false, .bool false, .bool false] 30 (0, 0))) := ⟨by rw [← hq_]; exact (bv BK463.out)⟩; have n2_ : Aside0 (Below w.heap.size w w25) := ⟨by rw [← hq_]; exact (bl1 HB.out GE463.out)⟩; clear HO466 BK463 HB hq_; have HO466 := n0_; have BK463 := n1_; have HB := n2_; clear n0_ n1_ n2_))) | ((with_reducible refine gate_callee (f := 21) rfl ?_); refine goesL_ (some 39) rfl rfl Try.func21 (by kernel_rfl) rfl #[.int .i64 a0, .int .u32 a3] rfl gl ?_; (with_reducible refine (annealref1_Unpack.calls k a0 a3 t473 t474 t475 _ A22.out).mono ?_); rintro e w' ⟨rfl, ⟨nd, rfl⟩⟩; refine ⟨_, rfl, ?_⟩; (try (rw [drewN_self w25]; generalize hq_ : World.drewN w25 _ = w25; have n0_ : Aside0 (Kd.R (Kd.int .u32) 28 w25 w.heap.size (fun _ => True) (.slice Ao27 y464.length co27) y464) := ⟨by rw [← hq_]; exact (by (with_reducible repeat (first | apply Kd.R_alloc | apply Kd.R_drewN | apply Kd.R_drew)); exact HO466.out)⟩; have n1_ : Aside0 (w25.heap[gb463]? = some (.cells #[.bool false, .bool false, .bool false, .bool false, .bool false] 30 (0, 0))) := ⟨by rw [← hq_]; exact (bv BK463.out)⟩; have n2_ : Aside0 (Below w.heap.size w w25) := ⟨by rw [← hq_]; exact (bl1 HB.out GE463.out)⟩; clear HO466 BK463 HB hq_; have HO466 := n0_; have BK463 := n1_; have HB := n2_; clear n0_ n1_ n2_))) | ((with_reducible refine gate_callee (f := 18) rfl ?_); refine goesL_ (some 48) rfl rfl Try.func18 (by kernel_rfl) rfl #[.int .i64 a1, .int .i64 a2, .bool t473, .int .i64 t474, .int .u64 t475, .bool false] rfl gl ?_; (with_reducible refine (annealref1_Pack.calls k a1 a2 t473 t474 t475 false t476 t477 t478 t479 t480 t481 _ A23.out).mono ?_); rintro e w28 ⟨rfl, hb⟩; refine ⟨_, rfl, ?_⟩; have n0_ := Aside0.mk (Kd.R_below (by (with_reducible repeat (first | apply Kd.R_alloc | apply Kd.R_drewN | apply Kd.R_drew)); exact HO466.out) hb); have n1_ := Aside0.mk (blk_below (g := gb463) (o := .cells #[.bool false, .bool false, .bool false, .bool false, .bool false] 30 (0, 0)) (bv BK463.out) hb); have n2_ := Aside0.mk (below_step (bl1 HB.out GE463.out) hb); clear HO466; clear BK463; clear HB; have HO466 := n0_; have BK463 := n1_; have HB := n2_; clear n0_ n1_ n2_; (try clear hb); (try clear hb2); (try clear hk); (try clear hi); obtain ⟨hcz29_0, hcz29_1, hcz29_2, hcz29_3, hcz29_4⟩ := bc5 BK463.out; obtain ⟨hfz29_0, hfz29_1, hfz29_2, hfz29_3, hfz29_4⟩ := bf5 BK463.out))
   refine bodyPost_ret (results_tc rfl _ _ gb463 30 #[.bool t477, .bool t478, .bool t479, .bool t480, .bool t481] (0, 0) _ rfl (by (with_reducible repeat (first | refine blk_drewN ?_ _ | refine blk_drew ?_ | refine blk_alloc ?_ _)); refine blk_put (cs := #[.bool t477, .bool t478, .bool t479, .bool t480, .bool false]) ?_ 4 _ rfl; (with_reducible repeat (first | refine blk_drewN ?_ _ | refine blk_drew ?_ | refine blk_alloc ?_ _)); refine blk_put (cs := #[.bool t477, .bool t478, .bool t479, .bool false, .bool false]) ?_ 3 _ rfl; (with_reducible repeat (first | refine blk_drewN ?_ _ | refine blk_drew ?_ | refine blk_alloc ?_ _)); refine blk_put (cs := #[.bool t477, .bool t478, .bool false, .bool false, .bool false]) ?_ 2 _ rfl; (with_reducible repeat (first | refine blk_drewN ?_ _ | refine blk_drew ?_ | refine blk_alloc ?_ _)); refine blk_put (cs := #[.bool t477, .bool false, .bool false, .bool false, .bool false]) ?_ 1 _ rfl; (with_reducible repeat (first | refine blk_drewN ?_ _ | refine blk_drew ?_ | refine blk_alloc ?_ _)); refine blk_put (cs := #[.bool false, .bool false, .bool false, .bool false, .bool false]) ?_ 0 _ rfl; (with_reducible repeat (first | refine blk_drewN ?_ _ | refine blk_drew ?_ | refine blk_alloc ?_ _)); exact BK463.out) Try.underlying30 rfl (by kernel_rfl)) rfl ?_
   exact ⟨by first | rfl | (simp [errW_none, errW_some] <;> rfl) | (simp [*, errW_none, errW_some] <;> rfl), bl1 HB.out GE463.out⟩

/-! ### annealref1_Widen: function 31 -/
/-! ### annealref1_Narrow: function 33 -/
def annealref1_Narrow.f (k : Nat) (a0 : Int) (a1 : Int) : Option (Int) := (annealref1_To.f k 2 a0 0 a1).bind fun bt489 => (some bt489.1)
set_option maxHeartbeats 8000000 in
set_option maxRecDepth 100000 in
theorem annealref1_Narrow.calls (k : Nat) (a0 : Int) (a1 : Int) (r : Int) (w : World) (h : annealref1_Narrow.f k a0 a1 = some r) :
  Calls Try.prog 33 #[.int .i64 a0, .int .u32 a1] w fun e w' => e = .returned (.int .u32 r) ∧ Below w.heap.size w w' := by
 have hu30 := Try.underlying30
 have HB := Aside0.mk (Below.refl w.heap.size w)
 have H : ((annealref1_To.f k 2 a0 0 a1).bind fun bt489 => (some bt489.1)) = some r := h
 clear h
 replace H := Option.bind_eq_some_iff.mp H
 obtain ⟨⟨t489, t490, t491, t492, t493, t494⟩, A30, H⟩ := H
 replace H : (some t489) = some r := H
 have A3 := Aside0.mk A30
 clear A30
 obtain rfl := Option.some.inj H
 go_enter Try.func33, Try.ntmps33
 go_wp2_with (first | ((with_reducible refine gate_callee (f := 29) rfl ?_); refine goesL_ (some 10) rfl rfl Try.func29 (by kernel_rfl) rfl #[.int .i64 2, .int .i64 a0, .int .i64 0, .int .u32 a1] rfl gl ?_; (with_reducible refine (annealref1_To.calls k 2 a0 0 a1 t489 t490 t491 t492 t493 t494 _ A3.out).mono ?_); rintro e w4 ⟨rfl, hb⟩; refine ⟨_, rfl, ?_⟩; have n0_ := Aside0.mk (below_step (bl0 HB.out) hb); clear HB; have HB := n0_; clear n0_; (try clear hb); (try clear hb2); (try clear hk); (try clear hi)) | ((with_reducible refine gate_dst (N := 6) rfl ?_); refine box_event ?hg (N := 6) ?hd (cs := #[.bool false, .bool false, .bool false, .bool false, .bool false]) (t := 30) ?hr ?_; (case hd => rfl); (case hg => rfl); (case hr => first | (go_simp; done) | (go_simp; rfl)); intro gb495 hg w5 hbox hb; have n0_ := Aside0.mk (below_step (bl0 HB.out) hb); have n1_ := Aside0.mk (hbox); have n2_ := Aside0.mk ((by rw [hg]; exact (below_size (bl0 HB.out)) : w.heap.size ≤ gb495)); have n3_ := Aside0.mk ((by rw [hg]; exact (below_size (bl0 HB.out)) : w.heap.size ≤ gb495)); clear HB; have HB := n0_; have BK495 := n1_; have GW495 := n2_; have GE495 := n3_; clear n0_ n1_ n2_ n3_; clear hb hbox hg; obtain ⟨hcz6_0, hcz6_1, hcz6_2, hcz6_3, hcz6_4⟩ := bc5 BK495.out; obtain ⟨hfz6_0, hfz6_1, hfz6_2, hfz6_3, hfz6_4⟩ := bf5 BK495.out))
 go_ret
 exact ⟨by first | rfl | (simp [errW_none, errW_some] <;> rfl) | (simp [*, errW_none, errW_some] <;> rfl), bl1 HB.out GE495.out⟩

end Go.Proofs.Ytoljndjpnbdjmaa.P

-- Printed by a program of this session's out of Lean's print of the translation; Lean checks it.
namespace Go.Proofs.Ytoljndjpnbdjmaa.P
open Go.RowKit Go.Proofs.YtoljndjpnbdjmaaW.PrintWords Go.Proofs.YtoljndjpnbdjmaaW.PrintLast Go.Proofs.YtoljndjpnbdjmaaW.PrintMore
attribute [local go_sem] max2_int min2_int max_two min_two max_three min_three max_four min_four   -- for this text's walks alone
set_option linter.unusedVariables false
set_option linter.unusedSimpArgs false

/-! ### annealref10_Chance: function 39 -/
mutual
def annealref10_Chance.j0 : Nat → Int → Int → Int → Int → Bool → Bool → Bool → Bool → Bool → Bool → Option (Int)
 | 0, _, _, _, _, _, _, _, _, _, _ => none
 | k + 1, x0, x1, x2, x7, x40, x626000, x626001, x626002, x626003, x626004 => if x40 = true then ((annealref1_Narrow.f k x0 x1).bind fun t627 => (some t627)) else ((annealref1_Unpack.f k 2 x1).bind fun bt628 => ((annealref1_Widths.f x0).bind fun bt631 => ((annealref1_Unpack.f k x0 x7).bind fun bt633 => (if x626002 = true then ((annealref1_Len.f k bt628.2.2).bind fun t636 => (if (wrap64 (bt628.2.1 + t636)) > (wrap64 ((wrap64 (bt633.2.1 + bt631.2)) + 1)) then ((annealref1_Inf.f x0 bt628.1).bind fun t637 => (some t637)) else (annealref10_Chance.j1 k x0 x2 x7 bt628.1 bt628.2.1 bt628.2.2 bt633.2.1 bt633.2.2))) else (annealref10_Chance.j1 k x0 x2 x7 bt628.1 bt628.2.1 bt628.2.2 bt633.2.1 bt633.2.2)))))
def annealref10_Chance.j1 : Nat → Int → Int → Int → Bool → Int → Int → Int → Int → Option (Int)
 | 0, _, _, _, _, _, _, _, _ => none
 | k + 1, x0, x2, x7, x10, x11, x12, x16, x17 => if 0 ≤ (wrap64 (x16 - x11)) then (if (wrap64 (x16 - x11)) > 40 then (annealref10_Chance.j2 k x0 x2 x7 x10 x11 x12 x16 x17 x12) else (annealref10_Chance.j2 k x0 x2 x7 x10 x11 x12 x16 x17 (IntKind.u64.wrap (x12 - (shl .u64 x17 (wrap64 (x16 - x11))))))) else (none)
def annealref10_Chance.j2 : Nat → Int → Int → Int → Bool → Int → Int → Int → Int → Int → Option (Int)
 | 0, _, _, _, _, _, _, _, _, _ => none
 | k + 1, x0, x2, x7, x10, x11, x12, x16, x17, x18 => if x17 = 0 then (annealref10_Chance.j3 k x0 x2 x7 x10 x11 x16 x12) else (annealref10_Chance.j3 k x0 x2 x7 x10 x11 x16 x18)
def annealref10_Chance.j3 : Nat → Int → Int → Int → Bool → Int → Int → Int → Option (Int)
 | 0, _, _, _, _, _, _, _ => none
 | k + 1, x0, x2, x7, x10, x11, x16, x18 => (annealref1_Shift.f k x18 (wrap64 ((wrap64 (x16 - x11)) - 32))).bind fun bt638 => (if bt638.1 > (IntKind.u64.wrap (x2)) then ((annealref10_sgn.f x0).bind fun t640 => (if x10 = true then ((annealref10_sgn.f x0).bind fun t641 => (some (Go.bits .or .u32 (((Go.bits .andNot .u32 x7 t640) + 1) % 4294967296) t641))) else (some (((Go.bits .andNot .u32 x7 t640) + 1) % 4294967296)))) else (some x7))
end
def annealref10_Chance.f (k : Nat) (a0 : Int) (a1 : Int) (a2 : Int) : Option (Int) := (annealref1_To.f k 2 a0 1 a1).bind fun bt619 => ((annealref1_Class.f k 2 a1).bind fun t626 => (if t626 = 4 then (annealref10_Chance.j0 k a0 a1 a2 bt619.1 true bt619.2.1 bt619.2.2.1 bt619.2.2.2.1 bt619.2.2.2.2.1 bt619.2.2.2.2.2) else (if t626 = 5 then (annealref10_Chance.j0 k a0 a1 a2 bt619.1 true bt619.2.1 bt619.2.2.1 bt619.2.2.2.1 bt619.2.2.2.2.1 bt619.2.2.2.2.2) else (annealref10_Chance.j0 k a0 a1 a2 bt619.1 (!bt619.2.2.2.2.2) bt619.2.1 bt619.2.2.1 bt619.2.2.2.1 bt619.2.2.2.2.1 bt619.2.2.2.2.2))))
set_option maxHeartbeats 8000000 in
set_option maxRecDepth 100000 in
theorem annealref10_Chance.calls (k : Nat) (a0 : Int) (a1 : Int) (a2 : Int) (r : Int) (w : World) (h : annealref10_Chance.f k a0 a1 a2 = some r) :
  Calls Try.prog 39 #[.int .i64 a0, .int .u32 a1, .int .u32 a2] w fun e w' => e = .returned (.int .u32 r) ∧ Below w.heap.size w w' := by
 have hu30 := Try.underlying30
 have HB := Aside0.mk (Below.refl w.heap.size w)
 have H : ((annealref1_To.f k 2 a0 1 a1).bind fun bt619 => ((annealref1_Class.f k 2 a1).bind fun t626 => (if t626 = 4 then (annealref10_Chance.j0 k a0 a1 a2 bt619.1 true bt619.2.1 bt619.2.2.1 bt619.2.2.2.1 bt619.2.2.2.2.1 bt619.2.2.2.2.2) else (if t626 = 5 then (annealref10_Chance.j0 k a0 a1 a2 bt619.1 true bt619.2.1 bt619.2.2.1 bt619.2.2.2.1 bt619.2.2.2.2.1 bt619.2.2.2.2.2) else (annealref10_Chance.j0 k a0 a1 a2 bt619.1 (!bt619.2.2.2.2.2) bt619.2.1 bt619.2.2.1 bt619.2.2.2.1 bt619.2.2.2.2.1 bt619.2.2.2.2.2))))) = some r := h
 clear h
 replace H := Option.bind_eq_some_iff.mp H
 obtain ⟨⟨t619, t620, t621, t622, t623, t624⟩, A40, H⟩ := H
 replace H : ((annealref1_Class.f k 2 a1).bind fun t626 => (if t626 = 4 then (annealref10_Chance.j0 k a0 a1 a2 t619 true t620 t621 t622 t623 t624) else (if t626 = 5 then (annealref10_Chance.j0 k a0 a1 a2 t619 true t620 t621 t622 t623 t624) else (annealref10_Chance.j0 k a0 a1 a2 t619 (!t624) t620 t621 t622 t623 t624)))) = some r := H
 have A4 := Aside0.mk A40
 clear A40
 replace H := Option.bind_eq_some_iff.mp H
 obtain ⟨t626, A50, H⟩ := H
 replace H : (if t626 = 4 then (annealref10_Chance.j0 k a0 a1 a2 t619 true t620 t621 t622 t623 t624) else (if t626 = 5 then (annealref10_Chance.j0 k a0 a1 a2 t619 true t620 t621 t622 t623 t624) else (annealref10_Chance.j0 k a0 a1 a2 t619 (!t624) t620 t621 t622 t623 t624))) = some r := H
 have A5 := Aside0.mk A50
 clear A50
 have HC6 := Aside0.mk H
 clear H
 go_enter Try.func39, Try.ntmps39
 go_upto_region 3 with (first | ((with_reducible refine gate_callee (f := 29) rfl ?_); refine goesL_ (some 25) rfl rfl Try.func29 (by kernel_rfl) rfl #[.int .i64 2, .int .i64 a0, .int .i64 1, .int .u32 a1] rfl gl ?_; (with_reducible refine (annealref1_To.calls k 2 a0 1 a1 t619 t620 t621 t622 t623 t624 _ A4.out).mono ?_); rintro e w7 ⟨rfl, hb⟩; refine ⟨_, rfl, ?_⟩; have n0_ := Aside0.mk (below_step (bl0 HB.out) hb); clear HB; have HB := n0_; clear n0_; (try clear hb); (try clear hb2); (try clear hk); (try clear hi)) | ((with_reducible refine gate_dst (N := 8) rfl ?_); refine box_event ?hg (N := 8) ?hd (cs := #[.bool false, .bool false, .bool false, .bool false, .bool false]) (t := 30) ?hr ?_; (case hd => rfl); (case hg => rfl); (case hr => first | (go_simp; done) | (go_simp; rfl)); intro gb625 hg w8 hbox hb; have n0_ := Aside0.mk (below_step (bl0 HB.out) hb); have n1_ := Aside0.mk (hbox); have n2_ := Aside0.mk ((by rw [hg]; exact (below_size (bl0 HB.out)) : w.heap.size ≤ gb625)); have n3_ := Aside0.mk ((by rw [hg]; exact (below_size (bl0 HB.out)) : w.heap.size ≤ gb625)); clear HB; have HB := n0_; have BK625 := n1_; have GW625 := n2_; have GE625 := n3_; clear n0_ n1_ n2_ n3_; clear hb hbox hg; obtain ⟨hcz9_0, hcz9_1, hcz9_2, hcz9_3, hcz9_4⟩ := bc5 BK625.out; obtain ⟨hfz9_0, hfz9_1, hfz9_2, hfz9_3, hfz9_4⟩ := bf5 BK625.out) | ((with_reducible refine gate_callee (f := 34) rfl ?_); refine goesL_ (some 29) rfl rfl Try.func34 (by kernel_rfl) rfl #[.int .i64 2, .int .u32 a1] rfl gl ?_; (with_reducible refine (annealref1_Class.calls k 2 a1 t626 _ A5.out).mono ?_); rintro e w' ⟨rfl, ⟨nd, rfl⟩⟩; refine ⟨_, rfl, ?_⟩))
 (try simp only [Act.put, List.setIfInBounds_toArray, List.set_cons_zero, List.set_cons_succ])
 go_cut [40] (fun v40 wc => ∃ (kq : Nat) (x40_5 : Bool), v40 = .bool x40_5 ∧ Aside0 (annealref10_Chance.j0 kq a0 a1 a2 t619 x40_5 t620 t621 t622 t623 t624 = some r) ∧ Aside0 (kq ≤ k) ∧ Aside0 (wc.heap[gb625]? = some (.cells #[.bool t620, .bool t621, .bool t622, .bool t623, .bool t624] 30 (0, 0))) ∧ Aside0 (Below w.heap.size w wc))
 case first =>
  have H := HC6.out
  clear HC6
  by_cases c10 : t626 = 4
  ·rw [if_pos c10] at H
   have c10b0 : (t626 == 4) = true := beq_iff_eq.mpr c10
   have c10b1 : (t626 != 4) = false := bne_eq_false_iff_eq.mpr c10
   clear c10
   (first | rw [c10b0] | (simp only [i64_w, i32_w]; rw [c10b0]) | skip)
   have H' := Aside0.mk H
   clear H
   go_wp2
   go_meet
   case rel => exact ⟨_, (true), (by first | rfl | (simp; done) | (simp [*]; done) | (congr 1; (try unfold wrap64); omega) | (congr 1; rw [IntKind.wrap_u64]; omega)), H', ⟨by first | omega | exact Nat.le_refl _⟩, ⟨by (with_reducible repeat (first | refine blk_drewN ?_ _ | refine blk_drew ?_ | refine blk_alloc ?_ _)); refine blk_put (cs := #[.bool t620, .bool t621, .bool t622, .bool t623, .bool false]) ?_ 4 _ rfl; (with_reducible repeat (first | refine blk_drewN ?_ _ | refine blk_drew ?_ | refine blk_alloc ?_ _)); refine blk_put (cs := #[.bool t620, .bool t621, .bool t622, .bool false, .bool false]) ?_ 3 _ rfl; (with_reducible repeat (first | refine blk_drewN ?_ _ | refine blk_drew ?_ | refine blk_alloc ?_ _)); refine blk_put (cs := #[.bool t620, .bool t621, .bool false, .bool false, .bool false]) ?_ 2 _ rfl; (with_reducible repeat (first | refine blk_drewN ?_ _ | refine blk_drew ?_ | refine blk_alloc ?_ _)); refine blk_put (cs := #[.bool t620, .bool false, .bool false, .bool false, .bool false]) ?_ 1 _ rfl; (with_reducible repeat (first | refine blk_drewN ?_ _ | refine blk_drew ?_ | refine blk_alloc ?_ _)); refine blk_put (cs := #[.bool false, .bool false, .bool false, .bool false, .bool false]) ?_ 0 _ rfl; (with_reducible repeat (first | refine blk_drewN ?_ _ | refine blk_drew ?_ | refine blk_alloc ?_ _)); exact BK625.out⟩, ⟨bl1 HB.out GE625.out⟩⟩
  ·rw [if_neg c10] at H
   have c10b0 : (t626 == 4) = false := beq_eq_false_iff_ne.mpr c10
   have c10b1 : (t626 != 4) = true := bne_iff_ne.mpr c10
   (first | rw [c10b0] | (simp only [i64_w, i32_w]; rw [c10b0]) | skip)
   by_cases c11 : t626 = 5
   ·rw [if_pos c11] at H
    have c11b0 : (t626 == 5) = true := beq_iff_eq.mpr c11
    have c11b1 : (t626 != 5) = false := bne_eq_false_iff_eq.mpr c11
    clear c11
    have H' := Aside0.mk H
    clear H
    go_wp2
    go_meet
    case rel => exact ⟨_, (true), (by first | rfl | (simp; done) | (simp [*]; done) | (congr 1; (try unfold wrap64); omega) | (congr 1; rw [IntKind.wrap_u64]; omega)), H', ⟨by first | omega | exact Nat.le_refl _⟩, ⟨by (with_reducible repeat (first | refine blk_drewN ?_ _ | refine blk_drew ?_ | refine blk_alloc ?_ _)); refine blk_put (cs := #[.bool t620, .bool t621, .bool t622, .bool t623, .bool false]) ?_ 4 _ rfl; (with_reducible repeat (first | refine blk_drewN ?_ _ | refine blk_drew ?_ | refine blk_alloc ?_ _)); refine blk_put (cs := #[.bool t620, .bool t621, .bool t622, .bool false, .bool false]) ?_ 3 _ rfl; (with_reducible repeat (first | refine blk_drewN ?_ _ | refine blk_drew ?_ | refine blk_alloc ?_ _)); refine blk_put (cs := #[.bool t620, .bool t621, .bool false, .bool false, .bool false]) ?_ 2 _ rfl; (with_reducible repeat (first | refine blk_drewN ?_ _ | refine blk_drew ?_ | refine blk_alloc ?_ _)); refine blk_put (cs := #[.bool t620, .bool false, .bool false, .bool false, .bool false]) ?_ 1 _ rfl; (with_reducible repeat (first | refine blk_drewN ?_ _ | refine blk_drew ?_ | refine blk_alloc ?_ _)); refine blk_put (cs := #[.bool false, .bool false, .bool false, .bool false, .bool false]) ?_ 0 _ rfl; (with_reducible repeat (first | refine blk_drewN ?_ _ | refine blk_drew ?_ | refine blk_alloc ?_ _)); exact BK625.out⟩, ⟨bl1 HB.out GE625.out⟩⟩
   ·rw [if_neg c11] at H
    have c11b0 : (t626 == 5) = false := beq_eq_false_iff_ne.mpr c11
    have c11b1 : (t626 != 5) = true := bne_iff_ne.mpr c11
    have H' := Aside0.mk H
    clear H
    have hcz12_0 : w8.cell? ⟨gb625, 0, none⟩ = some (.bool false) := (blk_cell BK625.out 0).trans rfl
    have hcz12_1 : w8.cell? ⟨gb625, 1, none⟩ = some (.bool false) := (blk_cell BK625.out 1).trans rfl
    have hcz12_2 : w8.cell? ⟨gb625, 2, none⟩ = some (.bool false) := (blk_cell BK625.out 2).trans rfl
    have hcz12_3 : w8.cell? ⟨gb625, 3, none⟩ = some (.bool false) := (blk_cell BK625.out 3).trans rfl
    have hcz12_4 : w8.cell? ⟨gb625, 4, none⟩ = some (.bool false) := (blk_cell BK625.out 4).trans rfl
    have hfz12_0 := blk_frozen BK625.out 0
    have hfz12_1 := blk_frozen BK625.out 1
    have hfz12_2 := blk_frozen BK625.out 2
    have hfz12_3 := blk_frozen BK625.out 3
    have hfz12_4 := blk_frozen BK625.out 4
    go_wp2
    go_meet
    case rel => exact ⟨_, (!t624), (by first | rfl | (simp; done) | (simp [*]; done) | (congr 1; (try unfold wrap64); omega) | (congr 1; rw [IntKind.wrap_u64]; omega)), H', ⟨by first | omega | exact Nat.le_refl _⟩, ⟨by (with_reducible repeat (first | refine blk_drewN ?_ _ | refine blk_drew ?_ | refine blk_alloc ?_ _)); refine blk_put (cs := #[.bool t620, .bool t621, .bool t622, .bool t623, .bool false]) ?_ 4 _ rfl; (with_reducible repeat (first | refine blk_drewN ?_ _ | refine blk_drew ?_ | refine blk_alloc ?_ _)); refine blk_put (cs := #[.bool t620, .bool t621, .bool t622, .bool false, .bool false]) ?_ 3 _ rfl; (with_reducible repeat (first | refine blk_drewN ?_ _ | refine blk_drew ?_ | refine blk_alloc ?_ _)); refine blk_put (cs := #[.bool t620, .bool t621, .bool false, .bool false, .bool false]) ?_ 2 _ rfl; (with_reducible repeat (first | refine blk_drewN ?_ _ | refine blk_drew ?_ | refine blk_alloc ?_ _)); refine blk_put (cs := #[.bool t620, .bool false, .bool false, .bool false, .bool false]) ?_ 1 _ rfl; (with_reducible repeat (first | refine blk_drewN ?_ _ | refine blk_drew ?_ | refine blk_alloc ?_ _)); refine blk_put (cs := #[.bool false, .bool false, .bool false, .bool false, .bool false]) ?_ 0 _ rfl; (with_reducible repeat (first | refine blk_drewN ?_ _ | refine blk_drew ?_ | refine blk_alloc ?_ _)); exact BK625.out⟩, ⟨bl1 HB.out GE625.out⟩⟩
 case rest =>
  clear HC6
  try clear c1
  try clear c2
  try clear p2
  try clear c3
  try clear p6
  try clear c10
  try clear c10b0
  try clear c10b1
  try clear c11
  try clear c11b0
  try clear c11b1
  try clear hcz12_0
  try clear hcz12_1
  try clear hcz12_2
  try clear hcz12_3
  try clear hcz12_4
  try clear hcz9_0
  try clear hcz9_1
  try clear hcz9_2
  try clear hcz9_3
  try clear hcz9_4
  try clear hfz12_0
  try clear hfz12_1
  try clear hfz12_2
  try clear hfz12_3
  try clear hfz12_4
  try clear hfz9_0
  try clear hfz9_1
  try clear hfz9_2
  try clear hfz9_3
  try clear hfz9_4
  obtain ⟨kq, x40_5, rfl, HA, HJ5, BK625, HB⟩ := hcut
  cases kq with
  | zero => exact absurd HA.out (by simp [annealref10_Chance.j0])
  | succ kj5 =>
   have H := HA.out
   clear HA
   simp only [annealref10_Chance.j0] at H
   by_cases c13 : x40_5 = true
   ·subst c13
    have H1 : ((annealref1_Narrow.f kj5 a0 a1).bind fun t627 => (some t627)) = some r := by rw [if_pos rfl] at H; exact H
    clear H
    have H := H1
    clear H1
    replace H := Option.bind_eq_some_iff.mp H
    obtain ⟨t627, A140, H⟩ := H
    replace H : (some t627) = some r := H
    have A14 := Aside0.mk A140
    clear A140
    obtain rfl := Option.some.inj H
    go_wp2_with (first | ((with_reducible refine gate_callee (f := 33) rfl ?_); refine goesL_ (some 43) rfl rfl Try.func33 (by kernel_rfl) rfl #[.int .i64 a0, .int .u32 a1] rfl gl ?_; (with_reducible refine (annealref1_Narrow.calls kj5 a0 a1 t627 _ A14.out).mono ?_); rintro e w15 ⟨rfl, hb⟩; refine ⟨_, rfl, ?_⟩; have n0_ := Aside0.mk (blk_below (g := gb625) (o := .cells #[.bool t620, .bool t621, .bool t622, .bool t623, .bool t624] 30 (0, 0)) (bv BK625.out) hb); have n1_ := Aside0.mk (below_step (bl1 HB.out GE625.out) hb); clear BK625; clear HB; have BK625 := n0_; have HB := n1_; clear n0_ n1_; (try clear hb); (try clear hb2); (try clear hk); (try clear hi)))
    go_ret
    exact ⟨by first | rfl | (simp [errW_none, errW_some] <;> rfl) | (simp [*, errW_none, errW_some] <;> rfl), bl1 HB.out GE625.out⟩
   ·replace c13 := Bool.eq_false_iff.mpr c13
    subst c13
    have H1 : ((annealref1_Unpack.f kj5 2 a1).bind fun bt628 => ((annealref1_Widths.f a0).bind fun bt631 => ((annealref1_Unpack.f kj5 a0 t619).bind fun bt633 => (if t622 = true then ((annealref1_Len.f kj5 bt628.2.2).bind fun t636 => (if (wrap64 (bt628.2.1 + t636)) > (wrap64 ((wrap64 (bt633.2.1 + bt631.2)) + 1)) then ((annealref1_Inf.f a0 bt628.1).bind fun t637 => (some t637)) else (annealref10_Chance.j1 kj5 a0 a2 t619 bt628.1 bt628.2.1 bt628.2.2 bt633.2.1 bt633.2.2))) else (annealref10_Chance.j1 kj5 a0 a2 t619 bt628.1 bt628.2.1 bt628.2.2 bt633.2.1 bt633.2.2))))) = some r := by rw [if_neg (show ¬ (false = true) by decide)] at H; exact H
    clear H
    have H := H1
    clear H1
    replace H := Option.bind_eq_some_iff.mp H
    obtain ⟨⟨t628, t629, t630⟩, A160, H⟩ := H
    replace H : ((annealref1_Widths.f a0).bind fun bt631 => ((annealref1_Unpack.f kj5 a0 t619).bind fun bt633 => (if t622 = true then ((annealref1_Len.f kj5 t630).bind fun t636 => (if (wrap64 (t629 + t636)) > (wrap64 ((wrap64 (bt633.2.1 + bt631.2)) + 1)) then ((annealref1_Inf.f a0 t628).bind fun t637 => (some t637)) else (annealref10_Chance.j1 kj5 a0 a2 t619 t628 t629 t630 bt633.2.1 bt633.2.2))) else (annealref10_Chance.j1 kj5 a0 a2 t619 t628 t629 t630 bt633.2.1 bt633.2.2)))) = some r := H
    have A16 := Aside0.mk A160
    clear A160
    replace H := Option.bind_eq_some_iff.mp H
    obtain ⟨⟨t631, t632⟩, A170, H⟩ := H
    replace H : ((annealref1_Unpack.f kj5 a0 t619).bind fun bt633 => (if t622 = true then ((annealref1_Len.f kj5 t630).bind fun t636 => (if (wrap64 (t629 + t636)) > (wrap64 ((wrap64 (bt633.2.1 + t632)) + 1)) then ((annealref1_Inf.f a0 t628).bind fun t637 => (some t637)) else (annealref10_Chance.j1 kj5 a0 a2 t619 t628 t629 t630 bt633.2.1 bt633.2.2))) else (annealref10_Chance.j1 kj5 a0 a2 t619 t628 t629 t630 bt633.2.1 bt633.2.2))) = some r := H
    have A17 := Aside0.mk A170
    clear A170
    replace H := Option.bind_eq_some_iff.mp H
    obtain ⟨⟨t633, t634, t635⟩, A180, H⟩ := H
    replace H : (if t622 = true then ((annealref1_Len.f kj5 t630).bind fun t636 => (if (wrap64 (t629 + t636)) > (wrap64 ((wrap64 (t634 + t632)) + 1)) then ((annealref1_Inf.f a0 t628).bind fun t637 => (some t637)) else (annealref10_Chance.j1 kj5 a0 a2 t619 t628 t629 t630 t634 t635))) else (annealref10_Chance.j1 kj5 a0 a2 t619 t628 t629 t630 t634 t635)) = some r := H
    have A18 := Aside0.mk A180
    clear A180
    have HC19 := Aside0.mk H
    clear H
    go_upto_if 63 with (first | ((with_reducible refine gate_callee (f := 21) rfl ?_); refine goesL_ (some 46) rfl rfl Try.func21 (by kernel_rfl) rfl #[.int .i64 2, .int .u32 a1] rfl gl ?_; (with_reducible refine (annealref1_Unpack.calls kj5 2 a1 t628 t629 t630 _ A16.out).mono ?_); rintro e w' ⟨rfl, ⟨nd, rfl⟩⟩; refine ⟨_, rfl, ?_⟩) | ((with_reducible refine gate_callee (f := 52) rfl ?_); refine goesL_ (some 52) rfl rfl Try.func52 (by kernel_rfl) rfl #[.int .i64 a0] rfl gl ?_; (with_reducible refine (annealref1_Widths.calls a0 t631 t632 _ A17.out).mono ?_); rintro e w' ⟨rfl, ⟨nd, rfl⟩⟩; refine ⟨_, rfl, ?_⟩) | ((with_reducible refine gate_callee (f := 21) rfl ?_); refine goesL_ (some 58) rfl rfl Try.func21 (by kernel_rfl) rfl #[.int .i64 a0, .int .u32 t619] rfl gl ?_; (with_reducible refine (annealref1_Unpack.calls kj5 a0 t619 t633 t634 t635 _ A18.out).mono ?_); rintro e w' ⟨rfl, ⟨nd, rfl⟩⟩; refine ⟨_, rfl, ?_⟩; obtain ⟨hcz20_0, hcz20_1, hcz20_2, hcz20_3, hcz20_4⟩ := bc5 BK625.out; obtain ⟨hfz20_0, hfz20_1, hfz20_2, hfz20_3, hfz20_4⟩ := bf5 BK625.out))
    (try simp only [Act.put, List.setIfInBounds_toArray, List.set_cons_zero, List.set_cons_succ])
    go_cut [] (fun wc => ∃ (kq : Nat), Aside0 (annealref10_Chance.j1 kq a0 a2 t619 t628 t629 t630 t634 t635 = some r) ∧ Aside0 (kq ≤ kj5) ∧ Aside0 (wc.heap[gb625]? = some (.cells #[.bool t620, .bool t621, .bool t622, .bool t623, .bool t624] 30 (0, 0))) ∧ Aside0 (Below w.heap.size w wc))
    case first =>
     have H := HC19.out
     clear HC19
     by_cases c21 : t622 = true
     ·subst c21
      have H1 : ((annealref1_Len.f kj5 t630).bind fun t636 => (if (wrap64 (t629 + t636)) > (wrap64 ((wrap64 (t634 + t632)) + 1)) then ((annealref1_Inf.f a0 t628).bind fun t637 => (some t637)) else (annealref10_Chance.j1 kj5 a0 a2 t619 t628 t629 t630 t634 t635))) = some r := by rw [if_pos rfl] at H; exact H
      clear H
      have H := H1
      clear H1
      replace H := Option.bind_eq_some_iff.mp H
      obtain ⟨t636, A220, H⟩ := H
      replace H : (if (wrap64 (t629 + t636)) > (wrap64 ((wrap64 (t634 + t632)) + 1)) then ((annealref1_Inf.f a0 t628).bind fun t637 => (some t637)) else (annealref10_Chance.j1 kj5 a0 a2 t619 t628 t629 t630 t634 t635)) = some r := H
      have A22 := Aside0.mk A220
      clear A220
      by_cases c23 : (wrap64 (t629 + t636)) > (wrap64 ((wrap64 (t634 + t632)) + 1))
      ·rw [if_pos c23] at H
       have c23b0 : decide ((wrap64 ((wrap64 (t634 + t632)) + 1)) < (wrap64 (t629 + t636))) = true := decide_eq_true c23
       clear c23
       (first | rw [c23b0] | (simp only [i64_w, i32_w]; rw [c23b0]) | skip)
       replace H := Option.bind_eq_some_iff.mp H
       obtain ⟨t637, A240, H⟩ := H
       replace H : (some t637) = some r := H
       have A24 := Aside0.mk A240
       clear A240
       obtain rfl := Option.some.inj H
       go_wp2_with (first | ((with_reducible refine gate_callee (f := 54) rfl ?_); refine goesL_ (some 66) rfl rfl Try.func54 (by kernel_rfl) rfl #[.int .u64 t630] rfl gl ?_; (with_reducible refine (annealref1_Len.calls kj5 t630 t636 _ A22.out).mono ?_); rintro e w' ⟨rfl, ⟨nd, rfl⟩⟩; refine ⟨_, rfl, ?_⟩) | ((with_reducible refine gate_callee (f := 69) rfl ?_); refine goesL_ (some 75) rfl rfl Try.func69 (by kernel_rfl) rfl #[.int .i64 a0, .bool t628] rfl gl ?_; (with_reducible refine (annealref1_Inf.calls a0 t628 t637 _ A24.out).mono ?_); rintro e w' ⟨rfl, ⟨nd, rfl⟩⟩; refine ⟨_, rfl, ?_⟩))
       go_ret
       exact ⟨by first | rfl | (simp [errW_none, errW_some] <;> rfl) | (simp [*, errW_none, errW_some] <;> rfl), bl1 HB.out GE625.out⟩
      ·rw [if_neg c23] at H
       have c23b0 : decide ((wrap64 ((wrap64 (t634 + t632)) + 1)) < (wrap64 (t629 + t636))) = false := decide_eq_false c23
       clear c23
       (first | rw [c23b0] | (simp only [i64_w, i32_w]; rw [c23b0]) | skip)
       have H' := Aside0.mk H
       clear H
       go_wp2_with (first | ((with_reducible refine gate_callee (f := 54) rfl ?_); refine goesL_ (some 66) rfl rfl Try.func54 (by kernel_rfl) rfl #[.int .u64 t630] rfl gl ?_; (with_reducible refine (annealref1_Len.calls kj5 t630 t636 _ A22.out).mono ?_); rintro e w' ⟨rfl, ⟨nd, rfl⟩⟩; refine ⟨_, rfl, ?_⟩))
       go_meet
       case rel => exact ⟨_, H', ⟨by have := HJ5.out; first | omega | exact Nat.le_refl _⟩, ⟨by (with_reducible repeat (first | refine blk_drewN ?_ _ | refine blk_drew ?_ | refine blk_alloc ?_ _)); exact BK625.out⟩, ⟨bl1 HB.out GE625.out⟩⟩
     ·replace c21 := Bool.eq_false_iff.mpr c21
      subst c21
      have H1 : (annealref10_Chance.j1 kj5 a0 a2 t619 t628 t629 t630 t634 t635) = some r := by rw [if_neg (show ¬ (false = true) by decide)] at H; exact H
      clear H
      have H := H1
      clear H1
      have H' := Aside0.mk H
      clear H
      go_wp2
      go_meet
      case rel => exact ⟨_, H', ⟨by have := HJ5.out; first | omega | exact Nat.le_refl _⟩, ⟨by (with_reducible repeat (first | refine blk_drewN ?_ _ | refine blk_drew ?_ | refine blk_alloc ?_ _)); exact BK625.out⟩, ⟨bl1 HB.out GE625.out⟩⟩
    case rest =>
     clear HC19
     try clear c1
     try clear c2
     try clear p2
     try clear c3
     try clear c5
     try clear c6
     try clear p6
     try clear c10
     try clear c10b0
     try clear c10b1
     try clear c11
     try clear c11b0
     try clear c11b1
     try clear c13
     try clear c21
     try clear c23
     try clear c23b0
     try clear hcz12_0
     try clear hcz12_1
     try clear hcz12_2
     try clear hcz12_3
     try clear hcz12_4
     try clear hcz20_0
     try clear hcz20_1
     try clear hcz20_2
     try clear hcz20_3
     try clear hcz20_4
     try clear hcz9_0
     try clear hcz9_1
     try clear hcz9_2
     try clear hcz9_3
     try clear hcz9_4
     try clear hfz12_0
     try clear hfz12_1
     try clear hfz12_2
     try clear hfz12_3
     try clear hfz12_4
     try clear hfz20_0
     try clear hfz20_1
     try clear hfz20_2
     try clear hfz20_3
     try clear hfz20_4
     try clear hfz9_0
     try clear hfz9_1
     try clear hfz9_2
     try clear hfz9_3
     try clear hfz9_4
     try clear p2
     try clear p6
     obtain ⟨kq, HA, HJ18, BK625, HB⟩ := hcut
     cases kq with
     | zero => exact absurd HA.out (by simp [annealref10_Chance.j1])
     | succ kj18 =>
      have H := HA.out
      clear HA
      simp only [annealref10_Chance.j1] at H
      obtain ⟨ji25, hji25⟩ : ∃ j_ : Int, (wrap64 (t634 - t629)) = j_ := ⟨_, rfl⟩
      replace H : (if 0 ≤ (ji25) then (if (ji25) > 40 then (annealref10_Chance.j2 kj18 a0 a2 t619 t628 t629 t630 t634 t635 t630) else (annealref10_Chance.j2 kj18 a0 a2 t619 t628 t629 t630 t634 t635 (IntKind.u64.wrap (t630 - (shl .u64 t635 (ji25)))))) else (none)) = some r := by first | (rw [hji25] at H; exact H) | (simp only [hji25] at H ⊢; exact H)
      have hji25w : (IntKind.i64.wrap (t634 - t629)) = ji25 := (i64_w _).trans hji25
      by_cases c26 : 0 ≤ (ji25)
      ·rw [if_pos c26] at H
       have c26b0 := eq_true c26
       have c26b1 : decide (0 ≤ (ji25)) = true := decide_eq_true c26
       clear c26
       obtain ⟨ji27, hji27⟩ : ∃ j_ : Int, (shl .u64 t635 (ji25)) = j_ := ⟨_, rfl⟩
       replace H : (if (ji25) > 40 then (annealref10_Chance.j2 kj18 a0 a2 t619 t628 t629 t630 t634 t635 t630) else (annealref10_Chance.j2 kj18 a0 a2 t619 t628 t629 t630 t634 t635 (IntKind.u64.wrap (t630 - (ji27))))) = some r := by first | (rw [hji27] at H; exact H) | (simp only [hji27] at H ⊢; exact H)
       have hji27_ : (IntKind.u64.wrap (t635 * 2 ^ min (ji25).toNat 64)) = ji27 := hji27
       have hji27z : (ji25) ≤ 64 → (IntKind.u64.wrap (t635 * 2 ^ (ji25).toNat)) = ji27 := shl_small hji27
       have HC28 := Aside0.mk H
       clear H
       go_upto_if 86 with (fail)
       go_cut [18] (fun v18 wc => ∃ (kq : Nat) (x18_27 : Int), v18 = .int .u64 x18_27 ∧ Aside0 (annealref10_Chance.j2 kq a0 a2 t619 t628 t629 t630 t634 t635 x18_27 = some r) ∧ Aside0 (kq ≤ kj18) ∧ Aside0 (wc.heap[gb625]? = some (.cells #[.bool t620, .bool t621, .bool t622, .bool t623, .bool t624] 30 (0, 0))) ∧ Aside0 (Below w.heap.size w wc))
       case first =>
        have H := HC28.out
        clear HC28
        by_cases c29 : (ji25) > 40
        ·rw [if_pos c29] at H
         have c29b0 : decide (40 < (ji25)) = true := decide_eq_true c29
         clear c29
         (first | rw [c29b0] | (simp only [i64_w, i32_w]; rw [c29b0]) | skip)
         have H' := Aside0.mk H
         clear H
         go_wp2
         go_meet
         case rel => exact ⟨_, (t630), (by first | rfl | (simp; done) | (simp [*]; done) | (congr 1; (try unfold wrap64); omega) | (congr 1; rw [IntKind.wrap_u64]; omega)), H', ⟨by have := HJ5.out; have := HJ18.out; first | omega | exact Nat.le_refl _⟩, ⟨by (with_reducible repeat (first | refine blk_drewN ?_ _ | refine blk_drew ?_ | refine blk_alloc ?_ _)); exact BK625.out⟩, ⟨bl1 HB.out GE625.out⟩⟩
        ·rw [if_neg c29] at H
         have c29b0 : decide (40 < (ji25)) = false := decide_eq_false c29
         clear c29
         (first | rw [c29b0] | (simp only [i64_w, i32_w]; rw [c29b0]) | skip)
         have H' := Aside0.mk H
         clear H
         go_wp2
         go_meet
         case rel => exact ⟨_, (IntKind.u64.wrap (t630 - (ji27))), (by first | rfl | (simp; done) | (simp only [← hji27] <;> (first | rfl | (simp; done))) | (simp [*]; done) | (congr 1; (try unfold wrap64); omega) | (congr 1; rw [IntKind.wrap_u64]; omega)), H', ⟨by have := HJ5.out; have := HJ18.out; first | omega | exact Nat.le_refl _⟩, ⟨by (with_reducible repeat (first | refine blk_drewN ?_ _ | refine blk_drew ?_ | refine blk_alloc ?_ _)); exact BK625.out⟩, ⟨bl1 HB.out GE625.out⟩⟩
       case rest =>
        clear HC28
        try clear c1
        try clear c2
        try clear p2
        try clear c3
        try clear c5
        try clear c6
        try clear p6
        try clear c10
        try clear c10b0
        try clear c10b1
        try clear c11
        try clear c11b0
        try clear c11b1
        try clear c13
        try clear c21
        try clear c23
        try clear c23b0
        try clear c26
        try clear c26b0
        try clear c26b1
        try clear c29
        try clear c29b0
        try clear hcz12_0
        try clear hcz12_1
        try clear hcz12_2
        try clear hcz12_3
        try clear hcz12_4
        try clear hcz20_0
        try clear hcz20_1
        try clear hcz20_2
        try clear hcz20_3
        try clear hcz20_4
        try clear hcz9_0
        try clear hcz9_1
        try clear hcz9_2
        try clear hcz9_3
        try clear hcz9_4
        try clear hfz12_0
        try clear hfz12_1
        try clear hfz12_2
        try clear hfz12_3
        try clear hfz12_4
        try clear hfz20_0
        try clear hfz20_1
        try clear hfz20_2
        try clear hfz20_3
        try clear hfz20_4
        try clear hfz9_0
        try clear hfz9_1
        try clear hfz9_2
        try clear hfz9_3
        try clear hfz9_4
        try clear p2
        try clear p6
        obtain ⟨kq, x18_27, rfl, HA, HJ27, BK625, HB⟩ := hcut
        cases kq with
        | zero => exact absurd HA.out (by simp [annealref10_Chance.j2])
        | succ kj27 =>
         have H := HA.out
         clear HA
         simp only [annealref10_Chance.j2] at H
         have HC30 := Aside0.mk H
         clear H
         go_upto_if 89 with (fail)
         go_cut [18] (fun v18 wc => ∃ (kq : Nat) (x18_29 : Int), v18 = .int .u64 x18_29 ∧ Aside0 (annealref10_Chance.j3 kq a0 a2 t619 t628 t629 t634 x18_29 = some r) ∧ Aside0 (kq ≤ kj27) ∧ Aside0 (wc.heap[gb625]? = some (.cells #[.bool t620, .bool t621, .bool t622, .bool t623, .bool t624] 30 (0, 0))) ∧ Aside0 (Below w.heap.size w wc))
         case first =>
          have H := HC30.out
          clear HC30
          by_cases c31 : t635 = 0
          ·rw [if_pos c31] at H
           have c31b0 : (t635 == 0) = true := beq_iff_eq.mpr c31
           have c31b1 : (t635 != 0) = false := bne_eq_false_iff_eq.mpr c31
           clear c31
           (first | rw [c31b0] | (simp only [i64_w, i32_w]; rw [c31b0]) | skip)
           have H' := Aside0.mk H
           clear H
           go_wp2
           go_meet
           case rel => exact ⟨_, (t630), (by first | rfl | (simp; done) | (simp [*]; done) | (congr 1; (try unfold wrap64); omega) | (congr 1; rw [IntKind.wrap_u64]; omega)), H', ⟨by have := HJ5.out; have := HJ18.out; have := HJ27.out; first | omega | exact Nat.le_refl _⟩, ⟨by (with_reducible repeat (first | refine blk_drewN ?_ _ | refine blk_drew ?_ | refine blk_alloc ?_ _)); exact BK625.out⟩, ⟨bl1 HB.out GE625.out⟩⟩
          ·rw [if_neg c31] at H
           have c31b0 : (t635 == 0) = false := beq_eq_false_iff_ne.mpr c31
           have c31b1 : (t635 != 0) = true := bne_iff_ne.mpr c31
           (first | rw [c31b0] | (simp only [i64_w, i32_w]; rw [c31b0]) | skip)
           have H' := Aside0.mk H
           clear H
           go_wp2
           go_meet
           case rel => exact ⟨_, (x18_27), (by first | rfl | (simp; done) | (simp [*]; done) | (congr 1; (try unfold wrap64); omega) | (congr 1; rw [IntKind.wrap_u64]; omega)), H', ⟨by have := HJ5.out; have := HJ18.out; have := HJ27.out; first | omega | exact Nat.le_refl _⟩, ⟨by (with_reducible repeat (first | refine blk_drewN ?_ _ | refine blk_drew ?_ | refine blk_alloc ?_ _)); exact BK625.out⟩, ⟨bl1 HB.out GE625.out⟩⟩
         case rest =>
          clear HC30
          try clear c1
          try clear c2
          try clear p2
          try clear c3
          try clear c5
          try clear c6
          try clear p6
          try clear c10
          try clear c10b0
          try clear c10b1
          try clear c11
          try clear c11b0
          try clear c11b1
          try clear c13
          try clear c21
          try clear c23
          try clear c23b0
          try clear c26
          try clear c26b0
          try clear c26b1
          try clear c29
          try clear c29b0
          try clear c31
          try clear c31b0
          try clear c31b1
          try clear hcz12_0
          try clear hcz12_1
          try clear hcz12_2
          try clear hcz12_3
          try clear hcz12_4
          try clear hcz20_0
          try clear hcz20_1
          try clear hcz20_2
          try clear hcz20_3
          try clear hcz20_4
          try clear hcz9_0
          try clear hcz9_1
          try clear hcz9_2
          try clear hcz9_3
          try clear hcz9_4
          try clear hfz12_0
          try clear hfz12_1
          try clear hfz12_2
          try clear hfz12_3
          try clear hfz12_4
          try clear hfz20_0
          try clear hfz20_1
          try clear hfz20_2
          try clear hfz20_3
          try clear hfz20_4
          try clear hfz9_0
          try clear hfz9_1
          try clear hfz9_2
          try clear hfz9_3
          try clear hfz9_4
          try clear p2
          try clear p6
          obtain ⟨kq, x18_29, rfl, HA, HJ29, BK625, HB⟩ := hcut
          cases kq with
          | zero => exact absurd HA.out (by simp [annealref10_Chance.j3])
          | succ kj29 =>
           have H := HA.out
           clear HA
           simp only [annealref10_Chance.j3] at H
           replace H := Option.bind_eq_some_iff.mp H
           obtain ⟨⟨t638, t639⟩, A320, H⟩ := H
           replace H : (if t638 > (IntKind.u64.wrap (a2)) then ((annealref10_sgn.f a0).bind fun t640 => (if t628 = true then ((annealref10_sgn.f a0).bind fun t641 => (some (Go.bits .or .u32 (((Go.bits .andNot .u32 t619 t640) + 1) % 4294967296) t641))) else (some (((Go.bits .andNot .u32 t619 t640) + 1) % 4294967296)))) else (some t619)) = some r := H
           have A32 := Aside0.mk A320
           clear A320
           by_cases c33 : t638 > (IntKind.u64.wrap (a2))
           ·rw [if_pos c33] at H
            have c33b0 : decide ((IntKind.u64.wrap (a2)) < t638) = true := decide_eq_true c33
            clear c33
            replace H := Option.bind_eq_some_iff.mp H
            obtain ⟨t640, A340, H⟩ := H
            replace H : (if t628 = true then ((annealref10_sgn.f a0).bind fun t641 => (some (Go.bits .or .u32 (((Go.bits .andNot .u32 t619 t640) + 1) % 4294967296) t641))) else (some (((Go.bits .andNot .u32 t619 t640) + 1) % 4294967296))) = some r := H
            have A34 := Aside0.mk A340
            clear A340
            obtain ⟨ji35, hji35⟩ : ∃ j_ : Int, (((Go.bits .andNot .u32 t619 t640) + 1) % 4294967296) = j_ := ⟨_, rfl⟩
            replace H : (if t628 = true then ((annealref10_sgn.f a0).bind fun t641 => (some (Go.bits .or .u32 (ji35) t641))) else (some ji35)) = some r := by first | (rw [hji35] at H; exact H) | (simp only [hji35] at H ⊢; exact H)
            (try rw [hji35] at A32)
            (try rw [hji35] at A34)
            have hji35l : 0 ≤ ji35 := by rw [← hji35]; exact Int.emod_nonneg _ (by decide)
            have hji35h : ji35 ≤ 4294967295 := by have := Int.emod_lt_of_pos (((Go.bits .andNot .u32 t619 t640) + 1)) (show (0 : Int) < 4294967296 by decide); omega
            have hji35w : (IntKind.u32.wrap ((Go.bits .andNot .u32 t619 t640) + 1)) = ji35 := (u32_w _).trans hji35
            (try (have hji35_ := hji35; simp only [Int.add_emod_emod, Int.emod_add_emod, Int.sub_emod_emod, Int.emod_sub_emod] at hji35_))
            by_cases c36 : t628 = true
            ·subst c36
             have H1 : ((annealref10_sgn.f a0).bind fun t641 => (some (Go.bits .or .u32 (ji35) t641))) = some r := by rw [if_pos rfl] at H; exact H
             clear H
             have H := H1
             clear H1
             replace H := Option.bind_eq_some_iff.mp H
             obtain ⟨t641, A370, H⟩ := H
             replace H : (some (Go.bits .or .u32 (ji35) t641)) = some r := H
             have A37 := Aside0.mk A370
             clear A370
             obtain rfl := Option.some.inj H
             (try rw [hji25] at A32)
             go_wp2_with (first | ((with_reducible refine gate_callee (f := 75) rfl ?_); refine goesL_ (some 97) rfl rfl Try.func75 (by kernel_rfl) rfl #[.int .u64 x18_29, .int .i64 (wrap64 (ji25 - 32))] rfl gl ?_; (with_reducible refine (annealref1_Shift.calls kj29 x18_29 (wrap64 (ji25 - 32)) t638 t639 _ A32.out).mono ?_); rintro e w38 ⟨rfl, hb⟩; refine ⟨_, rfl, ?_⟩; have n0_ := Aside0.mk (blk_below (g := gb625) (o := .cells #[.bool t620, .bool t621, .bool t622, .bool t623, .bool t624] 30 (0, 0)) (bv BK625.out) hb); have n1_ := Aside0.mk (below_step (bl1 HB.out GE625.out) hb); clear BK625; clear HB; have BK625 := n0_; have HB := n1_; clear n0_ n1_; (try clear hb); (try clear hb2); (try clear hk); (try clear hi)) | ((with_reducible refine gate_callee (f := 76) rfl ?_); refine goesL_ (some 106) rfl rfl Try.func76 (by kernel_rfl) rfl #[.int .i64 a0] rfl gl ?_; (with_reducible refine (annealref10_sgn.calls a0 t640 _ A34.out).mono ?_); rintro e w' ⟨rfl, ⟨nd, rfl⟩⟩; refine ⟨_, rfl, ?_⟩) | ((with_reducible refine gate_callee (f := 76) rfl ?_); refine goesL_ (some 112) rfl rfl Try.func76 (by kernel_rfl) rfl #[.int .i64 a0] rfl gl ?_; (with_reducible refine (annealref10_sgn.calls a0 t641 _ A37.out).mono ?_); rintro e w' ⟨rfl, ⟨nd, rfl⟩⟩; refine ⟨_, rfl, ?_⟩))
             go_ret
             exact ⟨by first | rfl | (simp [errW_none, errW_some] <;> rfl) | (simp only [← hji25, ← hji27, ← hji35]; first | rfl | (simp [errW_none, errW_some] <;> rfl)) | (simp [*, errW_none, errW_some] <;> rfl), bl1 HB.out GE625.out⟩
            ·replace c36 := Bool.eq_false_iff.mpr c36
             subst c36
             have H1 : (some ji35) = some r := by rw [if_neg (show ¬ (false = true) by decide)] at H; exact H
             clear H
             have H := H1
             clear H1
             obtain rfl := Option.some.inj H
             (try rw [hji25] at A32)
             go_wp2_with (first | ((with_reducible refine gate_callee (f := 75) rfl ?_); refine goesL_ (some 97) rfl rfl Try.func75 (by kernel_rfl) rfl #[.int .u64 x18_29, .int .i64 (wrap64 (ji25 - 32))] rfl gl ?_; (with_reducible refine (annealref1_Shift.calls kj29 x18_29 (wrap64 (ji25 - 32)) t638 t639 _ A32.out).mono ?_); rintro e w39 ⟨rfl, hb⟩; refine ⟨_, rfl, ?_⟩; have n0_ := Aside0.mk (blk_below (g := gb625) (o := .cells #[.bool t620, .bool t621, .bool t622, .bool t623, .bool t624] 30 (0, 0)) (bv BK625.out) hb); have n1_ := Aside0.mk (below_step (bl1 HB.out GE625.out) hb); clear BK625; clear HB; have BK625 := n0_; have HB := n1_; clear n0_ n1_; (try clear hb); (try clear hb2); (try clear hk); (try clear hi)) | ((with_reducible refine gate_callee (f := 76) rfl ?_); refine goesL_ (some 106) rfl rfl Try.func76 (by kernel_rfl) rfl #[.int .i64 a0] rfl gl ?_; (with_reducible refine (annealref10_sgn.calls a0 t640 _ A34.out).mono ?_); rintro e w' ⟨rfl, ⟨nd, rfl⟩⟩; refine ⟨_, rfl, ?_⟩))
             go_ret
             exact ⟨by first | rfl | (simp [errW_none, errW_some] <;> rfl) | (simp only [← hji25, ← hji27, ← hji35]; first | rfl | (simp [errW_none, errW_some] <;> rfl)) | (simp [*, errW_none, errW_some] <;> rfl), bl1 HB.out GE625.out⟩
           ·rw [if_neg c33] at H
            have c33b0 : decide ((IntKind.u64.wrap (a2)) < t638) = false := decide_eq_false c33
            clear c33
            obtain rfl := Option.some.inj H
            (try rw [hji25] at A32)
            go_wp2_with (first | ((with_reducible refine gate_callee (f := 75) rfl ?_); refine goesL_ (some 97) rfl rfl Try.func75 (by kernel_rfl) rfl #[.int .u64 x18_29, .int .i64 (wrap64 (ji25 - 32))] rfl gl ?_; (with_reducible refine (annealref1_Shift.calls kj29 x18_29 (wrap64 (ji25 - 32)) t638 t639 _ A32.out).mono ?_); rintro e w40 ⟨rfl, hb⟩; refine ⟨_, rfl, ?_⟩; have n0_ := Aside0.mk (blk_below (g := gb625) (o := .cells #[.bool t620, .bool t621, .bool t622, .bool t623, .bool t624] 30 (0, 0)) (bv BK625.out) hb); have n1_ := Aside0.mk (below_step (bl1 HB.out GE625.out) hb); clear BK625; clear HB; have BK625 := n0_; have HB := n1_; clear n0_ n1_; (try clear hb); (try clear hb2); (try clear hk); (try clear hi)))
            go_ret
            exact ⟨by first | rfl | (simp [errW_none, errW_some] <;> rfl) | (simp only [← hji25, ← hji27]; first | rfl | (simp [errW_none, errW_some] <;> rfl)) | (simp [*, errW_none, errW_some] <;> rfl), bl1 HB.out GE625.out⟩
      ·rw [if_neg c26] at H
       exact absurd H (by simp)

end Go.Proofs.Ytoljndjpnbdjmaa.P

-- Printed by a program of this session's out of Lean's print of the translation; Lean checks it.
namespace Go.Proofs.Ytoljndjpnbdjmaa.P
open Go.RowKit Go.Proofs.YtoljndjpnbdjmaaW.PrintWords Go.Proofs.YtoljndjpnbdjmaaW.PrintLast Go.Proofs.YtoljndjpnbdjmaaW.PrintMore
attribute [local go_sem] max2_int min2_int max_two min_two max_three min_three max_four min_four   -- for this text's walks alone
set_option linter.unusedVariables false
set_option linter.unusedSimpArgs false

/-! ### anneallaw11_ChanceTells: function 11 -/
mutual
def anneallaw11_ChanceTells.l0 : Nat → Int → Int → Int → List Int → Int → Int → Option (Bool)
 | 0, _, _, _, _, _, _ => none
 | k + 1, x1, x2, x3, x18, x19, x20 => if x20 < x19 then (if 0 ≤ x20 then (if x20 < (x18.length : Int) then ((annealseat_Num.f 2 x1).bind fun t647 => ((annealseat_Mild.f 2 x1).bind fun t648 => ((some (([x2, t647, t648, ((Int.tmod x1 805306368) + 671088640) % 4294967296, (1199562752 + (Int.tmod x1 12288)) % 4294967296, (2139029504 + (Int.tmod x1 65536)) % 4294967296, (855638016 + (Int.tmod x1 100663296)) % 4294967296] : List Int) : List Int)).bind fun y649 => (anneallaw11_ChanceTells.l1 k x1 x2 x3 (rd x18 x20) x18 x19 x20 y649 (y649.length : Int) 0)))) else (none)) else (none)) else (some true)
def anneallaw11_ChanceTells.l1 : Nat → Int → Int → Int → Int → List Int → Int → Int → List Int → Int → Int → Option (Bool)
 | 0, _, _, _, _, _, _, _, _, _, _ => none
 | k + 1, x1, x2, x3, x10, x18, x19, x20, x41, x42, x43 => if x43 < x42 then (if 0 ≤ x43 then (if x43 < (x41.length : Int) then ((some (([x3, 0, 4294967295, (x3 * 65536) % 4294967296] : List Int) : List Int)).bind fun y653 => (anneallaw11_ChanceTells.l2 k x1 x2 x3 x10 (rd x41 x43) x18 x19 x20 x41 x42 x43 y653 (y653.length : Int) 0)) else (none)) else (none)) else (anneallaw11_ChanceTells.l0 k x1 x2 x3 x18 x19 (wrap64 (x20 + 1)))
def anneallaw11_ChanceTells.l2 : Nat → Int → Int → Int → Int → Int → List Int → Int → Int → List Int → Int → Int → List Int → Int → Int → Option (Bool)
 | 0, _, _, _, _, _, _, _, _, _, _, _, _, _, _ => none
 | k + 1, x1, x2, x3, x10, x12, x18, x19, x20, x41, x42, x43, x50, x51, x52 => if x52 < x51 then (if 0 ≤ x52 then (if x52 < (x50.length : Int) then ((chance_Narrow.f k x10 x12 (rd x50 x52)).bind fun t657 => ((annealref10_Chance.f k x10 x12 (rd x50 x52)).bind fun t658 => (if t657 = t658 then ((chance_Narrow.f k x10 (Go.bits .or .u32 x12 2147483648) (rd x50 x52)).bind fun t659 => ((annealref10_Chance.f k x10 (Go.bits .or .u32 x12 2147483648) (rd x50 x52)).bind fun t660 => (if t659 = t660 then (anneallaw11_ChanceTells.l2 k x1 x2 x3 x10 x12 x18 x19 x20 x41 x42 x43 x50 x51 (wrap64 (x52 + 1))) else (some false)))) else (some false)))) else (none)) else (none)) else (anneallaw11_ChanceTells.l1 k x1 x2 x3 x10 x18 x19 x20 x41 x42 (wrap64 (x43 + 1)))
end
def anneallaw11_ChanceTells.f (k : Nat) (a0 : Int) (a1 : Int) (a2 : Int) (a3 : Int) : Option (Bool) := (anneallaw11_known.f k).bind fun t642 => (if t642 = true then ((some (([a0, 0, 1, 2] : List Int) : List Int)).bind fun y643 => (anneallaw11_ChanceTells.l0 k a1 a2 a3 y643 (y643.length : Int) 0)) else (some false))
set_option maxHeartbeats 8000000 in
set_option maxRecDepth 100000 in
theorem anneallaw11_ChanceTells.calls (k : Nat) (a0 : Int) (a1 : Int) (a2 : Int) (a3 : Int) (r : Bool) (w : World) (h : anneallaw11_ChanceTells.f k a0 a1 a2 a3 = some r) :
  Calls Try.prog 11 #[.int .i64 a0, .int .u32 a1, .int .u32 a2, .int .u32 a3] w fun e w' => e = .returned (.bool r) ∧ Below w.heap.size w w' := by
 have HB := Aside0.mk (Below.refl w.heap.size w)
 have H : ((anneallaw11_known.f k).bind fun t642 => (if t642 = true then ((some (([a0, 0, 1, 2] : List Int) : List Int)).bind fun y643 => (anneallaw11_ChanceTells.l0 k a1 a2 a3 y643 (y643.length : Int) 0)) else (some false))) = some r := h
 clear h
 replace H := Option.bind_eq_some_iff.mp H
 obtain ⟨t642, A50, H⟩ := H
 replace H : (if t642 = true then ((some (([a0, 0, 1, 2] : List Int) : List Int)).bind fun y643 => (anneallaw11_ChanceTells.l0 k a1 a2 a3 y643 (y643.length : Int) 0)) else (some false)) = some r := H
 have A5 := Aside0.mk A50
 clear A50
 by_cases c6 : t642 = true
 ·subst c6
  have H1 : ((some (([a0, 0, 1, 2] : List Int) : List Int)).bind fun y643 => (anneallaw11_ChanceTells.l0 k a1 a2 a3 y643 (y643.length : Int) 0)) = some r := by rw [if_pos rfl] at H; exact H
  clear H
  have H := H1
  clear H1
  obtain ⟨y643, hy643⟩ : ∃ y_ : List Int, y_ = (([a0, 0, 1, 2] : List Int)) := ⟨_, rfl⟩
  replace H : (anneallaw11_ChanceTells.l0 k a1 a2 a3 y643 (y643.length : Int) 0) = some r := by first | (rw [hy643]; with_reducible exact H) | (have H2_ := (Option.bind_some _ _).symm.trans H; rw [hy643]; with_reducible exact H2_) | (have H2_ := (Option.bind_some _ _).symm.trans H; with_reducible exact H2_) | with_reducible exact H | (rw [hy643]; exact H) | exact H
  have Ny643 := Aside0.mk hy643
  clear hy643
  have H' := Aside0.mk H
  clear H
  go_enter Try.func11, Try.ntmps11
  go_wp2_with (first | ((with_reducible refine gate_callee (f := 37) rfl ?_); refine goesL_ (some 15) rfl rfl Try.func37 (by kernel_rfl) rfl #[] rfl gl ?_; (with_reducible refine (anneallaw11_known.calls k  true _ A5.out).mono ?_); rintro e w7 ⟨rfl, hb⟩; refine ⟨_, rfl, ?_⟩; have n0_ := Aside0.mk (below_step (bl0 HB.out) hb); clear HB; have HB := n0_; clear n0_; (try clear hb); (try clear hb2); (try clear hk); (try clear hi)) | ((with_reducible refine gate_dst (N := 18) rfl ?_); refine Kd.R_lit (Kd.int .i64) _ 3 ?hg (N := 18) ?hd (xs := ([a0, 0, 1, 2] : List Int)) (inner := [.int .i64 a0, .int .i64 0, .int .i64 1, .int .i64 2]) (ok := fun _ => True) (okp := fun _ => True) ?hr ?hp (fun _ hk => hk) trivial (Below.refl _ _) (Nat.le_refl _) (by simp) ?_; (case hd => rfl); (case hg => rfl); (case hr => first | (go_simp; done) | (go_simp; rfl)); (case hp => exact (Reps.one (show Kd.M (Kd.int .i64) _ _ _ a0 [.int .i64 a0] from rfl) (Reps.one (show Kd.M (Kd.int .i64) _ _ _ 0 [.int .i64 0] from rfl) (Reps.one (show Kd.M (Kd.int .i64) _ _ _ 1 [.int .i64 1] from rfl) (Reps.one (show Kd.M (Kd.int .i64) _ _ _ 2 [.int .i64 2] from rfl) (Reps.none _ _)))))); intro v644 w8 ho9 hb hg_ hnew_; clear hg_ hnew_; (first | rw [← Ny643.out] at ho9 | (simp only [Int.reduceToNat] at ho9; rw [← Ny643.out] at ho9)); have n0_ := Aside0.mk (Kd.R_lower ho9 (below_size (bl0 HB.out))); have n1_ := Aside0.mk (below_step (bl0 HB.out) hb); clear HB; have HO645 := n0_; have HB := n1_; clear n0_ n1_; clear hb ho9; obtain ⟨Ao10, co10, eo10⟩ := Kd.R_slice HO645.out; subst eo10))
  go_loopg [20] k (fun kq v20 w' => ∃ (x20_1 : Int), v20 = .int .i64 x20_1 ∧ Aside0 (anneallaw11_ChanceTells.l0 kq a1 a2 a3 y643 (y643.length : Int) x20_1 = some r) ∧ Aside0 (kq ≤ k) ∧ Aside0 (Kd.R (Kd.int .i64) 3 w' w.heap.size (fun _ => True) (.slice Ao10 y643.length co10) y643) ∧ Aside0 (Below w.heap.size w w'))
  case atStart => exact ⟨(0), (by first | rfl | (simp; done) | (simp [*]; done) | (congr 1; (try unfold wrap64); omega) | (congr 1; rw [IntKind.wrap_u64]; omega)), H', ⟨Nat.le_refl _⟩, ⟨by (with_reducible repeat (first | apply Kd.R_alloc | apply Kd.R_drewN | apply Kd.R_drew)); exact HO645.out⟩, ⟨bl0 HB.out⟩⟩
  case round =>
   clear H'
   try clear c1
   try clear p2
   try clear c3
   try clear c6
   try clear p6
   obtain ⟨x20_1, rfl, HA, HK1, HO_18, HB⟩ := hrel
   cases gk with
   | zero => exact absurd HA.out (by simp [anneallaw11_ChanceTells.l0])
   | succ k1 =>
    have H := HA.out
    clear HA
    simp only [anneallaw11_ChanceTells.l0] at H
    by_cases c11 : x20_1 < (y643.length : Int)
    ·rw [if_pos c11] at H
     have c11b0 : decide (x20_1 < (y643.length : Int)) = true := decide_eq_true c11
     clear c11
     by_cases c12 : 0 ≤ x20_1
     ·rw [if_pos c12] at H
      have c12b0 : decide (0 ≤ x20_1) = true := decide_eq_true c12
      clear c12
      by_cases c13 : x20_1 < (y643.length : Int)
      ·rw [if_pos c13] at H
       have c13b0 : decide (x20_1 < (y643.length : Int)) = true := decide_eq_true c13
       clear c13
       replace H := Option.bind_eq_some_iff.mp H
       obtain ⟨t647, A140, H⟩ := H
       replace H : ((annealseat_Mild.f 2 a1).bind fun t648 => ((some (([a2, t647, t648, ((Int.tmod a1 805306368) + 671088640) % 4294967296, (1199562752 + (Int.tmod a1 12288)) % 4294967296, (2139029504 + (Int.tmod a1 65536)) % 4294967296, (855638016 + (Int.tmod a1 100663296)) % 4294967296] : List Int) : List Int)).bind fun y649 => (anneallaw11_ChanceTells.l1 k1 a1 a2 a3 (rd y643 x20_1) y643 (y643.length : Int) x20_1 y649 (y649.length : Int) 0))) = some r := H
       have A14 := Aside0.mk A140
       clear A140
       replace H := Option.bind_eq_some_iff.mp H
       obtain ⟨t648, A150, H⟩ := H
       replace H : ((some (([a2, t647, t648, ((Int.tmod a1 805306368) + 671088640) % 4294967296, (1199562752 + (Int.tmod a1 12288)) % 4294967296, (2139029504 + (Int.tmod a1 65536)) % 4294967296, (855638016 + (Int.tmod a1 100663296)) % 4294967296] : List Int) : List Int)).bind fun y649 => (anneallaw11_ChanceTells.l1 k1 a1 a2 a3 (rd y643 x20_1) y643 (y643.length : Int) x20_1 y649 (y649.length : Int) 0)) = some r := H
       have A15 := Aside0.mk A150
       clear A150
       obtain ⟨ji16, hji16⟩ : ∃ j_ : Int, (((Int.tmod a1 805306368) + 671088640) % 4294967296) = j_ := ⟨_, rfl⟩
       replace H : ((some (([a2, t647, t648, ji16, (1199562752 + (Int.tmod a1 12288)) % 4294967296, (2139029504 + (Int.tmod a1 65536)) % 4294967296, (855638016 + (Int.tmod a1 100663296)) % 4294967296] : List Int) : List Int)).bind fun y649 => (anneallaw11_ChanceTells.l1 k1 a1 a2 a3 (rd y643 x20_1) y643 (y643.length : Int) x20_1 y649 (y649.length : Int) 0)) = some r := by first | (rw [hji16] at H; exact H) | (simp only [hji16] at H ⊢; exact H)
       (try rw [hji16] at A14)
       (try rw [hji16] at A15)
       have hji16l : 0 ≤ ji16 := by rw [← hji16]; exact Int.emod_nonneg _ (by decide)
       have hji16h : ji16 ≤ 4294967295 := by have := Int.emod_lt_of_pos (((Int.tmod a1 805306368) + 671088640)) (show (0 : Int) < 4294967296 by decide); omega
       have hji16w : (IntKind.u32.wrap ((Int.tmod a1 805306368) + 671088640)) = ji16 := (u32_w _).trans hji16
       (try (have hji16_ := hji16; simp only [Int.add_emod_emod, Int.emod_add_emod, Int.sub_emod_emod, Int.emod_sub_emod] at hji16_))
       obtain ⟨ji17, hji17⟩ : ∃ j_ : Int, ((1199562752 + (Int.tmod a1 12288)) % 4294967296) = j_ := ⟨_, rfl⟩
       replace H : ((some (([a2, t647, t648, ji16, ji17, (2139029504 + (Int.tmod a1 65536)) % 4294967296, (855638016 + (Int.tmod a1 100663296)) % 4294967296] : List Int) : List Int)).bind fun y649 => (anneallaw11_ChanceTells.l1 k1 a1 a2 a3 (rd y643 x20_1) y643 (y643.length : Int) x20_1 y649 (y649.length : Int) 0)) = some r := by first | (rw [hji17] at H; exact H) | (simp only [hji17] at H ⊢; exact H)
       (try rw [hji17] at A14)
       (try rw [hji17] at A15)
       have hji17l : 0 ≤ ji17 := by rw [← hji17]; exact Int.emod_nonneg _ (by decide)
       have hji17h : ji17 ≤ 4294967295 := by have := Int.emod_lt_of_pos ((1199562752 + (Int.tmod a1 12288))) (show (0 : Int) < 4294967296 by decide); omega
       have hji17w : (IntKind.u32.wrap (1199562752 + (Int.tmod a1 12288))) = ji17 := (u32_w _).trans hji17
       (try (have hji17_ := hji17; simp only [Int.add_emod_emod, Int.emod_add_emod, Int.sub_emod_emod, Int.emod_sub_emod] at hji17_))
       obtain ⟨ji18, hji18⟩ : ∃ j_ : Int, ((2139029504 + (Int.tmod a1 65536)) % 4294967296) = j_ := ⟨_, rfl⟩
       replace H : ((some (([a2, t647, t648, ji16, ji17, ji18, (855638016 + (Int.tmod a1 100663296)) % 4294967296] : List Int) : List Int)).bind fun y649 => (anneallaw11_ChanceTells.l1 k1 a1 a2 a3 (rd y643 x20_1) y643 (y643.length : Int) x20_1 y649 (y649.length : Int) 0)) = some r := by first | (rw [hji18] at H; exact H) | (simp only [hji18] at H ⊢; exact H)
       (try rw [hji18] at A14)
       (try rw [hji18] at A15)
       have hji18l : 0 ≤ ji18 := by rw [← hji18]; exact Int.emod_nonneg _ (by decide)
       have hji18h : ji18 ≤ 4294967295 := by have := Int.emod_lt_of_pos ((2139029504 + (Int.tmod a1 65536))) (show (0 : Int) < 4294967296 by decide); omega
       have hji18w : (IntKind.u32.wrap (2139029504 + (Int.tmod a1 65536))) = ji18 := (u32_w _).trans hji18
       (try (have hji18_ := hji18; simp only [Int.add_emod_emod, Int.emod_add_emod, Int.sub_emod_emod, Int.emod_sub_emod] at hji18_))
       obtain ⟨ji19, hji19⟩ : ∃ j_ : Int, ((855638016 + (Int.tmod a1 100663296)) % 4294967296) = j_ := ⟨_, rfl⟩
       replace H : ((some (([a2, t647, t648, ji16, ji17, ji18, ji19] : List Int) : List Int)).bind fun y649 => (anneallaw11_ChanceTells.l1 k1 a1 a2 a3 (rd y643 x20_1) y643 (y643.length : Int) x20_1 y649 (y649.length : Int) 0)) = some r := by first | (rw [hji19] at H; exact H) | (simp only [hji19] at H ⊢; exact H)
       (try rw [hji19] at A14)
       (try rw [hji19] at A15)
       have hji19l : 0 ≤ ji19 := by rw [← hji19]; exact Int.emod_nonneg _ (by decide)
       have hji19h : ji19 ≤ 4294967295 := by have := Int.emod_lt_of_pos ((855638016 + (Int.tmod a1 100663296))) (show (0 : Int) < 4294967296 by decide); omega
       have hji19w : (IntKind.u32.wrap (855638016 + (Int.tmod a1 100663296))) = ji19 := (u32_w _).trans hji19
       (try (have hji19_ := hji19; simp only [Int.add_emod_emod, Int.emod_add_emod, Int.sub_emod_emod, Int.emod_sub_emod] at hji19_))
       obtain ⟨y649, hy649⟩ : ∃ y_ : List Int, y_ = (([a2, t647, t648, ji16, ji17, ji18, ji19] : List Int)) := ⟨_, rfl⟩
       replace H : (anneallaw11_ChanceTells.l1 k1 a1 a2 a3 (rd y643 x20_1) y643 (y643.length : Int) x20_1 y649 (y649.length : Int) 0) = some r := by first | (rw [hy649]; with_reducible exact H) | (have H2_ := (Option.bind_some _ _).symm.trans H; rw [hy649]; with_reducible exact H2_) | (have H2_ := (Option.bind_some _ _).symm.trans H; with_reducible exact H2_) | with_reducible exact H | (rw [hy649]; exact H) | exact H
       have Ny649 := Aside0.mk hy649
       clear hy649
       have H' := Aside0.mk H
       clear H
       have p646 : 0 ≤ (x20_1 : Int) := of_decide_eq_true (by first | (with_reducible assumption) | assumption)
       have q646 : x20_1 < (y643.length : Int) := of_decide_eq_true (by first | (with_reducible assumption) | assumption)
       obtain ⟨ad646, e646, hx646_0⟩ := Kd.at_int (Kd.R_reads' HO_18.out).2.2 x20_1 p646 q646
       cases e646
       replace p646 := eq_true p646
       replace q646 := eq_true q646
       go_wp2_with (first | ((with_reducible refine gate_callee (f := 26) rfl ?_); refine goesL_ (some 26) rfl rfl Try.func26 (by kernel_rfl) rfl #[.int .i64 2, .int .u32 a1] rfl gl ?_; (with_reducible refine (annealseat_Num.calls 2 a1 t647 _ A14.out).mono ?_); rintro e w20 ⟨rfl, hb⟩; refine ⟨_, rfl, ?_⟩; have n0_ := Aside0.mk (Kd.R_below (by (with_reducible repeat (first | apply Kd.R_alloc | apply Kd.R_drewN | apply Kd.R_drew)); exact HO_18.out) hb); have n1_ := Aside0.mk (below_step (bl0 HB.out) hb); clear HO_18; clear HB; have HO_18 := n0_; have HB := n1_; clear n0_ n1_; (try clear hb); (try clear hb2); (try clear hk); (try clear hi)) | ((with_reducible refine gate_callee (f := 27) rfl ?_); refine goesL_ (some 28) rfl rfl Try.func27 (by kernel_rfl) rfl #[.int .i64 2, .int .u32 a1] rfl gl ?_; (with_reducible refine (annealseat_Mild.calls 2 a1 t648 _ A15.out).mono ?_); rintro e w' ⟨rfl, ⟨nd, rfl⟩⟩; refine ⟨_, rfl, ?_⟩) | ((with_reducible refine gate_dst (N := 41) rfl ?_); refine Kd.R_lit (Kd.int .u32) _ 28 ?hg (N := 41) ?hd (xs := ([a2, t647, t648, ji16, ji17, ji18, ji19] : List Int)) (inner := [.int .u32 a2, .int .u32 t647, .int .u32 t648, .int .u32 ji16, .int .u32 ji17, .int .u32 ji18, .int .u32 ji19]) (ok := fun _ => True) (okp := fun _ => True) ?hr ?hp (fun _ hk => hk) trivial (Below.refl _ _) (Nat.le_refl _) (by simp) ?_; (case hd => rfl); (case hg => rfl); (case hr => first | (go_simp; done) | (go_simp; rfl)); (case hp => exact (Reps.one (show Kd.M (Kd.int .u32) _ _ _ a2 [.int .u32 a2] from rfl) (Reps.one (show Kd.M (Kd.int .u32) _ _ _ t647 [.int .u32 t647] from rfl) (Reps.one (show Kd.M (Kd.int .u32) _ _ _ t648 [.int .u32 t648] from rfl) (Reps.one (show Kd.M (Kd.int .u32) _ _ _ ji16 [.int .u32 ji16] from rfl) (Reps.one (show Kd.M (Kd.int .u32) _ _ _ ji17 [.int .u32 ji17] from rfl) (Reps.one (show Kd.M (Kd.int .u32) _ _ _ ji18 [.int .u32 ji18] from rfl) (Reps.one (show Kd.M (Kd.int .u32) _ _ _ ji19 [.int .u32 ji19] from rfl) (Reps.none _ _))))))))); intro v650 w21 ho22 hb hg_ hnew_; clear hg_ hnew_; (first | rw [← Ny649.out] at ho22 | (simp only [Int.reduceToNat] at ho22; rw [← Ny649.out] at ho22)); have n0_ := Aside0.mk (Kd.R_below (by (with_reducible repeat (first | apply Kd.R_alloc | apply Kd.R_drewN | apply Kd.R_drew)); exact HO_18.out) hb); have n1_ := Aside0.mk (Kd.R_lower ho22 (below_size (bl0 HB.out))); have n2_ := Aside0.mk (below_step (bl0 HB.out) hb); clear HO_18; clear HB; have HO_18 := n0_; have HO651 := n1_; have HB := n2_; clear n0_ n1_ n2_; clear hb ho22; obtain ⟨Ao23, co23, eo23⟩ := Kd.R_slice HO651.out; subst eo23))
       (try simp only [hji16, hji16_, hji17, hji17_, hji18, hji18_, hji19, hji19_])
       go_loopg [43] k1 (fun kq v43 w' => ∃ (x43_2 : Int), v43 = .int .i64 x43_2 ∧ Aside0 (anneallaw11_ChanceTells.l1 kq a1 a2 a3 (rd y643 x20_1) y643 (y643.length : Int) x20_1 y649 (y649.length : Int) x43_2 = some r) ∧ Aside0 (kq ≤ k1) ∧ Aside0 (Kd.R (Kd.int .i64) 3 w' w.heap.size (fun _ => True) (.slice (some ad646) y643.length co10) y643) ∧ Aside0 (Kd.R (Kd.int .u32) 28 w' w.heap.size (fun _ => True) (.slice Ao23 y649.length co23) y649) ∧ Aside0 (Below w.heap.size w w'))
       case atStart => exact ⟨(0), (by first | rfl | (simp; done) | (simp [*]; done) | (congr 1; (try unfold wrap64); omega) | (congr 1; rw [IntKind.wrap_u64]; omega)), H', ⟨Nat.le_refl _⟩, ⟨by (with_reducible repeat (first | apply Kd.R_alloc | apply Kd.R_drewN | apply Kd.R_drew)); exact HO_18.out⟩, ⟨by (with_reducible repeat (first | apply Kd.R_alloc | apply Kd.R_drewN | apply Kd.R_drew)); exact HO651.out⟩, ⟨bl0 HB.out⟩⟩
       case round =>
        clear H'
        try clear c1
        try clear c2
        try clear p2
        try clear c3
        try clear c6
        try clear p6
        try clear q6
        try clear hx6
        try clear c11
        try clear c11b0
        try clear c12
        try clear c12b0
        try clear c13
        try clear c13b0
        try clear hx646_0
        try clear p2
        try clear p6
        try clear p646
        try clear q646
        obtain ⟨x43_2, rfl, HA, HK2, HO_18, HO_41, HB⟩ := hrel
        cases gk with
        | zero => exact absurd HA.out (by simp [anneallaw11_ChanceTells.l1])
        | succ k2 =>
         have H := HA.out
         clear HA
         simp only [anneallaw11_ChanceTells.l1] at H
         by_cases c24 : x43_2 < (y649.length : Int)
         ·rw [if_pos c24] at H
          have c24b0 : decide (x43_2 < (y649.length : Int)) = true := decide_eq_true c24
          clear c24
          by_cases c25 : 0 ≤ x43_2
          ·rw [if_pos c25] at H
           have c25b0 : decide (0 ≤ x43_2) = true := decide_eq_true c25
           clear c25
           by_cases c26 : x43_2 < (y649.length : Int)
           ·rw [if_pos c26] at H
            have c26b0 : decide (x43_2 < (y649.length : Int)) = true := decide_eq_true c26
            clear c26
            obtain ⟨y653, hy653⟩ : ∃ y_ : List Int, y_ = (([a3, 0, 4294967295, (a3 * 65536) % 4294967296] : List Int)) := ⟨_, rfl⟩
            replace H : (anneallaw11_ChanceTells.l2 k2 a1 a2 a3 (rd y643 x20_1) (rd y649 x43_2) y643 (y643.length : Int) x20_1 y649 (y649.length : Int) x43_2 y653 (y653.length : Int) 0) = some r := by first | (rw [hy653]; with_reducible exact H) | (have H2_ := (Option.bind_some _ _).symm.trans H; rw [hy653]; with_reducible exact H2_) | (have H2_ := (Option.bind_some _ _).symm.trans H; with_reducible exact H2_) | with_reducible exact H | (rw [hy653]; exact H) | exact H
            have Ny653 := Aside0.mk hy653
            clear hy653
            have H' := Aside0.mk H
            clear H
            have p652 : 0 ≤ (x43_2 : Int) := of_decide_eq_true (by first | (with_reducible assumption) | assumption)
            have q652 : x43_2 < (y649.length : Int) := of_decide_eq_true (by first | (with_reducible assumption) | assumption)
            obtain ⟨ad652, e652, hx652_0⟩ := Kd.at_int (Kd.R_reads' HO_41.out).2.2 x43_2 p652 q652
            cases e652
            replace p652 := eq_true p652
            replace q652 := eq_true q652
            go_wp2_with (first | ((with_reducible refine gate_dst (N := 50) rfl ?_); refine Kd.R_lit (Kd.int .u32) _ 28 ?hg (N := 50) ?hd (xs := ([a3, 0, 4294967295, (a3 * 65536) % 4294967296] : List Int)) (inner := [.int .u32 a3, .int .u32 0, .int .u32 4294967295, .int .u32 ((a3 * 65536) % 4294967296)]) (ok := fun _ => True) (okp := fun _ => True) ?hr ?hp (fun _ hk => hk) trivial (Below.refl _ _) (Nat.le_refl _) (by simp) ?_; (case hd => rfl); (case hg => rfl); (case hr => first | (go_simp; done) | (go_simp; rfl)); (case hp => exact (Reps.one (show Kd.M (Kd.int .u32) _ _ _ a3 [.int .u32 a3] from rfl) (Reps.one (show Kd.M (Kd.int .u32) _ _ _ 0 [.int .u32 0] from rfl) (Reps.one (show Kd.M (Kd.int .u32) _ _ _ 4294967295 [.int .u32 4294967295] from rfl) (Reps.one (show Kd.M (Kd.int .u32) _ _ _ ((a3 * 65536) % 4294967296) [.int .u32 ((a3 * 65536) % 4294967296)] from rfl) (Reps.none _ _)))))); intro v654 w27 ho28 hb hg_ hnew_; clear hg_ hnew_; (first | rw [← Ny653.out] at ho28 | (simp only [Int.reduceToNat] at ho28; rw [← Ny653.out] at ho28)); have n0_ := Aside0.mk (Kd.R_below (by (with_reducible repeat (first | apply Kd.R_alloc | apply Kd.R_drewN | apply Kd.R_drew)); exact HO_18.out) hb); have n1_ := Aside0.mk (Kd.R_elder' (by (with_reducible repeat (first | apply Kd.R_alloc | apply Kd.R_drewN | apply Kd.R_drew)); exact HO_41.out) (Kd.R_base ho28) hb); have n2_ := Aside0.mk (Kd.R_lower (Kd.R_new' ho28 (Kd.R_lt (by (with_reducible repeat (first | apply Kd.R_alloc | apply Kd.R_drewN | apply Kd.R_drew)); exact HO_41.out))) (below_size (bl0 HB.out))); have n3_ := Aside0.mk (below_step (bl0 HB.out) hb); clear HO_18; clear HO_41; clear HB; have HO_18 := n0_; have HO_41 := n1_; have HO655 := n2_; have HB := n3_; clear n0_ n1_ n2_ n3_; clear hb ho28; obtain ⟨Ao29, co29, eo29⟩ := Kd.R_slice HO655.out; subst eo29))
            (try simp only [hji16, hji16_, hji17, hji17_, hji18, hji18_, hji19, hji19_])
            go_loopg [52] k2 (fun kq v52 w' => ∃ (x52_3 : Int), v52 = .int .i64 x52_3 ∧ Aside0 (anneallaw11_ChanceTells.l2 kq a1 a2 a3 (rd y643 x20_1) (rd y649 x43_2) y643 (y643.length : Int) x20_1 y649 (y649.length : Int) x43_2 y653 (y653.length : Int) x52_3 = some r) ∧ Aside0 (kq ≤ k2) ∧ Aside0 (Kd.R (Kd.int .i64) 3 w' w.heap.size (fun _ => True) (.slice (some ad646) y643.length co10) y643) ∧ Aside0 (Kd.R (Kd.int .u32) 28 w' w.heap.size (fun k_ => some k_ ≠ ((.slice Ao29 y653.length co29) : Value).ownBlock) (.slice (some ad652) y649.length co23) y649) ∧ Aside0 (Kd.R (Kd.int .u32) 28 w' w.heap.size (fun k_ => some k_ ≠ ((.slice (some ad652) y649.length co23) : Value).ownBlock) (.slice Ao29 y653.length co29) y653) ∧ Aside0 (Below w.heap.size w w'))
            case atStart => exact ⟨(0), (by first | rfl | (simp; done) | (simp [*]; done) | (congr 1; (try unfold wrap64); omega) | (congr 1; rw [IntKind.wrap_u64]; omega)), H', ⟨Nat.le_refl _⟩, ⟨by (with_reducible repeat (first | apply Kd.R_alloc | apply Kd.R_drewN | apply Kd.R_drew)); exact HO_18.out⟩, ⟨by (with_reducible repeat (first | apply Kd.R_alloc | apply Kd.R_drewN | apply Kd.R_drew)); exact Kd.R_mono HO_41.out (fun _ hk => hk.2)⟩, ⟨by (with_reducible repeat (first | apply Kd.R_alloc | apply Kd.R_drewN | apply Kd.R_drew)); exact Kd.R_mono HO655.out (fun _ hk => hk.2)⟩, ⟨bl0 HB.out⟩⟩
            case round =>
             clear H'
             try clear c1
             try clear c2
             try clear p2
             try clear c3
             try clear c6
             try clear p6
             try clear q6
             try clear hx6
             try clear c11
             try clear c11b0
             try clear c12
             try clear c12b0
             try clear c13
             try clear c13b0
             try clear c24
             try clear c24b0
             try clear c25
             try clear c25b0
             try clear c26
             try clear c26b0
             try clear c27
             try clear hx646_0
             try clear hx652_0
             try clear p2
             try clear p6
             try clear p646
             try clear p652
             try clear q6
             try clear q646
             try clear q652
             obtain ⟨x52_3, rfl, HA, HK3, HO_18, HO_41, HO_50, HB⟩ := hrel
             cases gk with
             | zero => exact absurd HA.out (by simp [anneallaw11_ChanceTells.l2])
             | succ k3 =>
              have H := HA.out
              clear HA
              simp only [anneallaw11_ChanceTells.l2] at H
              by_cases c30 : x52_3 < (y653.length : Int)
              ·rw [if_pos c30] at H
               have c30b0 : decide (x52_3 < (y653.length : Int)) = true := decide_eq_true c30
               clear c30
               by_cases c31 : 0 ≤ x52_3
               ·rw [if_pos c31] at H
                have c31b0 : decide (0 ≤ x52_3) = true := decide_eq_true c31
                clear c31
                by_cases c32 : x52_3 < (y653.length : Int)
                ·rw [if_pos c32] at H
                 have c32b0 : decide (x52_3 < (y653.length : Int)) = true := decide_eq_true c32
                 clear c32
                 replace H := Option.bind_eq_some_iff.mp H
                 obtain ⟨t657, A330, H⟩ := H
                 replace H : ((annealref10_Chance.f k3 (rd y643 x20_1) (rd y649 x43_2) (rd y653 x52_3)).bind fun t658 => (if t657 = t658 then ((chance_Narrow.f k3 (rd y643 x20_1) (Go.bits .or .u32 (rd y649 x43_2) 2147483648) (rd y653 x52_3)).bind fun t659 => ((annealref10_Chance.f k3 (rd y643 x20_1) (Go.bits .or .u32 (rd y649 x43_2) 2147483648) (rd y653 x52_3)).bind fun t660 => (if t659 = t660 then (anneallaw11_ChanceTells.l2 k3 a1 a2 a3 (rd y643 x20_1) (rd y649 x43_2) y643 (y643.length : Int) x20_1 y649 (y649.length : Int) x43_2 y653 (y653.length : Int) (wrap64 (x52_3 + 1))) else (some false)))) else (some false))) = some r := H
                 have A33 := Aside0.mk A330
                 clear A330
                 replace H := Option.bind_eq_some_iff.mp H
                 obtain ⟨t658, A340, H⟩ := H
                 replace H : (if t657 = t658 then ((chance_Narrow.f k3 (rd y643 x20_1) (Go.bits .or .u32 (rd y649 x43_2) 2147483648) (rd y653 x52_3)).bind fun t659 => ((annealref10_Chance.f k3 (rd y643 x20_1) (Go.bits .or .u32 (rd y649 x43_2) 2147483648) (rd y653 x52_3)).bind fun t660 => (if t659 = t660 then (anneallaw11_ChanceTells.l2 k3 a1 a2 a3 (rd y643 x20_1) (rd y649 x43_2) y643 (y643.length : Int) x20_1 y649 (y649.length : Int) x43_2 y653 (y653.length : Int) (wrap64 (x52_3 + 1))) else (some false)))) else (some false)) = some r := H
                 have A34 := Aside0.mk A340
                 clear A340
                 by_cases c35 : t657 = t658
                 ·rw [if_pos c35] at H
                  have c35b0 : (t657 == t658) = true := beq_iff_eq.mpr c35
                  have c35b1 : (t657 != t658) = false := bne_eq_false_iff_eq.mpr c35
                  clear c35
                  replace H := Option.bind_eq_some_iff.mp H
                  obtain ⟨t659, A360, H⟩ := H
                  replace H : ((annealref10_Chance.f k3 (rd y643 x20_1) (Go.bits .or .u32 (rd y649 x43_2) 2147483648) (rd y653 x52_3)).bind fun t660 => (if t659 = t660 then (anneallaw11_ChanceTells.l2 k3 a1 a2 a3 (rd y643 x20_1) (rd y649 x43_2) y643 (y643.length : Int) x20_1 y649 (y649.length : Int) x43_2 y653 (y653.length : Int) (wrap64 (x52_3 + 1))) else (some false))) = some r := H
                  have A36 := Aside0.mk A360
                  clear A360
                  replace H := Option.bind_eq_some_iff.mp H
                  obtain ⟨t660, A370, H⟩ := H
                  replace H : (if t659 = t660 then (anneallaw11_ChanceTells.l2 k3 a1 a2 a3 (rd y643 x20_1) (rd y649 x43_2) y643 (y643.length : Int) x20_1 y649 (y649.length : Int) x43_2 y653 (y653.length : Int) (wrap64 (x52_3 + 1))) else (some false)) = some r := H
                  have A37 := Aside0.mk A370
                  clear A370
                  by_cases c38 : t659 = t660
                  ·rw [if_pos c38] at H
                   have c38b0 : (t659 == t660) = true := beq_iff_eq.mpr c38
                   have c38b1 : (t659 != t660) = false := bne_eq_false_iff_eq.mpr c38
                   clear c38
                   have H' := Aside0.mk H
                   clear H
                   have p656 : 0 ≤ (x52_3 : Int) := of_decide_eq_true (by first | (with_reducible assumption) | assumption)
                   have q656 : x52_3 < (y653.length : Int) := of_decide_eq_true (by first | (with_reducible assumption) | assumption)
                   obtain ⟨ad656, e656, hx656_0⟩ := Kd.at_int (Kd.R_reads' HO_50.out).2.2 x52_3 p656 q656
                   cases e656
                   replace p656 := eq_true p656
                   replace q656 := eq_true q656
                   go_wp2_with (first | ((with_reducible refine gate_callee (f := 38) rfl ?_); refine goesL_ (some 59) rfl rfl Try.func38 (by kernel_rfl) rfl #[.int .i64 (rd y643 x20_1), .int .u32 (rd y649 x43_2), .int .u32 (rd y653 x52_3)] rfl gl ?_; (with_reducible refine (chance_Narrow.calls k3 (rd y643 x20_1) (rd y649 x43_2) (rd y653 x52_3) t657 _ A33.out).mono ?_); rintro e w39 ⟨rfl, hb⟩; refine ⟨_, rfl, ?_⟩; have n0_ := Aside0.mk (Kd.R_below (by (with_reducible repeat (first | apply Kd.R_alloc | apply Kd.R_drewN | apply Kd.R_drew)); exact HO_18.out) hb); have n1_ := Aside0.mk (Kd.R_below (by (with_reducible repeat (first | apply Kd.R_alloc | apply Kd.R_drewN | apply Kd.R_drew)); exact HO_41.out) hb); have n2_ := Aside0.mk (Kd.R_below (by (with_reducible repeat (first | apply Kd.R_alloc | apply Kd.R_drewN | apply Kd.R_drew)); exact HO_50.out) hb); have n3_ := Aside0.mk (below_step (bl0 HB.out) hb); clear HO_18; clear HO_41; clear HO_50; clear HB; have HO_18 := n0_; have HO_41 := n1_; have HO_50 := n2_; have HB := n3_; clear n0_ n1_ n2_ n3_; (try clear hb); (try clear hb2); (try clear hk); (try clear hi)) | ((with_reducible refine gate_callee (f := 39) rfl ?_); refine goesL_ (some 63) rfl rfl Try.func39 (by kernel_rfl) rfl #[.int .i64 (rd y643 x20_1), .int .u32 (rd y649 x43_2), .int .u32 (rd y653 x52_3)] rfl gl ?_; (with_reducible refine (annealref10_Chance.calls k3 (rd y643 x20_1) (rd y649 x43_2) (rd y653 x52_3) t658 _ A34.out).mono ?_); rintro e w40 ⟨rfl, hb⟩; refine ⟨_, rfl, ?_⟩; have n0_ := Aside0.mk (Kd.R_below (by (with_reducible repeat (first | apply Kd.R_alloc | apply Kd.R_drewN | apply Kd.R_drew)); exact HO_18.out) hb); have n1_ := Aside0.mk (Kd.R_below (by (with_reducible repeat (first | apply Kd.R_alloc | apply Kd.R_drewN | apply Kd.R_drew)); exact HO_41.out) hb); have n2_ := Aside0.mk (Kd.R_below (by (with_reducible repeat (first | apply Kd.R_alloc | apply Kd.R_drewN | apply Kd.R_drew)); exact HO_50.out) hb); have n3_ := Aside0.mk (below_step (bl0 HB.out) hb); clear HO_18; clear HO_41; clear HO_50; clear HB; have HO_18 := n0_; have HO_41 := n1_; have HO_50 := n2_; have HB := n3_; clear n0_ n1_ n2_ n3_; (try clear hb); (try clear hb2); (try clear hk); (try clear hi)) | (go_at_call 38; (with_reducible refine (chance_Narrow.calls k3 (rd y643 x20_1) (Go.bits .or .u32 (rd y649 x43_2) 2147483648) (rd y653 x52_3) t659 _ A36.out).mono ?_); rintro e w41 ⟨rfl, hb⟩; have n0_ := Aside0.mk (Kd.R_below (by (with_reducible repeat (first | apply Kd.R_alloc | apply Kd.R_drewN | apply Kd.R_drew)); exact HO_18.out) hb); have n1_ := Aside0.mk (Kd.R_below (by (with_reducible repeat (first | apply Kd.R_alloc | apply Kd.R_drewN | apply Kd.R_drew)); exact HO_41.out) hb); have n2_ := Aside0.mk (Kd.R_below (by (with_reducible repeat (first | apply Kd.R_alloc | apply Kd.R_drewN | apply Kd.R_drew)); exact HO_50.out) hb); have n3_ := Aside0.mk (below_step (bl0 HB.out) hb); clear HO_18; clear HO_41; clear HO_50; clear HB; have HO_18 := n0_; have HO_41 := n1_; have HO_50 := n2_; have HB := n3_; clear n0_ n1_ n2_ n3_; (try clear hb); (try clear hb2); (try clear hk); (try clear hi)) | (go_at_call 39; (with_reducible refine (annealref10_Chance.calls k3 (rd y643 x20_1) (Go.bits .or .u32 (rd y649 x43_2) 2147483648) (rd y653 x52_3) t660 _ A37.out).mono ?_); rintro e w42 ⟨rfl, hb⟩; have n0_ := Aside0.mk (Kd.R_below (by (with_reducible repeat (first | apply Kd.R_alloc | apply Kd.R_drewN | apply Kd.R_drew)); exact HO_18.out) hb); have n1_ := Aside0.mk (Kd.R_below (by (with_reducible repeat (first | apply Kd.R_alloc | apply Kd.R_drewN | apply Kd.R_drew)); exact HO_41.out) hb); have n2_ := Aside0.mk (Kd.R_below (by (with_reducible repeat (first | apply Kd.R_alloc | apply Kd.R_drewN | apply Kd.R_drew)); exact HO_50.out) hb); have n3_ := Aside0.mk (below_step (bl0 HB.out) hb); clear HO_18; clear HO_41; clear HO_50; clear HB; have HO_18 := n0_; have HO_41 := n1_; have HO_50 := n2_; have HB := n3_; clear n0_ n1_ n2_ n3_; (try clear hb); (try clear hb2); (try clear hk); (try clear hi)))
                   go_roundg k3
                   case measure => have := HK1.out; have := HK2.out; have := HK3.out; omega
                   case rel => exact ⟨(wrap64 (x52_3 + 1)), (by first | rfl | (simp; done) | (simp [*]; done) | (congr 1; (try unfold wrap64); omega) | (congr 1; rw [IntKind.wrap_u64]; omega)), H', ⟨by have := HK1.out; have := HK2.out; have := HK3.out; omega⟩, ⟨by (with_reducible repeat (first | apply Kd.R_alloc | apply Kd.R_drewN | apply Kd.R_drew)); exact HO_18.out⟩, ⟨by (with_reducible repeat (first | apply Kd.R_alloc | apply Kd.R_drewN | apply Kd.R_drew)); exact HO_41.out⟩, ⟨by (with_reducible repeat (first | apply Kd.R_alloc | apply Kd.R_drewN | apply Kd.R_drew)); exact HO_50.out⟩, ⟨bl0 HB.out⟩⟩
                  ·rw [if_neg c38] at H
                   have c38b0 : (t659 == t660) = false := beq_eq_false_iff_ne.mpr c38
                   have c38b1 : (t659 != t660) = true := bne_iff_ne.mpr c38
                   obtain rfl := Option.some.inj H
                   have p656 : 0 ≤ (x52_3 : Int) := of_decide_eq_true (by first | (with_reducible assumption) | assumption)
                   have q656 : x52_3 < (y653.length : Int) := of_decide_eq_true (by first | (with_reducible assumption) | assumption)
                   obtain ⟨ad656, e656, hx656_0⟩ := Kd.at_int (Kd.R_reads' HO_50.out).2.2 x52_3 p656 q656
                   cases e656
                   replace p656 := eq_true p656
                   replace q656 := eq_true q656
                   go_wp2_with (first | ((with_reducible refine gate_callee (f := 38) rfl ?_); refine goesL_ (some 59) rfl rfl Try.func38 (by kernel_rfl) rfl #[.int .i64 (rd y643 x20_1), .int .u32 (rd y649 x43_2), .int .u32 (rd y653 x52_3)] rfl gl ?_; (with_reducible refine (chance_Narrow.calls k3 (rd y643 x20_1) (rd y649 x43_2) (rd y653 x52_3) t657 _ A33.out).mono ?_); rintro e w43 ⟨rfl, hb⟩; refine ⟨_, rfl, ?_⟩; have n0_ := Aside0.mk (Kd.R_below (by (with_reducible repeat (first | apply Kd.R_alloc | apply Kd.R_drewN | apply Kd.R_drew)); exact HO_18.out) hb); have n1_ := Aside0.mk (Kd.R_below (by (with_reducible repeat (first | apply Kd.R_alloc | apply Kd.R_drewN | apply Kd.R_drew)); exact HO_41.out) hb); have n2_ := Aside0.mk (Kd.R_below (by (with_reducible repeat (first | apply Kd.R_alloc | apply Kd.R_drewN | apply Kd.R_drew)); exact HO_50.out) hb); have n3_ := Aside0.mk (below_step (bl0 HB.out) hb); clear HO_18; clear HO_41; clear HO_50; clear HB; have HO_18 := n0_; have HO_41 := n1_; have HO_50 := n2_; have HB := n3_; clear n0_ n1_ n2_ n3_; (try clear hb); (try clear hb2); (try clear hk); (try clear hi)) | ((with_reducible refine gate_callee (f := 39) rfl ?_); refine goesL_ (some 63) rfl rfl Try.func39 (by kernel_rfl) rfl #[.int .i64 (rd y643 x20_1), .int .u32 (rd y649 x43_2), .int .u32 (rd y653 x52_3)] rfl gl ?_; (with_reducible refine (annealref10_Chance.calls k3 (rd y643 x20_1) (rd y649 x43_2) (rd y653 x52_3) t658 _ A34.out).mono ?_); rintro e w44 ⟨rfl, hb⟩; refine ⟨_, rfl, ?_⟩; have n0_ := Aside0.mk (Kd.R_below (by (with_reducible repeat (first | apply Kd.R_alloc | apply Kd.R_drewN | apply Kd.R_drew)); exact HO_18.out) hb); have n1_ := Aside0.mk (Kd.R_below (by (with_reducible repeat (first | apply Kd.R_alloc | apply Kd.R_drewN | apply Kd.R_drew)); exact HO_41.out) hb); have n2_ := Aside0.mk (Kd.R_below (by (with_reducible repeat (first | apply Kd.R_alloc | apply Kd.R_drewN | apply Kd.R_drew)); exact HO_50.out) hb); have n3_ := Aside0.mk (below_step (bl0 HB.out) hb); clear HO_18; clear HO_41; clear HO_50; clear HB; have HO_18 := n0_; have HO_41 := n1_; have HO_50 := n2_; have HB := n3_; clear n0_ n1_ n2_ n3_; (try clear hb); (try clear hb2); (try clear hk); (try clear hi)) | (go_at_call 38; (with_reducible refine (chance_Narrow.calls k3 (rd y643 x20_1) (Go.bits .or .u32 (rd y649 x43_2) 2147483648) (rd y653 x52_3) t659 _ A36.out).mono ?_); rintro e w45 ⟨rfl, hb⟩; have n0_ := Aside0.mk (Kd.R_below (by (with_reducible repeat (first | apply Kd.R_alloc | apply Kd.R_drewN | apply Kd.R_drew)); exact HO_18.out) hb); have n1_ := Aside0.mk (Kd.R_below (by (with_reducible repeat (first | apply Kd.R_alloc | apply Kd.R_drewN | apply Kd.R_drew)); exact HO_41.out) hb); have n2_ := Aside0.mk (Kd.R_below (by (with_reducible repeat (first | apply Kd.R_alloc | apply Kd.R_drewN | apply Kd.R_drew)); exact HO_50.out) hb); have n3_ := Aside0.mk (below_step (bl0 HB.out) hb); clear HO_18; clear HO_41; clear HO_50; clear HB; have HO_18 := n0_; have HO_41 := n1_; have HO_50 := n2_; have HB := n3_; clear n0_ n1_ n2_ n3_; (try clear hb); (try clear hb2); (try clear hk); (try clear hi)) | (go_at_call 39; (with_reducible refine (annealref10_Chance.calls k3 (rd y643 x20_1) (Go.bits .or .u32 (rd y649 x43_2) 2147483648) (rd y653 x52_3) t660 _ A37.out).mono ?_); rintro e w46 ⟨rfl, hb⟩; have n0_ := Aside0.mk (Kd.R_below (by (with_reducible repeat (first | apply Kd.R_alloc | apply Kd.R_drewN | apply Kd.R_drew)); exact HO_18.out) hb); have n1_ := Aside0.mk (Kd.R_below (by (with_reducible repeat (first | apply Kd.R_alloc | apply Kd.R_drewN | apply Kd.R_drew)); exact HO_41.out) hb); have n2_ := Aside0.mk (Kd.R_below (by (with_reducible repeat (first | apply Kd.R_alloc | apply Kd.R_drewN | apply Kd.R_drew)); exact HO_50.out) hb); have n3_ := Aside0.mk (below_step (bl0 HB.out) hb); clear HO_18; clear HO_41; clear HO_50; clear HB; have HO_18 := n0_; have HO_41 := n1_; have HO_50 := n2_; have HB := n3_; clear n0_ n1_ n2_ n3_; (try clear hb); (try clear hb2); (try clear hk); (try clear hi)))
                   go_ret
                   exact ⟨by first | rfl | (simp [errW_none, errW_some] <;> rfl) | (simp only [← hji16, ← hji17, ← hji18, ← hji19]; first | rfl | (simp [errW_none, errW_some] <;> rfl)) | (simp [*, errW_none, errW_some] <;> rfl), bl0 HB.out⟩
                 ·rw [if_neg c35] at H
                  have c35b0 : (t657 == t658) = false := beq_eq_false_iff_ne.mpr c35
                  have c35b1 : (t657 != t658) = true := bne_iff_ne.mpr c35
                  obtain rfl := Option.some.inj H
                  have p656 : 0 ≤ (x52_3 : Int) := of_decide_eq_true (by first | (with_reducible assumption) | assumption)
                  have q656 : x52_3 < (y653.length : Int) := of_decide_eq_true (by first | (with_reducible assumption) | assumption)
                  obtain ⟨ad656, e656, hx656_0⟩ := Kd.at_int (Kd.R_reads' HO_50.out).2.2 x52_3 p656 q656
                  cases e656
                  replace p656 := eq_true p656
                  replace q656 := eq_true q656
                  go_wp2_with (first | ((with_reducible refine gate_callee (f := 38) rfl ?_); refine goesL_ (some 59) rfl rfl Try.func38 (by kernel_rfl) rfl #[.int .i64 (rd y643 x20_1), .int .u32 (rd y649 x43_2), .int .u32 (rd y653 x52_3)] rfl gl ?_; (with_reducible refine (chance_Narrow.calls k3 (rd y643 x20_1) (rd y649 x43_2) (rd y653 x52_3) t657 _ A33.out).mono ?_); rintro e w47 ⟨rfl, hb⟩; refine ⟨_, rfl, ?_⟩; have n0_ := Aside0.mk (Kd.R_below (by (with_reducible repeat (first | apply Kd.R_alloc | apply Kd.R_drewN | apply Kd.R_drew)); exact HO_18.out) hb); have n1_ := Aside0.mk (Kd.R_below (by (with_reducible repeat (first | apply Kd.R_alloc | apply Kd.R_drewN | apply Kd.R_drew)); exact HO_41.out) hb); have n2_ := Aside0.mk (Kd.R_below (by (with_reducible repeat (first | apply Kd.R_alloc | apply Kd.R_drewN | apply Kd.R_drew)); exact HO_50.out) hb); have n3_ := Aside0.mk (below_step (bl0 HB.out) hb); clear HO_18; clear HO_41; clear HO_50; clear HB; have HO_18 := n0_; have HO_41 := n1_; have HO_50 := n2_; have HB := n3_; clear n0_ n1_ n2_ n3_; (try clear hb); (try clear hb2); (try clear hk); (try clear hi)) | ((with_reducible refine gate_callee (f := 39) rfl ?_); refine goesL_ (some 63) rfl rfl Try.func39 (by kernel_rfl) rfl #[.int .i64 (rd y643 x20_1), .int .u32 (rd y649 x43_2), .int .u32 (rd y653 x52_3)] rfl gl ?_; (with_reducible refine (annealref10_Chance.calls k3 (rd y643 x20_1) (rd y649 x43_2) (rd y653 x52_3) t658 _ A34.out).mono ?_); rintro e w48 ⟨rfl, hb⟩; refine ⟨_, rfl, ?_⟩; have n0_ := Aside0.mk (Kd.R_below (by (with_reducible repeat (first | apply Kd.R_alloc | apply Kd.R_drewN | apply Kd.R_drew)); exact HO_18.out) hb); have n1_ := Aside0.mk (Kd.R_below (by (with_reducible repeat (first | apply Kd.R_alloc | apply Kd.R_drewN | apply Kd.R_drew)); exact HO_41.out) hb); have n2_ := Aside0.mk (Kd.R_below (by (with_reducible repeat (first | apply Kd.R_alloc | apply Kd.R_drewN | apply Kd.R_drew)); exact HO_50.out) hb); have n3_ := Aside0.mk (below_step (bl0 HB.out) hb); clear HO_18; clear HO_41; clear HO_50; clear HB; have HO_18 := n0_; have HO_41 := n1_; have HO_50 := n2_; have HB := n3_; clear n0_ n1_ n2_ n3_; (try clear hb); (try clear hb2); (try clear hk); (try clear hi)))
                  go_ret
                  exact ⟨by first | rfl | (simp [errW_none, errW_some] <;> rfl) | (simp only [← hji16, ← hji17, ← hji18, ← hji19]; first | rfl | (simp [errW_none, errW_some] <;> rfl)) | (simp [*, errW_none, errW_some] <;> rfl), bl0 HB.out⟩
                ·rw [if_neg c32] at H
                 exact absurd H (by simp)
               ·rw [if_neg c31] at H
                exact absurd H (by simp)
              ·rw [if_neg c30] at H
               have c30b0 : decide (x52_3 < (y653.length : Int)) = false := decide_eq_false c30
               clear c30
               have H' := Aside0.mk H
               clear H
               go_wp2
               go_roundg k3
               case measure => have := HK1.out; have := HK2.out; have := HK3.out; omega
               case rel => exact ⟨(wrap64 (x43_2 + 1)), (by first | rfl | (simp; done) | (simp [*]; done) | (congr 1; (try unfold wrap64); omega) | (congr 1; rw [IntKind.wrap_u64]; omega)), H', ⟨by have := HK1.out; have := HK2.out; have := HK3.out; omega⟩, ⟨by (with_reducible repeat (first | apply Kd.R_alloc | apply Kd.R_drewN | apply Kd.R_drew)); exact HO_18.out⟩, ⟨by (with_reducible repeat (first | apply Kd.R_alloc | apply Kd.R_drewN | apply Kd.R_drew)); exact Kd.R_mono HO_41.out (fun _ hk => trivial)⟩, ⟨bl0 HB.out⟩⟩
           ·rw [if_neg c26] at H
            exact absurd H (by simp)
          ·rw [if_neg c25] at H
           exact absurd H (by simp)
         ·rw [if_neg c24] at H
          have c24b0 : decide (x43_2 < (y649.length : Int)) = false := decide_eq_false c24
          clear c24
          have H' := Aside0.mk H
          clear H
          go_wp2
          (try subst hji19)
          (try subst hji18)
          (try subst hji17)
          (try subst hji16)
          go_roundg k2
          case measure => have := HK1.out; have := HK2.out; omega
          case rel => exact ⟨(wrap64 (x20_1 + 1)), (by first | rfl | (simp; done) | (simp [*]; done) | (congr 1; (try unfold wrap64); omega) | (congr 1; rw [IntKind.wrap_u64]; omega)), H', ⟨by have := HK1.out; have := HK2.out; omega⟩, ⟨by (with_reducible repeat (first | apply Kd.R_alloc | apply Kd.R_drewN | apply Kd.R_drew)); exact HO_18.out⟩, ⟨bl0 HB.out⟩⟩
      ·rw [if_neg c13] at H
       exact absurd H (by simp)
     ·rw [if_neg c12] at H
      exact absurd H (by simp)
    ·rw [if_neg c11] at H
     have c11b0 : decide (x20_1 < (y643.length : Int)) = false := decide_eq_false c11
     clear c11
     obtain rfl := Option.some.inj H
     go_wp2
     go_ret
     exact ⟨by first | rfl | (simp [errW_none, errW_some] <;> rfl) | (simp [*, errW_none, errW_some] <;> rfl), bl0 HB.out⟩
 ·replace c6 := Bool.eq_false_iff.mpr c6
  subst c6
  have H1 : (some false) = some r := by rw [if_neg (show ¬ (false = true) by decide)] at H; exact H
  clear H
  have H := H1
  clear H1
  obtain rfl := Option.some.inj H
  go_enter Try.func11, Try.ntmps11
  go_wp2_with (first | ((with_reducible refine gate_callee (f := 37) rfl ?_); refine goesL_ (some 15) rfl rfl Try.func37 (by kernel_rfl) rfl #[] rfl gl ?_; (with_reducible refine (anneallaw11_known.calls k  false _ A5.out).mono ?_); rintro e w49 ⟨rfl, hb⟩; refine ⟨_, rfl, ?_⟩; have n0_ := Aside0.mk (below_step (bl0 HB.out) hb); clear HB; have HB := n0_; clear n0_; (try clear hb); (try clear hb2); (try clear hk); (try clear hi)))
  go_ret
  exact ⟨by first | rfl | (simp [errW_none, errW_some] <;> rfl) | (simp [*, errW_none, errW_some] <;> rfl), bl0 HB.out⟩

/-- THE ONE PURE STATEMENT of anneallaw11_ChanceTells: yours. -/
def anneallaw11_ChanceTells.Pure : Prop := ∀ (a0 : Int) (a1 : Int) (a2 : Int) (a3 : Int), (Lit.int .i64 a0).wf = true → (Lit.int .u32 a1).wf = true → (Lit.int .u32 a2).wf = true → (Lit.int .u32 a3).wf = true → ∃ k, anneallaw11_ChanceTells.f k a0 a1 a2 a3 = some true
theorem anneallaw11_ChanceTells.walk (P : anneallaw11_ChanceTells.Pure) (a0 : Int) (a1 : Int) (a2 : Int) (a3 : Int) (w : World) (w0 : (Lit.int .i64 a0).wf = true) (w1 : (Lit.int .u32 a1).wf = true) (w2 : (Lit.int .u32 a2).wf = true) (w3 : (Lit.int .u32 a3).wf = true) :
  Calls Try.prog 11 #[.int .i64 a0, .int .u32 a1, .int .u32 a2, .int .u32 a3] w fun e w' => e = .returned (.bool true) ∧ Below w.heap.size w w' := by
 obtain ⟨k, h⟩ := P a0 a1 a2 a3 w0 w1 w2 w3
 refine (anneallaw11_ChanceTells.calls k a0 a1 a2 a3 true w h).mono ?_
 rintro e w' ⟨rfl, hd⟩
 exact ⟨rfl, hd⟩

end Go.Proofs.Ytoljndjpnbdjmaa.P

/- Plain facts about whole numbers in their kinds: wraps, shifts, bits, as numbers from nought on. -/
namespace Go.Proofs.Ytoljndjpnbdjmaa.Num
open Go.RowKit Go.Proofs.YtoljndjpnbdjmaaW.PrintWords Go.Proofs.YtoljndjpnbdjmaaW.PrintLast Go.Proofs.YtoljndjpnbdjmaaW.PrintMore

theorem u64_wrap (n : Int) : IntKind.u64.wrap n = n % 18446744073709551616 := by simp [IntKind.wrap, IntKind.bits, IntKind.signed]
theorem u32_wrap (n : Int) : IntKind.u32.wrap n = n % 4294967296 := by simp [IntKind.wrap, IntKind.bits, IntKind.signed]
theorem i64_wrap (n : Int) : IntKind.i64.wrap n = wrap64 n := by rw [i64_w]
theorem u64_nat (n : Nat) : IntKind.u64.wrap (n : Int) = ((n % 18446744073709551616 : Nat) : Int) := by rw [u64_wrap]; omega
theorem u64_id (n : Nat) (h : n < 18446744073709551616) : IntKind.u64.wrap (n : Int) = (n : Int) := by rw [u64_wrap]; omega
theorem w64_id (n : Int) (h : -9223372036854775808 ≤ n) (h' : n ≤ 9223372036854775807) : wrap64 n = n := by unfold wrap64; omega
theorem wf_u32 {n : Int} (h : (Lit.int .u32 n).wf = true) : 0 ≤ n ∧ n < 4294967296 := by
  simp [Lit.wf, IntKind.min, IntKind.max, IntKind.bits, IntKind.signed] at h; omega
/-- A number from nought on, as one. -/
theorem nat_of {n : Int} (h : 0 ≤ n) : ∃ m : Nat, n = (m : Int) := ⟨n.toNat, by omega⟩

theorem pow_cast (n : Nat) : ((2 ^ n : Nat) : Int) = (2 : Int) ^ n := by simp

theorem shr_nat (k : IntKind) (v n : Nat) (hv : v < 2 ^ k.bits) : shr k (v : Int) (n : Int) = ((v / 2 ^ n : Nat) : Int) := by
  unfold shr
  rw [Int.toNat_natCast]
  by_cases h : n ≤ k.bits
  · rw [Nat.min_eq_left h]; simp
  · rw [Nat.min_eq_right (by omega), Nat.div_eq_of_lt (show v < 2 ^ n from Nat.lt_of_lt_of_le hv (Nat.pow_le_pow_right (by decide) (by omega)))]
    have : v / 2 ^ k.bits = 0 := Nat.div_eq_of_lt hv
    have e : ((v : Int) / 2 ^ k.bits) = ((v / 2 ^ k.bits : Nat) : Int) := by simp
    rw [e, this]
theorem shr_u64 (v n : Nat) (hv : v < 18446744073709551616) : shr .u64 (v : Int) (n : Int) = ((v / 2 ^ n : Nat) : Int) := shr_nat .u64 v n hv
theorem shr_u32 (v n : Nat) (hv : v < 4294967296) : shr .u32 (v : Int) (n : Int) = ((v / 2 ^ n : Nat) : Int) := shr_nat .u32 v n hv
theorem shl_u64 (v n : Nat) : shl .u64 (v : Int) (n : Int) = ((v * 2 ^ n % 18446744073709551616 : Nat) : Int) := by
  unfold shl
  rw [Int.toNat_natCast]
  by_cases h : n ≤ 64
  · rw [show IntKind.u64.bits = 64 from rfl, Nat.min_eq_left h, show (v : Int) * 2 ^ n = ((v * 2 ^ n : Nat) : Int) by simp, u64_nat]
  · have e : (2 : Nat) ^ n = 18446744073709551616 * 2 ^ (n - 64) := by rw [show 18446744073709551616 = 2 ^ 64 from rfl, ← Nat.pow_add]; congr 1; omega
    rw [Nat.min_eq_right (show IntKind.u64.bits ≤ n by show 64 ≤ n; omega), show (v : Int) * 2 ^ IntKind.u64.bits = ((v * 18446744073709551616 : Nat) : Int) by simp [IntKind.bits], u64_nat, Nat.mul_mod_left, e, ← Nat.mul_assoc, Nat.mul_comm v, Nat.mul_assoc, Nat.mul_mod_right]
theorem shl_u32 (v n : Nat) : shl .u32 (v : Int) (n : Int) = ((v * 2 ^ n % 4294967296 : Nat) : Int) := by
  unfold shl
  rw [Int.toNat_natCast]
  by_cases h : n ≤ 32
  · rw [show IntKind.u32.bits = 32 from rfl, Nat.min_eq_left h, show (v : Int) * 2 ^ n = ((v * 2 ^ n : Nat) : Int) by simp, u32_wrap]; omega
  · have e : (2 : Nat) ^ n = 4294967296 * 2 ^ (n - 32) := by rw [show 4294967296 = 2 ^ 32 from rfl, ← Nat.pow_add]; congr 1; omega
    rw [Nat.min_eq_right (show IntKind.u32.bits ≤ n by show 32 ≤ n; omega), show (v : Int) * 2 ^ IntKind.u32.bits = ((v * 4294967296 : Nat) : Int) by simp [IntKind.bits], u32_wrap, e, ← Nat.mul_assoc, Nat.mul_comm v, Nat.mul_assoc, Nat.mul_mod_right]; omega

theorem wraps_u64 (n : Int) (h₀ : 0 ≤ n) (h₁ : n < 2 ^ 64) : IntKind.u64.wrap n = n := by rw [u64_wrap]; omega
theorem wraps_u32 (n : Int) (h₀ : 0 ≤ n) (h₁ : n < 2 ^ 32) : IntKind.u32.wrap n = n := by rw [u32_wrap]; omega
theorem and_u64 (a b : Nat) (ha : a < 18446744073709551616) (hb : b < 18446744073709551616) : Go.bits .and .u64 a b = ((a &&& b : Nat) : Int) := (bits_nat .u64 64 (by decide) wraps_u64 a b ha hb).1
theorem or_u64 (a b : Nat) (ha : a < 18446744073709551616) (hb : b < 18446744073709551616) : Go.bits .or .u64 a b = ((a ||| b : Nat) : Int) := (bits_nat .u64 64 (by decide) wraps_u64 a b ha hb).2
theorem and_u32 (a b : Nat) (ha : a < 4294967296) (hb : b < 4294967296) : Go.bits .and .u32 a b = ((a &&& b : Nat) : Int) := (bits_nat .u32 32 (by decide) wraps_u32 a b ha hb).1
theorem or_u32 (a b : Nat) (ha : a < 4294967296) (hb : b < 4294967296) : Go.bits .or .u32 a b = ((a ||| b : Nat) : Int) := (bits_nat .u32 32 (by decide) wraps_u32 a b ha hb).2
/-- The lowest bits. -/
theorem mask_u64 (a n : Nat) (ha : a < 18446744073709551616) (hn : n ≤ 64) : Go.bits .and .u64 a ((2 ^ n - 1 : Nat) : Int) = ((a % 2 ^ n : Nat) : Int) := by
  have h : 2 ^ n - 1 < 18446744073709551616 := by
    have := Nat.pow_le_pow_right (show 0 < 2 by decide) hn
    have : 0 < 2 ^ n := Nat.two_pow_pos n
    omega
  rw [and_u64 a _ ha h, Nat.and_two_pow_sub_one_eq_mod]
theorem and1_u64 (a : Nat) (ha : a < 18446744073709551616) : Go.bits .and .u64 a 1 = ((a % 2 : Nat) : Int) := mask_u64 a 1 ha (by decide)
/-- Two numbers whose bits lie apart, put together. -/
theorem or_add (a b n : Nat) (ha : a % 2 ^ n = 0) (hb : b < 2 ^ n) : a ||| b = a + b := by
  have hq : a = 2 ^ n * (a / 2 ^ n) := by have := Nat.div_add_mod a (2 ^ n); omega
  have := Nat.two_pow_add_eq_or_of_lt hb (a / 2 ^ n)
  rw [← hq] at this
  exact this.symm
end Go.Proofs.Ytoljndjpnbdjmaa.Num

/- What the functions of layer 1 compute, as plain numbers. -/
namespace Go.Proofs.Ytoljndjpnbdjmaa.BitsF
open Go.RowKit Go.Proofs.Ytoljndjpnbdjmaa.P Go.Proofs.Ytoljndjpnbdjmaa.Num Go.Proofs.YtoljndjpnbdjmaaW.PrintWords Go.Proofs.YtoljndjpnbdjmaaW.PrintLast Go.Proofs.YtoljndjpnbdjmaaW.PrintMore

/-- A shift, and whether ones go out. -/
def shiftN (v : Nat) (n : Int) : Nat × Bool :=
  if 0 ≤ n then (v / 2 ^ n.toNat, decide (v % 2 ^ n.toNat ≠ 0)) else (v * 2 ^ (-n).toNat % 18446744073709551616, decide (18446744073709551616 ≤ v * 2 ^ (-n).toNat))
theorem shiftN_right (v n : Nat) : shiftN v (n : Int) = (v / 2 ^ n, decide (v % 2 ^ n ≠ 0)) := by
  unfold shiftN; rw [if_pos (by omega)]; simp
theorem shiftN_left (v n : Nat) (hv : v < 18446744073709551616) : shiftN v (-(n : Int)) = (v * 2 ^ n % 18446744073709551616, decide (18446744073709551616 ≤ v * 2 ^ n)) := by
  unfold shiftN
  by_cases h : n = 0
  · subst h; simp [Nat.mod_one]; omega
  · rw [if_neg (by omega)]; simp

theorem pow_big {n : Nat} (h : 64 ≤ n) : 18446744073709551616 ≤ 2 ^ n := by
  have : 2 ^ 64 ≤ 2 ^ n := Nat.pow_le_pow_right (by decide) h
  omega
theorem pow_dvd {n : Nat} (h : n ≤ 64) : 2 ^ n * 2 ^ (64 - n) = 18446744073709551616 := by
  rw [← Nat.pow_add, show n + (64 - n) = 64 by omega]
/-- Moved back, a number is as it was just when nothing went out. -/
theorem back_ne (v n : Nat) : decide (v / 2 ^ n * 2 ^ n ≠ v) = decide (v % 2 ^ n ≠ 0) := by
  have := Nat.div_add_mod v (2 ^ n)
  rw [Nat.mul_comm] at this
  congr 1
  apply propext
  constructor <;> intro h <;> omega
theorem left_back (v n : Nat) (hn : n ≤ 64) : decide ((v * 2 ^ n % 18446744073709551616) / 2 ^ n ≠ v) = decide (18446744073709551616 ≤ v * 2 ^ n) := by
  have hp : 0 < 2 ^ n := Nat.two_pow_pos n
  have e : v * 2 ^ n % 18446744073709551616 = (v % 2 ^ (64 - n)) * 2 ^ n := by
    rw [← pow_dvd hn, Nat.mul_comm (2 ^ n), Nat.mul_mod_mul_right]
  rw [e, Nat.mul_div_cancel _ hp]
  congr 1
  apply propext
  have hq : 0 < 2 ^ (64 - n) := Nat.two_pow_pos _
  have d := pow_dvd hn
  constructor
  · intro h
    have : 2 ^ (64 - n) ≤ v := by
      apply Nat.le_of_not_lt; intro hlt; exact h (Nat.mod_eq_of_lt hlt)
    calc 18446744073709551616 = 2 ^ (64 - n) * 2 ^ n := by rw [Nat.mul_comm]; exact d.symm
      _ ≤ v * 2 ^ n := Nat.mul_le_mul_right _ this
  · intro h h'
    have hlt : v < 2 ^ (64 - n) := by rw [← h']; exact Nat.mod_lt _ hq
    have : v * 2 ^ n < 2 ^ (64 - n) * 2 ^ n := Nat.mul_lt_mul_of_pos_right hlt hp
    rw [Nat.mul_comm (2 ^ (64 - n)), d] at this
    omega
theorem bne_cast (a b : Nat) : (((a : Int) != (b : Int)) : Bool) = decide (a ≠ b) := by
  by_cases h : a = b
  · subst h; simp
  · rw [bne_iff_ne.mpr (by omega)]; simp [h]

theorem shift_f (v : Nat) (hv : v < 18446744073709551616) (n : Int) (h1 : -9223372036854775808 ≤ n) (h2 : n ≤ 9223372036854775807) (k : Nat) :
    bits_Shift.f (k + 1) (v : Int) n = some ((((shiftN v n).1 : Nat) : Int), (shiftN v n).2) := by
  unfold bits_Shift.f
  by_cases c : n ≥ 64
  · rw [if_pos c]
    simp only [bits_Shift.j0, if_true]
    obtain ⟨m, rfl⟩ := nat_of (show 0 ≤ n by omega)
    rw [shiftN_right]
    have := pow_big (show 64 ≤ m by omega)
    rw [Nat.div_eq_of_lt (by omega), Nat.mod_eq_of_lt (by omega), ← bne_cast]; rfl
  · rw [if_neg c]
    by_cases c' : n ≤ -64
    · rw [decide_eq_true c']
      simp only [bits_Shift.j0, if_true]
      obtain ⟨m, hm⟩ := nat_of (show 0 ≤ -n by omega)
      obtain rfl : n = -(m : Int) := by omega
      rw [shiftN_left _ _ hv]
      have hb := pow_big (show 64 ≤ m by omega)
      have e : (2 : Nat) ^ m = 18446744073709551616 * 2 ^ (m - 64) := by rw [show 18446744073709551616 = 2 ^ 64 from rfl, ← Nat.pow_add]; congr 1; omega
      have e1 : v * 2 ^ m % 18446744073709551616 = 0 := by rw [e, ← Nat.mul_assoc, Nat.mul_comm v, Nat.mul_assoc, Nat.mul_mod_right]
      have e2 : decide (18446744073709551616 ≤ v * 2 ^ m) = decide (v ≠ 0) := by
        congr 1; apply propext
        constructor
        · intro h h0; subst h0; omega
        · intro h
          calc 18446744073709551616 ≤ 2 ^ m := hb
            _ = 1 * 2 ^ m := (Nat.one_mul _).symm
            _ ≤ v * 2 ^ m := Nat.mul_le_mul_right _ (by omega)
      simp only [e1, e2]
      rw [← bne_cast]; rfl
    · rw [decide_eq_false c']
      simp only [bits_Shift.j0, Bool.false_eq_true, if_false]
      by_cases c0 : n ≥ 0
      · rw [if_pos c0]
        obtain ⟨m, rfl⟩ := nat_of c0
        rw [u64_id _ (by omega), if_pos (by omega), shr_u64 _ _ hv, shl_u64, bne_cast, shiftN_right]
        have hle : v / 2 ^ m * 2 ^ m ≤ v := Nat.div_mul_le_self _ _
        rw [Nat.mod_eq_of_lt (by omega), back_ne]
      · rw [if_neg c0]
        obtain ⟨m, hm⟩ := nat_of (show 0 ≤ -n by omega)
        obtain rfl : n = -(m : Int) := by omega
        rw [Int.neg_neg, w64_id _ (by omega) (by omega), u64_id _ (by omega), if_pos (by omega), shl_u64, shr_u64 _ _ (Nat.mod_lt _ (by decide)), bne_cast, shiftN_left _ _ hv, left_back _ _ (by omega)]
theorem shift_ev (v : Nat) (hv : v < 18446744073709551616) (n : Int) (h1 : -9223372036854775808 ≤ n) (h2 : n ≤ 9223372036854775807) :
    Ev (fun k => bits_Shift.f k (v : Int) n) ((((shiftN v n).1 : Nat) : Int), (shiftN v n).2) := Ev.of (bits_Shift.mono _ _) (shift_f v hv n h1 h2 0)

/-- How many bits a number has. -/
def lenN (v : Nat) : Nat := if v = 0 then 0 else v.log2 + 1
theorem lenN_lt (v : Nat) : v < 2 ^ lenN v := by
  unfold lenN
  by_cases h : v = 0
  · subst h; decide
  · rw [if_neg h]; exact (Nat.log2_lt h).mp (Nat.lt_succ_self _)
theorem lenN_le (v : Nat) (h : v ≠ 0) : 2 ^ (lenN v - 1) ≤ v := by
  unfold lenN
  rw [if_neg h, Nat.add_sub_cancel]
  exact (Nat.le_log2 h).mp (Nat.le_refl _)
theorem lenN_pos (v : Nat) (h : v ≠ 0) : 1 ≤ lenN v := by unfold lenN; rw [if_neg h]; omega
theorem lenN_of (v n : Nat) (h : v < 2 ^ n) (h' : n = 0 ∨ 2 ^ (n - 1) ≤ v) : lenN v = n := by
  by_cases hv : v = 0
  · subst hv
    rcases h' with h' | h'
    · subst h'; rfl
    · have := Nat.two_pow_pos (n - 1); omega
  · have hn : n ≠ 0 := by intro e; subst e; simp at h; omega
    have h' := h'.resolve_left hn
    unfold lenN; rw [if_neg hv]
    have a := (Nat.log2_lt hv).mpr h
    have b := (Nat.le_log2 hv).mpr h'
    omega
theorem lenN_bound (v n : Nat) (h : v < 2 ^ n) : lenN v ≤ n := by
  by_cases hv : v = 0
  · subst hv; exact Nat.zero_le _
  · unfold lenN; rw [if_neg hv]; exact (Nat.log2_lt hv).mpr h
theorem lenN_ge (v n : Nat) (h : 2 ^ n ≤ v) : n < lenN v := by
  have hv : v ≠ 0 := by have := Nat.two_pow_pos n; omega
  unfold lenN; rw [if_neg hv]; have := (Nat.le_log2 hv).mpr h; omega
theorem lenN_div (v n : Nat) (h : 2 ^ n ≤ v) : lenN (v / 2 ^ n) + n = lenN v := by
  have hp := Nat.two_pow_pos n
  have hq : v / 2 ^ n ≠ 0 := by have := Nat.div_pos h hp; omega
  symm
  apply lenN_of
  · rw [Nat.pow_add, Nat.mul_comm]
    exact Nat.lt_mul_of_div_lt (lenN_lt _) hp |> fun z => by rw [Nat.mul_comm] at z; exact z
  · right
    have h1 := lenN_pos _ hq
    rw [show lenN (v / 2 ^ n) + n - 1 = lenN (v / 2 ^ n) - 1 + n by omega, Nat.pow_add]
    exact (Nat.le_div_iff_mul_le hp).mp (lenN_le _ hq)
theorem lenN_mul (v n : Nat) (h : v ≠ 0) : lenN (v * 2 ^ n) = lenN v + n := by
  have hp := Nat.two_pow_pos n
  have := lenN_div (v * 2 ^ n) n (Nat.le_mul_of_pos_left _ (by omega))
  rw [Nat.mul_div_cancel _ hp] at this
  omega
theorem lenN_half (v : Nat) (h : v ≠ 0) : lenN v = lenN (v / 2) + 1 := by
  by_cases h1 : v = 1
  · subst h1; decide
  · have := lenN_div v 1 (by omega)
    rw [Nat.pow_one] at this; omega
theorem tab_all : ∀ i : Fin 256, bt (⟨#[0, 1, 2, 2, 3, 3, 3, 3, 4, 4, 4, 4, 4, 4, 4, 4, 5, 5, 5, 5, 5, 5, 5, 5, 5, 5, 5, 5, 5, 5, 5, 5, 6, 6, 6, 6, 6, 6, 6, 6, 6, 6, 6, 6, 6, 6, 6, 6, 6, 6, 6, 6, 6, 6, 6, 6, 6, 6, 6, 6, 6, 6, 6, 6, 7, 7, 7, 7, 7, 7, 7, 7, 7, 7, 7, 7, 7, 7, 7, 7, 7, 7, 7, 7, 7, 7, 7, 7, 7, 7, 7, 7, 7, 7, 7, 7, 7, 7, 7, 7, 7, 7, 7, 7, 7, 7, 7, 7, 7, 7, 7, 7, 7, 7, 7, 7, 7, 7, 7, 7, 7, 7, 7, 7, 7, 7, 7, 7, 8, 8, 8, 8, 8, 8, 8, 8, 8, 8, 8, 8, 8, 8, 8, 8, 8, 8, 8, 8, 8, 8, 8, 8, 8, 8, 8, 8, 8, 8, 8, 8, 8, 8, 8, 8, 8, 8, 8, 8, 8, 8, 8, 8, 8, 8, 8, 8, 8, 8, 8, 8, 8, 8, 8, 8, 8, 8, 8, 8, 8, 8, 8, 8, 8, 8, 8, 8, 8, 8, 8, 8, 8, 8, 8, 8, 8, 8, 8, 8, 8, 8, 8, 8, 8, 8, 8, 8, 8, 8, 8, 8, 8, 8, 8, 8, 8, 8, 8, 8, 8, 8, 8, 8, 8, 8, 8, 8, 8, 8, 8, 8, 8, 8, 8, 8, 8, 8, 8, 8, 8, 8, 8, 8, 8, 8, 8, 8]⟩ : ByteArray) ((i.val : Nat) : Int) = (lenN i.val : Int) := by decide +kernel
theorem tab_len (i : Nat) (h : i < 256) : bt (⟨#[0, 1, 2, 2, 3, 3, 3, 3, 4, 4, 4, 4, 4, 4, 4, 4, 5, 5, 5, 5, 5, 5, 5, 5, 5, 5, 5, 5, 5, 5, 5, 5, 6, 6, 6, 6, 6, 6, 6, 6, 6, 6, 6, 6, 6, 6, 6, 6, 6, 6, 6, 6, 6, 6, 6, 6, 6, 6, 6, 6, 6, 6, 6, 6, 7, 7, 7, 7, 7, 7, 7, 7, 7, 7, 7, 7, 7, 7, 7, 7, 7, 7, 7, 7, 7, 7, 7, 7, 7, 7, 7, 7, 7, 7, 7, 7, 7, 7, 7, 7, 7, 7, 7, 7, 7, 7, 7, 7, 7, 7, 7, 7, 7, 7, 7, 7, 7, 7, 7, 7, 7, 7, 7, 7, 7, 7, 7, 7, 8, 8, 8, 8, 8, 8, 8, 8, 8, 8, 8, 8, 8, 8, 8, 8, 8, 8, 8, 8, 8, 8, 8, 8, 8, 8, 8, 8, 8, 8, 8, 8, 8, 8, 8, 8, 8, 8, 8, 8, 8, 8, 8, 8, 8, 8, 8, 8, 8, 8, 8, 8, 8, 8, 8, 8, 8, 8, 8, 8, 8, 8, 8, 8, 8, 8, 8, 8, 8, 8, 8, 8, 8, 8, 8, 8, 8, 8, 8, 8, 8, 8, 8, 8, 8, 8, 8, 8, 8, 8, 8, 8, 8, 8, 8, 8, 8, 8, 8, 8, 8, 8, 8, 8, 8, 8, 8, 8, 8, 8, 8, 8, 8, 8, 8, 8, 8, 8, 8, 8, 8, 8, 8, 8, 8, 8, 8, 8]⟩ : ByteArray) (i : Int) = (lenN i : Int) := tab_all ⟨i, h⟩
theorem lenN_small (v : Nat) (h : v < 18446744073709551616) : lenN v ≤ 64 := lenN_bound v 64 h
set_option maxRecDepth 100000 in
theorem len_j0 (k x c : Nat) (hx : x < 4294967296) (hc : c ≤ 64) : bits_Len64.j0 (k + 1) (x : Int) (c : Int) = some ((c + lenN x : Nat) : Int) := by
  rw [bits_Len64.j0]
  have e1 : (x : Int) / 65536 = ((x / 65536 : Nat) : Int) := by omega
  have e2 : (x : Int) / 65536 / 256 = ((x / 65536 / 256 : Nat) : Int) := by omega
  have e3 : (x : Int) / 256 = ((x / 256 : Nat) : Int) := by omega
  by_cases c1 : (x : Int) ≥ 65536
  · rw [if_pos c1]
    by_cases c2 : (x : Int) / 65536 ≥ 256
    · rw [if_pos c2, e2, show ((x / 65536 / 256 : Nat) : Int) % 256 = ((x / 65536 / 256 : Nat) : Int) by omega, if_pos (by omega), if_pos (by omega), tab_len _ (by omega)]
      have h := lenN_div x 24 (by omega)
      rw [show x / 2 ^ 24 = x / 65536 / 256 by omega] at h
      have b := lenN_bound (x / 65536 / 256) 8 (by omega)
      rw [w64_id (c + 16) (by omega) (by omega), w64_id (c + 16 + 8) (by omega) (by omega), w64_id (lenN _) (by omega) (by omega), w64_id _ (by omega) (by omega)]
      congr 1; omega
    · rw [if_neg c2, e1, show ((x / 65536 : Nat) : Int) % 256 = ((x / 65536 : Nat) : Int) by omega, if_pos (by omega), if_pos (by omega), tab_len _ (by omega)]
      have h := lenN_div x 16 (by omega)
      rw [show x / 2 ^ 16 = x / 65536 by omega] at h
      have b := lenN_bound (x / 65536) 8 (by omega)
      rw [w64_id (c + 16) (by omega) (by omega), w64_id (lenN _) (by omega) (by omega), w64_id _ (by omega) (by omega)]
      congr 1; omega
  · rw [if_neg c1]
    by_cases c2 : (x : Int) ≥ 256
    · rw [if_pos c2, e3, show ((x / 256 : Nat) : Int) % 256 = ((x / 256 : Nat) : Int) by omega, if_pos (by omega), if_pos (by omega), tab_len _ (by omega)]
      have h := lenN_div x 8 (by omega)
      rw [show x / 2 ^ 8 = x / 256 by omega] at h
      have b := lenN_bound (x / 256) 8 (by omega)
      rw [w64_id (c + 8) (by omega) (by omega), w64_id (lenN _) (by omega) (by omega), w64_id _ (by omega) (by omega)]
      congr 1; omega
    · rw [if_neg c2, show (x : Int) % 256 = (x : Int) by omega, if_pos (by omega), if_pos (by omega), tab_len _ (by omega)]
      have b := lenN_bound x 8 (by omega)
      rw [w64_id (lenN _) (by omega) (by omega), w64_id _ (by omega) (by omega)]
      congr 1
theorem len64_f (k v : Nat) (hv : v < 18446744073709551616) : bits_Len64.f (k + 1) (v : Int) = some (lenN v : Int) := by
  unfold bits_Len64.f
  by_cases c : (v : Int) ≥ 4294967296
  · rw [if_pos c, show (v : Int) / 4294967296 = ((v / 4294967296 : Nat) : Int) by omega]
    have h := len_j0 k (v / 4294967296) 32 (by omega) (by decide)
    have e := lenN_div v 32 (by omega)
    rw [show v / 2 ^ 32 = v / 4294967296 by omega] at e
    rw [show ((32 : Nat) : Int) = 32 from rfl] at h
    rw [h]; congr 1; omega
  · rw [if_neg c]
    have h := len_j0 k v 0 (by omega) (by decide)
    rw [show ((0 : Nat) : Int) = 0 from rfl] at h
    rw [h, Nat.zero_add]
theorem len_f (k v : Nat) (hv : v < 18446744073709551616) : bits_Len.f (k + 1) (v : Int) = some (lenN v : Int) := by
  unfold bits_Len.f; rw [len64_f k v hv]; rfl
/-- The lowest bits, n of them. -/
def cutN (v : Nat) (n : Int) : Nat := if n < 1 then 0 else v % 2 ^ n.toNat
theorem cut_mask (v n : Nat) (hv : v < 18446744073709551616) (hn : n < 64) : Go.bits .and .u64 (v : Int) (IntKind.u64.wrap (shl .u64 1 (n : Int) - 1)) = ((v % 2 ^ n : Nat) : Int) := by
  have hp : 2 ^ n ≤ 2 ^ 63 := Nat.pow_le_pow_right (by decide) (by omega)
  have h0 := Nat.two_pow_pos n
  rw [show (1 : Int) = ((1 : Nat) : Int) from rfl, shl_u64, Nat.one_mul, Nat.mod_eq_of_lt (by omega), show ((2 ^ n : Nat) : Int) - ((1 : Nat) : Int) = ((2 ^ n - 1 : Nat) : Int) by omega, u64_id _ (by omega), mask_u64 _ _ hv (by omega)]
theorem cut_f (v : Nat) (hv : v < 18446744073709551616) (n : Int) (h2 : n ≤ 9223372036854775807) : bits_Cut.f (v : Int) n = some (cutN v n : Int) := by
  unfold bits_Cut.f cutN
  by_cases c : n < 1
  · rw [if_pos c, if_pos c]; rfl
  · rw [if_neg c, if_neg c]
    obtain ⟨m, rfl⟩ := nat_of (show 0 ≤ n by omega)
    by_cases c' : (m : Int) ≥ 64
    · rw [if_pos c', Int.toNat_natCast, Nat.mod_eq_of_lt (by have := pow_big (show 64 ≤ m by omega); omega)]
    · rw [if_neg c', u64_id _ (by omega), if_pos (by omega), cut_mask _ _ hv (by omega), Int.toNat_natCast]
end Go.Proofs.Ytoljndjpnbdjmaa.BitsF

/- What the program's package format computes, as plain numbers: widths, parts, classes, whole numbers and exponents. -/
namespace Go.Proofs.Ytoljndjpnbdjmaa.Fmt
open Go.RowKit Go.Proofs.Ytoljndjpnbdjmaa.P Go.Proofs.Ytoljndjpnbdjmaa.Num Go.Proofs.Ytoljndjpnbdjmaa.BitsF Go.Proofs.YtoljndjpnbdjmaaW.PrintWords Go.Proofs.YtoljndjpnbdjmaaW.PrintLast Go.Proofs.YtoljndjpnbdjmaaW.PrintMore

/-- A format's exponent's bits, and its fraction's. -/
def fe (f : Int) : Nat := if f = 0 then 5 else 8
def fm (f : Int) : Nat := if f = 0 then 10 else if f = 1 then 7 else 23
theorem fcases (f : Int) : (fe f = 5 ∧ fm f = 10) ∨ (fe f = 8 ∧ fm f = 7) ∨ (fe f = 8 ∧ fm f = 23) := by
  unfold fe fm
  split
  · exact .inl ⟨rfl, rfl⟩
  · split
    · exact .inr (.inl ⟨rfl, rfl⟩)
    · exact .inr (.inr ⟨rfl, rfl⟩)
theorem fbounds (f : Int) : 5 ≤ fe f ∧ fe f ≤ 8 ∧ 7 ≤ fm f ∧ fm f ≤ 23 ∧ fe f + fm f ≤ 31 := by
  rcases fcases f with ⟨h1, h2⟩ | ⟨h1, h2⟩ | ⟨h1, h2⟩ <;> rw [h1, h2] <;> decide
/-- The exponent, as it stands, of what isn't finite; the exponent of the least normal number. -/
def topN (f : Int) : Nat := 2 ^ fe f - 1
def leastN (f : Int) : Int := 2 - 2 ^ (fe f - 1)
theorem least_cases (f : Int) : leastN f = -14 ∨ leastN f = -126 := by
  unfold leastN
  rcases fcases f with ⟨h1, _⟩ | ⟨h1, _⟩ | ⟨h1, _⟩ <;> rw [h1] <;> simp
theorem top_cases (f : Int) : topN f = 31 ∨ topN f = 255 := by
  unfold topN
  rcases fcases f with ⟨h1, _⟩ | ⟨h1, _⟩ | ⟨h1, _⟩ <;> rw [h1] <;> simp
theorem top_least (f : Int) : (topN f : Int) = 3 - 2 * leastN f := by
  unfold topN leastN
  rcases fcases f with ⟨h1, _⟩ | ⟨h1, _⟩ | ⟨h1, _⟩ <;> rw [h1] <;> decide
def signN (f : Int) (neg : Bool) : Nat := if neg then 2 ^ (fe f + fm f) else 0
def negN (f : Int) (v : Nat) : Bool := decide (v / 2 ^ (fe f + fm f) % 2 = 1)
def expN (f : Int) (v : Nat) : Nat := v / 2 ^ fm f % 2 ^ fe f
def fracN (f : Int) (v : Nat) : Nat := v % 2 ^ fm f
theorem exp_le (f : Int) (v : Nat) : expN f v ≤ topN f := by
  unfold expN topN
  have := Nat.mod_lt (v / 2 ^ fm f) (Nat.two_pow_pos (fe f))
  omega
theorem frac_lt (f : Int) (v : Nat) : fracN f v < 2 ^ fm f := Nat.mod_lt _ (Nat.two_pow_pos _)

theorem wu (n : Nat) (h : n < 9223372036854775808) : IntKind.u64.wrap (wrap64 (n : Int)) = (n : Int) := by rw [w64_id _ (by omega) (by omega), u64_id _ (by omega)]
theorem pow_le31 {n : Nat} (h : n ≤ 31) : 2 ^ n ≤ 2147483648 := Nat.pow_le_pow_right (show 0 < 2 by decide) h
theorem pow_le32 {n : Nat} (h : n ≤ 32) : 2 ^ n ≤ 4294967296 := Nat.pow_le_pow_right (show 0 < 2 by decide) h
theorem one_shl (n : Nat) (h : n ≤ 31) : shl .u32 1 (n : Int) = ((2 ^ n : Nat) : Int) := by
  have := pow_le31 h
  rw [show (1 : Int) = ((1 : Nat) : Int) from rfl, shl_u32, Nat.one_mul, Nat.mod_eq_of_lt (by omega)]
theorem mask_u32 (a n : Nat) (ha : a < 4294967296) (hn : n ≤ 31) : Go.bits .and .u32 (a : Int) ((shl .u32 1 (n : Int) - 1) % 4294967296) = ((a % 2 ^ n : Nat) : Int) := by
  have h1 := pow_le31 hn
  have h0 := Nat.two_pow_pos n
  rw [one_shl n hn, show (((2 ^ n : Nat) : Int) - 1) % 4294967296 = ((2 ^ n - 1 : Nat) : Int) by omega, and_u32 _ _ ha (by omega), Nat.and_two_pow_sub_one_eq_mod]
theorem and1_u32 (a : Nat) (ha : a < 4294967296) : Go.bits .and .u32 (a : Int) 1 = ((a % 2 : Nat) : Int) := by
  rw [show (1 : Int) = ((2 ^ 1 - 1 : Nat) : Int) from rfl, and_u32 _ _ ha (by decide), Nat.and_two_pow_sub_one_eq_mod]
theorem one_shl_i64 (n : Nat) (h : n ≤ 31) : shl .i64 1 (n : Int) = ((2 ^ n : Nat) : Int) := by
  have := pow_le31 h
  have := Nat.two_pow_pos n
  unfold shl
  rw [Int.toNat_natCast, Nat.min_eq_left (show n ≤ IntKind.i64.bits by show n ≤ 64; omega), i64_wrap, Int.one_mul, ← pow_cast, w64_id _ (by omega) (by omega)]

theorem widths_f (f : Int) : format_Widths.f f = some ((fe f : Int), (fm f : Int)) := by
  unfold format_Widths.f fe fm
  by_cases h : f = 0
  · subst h; rfl
  · rw [if_neg h, if_neg h, if_neg h]
    by_cases h1 : f = 1
    · subst h1; rfl
    · rw [if_neg h1, if_neg h1]; rfl
/-- A number put together of its parts. -/
def joinN (f : Int) (neg : Bool) (at_ frac : Nat) : Nat := at_ * 2 ^ fm f + frac + signN f neg
theorem join_f (f : Int) (neg : Bool) (a c : Nat) (ha : a ≤ topN f) (hc : c < 2 ^ fm f) : format_Join.f f neg (a : Int) (c : Int) = some (joinN f neg a c : Int) := by
  unfold format_Join.f joinN signN
  rw [widths_f]
  obtain ⟨b1, b2, b3, b4, b5⟩ := fbounds f
  have hp := Nat.two_pow_pos (fm f)
  have hle : a * 2 ^ fm f + 2 ^ fm f ≤ 2 ^ (fe f + fm f) := by
    rw [Nat.pow_add, ← Nat.succ_mul]
    apply Nat.mul_le_mul_right
    unfold topN at ha
    have := Nat.two_pow_pos (fe f); omega
  have h31 := pow_le31 b5
  have e1 : shl .u32 ((a : Int) % 4294967296) (fm f : Int) = ((a * 2 ^ fm f : Nat) : Int) := by
    have : a < 4294967296 := by have := top_cases f; omega
    rw [show (a : Int) % 4294967296 = ((a : Nat) : Int) by omega, shl_u32, Nat.mod_eq_of_lt (by omega)]
  have e2 : Go.bits .or .u32 ((a * 2 ^ fm f : Nat) : Int) (c : Int) = ((a * 2 ^ fm f + c : Nat) : Int) := by
    rw [or_u32 _ _ (by omega) (by omega), or_add _ _ (fm f) (Nat.mul_mod_left ..) hc]
  simp only [Option.bind_some]
  rw [u64_id (fm f) (by omega), if_pos (by omega), e1, e2]
  cases neg
  · simp
  · simp only [if_true]
    rw [show (fe f : Int) + (fm f : Int) = ((fe f + fm f : Nat) : Int) by omega, wu _ (by omega), if_pos (by omega), one_shl _ b5, or_u32 _ _ (by omega) (by omega), Nat.or_comm, or_add _ (a * 2 ^ fm f + c) (fe f + fm f) (by simp) (by omega)]
    congr 2; omega
theorem top_f (f : Int) : format_Top.f f = some (topN f : Int) := by
  unfold format_Top.f topN
  rw [widths_f]
  obtain ⟨b1, b2, b3, b4, b5⟩ := fbounds f
  have hp := Nat.two_pow_pos (fe f)
  have h31 := pow_le31 (show fe f ≤ 31 by omega)
  simp only [Option.bind_some]
  rw [u64_id (fe f) (by omega), if_pos (by omega), one_shl_i64 _ (by omega), w64_id _ (by omega) (by omega)]
  congr 1; omega
theorem least_f (f : Int) : format_Least.f f = some (leastN f) := by
  unfold format_Least.f leastN
  rw [widths_f]
  obtain ⟨b1, b2, b3, b4, b5⟩ := fbounds f
  have h31 := pow_le31 (show fe f - 1 ≤ 31 by omega)
  have h0 := Nat.two_pow_pos (fe f - 1)
  simp only [Option.bind_some]
  rw [show (fe f : Int) - 1 = ((fe f - 1 : Nat) : Int) by omega, wu _ (by omega), if_pos (by omega), one_shl_i64 _ (by omega), w64_id _ (by omega) (by omega), pow_cast]
theorem zero_f (f : Int) (neg : Bool) : format_Zero.f f neg = some (signN f neg : Int) := by
  unfold format_Zero.f
  have h := join_f f neg 0 0 (Nat.zero_le _) (Nat.two_pow_pos _)
  rw [show ((0 : Nat) : Int) = 0 from rfl] at h
  rw [h]; unfold joinN; simp
def infN (f : Int) (neg : Bool) : Nat := topN f * 2 ^ fm f + signN f neg
theorem inf_f (f : Int) (neg : Bool) : format_Inf.f f neg = some (infN f neg : Int) := by
  unfold format_Inf.f infN
  have h := join_f f neg (topN f) 0 (Nat.le_refl _) (Nat.two_pow_pos _)
  rw [show ((0 : Nat) : Int) = 0 from rfl] at h
  rw [top_f]; simp only [Option.bind_some]; rw [h]; unfold joinN; simp
def greatN (f : Int) (neg : Bool) : Nat := topN f * 2 ^ fm f - 1 + signN f neg
theorem greatest_f (f : Int) (neg : Bool) : format_Greatest.f f neg = some (greatN f neg : Int) := by
  unfold format_Greatest.f greatN
  obtain ⟨b1, b2, b3, b4, b5⟩ := fbounds f
  have hp := Nat.two_pow_pos (fm f)
  have h31 := pow_le31 (show fm f ≤ 31 by omega)
  have ht := top_cases f
  rw [widths_f, top_f]
  simp only [Option.bind_some]
  rw [u64_id (fm f) (by omega), if_pos (by omega), w64_id _ (by omega) (by omega), one_shl _ (by omega), show (((2 ^ fm f : Nat) : Int) - 1) % 4294967296 = ((2 ^ fm f - 1 : Nat) : Int) by omega, show (topN f : Int) - 1 = ((topN f - 1 : Nat) : Int) by omega, join_f f neg _ _ (by omega) (by omega)]
  simp only [Option.bind_some]
  unfold joinN
  congr 2
  have : topN f * 2 ^ fm f = (topN f - 1) * 2 ^ fm f + 2 ^ fm f := by rw [← Nat.succ_mul]; congr 1; omega
  omega
end Go.Proofs.Ytoljndjpnbdjmaa.Fmt
