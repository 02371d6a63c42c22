import Derived.Test.YtlkjoibpfhjhcaaQseZ
import Derived.Test.YtlkjoibpfhjhcaaQseM1
import Derived.Test.YtlkjoibpfhjhcaaQseM4
import Derived.Test.YtlkjoibpfhjhcaaQsePx23
-- Printed by a program of this session's out of Lean's print of the translation; Lean checks it.
namespace Go.Proofs.Ytlkjoibpfhjhcaa.P
open Go.RowKit Go.Proofs.YtlkjoibpfhjhcaaW.PrintWords Go.Proofs.YtlkjoibpfhjhcaaW.PrintLast Go.Proofs.YtlkjoibpfhjhcaaW.PrintMore
attribute [local go_sem] max2_int min2_int max_two min_two max_three min_three max_four min_four   -- for this text's walks alone
set_option linter.unusedVariables false
set_option linter.unusedSimpArgs false

/-! ### annealref1_Scale: function 18 -/
def annealref1_Scale.f (k : Nat) (a0 : Int) (a1 : Int) (a2 : Int) (a3 : Int) : Option (Int × Bool × Bool × Bool × Bool × Bool) := (annealref1_nans.f k a0 (([a2] : List Int))).bind fun bt417 => (if bt417.1 = true then ((annealref1_Nan.f a0).bind fun t419 => (some (t419, bt417.2, false, false, false, false))) else ((annealref1_Finite.f k a0 a2).bind fun t420 => (if t420 = true then ((annealref1_Unpack.f k a0 a2).bind fun bt421 => ((annealref1_Pack.f k a0 a1 bt421.1 (wrap64 (bt421.2.1 + (mn (mx a3 (-5000)) 5000))) bt421.2.2 false).bind fun bt424 => (some (bt424.1, bt424.2.1, bt424.2.2.1, bt424.2.2.2.1, bt424.2.2.2.2.1, bt424.2.2.2.2.2)))) else ((annealref1_Mask.f a0).bind fun t430 => (some (Go.bits .and .u32 a2 t430, false, false, false, false, false))))))
set_option maxHeartbeats 8000000 in
set_option maxRecDepth 100000 in
theorem annealref1_Scale.calls (k : Nat) (a0 : Int) (a1 : Int) (a2 : Int) (a3 : Int) (r1 : Int) (r2 : Bool) (r3 : Bool) (r4 : Bool) (r5 : Bool) (r6 : Bool) (w : World) (h : annealref1_Scale.f k a0 a1 a2 a3 = some (r1, r2, r3, r4, r5, r6)) :
  Calls Try.prog 18 #[.int .i64 a0, .int .i64 a1, .int .u32 a2, .int .i64 a3] w fun e w' => e = .returned (.tuple #[.int .u32 r1, .agg #[.bool r2, .bool r3, .bool r4, .bool r5, .bool r6]]) ∧ Below w.heap.size w w' := by
 have hu27 := Try.underlying27
 have HB := Aside0.mk (Below.refl w.heap.size w)
 have H : ((annealref1_nans.f k a0 (([a2] : List Int))).bind fun bt417 => (if bt417.1 = true then ((annealref1_Nan.f a0).bind fun t419 => (some (t419, bt417.2, false, false, false, false))) else ((annealref1_Finite.f k a0 a2).bind fun t420 => (if t420 = true then ((annealref1_Unpack.f k a0 a2).bind fun bt421 => ((annealref1_Pack.f k a0 a1 bt421.1 (wrap64 (bt421.2.1 + (mn (mx a3 (-5000)) 5000))) bt421.2.2 false).bind fun bt424 => (some (bt424.1, bt424.2.1, bt424.2.2.1, bt424.2.2.2.1, bt424.2.2.2.2.1, bt424.2.2.2.2.2)))) else ((annealref1_Mask.f a0).bind fun t430 => (some (Go.bits .and .u32 a2 t430, false, false, false, false, false))))))) = some (r1, r2, r3, r4, r5, r6) := h
 clear h
 obtain ⟨y414, hy414⟩ : ∃ y_ : List Int, y_ = (([a2] : List Int)) := ⟨_, rfl⟩
 replace H : ((annealref1_nans.f k a0 y414).bind fun bt417 => (if bt417.1 = true then ((annealref1_Nan.f a0).bind fun t419 => (some (t419, bt417.2, false, false, false, false))) else ((annealref1_Finite.f k a0 a2).bind fun t420 => (if t420 = true then ((annealref1_Unpack.f k a0 a2).bind fun bt421 => ((annealref1_Pack.f k a0 a1 bt421.1 (wrap64 (bt421.2.1 + (mn (mx a3 (-5000)) 5000))) bt421.2.2 false).bind fun bt424 => (some (bt424.1, bt424.2.1, bt424.2.2.1, bt424.2.2.2.1, bt424.2.2.2.2.1, bt424.2.2.2.2.2)))) else ((annealref1_Mask.f a0).bind fun t430 => (some (Go.bits .and .u32 a2 t430, false, false, false, false, false))))))) = some (r1, r2, r3, r4, r5, r6) := by first | (rw [hy414]; with_reducible exact H) | (have H2_ := (Option.bind_some _ _).symm.trans H; rw [hy414]; with_reducible exact H2_) | (have H2_ := (Option.bind_some _ _).symm.trans H; with_reducible exact H2_) | with_reducible exact H | (rw [hy414]; exact H) | exact H
 have Ny414 := Aside0.mk hy414
 clear hy414
 replace H := Option.bind_eq_some_iff.mp H
 obtain ⟨⟨t417, t418⟩, A50, H⟩ := H
 replace H : (if t417 = true then ((annealref1_Nan.f a0).bind fun t419 => (some (t419, t418, false, false, false, false))) else ((annealref1_Finite.f k a0 a2).bind fun t420 => (if t420 = true then ((annealref1_Unpack.f k a0 a2).bind fun bt421 => ((annealref1_Pack.f k a0 a1 bt421.1 (wrap64 (bt421.2.1 + (mn (mx a3 (-5000)) 5000))) bt421.2.2 false).bind fun bt424 => (some (bt424.1, bt424.2.1, bt424.2.2.1, bt424.2.2.2.1, bt424.2.2.2.2.1, bt424.2.2.2.2.2)))) else ((annealref1_Mask.f a0).bind fun t430 => (some (Go.bits .and .u32 a2 t430, false, false, false, false, false)))))) = some (r1, r2, r3, r4, r5, r6) := H
 have A5 := Aside0.mk A50
 clear A50
 by_cases c6 : t417 = true
 ·subst c6
  have H1 : ((annealref1_Nan.f a0).bind fun t419 => (some (t419, t418, false, false, false, false))) = some (r1, r2, r3, r4, r5, r6) := by rw [if_pos rfl] at H; exact H
  clear H
  have H := H1
  clear H1
  replace H := Option.bind_eq_some_iff.mp H
  obtain ⟨t419, A70, H⟩ := H
  replace H : (some (t419, t418, false, false, false, false)) = some (r1, r2, r3, r4, r5, r6) := H
  have A7 := Aside0.mk A70
  clear A70
  simp only [Option.some.injEq, Prod.mk.injEq] at H
  obtain ⟨rfl, rfl, rfl, rfl, rfl, rfl⟩ := H
  go_enter Try.func18, Try.ntmps18
  go_wp2_with (first | ((with_reducible refine gate_dst (N := 9) rfl ?_); refine box_event ?hg (N := 9) ?hd (cs := F5) (t := 27) ?hr ?_; (case hd => rfl); (case hg => rfl); (case hr => first | (go_simp; done) | (go_simp; rfl)); intro gb413 hg w8 hbox hb; have n0_ := Aside0.mk (below_step (bl0 HB.out) hb); have n1_ := Aside0.mk (hbox); have n2_ := Aside0.mk ((by rw [hg]; exact (below_size (bl0 HB.out)) : w.heap.size ≤ gb413)); have n3_ := n2_; clear HB; have HB := n0_; have BK413 := n1_; have GW413 := n2_; have GE413 := n3_; clear n0_ n1_ n2_ n3_; clear hb hbox hg) | ((with_reducible refine gate_dst (N := 18) rfl ?_); refine Kd.R_lit (Kd.int .u32) _ 22 ?hg (N := 18) ?hd (xs := ([a2] : List Int)) (inner := [.int .u32 a2]) (ok := fun _ => True) (okp := fun _ => True) ?hr ?hp (fun _ hk => hk) trivial (Below.refl _ _) (Nat.le_refl _) (by simp) ?_; (case hd => rfl); (case hg => rfl); (case hr => first | (go_simp; done) | (go_simp; rfl)); (case hp => exact (Reps.one (show Kd.M (Kd.int .u32) _ _ _ a2 [.int .u32 a2] from rfl) (Reps.none _ _))); intro v415 w9 ho10 hb hg_ hnew_; clear hg_ hnew_; (first | rw [← Ny414.out] at ho10 | (simp only [Int.reduceToNat] at ho10; rw [← Ny414.out] at ho10)); have n0_ := Aside0.mk (Kd.R_lower ho10 (below_size (bl1 HB.out GE413.out))); have n1_ := Aside0.mk (blk_below (g := gb413) (o := .cells #[.bool false, .bool false, .bool false, .bool false, .bool false] 27 (0, 0)) (bv BK413.out) hb); have n2_ := Aside0.mk (below_step (bl1 HB.out GE413.out) hb); clear BK413; clear HB; have HO416 := n0_; have BK413 := n1_; have HB := n2_; clear n0_ n1_ n2_; clear hb ho10; obtain ⟨Ao11, co11, eo11⟩ := Kd.R_slice HO416.out; subst eo11) | ((with_reducible refine gate_callee (f := 42) rfl ?_); refine goesL_ (some 19) rfl rfl Try.func42 (by kernel_rfl) rfl #[.int .i64 a0, .slice Ao11 y414.length co11] rfl gl ?_; (with_reducible refine (annealref1_nans.calls k a0 _ _ y414 true t418 _ ?side1 ?side2 A5.out).mono ?_); (case side1 => repeat (first | exact (Kd.R_reads' HO416.out).2.2 | (with_reducible refine Kd.C_alloc ?_ _) | (with_reducible refine Kd.C_drewN ?_ _) | (with_reducible refine Kd.C_drew ?_))); (case side2 => exact (Kd.R_reads' HO416.out).2.1); rintro e w' ⟨rfl, ⟨nd, rfl⟩⟩; refine ⟨_, rfl, ?_⟩; (try (rw [drewN_self w9]; generalize hq_ : World.drewN w9 _ = w9; have n0_ : Aside0 (Kd.R (Kd.int .u32) 22 w9 w.heap.size (fun _ => True) (.slice Ao11 y414.length co11) y414) := ⟨by rw [← hq_]; exact (by (with_reducible repeat (first | apply Kd.R_alloc | apply Kd.R_drewN | apply Kd.R_drew)); exact HO416.out)⟩; have n1_ : Aside0 (w9.heap[gb413]? = some (.cells #[.bool false, .bool false, .bool false, .bool false, .bool false] 27 (0, 0))) := ⟨by rw [← hq_]; exact (bv BK413.out)⟩; have n2_ : Aside0 (Below w.heap.size w w9) := ⟨by rw [← hq_]; exact (bl1 HB.out GE413.out)⟩; clear HO416 BK413 HB hq_; have HO416 := n0_; have BK413 := n1_; have HB := n2_; clear n0_ n1_ n2_))) | ((with_reducible refine gate_callee (f := 15) rfl ?_); refine goesL_ (some 24) rfl rfl Try.func15 (by kernel_rfl) rfl #[.int .i64 a0] rfl gl ?_; (with_reducible refine (annealref1_Nan.calls a0 t419 _ A7.out).mono ?_); rintro e w' ⟨rfl, ⟨nd, rfl⟩⟩; refine ⟨_, rfl, ?_⟩; (try (rw [drewN_self w9]; generalize hq_ : World.drewN w9 _ = w9; have n0_ : Aside0 (Kd.R (Kd.int .u32) 22 w9 w.heap.size (fun _ => True) (.slice Ao11 y414.length co11) y414) := ⟨by rw [← hq_]; exact (by (with_reducible repeat (first | apply Kd.R_alloc | apply Kd.R_drewN | apply Kd.R_drew)); exact HO416.out)⟩; have n1_ : Aside0 (w9.heap[gb413]? = some (.cells #[.bool false, .bool false, .bool false, .bool false, .bool false] 27 (0, 0))) := ⟨by rw [← hq_]; exact (bv BK413.out)⟩; have n2_ : Aside0 (Below w.heap.size w w9) := ⟨by rw [← hq_]; exact (bl1 HB.out GE413.out)⟩; clear HO416 BK413 HB hq_; have HO416 := n0_; have BK413 := n1_; have HB := n2_; clear n0_ n1_ n2_)); obtain ⟨hcz12_0, hcz12_1, hcz12_2, hcz12_3, hcz12_4⟩ := bc5 BK413.out; obtain ⟨hfz12_0, hfz12_1, hfz12_2, hfz12_3, hfz12_4⟩ := bf5 BK413.out))
  refine bodyPost_ret (results_tc rfl _ _ gb413 27 #[.bool t418, .bool false, .bool false, .bool false, .bool false] (0, 0) _ rfl (by (with_reducible repeat first | apply bd | apply be | apply ba); refine blk_put (cs := #[.bool t418, .bool false, .bool false, .bool false, .bool false]) ?_ 4 _ rfl; (with_reducible repeat first | apply bd | apply be | apply ba); refine blk_put (cs := #[.bool t418, .bool false, .bool false, .bool false, .bool false]) ?_ 3 _ rfl; (with_reducible repeat first | apply bd | apply be | apply ba); refine blk_put (cs := #[.bool t418, .bool false, .bool false, .bool false, .bool false]) ?_ 2 _ rfl; (with_reducible repeat first | apply bd | apply be | apply ba); refine blk_put (cs := #[.bool t418, .bool false, .bool false, .bool false, .bool false]) ?_ 1 _ rfl; (with_reducible repeat first | apply bd | apply be | apply ba); refine blk_put (cs := F5) ?_ 0 _ rfl; (with_reducible repeat first | apply bd | apply be | apply ba); exact BK413.out) Try.underlying27 rfl (by kernel_rfl)) rfl ?_
  exact ⟨by first | rfl | (simp [errW_none, errW_some] <;> rfl) | (simp [*, errW_none, errW_some] <;> rfl), bl1 HB.out GE413.out⟩
 ·replace c6 := Bool.eq_false_iff.mpr c6
  subst c6
  have H1 : ((annealref1_Finite.f k a0 a2).bind fun t420 => (if t420 = true then ((annealref1_Unpack.f k a0 a2).bind fun bt421 => ((annealref1_Pack.f k a0 a1 bt421.1 (wrap64 (bt421.2.1 + (mn (mx a3 (-5000)) 5000))) bt421.2.2 false).bind fun bt424 => (some (bt424.1, bt424.2.1, bt424.2.2.1, bt424.2.2.2.1, bt424.2.2.2.2.1, bt424.2.2.2.2.2)))) else ((annealref1_Mask.f a0).bind fun t430 => (some (Go.bits .and .u32 a2 t430, false, false, false, false, false))))) = some (r1, r2, r3, r4, r5, r6) := by rw [if_neg (show ¬ (false = true) by decide)] at H; exact H
  clear H
  have H := H1
  clear H1
  replace H := Option.bind_eq_some_iff.mp H
  obtain ⟨t420, A130, H⟩ := H
  replace H : (if t420 = true then ((annealref1_Unpack.f k a0 a2).bind fun bt421 => ((annealref1_Pack.f k a0 a1 bt421.1 (wrap64 (bt421.2.1 + (mn (mx a3 (-5000)) 5000))) bt421.2.2 false).bind fun bt424 => (some (bt424.1, bt424.2.1, bt424.2.2.1, bt424.2.2.2.1, bt424.2.2.2.2.1, bt424.2.2.2.2.2)))) else ((annealref1_Mask.f a0).bind fun t430 => (some (Go.bits .and .u32 a2 t430, false, false, false, false, false)))) = some (r1, r2, r3, r4, r5, r6) := H
  have A13 := Aside0.mk A130
  clear A130
  by_cases c14 : t420 = true
  ·subst c14
   have H1 : ((annealref1_Unpack.f k a0 a2).bind fun bt421 => ((annealref1_Pack.f k a0 a1 bt421.1 (wrap64 (bt421.2.1 + (mn (mx a3 (-5000)) 5000))) bt421.2.2 false).bind fun bt424 => (some (bt424.1, bt424.2.1, bt424.2.2.1, bt424.2.2.2.1, bt424.2.2.2.2.1, bt424.2.2.2.2.2)))) = some (r1, r2, r3, r4, r5, r6) := by rw [if_pos rfl] at H; exact H
   clear H
   have H := H1
   clear H1
   replace H := Option.bind_eq_some_iff.mp H
   obtain ⟨⟨t421, t422, t423⟩, A150, H⟩ := H
   replace H : ((annealref1_Pack.f k a0 a1 t421 (wrap64 (t422 + (mn (mx a3 (-5000)) 5000))) t423 false).bind fun bt424 => (some (bt424.1, bt424.2.1, bt424.2.2.1, bt424.2.2.2.1, bt424.2.2.2.2.1, bt424.2.2.2.2.2))) = some (r1, r2, r3, r4, r5, r6) := H
   have A15 := Aside0.mk A150
   clear A150
   obtain ⟨ji16, hji16⟩ : ∃ j_ : Int, (mx a3 (-5000)) = j_ := ⟨_, rfl⟩
   replace H : ((annealref1_Pack.f k a0 a1 t421 (wrap64 (t422 + (mn (ji16) 5000))) t423 false).bind fun bt424 => (some (bt424.1, bt424.2.1, bt424.2.2.1, bt424.2.2.2.1, bt424.2.2.2.2.1, bt424.2.2.2.2.2))) = some (r1, r2, r3, r4, r5, r6) := by first | (rw [hji16] at H; exact H) | (simp only [hji16] at H ⊢; exact H)
   (try rw [hji16] at A5)
   (try rw [hji16] at A13)
   (try rw [hji16] at A15)
   have hji16_ : (if a3 < (-5000) then (-5000) else a3) = ji16 := hji16
   obtain ⟨ji17, hji17⟩ : ∃ j_ : Int, (mn (ji16) 5000) = j_ := ⟨_, rfl⟩
   replace H : ((annealref1_Pack.f k a0 a1 t421 (wrap64 (t422 + (ji17))) t423 false).bind fun bt424 => (some (bt424.1, bt424.2.1, bt424.2.2.1, bt424.2.2.2.1, bt424.2.2.2.2.1, bt424.2.2.2.2.2))) = some (r1, r2, r3, r4, r5, r6) := by first | (rw [hji17] at H; exact H) | (simp only [hji17] at H ⊢; exact H)
   (try rw [hji17] at A5)
   (try rw [hji17] at A13)
   (try rw [hji17] at A15)
   have hji17_ : (if 5000 < (ji16) then 5000 else (ji16)) = ji17 := hji17
   replace H := Option.bind_eq_some_iff.mp H
   obtain ⟨⟨t424, t425, t426, t427, t428, t429⟩, A180, H⟩ := H
   replace H : (some (t424, t425, t426, t427, t428, t429)) = some (r1, r2, r3, r4, r5, r6) := H
   have A18 := Aside0.mk A180
   clear A180
   simp only [Option.some.injEq, Prod.mk.injEq] at H
   obtain ⟨rfl, rfl, rfl, rfl, rfl, rfl⟩ := H
   go_enter Try.func18, Try.ntmps18
   go_wp2_with (first | ((with_reducible refine gate_dst (N := 9) rfl ?_); refine box_event ?hg (N := 9) ?hd (cs := F5) (t := 27) ?hr ?_; (case hd => rfl); (case hg => rfl); (case hr => first | (go_simp; done) | (go_simp; rfl)); intro gb413 hg w19 hbox hb; have n0_ := Aside0.mk (below_step (bl0 HB.out) hb); have n1_ := Aside0.mk (hbox); have n2_ := Aside0.mk ((by rw [hg]; exact (below_size (bl0 HB.out)) : w.heap.size ≤ gb413)); have n3_ := n2_; clear HB; have HB := n0_; have BK413 := n1_; have GW413 := n2_; have GE413 := n3_; clear n0_ n1_ n2_ n3_; clear hb hbox hg) | ((with_reducible refine gate_dst (N := 18) rfl ?_); refine Kd.R_lit (Kd.int .u32) _ 22 ?hg (N := 18) ?hd (xs := ([a2] : List Int)) (inner := [.int .u32 a2]) (ok := fun _ => True) (okp := fun _ => True) ?hr ?hp (fun _ hk => hk) trivial (Below.refl _ _) (Nat.le_refl _) (by simp) ?_; (case hd => rfl); (case hg => rfl); (case hr => first | (go_simp; done) | (go_simp; rfl)); (case hp => exact (Reps.one (show Kd.M (Kd.int .u32) _ _ _ a2 [.int .u32 a2] from rfl) (Reps.none _ _))); intro v415 w20 ho21 hb hg_ hnew_; clear hg_ hnew_; (first | rw [← Ny414.out] at ho21 | (simp only [Int.reduceToNat] at ho21; rw [← Ny414.out] at ho21)); have n0_ := Aside0.mk (Kd.R_lower ho21 (below_size (bl1 HB.out GE413.out))); have n1_ := Aside0.mk (blk_below (g := gb413) (o := .cells #[.bool false, .bool false, .bool false, .bool false, .bool false] 27 (0, 0)) (bv BK413.out) hb); have n2_ := Aside0.mk (below_step (bl1 HB.out GE413.out) hb); clear BK413; clear HB; have HO416 := n0_; have BK413 := n1_; have HB := n2_; clear n0_ n1_ n2_; clear hb ho21; obtain ⟨Ao22, co22, eo22⟩ := Kd.R_slice HO416.out; subst eo22) | ((with_reducible refine gate_callee (f := 42) rfl ?_); refine goesL_ (some 19) rfl rfl Try.func42 (by kernel_rfl) rfl #[.int .i64 a0, .slice Ao22 y414.length co22] rfl gl ?_; (with_reducible refine (annealref1_nans.calls k a0 _ _ y414 false t418 _ ?side1 ?side2 A5.out).mono ?_); (case side1 => repeat (first | exact (Kd.R_reads' HO416.out).2.2 | (with_reducible refine Kd.C_alloc ?_ _) | (with_reducible refine Kd.C_drewN ?_ _) | (with_reducible refine Kd.C_drew ?_))); (case side2 => exact (Kd.R_reads' HO416.out).2.1); rintro e w' ⟨rfl, ⟨nd, rfl⟩⟩; refine ⟨_, rfl, ?_⟩; (try (rw [drewN_self w20]; generalize hq_ : World.drewN w20 _ = w20; have n0_ : Aside0 (Kd.R (Kd.int .u32) 22 w20 w.heap.size (fun _ => True) (.slice Ao22 y414.length co22) y414) := ⟨by rw [← hq_]; exact (by (with_reducible repeat (first | apply Kd.R_alloc | apply Kd.R_drewN | apply Kd.R_drew)); exact HO416.out)⟩; have n1_ : Aside0 (w20.heap[gb413]? = some (.cells #[.bool false, .bool false, .bool false, .bool false, .bool false] 27 (0, 0))) := ⟨by rw [← hq_]; exact (bv BK413.out)⟩; have n2_ : Aside0 (Below w.heap.size w w20) := ⟨by rw [← hq_]; exact (bl1 HB.out GE413.out)⟩; clear HO416 BK413 HB hq_; have HO416 := n0_; have BK413 := n1_; have HB := n2_; clear n0_ n1_ n2_))) | ((with_reducible refine gate_callee (f := 14) rfl ?_); refine goesL_ (some 29) rfl rfl Try.func14 (by kernel_rfl) rfl #[.int .i64 a0, .int .u32 a2] rfl gl ?_; (with_reducible refine (annealref1_Finite.calls k a0 a2 true _ A13.out).mono ?_); rintro e w' ⟨rfl, ⟨nd, rfl⟩⟩; refine ⟨_, rfl, ?_⟩; (try (rw [drewN_self w20]; generalize hq_ : World.drewN w20 _ = w20; have n0_ : Aside0 (Kd.R (Kd.int .u32) 22 w20 w.heap.size (fun _ => True) (.slice Ao22 y414.length co22) y414) := ⟨by rw [← hq_]; exact (by (with_reducible repeat (first | apply Kd.R_alloc | apply Kd.R_drewN | apply Kd.R_drew)); exact HO416.out)⟩; have n1_ : Aside0 (w20.heap[gb413]? = some (.cells #[.bool false, .bool false, .bool false, .bool false, .bool false] 27 (0, 0))) := ⟨by rw [← hq_]; exact (bv BK413.out)⟩; have n2_ : Aside0 (Below w.heap.size w w20) := ⟨by rw [← hq_]; exact (bl1 HB.out GE413.out)⟩; clear HO416 BK413 HB hq_; have HO416 := n0_; have BK413 := n1_; have HB := n2_; clear n0_ n1_ n2_))) | ((with_reducible refine gate_callee (f := 43) rfl ?_); refine goesL_ (some 39) rfl rfl Try.func43 (by kernel_rfl) rfl #[.int .i64 a0, .int .u32 a2] rfl gl ?_; (with_reducible refine (annealref1_Unpack.calls k a0 a2 t421 t422 t423 _ A15.out).mono ?_); rintro e w' ⟨rfl, ⟨nd, rfl⟩⟩; refine ⟨_, rfl, ?_⟩; (try (rw [drewN_self w20]; generalize hq_ : World.drewN w20 _ = w20; have n0_ : Aside0 (Kd.R (Kd.int .u32) 22 w20 w.heap.size (fun _ => True) (.slice Ao22 y414.length co22) y414) := ⟨by rw [← hq_]; exact (by (with_reducible repeat (first | apply Kd.R_alloc | apply Kd.R_drewN | apply Kd.R_drew)); exact HO416.out)⟩; have n1_ : Aside0 (w20.heap[gb413]? = some (.cells #[.bool false, .bool false, .bool false, .bool false, .bool false] 27 (0, 0))) := ⟨by rw [← hq_]; exact (bv BK413.out)⟩; have n2_ : Aside0 (Below w.heap.size w w20) := ⟨by rw [← hq_]; exact (bl1 HB.out GE413.out)⟩; clear HO416 BK413 HB hq_; have HO416 := n0_; have BK413 := n1_; have HB := n2_; clear n0_ n1_ n2_))) | ((with_reducible refine gate_callee (f := 44) rfl ?_); refine goesL_ (some 52) rfl rfl Try.func44 (by kernel_rfl) rfl #[.int .i64 a0, .int .i64 a1, .bool t421, .int .i64 (wrap64 (t422 + (ji17))), .int .u64 t423, .bool false] rfl (by (try simp only [List.map_toArray, List.map_cons, List.map_nil]); first | done | (simp only [hji17]; rfl) | rfl | (simp only [List.length_drop, List.length_take]; rfl)) ?_; (with_reducible refine (annealref1_Pack.calls k a0 a1 t421 (wrap64 (t422 + (ji17))) t423 false t424 t425 t426 t427 t428 t429 _ A18.out).mono ?_); rintro e w23 ⟨rfl, hb⟩; refine ⟨_, rfl, ?_⟩; have n0_ := Aside0.mk (Kd.R_below (by (with_reducible repeat (first | apply Kd.R_alloc | apply Kd.R_drewN | apply Kd.R_drew)); exact HO416.out) hb); have n1_ := Aside0.mk (blk_below (g := gb413) (o := .cells #[.bool false, .bool false, .bool false, .bool false, .bool false] 27 (0, 0)) (bv BK413.out) hb); have n2_ := Aside0.mk (below_step (bl1 HB.out GE413.out) hb); clear HO416; clear BK413; clear HB; have HO416 := n0_; have BK413 := n1_; have HB := n2_; clear n0_ n1_ n2_; obtain ⟨hcz24_0, hcz24_1, hcz24_2, hcz24_3, hcz24_4⟩ := bc5 BK413.out; obtain ⟨hfz24_0, hfz24_1, hfz24_2, hfz24_3, hfz24_4⟩ := bf5 BK413.out))
   refine bodyPost_ret (results_tc rfl _ _ gb413 27 #[.bool t425, .bool t426, .bool t427, .bool t428, .bool t429] (0, 0) _ rfl (by (with_reducible repeat first | apply bd | apply be | apply ba); refine blk_put (cs := #[.bool t425, .bool t426, .bool t427, .bool t428, .bool false]) ?_ 4 _ rfl; (with_reducible repeat first | apply bd | apply be | apply ba); refine blk_put (cs := #[.bool t425, .bool t426, .bool t427, .bool false, .bool false]) ?_ 3 _ rfl; (with_reducible repeat first | apply bd | apply be | apply ba); refine blk_put (cs := #[.bool t425, .bool t426, .bool false, .bool false, .bool false]) ?_ 2 _ rfl; (with_reducible repeat first | apply bd | apply be | apply ba); refine blk_put (cs := #[.bool t425, .bool false, .bool false, .bool false, .bool false]) ?_ 1 _ rfl; (with_reducible repeat first | apply bd | apply be | apply ba); refine blk_put (cs := F5) ?_ 0 _ rfl; (with_reducible repeat first | apply bd | apply be | apply ba); exact BK413.out) Try.underlying27 rfl (by kernel_rfl)) rfl ?_
   exact ⟨by first | rfl | (simp [errW_none, errW_some] <;> rfl) | (simp only [← hji16, ← hji17]; first | rfl | (simp [errW_none, errW_some] <;> rfl)) | (simp [*, errW_none, errW_some] <;> rfl), bl1 HB.out GE413.out⟩
  ·replace c14 := Bool.eq_false_iff.mpr c14
   subst c14
   have H1 : ((annealref1_Mask.f a0).bind fun t430 => (some (Go.bits .and .u32 a2 t430, false, false, false, false, false))) = some (r1, r2, r3, r4, r5, r6) := by rw [if_neg (show ¬ (false = true) by decide)] at H; exact H
   clear H
   have H := H1
   clear H1
   replace H := Option.bind_eq_some_iff.mp H
   obtain ⟨t430, A250, H⟩ := H
   replace H : (some (Go.bits .and .u32 a2 t430, false, false, false, false, false)) = some (r1, r2, r3, r4, r5, r6) := H
   have A25 := Aside0.mk A250
   clear A250
   simp only [Option.some.injEq, Prod.mk.injEq] at H
   obtain ⟨rfl, rfl, rfl, rfl, rfl, rfl⟩ := H
   go_enter Try.func18, Try.ntmps18
   go_wp2_with (first | ((with_reducible refine gate_dst (N := 9) rfl ?_); refine box_event ?hg (N := 9) ?hd (cs := F5) (t := 27) ?hr ?_; (case hd => rfl); (case hg => rfl); (case hr => first | (go_simp; done) | (go_simp; rfl)); intro gb413 hg w26 hbox hb; have n0_ := Aside0.mk (below_step (bl0 HB.out) hb); have n1_ := Aside0.mk (hbox); have n2_ := Aside0.mk ((by rw [hg]; exact (below_size (bl0 HB.out)) : w.heap.size ≤ gb413)); have n3_ := n2_; clear HB; have HB := n0_; have BK413 := n1_; have GW413 := n2_; have GE413 := n3_; clear n0_ n1_ n2_ n3_; clear hb hbox hg) | ((with_reducible refine gate_dst (N := 18) rfl ?_); refine Kd.R_lit (Kd.int .u32) _ 22 ?hg (N := 18) ?hd (xs := ([a2] : List Int)) (inner := [.int .u32 a2]) (ok := fun _ => True) (okp := fun _ => True) ?hr ?hp (fun _ hk => hk) trivial (Below.refl _ _) (Nat.le_refl _) (by simp) ?_; (case hd => rfl); (case hg => rfl); (case hr => first | (go_simp; done) | (go_simp; rfl)); (case hp => exact (Reps.one (show Kd.M (Kd.int .u32) _ _ _ a2 [.int .u32 a2] from rfl) (Reps.none _ _))); intro v415 w27 ho28 hb hg_ hnew_; clear hg_ hnew_; (first | rw [← Ny414.out] at ho28 | (simp only [Int.reduceToNat] at ho28; rw [← Ny414.out] at ho28)); have n0_ := Aside0.mk (Kd.R_lower ho28 (below_size (bl1 HB.out GE413.out))); have n1_ := Aside0.mk (blk_below (g := gb413) (o := .cells #[.bool false, .bool false, .bool false, .bool false, .bool false] 27 (0, 0)) (bv BK413.out) hb); have n2_ := Aside0.mk (below_step (bl1 HB.out GE413.out) hb); clear BK413; clear HB; have HO416 := n0_; have BK413 := n1_; have HB := n2_; clear n0_ n1_ n2_; clear hb ho28; obtain ⟨Ao29, co29, eo29⟩ := Kd.R_slice HO416.out; subst eo29) | ((with_reducible refine gate_callee (f := 42) rfl ?_); refine goesL_ (some 19) rfl rfl Try.func42 (by kernel_rfl) rfl #[.int .i64 a0, .slice Ao29 y414.length co29] rfl gl ?_; (with_reducible refine (annealref1_nans.calls k a0 _ _ y414 false t418 _ ?side1 ?side2 A5.out).mono ?_); (case side1 => repeat (first | exact (Kd.R_reads' HO416.out).2.2 | (with_reducible refine Kd.C_alloc ?_ _) | (with_reducible refine Kd.C_drewN ?_ _) | (with_reducible refine Kd.C_drew ?_))); (case side2 => exact (Kd.R_reads' HO416.out).2.1); rintro e w' ⟨rfl, ⟨nd, rfl⟩⟩; refine ⟨_, rfl, ?_⟩; (try (rw [drewN_self w27]; generalize hq_ : World.drewN w27 _ = w27; have n0_ : Aside0 (Kd.R (Kd.int .u32) 22 w27 w.heap.size (fun _ => True) (.slice Ao29 y414.length co29) y414) := ⟨by rw [← hq_]; exact (by (with_reducible repeat (first | apply Kd.R_alloc | apply Kd.R_drewN | apply Kd.R_drew)); exact HO416.out)⟩; have n1_ : Aside0 (w27.heap[gb413]? = some (.cells #[.bool false, .bool false, .bool false, .bool false, .bool false] 27 (0, 0))) := ⟨by rw [← hq_]; exact (bv BK413.out)⟩; have n2_ : Aside0 (Below w.heap.size w w27) := ⟨by rw [← hq_]; exact (bl1 HB.out GE413.out)⟩; clear HO416 BK413 HB hq_; have HO416 := n0_; have BK413 := n1_; have HB := n2_; clear n0_ n1_ n2_))) | ((with_reducible refine gate_callee (f := 14) rfl ?_); refine goesL_ (some 29) rfl rfl Try.func14 (by kernel_rfl) rfl #[.int .i64 a0, .int .u32 a2] rfl gl ?_; (with_reducible refine (annealref1_Finite.calls k a0 a2 false _ A13.out).mono ?_); rintro e w' ⟨rfl, ⟨nd, rfl⟩⟩; refine ⟨_, rfl, ?_⟩; (try (rw [drewN_self w27]; generalize hq_ : World.drewN w27 _ = w27; have n0_ : Aside0 (Kd.R (Kd.int .u32) 22 w27 w.heap.size (fun _ => True) (.slice Ao29 y414.length co29) y414) := ⟨by rw [← hq_]; exact (by (with_reducible repeat (first | apply Kd.R_alloc | apply Kd.R_drewN | apply Kd.R_drew)); exact HO416.out)⟩; have n1_ : Aside0 (w27.heap[gb413]? = some (.cells #[.bool false, .bool false, .bool false, .bool false, .bool false] 27 (0, 0))) := ⟨by rw [← hq_]; exact (bv BK413.out)⟩; have n2_ : Aside0 (Below w.heap.size w w27) := ⟨by rw [← hq_]; exact (bl1 HB.out GE413.out)⟩; clear HO416 BK413 HB hq_; have HO416 := n0_; have BK413 := n1_; have HB := n2_; clear n0_ n1_ n2_))) | ((with_reducible refine gate_callee (f := 30) rfl ?_); refine goesL_ (some 33) rfl rfl Try.func30 (by kernel_rfl) rfl #[.int .i64 a0] rfl gl ?_; (with_reducible refine (annealref1_Mask.calls a0 t430 _ A25.out).mono ?_); rintro e w' ⟨rfl, ⟨nd, rfl⟩⟩; refine ⟨_, rfl, ?_⟩; (try (rw [drewN_self w27]; generalize hq_ : World.drewN w27 _ = w27; have n0_ : Aside0 (Kd.R (Kd.int .u32) 22 w27 w.heap.size (fun _ => True) (.slice Ao29 y414.length co29) y414) := ⟨by rw [← hq_]; exact (by (with_reducible repeat (first | apply Kd.R_alloc | apply Kd.R_drewN | apply Kd.R_drew)); exact HO416.out)⟩; have n1_ : Aside0 (w27.heap[gb413]? = some (.cells #[.bool false, .bool false, .bool false, .bool false, .bool false] 27 (0, 0))) := ⟨by rw [← hq_]; exact (bv BK413.out)⟩; have n2_ : Aside0 (Below w.heap.size w w27) := ⟨by rw [← hq_]; exact (bl1 HB.out GE413.out)⟩; clear HO416 BK413 HB hq_; have HO416 := n0_; have BK413 := n1_; have HB := n2_; clear n0_ n1_ n2_)); obtain ⟨hcz30_0, hcz30_1, hcz30_2, hcz30_3, hcz30_4⟩ := bc5 BK413.out; obtain ⟨hfz30_0, hfz30_1, hfz30_2, hfz30_3, hfz30_4⟩ := bf5 BK413.out))
   refine bodyPost_ret (results_tc rfl _ _ gb413 27 #[.bool false, .bool false, .bool false, .bool false, .bool false] (0, 0) _ rfl (by (with_reducible repeat first | apply bd | apply be | apply ba); refine blk_put (cs := F5) ?_ 4 _ rfl; (with_reducible repeat first | apply bd | apply be | apply ba); refine blk_put (cs := F5) ?_ 3 _ rfl; (with_reducible repeat first | apply bd | apply be | apply ba); refine blk_put (cs := F5) ?_ 2 _ rfl; (with_reducible repeat first | apply bd | apply be | apply ba); refine blk_put (cs := F5) ?_ 1 _ rfl; (with_reducible repeat first | apply bd | apply be | apply ba); refine blk_put (cs := F5) ?_ 0 _ rfl; (with_reducible repeat first | apply bd | apply be | apply ba); exact BK413.out) Try.underlying27 rfl (by kernel_rfl)) rfl ?_
   exact ⟨by first | rfl | (simp [errW_none, errW_some] <;> rfl) | (simp [*, errW_none, errW_some] <;> rfl), bl1 HB.out GE413.out⟩

/-! ### annealref1_neg: function 46 -/
def annealref1_neg.f (a0 : Int) (a1 : Int) : Option (Bool) := (annealref1_parts.f a0 a1).bind fun bt431 => (some bt431.1)
set_option maxHeartbeats 8000000 in
set_option maxRecDepth 100000 in
theorem annealref1_neg.calls (a0 : Int) (a1 : Int) (r : Bool) (w : World) (h : annealref1_neg.f a0 a1 = some r) :
  Calls Try.prog 46 #[.int .i64 a0, .int .u32 a1] w fun e w' => e = .returned (.bool r) ∧ Drawn0 w w' := by
 have H : ((annealref1_parts.f a0 a1).bind fun bt431 => (some bt431.1)) = some r := h
 clear h
 replace H := Option.bind_eq_some_iff.mp H
 obtain ⟨⟨t431, t432, t433⟩, A30, H⟩ := H
 replace H : (some t431) = some r := H
 have A3 := Aside0.mk A30
 clear A30
 obtain rfl := Option.some.inj H
 go_enter Try.func46, Try.ntmps46
 go_wp2_with (first | ((with_reducible refine gate_callee (f := 53) rfl ?_); refine goesL_ (some 11) rfl rfl Try.func53 (by kernel_rfl) rfl #[.int .i64 a0, .int .u32 a1] rfl gl ?_; (with_reducible refine (annealref1_parts.calls a0 a1 t431 t432 t433 _ A3.out).mono ?_); rintro e w' ⟨rfl, ⟨nd, rfl⟩⟩; refine ⟨_, rfl, ?_⟩))
 go_ret
 exact ⟨by first | rfl | (simp; done) | (simp [*]; done) | (congr 1; (try unfold wrap64); omega) | (congr 1; rw [IntKind.wrap_u64]; omega), by repeat (first | exact Drawn0.refl _ | apply Drawn0.step)⟩

/-! ### annealref1_Key: function 20 -/
def annealref1_Key.f (a0 : Int) (a1 : Int) : Option (Int) := (annealref1_Mask.f a0).bind fun t434 => ((annealref1_sign.f a0 true).bind fun t435 => ((annealref1_neg.f a0 a1).bind fun t436 => (if t436 = true then (some (wrap64 ((-1) - (wrap64 (Go.bits .andNot .u32 (Go.bits .and .u32 a1 t434) t435))))) else (some (wrap64 (Go.bits .andNot .u32 (Go.bits .and .u32 a1 t434) t435))))))
set_option maxHeartbeats 8000000 in
set_option maxRecDepth 100000 in
theorem annealref1_Key.calls (a0 : Int) (a1 : Int) (r : Int) (w : World) (h : annealref1_Key.f a0 a1 = some r) :
  Calls Try.prog 20 #[.int .i64 a0, .int .u32 a1] w fun e w' => e = .returned (.int .i64 r) ∧ Drawn0 w w' := by
 have H : ((annealref1_Mask.f a0).bind fun t434 => ((annealref1_sign.f a0 true).bind fun t435 => ((annealref1_neg.f a0 a1).bind fun t436 => (if t436 = true then (some (wrap64 ((-1) - (wrap64 (Go.bits .andNot .u32 (Go.bits .and .u32 a1 t434) t435))))) else (some (wrap64 (Go.bits .andNot .u32 (Go.bits .and .u32 a1 t434) t435))))))) = some r := h
 clear h
 replace H := Option.bind_eq_some_iff.mp H
 obtain ⟨t434, A30, H⟩ := H
 replace H : ((annealref1_sign.f a0 true).bind fun t435 => ((annealref1_neg.f a0 a1).bind fun t436 => (if t436 = true then (some (wrap64 ((-1) - (wrap64 (Go.bits .andNot .u32 (Go.bits .and .u32 a1 t434) t435))))) else (some (wrap64 (Go.bits .andNot .u32 (Go.bits .and .u32 a1 t434) t435)))))) = some r := H
 have A3 := Aside0.mk A30
 clear A30
 replace H := Option.bind_eq_some_iff.mp H
 obtain ⟨t435, A40, H⟩ := H
 replace H : ((annealref1_neg.f a0 a1).bind fun t436 => (if t436 = true then (some (wrap64 ((-1) - (wrap64 (Go.bits .andNot .u32 (Go.bits .and .u32 a1 t434) t435))))) else (some (wrap64 (Go.bits .andNot .u32 (Go.bits .and .u32 a1 t434) t435))))) = some r := H
 have A4 := Aside0.mk A40
 clear A40
 replace H := Option.bind_eq_some_iff.mp H
 obtain ⟨t436, A50, H⟩ := H
 replace H : (if t436 = true then (some (wrap64 ((-1) - (wrap64 (Go.bits .andNot .u32 (Go.bits .and .u32 a1 t434) t435))))) else (some (wrap64 (Go.bits .andNot .u32 (Go.bits .and .u32 a1 t434) t435)))) = some r := H
 have A5 := Aside0.mk A50
 clear A50
 by_cases c6 : t436 = true
 ·subst c6
  have H1 : (some (wrap64 ((-1) - (wrap64 (Go.bits .andNot .u32 (Go.bits .and .u32 a1 t434) t435))))) = some r := by rw [if_pos rfl] at H; exact H
  clear H
  have H := H1
  clear H1
  obtain rfl := Option.some.inj H
  go_enter Try.func20, Try.ntmps20
  go_wp2_with (first | ((with_reducible refine gate_callee (f := 30) rfl ?_); refine goesL_ (some 8) rfl rfl Try.func30 (by kernel_rfl) rfl #[.int .i64 a0] rfl gl ?_; (with_reducible refine (annealref1_Mask.calls a0 t434 _ A3.out).mono ?_); rintro e w' ⟨rfl, ⟨nd, rfl⟩⟩; refine ⟨_, rfl, ?_⟩) | ((with_reducible refine gate_callee (f := 41) rfl ?_); refine goesL_ (some 11) rfl rfl Try.func41 (by kernel_rfl) rfl #[.int .i64 a0, .bool true] rfl gl ?_; (with_reducible refine (annealref1_sign.calls a0 true t435 _ A4.out).mono ?_); rintro e w' ⟨rfl, ⟨nd, rfl⟩⟩; refine ⟨_, rfl, ?_⟩) | ((with_reducible refine gate_callee (f := 46) rfl ?_); refine goesL_ (some 16) rfl rfl Try.func46 (by kernel_rfl) rfl #[.int .i64 a0, .int .u32 a1] rfl gl ?_; (with_reducible refine (annealref1_neg.calls a0 a1 true _ A5.out).mono ?_); rintro e w' ⟨rfl, ⟨nd, rfl⟩⟩; refine ⟨_, rfl, ?_⟩))
  go_ret
  exact ⟨by first | rfl | (simp; done) | (simp [*]; done) | (congr 1; (try unfold wrap64); omega) | (congr 1; rw [IntKind.wrap_u64]; omega), by repeat (first | exact Drawn0.refl _ | apply Drawn0.step)⟩
 ·replace c6 := Bool.eq_false_iff.mpr c6
  subst c6
  have H1 : (some (wrap64 (Go.bits .andNot .u32 (Go.bits .and .u32 a1 t434) t435))) = some r := by rw [if_neg (show ¬ (false = true) by decide)] at H; exact H
  clear H
  have H := H1
  clear H1
  obtain rfl := Option.some.inj H
  go_enter Try.func20, Try.ntmps20
  go_wp2_with (first | ((with_reducible refine gate_callee (f := 30) rfl ?_); refine goesL_ (some 8) rfl rfl Try.func30 (by kernel_rfl) rfl #[.int .i64 a0] rfl gl ?_; (with_reducible refine (annealref1_Mask.calls a0 t434 _ A3.out).mono ?_); rintro e w' ⟨rfl, ⟨nd, rfl⟩⟩; refine ⟨_, rfl, ?_⟩) | ((with_reducible refine gate_callee (f := 41) rfl ?_); refine goesL_ (some 11) rfl rfl Try.func41 (by kernel_rfl) rfl #[.int .i64 a0, .bool true] rfl gl ?_; (with_reducible refine (annealref1_sign.calls a0 true t435 _ A4.out).mono ?_); rintro e w' ⟨rfl, ⟨nd, rfl⟩⟩; refine ⟨_, rfl, ?_⟩) | ((with_reducible refine gate_callee (f := 46) rfl ?_); refine goesL_ (some 16) rfl rfl Try.func46 (by kernel_rfl) rfl #[.int .i64 a0, .int .u32 a1] rfl gl ?_; (with_reducible refine (annealref1_neg.calls a0 a1 false _ A5.out).mono ?_); rintro e w' ⟨rfl, ⟨nd, rfl⟩⟩; refine ⟨_, rfl, ?_⟩))
  go_ret
  exact ⟨by first | rfl | (simp; done) | (simp [*]; done) | (congr 1; (try unfold wrap64); omega) | (congr 1; rw [IntKind.wrap_u64]; omega), by repeat (first | exact Drawn0.refl _ | apply Drawn0.step)⟩

/-! ### annealref1_zero: function 51 -/
def annealref1_zero.f (k : Nat) (a0 : Int) (a1 : Int) : Option (Bool) := (annealref1_Class.f k a0 a1).bind fun t437 => (some (t437 == 0))
set_option maxHeartbeats 8000000 in
set_option maxRecDepth 100000 in
theorem annealref1_zero.calls (k : Nat) (a0 : Int) (a1 : Int) (r : Bool) (w : World) (h : annealref1_zero.f k a0 a1 = some r) :
  Calls Try.prog 51 #[.int .i64 a0, .int .u32 a1] w fun e w' => e = .returned (.bool r) ∧ Drawn0 w w' := by
 have H : ((annealref1_Class.f k a0 a1).bind fun t437 => (some (t437 == 0))) = some r := h
 clear h
 replace H := Option.bind_eq_some_iff.mp H
 obtain ⟨t437, A30, H⟩ := H
 replace H : (some (t437 == 0)) = some r := H
 have A3 := Aside0.mk A30
 clear A30
 obtain rfl := Option.some.inj H
 go_enter Try.func51, Try.ntmps51
 go_wp2_with (first | ((with_reducible refine gate_callee (f := 26) rfl ?_); refine goesL_ (some 7) rfl rfl Try.func26 (by kernel_rfl) rfl #[.int .i64 a0, .int .u32 a1] rfl gl ?_; (with_reducible refine (annealref1_Class.calls k a0 a1 t437 _ A3.out).mono ?_); rintro e w' ⟨rfl, ⟨nd, rfl⟩⟩; refine ⟨_, rfl, ?_⟩))
 go_ret
 exact ⟨by first | rfl | (simp; done) | (simp [*]; done) | (congr 1; (try unfold wrap64); omega) | (congr 1; rw [IntKind.wrap_u64]; omega), by repeat (first | exact Drawn0.refl _ | apply Drawn0.step)⟩

/-! ### annealref1_Compare: function 45 -/
def annealref1_Compare.j0 : Nat → Int → Int → Int → Bool → Option (Int × Bool)
 |0, _, _, _, _ => none
 |k + 1, x0, x1, x2, x28 => if x28 = true then (some (0, true)) else ((annealref1_Key.f x0 x1).bind fun t445 => ((annealref1_Key.f x0 x2).bind fun t446 => (if t445 < t446 then (some ((-1), true)) else (if t445 > t446 then (some (1, true)) else (some (0, true))))))
def annealref1_Compare.f (k : Nat) (a0 : Int) (a1 : Int) (a2 : Int) : Option (Int × Bool) := (annealref1_nans.f k a0 (([a1, a2] : List Int))).bind fun bt441 => (if bt441.1 = true then (some (0, false)) else ((annealref1_zero.f k a0 a1).bind fun t443 => (if t443 = true then ((annealref1_zero.f k a0 a2).bind fun t444 => (annealref1_Compare.j0 k a0 a1 a2 t444)) else (annealref1_Compare.j0 k a0 a1 a2 false))))
set_option maxHeartbeats 8000000 in
set_option maxRecDepth 100000 in
theorem annealref1_Compare.calls (k : Nat) (a0 : Int) (a1 : Int) (a2 : Int) (r1 : Int) (r2 : Bool) (w : World) (h : annealref1_Compare.f k a0 a1 a2 = some (r1, r2)) :
  Calls Try.prog 45 #[.int .i64 a0, .int .u32 a1, .int .u32 a2] w fun e w' => e = .returned (.tuple #[.int .i64 r1, .bool r2]) ∧ Below w.heap.size w w' := by
 have HB := Aside0.mk (Below.refl w.heap.size w)
 have H : ((annealref1_nans.f k a0 (([a1, a2] : List Int))).bind fun bt441 => (if bt441.1 = true then (some (0, false)) else ((annealref1_zero.f k a0 a1).bind fun t443 => (if t443 = true then ((annealref1_zero.f k a0 a2).bind fun t444 => (annealref1_Compare.j0 k a0 a1 a2 t444)) else (annealref1_Compare.j0 k a0 a1 a2 false))))) = some (r1, r2) := h
 clear h
 obtain ⟨y438, hy438⟩ : ∃ y_ : List Int, y_ = (([a1, a2] : List Int)) := ⟨_, rfl⟩
 replace H : ((annealref1_nans.f k a0 y438).bind fun bt441 => (if bt441.1 = true then (some (0, false)) else ((annealref1_zero.f k a0 a1).bind fun t443 => (if t443 = true then ((annealref1_zero.f k a0 a2).bind fun t444 => (annealref1_Compare.j0 k a0 a1 a2 t444)) else (annealref1_Compare.j0 k a0 a1 a2 false))))) = some (r1, r2) := by first | (rw [hy438]; with_reducible exact H) | (have H2_ := (Option.bind_some _ _).symm.trans H; rw [hy438]; with_reducible exact H2_) | (have H2_ := (Option.bind_some _ _).symm.trans H; with_reducible exact H2_) | with_reducible exact H | (rw [hy438]; exact H) | exact H
 have Ny438 := Aside0.mk hy438
 clear hy438
 replace H := Option.bind_eq_some_iff.mp H
 obtain ⟨⟨t441, t442⟩, A40, H⟩ := H
 replace H : (if t441 = true then (some (0, false)) else ((annealref1_zero.f k a0 a1).bind fun t443 => (if t443 = true then ((annealref1_zero.f k a0 a2).bind fun t444 => (annealref1_Compare.j0 k a0 a1 a2 t444)) else (annealref1_Compare.j0 k a0 a1 a2 false)))) = some (r1, r2) := H
 have A4 := Aside0.mk A40
 clear A40
 by_cases c5 : t441 = true
 ·subst c5
  have H1 : (some (0, false)) = some (r1, r2) := by rw [if_pos rfl] at H; exact H
  clear H
  have H := H1
  clear H1
  simp only [Option.some.injEq, Prod.mk.injEq] at H
  obtain ⟨rfl, rfl⟩ := H
  go_enter Try.func45, Try.ntmps45
  go_wp2_with (first | ((with_reducible refine gate_dst (N := 16) rfl ?_); refine Kd.R_lit (Kd.int .u32) _ 22 ?hg (N := 16) ?hd (xs := ([a1, a2] : List Int)) (inner := [.int .u32 a1, .int .u32 a2]) (ok := fun _ => True) (okp := fun _ => True) ?hr ?hp (fun _ hk => hk) trivial (Below.refl _ _) (Nat.le_refl _) (by simp) ?_; (case hd => rfl); (case hg => rfl); (case hr => first | (go_simp; done) | (go_simp; rfl)); (case hp => exact (Reps.one (show Kd.M (Kd.int .u32) _ _ _ a1 [.int .u32 a1] from rfl) (Reps.one (show Kd.M (Kd.int .u32) _ _ _ a2 [.int .u32 a2] from rfl) (Reps.none _ _)))); intro v439 w6 ho7 hb hg_ hnew_; clear hg_ hnew_; (first | rw [← Ny438.out] at ho7 | (simp only [Int.reduceToNat] at ho7; rw [← Ny438.out] at ho7)); have n0_ := Aside0.mk (Kd.R_lower ho7 (below_size (bl0 HB.out))); have n1_ := Aside0.mk (below_step (bl0 HB.out) hb); clear HB; have HO440 := n0_; have HB := n1_; clear n0_ n1_; clear hb ho7; obtain ⟨Ao8, co8, eo8⟩ := Kd.R_slice HO440.out; subst eo8) | ((with_reducible refine gate_callee (f := 42) rfl ?_); refine goesL_ (some 17) rfl rfl Try.func42 (by kernel_rfl) rfl #[.int .i64 a0, .slice Ao8 y438.length co8] rfl gl ?_; (with_reducible refine (annealref1_nans.calls k a0 _ _ y438 true t442 _ ?side1 ?side2 A4.out).mono ?_); (case side1 => repeat (first | exact (Kd.R_reads' HO440.out).2.2 | (with_reducible refine Kd.C_alloc ?_ _) | (with_reducible refine Kd.C_drewN ?_ _) | (with_reducible refine Kd.C_drew ?_))); (case side2 => exact (Kd.R_reads' HO440.out).2.1); rintro e w' ⟨rfl, ⟨nd, rfl⟩⟩; refine ⟨_, rfl, ?_⟩))
  go_ret2
  exact ⟨by first | rfl | (simp [errW_none, errW_some] <;> rfl) | (simp [*, errW_none, errW_some] <;> rfl), bl0 HB.out⟩
 ·replace c5 := Bool.eq_false_iff.mpr c5
  subst c5
  have H1 : ((annealref1_zero.f k a0 a1).bind fun t443 => (if t443 = true then ((annealref1_zero.f k a0 a2).bind fun t444 => (annealref1_Compare.j0 k a0 a1 a2 t444)) else (annealref1_Compare.j0 k a0 a1 a2 false))) = some (r1, r2) := by rw [if_neg (show ¬ (false = true) by decide)] at H; exact H
  clear H
  have H := H1
  clear H1
  have HC9 := Aside0.mk H
  clear H
  go_enter Try.func45, Try.ntmps45
  go_upto_region 4 with (first | ((with_reducible refine gate_dst (N := 16) rfl ?_); refine Kd.R_lit (Kd.int .u32) _ 22 ?hg (N := 16) ?hd (xs := ([a1, a2] : List Int)) (inner := [.int .u32 a1, .int .u32 a2]) (ok := fun _ => True) (okp := fun _ => True) ?hr ?hp (fun _ hk => hk) trivial (Below.refl _ _) (Nat.le_refl _) (by simp) ?_; (case hd => rfl); (case hg => rfl); (case hr => first | (go_simp; done) | (go_simp; rfl)); (case hp => exact (Reps.one (show Kd.M (Kd.int .u32) _ _ _ a1 [.int .u32 a1] from rfl) (Reps.one (show Kd.M (Kd.int .u32) _ _ _ a2 [.int .u32 a2] from rfl) (Reps.none _ _)))); intro v439 w10 ho11 hb hg_ hnew_; clear hg_ hnew_; (first | rw [← Ny438.out] at ho11 | (simp only [Int.reduceToNat] at ho11; rw [← Ny438.out] at ho11)); have n0_ := Aside0.mk (Kd.R_lower ho11 (below_size (bl0 HB.out))); have n1_ := Aside0.mk (below_step (bl0 HB.out) hb); clear HB; have HO440 := n0_; have HB := n1_; clear n0_ n1_; clear hb ho11; obtain ⟨Ao12, co12, eo12⟩ := Kd.R_slice HO440.out; subst eo12) | ((with_reducible refine gate_callee (f := 42) rfl ?_); refine goesL_ (some 17) rfl rfl Try.func42 (by kernel_rfl) rfl #[.int .i64 a0, .slice Ao12 y438.length co12] rfl gl ?_; (with_reducible refine (annealref1_nans.calls k a0 _ _ y438 false t442 _ ?side1 ?side2 A4.out).mono ?_); (case side1 => repeat (first | exact (Kd.R_reads' HO440.out).2.2 | (with_reducible refine Kd.C_alloc ?_ _) | (with_reducible refine Kd.C_drewN ?_ _) | (with_reducible refine Kd.C_drew ?_))); (case side2 => exact (Kd.R_reads' HO440.out).2.1); rintro e w' ⟨rfl, ⟨nd, rfl⟩⟩; refine ⟨_, rfl, ?_⟩))
  (try simp only [Act.put, sb, sz, ss])
  go_cut [28] (fun v28 wc => ∃ (kq : Nat) (x28_8 : Bool), v28 = .bool x28_8 ∧ Aside0 (annealref1_Compare.j0 kq a0 a1 a2 x28_8 = some (r1, r2)) ∧ Aside0 (kq ≤ k) ∧ Aside0 (Below w.heap.size w wc))
  case first =>
   have H := HC9.out
   clear HC9
   replace H := Option.bind_eq_some_iff.mp H
   obtain ⟨t443, A130, H⟩ := H
   replace H : (if t443 = true then ((annealref1_zero.f k a0 a2).bind fun t444 => (annealref1_Compare.j0 k a0 a1 a2 t444)) else (annealref1_Compare.j0 k a0 a1 a2 false)) = some (r1, r2) := H
   have A13 := Aside0.mk A130
   clear A130
   by_cases c14 : t443 = true
   ·subst c14
    have H1 : ((annealref1_zero.f k a0 a2).bind fun t444 => (annealref1_Compare.j0 k a0 a1 a2 t444)) = some (r1, r2) := by rw [if_pos rfl] at H; exact H
    clear H
    have H := H1
    clear H1
    replace H := Option.bind_eq_some_iff.mp H
    obtain ⟨t444, A150, H⟩ := H
    replace H : (annealref1_Compare.j0 k a0 a1 a2 t444) = some (r1, r2) := H
    have A15 := Aside0.mk A150
    clear A150
    have H' := Aside0.mk H
    clear H
    go_wp2_with (first | ((with_reducible refine gate_callee (f := 51) rfl ?_); refine goesL_ (some 23) rfl rfl Try.func51 (by kernel_rfl) rfl #[.int .i64 a0, .int .u32 a1] rfl gl ?_; (with_reducible refine (annealref1_zero.calls k a0 a1 true _ A13.out).mono ?_); rintro e w' ⟨rfl, ⟨nd, rfl⟩⟩; refine ⟨_, rfl, ?_⟩) | (go_at_call 51; (with_reducible refine (annealref1_zero.calls k a0 a2 t444 _ A15.out).mono ?_); rintro e w' ⟨rfl, ⟨nd, rfl⟩⟩))
    go_meet
    case rel => exact ⟨_, (t444), (by first | rfl | (simp; done) | (simp [*]; done) | (congr 1; (try unfold wrap64); omega) | (congr 1; rw [IntKind.wrap_u64]; omega)), H', ⟨by first | omega | exact Nat.le_refl _⟩, ⟨bl0 HB.out⟩⟩
   ·replace c14 := Bool.eq_false_iff.mpr c14
    subst c14
    have H1 : (annealref1_Compare.j0 k a0 a1 a2 false) = some (r1, r2) := by rw [if_neg (show ¬ (false = true) by decide)] at H; exact H
    clear H
    have H := H1
    clear H1
    have H' := Aside0.mk H
    clear H
    go_wp2_with (first | ((with_reducible refine gate_callee (f := 51) rfl ?_); refine goesL_ (some 23) rfl rfl Try.func51 (by kernel_rfl) rfl #[.int .i64 a0, .int .u32 a1] rfl gl ?_; (with_reducible refine (annealref1_zero.calls k a0 a1 false _ A13.out).mono ?_); rintro e w' ⟨rfl, ⟨nd, rfl⟩⟩; refine ⟨_, rfl, ?_⟩))
    go_meet
    case rel => exact ⟨_, (false), (by first | rfl | (simp; done) | (simp [*]; done) | (congr 1; (try unfold wrap64); omega) | (congr 1; rw [IntKind.wrap_u64]; omega)), H', ⟨by first | omega | exact Nat.le_refl _⟩, ⟨bl0 HB.out⟩⟩
  case rest =>
   clear HC9
   try clear c1 p2 c4 c5 p6 c14
   obtain ⟨kq, x28_8, rfl, HA, HJ8, HB⟩ := hcut
   cases kq with
   |zero => exact absurd HA.out (by simp [annealref1_Compare.j0])
   |succ kj8 =>
    have H := HA.out
    clear HA
    simp only [annealref1_Compare.j0] at H
    by_cases c16 : x28_8 = true
    ·subst c16
     have H1 : (some (0, true)) = some (r1, r2) := by rw [if_pos rfl] at H; exact H
     clear H
     have H := H1
     clear H1
     simp only [Option.some.injEq, Prod.mk.injEq] at H
     obtain ⟨rfl, rfl⟩ := H
     go_wp2
     go_ret2
     exact ⟨by first | rfl | (simp [errW_none, errW_some] <;> rfl) | (simp [*, errW_none, errW_some] <;> rfl), bl0 HB.out⟩
    ·replace c16 := Bool.eq_false_iff.mpr c16
     subst c16
     have H1 : ((annealref1_Key.f a0 a1).bind fun t445 => ((annealref1_Key.f a0 a2).bind fun t446 => (if t445 < t446 then (some ((-1), true)) else (if t445 > t446 then (some (1, true)) else (some (0, true)))))) = some (r1, r2) := by rw [if_neg (show ¬ (false = true) by decide)] at H; exact H
     clear H
     have H := H1
     clear H1
     replace H := Option.bind_eq_some_iff.mp H
     obtain ⟨t445, A170, H⟩ := H
     replace H : ((annealref1_Key.f a0 a2).bind fun t446 => (if t445 < t446 then (some ((-1), true)) else (if t445 > t446 then (some (1, true)) else (some (0, true))))) = some (r1, r2) := H
     have A17 := Aside0.mk A170
     clear A170
     replace H := Option.bind_eq_some_iff.mp H
     obtain ⟨t446, A180, H⟩ := H
     replace H : (if t445 < t446 then (some ((-1), true)) else (if t445 > t446 then (some (1, true)) else (some (0, true)))) = some (r1, r2) := H
     have A18 := Aside0.mk A180
     clear A180
     by_cases c19 : t445 < t446
     ·rw [if_pos c19] at H
      have c19b0 : decide (t445 < t446) = true := decide_eq_true c19
      clear c19
      simp only [Option.some.injEq, Prod.mk.injEq] at H
      obtain ⟨rfl, rfl⟩ := H
      go_wp2_with (first | ((with_reducible refine gate_callee (f := 20) rfl ?_); refine goesL_ (some 31) rfl rfl Try.func20 (by kernel_rfl) rfl #[.int .i64 a0, .int .u32 a1] rfl gl ?_; (with_reducible refine (annealref1_Key.calls a0 a1 t445 _ A17.out).mono ?_); rintro e w' ⟨rfl, ⟨nd, rfl⟩⟩; refine ⟨_, rfl, ?_⟩) | ((with_reducible refine gate_callee (f := 20) rfl ?_); refine goesL_ (some 34) rfl rfl Try.func20 (by kernel_rfl) rfl #[.int .i64 a0, .int .u32 a2] rfl gl ?_; (with_reducible refine (annealref1_Key.calls a0 a2 t446 _ A18.out).mono ?_); rintro e w' ⟨rfl, ⟨nd, rfl⟩⟩; refine ⟨_, rfl, ?_⟩))
      go_ret2
      exact ⟨by first | rfl | (simp [errW_none, errW_some] <;> rfl) | (simp [*, errW_none, errW_some] <;> rfl), bl0 HB.out⟩
     ·rw [if_neg c19] at H
      have c19b0 : decide (t445 < t446) = false := decide_eq_false c19
      clear c19
      by_cases c20 : t445 > t446
      ·rw [if_pos c20] at H
       have c20b0 : decide (t446 < t445) = true := decide_eq_true c20
       clear c20
       simp only [Option.some.injEq, Prod.mk.injEq] at H
       obtain ⟨rfl, rfl⟩ := H
       go_wp2_with (first | ((with_reducible refine gate_callee (f := 20) rfl ?_); refine goesL_ (some 31) rfl rfl Try.func20 (by kernel_rfl) rfl #[.int .i64 a0, .int .u32 a1] rfl gl ?_; (with_reducible refine (annealref1_Key.calls a0 a1 t445 _ A17.out).mono ?_); rintro e w' ⟨rfl, ⟨nd, rfl⟩⟩; refine ⟨_, rfl, ?_⟩) | ((with_reducible refine gate_callee (f := 20) rfl ?_); refine goesL_ (some 34) rfl rfl Try.func20 (by kernel_rfl) rfl #[.int .i64 a0, .int .u32 a2] rfl gl ?_; (with_reducible refine (annealref1_Key.calls a0 a2 t446 _ A18.out).mono ?_); rintro e w' ⟨rfl, ⟨nd, rfl⟩⟩; refine ⟨_, rfl, ?_⟩))
       go_ret2
       exact ⟨by first | rfl | (simp [errW_none, errW_some] <;> rfl) | (simp [*, errW_none, errW_some] <;> rfl), bl0 HB.out⟩
      ·rw [if_neg c20] at H
       have c20b0 : decide (t446 < t445) = false := decide_eq_false c20
       clear c20
       simp only [Option.some.injEq, Prod.mk.injEq] at H
       obtain ⟨rfl, rfl⟩ := H
       go_wp2_with (first | ((with_reducible refine gate_callee (f := 20) rfl ?_); refine goesL_ (some 31) rfl rfl Try.func20 (by kernel_rfl) rfl #[.int .i64 a0, .int .u32 a1] rfl gl ?_; (with_reducible refine (annealref1_Key.calls a0 a1 t445 _ A17.out).mono ?_); rintro e w' ⟨rfl, ⟨nd, rfl⟩⟩; refine ⟨_, rfl, ?_⟩) | ((with_reducible refine gate_callee (f := 20) rfl ?_); refine goesL_ (some 34) rfl rfl Try.func20 (by kernel_rfl) rfl #[.int .i64 a0, .int .u32 a2] rfl gl ?_; (with_reducible refine (annealref1_Key.calls a0 a2 t446 _ A18.out).mono ?_); rintro e w' ⟨rfl, ⟨nd, rfl⟩⟩; refine ⟨_, rfl, ?_⟩))
       go_ret2
       exact ⟨by first | rfl | (simp [errW_none, errW_some] <;> rfl) | (simp [*, errW_none, errW_some] <;> rfl), bl0 HB.out⟩

end Go.Proofs.Ytlkjoibpfhjhcaa.P
