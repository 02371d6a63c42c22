import Derived.Test.YtjlgmfgjleajfaaGreatQzuZ
import Derived.Test.YtjlgmfgjleajfaaGreatQzuM5
import Derived.Test.YtjlgmfgjleajfaaGreatQzuM13
import Derived.Test.YtjlgmfgjleajfaaGreatQzuM11
import Derived.Test.YtjlgmfgjleajfaaGreatQzuM8
import Derived.Test.YtjlgmfgjleajfaaGreatQzuM7
import Derived.Test.YtjlgmfgjleajfaaGreatQzuM3
import Derived.Test.YtjlgmfgjleajfaaGreatQzuM12
-- Printed by a program of this session's out of Lean's print of the translation; Lean checks it.
set_option linter.unusedVariables false
set_option linter.unusedSimpArgs false
set_option maxRecDepth 100000
set_option maxHeartbeats 8000000
namespace Go.Proofs.YtjlgmfgjleajfaaGreat.P
open Go.RowKit Go.Proofs.YtjlgmfgjleajfaaGreatW.PrintWords Go.Proofs.YtjlgmfgjleajfaaGreatW.PrintLast Go.Proofs.YtjlgmfgjleajfaaGreatW.PrintMore
attribute [local go_sem] max2_int min2_int max_two min_two max_three min_three max_four min_four

-- NEED 4
/-! ### fG: function 22 -/
def fG.f (k : Nat) (a0 : Int) : Option (Int) := (fU.f k a0).bind fun t497 => (if t497 = true then ((jF.f).bind fun t498 => (some t498)) else ((gK.f k a0 1056964608).bind fun t499 => ((dF.f k 1078530011 t499).bind fun t500 => ((dF.f k t500 t500).bind fun t501 => ((dJ.f k t501 3109031169 (([1007192201, 3190467243, 1065353216] : List Int))).bind fun t505 => ((dF.f k t500 t505).bind fun t506 => ((fP.f t506).bind fun t507 => (some t507))))))))
theorem fG.mono : ∀ a0 k, LeO (fG.f k a0) (fG.f (k + 1) a0) := by
 intro a0 k
 unfold fG.f
 repeat' first
   |(with_reducible first|exact fU.mono _ _|exact dF.mono _ _ _|exact gK.mono _ _ _|exact dJ.mono _ _ _ _|exact LeO.refl _|exact LeO.none _|refine LeO.ite ?_ ?_|refine LeO.bind ?_ (fun _ => ?_))
   |exact fU.mono _ _
   |exact dF.mono _ _ _
   |exact gK.mono _ _ _
   |exact dJ.mono _ _ _ _
   |exact LeO.none _
   |refine LeO.ite ?_ ?_
   |refine LeO.bind ?_ (fun _ => ?_)
theorem fG.calls (k : Nat) (a0 r : Int) (w : World) (h : fG.f k a0 = some r) :
  Calls Tryz.prog 22 #[.int .u32 a0] w fun e w' => e = .returned (.int .u32 r) ∧ Below w.heap.size w w' := by
 have HB := Aside0.mk (Below.refl w.heap.size w)
 have H : ((fU.f k a0).bind fun t497 => (if t497 = true then ((jF.f).bind fun t498 => (some t498)) else ((gK.f k a0 1056964608).bind fun t499 => ((dF.f k 1078530011 t499).bind fun t500 => ((dF.f k t500 t500).bind fun t501 => ((dJ.f k t501 3109031169 (([1007192201, 3190467243, 1065353216] : List Int))).bind fun t505 => ((dF.f k t500 t505).bind fun t506 => ((fP.f t506).bind fun t507 => (some t507))))))))) = some r := h
 clear h
 replace H := bq_ H
 obtain ⟨t497, A20, H⟩ := H
 replace H : (if t497 = true then ((jF.f).bind fun t498 => (some t498)) else ((gK.f k a0 1056964608).bind fun t499 => ((dF.f k 1078530011 t499).bind fun t500 => ((dF.f k t500 t500).bind fun t501 => ((dJ.f k t501 3109031169 (([1007192201, 3190467243, 1065353216] : List Int))).bind fun t505 => ((dF.f k t500 t505).bind fun t506 => ((fP.f t506).bind fun t507 => (some t507)))))))) = some r := H
 have A2 := Aside0.mk A20
 clear A20
 by_cases c3 : t497 = true
 ·subst c3
  have H1 : ((jF.f).bind fun t498 => (some t498)) = some r := by rw [if_pos rfl] at H; exact H
  clear H
  have H := H1
  clear H1
  replace H := bq_ H
  obtain ⟨t498, A40, H⟩ := H
  replace H : (some t498) = some r := H
  have A4 := Aside0.mk A40
  clear A40
  obtain rfl := Option.some.inj H
  go_enter Tryz.func22, Tryz.ntmps22
  go_wp2_with (first | ((with_reducible refine gate_callee (f := 44) rfl ?_); refine goesL_ (some 6) rfl rfl Tryz.func44 (by kernel_rfl) rfl #[.int .u32 a0] rfl gl ?_; (with_reducible refine (fU.calls k a0 true _ A2.out).mono ?_); rintro e w' ⟨rfl, ⟨nd, rfl⟩⟩; refine ⟨_, rfl, ?_⟩) | ((with_reducible refine gate_callee (f := 45) rfl ?_); refine goesL_ (some 7) rfl rfl Tryz.func45 (by kernel_rfl) rfl #[] rfl gl ?_; (with_reducible refine (jF.calls  t498 _ A4.out).mono ?_); rintro e w' ⟨rfl, ⟨nd, rfl⟩⟩; refine ⟨_, rfl, ?_⟩))
  go_ret
  exact ⟨by first | rfl | (simp [aP, aQ] <;> rfl) | (simp [*, aP, aQ] <;> rfl), bl0 HB.out⟩
 ·replace c3 := Bool.eq_false_iff.mpr c3
  subst c3
  have H1 : ((gK.f k a0 1056964608).bind fun t499 => ((dF.f k 1078530011 t499).bind fun t500 => ((dF.f k t500 t500).bind fun t501 => ((dJ.f k t501 3109031169 (([1007192201, 3190467243, 1065353216] : List Int))).bind fun t505 => ((dF.f k t500 t505).bind fun t506 => ((fP.f t506).bind fun t507 => (some t507))))))) = some r := by rw [if_neg (show ¬ (false = true) by decide)] at H; exact H
  clear H
  have H := H1
  clear H1
  replace H := bq_ H
  obtain ⟨t499, A50, H⟩ := H
  replace H : ((dF.f k 1078530011 t499).bind fun t500 => ((dF.f k t500 t500).bind fun t501 => ((dJ.f k t501 3109031169 (([1007192201, 3190467243, 1065353216] : List Int))).bind fun t505 => ((dF.f k t500 t505).bind fun t506 => ((fP.f t506).bind fun t507 => (some t507)))))) = some r := H
  have A5 := Aside0.mk A50
  clear A50
  replace H := bq_ H
  obtain ⟨t500, A60, H⟩ := H
  replace H : ((dF.f k t500 t500).bind fun t501 => ((dJ.f k t501 3109031169 (([1007192201, 3190467243, 1065353216] : List Int))).bind fun t505 => ((dF.f k t500 t505).bind fun t506 => ((fP.f t506).bind fun t507 => (some t507))))) = some r := H
  have A6 := Aside0.mk A60
  clear A60
  replace H := bq_ H
  obtain ⟨t501, A70, H⟩ := H
  replace H : ((dJ.f k t501 3109031169 (([1007192201, 3190467243, 1065353216] : List Int))).bind fun t505 => ((dF.f k t500 t505).bind fun t506 => ((fP.f t506).bind fun t507 => (some t507)))) = some r := H
  have A7 := Aside0.mk A70
  clear A70
  obtain ⟨y502, hy502⟩ : ∃ y_ : List Int, y_ = (([1007192201, 3190467243, 1065353216] : List Int)) := ⟨_, rfl⟩
  replace H : ((dJ.f k t501 3109031169 y502).bind fun t505 => ((dF.f k t500 t505).bind fun t506 => ((fP.f t506).bind fun t507 => (some t507)))) = some r := by first | (rw [hy502]; with_reducible exact H) | (have H2_ := (Option.bind_some _ _).symm.trans H; rw [hy502]; with_reducible exact H2_) | (have H2_ := (Option.bind_some _ _).symm.trans H; with_reducible exact H2_) | with_reducible exact H | (rw [hy502]; exact H) | exact H
  have Ny502 := Aside0.mk hy502
  clear hy502
  replace H := bq_ H
  obtain ⟨t505, A80, H⟩ := H
  replace H : ((dF.f k t500 t505).bind fun t506 => ((fP.f t506).bind fun t507 => (some t507))) = some r := H
  have A8 := Aside0.mk A80
  clear A80
  replace H := bq_ H
  obtain ⟨t506, A90, H⟩ := H
  replace H : ((fP.f t506).bind fun t507 => (some t507)) = some r := H
  have A9 := Aside0.mk A90
  clear A90
  replace H := bq_ H
  obtain ⟨t507, A100, H⟩ := H
  replace H : (some t507) = some r := H
  have A10 := Aside0.mk A100
  clear A100
  obtain rfl := Option.some.inj H
  go_enter Tryz.func22, Tryz.ntmps22
  go_wp2_with (first | ((with_reducible refine gate_callee (f := 44) rfl ?_); refine goesL_ (some 6) rfl rfl Tryz.func44 (by kernel_rfl) rfl #[.int .u32 a0] rfl gl ?_; (with_reducible refine (fU.calls k a0 false _ A2.out).mono ?_); rintro e w' ⟨rfl, ⟨nd, rfl⟩⟩; refine ⟨_, rfl, ?_⟩) | ((with_reducible refine gate_callee (f := 46) rfl ?_); refine goesL_ (some 9) rfl rfl Tryz.func46 (by kernel_rfl) rfl #[.int .u32 a0, .int .u32 1056964608] rfl gl ?_; (with_reducible refine (gK.calls k a0 1056964608 t499 _ A5.out).mono ?_); rintro e w11 ⟨rfl, hb⟩; refine ⟨_, rfl, ?_⟩; have n0_ := Aside0.mk (below_step (bl0 HB.out) hb); clear HB; have HB := n0_; clear n0_) | ((with_reducible refine gate_callee (f := 18) rfl ?_); refine goesL_ (some 10) rfl rfl Tryz.func18 (by kernel_rfl) rfl #[.int .u32 1078530011, .int .u32 t499] rfl gl ?_; (with_reducible refine (dF.calls k 1078530011 t499 t500 _ A6.out).mono ?_); rintro e w12 ⟨rfl, hb⟩; refine ⟨_, rfl, ?_⟩; have n0_ := Aside0.mk (below_step (bl0 HB.out) hb); clear HB; have HB := n0_; clear n0_) | ((with_reducible refine gate_callee (f := 18) rfl ?_); refine goesL_ (some 13) rfl rfl Tryz.func18 (by kernel_rfl) rfl #[.int .u32 t500, .int .u32 t500] rfl gl ?_; (with_reducible refine (dF.calls k t500 t500 t501 _ A7.out).mono ?_); rintro e w13 ⟨rfl, hb⟩; refine ⟨_, rfl, ?_⟩; have n0_ := Aside0.mk (below_step (bl0 HB.out) hb); clear HB; have HB := n0_; clear n0_) | ((with_reducible refine gate_dst (N := 16) rfl ?_); refine Kd.R_lit (Kd.int .u32) _ 22 ?hg (N := 16) ?hd (xs := ([1007192201, 3190467243, 1065353216] : List Int)) (inner := [.int .u32 1007192201, .int .u32 3190467243, .int .u32 1065353216]) (ok := fun _ => True) (okp := fun _ => True) ?hr ?hp (fun _ hk => hk) trivial (Below.refl _ _) (Nat.le_refl _) (by simp) ?_; (case hd => rfl); (case hg => rfl); (case hr => first | (go_simp; done) | (go_simp; rfl)); (case hp => exact (Reps.one (show Kd.M (Kd.int .u32) _ _ _ 1007192201 [.int .u32 1007192201] from rfl) (Reps.one (show Kd.M (Kd.int .u32) _ _ _ 3190467243 [.int .u32 3190467243] from rfl) (Reps.one (show Kd.M (Kd.int .u32) _ _ _ 1065353216 [.int .u32 1065353216] from rfl) (Reps.none _ _))))); intro v503 w14 ho15 hb hg_ hnew_; clear hg_ hnew_; (first | rw [← Ny502.out] at ho15 | (simp only [Int.reduceToNat] at ho15; rw [← Ny502.out] at ho15)); have n0_ := Aside0.mk (Kd.R_lower ho15 (below_size (bl0 HB.out))); have n1_ := Aside0.mk (below_step (bl0 HB.out) hb); clear HB; have HO504 := n0_; have HB := n1_; clear n0_ n1_; clear hb ho15; obtain ⟨Ao16, co16, eo16⟩ := Kd.R_slice HO504.out; subst eo16) | ((with_reducible refine gate_callee (f := 48) rfl ?_); refine goesL_ (some 17) rfl rfl Tryz.func48 (by kernel_rfl) rfl #[.int .u32 t501, .int .u32 3109031169, .slice Ao16 y502.length co16] rfl gl ?_; (with_reducible refine (dJ.calls k t501 3109031169 _ _ y502 t505 _ ?side1 ?side2 A8.out).mono ?_); (case side1 => repeat (first | exact (Kd.R_reads' HO504.out).2.2 | (with_reducible refine Kd.C_alloc ?_ _) | (with_reducible refine Kd.C_drewN ?_ _) | (with_reducible refine Kd.C_drew ?_))); (case side2 => exact (Kd.R_reads' HO504.out).2.1); rintro e w17 ⟨rfl, hb⟩; refine ⟨_, rfl, ?_⟩; have n0_ := Aside0.mk (Kd.R_below (by (with_reducible repeat (first | apply Kd.R_alloc | apply Kd.R_drewN | apply Kd.R_drew)); exact HO504.out) hb); have n1_ := Aside0.mk (below_step (bl0 HB.out) hb); clear HO504; clear HB; have HO504 := n0_; have HB := n1_; clear n0_ n1_) | ((with_reducible refine gate_callee (f := 18) rfl ?_); refine goesL_ (some 18) rfl rfl Tryz.func18 (by kernel_rfl) rfl #[.int .u32 t500, .int .u32 t505] rfl gl ?_; (with_reducible refine (dF.calls k t500 t505 t506 _ A9.out).mono ?_); rintro e w18 ⟨rfl, hb⟩; refine ⟨_, rfl, ?_⟩; have n0_ := Aside0.mk (Kd.R_below (by (with_reducible repeat (first | apply Kd.R_alloc | apply Kd.R_drewN | apply Kd.R_drew)); exact HO504.out) hb); have n1_ := Aside0.mk (below_step (bl0 HB.out) hb); clear HO504; clear HB; have HO504 := n0_; have HB := n1_; clear n0_ n1_) | ((with_reducible refine gate_callee (f := 47) rfl ?_); refine goesL_ (some 19) rfl rfl Tryz.func47 (by kernel_rfl) rfl #[.int .u32 t506] rfl gl ?_; (with_reducible refine (fP.calls t506 t507 _ A10.out).mono ?_); rintro e w' ⟨rfl, ⟨nd, rfl⟩⟩; refine ⟨_, rfl, ?_⟩))
  go_ret
  exact ⟨by first | rfl | (simp [aP, aQ] <;> rfl) | (simp [*, aP, aQ] <;> rfl), bl0 HB.out⟩

-- NEED 4
/-! ### eO: function 12 -/
def eO.f (k : Nat) (a0 a1 : Int) : Option (Int) := if a0 ≥ a1 then (some 0) else ((eD.f k a0).bind fun t508 => ((eD.f k a1).bind fun t509 => ((eU.f k t508 t509).bind fun t510 => ((fG.f k t510).bind fun t511 => ((gF.f k 1065353216 t511).bind fun t512 => ((dF.f k 1056964608 t512).bind fun t513 => (some t513)))))))
theorem eO.mono : ∀ a0 a1 k, LeO (eO.f k a0 a1) (eO.f (k + 1) a0 a1) := by
 intro a0 a1 k
 unfold eO.f
 repeat' first
   |(with_reducible first|exact gF.mono _ _ _|exact fG.mono _ _|exact eU.mono _ _ _|exact eD.mono _ _|exact dF.mono _ _ _|exact LeO.refl _|exact LeO.none _|refine LeO.ite ?_ ?_|refine LeO.bind ?_ (fun _ => ?_))
   |exact gF.mono _ _ _
   |exact fG.mono _ _
   |exact eU.mono _ _ _
   |exact eD.mono _ _
   |exact dF.mono _ _ _
   |exact LeO.none _
   |refine LeO.ite ?_ ?_
   |refine LeO.bind ?_ (fun _ => ?_)
theorem eO.calls (k : Nat) (a0 a1 r : Int) (w : World) (h : eO.f k a0 a1 = some r) :
  Calls Tryz.prog 12 #[.int .i64 a0, .int .i64 a1] w fun e w' => e = .returned (.int .u32 r) ∧ Below w.heap.size w w' := by
 have HB := Aside0.mk (Below.refl w.heap.size w)
 have H : (if a0 ≥ a1 then (some 0) else ((eD.f k a0).bind fun t508 => ((eD.f k a1).bind fun t509 => ((eU.f k t508 t509).bind fun t510 => ((fG.f k t510).bind fun t511 => ((gF.f k 1065353216 t511).bind fun t512 => ((dF.f k 1056964608 t512).bind fun t513 => (some t513)))))))) = some r := h
 clear h
 by_cases c3 : a0 ≥ a1
 ·rw [if_pos c3] at H
  have c3b0 : decide (a1 ≤ a0) = true := decide_eq_true c3
  clear c3
  obtain rfl := Option.some.inj H
  go_enter Tryz.func12, Tryz.ntmps12
  go_wp2
  go_ret
  exact ⟨by first | rfl | (simp [aP, aQ] <;> rfl) | (simp [*, aP, aQ] <;> rfl), bl0 HB.out⟩
 ·rw [if_neg c3] at H
  have c3b0 : decide (a1 ≤ a0) = false := decide_eq_false c3
  clear c3
  replace H := bq_ H
  obtain ⟨t508, A40, H⟩ := H
  replace H : ((eD.f k a1).bind fun t509 => ((eU.f k t508 t509).bind fun t510 => ((fG.f k t510).bind fun t511 => ((gF.f k 1065353216 t511).bind fun t512 => ((dF.f k 1056964608 t512).bind fun t513 => (some t513)))))) = some r := H
  have A4 := Aside0.mk A40
  clear A40
  replace H := bq_ H
  obtain ⟨t509, A50, H⟩ := H
  replace H : ((eU.f k t508 t509).bind fun t510 => ((fG.f k t510).bind fun t511 => ((gF.f k 1065353216 t511).bind fun t512 => ((dF.f k 1056964608 t512).bind fun t513 => (some t513))))) = some r := H
  have A5 := Aside0.mk A50
  clear A50
  replace H := bq_ H
  obtain ⟨t510, A60, H⟩ := H
  replace H : ((fG.f k t510).bind fun t511 => ((gF.f k 1065353216 t511).bind fun t512 => ((dF.f k 1056964608 t512).bind fun t513 => (some t513)))) = some r := H
  have A6 := Aside0.mk A60
  clear A60
  replace H := bq_ H
  obtain ⟨t511, A70, H⟩ := H
  replace H : ((gF.f k 1065353216 t511).bind fun t512 => ((dF.f k 1056964608 t512).bind fun t513 => (some t513))) = some r := H
  have A7 := Aside0.mk A70
  clear A70
  replace H := bq_ H
  obtain ⟨t512, A80, H⟩ := H
  replace H : ((dF.f k 1056964608 t512).bind fun t513 => (some t513)) = some r := H
  have A8 := Aside0.mk A80
  clear A80
  replace H := bq_ H
  obtain ⟨t513, A90, H⟩ := H
  replace H : (some t513) = some r := H
  have A9 := Aside0.mk A90
  clear A90
  obtain rfl := Option.some.inj H
  go_enter Tryz.func12, Tryz.ntmps12
  go_wp2_with (first | ((with_reducible refine gate_callee (f := 11) rfl ?_); refine goesL_ (some 9) rfl rfl Tryz.func11 (by kernel_rfl) rfl #[.int .i64 a0] rfl gl ?_; (with_reducible refine (eD.calls k a0 t508 _ A4.out).mono ?_); rintro e w10 ⟨rfl, hb⟩; refine ⟨_, rfl, ?_⟩; have n0_ := Aside0.mk (below_step (bl0 HB.out) hb); clear HB; have HB := n0_; clear n0_) | ((with_reducible refine gate_callee (f := 11) rfl ?_); refine goesL_ (some 11) rfl rfl Tryz.func11 (by kernel_rfl) rfl #[.int .i64 a1] rfl gl ?_; (with_reducible refine (eD.calls k a1 t509 _ A5.out).mono ?_); rintro e w11 ⟨rfl, hb⟩; refine ⟨_, rfl, ?_⟩; have n0_ := Aside0.mk (below_step (bl0 HB.out) hb); clear HB; have HB := n0_; clear n0_) | ((with_reducible refine gate_callee (f := 10) rfl ?_); refine goesL_ (some 12) rfl rfl Tryz.func10 (by kernel_rfl) rfl #[.int .u32 t508, .int .u32 t509] rfl gl ?_; (with_reducible refine (eU.calls k t508 t509 t510 _ A6.out).mono ?_); rintro e w12 ⟨rfl, hb⟩; refine ⟨_, rfl, ?_⟩; have n0_ := Aside0.mk (below_step (bl0 HB.out) hb); clear HB; have HB := n0_; clear n0_) | ((with_reducible refine gate_callee (f := 22) rfl ?_); refine goesL_ (some 13) rfl rfl Tryz.func22 (by kernel_rfl) rfl #[.int .u32 t510] rfl gl ?_; (with_reducible refine (fG.calls k t510 t511 _ A7.out).mono ?_); rintro e w13 ⟨rfl, hb⟩; refine ⟨_, rfl, ?_⟩; have n0_ := Aside0.mk (below_step (bl0 HB.out) hb); clear HB; have HB := n0_; clear n0_) | ((with_reducible refine gate_callee (f := 21) rfl ?_); refine goesL_ (some 14) rfl rfl Tryz.func21 (by kernel_rfl) rfl #[.int .u32 1065353216, .int .u32 t511] rfl gl ?_; (with_reducible refine (gF.calls k 1065353216 t511 t512 _ A8.out).mono ?_); rintro e w14 ⟨rfl, hb⟩; refine ⟨_, rfl, ?_⟩; have n0_ := Aside0.mk (below_step (bl0 HB.out) hb); clear HB; have HB := n0_; clear n0_) | ((with_reducible refine gate_callee (f := 18) rfl ?_); refine goesL_ (some 15) rfl rfl Tryz.func18 (by kernel_rfl) rfl #[.int .u32 1056964608, .int .u32 t512] rfl gl ?_; (with_reducible refine (dF.calls k 1056964608 t512 t513 _ A9.out).mono ?_); rintro e w15 ⟨rfl, hb⟩; refine ⟨_, rfl, ?_⟩; have n0_ := Aside0.mk (below_step (bl0 HB.out) hb); clear HB; have HB := n0_; clear n0_))
  go_ret
  exact ⟨by first | rfl | (simp [aP, aQ] <;> rfl) | (simp [*, aP, aQ] <;> rfl), bl0 HB.out⟩

-- NEED 4
/-! ### dL: function 6 -/
def dL.f (k : Nat) (a0 a1 : Int) (a2 a3 : Int) : Option (Int) := if (mx a3 0) < (mx a1 0) then ((eD.f k (wrap64 ((mx a3 0) + 1))).bind fun t514 => ((eD.f k (mx a1 0)).bind fun t515 => ((eU.f k t514 t515).bind fun t516 => (some t516)))) else (if a0 = 1 then ((eO.f k (wrap64 ((mx a3 0) - (mx a1 0))) (wrap64 ((mx a2 0) - (mx a1 0)))).bind fun t517 => (some t517)) else (if a0 = 2 then (if (wrap64 ((mx a3 0) - (mx a1 0))) < (wrap64 (Int.tdiv (wrap64 ((mx a2 0) - (mx a1 0))) 2)) then (some 1065353216) else (if (wrap64 ((mx a3 0) - (mx a1 0))) < (wrap64 ((wrap64 (Int.tdiv (wrap64 ((mx a2 0) - (mx a1 0))) 4)) * 3)) then (some 1036831949) else (some 1008981770))) else (some 1065353216)))
theorem dL.mono : ∀ a0 a1 a2 a3 k, LeO (dL.f k a0 a1 a2 a3) (dL.f (k + 1) a0 a1 a2 a3) := by
 intro a0 a1 a2 a3 k
 unfold dL.f
 repeat' first
   |(with_reducible first|exact eU.mono _ _ _|exact eD.mono _ _|exact eO.mono _ _ _|exact LeO.refl _|exact LeO.none _|refine LeO.ite ?_ ?_|refine LeO.bind ?_ (fun _ => ?_))
   |exact eU.mono _ _ _
   |exact eD.mono _ _
   |exact eO.mono _ _ _
   |exact LeO.none _
   |refine LeO.ite ?_ ?_
   |refine LeO.bind ?_ (fun _ => ?_)
theorem dL.calls (k : Nat) (a0 a1 : Int) (a2 a3 r : Int) (w : World) (h : dL.f k a0 a1 a2 a3 = some r) :
  Calls Tryz.prog 6 #[.int .i64 a0, .int .i64 a1, .int .i64 a2, .int .i64 a3] w fun e w' => e = .returned (.int .u32 r) ∧ Below w.heap.size w w' := by
 have HB := Aside0.mk (Below.refl w.heap.size w)
 have H : (if (mx a3 0) < (mx a1 0) then ((eD.f k (wrap64 ((mx a3 0) + 1))).bind fun t514 => ((eD.f k (mx a1 0)).bind fun t515 => ((eU.f k t514 t515).bind fun t516 => (some t516)))) else (if a0 = 1 then ((eO.f k (wrap64 ((mx a3 0) - (mx a1 0))) (wrap64 ((mx a2 0) - (mx a1 0)))).bind fun t517 => (some t517)) else (if a0 = 2 then (if (wrap64 ((mx a3 0) - (mx a1 0))) < (wrap64 (Int.tdiv (wrap64 ((mx a2 0) - (mx a1 0))) 2)) then (some 1065353216) else (if (wrap64 ((mx a3 0) - (mx a1 0))) < (wrap64 ((wrap64 (Int.tdiv (wrap64 ((mx a2 0) - (mx a1 0))) 4)) * 3)) then (some 1036831949) else (some 1008981770))) else (some 1065353216)))) = some r := h
 clear h
 obtain ⟨ji5, hji5⟩ : ∃ j_ : Int, (mx a1 0) = j_ := ⟨_, rfl⟩
 replace H : (if (mx a3 0) < (ji5) then ((eD.f k (wrap64 ((mx a3 0) + 1))).bind fun t514 => ((eD.f k (ji5)).bind fun t515 => ((eU.f k t514 t515).bind fun t516 => (some t516)))) else (if a0 = 1 then ((eO.f k (wrap64 ((mx a3 0) - (ji5))) (wrap64 ((mx a2 0) - (ji5)))).bind fun t517 => (some t517)) else (if a0 = 2 then (if (wrap64 ((mx a3 0) - (ji5))) < (wrap64 (Int.tdiv (wrap64 ((mx a2 0) - (ji5))) 2)) then (some 1065353216) else (if (wrap64 ((mx a3 0) - (ji5))) < (wrap64 ((wrap64 (Int.tdiv (wrap64 ((mx a2 0) - (ji5))) 4)) * 3)) then (some 1036831949) else (some 1008981770))) else (some 1065353216)))) = some r := by first | (rw [hji5] at H; exact H) | (simp only [hji5] at H ⊢; exact H)
 (try (have hji5l : 0 ≤ ji5 := by (rw [← hji5]; unfold mx; (repeat' split) <;> omega)))
 (try (have hji5m : 0 ≤ ji5 := by omega))
 have hji5_ : (if a1 < 0 then 0 else a1) = ji5 := hji5
 obtain ⟨ji6, hji6⟩ : ∃ j_ : Int, (mx a2 0) = j_ := ⟨_, rfl⟩
 replace H : (if (mx a3 0) < (ji5) then ((eD.f k (wrap64 ((mx a3 0) + 1))).bind fun t514 => ((eD.f k (ji5)).bind fun t515 => ((eU.f k t514 t515).bind fun t516 => (some t516)))) else (if a0 = 1 then ((eO.f k (wrap64 ((mx a3 0) - (ji5))) (wrap64 ((ji6) - (ji5)))).bind fun t517 => (some t517)) else (if a0 = 2 then (if (wrap64 ((mx a3 0) - (ji5))) < (wrap64 (Int.tdiv (wrap64 ((ji6) - (ji5))) 2)) then (some 1065353216) else (if (wrap64 ((mx a3 0) - (ji5))) < (wrap64 ((wrap64 (Int.tdiv (wrap64 ((ji6) - (ji5))) 4)) * 3)) then (some 1036831949) else (some 1008981770))) else (some 1065353216)))) = some r := by first | (rw [hji6] at H; exact H) | (simp only [hji6] at H ⊢; exact H)
 (try (have hji6l : 0 ≤ ji6 := by (rw [← hji6]; unfold mx; (repeat' split) <;> omega)))
 (try (have hji6m : 0 ≤ ji6 := by omega))
 have hji6_ : (if a2 < 0 then 0 else a2) = ji6 := hji6
 obtain ⟨ji7, hji7⟩ : ∃ j_ : Int, (mx a3 0) = j_ := ⟨_, rfl⟩
 replace H : (if (ji7) < (ji5) then ((eD.f k (wrap64 ((ji7) + 1))).bind fun t514 => ((eD.f k (ji5)).bind fun t515 => ((eU.f k t514 t515).bind fun t516 => (some t516)))) else (if a0 = 1 then ((eO.f k (wrap64 ((ji7) - (ji5))) (wrap64 ((ji6) - (ji5)))).bind fun t517 => (some t517)) else (if a0 = 2 then (if (wrap64 ((ji7) - (ji5))) < (wrap64 (Int.tdiv (wrap64 ((ji6) - (ji5))) 2)) then (some 1065353216) else (if (wrap64 ((ji7) - (ji5))) < (wrap64 ((wrap64 (Int.tdiv (wrap64 ((ji6) - (ji5))) 4)) * 3)) then (some 1036831949) else (some 1008981770))) else (some 1065353216)))) = some r := by first | (rw [hji7] at H; exact H) | (simp only [hji7] at H ⊢; exact H)
 (try (have hji7l : 0 ≤ ji7 := by (rw [← hji7]; unfold mx; (repeat' split) <;> omega)))
 (try (have hji7m : 0 ≤ ji7 := by omega))
 have hji7_ : (if a3 < 0 then 0 else a3) = ji7 := hji7
 by_cases c8 : (ji7) < (ji5)
 ·rw [if_pos c8] at H
  have c8b0 : decide ((ji7) < (ji5)) = true := decide_eq_true c8
  clear c8
  replace H := bq_ H
  obtain ⟨t514, A90, H⟩ := H
  replace H : ((eD.f k (ji5)).bind fun t515 => ((eU.f k t514 t515).bind fun t516 => (some t516))) = some r := H
  have A9 := Aside0.mk A90
  clear A90
  replace H := bq_ H
  obtain ⟨t515, A100, H⟩ := H
  replace H : ((eU.f k t514 t515).bind fun t516 => (some t516)) = some r := H
  have A10 := Aside0.mk A100
  clear A100
  replace H := bq_ H
  obtain ⟨t516, A110, H⟩ := H
  replace H : (some t516) = some r := H
  have A11 := Aside0.mk A110
  clear A110
  obtain rfl := Option.some.inj H
  go_enter Tryz.func6, Tryz.ntmps6
  go_wp2_with (first | ((with_reducible refine gate_callee (f := 11) rfl ?_); refine goesL_ (some 22) rfl rfl Tryz.func11 (by kernel_rfl) rfl #[.int .i64 (wrap64 ((ji7) + 1))] rfl (by (try simp only [List.map_toArray, List.map_cons, List.map_nil]); first | done | (simp only [hji7]; rfl) | rfl | (simp only [List.length_drop, List.length_take]; rfl)) ?_; (with_reducible refine (eD.calls k (wrap64 ((ji7) + 1)) t514 _ A9.out).mono ?_); rintro e w12 ⟨rfl, hb⟩; refine ⟨_, rfl, ?_⟩; have n0_ := Aside0.mk (below_step (bl0 HB.out) hb); clear HB; have HB := n0_; clear n0_) | ((with_reducible refine gate_callee (f := 11) rfl ?_); refine goesL_ (some 24) rfl rfl Tryz.func11 (by kernel_rfl) rfl #[.int .i64 ji5] rfl (by (try simp only [List.map_toArray, List.map_cons, List.map_nil]); first | done | (simp only [hji5]; rfl) | rfl | (simp only [List.length_drop, List.length_take]; rfl)) ?_; (with_reducible refine (eD.calls k ji5 t515 _ A10.out).mono ?_); rintro e w13 ⟨rfl, hb⟩; refine ⟨_, rfl, ?_⟩; have n0_ := Aside0.mk (below_step (bl0 HB.out) hb); clear HB; have HB := n0_; clear n0_) | ((with_reducible refine gate_callee (f := 10) rfl ?_); refine goesL_ (some 25) rfl rfl Tryz.func10 (by kernel_rfl) rfl #[.int .u32 t514, .int .u32 t515] rfl gl ?_; (with_reducible refine (eU.calls k t514 t515 t516 _ A11.out).mono ?_); rintro e w14 ⟨rfl, hb⟩; refine ⟨_, rfl, ?_⟩; have n0_ := Aside0.mk (below_step (bl0 HB.out) hb); clear HB; have HB := n0_; clear n0_))
  go_ret
  exact ⟨by first | rfl | (simp [aP, aQ] <;> rfl) | (simp only [← hji5, ← hji6, ← hji7]; first | rfl | (simp [aP, aQ] <;> rfl)) | (simp [*, aP, aQ] <;> rfl), bl0 HB.out⟩
 ·rw [if_neg c8] at H
  have c8b0 : decide ((ji7) < (ji5)) = false := decide_eq_false c8
  clear c8
  by_cases c15 : a0 = 1
  ·rw [if_pos c15] at H
   have c15b0 : (a0 == 1) = true := beq_iff_eq.mpr c15
   have c15b1 : (a0 != 1) = false := bne_eq_false_iff_eq.mpr c15
   clear c15
   replace H := bq_ H
   obtain ⟨t517, A160, H⟩ := H
   replace H : (some t517) = some r := H
   have A16 := Aside0.mk A160
   clear A160
   obtain rfl := Option.some.inj H
   go_enter Tryz.func6, Tryz.ntmps6
   go_wp2_with (first | ((with_reducible refine gate_callee (f := 12) rfl ?_); refine goesL_ (some 37) rfl rfl Tryz.func12 (by kernel_rfl) rfl #[.int .i64 (wrap64 ((ji7) - (ji5))), .int .i64 (wrap64 ((ji6) - (ji5)))] rfl (by (try simp only [List.map_toArray, List.map_cons, List.map_nil]); first | done | (simp only [hji5, hji6, hji7]; rfl) | rfl | (simp only [List.length_drop, List.length_take]; rfl)) ?_; (with_reducible refine (eO.calls k (wrap64 ((ji7) - (ji5))) (wrap64 ((ji6) - (ji5))) t517 _ A16.out).mono ?_); rintro e w17 ⟨rfl, hb⟩; refine ⟨_, rfl, ?_⟩; have n0_ := Aside0.mk (below_step (bl0 HB.out) hb); clear HB; have HB := n0_; clear n0_))
   go_ret
   exact ⟨by first | rfl | (simp [aP, aQ] <;> rfl) | (simp only [← hji5, ← hji6, ← hji7]; first | rfl | (simp [aP, aQ] <;> rfl)) | (simp [*, aP, aQ] <;> rfl), bl0 HB.out⟩
  ·rw [if_neg c15] at H
   have c15b0 : (a0 == 1) = false := beq_eq_false_iff_ne.mpr c15
   have c15b1 : (a0 != 1) = true := bne_iff_ne.mpr c15
   by_cases c18 : a0 = 2
   ·rw [if_pos c18] at H
    have c18b0 : (a0 == 2) = true := beq_iff_eq.mpr c18
    have c18b1 : (a0 != 2) = false := bne_eq_false_iff_eq.mpr c18
    clear c18
    by_cases c19 : (wrap64 ((ji7) - (ji5))) < (wrap64 (Int.tdiv (wrap64 ((ji6) - (ji5))) 2))
    ·rw [if_pos c19] at H
     have c19b0 : decide ((wrap64 ((ji7) - (ji5))) < (wrap64 (Int.tdiv (wrap64 ((ji6) - (ji5))) 2))) = true := decide_eq_true c19
     clear c19
     obtain rfl := Option.some.inj H
     go_enter Tryz.func6, Tryz.ntmps6
     go_wp2
     go_ret
     exact ⟨by first | rfl | (simp [aP, aQ] <;> rfl) | (simp only [← hji5, ← hji6, ← hji7]; first | rfl | (simp [aP, aQ] <;> rfl)) | (simp [*, aP, aQ] <;> rfl), bl0 HB.out⟩
    ·rw [if_neg c19] at H
     have c19b0 : decide ((wrap64 ((ji7) - (ji5))) < (wrap64 (Int.tdiv (wrap64 ((ji6) - (ji5))) 2))) = false := decide_eq_false c19
     clear c19
     by_cases c20 : (wrap64 ((ji7) - (ji5))) < (wrap64 ((wrap64 (Int.tdiv (wrap64 ((ji6) - (ji5))) 4)) * 3))
     ·rw [if_pos c20] at H
      have c20b0 : decide ((wrap64 ((ji7) - (ji5))) < (wrap64 ((wrap64 (Int.tdiv (wrap64 ((ji6) - (ji5))) 4)) * 3))) = true := decide_eq_true c20
      clear c20
      obtain rfl := Option.some.inj H
      go_enter Tryz.func6, Tryz.ntmps6
      go_wp2
      go_ret
      exact ⟨by first | rfl | (simp [aP, aQ] <;> rfl) | (simp only [← hji5, ← hji6, ← hji7]; first | rfl | (simp [aP, aQ] <;> rfl)) | (simp [*, aP, aQ] <;> rfl), bl0 HB.out⟩
     ·rw [if_neg c20] at H
      have c20b0 : decide ((wrap64 ((ji7) - (ji5))) < (wrap64 ((wrap64 (Int.tdiv (wrap64 ((ji6) - (ji5))) 4)) * 3))) = false := decide_eq_false c20
      clear c20
      obtain rfl := Option.some.inj H
      go_enter Tryz.func6, Tryz.ntmps6
      go_wp2
      go_ret
      exact ⟨by first | rfl | (simp [aP, aQ] <;> rfl) | (simp only [← hji5, ← hji6, ← hji7]; first | rfl | (simp [aP, aQ] <;> rfl)) | (simp [*, aP, aQ] <;> rfl), bl0 HB.out⟩
   ·rw [if_neg c18] at H
    have c18b0 : (a0 == 2) = false := beq_eq_false_iff_ne.mpr c18
    have c18b1 : (a0 != 2) = true := bne_iff_ne.mpr c18
    obtain rfl := Option.some.inj H
    go_enter Tryz.func6, Tryz.ntmps6
    go_wp2
    go_ret
    exact ⟨by first | rfl | (simp [aP, aQ] <;> rfl) | (simp only [← hji5, ← hji6, ← hji7]; first | rfl | (simp [aP, aQ] <;> rfl)) | (simp [*, aP, aQ] <;> rfl), bl0 HB.out⟩

-- NEED 4
/-! ### eY: function 4 -/
def eY.f (k : Nat)  : Option (Bool) := (dL.f k 0 4 10 0).bind fun t518 => (if t518 = 1048576000 then ((dL.f k 2 0 8 4).bind fun t519 => (if t519 = 1036831949 then ((dL.f k 1 0 8 8).bind fun t520 => (some (t520 == 0))) else (some false))) else (some false))
theorem eY.mono : ∀ k, LeO (eY.f k ) (eY.f (k + 1) ) := by
 intro  k
 unfold eY.f
 repeat' first
   |(with_reducible first|exact dL.mono _ _ _ _ _|exact LeO.refl _|exact LeO.none _|refine LeO.ite ?_ ?_|refine LeO.bind ?_ (fun _ => ?_))
   |exact dL.mono _ _ _ _ _
   |exact LeO.none _
   |refine LeO.ite ?_ ?_
   |refine LeO.bind ?_ (fun _ => ?_)
theorem eY.calls (k : Nat)  (r : Bool) (w : World) (h : eY.f k  = some r) :
  Calls Tryz.prog 4 #[] w fun e w' => e = .returned (.bool r) ∧ Below w.heap.size w w' := by
 have HB := Aside0.mk (Below.refl w.heap.size w)
 have H : ((dL.f k 0 4 10 0).bind fun t518 => (if t518 = 1048576000 then ((dL.f k 2 0 8 4).bind fun t519 => (if t519 = 1036831949 then ((dL.f k 1 0 8 8).bind fun t520 => (some (t520 == 0))) else (some false))) else (some false))) = some r := h
 clear h
 replace H := bq_ H
 obtain ⟨t518, A10, H⟩ := H
 replace H : (if t518 = 1048576000 then ((dL.f k 2 0 8 4).bind fun t519 => (if t519 = 1036831949 then ((dL.f k 1 0 8 8).bind fun t520 => (some (t520 == 0))) else (some false))) else (some false)) = some r := H
 have A1 := Aside0.mk A10
 clear A10
 by_cases c2 : t518 = 1048576000
 ·rw [if_pos c2] at H
  have c2b0 : (t518 == 1048576000) = true := beq_iff_eq.mpr c2
  have c2b1 : (t518 != 1048576000) = false := bne_eq_false_iff_eq.mpr c2
  clear c2
  replace H := bq_ H
  obtain ⟨t519, A30, H⟩ := H
  replace H : (if t519 = 1036831949 then ((dL.f k 1 0 8 8).bind fun t520 => (some (t520 == 0))) else (some false)) = some r := H
  have A3 := Aside0.mk A30
  clear A30
  by_cases c4 : t519 = 1036831949
  ·rw [if_pos c4] at H
   have c4b0 : (t519 == 1036831949) = true := beq_iff_eq.mpr c4
   have c4b1 : (t519 != 1036831949) = false := bne_eq_false_iff_eq.mpr c4
   clear c4
   replace H := bq_ H
   obtain ⟨t520, A50, H⟩ := H
   replace H : (some (t520 == 0)) = some r := H
   have A5 := Aside0.mk A50
   clear A50
   obtain rfl := Option.some.inj H
   go_enter Tryz.func4, Tryz.ntmps4
   go_wp2_with (first | ((with_reducible refine gate_callee (f := 6) rfl ?_); refine goesL_ (some 1) rfl rfl Tryz.func6 (by kernel_rfl) rfl #[.int .i64 0, .int .i64 4, .int .i64 10, .int .i64 0] rfl gl ?_; (with_reducible refine (dL.calls k 0 4 10 0 t518 _ A1.out).mono ?_); rintro e w6 ⟨rfl, hb⟩; refine ⟨_, rfl, ?_⟩; have n0_ := Aside0.mk (below_step (bl0 HB.out) hb); clear HB; have HB := n0_; clear n0_) | (go_at_call 6; (with_reducible refine (dL.calls k 2 0 8 4 t519 _ A3.out).mono ?_); rintro e w7 ⟨rfl, hb⟩; have n0_ := Aside0.mk (below_step (bl0 HB.out) hb); clear HB; have HB := n0_; clear n0_) | (go_at_call 6; (with_reducible refine (dL.calls k 1 0 8 8 t520 _ A5.out).mono ?_); rintro e w8 ⟨rfl, hb⟩; have n0_ := Aside0.mk (below_step (bl0 HB.out) hb); clear HB; have HB := n0_; clear n0_))
   go_ret
   exact ⟨by first | rfl | (simp [aP, aQ] <;> rfl) | (simp [*, aP, aQ] <;> rfl), bl0 HB.out⟩
  ·rw [if_neg c4] at H
   have c4b0 : (t519 == 1036831949) = false := beq_eq_false_iff_ne.mpr c4
   have c4b1 : (t519 != 1036831949) = true := bne_iff_ne.mpr c4
   obtain rfl := Option.some.inj H
   go_enter Tryz.func4, Tryz.ntmps4
   go_wp2_with (first | ((with_reducible refine gate_callee (f := 6) rfl ?_); refine goesL_ (some 1) rfl rfl Tryz.func6 (by kernel_rfl) rfl #[.int .i64 0, .int .i64 4, .int .i64 10, .int .i64 0] rfl gl ?_; (with_reducible refine (dL.calls k 0 4 10 0 t518 _ A1.out).mono ?_); rintro e w9 ⟨rfl, hb⟩; refine ⟨_, rfl, ?_⟩; have n0_ := Aside0.mk (below_step (bl0 HB.out) hb); clear HB; have HB := n0_; clear n0_) | (go_at_call 6; (with_reducible refine (dL.calls k 2 0 8 4 t519 _ A3.out).mono ?_); rintro e w10 ⟨rfl, hb⟩; have n0_ := Aside0.mk (below_step (bl0 HB.out) hb); clear HB; have HB := n0_; clear n0_))
   go_ret
   exact ⟨by first | rfl | (simp [aP, aQ] <;> rfl) | (simp [*, aP, aQ] <;> rfl), bl0 HB.out⟩
 ·rw [if_neg c2] at H
  have c2b0 : (t518 == 1048576000) = false := beq_eq_false_iff_ne.mpr c2
  have c2b1 : (t518 != 1048576000) = true := bne_iff_ne.mpr c2
  obtain rfl := Option.some.inj H
  go_enter Tryz.func4, Tryz.ntmps4
  go_wp2_with (first | ((with_reducible refine gate_callee (f := 6) rfl ?_); refine goesL_ (some 1) rfl rfl Tryz.func6 (by kernel_rfl) rfl #[.int .i64 0, .int .i64 4, .int .i64 10, .int .i64 0] rfl gl ?_; (with_reducible refine (dL.calls k 0 4 10 0 t518 _ A1.out).mono ?_); rintro e w11 ⟨rfl, hb⟩; refine ⟨_, rfl, ?_⟩; have n0_ := Aside0.mk (below_step (bl0 HB.out) hb); clear HB; have HB := n0_; clear n0_))
  go_ret
  exact ⟨by first | rfl | (simp [aP, aQ] <;> rfl) | (simp [*, aP, aQ] <;> rfl), bl0 HB.out⟩


-- NEED 4
/-! ### sched_Rate: function 8 -/

-- NEED 5
/-! ### annealref17_Rate: function 9 -/
end Go.Proofs.YtjlgmfgjleajfaaGreat.P

/- A schedule's factor and rate: the program's and the reference's are the same. -/
namespace Go.Proofs.YtjlgmfgjleajfaaGreat.Round
open Go.RowKit Go.Proofs.YtjlgmfgjleajfaaGreat.P Go.Proofs.YtjlgmfgjleajfaaGreat.Num Go.Proofs.YtjlgmfgjleajfaaGreat.BitsF Go.Proofs.YtjlgmfgjleajfaaGreat.Fmt Go.Proofs.YtjlgmfgjleajfaaGreatW.PrintWords Go.Proofs.YtjlgmfgjleajfaaGreatW.PrintLast Go.Proofs.YtjlgmfgjleajfaaGreatW.PrintMore

theorem qC (x p c : Nat) (L : List Int) (i : Nat) (r : Int) (hL : L.length = 3) (hi : i < 3) (hx : x < 4294967296) (hp : p < 4294967296) (hc : c < 4294967296) (hr : rd L (i : Int) = (c : Int))
  (h : Ev (fun k => dJ.l0 k (x : Int) ((qO 2 0 p x c : Nat) : Int) L 3 ((i + 1 : Nat) : Int)) r) : Ev (fun k => dJ.l0 k (x : Int) (p : Int) L 3 (i : Int)) r := by
 have hw : wrap64 ((i : Int) + 1) = ((i + 1 : Nat) : Int) := by rw [cK _ (by omega) (by omega)]; omega
 exact Ev.step (fun k => by rw [dJ.l0, if_pos (by omega), if_pos (Int.natCast_nonneg _), if_pos (by rw [hL]; omega), hr, hw]) (Ev.bind (ffma_ev p x c hp hx hc) h)
theorem aA9 (x p : Nat) (L : List Int) : Ev (fun k => dJ.l0 k (x : Int) (p : Int) L 3 ((3 : Nat) : Int)) (p : Int) :=
 Ev.step (fun k => by rw [dJ.l0, if_neg (by decide)]) (Ev.now _)
theorem qI (x p c : Nat) (L : List Int) (i : Nat) (r : Int) (hL : L.length = 3) (hi : i < 3) (hx : x < 4294967296) (hp : p < 4294967296) (hc : c < 4294967296) (hr : rd L (i : Int) = (c : Int))
  (h : Ev (fun k => bU.l0 k ((qO 2 0 p x c : Nat) : Int) (x : Int) L ((i + 1 : Nat) : Int)) r) : Ev (fun k => bU.l0 k (p : Int) (x : Int) L (i : Int)) r := by
 have hw : wrap64 ((i : Int) + 1) = ((i + 1 : Nat) : Int) := by rw [cK _ (by omega) (by omega)]; omega
 exact Ev.step (fun k => by rw [bU.l0, if_pos (by rw [hL]; omega), if_pos (Int.natCast_nonneg _), hr, hw]) (Ev.bind (aCf p x c hp hx hc) h)
theorem aBe (x p : Nat) (L : List Int) (hL : L.length = 3) : Ev (fun k => bU.l0 k (p : Int) (x : Int) L ((3 : Nat) : Int)) (p : Int) :=
 Ev.step (fun k => by rw [bU.l0, if_neg (by rw [hL]; decide)]) (Ev.now _)
def vV (x : Nat) : Nat := mulN 2 0 1078530011 (uL 2 0 x 1056964608)
def aBE (x : Nat) : Nat := mulN 2 0 (vV x) (vV x)
def cosP (z : Nat) : Nat := qO 2 0 (qO 2 0 (qO 2 0 3109031169 z 1007192201) z 3190467243) z 1065353216
def xY (x : Nat) : Nat := mulN 2 0 (vV x) (cosP (aBE x))
theorem fpoly_ev (z : Nat) (hz : z < 4294967296) : Ev (fun k => dJ.f k (z : Int) 3109031169 ([1007192201, 3190467243, 1065353216] : List Int)) ((cosP z : Nat) : Int) := by
 refine Ev.congr (fun k => by unfold dJ.f; rfl) ?_
 exact qC z 3109031169 1007192201 _ 0 _ rfl (by decide) hz (by decide) (by decide) rfl (qC z _ 3190467243 _ 1 _ rfl (by decide) hz (uK ..) (by decide) rfl (qC z _ 1065353216 _ 2 _ rfl (by decide) hz (uK ..) (by decide) rfl (aA9 z _ _)))
theorem rpoly_ev (z : Nat) (hz : z < 4294967296) : Ev (fun k => bU.f k 3109031169 (z : Int) ([1007192201, 3190467243, 1065353216] : List Int)) ((cosP z : Nat) : Int) := by
 refine Ev.congr (fun k => by unfold bU.f; rfl) ?_
 exact qI z 3109031169 1007192201 _ 0 _ rfl (by decide) hz (by decide) (by decide) rfl (qI z _ 3190467243 _ 1 _ rfl (by decide) hz (uK ..) (by decide) rfl (qI z _ 1065353216 _ 2 _ rfl (by decide) hz (uK ..) (by decide) rfl (aBe z _ _ rfl)))
theorem nY (v e : Nat) (h : (decide (bK 2 v < 3) && decide (bH 2 v * 2 ^ (bA 2 v + 149).toNat ≤ 2 ^ (e + 149))) = true) : Bd v e := by
 rw [Bool.and_eq_true, decide_eq_true_iff, decide_eq_true_iff] at h; exact h
theorem bd_half : Bd 1056964608 1 := nY 1056964608 1 (by decide +kernel)
theorem bd_pi : Bd 1078530011 2 := nY 1078530011 2 (by decide +kernel)
theorem bd_c0 : Bd 3109031169 0 := nY 3109031169 0 (by decide +kernel)
theorem bd_c1 : Bd 1007192201 8 := nY 1007192201 8 (by decide +kernel)
theorem bd_c2 : Bd 3190467243 17 := nY 3190467243 17 (by decide +kernel)
theorem bd_c3 : Bd 1065353216 26 := nY 1065353216 26 (by decide +kernel)
theorem yH (x : Nat) (hx : Bd x 1) : Bd (vV x) 4 := by
 unfold vV
 exact aCu (e1 := 2) (e2 := 2) 0 bd_pi (bd_sub (e := 1) 0 hx bd_half (by decide)) (by decide)
theorem cosZ_bd (x : Nat) (hx : Bd x 1) : Bd (aBE x) 8 := by
 unfold aBE
 exact aCu (e1 := 4) (e2 := 4) 0 (yH x hx) (yH x hx) (by decide)
theorem cosP_bd (z : Nat) (hz : Bd z 8) : Bd (cosP z) 27 := by
 unfold cosP
 have p1 := aCm (e1 := 0) (e2 := 8) (E := 8) 0 bd_c0 hz bd_c1 (by decide) (by decide)
 generalize qO 2 0 3109031169 z 1007192201 = u at *
 have p2 := aCm (e1 := 9) (e2 := 8) (E := 17) 0 p1 hz bd_c2 (by decide) (by decide)
 generalize qO 2 0 u z 3190467243 = v at *
 exact aCm (e1 := 18) (e2 := 8) (E := 26) 0 p2 hz bd_c3 (by decide) (by decide)
theorem cos_bd (x : Nat) (hx : Bd x 1) : bK 2 (xY x) < 3 := by
 unfold xY
 exact (aCu (e1 := 4) (e2 := 27) 0 (yH x hx) (cosP_bd _ (cosZ_bd x hx)) (by decide)).1
theorem fcos_ev (x : Nat) (hv : x < 4294967296) (hx : Bd x 1) : Ev (fun k => fG.f k (x : Int)) ((jM 2 (xY x) : Nat) : Int) := by
 have hn0 : Ev (fun k => fQ.f k 2 (x : Int)) false := by
  have := hx.1
  refine Ev.congr (fun k => by unfold fQ.f; rfl) (Ev.bind (nV 2 x hv) (Ev.congr (fun k => ?_) (Ev.now _)))
  exact congrArg some (decide_eq_false (show ¬ ((bK 2 x : Nat) : Int) ≥ 4 by omega))
 have hn : Ev (fun k => fU.f k (x : Int)) false := Ev.congr (fun k => by unfold fU.f; rfl) (Ev.bind hn0 (Ev.now _))
 have e1 : Ev (fun k => gK.f k (x : Int) 1056964608) ((uL 2 0 x 1056964608 : Nat) : Int) := fsub_ev x 1056964608 hv (by decide)
 have e2 : Ev (fun k => dF.f k 1078530011 ((uL 2 0 x 1056964608 : Nat) : Int)) ((vV x : Nat) : Int) := sZ 1078530011 (uL 2 0 x 1056964608) (by decide) (sub_32 ..)
 have e3 : Ev (fun k => dF.f k ((vV x : Nat) : Int) ((vV x : Nat) : Int)) ((aBE x : Nat) : Int) := sZ (vV x) (vV x) (kZ ..) (kZ ..)
 have e5 : Ev (fun k => dF.f k ((vV x : Nat) : Int) ((cosP (aBE x) : Nat) : Int)) ((xY x : Nat) : Int) := sZ (vV x) (cosP (aBE x)) (kZ ..) (uK ..)
 refine Ev.congr (fun k => by unfold fG.f; rfl) (Ev.bind hn ?_)
 refine Ev.congr (fun k => by rw [if_neg (by decide)]) (Ev.bind e1 (Ev.bind e2 (Ev.bind e3 (Ev.bind (fpoly_ev (aBE x) (kZ ..)) (Ev.bind e5 ?_)))))
 exact Ev.congr (fun k => by rw [fminus_f (xY x) (kZ ..)]; rfl) (Ev.now _)
theorem rcos_ev (x : Nat) (hv : x < 4294967296) (hx : Bd x 1) : Ev (fun k => dX.f k (x : Int)) ((jM 2 (xY x) : Nat) : Int) := by
 have hn : Ev (fun k => fZ.f k (x : Int)) false := by
  refine Ev.congr (fun k => by unfold fZ.f; rfl) (Ev.bind (pF 2 x hv) ?_)
  have := hx.1
  refine Ev.congr (fun k => ?_) (Ev.now _)
  rw [if_neg (by omega)]
  exact congrArg some (beq_eq_false_iff_ne.mpr (by omega))
 have e1 : Ev (fun k => fJ.f k (x : Int) 1056964608) ((uL 2 0 x 1056964608 : Nat) : Int) := aBb x 1056964608 hv (by decide)
 have e2 : Ev (fun k => bB.f k 1078530011 ((uL 2 0 x 1056964608 : Nat) : Int)) ((vV x : Nat) : Int) := nM 1078530011 (uL 2 0 x 1056964608) (by decide) (sub_32 ..)
 have e3 : Ev (fun k => bB.f k ((vV x : Nat) : Int) ((vV x : Nat) : Int)) ((aBE x : Nat) : Int) := nM (vV x) (vV x) (kZ ..) (kZ ..)
 have e5 : Ev (fun k => bB.f k ((vV x : Nat) : Int) ((cosP (aBE x) : Nat) : Int)) ((xY x : Nat) : Int) := nM (vV x) (cosP (aBE x)) (kZ ..) (uK ..)
 refine Ev.congr (fun k => by unfold dX.f; rfl) (Ev.bind hn ?_)
 refine Ev.congr (fun k => by rw [if_neg (by decide)]) (Ev.bind e1 (Ev.bind e2 (Ev.bind e3 (Ev.bind (rpoly_ev (aBE x) (kZ ..)) (Ev.bind e5 ?_)))))
 exact Ev.bind (yM (xY x) (kZ ..) (cos_bd x hx)) (Ev.now _)
theorem aCc (x : Int) : 0 ≤ mx x 0 ∧ (x ≤ mx x 0) ∧ (mx x 0 = x ∨ mx x 0 = 0) := by unfold mx; split <;> omega
theorem aCr (f : Int) (v : Nat) : jM f v < 4294967296 := (nZ f v).2.2.2.2
def cosN (s n : Int) : Nat := mulN 2 0 1056964608 (rV 2 0 1065353216 (jM 2 (xY (divN 2 0 (kL s) (kL n)))))
theorem aAv (s n : Int) (h0 : 0 ≤ s) (h1 : s < n) (h2 : n ≤ 9223372036854775807) : Ev (fun k => eO.f k s n) ((cosN s n : Nat) : Int) := by
 have hb := bd_div s n h0 h1 h2
 have h32 := aCn 2 0 (kL s) (kL n)
 unfold cosN
 have e1 := wD s (by omega) (by omega)
 have e2 := wD n (by omega) (by omega)
 have e3 := aB6 (kL s) (kL n) (rC _) (rC _)
 have e4 := fcos_ev (divN 2 0 (kL s) (kL n)) h32 hb
 generalize divN 2 0 (kL s) (kL n) = q at *
 generalize kL s = u at *
 generalize kL n = v at *
 have e5 : Ev (fun k => gF.f k 1065353216 ((jM 2 (xY q) : Nat) : Int)) ((rV 2 0 1065353216 (jM 2 (xY q)) : Nat) : Int) := fadd_ev 1065353216 _ (by decide) (aCr ..)
 generalize jM 2 (xY q) = w at *
 have s32 := aBs 2 0 1065353216 w
 generalize rV 2 0 1065353216 w = z at *
 have e6 : Ev (fun k => dF.f k 1056964608 (z : Int)) ((mulN 2 0 1056964608 z : Nat) : Int) := sZ 1056964608 z (by decide) s32
 refine Ev.congr (fun k => by unfold eO.f; rw [if_neg (by omega)]) (Ev.bind e1 (Ev.bind e2 (Ev.bind e3 (Ev.bind e4 (Ev.bind e5 (Ev.bind e6 (Ev.now _)))))))
theorem aAQ (s n : Int) (h0 : 0 ≤ s) (h1 : s < n) (h2 : n ≤ 9223372036854775807) : Ev (fun k => (bQ.f k s).bind fun t873 => ((bQ.f k n).bind fun t874 => ((dM.f k t873 t874).bind fun t875 => ((dX.f k t875).bind fun t876 => ((eB.f k 1065353216 t876).bind fun t877 => ((bB.f k 1056964608 t877).bind fun t878 => (some t878))))))) ((cosN s n : Nat) : Int) := by
 have hb := bd_div s n h0 h1 h2
 have h32 := aCn 2 0 (kL s) (kL n)
 unfold cosN
 have e1 := pO s (by omega) (by omega)
 have e2 := pO n (by omega) (by omega)
 have e3 := wT (kL s) (kL n) (rC _) (rC _)
 have e4 := rcos_ev (divN 2 0 (kL s) (kL n)) h32 hb
 generalize divN 2 0 (kL s) (kL n) = q at *
 generalize kL s = u at *
 generalize kL n = v at *
 have e5 : Ev (fun k => eB.f k 1065353216 ((jM 2 (xY q) : Nat) : Int)) ((rV 2 0 1065353216 (jM 2 (xY q)) : Nat) : Int) := aBd 1065353216 _ (by decide) (aCr ..)
 generalize jM 2 (xY q) = w at *
 have s32 := aBs 2 0 1065353216 w
 generalize rV 2 0 1065353216 w = z at *
 have e6 : Ev (fun k => bB.f k 1056964608 (z : Int)) ((mulN 2 0 1056964608 z : Nat) : Int) := nM 1056964608 z (by decide) s32
 exact Ev.bind e1 (Ev.bind e2 (Ev.bind e3 (Ev.bind e4 (Ev.bind e5 (Ev.bind e6 (Ev.now _))))))
theorem yI (kind warm total step : Int) (w1 : -9223372036854775808 ≤ warm) (w2 : warm ≤ 9223372036854775807) (t1 : -9223372036854775808 ≤ total) (t2 : total ≤ 9223372036854775807) (s1 : -9223372036854775808 ≤ step) (s2 : step ≤ 9223372036854775807) :
  ∃ r : Nat, r < 4294967296 ∧ Ev (fun k => dL.f k kind warm total step) (r : Int) ∧ Ev (fun k => fD.f k kind warm total step) (r : Int) := by
 have hW := aCc warm
 have hT := aCc total
 have hS := aCc step
 have bW : mx warm 0 ≤ 9223372036854775807 := by omega
 have bT : mx total 0 ≤ 9223372036854775807 := by omega
 have bS : mx step 0 ≤ 9223372036854775807 := by omega
 unfold dL.f fD.f
 generalize mx warm 0 = W at *
 generalize mx total 0 = T at *
 generalize mx step 0 = Z at *
 by_cases c : Z < W
 ·have e : wrap64 (Z + 1) = Z + 1 := cK _ (by omega) (by omega)
  refine ⟨divN 2 0 (kL (Z + 1)) (kL W), aCn .., ?_, ?_⟩
  ·exact Ev.congr (fun k => by rw [if_pos c, e]) (Ev.bind (wD (Z + 1) (by omega) (by omega)) (Ev.bind (wD W (by omega) (by omega)) (Ev.bind (aB6 _ _ (rC _) (rC _)) (Ev.now _))))
  ·exact Ev.congr (fun k => by rw [if_pos c, e]) (Ev.bind (pO (Z + 1) (by omega) (by omega)) (Ev.bind (pO W (by omega) (by omega)) (Ev.bind (wT _ _ (rC _) (rC _)) (Ev.now _))))
 ·have e1 : wrap64 (Z - W) = Z - W := cK _ (by omega) (by omega)
  have e2 : wrap64 (T - W) = T - W := cK _ (by omega) (by omega)
  rw [e1, e2]
  by_cases c1 : kind = 1
  ·by_cases c2 : Z - W ≥ T - W
   ·refine ⟨0, by decide, ?_, ?_⟩
    ·exact Ev.congr (fun k => by rw [if_neg c, if_pos c1]; unfold eO.f; rw [if_pos c2]; rfl) (Ev.now _)
    ·exact Ev.congr (fun k => by rw [if_neg c, if_pos c1, if_pos c2]; rfl) (Ev.now _)
   ·refine ⟨cosN (Z - W) (T - W), kZ .., ?_, ?_⟩
    ·exact Ev.congr (fun k => by rw [if_neg c, if_pos c1]) (Ev.bind (aAv (Z - W) (T - W) (by omega) (by omega) (by omega)) (Ev.now _))
    ·exact Ev.congr (fun k => by rw [if_neg c, if_pos c1, if_neg c2]) (aAQ (Z - W) (T - W) (by omega) (by omega) (by omega))
  ·by_cases c2 : kind = 2
   ·by_cases c3 : Z - W < wrap64 (Int.tdiv (T - W) 2)
    ·exact ⟨1065353216, by decide, Ev.congr (fun k => by rw [if_neg c, if_neg c1, if_pos c2, if_pos c3]; rfl) (Ev.now _), Ev.congr (fun k => by rw [if_neg c, if_neg c1, if_pos c2, if_pos c3]; rfl) (Ev.now _)⟩
    ·by_cases c4 : Z - W < wrap64 (wrap64 (Int.tdiv (T - W) 4) * 3)
     ·exact ⟨1036831949, by decide, Ev.congr (fun k => by rw [if_neg c, if_neg c1, if_pos c2, if_neg c3, if_pos c4]; rfl) (Ev.now _), Ev.congr (fun k => by rw [if_neg c, if_neg c1, if_pos c2, if_neg c3, if_pos c4]; rfl) (Ev.now _)⟩
     ·exact ⟨1008981770, by decide, Ev.congr (fun k => by rw [if_neg c, if_neg c1, if_pos c2, if_neg c3, if_neg c4]; rfl) (Ev.now _), Ev.congr (fun k => by rw [if_neg c, if_neg c1, if_pos c2, if_neg c3, if_neg c4]; rfl) (Ev.now _)⟩
   ·exact ⟨1065353216, by decide, Ev.congr (fun k => by rw [if_neg c, if_neg c1, if_neg c2]; rfl) (Ev.now _), Ev.congr (fun k => by rw [if_neg c, if_neg c1, if_neg c2]; rfl) (Ev.now _)⟩
end Go.Proofs.YtjlgmfgjleajfaaGreat.Round

/- SchedTells' whole walk, by the closed reckoner. -/
namespace Go.Proofs.YtjlgmfgjleajfaaGreat.XwSched
open Go.RowKit Go.Proofs.YtjlgmfgjleajfaaGreat.P Go.Proofs.YtjlgmfgjleajfaaGreat.Xe Go.Proofs.YtjlgmfgjleajfaaGreat.Num Go.Proofs.YtjlgmfgjleajfaaGreat.BitsF Go.Proofs.YtjlgmfgjleajfaaGreat.Fmt Go.Proofs.YtjlgmfgjleajfaaGreat.Round Go.Proofs.YtjlgmfgjleajfaaGreatW.PrintWords Go.Proofs.YtjlgmfgjleajfaaGreatW.PrintLast Go.Proofs.YtjlgmfgjleajfaaGreatW.PrintMore

theorem known_ev : Ev (fun k => eY.f k) true := Ev.of eY.mono (k := 60) (by kernel_rfl)
open Classical in
noncomputable def facN (k w t s : Int) : Nat := if h : ∃ r : Nat, r < 4294967296 ∧ Ev (fun n => dL.f n k w t s) (r : Int) ∧ Ev (fun n => fD.f n k w t s) (r : Int) then Classical.choose h else 0
theorem aAM {x : Int} (h : IntKind.i64.has x) : -9223372036854775808 ≤ x ∧ x ≤ 9223372036854775807 := h
theorem u32_b {x : Int} (h : IntKind.u32.has x) : 0 ≤ x ∧ x ≤ 4294967295 := h
theorem xP {k w t s : Int} (hw : IntKind.i64.has w) (ht : IntKind.i64.has t) (hs : IntKind.i64.has s) : facN k w t s < 4294967296 ∧ Ev (fun n => dL.f n k w t s) (facN k w t s : Int) ∧ Ev (fun n => fD.f n k w t s) (facN k w t s : Int) := by
  obtain ⟨r, h1, h2, h3⟩ := yI k w t s (aAM hw).1 (aAM hw).2 (aAM ht).1 (aAM ht).2 (aAM hs).1 (aAM hs).2
  have h : ∃ r : Nat, r < 4294967296 ∧ Ev (fun n => dL.f n k w t s) (r : Int) ∧ Ev (fun n => fD.f n k w t s) (r : Int) := ⟨r, h1, h2, h3⟩
  unfold facN
  rw [dif_pos h]
  exact Classical.choose_spec h
theorem zH {x : Nat} (h : x < 4294967296) : IntKind.u32.has (x : Int) := by
  show (0 : Int) ≤ x ∧ (x : Int) ≤ 4294967295
  omega
def hook : wQ := { s := fun _ => none, d := fun _ _ => none, rv := fun i => if i == 0 || i == 1 || i == 2 || i == 7 then (0, 255) else if i == 8 then (0, 4294967295) else (-9223372036854775808, 9223372036854775807), rf := fun _ => (0, 4294967295), cz := fun t => match t with
  | .o .rem .u8 (.v 0) (.l 6) => true
  | _ => false }
noncomputable def F (i : Nat) (u : U) : U := match i, u with
  | 1, .p a (.p b (.p c d)) => .n ((facN a.int (IntKind.i64.wrap b.int) (IntKind.i64.wrap c.int) (IntKind.i64.wrap d.int) : Nat) : Int)
  | 2, .p a b => .n ((mulN 2 0 (IntKind.u32.wrap a.int).toNat (IntKind.u32.wrap b.int).toNat : Nat) : Int)
  | _, _ => .n 0
theorem kZ (a b : Nat) : mulN 2 0 a b < 4294967296 := by
  exact Round.kZ 2 0 a b
noncomputable def en : Ents := [(4, yes0), (6, op4 hook 1 .i64 .i64 .i64 .i64 .u32), (7, op4 hook 1 .i64 .i64 .i64 .i64 .u32), (15, op2 hook 2 .u32 .u32 .u32), (18, op2 hook 2 .u32 .u32 .u32)]
noncomputable def fs : Fns := [(3, Tryz.f3), (5, Tryz.f5), (8, Tryz.f8), (9, Tryz.f9)]
def args : List PV := [.one (.i .i64 (.v 3)), .one (.i .i64 (.v 4)), .one (.i .i64 (.v 5)), .one (.i .i64 (.v 6)), .one (.i .u8 (.v 0)), .one (.i .u8 (.v 1)), .one (.i .u8 (.v 2)), .one (.i .u8 (.v 7)), .one (.i .u32 (.v 8))]
theorem run : evFn hook Tryz.prog en fs 1000 40 3 args ⟨.e, .e, 1, [], 0⟩ (Kt hook) = true := by kernel_rfl
theorem fns_ok : qG Tryz.prog fs := qG.cons Tryz.func3 (by kernel_rfl) (qG.cons Tryz.func5 (by kernel_rfl) (qG.cons Tryz.func8 (by kernel_rfl) (qG.cons Tryz.func9 (by kernel_rfl) qG.nil)))
theorem F_range (i : Nat) (u : U) : 0 ≤ (F i u).int ∧ (F i u).int ≤ 4294967295 := by
  unfold F
  split
  · have := (xP (k := ‹U›.int) (iN .i64 ‹U›.int) (iN .i64 ‹U›.int) (iN .i64 ‹U›.int)).1
    rename_i a b c d
    have := (xP (k := a.int) (iN .i64 b.int) (iN .i64 c.int) (iN .i64 d.int)).1
    show (0 : Int) ≤ _ ∧ _
    constructor
    · exact Int.natCast_nonneg _
    · show ((facN a.int (IntKind.i64.wrap b.int) (IntKind.i64.wrap c.int) (IntKind.i64.wrap d.int) : Nat) : Int) ≤ _; omega
  · rename_i a b
    have := kZ (IntKind.u32.wrap a.int).toNat (IntKind.u32.wrap b.int).toNat
    show (0 : Int) ≤ ((mulN 2 0 _ _ : Nat) : Int) ∧ ((mulN 2 0 _ _ : Nat) : Int) ≤ _
    omega
  · exact ⟨by decide, by decide⟩
theorem walk (a0 a1 a2 a3 a4 a5 a6 a7 a8 : Int) (W : World) (w0 : (Lit.int .i64 a0).wf = true) (w1 : (Lit.int .i64 a1).wf = true) (w2 : (Lit.int .i64 a2).wf = true) (w3 : (Lit.int .i64 a3).wf = true) (w4 : (Lit.int .u8 a4).wf = true) (w5 : (Lit.int .u8 a5).wf = true) (w6 : (Lit.int .u8 a6).wf = true) (w7 : (Lit.int .u8 a7).wf = true) (w8 : (Lit.int .u32 a8).wf = true) :
    Calls Tryz.prog 3 #[.int .i64 a0, .int .i64 a1, .int .i64 a2, .int .i64 a3, .int .u8 a4, .int .u8 a5, .int .u8 a6, .int .u8 a7, .int .u32 a8] W fun e W' => e = .returned (.bool true) ∧ Below W.heap.size W W' := by
  letI rho : Rho := ⟨fun i => match i with
    | 0 => .n a4
    | 1 => .n a5
    | 2 => .n a6
    | 3 => .n a0
    | 4 => .n a1
    | 5 => .n a2
    | 6 => .n a3
    | 7 => .n a7
    | 8 => .n a8
    | _ => .n 0, F⟩
  have h0 := oK.1 w0
  have h1 := oK.1 w1
  have h2 := oK.1 w2
  have h3 := oK.1 w3
  have h4 := oK.1 w4
  have h5 := oK.1 w5
  have h6 := oK.1 w6
  have h7 := oK.1 w7
  have h8 := oK.1 w8
  have hH : hook.Ok := by
    refine ⟨fun t t' h => (by cases h), fun pc b r _ h => (by cases h), fun i => ?_, fun i x => F_range i _⟩
    match i with
    | 0 => exact h4
    | 1 => exact h5
    | 2 => exact h6
    | 3 => exact h0
    | 4 => exact h1
    | 5 => exact h2
    | 6 => exact h3
    | 7 => exact h7
    | 8 => exact h8
    | n + 9 => 
      have e : hook.rv (n + 9) = (-9223372036854775808, 9223372036854775807) := by
        simp [hook]
      rw [e]
      exact ⟨by show (-9223372036854775808 : Int) ≤ 0; decide, by show (0 : Int) ≤ 9223372036854775807; decide⟩
  have hfac : ∀ x y z q, IntKind.i64.has x → IntKind.i64.has y → IntKind.i64.has z → IntKind.i64.has q → IntKind.u32.has ((facN x (IntKind.i64.wrap y) (IntKind.i64.wrap z) (IntKind.i64.wrap q) : Nat) : Int) := fun x y z q _ _ _ _ => zH (xP (iN _ _) (iN _ _) (iN _ _)).1
  have hen : lX Tryz.prog en := by
    refine lX.cons (yes0_ok Tryz.func4 (by kernel_rfl) (by kernel_rfl) fun w => ?_) (lX.cons (op4_ok hH Tryz.func6 (by kernel_rfl) (by kernel_rfl) (F := fun x y z q => ((facN x (IntKind.i64.wrap y) (IntKind.i64.wrap z) (IntKind.i64.wrap q) : Nat) : Int)) (fun _ _ _ _ => rfl) hfac fun x y z q hx hy hz hq w => ?_)
      (lX.cons (op4_ok hH Tryz.func7 (by kernel_rfl) (by kernel_rfl) (F := fun x y z q => ((facN x (IntKind.i64.wrap y) (IntKind.i64.wrap z) (IntKind.i64.wrap q) : Nat) : Int)) (fun _ _ _ _ => rfl) hfac fun x y z q hx hy hz hq w => ?_)
      (lX.cons (op2_ok hH Tryz.func15 (by kernel_rfl) (by kernel_rfl) (F := fun x y => ((mulN 2 0 (IntKind.u32.wrap x).toNat (IntKind.u32.wrap y).toNat : Nat) : Int)) (fun _ _ => rfl) (fun _ _ _ _ => zH (kZ _ _)) fun x y hx hy w => ?_)
      (lX.cons (op2_ok hH Tryz.func18 (by kernel_rfl) (by kernel_rfl) (F := fun x y => ((mulN 2 0 (IntKind.u32.wrap x).toNat (IntKind.u32.wrap y).toNat : Nat) : Int)) (fun _ _ => rfl) (fun _ _ _ _ => zH (kZ _ _)) fun x y hx hy w => ?_) lX.nil))))
    · obtain ⟨k, hk⟩ := known_ev.rounds
      exact (eY.calls k true w hk).mono fun e w' he => he
    · obtain ⟨k, hk⟩ := (xP (k := x) hy hz hq).2.1.rounds
      rw [gQ hy, gQ hz, gQ hq]
      exact (dL.calls k x y z q _ w hk).mono fun e w' he => he
    · obtain ⟨k, hk⟩ := (xP (k := x) hy hz hq).2.2.rounds
      rw [gQ hy, gQ hz, gQ hq]
      exact (fD.calls k x y z q _ w hk).mono fun e w' he => he
    · obtain ⟨p1, p2⟩ := u32_b hx
      obtain ⟨q1, q2⟩ := u32_b hy
      rw [gQ hx, gQ hy]
      obtain ⟨u, rfl⟩ : ∃ u : Nat, x = u := ⟨x.toNat, by omega⟩
      obtain ⟨v, rfl⟩ : ∃ v : Nat, y = v := ⟨y.toNat, by omega⟩
      obtain ⟨k, hk⟩ := (nM u v (by omega) (by omega)).rounds
      exact (bB.calls k u v _ w hk).mono fun e w' he => he
    · obtain ⟨p1, p2⟩ := u32_b hx
      obtain ⟨q1, q2⟩ := u32_b hy
      rw [gQ hx, gQ hy]
      obtain ⟨u, rfl⟩ : ∃ u : Nat, x = u := ⟨x.toNat, by omega⟩
      obtain ⟨v, rfl⟩ : ∃ v : Nat, y = v := ⟨y.toNat, by omega⟩
      obtain ⟨k, hk⟩ := (sZ u v (by omega) (by omega)).rounds
      exact (dF.calls k u v _ w hk).mono fun e w' he => he
  have hv : ∀ v ∈ args, v.ok (fun _ => False) := by
    intro v hv
    simp only [args, List.mem_cons, List.not_mem_nil, or_false] at hv
    rcases hv with rfl | rfl | rfl | rfl | rfl | rfl | rfl | rfl | rfl
    · exact h0
    · exact h1
    · exact h2
    · exact h3
    · exact h4
    · exact h5
    · exact h6
    · exact h7
    · exact h8
  have hc := law_v hH hen fns_ok (aAF W) hv run
  have e : (args.map (PV.v m00)).toArray = #[.int .i64 a0, .int .i64 a1, .int .i64 a2, .int .i64 a3, .int .u8 a4, .int .u8 a5, .int .u8 a6, .int .u8 a7, .int .u32 a8] := by
    simp only [args, List.map]
    rfl
  rw [e] at hc
  exact hc
end Go.Proofs.YtjlgmfgjleajfaaGreat.XwSched
