import Derived.Test.YtoljndjpnbdjmaaQctM1
import Derived.Test.YtoljndjpnbdjmaaQctPx20
import Derived.Test.YtoljndjpnbdjmaaQctM4
import Derived.Test.YtoljndjpnbdjmaaQctPx22
import Derived.Test.YtoljndjpnbdjmaaQctM5
import Derived.Test.YtoljndjpnbdjmaaQctM6
-- Printed by a program of this session's out of Lean's print of the translation; Lean checks it.
namespace Go.Proofs.Ytoljndjpnbdjmaa.P
open Go.RowKit Go.Proofs.YtoljndjpnbdjmaaW.PrintWords Go.Proofs.YtoljndjpnbdjmaaW.PrintLast Go.Proofs.YtoljndjpnbdjmaaW.PrintMore
attribute [local go_sem] max2_int min2_int max_two min_two max_three min_three max_four min_four   -- for this text's walks alone
set_option linter.unusedVariables false
set_option linter.unusedSimpArgs false

attribute [local go_sem high] eqA30
/-! ### anneallaw9_ConvTells: function 8 -/
mutual
def anneallaw9_ConvTells.l0 : Nat → Int → List (S45) → Int → Int → Option (Bool)
 | 0, _, _, _, _ => none
 | k + 1, x5, x43, x44, x45 => if x45 < x44 then (if 0 ≤ x45 then (if x45 < (x43.length : Int) then ((annealseat_Num.f ((rd_T45 x43 x45).f0) x5).bind fun t505 => ((annealseat_Mild.f ((rd_T45 x43 x45).f0) x5).bind fun t506 => ((some (([x5, t505, t506] : List Int) : List Int)).bind fun y507 => (anneallaw9_ConvTells.l1 k x5 x43 x44 x45 y507 (y507.length : Int) 0 ((rd_T45 x43 x45).f0) ((rd_T45 x43 x45).f1) ((rd_T45 x43 x45).f2))))) else (none)) else (none)) else (some true)
def anneallaw9_ConvTells.l1 : Nat → Int → List (S45) → Int → Int → List Int → Int → Int → Int → Int → Int → Option (Bool)
 | 0, _, _, _, _, _, _, _, _, _, _ => none
 | k + 1, x5, x43, x44, x45, x58, x59, x60, x505000, x505001, x505002 => if x60 < x59 then (if 0 ≤ x60 then (if x60 < (x58.length : Int) then ((conv_To.f k x505000 x505001 x505002 (rd x58 x60)).bind fun bt511 => ((annealref1_To.f k x505000 x505001 x505002 (rd x58 x60)).bind fun bt518 => (if bt511.1 = bt518.1 then (if (!(bt511.2.1 == bt518.2.1) || (!(bt511.2.2.1 == bt518.2.2.1) || (!(bt511.2.2.2.1 == bt518.2.2.2.1) || (!(bt511.2.2.2.2.1 == bt518.2.2.2.2.1) || (!(bt511.2.2.2.2.2 == bt518.2.2.2.2.2)))))) = true then (anneallaw9_ConvTells.j2 k x5 x43 x44 x45 x58 x59 x60 true x505000 x505001 x505002) else ((conv_Widen.f k x505000 (rd x58 x60)).bind fun t525 => ((annealref1_Widen.f k x505000 (rd x58 x60)).bind fun t526 => (if t525 = t526 then ((conv_Narrow.f k x505001 (rd x58 x60)).bind fun t527 => ((annealref1_Narrow.f k x505001 (rd x58 x60)).bind fun t528 => (anneallaw9_ConvTells.j2 k x5 x43 x44 x45 x58 x59 x60 (t527 != t528) x505000 x505001 x505002))) else (anneallaw9_ConvTells.j2 k x5 x43 x44 x45 x58 x59 x60 true x505000 x505001 x505002))))) else (anneallaw9_ConvTells.j2 k x5 x43 x44 x45 x58 x59 x60 true x505000 x505001 x505002)))) else (none)) else (none)) else (anneallaw9_ConvTells.l0 k x5 x43 x44 (wrap64 (x45 + 1)))
def anneallaw9_ConvTells.j2 : Nat → Int → List (S45) → Int → Int → List Int → Int → Int → Bool → Int → Int → Int → Option (Bool)
 | 0, _, _, _, _, _, _, _, _, _, _, _ => none
 | k + 1, x5, x43, x44, x45, x58, x59, x60, x115, x505000, x505001, x505002 => if x115 = true then (some false) else (anneallaw9_ConvTells.l1 k x5 x43 x44 x45 x58 x59 (wrap64 (x60 + 1)) x505000 x505001 x505002)
end
def anneallaw9_ConvTells.f (k : Nat) (a0 : Int) (a1 : Int) (a2 : Int) (a3 : Int) (a4 : Int) (a5 : Int) : Option (Bool) := (anneallaw9_known.f k).bind fun t496 => (if t496 = true then ((anneallaw9_form.f a3).bind fun t497 => ((anneallaw9_form.f a4).bind fun t498 => ((anneallaw9_form.f a4).bind fun t499 => ((some (([(⟨a0, a1, a2⟩ : S45), (⟨t497, t498, Int.tmod (wrap64 (IntKind.u8.wrap (Int.tdiv a3 3))) 5⟩ : S45), (⟨2, t499, Int.tmod (wrap64 (IntKind.u8.wrap (Int.tdiv a3 3))) 5⟩ : S45)] : List (S45)) : List (S45))).bind fun y500 => (anneallaw9_ConvTells.l0 k a5 y500 (y500.length : Int) 0))))) else (some false))
def anneallaw9_ConvTells.T6 : Bool × List (List Nat × List Nat) := (true, [([], []), ([], []), ([1], [1]), ([], []), ([2, 3], [2, 3]), ([], []), ([5], [5]), ([], []), ([6, 7, 4], [6, 7]), ([0, 4, 8], [0, 4, 8]), ([9], [9]), ([], [])])
def anneallaw9_ConvTells.B6 : List Nat := [0, 0, 2, 0, 14, 0, 32, 0, 254, 511, 1023, 0]
theorem anneallaw9_ConvTells.tab6 : rtab .any (opsOf Try.f8 6) = anneallaw9_ConvTells.T6 := by kernel_rfl
theorem anneallaw9_ConvTells.bits6 : waitsOk anneallaw9_ConvTells.T6.2 anneallaw9_ConvTells.B6 = true := by kernel_rfl
def anneallaw9_ConvTells.T11 : Bool × List (List Nat × List Nat) := (true, [([], []), ([], []), ([0, 1], [0, 1]), ([2], [2]), ([3], [3]), ([3], [3]), ([4, 5, 3], [3, 4, 5]), ([3, 6], [3, 6]), ([7, 3], [7]), ([8], [8]), ([9, 8], [8, 9]), ([8], [8]), ([10, 11, 8, 8], [8, 10, 11]), ([8], [8]), ([13, 8], [8, 13]), ([8], [8]), ([14, 15, 12, 8], [8, 14, 15]), ([12, 16, 8], [8, 12, 16]), ([8, 17], [8, 17]), ([18, 16], [18]), ([19], [19]), ([20, 19], [19, 20]), ([19], [19]), ([21, 22, 19, 19], [19, 21, 22]), ([19], [19]), ([24, 19], [19, 24]), ([19], [19]), ([25, 26, 23, 19], [19, 25, 26]), ([23, 27, 19], [19, 23, 27]), ([19, 28], [19, 28])])
def anneallaw9_ConvTells.B11 : List Nat := [0, 0, 3, 7, 15, 15, 63, 127, 255, 511, 1023, 511, 4095, 511, 8703, 511, 65535, 131071, 262143, 524287, 1048575, 2097151, 1048575, 8388607, 1048575, 17825791, 1048575, 134217727, 268435455, 536870911]
theorem anneallaw9_ConvTells.tab11 : rtab .any (opsOf Try.f8 11) = anneallaw9_ConvTells.T11 := by kernel_rfl
theorem anneallaw9_ConvTells.bits11 : waitsOk anneallaw9_ConvTells.T11.2 anneallaw9_ConvTells.B11 = true := by kernel_rfl
set_option maxHeartbeats 8000000 in
set_option maxRecDepth 100000 in
theorem anneallaw9_ConvTells.calls (k : Nat) (a0 : Int) (a1 : Int) (a2 : Int) (a3 : Int) (a4 : Int) (a5 : Int) (r : Bool) (w : World) (h : anneallaw9_ConvTells.f k a0 a1 a2 a3 a4 a5 = some r) :
  Calls Try.prog 8 #[.int .i64 a0, .int .i64 a1, .int .i64 a2, .int .u8 a3, .int .u8 a4, .int .u32 a5] w fun e w' => e = .returned (.bool r) ∧ Below w.heap.size w w' := by
 have hu45 := Try.underlying45
 have hu30 := Try.underlying30
 have HB := Aside0.mk (Below.refl w.heap.size w)
 have H : ((anneallaw9_known.f k).bind fun t496 => (if t496 = true then ((anneallaw9_form.f a3).bind fun t497 => ((anneallaw9_form.f a4).bind fun t498 => ((anneallaw9_form.f a4).bind fun t499 => ((some (([(⟨a0, a1, a2⟩ : S45), (⟨t497, t498, Int.tmod (wrap64 (IntKind.u8.wrap (Int.tdiv a3 3))) 5⟩ : S45), (⟨2, t499, Int.tmod (wrap64 (IntKind.u8.wrap (Int.tdiv a3 3))) 5⟩ : S45)] : List (S45)) : List (S45))).bind fun y500 => (anneallaw9_ConvTells.l0 k a5 y500 (y500.length : Int) 0))))) else (some false))) = some r := h
 clear h
 replace H := Option.bind_eq_some_iff.mp H
 obtain ⟨t496, A70, H⟩ := H
 replace H : (if t496 = true then ((anneallaw9_form.f a3).bind fun t497 => ((anneallaw9_form.f a4).bind fun t498 => ((anneallaw9_form.f a4).bind fun t499 => ((some (([(⟨a0, a1, a2⟩ : S45), (⟨t497, t498, Int.tmod (wrap64 (IntKind.u8.wrap (Int.tdiv a3 3))) 5⟩ : S45), (⟨2, t499, Int.tmod (wrap64 (IntKind.u8.wrap (Int.tdiv a3 3))) 5⟩ : S45)] : List (S45)) : List (S45))).bind fun y500 => (anneallaw9_ConvTells.l0 k a5 y500 (y500.length : Int) 0))))) else (some false)) = some r := H
 have A7 := Aside0.mk A70
 clear A70
 by_cases c8 : t496 = true
 ·subst c8
  have H1 : ((anneallaw9_form.f a3).bind fun t497 => ((anneallaw9_form.f a4).bind fun t498 => ((anneallaw9_form.f a4).bind fun t499 => ((some (([(⟨a0, a1, a2⟩ : S45), (⟨t497, t498, Int.tmod (wrap64 (IntKind.u8.wrap (Int.tdiv a3 3))) 5⟩ : S45), (⟨2, t499, Int.tmod (wrap64 (IntKind.u8.wrap (Int.tdiv a3 3))) 5⟩ : S45)] : List (S45)) : List (S45))).bind fun y500 => (anneallaw9_ConvTells.l0 k a5 y500 (y500.length : Int) 0))))) = some r := by rw [if_pos rfl] at H; exact H
  clear H
  have H := H1
  clear H1
  replace H := Option.bind_eq_some_iff.mp H
  obtain ⟨t497, A90, H⟩ := H
  replace H : ((anneallaw9_form.f a4).bind fun t498 => ((anneallaw9_form.f a4).bind fun t499 => ((some (([(⟨a0, a1, a2⟩ : S45), (⟨t497, t498, Int.tmod (wrap64 (IntKind.u8.wrap (Int.tdiv a3 3))) 5⟩ : S45), (⟨2, t499, Int.tmod (wrap64 (IntKind.u8.wrap (Int.tdiv a3 3))) 5⟩ : S45)] : List (S45)) : List (S45))).bind fun y500 => (anneallaw9_ConvTells.l0 k a5 y500 (y500.length : Int) 0)))) = some r := H
  have A9 := Aside0.mk A90
  clear A90
  replace H := Option.bind_eq_some_iff.mp H
  obtain ⟨t498, A100, H⟩ := H
  replace H : ((anneallaw9_form.f a4).bind fun t499 => ((some (([(⟨a0, a1, a2⟩ : S45), (⟨t497, t498, Int.tmod (wrap64 (IntKind.u8.wrap (Int.tdiv a3 3))) 5⟩ : S45), (⟨2, t499, Int.tmod (wrap64 (IntKind.u8.wrap (Int.tdiv a3 3))) 5⟩ : S45)] : List (S45)) : List (S45))).bind fun y500 => (anneallaw9_ConvTells.l0 k a5 y500 (y500.length : Int) 0))) = some r := H
  have A10 := Aside0.mk A100
  clear A100
  replace H := Option.bind_eq_some_iff.mp H
  obtain ⟨t499, A110, H⟩ := H
  replace H : ((some (([(⟨a0, a1, a2⟩ : S45), (⟨t497, t498, Int.tmod (wrap64 (IntKind.u8.wrap (Int.tdiv a3 3))) 5⟩ : S45), (⟨2, t499, Int.tmod (wrap64 (IntKind.u8.wrap (Int.tdiv a3 3))) 5⟩ : S45)] : List (S45)) : List (S45))).bind fun y500 => (anneallaw9_ConvTells.l0 k a5 y500 (y500.length : Int) 0)) = some r := H
  have A11 := Aside0.mk A110
  clear A110
  obtain ⟨y500, hy500⟩ : ∃ y_ : List (S45), y_ = (([(⟨a0, a1, a2⟩ : S45), (⟨t497, t498, Int.tmod (wrap64 (IntKind.u8.wrap (Int.tdiv a3 3))) 5⟩ : S45), (⟨2, t499, Int.tmod (wrap64 (IntKind.u8.wrap (Int.tdiv a3 3))) 5⟩ : S45)] : List (S45))) := ⟨_, rfl⟩
  replace H : (anneallaw9_ConvTells.l0 k a5 y500 (y500.length : Int) 0) = some r := by first | (rw [hy500]; with_reducible exact H) | (have H2_ := (Option.bind_some _ _).symm.trans H; rw [hy500]; with_reducible exact H2_) | (have H2_ := (Option.bind_some _ _).symm.trans H; with_reducible exact H2_) | with_reducible exact H | (rw [hy500]; exact H) | exact H
  have Ny500 := Aside0.mk hy500
  clear hy500
  have H' := Aside0.mk H
  clear H
  go_enter Try.func8, Try.ntmps8
  have hq_ : Int.tmod (wrap64 (IntKind.u8.wrap (Int.tdiv a3 3))) 5 = Int.tdiv a3 3 % 256 % 5 := by rw [IntKind.wrap_u8, show wrap64 (Int.tdiv a3 3 % 256) = Int.tdiv a3 3 % 256 by (unfold wrap64; omega)]; exact Int.tmod_eq_emod_of_nonneg (by omega)
  go_wp2_with (first | ((with_reducible refine gate_callee (f := 24) rfl ?_); refine goesL_ (some 21) rfl rfl Try.func24 (by kernel_rfl) rfl #[] rfl (by (try simp only [List.map_toArray, List.map_cons, List.map_nil]); first | done | rfl | (simp only [List.length_drop, List.length_take]; rfl)) ?_; (with_reducible refine (anneallaw9_known.calls k  true _ A7.out).mono ?_); rintro e w12 ⟨rfl, hb⟩; refine ⟨_, rfl, ?_⟩; have n0_ := Aside0.mk (below_step (by repeat (first | (with_reducible first | exact HB.out | apply below_alloc | apply pw_below_drewN | apply below_drew1) | exact HB.out)) hb); clear HB; have HB := n0_; clear n0_; (try clear hb); (try clear hb2); (try clear hk); (try clear hi)) | ((with_reducible refine gate_callee (f := 25) rfl ?_); refine goesL_ (some 28) rfl rfl Try.func25 (by kernel_rfl) rfl #[.int .u8 a3] rfl (by (try simp only [List.map_toArray, List.map_cons, List.map_nil]); first | done | rfl | (simp only [List.length_drop, List.length_take]; rfl)) ?_; (with_reducible refine (anneallaw9_form.calls a3 t497 _ A9.out).mono ?_); rintro e w13 ⟨rfl, hb⟩; refine ⟨_, rfl, ?_⟩; have n0_ := Aside0.mk (below_step (by repeat (first | (with_reducible first | exact HB.out | apply below_alloc | apply pw_below_drewN | apply below_drew1) | exact HB.out)) hb); clear HB; have HB := n0_; clear n0_; (try clear hb); (try clear hb2); (try clear hk); (try clear hi)) | ((with_reducible refine gate_callee (f := 25) rfl ?_); refine goesL_ (some 30) rfl rfl Try.func25 (by kernel_rfl) rfl #[.int .u8 a4] rfl (by (try simp only [List.map_toArray, List.map_cons, List.map_nil]); first | done | rfl | (simp only [List.length_drop, List.length_take]; rfl)) ?_; (with_reducible refine (anneallaw9_form.calls a4 t498 _ A10.out).mono ?_); rintro e w14 ⟨rfl, hb⟩; refine ⟨_, rfl, ?_⟩; have n0_ := Aside0.mk (below_step (by repeat (first | (with_reducible first | exact HB.out | apply below_alloc | apply pw_below_drewN | apply below_drew1) | exact HB.out)) hb); clear HB; have HB := n0_; clear n0_; (try clear hb); (try clear hb2); (try clear hk); (try clear hi)) | ((with_reducible refine gate_callee (f := 25) rfl ?_); refine goesL_ (some 37) rfl rfl Try.func25 (by kernel_rfl) rfl #[.int .u8 a4] rfl (by (try simp only [List.map_toArray, List.map_cons, List.map_nil]); first | done | rfl | (simp only [List.length_drop, List.length_take]; rfl)) ?_; (with_reducible refine (anneallaw9_form.calls a4 t499 _ A11.out).mono ?_); rintro e w15 ⟨rfl, hb⟩; refine ⟨_, rfl, ?_⟩; have n0_ := Aside0.mk (below_step (by repeat (first | (with_reducible first | exact HB.out | apply below_alloc | apply pw_below_drewN | apply below_drew1) | exact HB.out)) hb); clear HB; have HB := n0_; clear n0_; (try clear hb); (try clear hb2); (try clear hk); (try clear hi)) | ((with_reducible refine gate_dst (N := 43) rfl ?_); refine Kd.R_lit k45 _ 45 ?hg (N := 43) ?hd (xs := ([(⟨a0, a1, a2⟩ : S45), (⟨t497, t498, Int.tmod (wrap64 (IntKind.u8.wrap (Int.tdiv a3 3))) 5⟩ : S45), (⟨2, t499, Int.tmod (wrap64 (IntKind.u8.wrap (Int.tdiv a3 3))) 5⟩ : S45)] : List (S45))) (inner := [.int .i64 a0, .int .i64 a1, .int .i64 a2, .int .i64 t497, .int .i64 t498, .int .i64 (Int.tmod (wrap64 (IntKind.u8.wrap (Int.tdiv a3 3))) 5), .int .i64 2, .int .i64 t499, .int .i64 (Int.tmod (wrap64 (IntKind.u8.wrap (Int.tdiv a3 3))) 5)]) (ok := fun _ => True) (okp := fun _ => True) ?hr ?hp (fun _ hk => hk) trivial (Below.refl _ _) (Nat.le_refl _) (by simp) ?_; (case hd => rfl); (case hg => rfl); (case hr => first | (go_simp; done) | (go_simp; rfl) | (go_simp; rw [hq_]; rfl) | (go_simp; simp only [hq_]; rfl) | (rw [hq_]; go_simp; rfl)); (case hp => exact (Reps.c3 (show Kd.M k45 _ _ _ (⟨a0, a1, a2⟩ : S45) [.int .i64 a0, .int .i64 a1, .int .i64 a2] from (k45_mkM _ _ _ (⟨a0, a1, a2⟩ : S45) )) (Reps.c3 (show Kd.M k45 _ _ _ (⟨t497, t498, Int.tmod (wrap64 (IntKind.u8.wrap (Int.tdiv a3 3))) 5⟩ : S45) [.int .i64 t497, .int .i64 t498, .int .i64 (Int.tmod (wrap64 (IntKind.u8.wrap (Int.tdiv a3 3))) 5)] from (k45_mkM _ _ _ (⟨t497, t498, Int.tmod (wrap64 (IntKind.u8.wrap (Int.tdiv a3 3))) 5⟩ : S45) )) (Reps.c3 (show Kd.M k45 _ _ _ (⟨2, t499, Int.tmod (wrap64 (IntKind.u8.wrap (Int.tdiv a3 3))) 5⟩ : S45) [.int .i64 2, .int .i64 t499, .int .i64 (Int.tmod (wrap64 (IntKind.u8.wrap (Int.tdiv a3 3))) 5)] from (k45_mkM _ _ _ (⟨2, t499, Int.tmod (wrap64 (IntKind.u8.wrap (Int.tdiv a3 3))) 5⟩ : S45) )) (Reps.none _ _))))); intro v501 w16 ho17 hb hg_ hnew_; clear hg_ hnew_; (first | rw [← Ny500.out] at ho17 | (simp only [Int.reduceToNat] at ho17; rw [← Ny500.out] at ho17)); have n0_ := Aside0.mk (Kd.R_lower ho17 (below_size (by repeat (first | (with_reducible first | exact HB.out | apply below_alloc | apply pw_below_drewN | apply below_drew1) | exact HB.out)))); have n1_ := Aside0.mk (below_step (by repeat (first | (with_reducible first | exact HB.out | apply below_alloc | apply pw_below_drewN | apply below_drew1) | exact HB.out)) hb); clear HB; have HO502 := n0_; have HB := n1_; clear n0_ n1_; clear hb ho17; obtain ⟨Ao18, co18, eo18⟩ := Kd.R_slice HO502.out; subst eo18))
  go_loopg [45] k (fun kq v45 w' => ∃ (x45_1 : Int), v45 = .int .i64 x45_1 ∧ Aside0 (anneallaw9_ConvTells.l0 kq a5 y500 (y500.length : Int) x45_1 = some r) ∧ Aside0 (kq ≤ k) ∧ Aside0 (Kd.R k45 45 w' w.heap.size (fun _ => True) (.slice Ao18 y500.length co18) y500) ∧ Aside0 (Below w.heap.size w w'))
  case atStart => exact ⟨(0), (by first | rfl | (simp; done) | (simp [*]; done) | (congr 1; (try unfold wrap64); omega) | (congr 1; rw [IntKind.wrap_u64]; omega)), H', ⟨Nat.le_refl _⟩, ⟨by (with_reducible repeat (first | apply Kd.R_alloc | apply Kd.R_drewN | apply Kd.R_drew)); exact HO502.out⟩, ⟨by repeat (first | (with_reducible first | exact HB.out | apply below_alloc | apply pw_below_drewN | apply below_drew1) | exact HB.out)⟩⟩
  case round =>
   clear H'
   try clear c2
   try clear p2
   try clear c3
   try clear p6
   try clear c8
   obtain ⟨x45_1, rfl, HA, HK1, HO_43, HB⟩ := hrel
   cases gk with
   | zero => exact absurd HA.out (by simp [anneallaw9_ConvTells.l0])
   | succ k1 =>
    have H := HA.out
    clear HA
    simp only [anneallaw9_ConvTells.l0] at H
    by_cases c19 : x45_1 < (y500.length : Int)
    ·rw [if_pos c19] at H
     have c19b0 : decide (x45_1 < (y500.length : Int)) = true := decide_eq_true c19
     clear c19
     by_cases c20 : 0 ≤ x45_1
     ·rw [if_pos c20] at H
      have c20b0 : decide (0 ≤ x45_1) = true := decide_eq_true c20
      clear c20
      by_cases c21 : x45_1 < (y500.length : Int)
      ·rw [if_pos c21] at H
       have c21b0 : decide (x45_1 < (y500.length : Int)) = true := decide_eq_true c21
       clear c21
       replace H := Option.bind_eq_some_iff.mp H
       obtain ⟨t505, A220, H⟩ := H
       replace H : ((annealseat_Mild.f ((rd_T45 y500 x45_1).f0) a5).bind fun t506 => ((some (([a5, t505, t506] : List Int) : List Int)).bind fun y507 => (anneallaw9_ConvTells.l1 k1 a5 y500 (y500.length : Int) x45_1 y507 (y507.length : Int) 0 ((rd_T45 y500 x45_1).f0) ((rd_T45 y500 x45_1).f1) ((rd_T45 y500 x45_1).f2)))) = some r := H
       have A22 := Aside0.mk A220
       clear A220
       replace H := Option.bind_eq_some_iff.mp H
       obtain ⟨t506, A230, H⟩ := H
       replace H : ((some (([a5, t505, t506] : List Int) : List Int)).bind fun y507 => (anneallaw9_ConvTells.l1 k1 a5 y500 (y500.length : Int) x45_1 y507 (y507.length : Int) 0 ((rd_T45 y500 x45_1).f0) ((rd_T45 y500 x45_1).f1) ((rd_T45 y500 x45_1).f2))) = some r := H
       have A23 := Aside0.mk A230
       clear A230
       obtain ⟨y507, hy507⟩ : ∃ y_ : List Int, y_ = (([a5, t505, t506] : List Int)) := ⟨_, rfl⟩
       replace H : (anneallaw9_ConvTells.l1 k1 a5 y500 (y500.length : Int) x45_1 y507 (y507.length : Int) 0 ((rd_T45 y500 x45_1).f0) ((rd_T45 y500 x45_1).f1) ((rd_T45 y500 x45_1).f2)) = some r := by first | (rw [hy507]; with_reducible exact H) | (have H2_ := (Option.bind_some _ _).symm.trans H; rw [hy507]; with_reducible exact H2_) | (have H2_ := (Option.bind_some _ _).symm.trans H; with_reducible exact H2_) | with_reducible exact H | (rw [hy507]; exact H) | exact H
       have Ny507 := Aside0.mk hy507
       clear hy507
       have H' := Aside0.mk H
       clear H
       have p503 : 0 ≤ (x45_1 : Int) := of_decide_eq_true (by first | (with_reducible assumption) | assumption)
       have q503 : x45_1 < (y500.length : Int) := of_decide_eq_true (by first | (with_reducible assumption) | assumption)
       obtain ⟨ad503, e503, hx503_0, hx503_1, hx503_2⟩ := at_T45 (Kd.R_reads' HO_43.out).2.2 x45_1 p503 q503
       cases e503
       replace p503 := eq_true p503
       replace q503 := eq_true q503
       try go_wp2_with (first | ((with_reducible refine gate_dst (N := 14) rfl ?_); refine box_event ?hg (N := 14) ?hd (cs := #[.int .i64 0, .int .i64 0, .int .i64 0]) (t := 45) ?hr ?_; (case hd => rfl); (case hg => rfl); (case hr => first | (go_simp; done) | (go_simp; rfl)); intro gb504 hg w24 hbox hb; have n0_ := Aside0.mk (Kd.R_below (Kd.R_elderB (by (with_reducible repeat (first | apply Kd.R_alloc | apply Kd.R_drewN | apply Kd.R_drew)); exact HO_43.out) gb504 (Nat.le_of_eq hg.symm)) hb); have n1_ := Aside0.mk (below_step (by repeat (first | (with_reducible first | exact HB.out | apply below_alloc | apply pw_below_drewN | apply below_drew1) | exact HB.out)) hb); have n2_ := Aside0.mk (hbox); have n3_ := Aside0.mk ((by rw [hg]; exact (below_size (by repeat (first | (with_reducible first | exact HB.out | apply below_alloc | apply pw_below_drewN | apply below_drew1) | exact HB.out))) : w.heap.size ≤ gb504)); have n4_ := Aside0.mk ((by rw [hg]; exact (below_size (by repeat (first | (with_reducible first | exact HB.out | apply below_alloc | apply pw_below_drewN | apply below_drew1) | exact HB.out))) : w.heap.size ≤ gb504)); clear HO_43; clear HB; have HO_43 := n0_; have HB := n1_; have BK504 := n2_; have GW504 := n3_; have GE504 := n4_; clear n0_ n1_ n2_ n3_ n4_; clear hb hbox hg; have hcz25_0 : w24.cell? ⟨gb504, 0, none⟩ = some (.int .i64 0) := (blk_cell BK504.out 0).trans rfl; have hcz25_1 : w24.cell? ⟨gb504, 1, none⟩ = some (.int .i64 0) := (blk_cell BK504.out 1).trans rfl; have hcz25_2 : w24.cell? ⟨gb504, 2, none⟩ = some (.int .i64 0) := (blk_cell BK504.out 2).trans rfl; have hfz25_0 := blk_frozen BK504.out 0; have hfz25_1 := blk_frozen BK504.out 1; have hfz25_2 := blk_frozen BK504.out 2))
       have n0_ : Aside0 (Kd.R k45 45 (((w24.setCell ⟨gb504, 0, none⟩ (.int .i64 ((rd_T45 y500 x45_1).f0))).setCell ⟨gb504, 1, none⟩ (.int .i64 ((rd_T45 y500 x45_1).f1))).setCell ⟨gb504, 2, none⟩ (.int .i64 ((rd_T45 y500 x45_1).f2))) w.heap.size (fun k_ => k_ ≠ gb504) (.slice (some ad503) y500.length co18) y500) := ⟨by (with_reducible repeat (first | apply Kd.R_alloc | apply Kd.R_drewN | apply Kd.R_drew)); exact Kd.R_mono (Kd.R_far (p := ⟨gb504, 2, none⟩) (Kd.R_far (p := ⟨gb504, 1, none⟩) (Kd.R_far (p := ⟨gb504, 0, none⟩) (Kd.R_mono HO_43.out (fun k_ hk => (⟨hk, hk.2⟩ : _ ∧ k_ ≠ gb504))) (fun _ hk => hk.2) (.int .i64 ((rd_T45 y500 x45_1).f0))) (fun _ hk => hk.2) (.int .i64 ((rd_T45 y500 x45_1).f1))) (fun _ hk => hk.2) (.int .i64 ((rd_T45 y500 x45_1).f2))) (fun _ hk => hk.1.2)⟩
       have n1_ : Aside0 ((((w24.setCell ⟨gb504, 0, none⟩ (.int .i64 ((rd_T45 y500 x45_1).f0))).setCell ⟨gb504, 1, none⟩ (.int .i64 ((rd_T45 y500 x45_1).f1))).setCell ⟨gb504, 2, none⟩ (.int .i64 ((rd_T45 y500 x45_1).f2))).heap[gb504]? = some (.cells #[.int .i64 ((rd_T45 y500 x45_1).f0), .int .i64 ((rd_T45 y500 x45_1).f1), .int .i64 ((rd_T45 y500 x45_1).f2)] 45 (0, 0))) := ⟨by (with_reducible repeat (first | refine blk_drewN ?_ _ | refine blk_drew ?_ | refine blk_alloc ?_ _)); refine blk_put (cs := #[.int .i64 ((rd_T45 y500 x45_1).f0), .int .i64 ((rd_T45 y500 x45_1).f1), .int .i64 0]) ?_ 2 _ rfl; (with_reducible repeat (first | refine blk_drewN ?_ _ | refine blk_drew ?_ | refine blk_alloc ?_ _)); refine blk_put (cs := #[.int .i64 ((rd_T45 y500 x45_1).f0), .int .i64 0, .int .i64 0]) ?_ 1 _ rfl; (with_reducible repeat (first | refine blk_drewN ?_ _ | refine blk_drew ?_ | refine blk_alloc ?_ _)); refine blk_put (cs := #[.int .i64 0, .int .i64 0, .int .i64 0]) ?_ 0 _ rfl; (with_reducible repeat (first | refine blk_drewN ?_ _ | refine blk_drew ?_ | refine blk_alloc ?_ _)); exact BK504.out⟩
       have n2_ : Aside0 (Below w.heap.size w (((w24.setCell ⟨gb504, 0, none⟩ (.int .i64 ((rd_T45 y500 x45_1).f0))).setCell ⟨gb504, 1, none⟩ (.int .i64 ((rd_T45 y500 x45_1).f1))).setCell ⟨gb504, 2, none⟩ (.int .i64 ((rd_T45 y500 x45_1).f2)))) := ⟨by repeat (first | (with_reducible first | exact HB.out | apply below_alloc | apply pw_below_drewN | apply below_drew1 | refine below_set ?_ GE504.out) | exact HB.out)⟩
       (try clear HO_43)
       (try clear BK504)
       (try clear HB)
       generalize (((w24.setCell ⟨gb504, 0, none⟩ (.int .i64 ((rd_T45 y500 x45_1).f0))).setCell ⟨gb504, 1, none⟩ (.int .i64 ((rd_T45 y500 x45_1).f1))).setCell ⟨gb504, 2, none⟩ (.int .i64 ((rd_T45 y500 x45_1).f2))) = w26 at n0_ n1_ n2_ ⊢
       have HO_43 := n0_
       have BK504 := n1_
       have HB := n2_
       clear n0_ n1_ n2_
       have n0_ := Aside0.mk (Kd.R_drew HO_43.out)
       have n1_ := Aside0.mk (blk_drew BK504.out)
       have n2_ := Aside0.mk (below_drew1 HB.out)
       clear HO_43
       clear BK504
       clear HB
       have HO_43 := n0_
       have BK504 := n1_
       have HB := n2_
       clear n0_ n1_ n2_
       refine start_ (n := 12) (S := fun w' => w'.cell? ⟨gb504, 0, none⟩ = some (.int .i64 ((rd_T45 y500 x45_1).f0)) ∧ w'.cell? ⟨gb504, 1, none⟩ = some (.int .i64 ((rd_T45 y500 x45_1).f1)) ∧ w'.cell? ⟨gb504, 2, none⟩ = some (.int .i64 ((rd_T45 y500 x45_1).f2))) (ds := []) #[false, false, false, false, false, false, false, false, false, false, false, false] (by kernel_rfl) rfl rfl ⟨(blk_cell BK504.out 0).trans rfl, (blk_cell BK504.out 1).trans rfl, (blk_cell BK504.out 2).trans rfl⟩ (fun hHeld => ?_); refine with_tabW anneallaw9_ConvTells.tab6 anneallaw9_ConvTells.bits6 (fun HT_ HW_ => ?_)
       generalize w26.drew = w27 at HO_43 BK504 HB hHeld ⊢
       refine pure_ (i := 0) (N := some 49) (v := ?_) (a' := ?_) #[true, false, false, false, false, false, false, false, false, false, false, false] rfl rfl (any_of HT_.out (by kernel_rfl)) (fun _ _ _ h => h) (Or.inl ⟨by rfl, ?_⟩) ?_ ?_
       rotate_left
       ·intro w'
        go_simp
        with_reducible rfl
       rotate_left
       ·simp only [Act.put, List.setIfInBounds_toArray, List.set_cons_zero, List.set_cons_succ, i64_w, i32_w]
        rfl
       refine pure_ (i := 1) (N := some 50) (v := ?_) (a' := ?_) #[true, true, false, false, false, false, false, false, false, false, false, false] rfl rfl (any_of HT_.out (by kernel_rfl)) (fun _ _ _ h => h) (Or.inl ⟨by rfl, ?_⟩) ?_ ?_
       rotate_left
       ·intro w'
        go_simp
        with_reducible rfl
       rotate_left
       ·simp only [Act.put, List.setIfInBounds_toArray, List.set_cons_zero, List.set_cons_succ, i64_w, i32_w]
        rfl
       refine pure_ (i := 3) (N := some 52) (v := ?_) (a' := ?_) #[true, true, false, true, false, false, false, false, false, false, false, false] rfl rfl (any_of HT_.out (by kernel_rfl)) (fun _ _ _ h => h) (Or.inl ⟨by rfl, ?_⟩) ?_ ?_
       rotate_left
       ·intro w'
        go_simp
        with_reducible rfl
       rotate_left
       ·simp only [Act.put, List.setIfInBounds_toArray, List.set_cons_zero, List.set_cons_succ, i64_w, i32_w]
        rfl
       refine pure_ (i := 5) (N := some 54) (v := ?_) (a' := ?_) #[true, true, false, true, false, true, false, false, false, false, false, false] rfl rfl (any_of HT_.out (by kernel_rfl)) (fun _ _ _ h => h) (Or.inl ⟨by rfl, ?_⟩) ?_ ?_
       rotate_left
       ·intro w'
        go_simp
        with_reducible rfl
       rotate_left
       ·simp only [Act.put, List.setIfInBounds_toArray, List.set_cons_zero, List.set_cons_succ, i64_w, i32_w]
        rfl
       refine pure_ (i := 7) (N := some 56) (v := ?_) (a' := ?_) #[true, true, false, true, false, true, false, true, false, false, false, false] rfl rfl (any_of HT_.out (by kernel_rfl)) (fun _ _ _ h => h) (Or.inl ⟨by rfl, ?_⟩) ?_ ?_
       rotate_left
       ·intro w'
        go_simp
        with_reducible rfl
       rotate_left
       ·simp only [Act.put, List.setIfInBounds_toArray, List.set_cons_zero, List.set_cons_succ, i64_w, i32_w]
        rfl
       refine pure_ (i := 11) (N := some 60) (v := ?_) (a' := ?_) #[true, true, false, true, false, true, false, true, false, false, false, true] rfl rfl (any_of HT_.out (by kernel_rfl)) (fun _ _ _ h => h) (Or.inl ⟨by rfl, ?_⟩) ?_ ?_
       rotate_left
       ·intro w'
        go_simp
        with_reducible rfl
       rotate_left
       ·simp only [Act.put, List.setIfInBounds_toArray, List.set_cons_zero, List.set_cons_succ, i64_w, i32_w]
        rfl
       refine take_ (i := 2) (N := some 51) (v := ?_) (a' := ?_) #[true, true, true, true, false, true, false, true, false, false, false, true] rfl rfl (take_ofW HT_.out HW_.out (by kernel_rfl)) (fun _ _ _ h => h) (Or.inl ⟨by rfl, ?_⟩) hHeld ?_ ?_
       rotate_left
       ·rintro w' ⟨s0, s1, s2⟩
        go_simp
        with_reducible rfl
       rotate_left
       ·simp only [Act.put, List.setIfInBounds_toArray, List.set_cons_zero, List.set_cons_succ, i64_w, i32_w]
        rfl
       refine take_ (i := 6) (N := some 55) (v := ?_) (a' := ?_) #[true, true, true, true, false, true, true, true, false, false, false, true] rfl rfl (take_ofW HT_.out HW_.out (by kernel_rfl)) (fun _ _ _ h => h) (Or.inl ⟨by rfl, ?_⟩) hHeld ?_ ?_
       rotate_left
       ·rintro w' ⟨s0, s1, s2⟩
        go_simp
        with_reducible rfl
       rotate_left
       ·simp only [Act.put, List.setIfInBounds_toArray, List.set_cons_zero, List.set_cons_succ, i64_w, i32_w]
        rfl
       refine one_ (i := 4) (N := some 53) #[true, true, true, true, true, true, true, true, false, false, false, true] rfl rfl (one_of HT_.out (by kernel_rfl)) (by decide) (fun K hK => ?_)
       refine goes_ Try.func26 (by kernel_rfl) rfl #[.int .i64 ((rd_T45 y500 x45_1).f0), .int .u32 a5] (by rfl) rfl rfl (by (try simp only [List.map_toArray, List.map_cons, List.map_nil]); first | done | rfl | (simp only [List.length_drop, List.length_take]; rfl)) ?_
       with_reducible refine (annealseat_Num.calls ((rd_T45 y500 x45_1).f0) a5 t505 _ A22.out).mono ?_
       rintro e w28 ⟨rfl, hb⟩
       refine ⟨_, rfl, ?_⟩
       have n0_ := Aside0.mk (Kd.R_below (by (with_reducible repeat (first | apply Kd.R_alloc | apply Kd.R_drewN | apply Kd.R_drew)); exact HO_43.out) hb)
       have n1_ := Aside0.mk (blk_below (g := gb504) (o := .cells #[.int .i64 ((rd_T45 y500 x45_1).f0), .int .i64 ((rd_T45 y500 x45_1).f1), .int .i64 ((rd_T45 y500 x45_1).f2)] 45 (0, 0)) (by (with_reducible repeat (first | refine blk_drewN ?_ _ | refine blk_drew ?_ | refine blk_alloc ?_ _)); exact BK504.out) hb)
       have n2_ := Aside0.mk (below_step (by repeat (first | (with_reducible first | exact HB.out | apply below_alloc | apply pw_below_drewN | apply below_drew1 | refine below_set ?_ GE504.out) | exact HB.out)) hb)
       clear HO_43
       clear BK504
       clear HB
       have HO_43 := n0_
       have BK504 := n1_
       have HB := n2_
       clear n0_ n1_ n2_
       (try clear hb)
       (try clear hb2)
       (try clear hk)
       (try clear hi)
       refine hK.out _ _ ⟨(blk_cell BK504.out 0).trans rfl, (blk_cell BK504.out 1).trans rfl, (blk_cell BK504.out 2).trans rfl⟩ (fun hHeld => ?_)
       clear hK K
       refine norm_ (a' := ?_) ?_ ?_
       rotate_left
       ·show Act.put _ (some 53) _ = _
        simp only [Act.put, List.setIfInBounds_toArray, List.set_cons_zero, List.set_cons_succ, i64_w, i32_w]
        rfl
       refine one_ (i := 8) (N := some 57) #[true, true, true, true, true, true, true, true, true, false, false, true] rfl rfl (one_of HT_.out (by kernel_rfl)) (by decide) (fun K hK => ?_)
       refine goes_ Try.func27 (by kernel_rfl) rfl #[.int .i64 ((rd_T45 y500 x45_1).f0), .int .u32 a5] (by rfl) rfl rfl (by (try simp only [List.map_toArray, List.map_cons, List.map_nil]); first | done | rfl | (simp only [List.length_drop, List.length_take]; rfl)) ?_
       with_reducible refine (annealseat_Mild.calls ((rd_T45 y500 x45_1).f0) a5 t506 _ A23.out).mono ?_
       rintro e w' ⟨rfl, ⟨nd, rfl⟩⟩
       refine ⟨_, rfl, ?_⟩
       refine hK.out _ _ ⟨(blk_cell BK504.out 0).trans rfl, (blk_cell BK504.out 1).trans rfl, (blk_cell BK504.out 2).trans rfl⟩ (fun hHeld => ?_)
       clear hK K
       refine norm_ (a' := ?_) ?_ ?_
       rotate_left
       ·show Act.put _ (some 57) _ = _
        simp only [Act.put, List.setIfInBounds_toArray, List.set_cons_zero, List.set_cons_succ, i64_w, i32_w]
        rfl
       refine one_ (i := 9) (N := some 58) #[true, true, true, true, true, true, true, true, true, true, false, true] rfl rfl (one_of HT_.out (by kernel_rfl)) (by decide) (fun K hK => ?_)
       refine Kd.R_lit_step (Kd.int .u32) _ 28 ?hg (N := 58) ?hd (xs := ([a5, t505, t506] : List Int)) (inner := [.int .u32 a5, .int .u32 t505, .int .u32 t506]) (ok := fun _ => True) (okp := fun _ => True) ?hr ?hp (fun _ hk => hk) trivial (Below.refl _ _) (Nat.le_refl _) (by simp) ?_; (case hd => rfl); (case hg => rfl); (case hr => first | (go_simp; done) | (go_simp; rfl)); (case hp => exact (Reps.one (show Kd.M (Kd.int .u32) _ _ _ a5 [.int .u32 a5] from rfl) (Reps.one (show Kd.M (Kd.int .u32) _ _ _ t505 [.int .u32 t505] from rfl) (Reps.one (show Kd.M (Kd.int .u32) _ _ _ t506 [.int .u32 t506] from rfl) (Reps.none _ _)))))
       intro v508 w29 ho30 hb hg_ hnew_
       clear hg_ hnew_
       (first | rw [← Ny507.out] at ho30 | (simp only [Int.reduceToNat] at ho30; rw [← Ny507.out] at ho30))
       have n0_ := Aside0.mk (Kd.R_below (by (with_reducible repeat (first | apply Kd.R_alloc | apply Kd.R_drewN | apply Kd.R_drew)); exact HO_43.out) hb)
       have n1_ := Aside0.mk (Kd.R_lower ho30 (below_size (by repeat (first | (with_reducible first | exact HB.out | apply below_alloc | apply pw_below_drewN | apply below_drew1 | refine below_set ?_ GE504.out) | exact HB.out))))
       have n2_ := Aside0.mk (blk_below (g := gb504) (o := .cells #[.int .i64 ((rd_T45 y500 x45_1).f0), .int .i64 ((rd_T45 y500 x45_1).f1), .int .i64 ((rd_T45 y500 x45_1).f2)] 45 (0, 0)) (by (with_reducible repeat (first | refine blk_drewN ?_ _ | refine blk_drew ?_ | refine blk_alloc ?_ _)); exact BK504.out) hb)
       have n3_ := Aside0.mk (below_step (by repeat (first | (with_reducible first | exact HB.out | apply below_alloc | apply pw_below_drewN | apply below_drew1 | refine below_set ?_ GE504.out) | exact HB.out)) hb)
       clear HO_43
       clear BK504
       clear HB
       have HO_43 := n0_
       have HO509 := n1_
       have BK504 := n2_
       have HB := n3_
       clear n0_ n1_ n2_ n3_
       clear hb ho30
       obtain ⟨Ao31, co31, eo31⟩ := Kd.R_slice HO509.out
       (first | subst eo31 | (injection eo31 with f1_ f2_ f3_; have f4_ := f1_.symm; have f5_ := f3_.symm; clear f1_ f2_ f3_; subst f4_; subst f5_))
       refine hK.out _ _ ⟨(blk_cell BK504.out 0).trans rfl, (blk_cell BK504.out 1).trans rfl, (blk_cell BK504.out 2).trans rfl⟩ (fun hHeld => ?_)
       clear hK K
       refine norm_ (a' := ?_) ?_ ?_
       rotate_left
       ·show Act.put _ (some 58) _ = _
        simp only [Act.put, List.setIfInBounds_toArray, List.set_cons_zero, List.set_cons_succ, i64_w, i32_w]
        rfl
       refine pure_ (i := 10) (N := some 59) (v := ?_) (a' := ?_) #[true, true, true, true, true, true, true, true, true, true, true, true] rfl rfl (any_of HT_.out (by kernel_rfl)) (fun _ _ _ h => h) (Or.inl ⟨by rfl, ?_⟩) ?_ ?_
       rotate_left
       ·intro w'
        go_simp
        with_reducible rfl
       rotate_left
       ·simp only [Act.put, List.setIfInBounds_toArray, List.set_cons_zero, List.set_cons_succ, i64_w, i32_w]
        rfl
       refine done_ (done_of HT_.out (by kernel_rfl)) ?_
       try go_wp2
       go_loopg [60] k1 (fun kq v60 w' => ∃ (x60_2 : Int), v60 = .int .i64 x60_2 ∧ Aside0 (anneallaw9_ConvTells.l1 kq a5 y500 (y500.length : Int) x45_1 y507 (y507.length : Int) x60_2 ((rd_T45 y500 x45_1).f0) ((rd_T45 y500 x45_1).f1) ((rd_T45 y500 x45_1).f2) = some r) ∧ Aside0 (kq ≤ k1) ∧ Aside0 (Kd.R k45 45 w' w.heap.size (fun k_ => k_ ≠ gb504) (.slice (some ad503) y500.length co18) y500) ∧ Aside0 (Kd.R (Kd.int .u32) 28 w' w.heap.size (fun _ => True) (.slice Ao31 y507.length co31) y507) ∧ Aside0 (w'.heap[gb504]? = some (.cells #[.int .i64 ((rd_T45 y500 x45_1).f0), .int .i64 ((rd_T45 y500 x45_1).f1), .int .i64 ((rd_T45 y500 x45_1).f2)] 45 (0, 0))) ∧ Aside0 (Below w.heap.size w w'))
       case atStart => exact ⟨(0), (by first | rfl | (simp; done) | (simp [*]; done) | (congr 1; (try unfold wrap64); omega) | (congr 1; rw [IntKind.wrap_u64]; omega)), H', ⟨Nat.le_refl _⟩, ⟨by (with_reducible repeat (first | apply Kd.R_alloc | apply Kd.R_drewN | apply Kd.R_drew)); exact HO_43.out⟩, ⟨by (with_reducible repeat (first | apply Kd.R_alloc | apply Kd.R_drewN | apply Kd.R_drew)); exact HO509.out⟩, ⟨by (with_reducible repeat (first | refine blk_drewN ?_ _ | refine blk_drew ?_ | refine blk_alloc ?_ _)); exact BK504.out⟩, ⟨by repeat (first | (with_reducible first | exact HB.out | apply below_alloc | apply pw_below_drewN | apply below_drew1 | refine below_set ?_ GE504.out) | exact HB.out)⟩⟩
       case round =>
        clear H'
        try clear c1
        try clear c2
        try clear p2
        try clear c3
        try clear p5
        try clear q5
        try clear hx5
        try clear p6
        try clear c8
        try clear c19
        try clear c19b0
        try clear c20
        try clear c20b0
        try clear c21
        try clear c21b0
        try clear c24
        try clear c25
        try clear c26
        try clear c27
        try clear hcz25_0
        try clear hcz25_1
        try clear hcz25_2
        try clear hfz25_0
        try clear hfz25_1
        try clear hfz25_2
        try clear hx503_0
        try clear hx503_1
        try clear hx503_2
        try clear p2
        try clear p503
        try clear p6
        try clear q503
        obtain ⟨x60_2, rfl, HA, HK2, HO_43, HO_58, BK504, HB⟩ := hrel
        cases gk with
        | zero => exact absurd HA.out (by simp [anneallaw9_ConvTells.l1])
        | succ k2 =>
         have H := HA.out
         clear HA
         simp only [anneallaw9_ConvTells.l1] at H
         by_cases c32 : x60_2 < (y507.length : Int)
         ·rw [if_pos c32] at H
          have c32b0 : decide (x60_2 < (y507.length : Int)) = true := decide_eq_true c32
          clear c32
          by_cases c33 : 0 ≤ x60_2
          ·rw [if_pos c33] at H
           have c33b0 : decide (0 ≤ x60_2) = true := decide_eq_true c33
           clear c33
           by_cases c34 : x60_2 < (y507.length : Int)
           ·rw [if_pos c34] at H
            have c34b0 : decide (x60_2 < (y507.length : Int)) = true := decide_eq_true c34
            clear c34
            replace H := Option.bind_eq_some_iff.mp H
            obtain ⟨⟨t511, t512, t513, t514, t515, t516⟩, A350, H⟩ := H
            replace H : ((annealref1_To.f k2 ((rd_T45 y500 x45_1).f0) ((rd_T45 y500 x45_1).f1) ((rd_T45 y500 x45_1).f2) (rd y507 x60_2)).bind fun bt518 => (if t511 = bt518.1 then (if (!(t512 == bt518.2.1) || (!(t513 == bt518.2.2.1) || (!(t514 == bt518.2.2.2.1) || (!(t515 == bt518.2.2.2.2.1) || (!(t516 == bt518.2.2.2.2.2)))))) = true then (anneallaw9_ConvTells.j2 k2 a5 y500 (y500.length : Int) x45_1 y507 (y507.length : Int) x60_2 true ((rd_T45 y500 x45_1).f0) ((rd_T45 y500 x45_1).f1) ((rd_T45 y500 x45_1).f2)) else ((conv_Widen.f k2 ((rd_T45 y500 x45_1).f0) (rd y507 x60_2)).bind fun t525 => ((annealref1_Widen.f k2 ((rd_T45 y500 x45_1).f0) (rd y507 x60_2)).bind fun t526 => (if t525 = t526 then ((conv_Narrow.f k2 ((rd_T45 y500 x45_1).f1) (rd y507 x60_2)).bind fun t527 => ((annealref1_Narrow.f k2 ((rd_T45 y500 x45_1).f1) (rd y507 x60_2)).bind fun t528 => (anneallaw9_ConvTells.j2 k2 a5 y500 (y500.length : Int) x45_1 y507 (y507.length : Int) x60_2 (t527 != t528) ((rd_T45 y500 x45_1).f0) ((rd_T45 y500 x45_1).f1) ((rd_T45 y500 x45_1).f2)))) else (anneallaw9_ConvTells.j2 k2 a5 y500 (y500.length : Int) x45_1 y507 (y507.length : Int) x60_2 true ((rd_T45 y500 x45_1).f0) ((rd_T45 y500 x45_1).f1) ((rd_T45 y500 x45_1).f2)))))) else (anneallaw9_ConvTells.j2 k2 a5 y500 (y500.length : Int) x45_1 y507 (y507.length : Int) x60_2 true ((rd_T45 y500 x45_1).f0) ((rd_T45 y500 x45_1).f1) ((rd_T45 y500 x45_1).f2)))) = some r := H
            have A35 := Aside0.mk A350
            clear A350
            replace H := Option.bind_eq_some_iff.mp H
            obtain ⟨⟨t518, t519, t520, t521, t522, t523⟩, A360, H⟩ := H
            replace H : (if t511 = t518 then (if (!(t512 == t519) || (!(t513 == t520) || (!(t514 == t521) || (!(t515 == t522) || (!(t516 == t523)))))) = true then (anneallaw9_ConvTells.j2 k2 a5 y500 (y500.length : Int) x45_1 y507 (y507.length : Int) x60_2 true ((rd_T45 y500 x45_1).f0) ((rd_T45 y500 x45_1).f1) ((rd_T45 y500 x45_1).f2)) else ((conv_Widen.f k2 ((rd_T45 y500 x45_1).f0) (rd y507 x60_2)).bind fun t525 => ((annealref1_Widen.f k2 ((rd_T45 y500 x45_1).f0) (rd y507 x60_2)).bind fun t526 => (if t525 = t526 then ((conv_Narrow.f k2 ((rd_T45 y500 x45_1).f1) (rd y507 x60_2)).bind fun t527 => ((annealref1_Narrow.f k2 ((rd_T45 y500 x45_1).f1) (rd y507 x60_2)).bind fun t528 => (anneallaw9_ConvTells.j2 k2 a5 y500 (y500.length : Int) x45_1 y507 (y507.length : Int) x60_2 (t527 != t528) ((rd_T45 y500 x45_1).f0) ((rd_T45 y500 x45_1).f1) ((rd_T45 y500 x45_1).f2)))) else (anneallaw9_ConvTells.j2 k2 a5 y500 (y500.length : Int) x45_1 y507 (y507.length : Int) x60_2 true ((rd_T45 y500 x45_1).f0) ((rd_T45 y500 x45_1).f1) ((rd_T45 y500 x45_1).f2)))))) else (anneallaw9_ConvTells.j2 k2 a5 y500 (y500.length : Int) x45_1 y507 (y507.length : Int) x60_2 true ((rd_T45 y500 x45_1).f0) ((rd_T45 y500 x45_1).f1) ((rd_T45 y500 x45_1).f2))) = some r := H
            have A36 := Aside0.mk A360
            clear A360
            have HC37 := Aside0.mk H
            clear H
            have p510 : 0 ≤ (x60_2 : Int) := of_decide_eq_true (by first | (with_reducible assumption) | assumption)
            have q510 : x60_2 < (y507.length : Int) := of_decide_eq_true (by first | (with_reducible assumption) | assumption)
            obtain ⟨ad510, e510, hx510_0⟩ := Kd.at_int (Kd.R_reads' HO_58.out).2.2 x60_2 p510 q510
            cases e510
            replace p510 := eq_true p510
            replace q510 := eq_true q510
            have hcz38_0 : wr.cell? ⟨gb504, 0, none⟩ = some (.int .i64 ((rd_T45 y500 x45_1).f0)) := (blk_cell BK504.out 0).trans rfl
            have hcz38_1 : wr.cell? ⟨gb504, 1, none⟩ = some (.int .i64 ((rd_T45 y500 x45_1).f1)) := (blk_cell BK504.out 1).trans rfl
            have hcz38_2 : wr.cell? ⟨gb504, 2, none⟩ = some (.int .i64 ((rd_T45 y500 x45_1).f2)) := (blk_cell BK504.out 2).trans rfl
            have hfz38_0 := blk_frozen BK504.out 0
            have hfz38_1 := blk_frozen BK504.out 1
            have hfz38_2 := blk_frozen BK504.out 2
            go_upto_region 11 with (first | ((with_reducible refine gate_callee (f := 28) rfl ?_); refine goesL_ (some 72) rfl rfl Try.func28 (by kernel_rfl) rfl #[.int .i64 ((rd_T45 y500 x45_1).f0), .int .i64 ((rd_T45 y500 x45_1).f1), .int .i64 ((rd_T45 y500 x45_1).f2), .int .u32 (rd y507 x60_2)] rfl (by (try simp only [List.map_toArray, List.map_cons, List.map_nil]); first | done | rfl | (simp only [List.length_drop, List.length_take]; rfl)) ?_; (with_reducible refine (conv_To.calls k2 ((rd_T45 y500 x45_1).f0) ((rd_T45 y500 x45_1).f1) ((rd_T45 y500 x45_1).f2) (rd y507 x60_2) t511 t512 t513 t514 t515 t516 _ A35.out).mono ?_); rintro e w39 ⟨rfl, hb⟩; refine ⟨_, rfl, ?_⟩; have n0_ := Aside0.mk (Kd.R_below (by (with_reducible repeat (first | apply Kd.R_alloc | apply Kd.R_drewN | apply Kd.R_drew)); exact HO_43.out) hb); have n1_ := Aside0.mk (Kd.R_below (by (with_reducible repeat (first | apply Kd.R_alloc | apply Kd.R_drewN | apply Kd.R_drew)); exact HO_58.out) hb); have n2_ := Aside0.mk (blk_below (g := gb504) (o := .cells #[.int .i64 ((rd_T45 y500 x45_1).f0), .int .i64 ((rd_T45 y500 x45_1).f1), .int .i64 ((rd_T45 y500 x45_1).f2)] 45 (0, 0)) (by (with_reducible repeat (first | refine blk_drewN ?_ _ | refine blk_drew ?_ | refine blk_alloc ?_ _)); exact BK504.out) hb); have n3_ := Aside0.mk (below_step (by repeat (first | (with_reducible first | exact HB.out | apply below_alloc | apply pw_below_drewN | apply below_drew1 | refine below_set ?_ GE504.out) | exact HB.out)) hb); clear HO_43; clear HO_58; clear BK504; clear HB; have HO_43 := n0_; have HO_58 := n1_; have BK504 := n2_; have HB := n3_; clear n0_ n1_ n2_ n3_; (try clear hb); (try clear hb2); (try clear hk); (try clear hi)) | ((with_reducible refine gate_dst (N := 18) rfl ?_); refine box_event ?hg (N := 18) ?hd (cs := #[.bool false, .bool false, .bool false, .bool false, .bool false]) (t := 30) ?hr ?_; (case hd => rfl); (case hg => rfl); (case hr => first | (go_simp; done) | (go_simp; rfl)); intro gb517 hg w40 hbox hb; have n0_ := Aside0.mk (Kd.R_below (by (with_reducible repeat (first | apply Kd.R_alloc | apply Kd.R_drewN | apply Kd.R_drew)); exact HO_43.out) hb); have n1_ := Aside0.mk (Kd.R_below (by (with_reducible repeat (first | apply Kd.R_alloc | apply Kd.R_drewN | apply Kd.R_drew)); exact HO_58.out) hb); have n2_ := Aside0.mk (blk_below (g := gb504) (o := .cells #[.int .i64 ((rd_T45 y500 x45_1).f0), .int .i64 ((rd_T45 y500 x45_1).f1), .int .i64 ((rd_T45 y500 x45_1).f2)] 45 (0, 0)) (by (with_reducible repeat (first | refine blk_drewN ?_ _ | refine blk_drew ?_ | refine blk_alloc ?_ _)); exact BK504.out) hb); have n3_ := Aside0.mk (below_step (by repeat (first | (with_reducible first | exact HB.out | apply below_alloc | apply pw_below_drewN | apply below_drew1 | refine below_set ?_ GE504.out) | exact HB.out)) hb); have n4_ := Aside0.mk (hbox); have n5_ := Aside0.mk ((by rw [hg]; exact (below_size (by repeat (first | (with_reducible first | exact HB.out | apply below_alloc | apply pw_below_drewN | apply below_drew1 | refine below_set ?_ GE504.out) | exact HB.out))) : w.heap.size ≤ gb517)); have n6_ := Aside0.mk ((by rw [hg]; exact (below_size (by repeat (first | (with_reducible first | exact HB.out | apply below_alloc | apply pw_below_drewN | apply below_drew1 | refine below_set ?_ GE504.out) | exact HB.out))) : w.heap.size ≤ gb517)); have n7_ := Aside0.mk ((by rw [hg]; exact Nat.ne_of_lt (blk_lt (g := gb504) (o := .cells #[.int .i64 ((rd_T45 y500 x45_1).f0), .int .i64 ((rd_T45 y500 x45_1).f1), .int .i64 ((rd_T45 y500 x45_1).f2)] 45 (0, 0)) (by (with_reducible repeat (first | refine blk_drewN ?_ _ | refine blk_drew ?_ | refine blk_alloc ?_ _)); exact BK504.out)) : gb504 ≠ gb517)); have n8_ := Aside0.mk ((by rw [hg]; exact Nat.ne_of_gt (blk_lt (g := gb504) (o := .cells #[.int .i64 ((rd_T45 y500 x45_1).f0), .int .i64 ((rd_T45 y500 x45_1).f1), .int .i64 ((rd_T45 y500 x45_1).f2)] 45 (0, 0)) (by (with_reducible repeat (first | refine blk_drewN ?_ _ | refine blk_drew ?_ | refine blk_alloc ?_ _)); exact BK504.out)) : gb517 ≠ gb504)); clear HO_43; clear HO_58; clear BK504; clear HB; have HO_43 := n0_; have HO_58 := n1_; have BK504 := n2_; have HB := n3_; have BK517 := n4_; have GW517 := n5_; have GE517 := n6_; have NB504_517 := n7_; have NB517_504 := n8_; clear n0_ n1_ n2_ n3_ n4_ n5_ n6_ n7_ n8_; clear hb hbox hg; have hnb41 := NB517_504.out; have hnc41 := NB504_517.out; have hcz42_0 : w40.cell? ⟨gb517, 0, none⟩ = some (.bool false) := (blk_cell BK517.out 0).trans rfl; have hcz42_1 : w40.cell? ⟨gb517, 1, none⟩ = some (.bool false) := (blk_cell BK517.out 1).trans rfl; have hcz42_2 : w40.cell? ⟨gb517, 2, none⟩ = some (.bool false) := (blk_cell BK517.out 2).trans rfl; have hcz42_3 : w40.cell? ⟨gb517, 3, none⟩ = some (.bool false) := (blk_cell BK517.out 3).trans rfl; have hcz42_4 : w40.cell? ⟨gb517, 4, none⟩ = some (.bool false) := (blk_cell BK517.out 4).trans rfl; have hfz42_0 := blk_frozen BK517.out 0; have hfz42_1 := blk_frozen BK517.out 1; have hfz42_2 := blk_frozen BK517.out 2; have hfz42_3 := blk_frozen BK517.out 3; have hfz42_4 := blk_frozen BK517.out 4; have hcz43_0 : w40.cell? ⟨gb504, 0, none⟩ = some (.int .i64 ((rd_T45 y500 x45_1).f0)) := (blk_cell BK504.out 0).trans rfl; have hcz43_1 : w40.cell? ⟨gb504, 1, none⟩ = some (.int .i64 ((rd_T45 y500 x45_1).f1)) := (blk_cell BK504.out 1).trans rfl; have hcz43_2 : w40.cell? ⟨gb504, 2, none⟩ = some (.int .i64 ((rd_T45 y500 x45_1).f2)) := (blk_cell BK504.out 2).trans rfl; have hfz43_0 := blk_frozen BK504.out 0; have hfz43_1 := blk_frozen BK504.out 1; have hfz43_2 := blk_frozen BK504.out 2) | ((with_reducible refine gate_callee (f := 29) rfl ?_); refine goesL_ (some 83) rfl rfl Try.func29 (by kernel_rfl) rfl #[.int .i64 ((rd_T45 y500 x45_1).f0), .int .i64 ((rd_T45 y500 x45_1).f1), .int .i64 ((rd_T45 y500 x45_1).f2), .int .u32 (rd y507 x60_2)] rfl (by (try simp only [List.map_toArray, List.map_cons, List.map_nil]); first | done | rfl | (simp only [List.length_drop, List.length_take]; rfl)) ?_; (with_reducible refine (annealref1_To.calls k2 ((rd_T45 y500 x45_1).f0) ((rd_T45 y500 x45_1).f1) ((rd_T45 y500 x45_1).f2) (rd y507 x60_2) t518 t519 t520 t521 t522 t523 _ A36.out).mono ?_); rintro e w44 ⟨rfl, hb⟩; refine ⟨_, rfl, ?_⟩; have n0_ := Aside0.mk (Kd.R_below (by (with_reducible repeat (first | apply Kd.R_alloc | apply Kd.R_drewN | apply Kd.R_drew)); exact (Kd.R_mono (Kd.R_far (p := ⟨gb517, 4, none⟩) (Kd.R_far (p := ⟨gb517, 3, none⟩) (Kd.R_far (p := ⟨gb517, 2, none⟩) (Kd.R_far (p := ⟨gb517, 1, none⟩) (Kd.R_far (p := ⟨gb517, 0, none⟩) (Kd.R_types HO_43.out BK517.out (by decide)) (fun _ hk => hk.2) (.bool t512)) (fun _ hk => hk.2) (.bool t513)) (fun _ hk => hk.2) (.bool t514)) (fun _ hk => hk.2) (.bool t515)) (fun _ hk => hk.2) (.bool t516)) (fun _ h_ => h_.1))) hb); have n1_ := Aside0.mk (Kd.R_below (by (with_reducible repeat (first | apply Kd.R_alloc | apply Kd.R_drewN | apply Kd.R_drew)); exact (Kd.R_mono (Kd.R_far (p := ⟨gb517, 4, none⟩) (Kd.R_far (p := ⟨gb517, 3, none⟩) (Kd.R_far (p := ⟨gb517, 2, none⟩) (Kd.R_far (p := ⟨gb517, 1, none⟩) (Kd.R_far (p := ⟨gb517, 0, none⟩) (Kd.R_types HO_58.out BK517.out (by decide)) (fun _ hk => hk.2) (.bool t512)) (fun _ hk => hk.2) (.bool t513)) (fun _ hk => hk.2) (.bool t514)) (fun _ hk => hk.2) (.bool t515)) (fun _ hk => hk.2) (.bool t516)) (fun _ h_ => h_.1))) hb); have n2_ := Aside0.mk (blk_below (g := gb504) (o := .cells #[.int .i64 ((rd_T45 y500 x45_1).f0), .int .i64 ((rd_T45 y500 x45_1).f1), .int .i64 ((rd_T45 y500 x45_1).f2)] 45 (0, 0)) (by (with_reducible repeat (first | refine blk_drewN ?_ _ | refine blk_drew ?_ | refine blk_alloc ?_ _)); refine blk_far ?_ NB504_517.out _; (with_reducible repeat (first | refine blk_drewN ?_ _ | refine blk_drew ?_ | refine blk_alloc ?_ _)); refine blk_far ?_ NB504_517.out _; (with_reducible repeat (first | refine blk_drewN ?_ _ | refine blk_drew ?_ | refine blk_alloc ?_ _)); refine blk_far ?_ NB504_517.out _; (with_reducible repeat (first | refine blk_drewN ?_ _ | refine blk_drew ?_ | refine blk_alloc ?_ _)); refine blk_far ?_ NB504_517.out _; (with_reducible repeat (first | refine blk_drewN ?_ _ | refine blk_drew ?_ | refine blk_alloc ?_ _)); refine blk_far ?_ NB504_517.out _; (with_reducible repeat (first | refine blk_drewN ?_ _ | refine blk_drew ?_ | refine blk_alloc ?_ _)); exact BK504.out) hb); have n3_ := Aside0.mk (blk_below (g := gb517) (o := .cells #[.bool t512, .bool t513, .bool t514, .bool t515, .bool t516] 30 (0, 0)) (by (with_reducible repeat (first | refine blk_drewN ?_ _ | refine blk_drew ?_ | refine blk_alloc ?_ _)); refine blk_put (cs := #[.bool t512, .bool t513, .bool t514, .bool t515, .bool false]) ?_ 4 _ rfl; (with_reducible repeat (first | refine blk_drewN ?_ _ | refine blk_drew ?_ | refine blk_alloc ?_ _)); refine blk_put (cs := #[.bool t512, .bool t513, .bool t514, .bool false, .bool false]) ?_ 3 _ rfl; (with_reducible repeat (first | refine blk_drewN ?_ _ | refine blk_drew ?_ | refine blk_alloc ?_ _)); refine blk_put (cs := #[.bool t512, .bool t513, .bool false, .bool false, .bool false]) ?_ 2 _ rfl; (with_reducible repeat (first | refine blk_drewN ?_ _ | refine blk_drew ?_ | refine blk_alloc ?_ _)); refine blk_put (cs := #[.bool t512, .bool false, .bool false, .bool false, .bool false]) ?_ 1 _ rfl; (with_reducible repeat (first | refine blk_drewN ?_ _ | refine blk_drew ?_ | refine blk_alloc ?_ _)); refine blk_put (cs := #[.bool false, .bool false, .bool false, .bool false, .bool false]) ?_ 0 _ rfl; (with_reducible repeat (first | refine blk_drewN ?_ _ | refine blk_drew ?_ | refine blk_alloc ?_ _)); exact BK517.out) hb); have n4_ := Aside0.mk (below_step (by repeat (first | (with_reducible first | exact HB.out | apply below_alloc | apply pw_below_drewN | apply below_drew1 | refine below_set ?_ GE504.out | refine below_set ?_ GE517.out) | exact HB.out)) hb); clear HO_43; clear HO_58; clear BK504; clear BK517; clear HB; have HO_43 := n0_; have HO_58 := n1_; have BK504 := n2_; have BK517 := n3_; have HB := n4_; clear n0_ n1_ n2_ n3_ n4_; (try clear hb); (try clear hb2); (try clear hk); (try clear hi)) | ((with_reducible refine gate_dst (N := 20) rfl ?_); refine box_event ?hg (N := 20) ?hd (cs := #[.bool false, .bool false, .bool false, .bool false, .bool false]) (t := 30) ?hr ?_; (case hd => rfl); (case hg => rfl); (case hr => first | (go_simp; done) | (go_simp; rfl)); intro gb524 hg w45 hbox hb; have n0_ := Aside0.mk (Kd.R_below (by (with_reducible repeat (first | apply Kd.R_alloc | apply Kd.R_drewN | apply Kd.R_drew)); exact HO_43.out) hb); have n1_ := Aside0.mk (Kd.R_below (by (with_reducible repeat (first | apply Kd.R_alloc | apply Kd.R_drewN | apply Kd.R_drew)); exact HO_58.out) hb); have n2_ := Aside0.mk (blk_below (g := gb504) (o := .cells #[.int .i64 ((rd_T45 y500 x45_1).f0), .int .i64 ((rd_T45 y500 x45_1).f1), .int .i64 ((rd_T45 y500 x45_1).f2)] 45 (0, 0)) (by (with_reducible repeat (first | refine blk_drewN ?_ _ | refine blk_drew ?_ | refine blk_alloc ?_ _)); exact BK504.out) hb); have n3_ := Aside0.mk (blk_below (g := gb517) (o := .cells #[.bool t512, .bool t513, .bool t514, .bool t515, .bool t516] 30 (0, 0)) (by (with_reducible repeat (first | refine blk_drewN ?_ _ | refine blk_drew ?_ | refine blk_alloc ?_ _)); exact BK517.out) hb); have n4_ := Aside0.mk (below_step (by repeat (first | (with_reducible first | exact HB.out | apply below_alloc | apply pw_below_drewN | apply below_drew1 | refine below_set ?_ GE504.out | refine below_set ?_ GE517.out) | exact HB.out)) hb); have n5_ := Aside0.mk (hbox); have n6_ := Aside0.mk ((by rw [hg]; exact (below_size (by repeat (first | (with_reducible first | exact HB.out | apply below_alloc | apply pw_below_drewN | apply below_drew1 | refine below_set ?_ GE504.out | refine below_set ?_ GE517.out) | exact HB.out))) : w.heap.size ≤ gb524)); have n7_ := Aside0.mk ((by rw [hg]; exact (below_size (by repeat (first | (with_reducible first | exact HB.out | apply below_alloc | apply pw_below_drewN | apply below_drew1 | refine below_set ?_ GE504.out | refine below_set ?_ GE517.out) | exact HB.out))) : w.heap.size ≤ gb524)); have n8_ := Aside0.mk ((by rw [hg]; exact Nat.ne_of_lt (blk_lt (g := gb504) (o := .cells #[.int .i64 ((rd_T45 y500 x45_1).f0), .int .i64 ((rd_T45 y500 x45_1).f1), .int .i64 ((rd_T45 y500 x45_1).f2)] 45 (0, 0)) (by (with_reducible repeat (first | refine blk_drewN ?_ _ | refine blk_drew ?_ | refine blk_alloc ?_ _)); exact BK504.out)) : gb504 ≠ gb524)); have n9_ := Aside0.mk ((by rw [hg]; exact Nat.ne_of_gt (blk_lt (g := gb504) (o := .cells #[.int .i64 ((rd_T45 y500 x45_1).f0), .int .i64 ((rd_T45 y500 x45_1).f1), .int .i64 ((rd_T45 y500 x45_1).f2)] 45 (0, 0)) (by (with_reducible repeat (first | refine blk_drewN ?_ _ | refine blk_drew ?_ | refine blk_alloc ?_ _)); exact BK504.out)) : gb524 ≠ gb504)); have n10_ := Aside0.mk ((by rw [hg]; exact Nat.ne_of_lt (blk_lt (g := gb517) (o := .cells #[.bool t512, .bool t513, .bool t514, .bool t515, .bool t516] 30 (0, 0)) (by (with_reducible repeat (first | refine blk_drewN ?_ _ | refine blk_drew ?_ | refine blk_alloc ?_ _)); exact BK517.out)) : gb517 ≠ gb524)); have n11_ := Aside0.mk ((by rw [hg]; exact Nat.ne_of_gt (blk_lt (g := gb517) (o := .cells #[.bool t512, .bool t513, .bool t514, .bool t515, .bool t516] 30 (0, 0)) (by (with_reducible repeat (first | refine blk_drewN ?_ _ | refine blk_drew ?_ | refine blk_alloc ?_ _)); exact BK517.out)) : gb524 ≠ gb517)); clear HO_43; clear HO_58; clear BK504; clear BK517; clear HB; have HO_43 := n0_; have HO_58 := n1_; have BK504 := n2_; have BK517 := n3_; have HB := n4_; have BK524 := n5_; have GW524 := n6_; have GE524 := n7_; have NB504_524 := n8_; have NB524_504 := n9_; have NB517_524 := n10_; have NB524_517 := n11_; clear n0_ n1_ n2_ n3_ n4_ n5_ n6_ n7_ n8_ n9_ n10_ n11_; clear hb hbox hg; have hnb46 := NB524_504.out; have hnc46 := NB504_524.out; have hnb47 := NB524_517.out; have hnc47 := NB517_524.out; have hcz48_0 : w45.cell? ⟨gb524, 0, none⟩ = some (.bool false) := (blk_cell BK524.out 0).trans rfl; have hcz48_1 : w45.cell? ⟨gb524, 1, none⟩ = some (.bool false) := (blk_cell BK524.out 1).trans rfl; have hcz48_2 : w45.cell? ⟨gb524, 2, none⟩ = some (.bool false) := (blk_cell BK524.out 2).trans rfl; have hcz48_3 : w45.cell? ⟨gb524, 3, none⟩ = some (.bool false) := (blk_cell BK524.out 3).trans rfl; have hcz48_4 : w45.cell? ⟨gb524, 4, none⟩ = some (.bool false) := (blk_cell BK524.out 4).trans rfl; have hfz48_0 := blk_frozen BK524.out 0; have hfz48_1 := blk_frozen BK524.out 1; have hfz48_2 := blk_frozen BK524.out 2; have hfz48_3 := blk_frozen BK524.out 3; have hfz48_4 := blk_frozen BK524.out 4))
            (try simp only [Act.put, List.setIfInBounds_toArray, List.set_cons_zero, List.set_cons_succ])
            go_cut [115] (fun v115 wc => ∃ (kq : Nat) (x115_36 : Bool), v115 = .bool x115_36 ∧ Aside0 (anneallaw9_ConvTells.j2 kq a5 y500 (y500.length : Int) x45_1 y507 (y507.length : Int) x60_2 x115_36 ((rd_T45 y500 x45_1).f0) ((rd_T45 y500 x45_1).f1) ((rd_T45 y500 x45_1).f2) = some r) ∧ Aside0 (kq ≤ k2) ∧ Aside0 (Kd.R k45 45 wc w.heap.size (fun k_ => k_ ≠ gb504) (.slice (some ad503) y500.length co18) y500) ∧ Aside0 (Kd.R (Kd.int .u32) 28 wc w.heap.size (fun _ => True) (.slice (some ad510) y507.length co31) y507) ∧ Aside0 (wc.heap[gb504]? = some (.cells #[.int .i64 ((rd_T45 y500 x45_1).f0), .int .i64 ((rd_T45 y500 x45_1).f1), .int .i64 ((rd_T45 y500 x45_1).f2)] 45 (0, 0))) ∧ Aside0 (wc.heap[gb517]? = some (.cells #[.bool t512, .bool t513, .bool t514, .bool t515, .bool t516] 30 (0, 0))) ∧ Aside0 (wc.heap[gb524]? = some (.cells #[.bool t519, .bool t520, .bool t521, .bool t522, .bool t523] 30 (0, 0))) ∧ Aside0 (Below w.heap.size w wc))
            case first =>
             have H := HC37.out
             clear HC37
             by_cases c49 : t511 = t518
             ·rw [if_pos c49] at H
              have c49b0 : (t511 == t518) = true := beq_iff_eq.mpr c49
              have c49b1 : (t511 != t518) = false := bne_eq_false_iff_eq.mpr c49
              clear c49
              (first | rw [c49b0] | (simp only [i64_w, i32_w]; rw [c49b0]) | skip)
              by_cases c50 : (!(t512 == t519) || (!(t513 == t520) || (!(t514 == t521) || (!(t515 == t522) || (!(t516 == t523)))))) = true
              ·rw [if_pos c50] at H
               have c50b0 : (!(t512 == t519) || (!(t513 == t520) || (!(t514 == t521) || (!(t515 == t522) || (!(t516 == t523)))))) = true := c50
               clear c50
               have H' := Aside0.mk H
               clear H
               try go_wp2
               have n0_ : Aside0 (Kd.R k45 45 (((((w45.setCell ⟨gb524, 0, none⟩ (.bool t519)).setCell ⟨gb524, 1, none⟩ (.bool t520)).setCell ⟨gb524, 2, none⟩ (.bool t521)).setCell ⟨gb524, 3, none⟩ (.bool t522)).setCell ⟨gb524, 4, none⟩ (.bool t523)) w.heap.size (fun k_ => k_ ≠ gb504) (.slice (some ad503) y500.length co18) y500) := ⟨by (with_reducible repeat (first | apply Kd.R_alloc | apply Kd.R_drewN | apply Kd.R_drew)); exact Kd.R_mono (Kd.R_far (p := ⟨gb524, 4, none⟩) (Kd.R_far (p := ⟨gb524, 3, none⟩) (Kd.R_far (p := ⟨gb524, 2, none⟩) (Kd.R_far (p := ⟨gb524, 1, none⟩) (Kd.R_far (p := ⟨gb524, 0, none⟩) (Kd.R_types HO_43.out BK524.out (by decide)) (fun _ hk => hk.2) (.bool t519)) (fun _ hk => hk.2) (.bool t520)) (fun _ hk => hk.2) (.bool t521)) (fun _ hk => hk.2) (.bool t522)) (fun _ hk => hk.2) (.bool t523)) (fun _ hk => hk.1)⟩
               have n1_ : Aside0 (Kd.R (Kd.int .u32) 28 (((((w45.setCell ⟨gb524, 0, none⟩ (.bool t519)).setCell ⟨gb524, 1, none⟩ (.bool t520)).setCell ⟨gb524, 2, none⟩ (.bool t521)).setCell ⟨gb524, 3, none⟩ (.bool t522)).setCell ⟨gb524, 4, none⟩ (.bool t523)) w.heap.size (fun _ => True) (.slice (some ad510) y507.length co31) y507) := ⟨by (with_reducible repeat (first | apply Kd.R_alloc | apply Kd.R_drewN | apply Kd.R_drew)); exact Kd.R_mono (Kd.R_far (p := ⟨gb524, 4, none⟩) (Kd.R_far (p := ⟨gb524, 3, none⟩) (Kd.R_far (p := ⟨gb524, 2, none⟩) (Kd.R_far (p := ⟨gb524, 1, none⟩) (Kd.R_far (p := ⟨gb524, 0, none⟩) (Kd.R_types HO_58.out BK524.out (by decide)) (fun _ hk => hk.2) (.bool t519)) (fun _ hk => hk.2) (.bool t520)) (fun _ hk => hk.2) (.bool t521)) (fun _ hk => hk.2) (.bool t522)) (fun _ hk => hk.2) (.bool t523)) (fun _ hk => trivial)⟩
               have n2_ : Aside0 ((((((w45.setCell ⟨gb524, 0, none⟩ (.bool t519)).setCell ⟨gb524, 1, none⟩ (.bool t520)).setCell ⟨gb524, 2, none⟩ (.bool t521)).setCell ⟨gb524, 3, none⟩ (.bool t522)).setCell ⟨gb524, 4, none⟩ (.bool t523)).heap[gb504]? = some (.cells #[.int .i64 ((rd_T45 y500 x45_1).f0), .int .i64 ((rd_T45 y500 x45_1).f1), .int .i64 ((rd_T45 y500 x45_1).f2)] 45 (0, 0))) := ⟨by (with_reducible repeat (first | refine blk_drewN ?_ _ | refine blk_drew ?_ | refine blk_alloc ?_ _)); refine blk_far ?_ NB504_524.out _; (with_reducible repeat (first | refine blk_drewN ?_ _ | refine blk_drew ?_ | refine blk_alloc ?_ _)); refine blk_far ?_ NB504_524.out _; (with_reducible repeat (first | refine blk_drewN ?_ _ | refine blk_drew ?_ | refine blk_alloc ?_ _)); refine blk_far ?_ NB504_524.out _; (with_reducible repeat (first | refine blk_drewN ?_ _ | refine blk_drew ?_ | refine blk_alloc ?_ _)); refine blk_far ?_ NB504_524.out _; (with_reducible repeat (first | refine blk_drewN ?_ _ | refine blk_drew ?_ | refine blk_alloc ?_ _)); refine blk_far ?_ NB504_524.out _; (with_reducible repeat (first | refine blk_drewN ?_ _ | refine blk_drew ?_ | refine blk_alloc ?_ _)); exact BK504.out⟩
               have n3_ : Aside0 ((((((w45.setCell ⟨gb524, 0, none⟩ (.bool t519)).setCell ⟨gb524, 1, none⟩ (.bool t520)).setCell ⟨gb524, 2, none⟩ (.bool t521)).setCell ⟨gb524, 3, none⟩ (.bool t522)).setCell ⟨gb524, 4, none⟩ (.bool t523)).heap[gb517]? = some (.cells #[.bool t512, .bool t513, .bool t514, .bool t515, .bool t516] 30 (0, 0))) := ⟨by (with_reducible repeat (first | refine blk_drewN ?_ _ | refine blk_drew ?_ | refine blk_alloc ?_ _)); refine blk_far ?_ NB517_524.out _; (with_reducible repeat (first | refine blk_drewN ?_ _ | refine blk_drew ?_ | refine blk_alloc ?_ _)); refine blk_far ?_ NB517_524.out _; (with_reducible repeat (first | refine blk_drewN ?_ _ | refine blk_drew ?_ | refine blk_alloc ?_ _)); refine blk_far ?_ NB517_524.out _; (with_reducible repeat (first | refine blk_drewN ?_ _ | refine blk_drew ?_ | refine blk_alloc ?_ _)); refine blk_far ?_ NB517_524.out _; (with_reducible repeat (first | refine blk_drewN ?_ _ | refine blk_drew ?_ | refine blk_alloc ?_ _)); refine blk_far ?_ NB517_524.out _; (with_reducible repeat (first | refine blk_drewN ?_ _ | refine blk_drew ?_ | refine blk_alloc ?_ _)); exact BK517.out⟩
               have n4_ : Aside0 ((((((w45.setCell ⟨gb524, 0, none⟩ (.bool t519)).setCell ⟨gb524, 1, none⟩ (.bool t520)).setCell ⟨gb524, 2, none⟩ (.bool t521)).setCell ⟨gb524, 3, none⟩ (.bool t522)).setCell ⟨gb524, 4, none⟩ (.bool t523)).heap[gb524]? = some (.cells #[.bool t519, .bool t520, .bool t521, .bool t522, .bool t523] 30 (0, 0))) := ⟨by (with_reducible repeat (first | refine blk_drewN ?_ _ | refine blk_drew ?_ | refine blk_alloc ?_ _)); refine blk_put (cs := #[.bool t519, .bool t520, .bool t521, .bool t522, .bool false]) ?_ 4 _ rfl; (with_reducible repeat (first | refine blk_drewN ?_ _ | refine blk_drew ?_ | refine blk_alloc ?_ _)); refine blk_put (cs := #[.bool t519, .bool t520, .bool t521, .bool false, .bool false]) ?_ 3 _ rfl; (with_reducible repeat (first | refine blk_drewN ?_ _ | refine blk_drew ?_ | refine blk_alloc ?_ _)); refine blk_put (cs := #[.bool t519, .bool t520, .bool false, .bool false, .bool false]) ?_ 2 _ rfl; (with_reducible repeat (first | refine blk_drewN ?_ _ | refine blk_drew ?_ | refine blk_alloc ?_ _)); refine blk_put (cs := #[.bool t519, .bool false, .bool false, .bool false, .bool false]) ?_ 1 _ rfl; (with_reducible repeat (first | refine blk_drewN ?_ _ | refine blk_drew ?_ | refine blk_alloc ?_ _)); refine blk_put (cs := #[.bool false, .bool false, .bool false, .bool false, .bool false]) ?_ 0 _ rfl; (with_reducible repeat (first | refine blk_drewN ?_ _ | refine blk_drew ?_ | refine blk_alloc ?_ _)); exact BK524.out⟩
               have n5_ : Aside0 (Below w.heap.size w (((((w45.setCell ⟨gb524, 0, none⟩ (.bool t519)).setCell ⟨gb524, 1, none⟩ (.bool t520)).setCell ⟨gb524, 2, none⟩ (.bool t521)).setCell ⟨gb524, 3, none⟩ (.bool t522)).setCell ⟨gb524, 4, none⟩ (.bool t523))) := ⟨by repeat (first | (with_reducible first | exact HB.out | apply below_alloc | apply pw_below_drewN | apply below_drew1 | refine below_set ?_ GE504.out | refine below_set ?_ GE517.out | refine below_set ?_ GE524.out) | exact HB.out)⟩
               (try clear HO_43)
               (try clear HO_58)
               (try clear BK504)
               (try clear BK517)
               (try clear BK524)
               (try clear HB)
               generalize (((((w45.setCell ⟨gb524, 0, none⟩ (.bool t519)).setCell ⟨gb524, 1, none⟩ (.bool t520)).setCell ⟨gb524, 2, none⟩ (.bool t521)).setCell ⟨gb524, 3, none⟩ (.bool t522)).setCell ⟨gb524, 4, none⟩ (.bool t523)) = w51 at n0_ n1_ n2_ n3_ n4_ n5_ ⊢
               have HO_43 := n0_
               have HO_58 := n1_
               have BK504 := n2_
               have BK517 := n3_
               have BK524 := n4_
               have HB := n5_
               clear n0_ n1_ n2_ n3_ n4_ n5_
               have n0_ := Aside0.mk (Kd.R_drew HO_43.out)
               have n1_ := Aside0.mk (Kd.R_drew HO_58.out)
               have n2_ := Aside0.mk (blk_drew BK504.out)
               have n3_ := Aside0.mk (blk_drew BK517.out)
               have n4_ := Aside0.mk (blk_drew BK524.out)
               have n5_ := Aside0.mk (below_drew1 HB.out)
               clear HO_43
               clear HO_58
               clear BK504
               clear BK517
               clear BK524
               clear HB
               have HO_43 := n0_
               have HO_58 := n1_
               have BK504 := n2_
               have BK517 := n3_
               have BK524 := n4_
               have HB := n5_
               clear n0_ n1_ n2_ n3_ n4_ n5_
               refine start_ (n := 30) (S := fun w' => w'.cell? ⟨gb517, 0, none⟩ = some (.bool t512) ∧ w'.cell? ⟨gb517, 1, none⟩ = some (.bool t513) ∧ w'.cell? ⟨gb517, 2, none⟩ = some (.bool t514) ∧ w'.cell? ⟨gb517, 3, none⟩ = some (.bool t515) ∧ w'.cell? ⟨gb517, 4, none⟩ = some (.bool t516) ∧ w'.cell? ⟨gb524, 0, none⟩ = some (.bool t519) ∧ w'.cell? ⟨gb524, 1, none⟩ = some (.bool t520) ∧ w'.cell? ⟨gb524, 2, none⟩ = some (.bool t521) ∧ w'.cell? ⟨gb524, 3, none⟩ = some (.bool t522) ∧ w'.cell? ⟨gb524, 4, none⟩ = some (.bool t523)) (ds := []) #[false, false, false, false, false, false, false, false, false, false, false, false, false, false, false, false, false, false, false, false, false, false, false, false, false, false, false, false, false, false] (by kernel_rfl) rfl rfl ⟨(blk_cell BK517.out 0).trans rfl, (blk_cell BK517.out 1).trans rfl, (blk_cell BK517.out 2).trans rfl, (blk_cell BK517.out 3).trans rfl, (blk_cell BK517.out 4).trans rfl, (blk_cell BK524.out 0).trans rfl, (blk_cell BK524.out 1).trans rfl, (blk_cell BK524.out 2).trans rfl, (blk_cell BK524.out 3).trans rfl, (blk_cell BK524.out 4).trans rfl⟩ (fun hHeld => ?_); refine with_tabW anneallaw9_ConvTells.tab11 anneallaw9_ConvTells.bits11 (fun HT_ HW_ => ?_)
               generalize w51.drew = w52 at HO_43 HO_58 BK504 BK517 BK524 HB hHeld ⊢
               refine pure_ (i := 0) (N := some 86) (v := ?_) (a' := ?_) #[true, false, false, false, false, false, false, false, false, false, false, false, false, false, false, false, false, false, false, false, false, false, false, false, false, false, false, false, false, false] rfl rfl (any_of HT_.out (by kernel_rfl)) (fun _ _ _ h => h) (Or.inl ⟨by rfl, ?_⟩) ?_ ?_
               rotate_left
               ·intro w'
                go_simp
                with_reducible rfl
               rotate_left
               ·simp only [Act.put, List.setIfInBounds_toArray, List.set_cons_zero, List.set_cons_succ, i64_w, i32_w]
                rfl
               refine pure_ (i := 1) (N := some 87) (v := ?_) (a' := ?_) #[true, true, false, false, false, false, false, false, false, false, false, false, false, false, false, false, false, false, false, false, false, false, false, false, false, false, false, false, false, false] rfl rfl (any_of HT_.out (by kernel_rfl)) (fun _ _ _ h => h) (Or.inl ⟨by rfl, ?_⟩) ?_ ?_
               rotate_left
               ·intro w'
                go_simp
                with_reducible rfl
               rotate_left
               ·simp only [Act.put, List.setIfInBounds_toArray, List.set_cons_zero, List.set_cons_succ, i64_w, i32_w]
                rfl
               refine pure_ (i := 2) (N := some 88) (v := ?_) (a' := ?_) #[true, true, true, false, false, false, false, false, false, false, false, false, false, false, false, false, false, false, false, false, false, false, false, false, false, false, false, false, false, false] rfl rfl (any_of HT_.out (by kernel_rfl)) (fun _ _ _ h => h) (Or.inl ⟨by rfl, ?_⟩) ?_ ?_
               rotate_left
               ·intro w'
                go_simp
                with_reducible rfl
               rotate_left
               ·simp only [Act.put, List.setIfInBounds_toArray, List.set_cons_zero, List.set_cons_succ, i64_w, i32_w]
                rfl
               refine pure_ (i := 3) (N := some 89) (v := ?_) (a' := ?_) #[true, true, true, true, false, false, false, false, false, false, false, false, false, false, false, false, false, false, false, false, false, false, false, false, false, false, false, false, false, false] rfl rfl (any_of HT_.out (by kernel_rfl)) (fun _ _ _ h => h) (Or.inl ⟨by rfl, ?_⟩) ?_ ?_
               rotate_left
               ·intro w'
                go_simp
                with_reducible rfl
               rotate_left
               ·simp only [Act.put, List.setIfInBounds_toArray, List.set_cons_zero, List.set_cons_succ, i64_w, i32_w]
                rfl
               refine take_ (i := 4) (N := some 90) (v := ?_) (a' := ?_) #[true, true, true, true, true, false, false, false, false, false, false, false, false, false, false, false, false, false, false, false, false, false, false, false, false, false, false, false, false, false] rfl rfl (take_ofW HT_.out HW_.out (by kernel_rfl)) (fun _ _ _ h => h) (Or.inl ⟨by rfl, ?_⟩) hHeld ?_ ?_
               rotate_left
               ·rintro w' ⟨s0, s1, s2, s3, s4, s5, s6, s7, s8, s9⟩
                go_simp
                with_reducible rfl
               rotate_left
               ·simp only [Act.put, List.setIfInBounds_toArray, List.set_cons_zero, List.set_cons_succ, i64_w, i32_w]
                rfl
               refine take_ (i := 5) (N := some 91) (v := ?_) (a' := ?_) #[true, true, true, true, true, true, false, false, false, false, false, false, false, false, false, false, false, false, false, false, false, false, false, false, false, false, false, false, false, false] rfl rfl (take_ofW HT_.out HW_.out (by kernel_rfl)) (fun _ _ _ h => h) (Or.inl ⟨by rfl, ?_⟩) hHeld ?_ ?_
               rotate_left
               ·rintro w' ⟨s0, s1, s2, s3, s4, s5, s6, s7, s8, s9⟩
                go_simp
                with_reducible rfl
               rotate_left
               ·simp only [Act.put, List.setIfInBounds_toArray, List.set_cons_zero, List.set_cons_succ, i64_w, i32_w]
                rfl
               refine pure_ (i := 6) (N := some 92) (v := ?_) (a' := ?_) #[true, true, true, true, true, true, true, false, false, false, false, false, false, false, false, false, false, false, false, false, false, false, false, false, false, false, false, false, false, false] rfl rfl (any_of HT_.out (by kernel_rfl)) (fun _ _ _ h => h) (Or.inl ⟨by rfl, ?_⟩) ?_ ?_
               rotate_left
               ·intro w'
                go_simp
                with_reducible rfl
               rotate_left
               ·simp only [Act.put, List.setIfInBounds_toArray, List.set_cons_zero, List.set_cons_succ, i64_w, i32_w]
                rfl
               refine pure_ (i := 7) (N := some 93) (v := ?_) (a' := ?_) #[true, true, true, true, true, true, true, true, false, false, false, false, false, false, false, false, false, false, false, false, false, false, false, false, false, false, false, false, false, false] rfl rfl (any_of HT_.out (by kernel_rfl)) (fun _ _ _ h => h) (Or.inl ⟨by rfl, ?_⟩) ?_ ?_
               rotate_left
               ·intro w'
                go_simp
                with_reducible rfl
               rotate_left
               ·simp only [Act.put, List.setIfInBounds_toArray, List.set_cons_zero, List.set_cons_succ, i64_w, i32_w]
                rfl
               refine pure_ (i := 8) (N := some 94) (v := ?_) (a' := ?_) #[true, true, true, true, true, true, true, true, true, false, false, false, false, false, false, false, false, false, false, false, false, false, false, false, false, false, false, false, false, false] rfl rfl (any_of HT_.out (by kernel_rfl)) (fun _ _ _ h => h) (Or.inl ⟨by rfl, ?_⟩) ?_ ?_
               rotate_left
               ·intro w'
                go_simp
                with_reducible rfl
               rotate_left
               ·simp only [Act.put, List.setIfInBounds_toArray, List.set_cons_zero, List.set_cons_succ, i64_w, i32_w]
                rfl
               refine pure_ (i := 9) (N := some 95) (v := undef) (a' := ?_) #[true, true, true, true, true, true, true, true, true, true, false, false, false, false, false, false, false, false, false, false, false, false, false, false, false, false, false, false, false, false] rfl rfl (any_of HT_.out (by kernel_rfl)) (fun _ _ _ h => h) (Or.inr ⟨by rfl, rfl⟩) ?_ ?_
               rotate_left
               ·simp only [Act.put, List.setIfInBounds_toArray, List.set_cons_zero, List.set_cons_succ, i64_w, i32_w]
                rfl
               refine pure_ (i := 10) (N := some 96) (v := undef) (a' := ?_) #[true, true, true, true, true, true, true, true, true, true, true, false, false, false, false, false, false, false, false, false, false, false, false, false, false, false, false, false, false, false] rfl rfl (any_of HT_.out (by kernel_rfl)) (fun _ _ _ h => h) (Or.inr ⟨by rfl, rfl⟩) ?_ ?_
               rotate_left
               ·simp only [Act.put, List.setIfInBounds_toArray, List.set_cons_zero, List.set_cons_succ, i64_w, i32_w]
                rfl
               refine pure_ (i := 11) (N := some 97) (v := undef) (a' := ?_) #[true, true, true, true, true, true, true, true, true, true, true, true, false, false, false, false, false, false, false, false, false, false, false, false, false, false, false, false, false, false] rfl rfl (any_of HT_.out (by kernel_rfl)) (fun _ _ _ h => h) (Or.inr ⟨by rfl, rfl⟩) ?_ ?_
               rotate_left
               ·simp only [Act.put, List.setIfInBounds_toArray, List.set_cons_zero, List.set_cons_succ, i64_w, i32_w]
                rfl
               refine pure_ (i := 12) (N := some 98) (v := undef) (a' := ?_) #[true, true, true, true, true, true, true, true, true, true, true, true, true, false, false, false, false, false, false, false, false, false, false, false, false, false, false, false, false, false] rfl rfl (any_of HT_.out (by kernel_rfl)) (fun _ _ _ h => h) (Or.inr ⟨by rfl, rfl⟩) ?_ ?_
               rotate_left
               ·simp only [Act.put, List.setIfInBounds_toArray, List.set_cons_zero, List.set_cons_succ, i64_w, i32_w]
                rfl
               refine pure_ (i := 13) (N := some 99) (v := undef) (a' := ?_) #[true, true, true, true, true, true, true, true, true, true, true, true, true, true, false, false, false, false, false, false, false, false, false, false, false, false, false, false, false, false] rfl rfl (any_of HT_.out (by kernel_rfl)) (fun _ _ _ h => h) (Or.inr ⟨by rfl, rfl⟩) ?_ ?_
               rotate_left
               ·simp only [Act.put, List.setIfInBounds_toArray, List.set_cons_zero, List.set_cons_succ, i64_w, i32_w]
                rfl
               refine pure_ (i := 14) (N := some 100) (v := undef) (a' := ?_) #[true, true, true, true, true, true, true, true, true, true, true, true, true, true, true, false, false, false, false, false, false, false, false, false, false, false, false, false, false, false] rfl rfl (any_of HT_.out (by kernel_rfl)) (fun _ _ _ h => h) (Or.inr ⟨by rfl, rfl⟩) ?_ ?_
               rotate_left
               ·simp only [Act.put, List.setIfInBounds_toArray, List.set_cons_zero, List.set_cons_succ, i64_w, i32_w]
                rfl
               refine pure_ (i := 15) (N := some 101) (v := undef) (a' := ?_) #[true, true, true, true, true, true, true, true, true, true, true, true, true, true, true, true, false, false, false, false, false, false, false, false, false, false, false, false, false, false] rfl rfl (any_of HT_.out (by kernel_rfl)) (fun _ _ _ h => h) (Or.inr ⟨by rfl, rfl⟩) ?_ ?_
               rotate_left
               ·simp only [Act.put, List.setIfInBounds_toArray, List.set_cons_zero, List.set_cons_succ, i64_w, i32_w]
                rfl
               refine pure_ (i := 16) (N := some 102) (v := undef) (a' := ?_) #[true, true, true, true, true, true, true, true, true, true, true, true, true, true, true, true, true, false, false, false, false, false, false, false, false, false, false, false, false, false] rfl rfl (any_of HT_.out (by kernel_rfl)) (fun _ _ _ h => h) (Or.inr ⟨by rfl, rfl⟩) ?_ ?_
               rotate_left
               ·simp only [Act.put, List.setIfInBounds_toArray, List.set_cons_zero, List.set_cons_succ, i64_w, i32_w]
                rfl
               refine pure_ (i := 17) (N := some 103) (v := undef) (a' := ?_) #[true, true, true, true, true, true, true, true, true, true, true, true, true, true, true, true, true, true, false, false, false, false, false, false, false, false, false, false, false, false] rfl rfl (any_of HT_.out (by kernel_rfl)) (fun _ _ _ h => h) (Or.inr ⟨by rfl, rfl⟩) ?_ ?_
               rotate_left
               ·simp only [Act.put, List.setIfInBounds_toArray, List.set_cons_zero, List.set_cons_succ, i64_w, i32_w]
                rfl
               refine pure_ (i := 18) (N := some 104) (v := ?_) (a' := ?_) #[true, true, true, true, true, true, true, true, true, true, true, true, true, true, true, true, true, true, true, false, false, false, false, false, false, false, false, false, false, false] rfl rfl (any_of HT_.out (by kernel_rfl)) (fun _ _ _ h => h) (Or.inl ⟨by rfl, ?_⟩) ?_ ?_
               rotate_left
               ·intro w'
                go_simp
                with_reducible rfl
               rotate_left
               ·simp only [Act.put, List.setIfInBounds_toArray, List.set_cons_zero, List.set_cons_succ, i64_w, i32_w]
                rfl
               refine pure_ (i := 19) (N := some 105) (v := ?_) (a' := ?_) #[true, true, true, true, true, true, true, true, true, true, true, true, true, true, true, true, true, true, true, true, false, false, false, false, false, false, false, false, false, false] rfl rfl (any_of HT_.out (by kernel_rfl)) (fun _ _ _ h => h) (Or.inl ⟨by rfl, ?_⟩) ?_ ?_
               rotate_left
               ·intro w'
                go_simp
                with_reducible rfl
               rotate_left
               ·simp only [Act.put, List.setIfInBounds_toArray, List.set_cons_zero, List.set_cons_succ, i64_w, i32_w]
                rfl
               refine pure_ (i := 20) (N := some 106) (v := undef) (a' := ?_) #[true, true, true, true, true, true, true, true, true, true, true, true, true, true, true, true, true, true, true, true, true, false, false, false, false, false, false, false, false, false] rfl rfl (any_of HT_.out (by kernel_rfl)) (fun _ _ _ h => h) (Or.inr ⟨by rfl, rfl⟩) ?_ ?_
               rotate_left
               ·simp only [Act.put, List.setIfInBounds_toArray, List.set_cons_zero, List.set_cons_succ, i64_w, i32_w]
                rfl
               refine pure_ (i := 21) (N := some 107) (v := undef) (a' := ?_) #[true, true, true, true, true, true, true, true, true, true, true, true, true, true, true, true, true, true, true, true, true, true, false, false, false, false, false, false, false, false] rfl rfl (any_of HT_.out (by kernel_rfl)) (fun _ _ _ h => h) (Or.inr ⟨by rfl, rfl⟩) ?_ ?_
               rotate_left
               ·simp only [Act.put, List.setIfInBounds_toArray, List.set_cons_zero, List.set_cons_succ, i64_w, i32_w]
                rfl
               refine pure_ (i := 22) (N := some 108) (v := undef) (a' := ?_) #[true, true, true, true, true, true, true, true, true, true, true, true, true, true, true, true, true, true, true, true, true, true, true, false, false, false, false, false, false, false] rfl rfl (any_of HT_.out (by kernel_rfl)) (fun _ _ _ h => h) (Or.inr ⟨by rfl, rfl⟩) ?_ ?_
               rotate_left
               ·simp only [Act.put, List.setIfInBounds_toArray, List.set_cons_zero, List.set_cons_succ, i64_w, i32_w]
                rfl
               refine pure_ (i := 23) (N := some 109) (v := undef) (a' := ?_) #[true, true, true, true, true, true, true, true, true, true, true, true, true, true, true, true, true, true, true, true, true, true, true, true, false, false, false, false, false, false] rfl rfl (any_of HT_.out (by kernel_rfl)) (fun _ _ _ h => h) (Or.inr ⟨by rfl, rfl⟩) ?_ ?_
               rotate_left
               ·simp only [Act.put, List.setIfInBounds_toArray, List.set_cons_zero, List.set_cons_succ, i64_w, i32_w]
                rfl
               refine pure_ (i := 24) (N := some 110) (v := undef) (a' := ?_) #[true, true, true, true, true, true, true, true, true, true, true, true, true, true, true, true, true, true, true, true, true, true, true, true, true, false, false, false, false, false] rfl rfl (any_of HT_.out (by kernel_rfl)) (fun _ _ _ h => h) (Or.inr ⟨by rfl, rfl⟩) ?_ ?_
               rotate_left
               ·simp only [Act.put, List.setIfInBounds_toArray, List.set_cons_zero, List.set_cons_succ, i64_w, i32_w]
                rfl
               refine pure_ (i := 25) (N := some 111) (v := undef) (a' := ?_) #[true, true, true, true, true, true, true, true, true, true, true, true, true, true, true, true, true, true, true, true, true, true, true, true, true, true, false, false, false, false] rfl rfl (any_of HT_.out (by kernel_rfl)) (fun _ _ _ h => h) (Or.inr ⟨by rfl, rfl⟩) ?_ ?_
               rotate_left
               ·simp only [Act.put, List.setIfInBounds_toArray, List.set_cons_zero, List.set_cons_succ, i64_w, i32_w]
                rfl
               refine pure_ (i := 26) (N := some 112) (v := undef) (a' := ?_) #[true, true, true, true, true, true, true, true, true, true, true, true, true, true, true, true, true, true, true, true, true, true, true, true, true, true, true, false, false, false] rfl rfl (any_of HT_.out (by kernel_rfl)) (fun _ _ _ h => h) (Or.inr ⟨by rfl, rfl⟩) ?_ ?_
               rotate_left
               ·simp only [Act.put, List.setIfInBounds_toArray, List.set_cons_zero, List.set_cons_succ, i64_w, i32_w]
                rfl
               refine pure_ (i := 27) (N := some 113) (v := undef) (a' := ?_) #[true, true, true, true, true, true, true, true, true, true, true, true, true, true, true, true, true, true, true, true, true, true, true, true, true, true, true, true, false, false] rfl rfl (any_of HT_.out (by kernel_rfl)) (fun _ _ _ h => h) (Or.inr ⟨by rfl, rfl⟩) ?_ ?_
               rotate_left
               ·simp only [Act.put, List.setIfInBounds_toArray, List.set_cons_zero, List.set_cons_succ, i64_w, i32_w]
                rfl
               refine pure_ (i := 28) (N := some 114) (v := undef) (a' := ?_) #[true, true, true, true, true, true, true, true, true, true, true, true, true, true, true, true, true, true, true, true, true, true, true, true, true, true, true, true, true, false] rfl rfl (any_of HT_.out (by kernel_rfl)) (fun _ _ _ h => h) (Or.inr ⟨by rfl, rfl⟩) ?_ ?_
               rotate_left
               ·simp only [Act.put, List.setIfInBounds_toArray, List.set_cons_zero, List.set_cons_succ, i64_w, i32_w]
                rfl
               refine pure_ (i := 29) (N := some 115) (v := ?_) (a' := ?_) #[true, true, true, true, true, true, true, true, true, true, true, true, true, true, true, true, true, true, true, true, true, true, true, true, true, true, true, true, true, true] rfl rfl (any_of HT_.out (by kernel_rfl)) (fun _ _ _ h => h) (Or.inl ⟨by rfl, ?_⟩) ?_ ?_
               rotate_left
               ·intro w'
                go_simp
                with_reducible rfl
               rotate_left
               ·simp only [Act.put, List.setIfInBounds_toArray, List.set_cons_zero, List.set_cons_succ, i64_w, i32_w]
                rfl
               refine done_ (done_of HT_.out (by kernel_rfl)) ?_
               try go_wp2
               go_meet
               case rel => exact ⟨_, (true), (by first | rfl | (simp; done) | (simp [*]; done) | (congr 1; (try unfold wrap64); omega) | (congr 1; rw [IntKind.wrap_u64]; omega)), H', ⟨by have := HK1.out; have := HK2.out; first | omega | exact Nat.le_refl _⟩, ⟨by (with_reducible repeat (first | apply Kd.R_alloc | apply Kd.R_drewN | apply Kd.R_drew)); exact HO_43.out⟩, ⟨by (with_reducible repeat (first | apply Kd.R_alloc | apply Kd.R_drewN | apply Kd.R_drew)); exact HO_58.out⟩, ⟨by (with_reducible repeat (first | refine blk_drewN ?_ _ | refine blk_drew ?_ | refine blk_alloc ?_ _)); exact BK504.out⟩, ⟨by (with_reducible repeat (first | refine blk_drewN ?_ _ | refine blk_drew ?_ | refine blk_alloc ?_ _)); exact BK517.out⟩, ⟨by (with_reducible repeat (first | refine blk_drewN ?_ _ | refine blk_drew ?_ | refine blk_alloc ?_ _)); exact BK524.out⟩, ⟨by repeat (first | (with_reducible first | exact HB.out | apply below_alloc | apply pw_below_drewN | apply below_drew1 | refine below_set ?_ GE504.out | refine below_set ?_ GE517.out | refine below_set ?_ GE524.out) | exact HB.out)⟩⟩
              ·rw [if_neg c50] at H
               have c50b0 : (!(t512 == t519) || (!(t513 == t520) || (!(t514 == t521) || (!(t515 == t522) || (!(t516 == t523)))))) = false := by simpa using c50
               clear c50
               replace H := Option.bind_eq_some_iff.mp H
               obtain ⟨t525, A530, H⟩ := H
               replace H : ((annealref1_Widen.f k2 ((rd_T45 y500 x45_1).f0) (rd y507 x60_2)).bind fun t526 => (if t525 = t526 then ((conv_Narrow.f k2 ((rd_T45 y500 x45_1).f1) (rd y507 x60_2)).bind fun t527 => ((annealref1_Narrow.f k2 ((rd_T45 y500 x45_1).f1) (rd y507 x60_2)).bind fun t528 => (anneallaw9_ConvTells.j2 k2 a5 y500 (y500.length : Int) x45_1 y507 (y507.length : Int) x60_2 (t527 != t528) ((rd_T45 y500 x45_1).f0) ((rd_T45 y500 x45_1).f1) ((rd_T45 y500 x45_1).f2)))) else (anneallaw9_ConvTells.j2 k2 a5 y500 (y500.length : Int) x45_1 y507 (y507.length : Int) x60_2 true ((rd_T45 y500 x45_1).f0) ((rd_T45 y500 x45_1).f1) ((rd_T45 y500 x45_1).f2)))) = some r := H
               have A53 := Aside0.mk A530
               clear A530
               replace H := Option.bind_eq_some_iff.mp H
               obtain ⟨t526, A540, H⟩ := H
               replace H : (if t525 = t526 then ((conv_Narrow.f k2 ((rd_T45 y500 x45_1).f1) (rd y507 x60_2)).bind fun t527 => ((annealref1_Narrow.f k2 ((rd_T45 y500 x45_1).f1) (rd y507 x60_2)).bind fun t528 => (anneallaw9_ConvTells.j2 k2 a5 y500 (y500.length : Int) x45_1 y507 (y507.length : Int) x60_2 (t527 != t528) ((rd_T45 y500 x45_1).f0) ((rd_T45 y500 x45_1).f1) ((rd_T45 y500 x45_1).f2)))) else (anneallaw9_ConvTells.j2 k2 a5 y500 (y500.length : Int) x45_1 y507 (y507.length : Int) x60_2 true ((rd_T45 y500 x45_1).f0) ((rd_T45 y500 x45_1).f1) ((rd_T45 y500 x45_1).f2))) = some r := H
               have A54 := Aside0.mk A540
               clear A540
               by_cases c55 : t525 = t526
               ·rw [if_pos c55] at H
                have c55b0 : (t525 == t526) = true := beq_iff_eq.mpr c55
                have c55b1 : (t525 != t526) = false := bne_eq_false_iff_eq.mpr c55
                clear c55
                replace H := Option.bind_eq_some_iff.mp H
                obtain ⟨t527, A560, H⟩ := H
                replace H : ((annealref1_Narrow.f k2 ((rd_T45 y500 x45_1).f1) (rd y507 x60_2)).bind fun t528 => (anneallaw9_ConvTells.j2 k2 a5 y500 (y500.length : Int) x45_1 y507 (y507.length : Int) x60_2 (t527 != t528) ((rd_T45 y500 x45_1).f0) ((rd_T45 y500 x45_1).f1) ((rd_T45 y500 x45_1).f2))) = some r := H
                have A56 := Aside0.mk A560
                clear A560
                replace H := Option.bind_eq_some_iff.mp H
                obtain ⟨t528, A570, H⟩ := H
                replace H : (anneallaw9_ConvTells.j2 k2 a5 y500 (y500.length : Int) x45_1 y507 (y507.length : Int) x60_2 (t527 != t528) ((rd_T45 y500 x45_1).f0) ((rd_T45 y500 x45_1).f1) ((rd_T45 y500 x45_1).f2)) = some r := H
                have A57 := Aside0.mk A570
                clear A570
                have H' := Aside0.mk H
                clear H
                try go_wp2
                have n0_ : Aside0 (Kd.R k45 45 (((((w45.setCell ⟨gb524, 0, none⟩ (.bool t519)).setCell ⟨gb524, 1, none⟩ (.bool t520)).setCell ⟨gb524, 2, none⟩ (.bool t521)).setCell ⟨gb524, 3, none⟩ (.bool t522)).setCell ⟨gb524, 4, none⟩ (.bool t523)) w.heap.size (fun k_ => k_ ≠ gb504) (.slice (some ad503) y500.length co18) y500) := ⟨by (with_reducible repeat (first | apply Kd.R_alloc | apply Kd.R_drewN | apply Kd.R_drew)); exact Kd.R_mono (Kd.R_far (p := ⟨gb524, 4, none⟩) (Kd.R_far (p := ⟨gb524, 3, none⟩) (Kd.R_far (p := ⟨gb524, 2, none⟩) (Kd.R_far (p := ⟨gb524, 1, none⟩) (Kd.R_far (p := ⟨gb524, 0, none⟩) (Kd.R_types HO_43.out BK524.out (by decide)) (fun _ hk => hk.2) (.bool t519)) (fun _ hk => hk.2) (.bool t520)) (fun _ hk => hk.2) (.bool t521)) (fun _ hk => hk.2) (.bool t522)) (fun _ hk => hk.2) (.bool t523)) (fun _ hk => hk.1)⟩
                have n1_ : Aside0 (Kd.R (Kd.int .u32) 28 (((((w45.setCell ⟨gb524, 0, none⟩ (.bool t519)).setCell ⟨gb524, 1, none⟩ (.bool t520)).setCell ⟨gb524, 2, none⟩ (.bool t521)).setCell ⟨gb524, 3, none⟩ (.bool t522)).setCell ⟨gb524, 4, none⟩ (.bool t523)) w.heap.size (fun _ => True) (.slice (some ad510) y507.length co31) y507) := ⟨by (with_reducible repeat (first | apply Kd.R_alloc | apply Kd.R_drewN | apply Kd.R_drew)); exact Kd.R_mono (Kd.R_far (p := ⟨gb524, 4, none⟩) (Kd.R_far (p := ⟨gb524, 3, none⟩) (Kd.R_far (p := ⟨gb524, 2, none⟩) (Kd.R_far (p := ⟨gb524, 1, none⟩) (Kd.R_far (p := ⟨gb524, 0, none⟩) (Kd.R_types HO_58.out BK524.out (by decide)) (fun _ hk => hk.2) (.bool t519)) (fun _ hk => hk.2) (.bool t520)) (fun _ hk => hk.2) (.bool t521)) (fun _ hk => hk.2) (.bool t522)) (fun _ hk => hk.2) (.bool t523)) (fun _ hk => trivial)⟩
                have n2_ : Aside0 ((((((w45.setCell ⟨gb524, 0, none⟩ (.bool t519)).setCell ⟨gb524, 1, none⟩ (.bool t520)).setCell ⟨gb524, 2, none⟩ (.bool t521)).setCell ⟨gb524, 3, none⟩ (.bool t522)).setCell ⟨gb524, 4, none⟩ (.bool t523)).heap[gb504]? = some (.cells #[.int .i64 ((rd_T45 y500 x45_1).f0), .int .i64 ((rd_T45 y500 x45_1).f1), .int .i64 ((rd_T45 y500 x45_1).f2)] 45 (0, 0))) := ⟨by (with_reducible repeat (first | refine blk_drewN ?_ _ | refine blk_drew ?_ | refine blk_alloc ?_ _)); refine blk_far ?_ NB504_524.out _; (with_reducible repeat (first | refine blk_drewN ?_ _ | refine blk_drew ?_ | refine blk_alloc ?_ _)); refine blk_far ?_ NB504_524.out _; (with_reducible repeat (first | refine blk_drewN ?_ _ | refine blk_drew ?_ | refine blk_alloc ?_ _)); refine blk_far ?_ NB504_524.out _; (with_reducible repeat (first | refine blk_drewN ?_ _ | refine blk_drew ?_ | refine blk_alloc ?_ _)); refine blk_far ?_ NB504_524.out _; (with_reducible repeat (first | refine blk_drewN ?_ _ | refine blk_drew ?_ | refine blk_alloc ?_ _)); refine blk_far ?_ NB504_524.out _; (with_reducible repeat (first | refine blk_drewN ?_ _ | refine blk_drew ?_ | refine blk_alloc ?_ _)); exact BK504.out⟩
                have n3_ : Aside0 ((((((w45.setCell ⟨gb524, 0, none⟩ (.bool t519)).setCell ⟨gb524, 1, none⟩ (.bool t520)).setCell ⟨gb524, 2, none⟩ (.bool t521)).setCell ⟨gb524, 3, none⟩ (.bool t522)).setCell ⟨gb524, 4, none⟩ (.bool t523)).heap[gb517]? = some (.cells #[.bool t512, .bool t513, .bool t514, .bool t515, .bool t516] 30 (0, 0))) := ⟨by (with_reducible repeat (first | refine blk_drewN ?_ _ | refine blk_drew ?_ | refine blk_alloc ?_ _)); refine blk_far ?_ NB517_524.out _; (with_reducible repeat (first | refine blk_drewN ?_ _ | refine blk_drew ?_ | refine blk_alloc ?_ _)); refine blk_far ?_ NB517_524.out _; (with_reducible repeat (first | refine blk_drewN ?_ _ | refine blk_drew ?_ | refine blk_alloc ?_ _)); refine blk_far ?_ NB517_524.out _; (with_reducible repeat (first | refine blk_drewN ?_ _ | refine blk_drew ?_ | refine blk_alloc ?_ _)); refine blk_far ?_ NB517_524.out _; (with_reducible repeat (first | refine blk_drewN ?_ _ | refine blk_drew ?_ | refine blk_alloc ?_ _)); refine blk_far ?_ NB517_524.out _; (with_reducible repeat (first | refine blk_drewN ?_ _ | refine blk_drew ?_ | refine blk_alloc ?_ _)); exact BK517.out⟩
                have n4_ : Aside0 ((((((w45.setCell ⟨gb524, 0, none⟩ (.bool t519)).setCell ⟨gb524, 1, none⟩ (.bool t520)).setCell ⟨gb524, 2, none⟩ (.bool t521)).setCell ⟨gb524, 3, none⟩ (.bool t522)).setCell ⟨gb524, 4, none⟩ (.bool t523)).heap[gb524]? = some (.cells #[.bool t519, .bool t520, .bool t521, .bool t522, .bool t523] 30 (0, 0))) := ⟨by (with_reducible repeat (first | refine blk_drewN ?_ _ | refine blk_drew ?_ | refine blk_alloc ?_ _)); refine blk_put (cs := #[.bool t519, .bool t520, .bool t521, .bool t522, .bool false]) ?_ 4 _ rfl; (with_reducible repeat (first | refine blk_drewN ?_ _ | refine blk_drew ?_ | refine blk_alloc ?_ _)); refine blk_put (cs := #[.bool t519, .bool t520, .bool t521, .bool false, .bool false]) ?_ 3 _ rfl; (with_reducible repeat (first | refine blk_drewN ?_ _ | refine blk_drew ?_ | refine blk_alloc ?_ _)); refine blk_put (cs := #[.bool t519, .bool t520, .bool false, .bool false, .bool false]) ?_ 2 _ rfl; (with_reducible repeat (first | refine blk_drewN ?_ _ | refine blk_drew ?_ | refine blk_alloc ?_ _)); refine blk_put (cs := #[.bool t519, .bool false, .bool false, .bool false, .bool false]) ?_ 1 _ rfl; (with_reducible repeat (first | refine blk_drewN ?_ _ | refine blk_drew ?_ | refine blk_alloc ?_ _)); refine blk_put (cs := #[.bool false, .bool false, .bool false, .bool false, .bool false]) ?_ 0 _ rfl; (with_reducible repeat (first | refine blk_drewN ?_ _ | refine blk_drew ?_ | refine blk_alloc ?_ _)); exact BK524.out⟩
                have n5_ : Aside0 (Below w.heap.size w (((((w45.setCell ⟨gb524, 0, none⟩ (.bool t519)).setCell ⟨gb524, 1, none⟩ (.bool t520)).setCell ⟨gb524, 2, none⟩ (.bool t521)).setCell ⟨gb524, 3, none⟩ (.bool t522)).setCell ⟨gb524, 4, none⟩ (.bool t523))) := ⟨by repeat (first | (with_reducible first | exact HB.out | apply below_alloc | apply pw_below_drewN | apply below_drew1 | refine below_set ?_ GE504.out | refine below_set ?_ GE517.out | refine below_set ?_ GE524.out) | exact HB.out)⟩
                (try clear HO_43)
                (try clear HO_58)
                (try clear BK504)
                (try clear BK517)
                (try clear BK524)
                (try clear HB)
                generalize (((((w45.setCell ⟨gb524, 0, none⟩ (.bool t519)).setCell ⟨gb524, 1, none⟩ (.bool t520)).setCell ⟨gb524, 2, none⟩ (.bool t521)).setCell ⟨gb524, 3, none⟩ (.bool t522)).setCell ⟨gb524, 4, none⟩ (.bool t523)) = w58 at n0_ n1_ n2_ n3_ n4_ n5_ ⊢
                have HO_43 := n0_
                have HO_58 := n1_
                have BK504 := n2_
                have BK517 := n3_
                have BK524 := n4_
                have HB := n5_
                clear n0_ n1_ n2_ n3_ n4_ n5_
                have n0_ := Aside0.mk (Kd.R_drew HO_43.out)
                have n1_ := Aside0.mk (Kd.R_drew HO_58.out)
                have n2_ := Aside0.mk (blk_drew BK504.out)
                have n3_ := Aside0.mk (blk_drew BK517.out)
                have n4_ := Aside0.mk (blk_drew BK524.out)
                have n5_ := Aside0.mk (below_drew1 HB.out)
                clear HO_43
                clear HO_58
                clear BK504
                clear BK517
                clear BK524
                clear HB
                have HO_43 := n0_
                have HO_58 := n1_
                have BK504 := n2_
                have BK517 := n3_
                have BK524 := n4_
                have HB := n5_
                clear n0_ n1_ n2_ n3_ n4_ n5_
                refine start_ (n := 30) (S := fun w' => w'.cell? ⟨gb517, 0, none⟩ = some (.bool t512) ∧ w'.cell? ⟨gb517, 1, none⟩ = some (.bool t513) ∧ w'.cell? ⟨gb517, 2, none⟩ = some (.bool t514) ∧ w'.cell? ⟨gb517, 3, none⟩ = some (.bool t515) ∧ w'.cell? ⟨gb517, 4, none⟩ = some (.bool t516) ∧ w'.cell? ⟨gb524, 0, none⟩ = some (.bool t519) ∧ w'.cell? ⟨gb524, 1, none⟩ = some (.bool t520) ∧ w'.cell? ⟨gb524, 2, none⟩ = some (.bool t521) ∧ w'.cell? ⟨gb524, 3, none⟩ = some (.bool t522) ∧ w'.cell? ⟨gb524, 4, none⟩ = some (.bool t523) ∧ w'.cell? ⟨gb504, 0, none⟩ = some (.int .i64 ((rd_T45 y500 x45_1).f0)) ∧ w'.cell? ⟨gb504, 1, none⟩ = some (.int .i64 ((rd_T45 y500 x45_1).f1)) ∧ w'.cell? ⟨gb504, 2, none⟩ = some (.int .i64 ((rd_T45 y500 x45_1).f2))) (ds := []) #[false, false, false, false, false, false, false, false, false, false, false, false, false, false, false, false, false, false, false, false, false, false, false, false, false, false, false, false, false, false] (by kernel_rfl) rfl rfl ⟨(blk_cell BK517.out 0).trans rfl, (blk_cell BK517.out 1).trans rfl, (blk_cell BK517.out 2).trans rfl, (blk_cell BK517.out 3).trans rfl, (blk_cell BK517.out 4).trans rfl, (blk_cell BK524.out 0).trans rfl, (blk_cell BK524.out 1).trans rfl, (blk_cell BK524.out 2).trans rfl, (blk_cell BK524.out 3).trans rfl, (blk_cell BK524.out 4).trans rfl, (blk_cell BK504.out 0).trans rfl, (blk_cell BK504.out 1).trans rfl, (blk_cell BK504.out 2).trans rfl⟩ (fun hHeld => ?_); refine with_tabW anneallaw9_ConvTells.tab11 anneallaw9_ConvTells.bits11 (fun HT_ HW_ => ?_)
                generalize w58.drew = w59 at HO_43 HO_58 BK504 BK517 BK524 HB hHeld ⊢
                refine pure_ (i := 0) (N := some 86) (v := ?_) (a' := ?_) #[true, false, false, false, false, false, false, false, false, false, false, false, false, false, false, false, false, false, false, false, false, false, false, false, false, false, false, false, false, false] rfl rfl (any_of HT_.out (by kernel_rfl)) (fun _ _ _ h => h) (Or.inl ⟨by rfl, ?_⟩) ?_ ?_
                rotate_left
                ·intro w'
                 go_simp
                 with_reducible rfl
                rotate_left
                ·simp only [Act.put, List.setIfInBounds_toArray, List.set_cons_zero, List.set_cons_succ, i64_w, i32_w]
                 rfl
                refine pure_ (i := 1) (N := some 87) (v := ?_) (a' := ?_) #[true, true, false, false, false, false, false, false, false, false, false, false, false, false, false, false, false, false, false, false, false, false, false, false, false, false, false, false, false, false] rfl rfl (any_of HT_.out (by kernel_rfl)) (fun _ _ _ h => h) (Or.inl ⟨by rfl, ?_⟩) ?_ ?_
                rotate_left
                ·intro w'
                 go_simp
                 with_reducible rfl
                rotate_left
                ·simp only [Act.put, List.setIfInBounds_toArray, List.set_cons_zero, List.set_cons_succ, i64_w, i32_w]
                 rfl
                refine pure_ (i := 2) (N := some 88) (v := ?_) (a' := ?_) #[true, true, true, false, false, false, false, false, false, false, false, false, false, false, false, false, false, false, false, false, false, false, false, false, false, false, false, false, false, false] rfl rfl (any_of HT_.out (by kernel_rfl)) (fun _ _ _ h => h) (Or.inl ⟨by rfl, ?_⟩) ?_ ?_
                rotate_left
                ·intro w'
                 go_simp
                 with_reducible rfl
                rotate_left
                ·simp only [Act.put, List.setIfInBounds_toArray, List.set_cons_zero, List.set_cons_succ, i64_w, i32_w]
                 rfl
                refine pure_ (i := 3) (N := some 89) (v := ?_) (a' := ?_) #[true, true, true, true, false, false, false, false, false, false, false, false, false, false, false, false, false, false, false, false, false, false, false, false, false, false, false, false, false, false] rfl rfl (any_of HT_.out (by kernel_rfl)) (fun _ _ _ h => h) (Or.inl ⟨by rfl, ?_⟩) ?_ ?_
                rotate_left
                ·intro w'
                 go_simp
                 with_reducible rfl
                rotate_left
                ·simp only [Act.put, List.setIfInBounds_toArray, List.set_cons_zero, List.set_cons_succ, i64_w, i32_w]
                 rfl
                refine take_ (i := 4) (N := some 90) (v := ?_) (a' := ?_) #[true, true, true, true, true, false, false, false, false, false, false, false, false, false, false, false, false, false, false, false, false, false, false, false, false, false, false, false, false, false] rfl rfl (take_ofW HT_.out HW_.out (by kernel_rfl)) (fun _ _ _ h => h) (Or.inl ⟨by rfl, ?_⟩) hHeld ?_ ?_
                rotate_left
                ·rintro w' ⟨s0, s1, s2, s3, s4, s5, s6, s7, s8, s9, s10, s11, s12⟩
                 go_simp
                 with_reducible rfl
                rotate_left
                ·simp only [Act.put, List.setIfInBounds_toArray, List.set_cons_zero, List.set_cons_succ, i64_w, i32_w]
                 rfl
                refine take_ (i := 5) (N := some 91) (v := ?_) (a' := ?_) #[true, true, true, true, true, true, false, false, false, false, false, false, false, false, false, false, false, false, false, false, false, false, false, false, false, false, false, false, false, false] rfl rfl (take_ofW HT_.out HW_.out (by kernel_rfl)) (fun _ _ _ h => h) (Or.inl ⟨by rfl, ?_⟩) hHeld ?_ ?_
                rotate_left
                ·rintro w' ⟨s0, s1, s2, s3, s4, s5, s6, s7, s8, s9, s10, s11, s12⟩
                 go_simp
                 with_reducible rfl
                rotate_left
                ·simp only [Act.put, List.setIfInBounds_toArray, List.set_cons_zero, List.set_cons_succ, i64_w, i32_w]
                 rfl
                refine pure_ (i := 6) (N := some 92) (v := ?_) (a' := ?_) #[true, true, true, true, true, true, true, false, false, false, false, false, false, false, false, false, false, false, false, false, false, false, false, false, false, false, false, false, false, false] rfl rfl (any_of HT_.out (by kernel_rfl)) (fun _ _ _ h => h) (Or.inl ⟨by rfl, ?_⟩) ?_ ?_
                rotate_left
                ·intro w'
                 go_simp
                 with_reducible rfl
                rotate_left
                ·simp only [Act.put, List.setIfInBounds_toArray, List.set_cons_zero, List.set_cons_succ, i64_w, i32_w]
                 rfl
                refine pure_ (i := 7) (N := some 93) (v := ?_) (a' := ?_) #[true, true, true, true, true, true, true, true, false, false, false, false, false, false, false, false, false, false, false, false, false, false, false, false, false, false, false, false, false, false] rfl rfl (any_of HT_.out (by kernel_rfl)) (fun _ _ _ h => h) (Or.inl ⟨by rfl, ?_⟩) ?_ ?_
                rotate_left
                ·intro w'
                 go_simp
                 with_reducible rfl
                rotate_left
                ·simp only [Act.put, List.setIfInBounds_toArray, List.set_cons_zero, List.set_cons_succ, i64_w, i32_w]
                 rfl
                refine pure_ (i := 8) (N := some 94) (v := ?_) (a' := ?_) #[true, true, true, true, true, true, true, true, true, false, false, false, false, false, false, false, false, false, false, false, false, false, false, false, false, false, false, false, false, false] rfl rfl (any_of HT_.out (by kernel_rfl)) (fun _ _ _ h => h) (Or.inl ⟨by rfl, ?_⟩) ?_ ?_
                rotate_left
                ·intro w'
                 go_simp
                 with_reducible rfl
                rotate_left
                ·simp only [Act.put, List.setIfInBounds_toArray, List.set_cons_zero, List.set_cons_succ, i64_w, i32_w]
                 rfl
                refine pure_ (i := 9) (N := some 95) (v := ?_) (a' := ?_) #[true, true, true, true, true, true, true, true, true, true, false, false, false, false, false, false, false, false, false, false, false, false, false, false, false, false, false, false, false, false] rfl rfl (any_of HT_.out (by kernel_rfl)) (fun _ _ _ h => h) (Or.inl ⟨by rfl, ?_⟩) ?_ ?_
                rotate_left
                ·intro w'
                 go_simp
                 with_reducible rfl
                rotate_left
                ·simp only [Act.put, List.setIfInBounds_toArray, List.set_cons_zero, List.set_cons_succ, i64_w, i32_w]
                 rfl
                refine pure_ (i := 11) (N := some 97) (v := ?_) (a' := ?_) #[true, true, true, true, true, true, true, true, true, true, false, true, false, false, false, false, false, false, false, false, false, false, false, false, false, false, false, false, false, false] rfl rfl (any_of HT_.out (by kernel_rfl)) (fun _ _ _ h => h) (Or.inl ⟨by rfl, ?_⟩) ?_ ?_
                rotate_left
                ·intro w'
                 go_simp
                 with_reducible rfl
                rotate_left
                ·simp only [Act.put, List.setIfInBounds_toArray, List.set_cons_zero, List.set_cons_succ, i64_w, i32_w]
                 rfl
                refine pure_ (i := 13) (N := some 99) (v := ?_) (a' := ?_) #[true, true, true, true, true, true, true, true, true, true, false, true, false, true, false, false, false, false, false, false, false, false, false, false, false, false, false, false, false, false] rfl rfl (any_of HT_.out (by kernel_rfl)) (fun _ _ _ h => h) (Or.inl ⟨by rfl, ?_⟩) ?_ ?_
                rotate_left
                ·intro w'
                 go_simp
                 with_reducible rfl
                rotate_left
                ·simp only [Act.put, List.setIfInBounds_toArray, List.set_cons_zero, List.set_cons_succ, i64_w, i32_w]
                 rfl
                refine pure_ (i := 15) (N := some 101) (v := ?_) (a' := ?_) #[true, true, true, true, true, true, true, true, true, true, false, true, false, true, false, true, false, false, false, false, false, false, false, false, false, false, false, false, false, false] rfl rfl (any_of HT_.out (by kernel_rfl)) (fun _ _ _ h => h) (Or.inl ⟨by rfl, ?_⟩) ?_ ?_
                rotate_left
                ·intro w'
                 go_simp
                 with_reducible rfl
                rotate_left
                ·simp only [Act.put, List.setIfInBounds_toArray, List.set_cons_zero, List.set_cons_succ, i64_w, i32_w]
                 rfl
                refine take_ (i := 10) (N := some 96) (v := ?_) (a' := ?_) #[true, true, true, true, true, true, true, true, true, true, true, true, false, true, false, true, false, false, false, false, false, false, false, false, false, false, false, false, false, false] rfl rfl (take_ofW HT_.out HW_.out (by kernel_rfl)) (fun _ _ _ h => h) (Or.inl ⟨by rfl, ?_⟩) hHeld ?_ ?_
                rotate_left
                ·rintro w' ⟨s0, s1, s2, s3, s4, s5, s6, s7, s8, s9, s10, s11, s12⟩
                 go_simp
                 with_reducible rfl
                rotate_left
                ·simp only [Act.put, List.setIfInBounds_toArray, List.set_cons_zero, List.set_cons_succ, i64_w, i32_w]
                 rfl
                refine take_ (i := 14) (N := some 100) (v := ?_) (a' := ?_) #[true, true, true, true, true, true, true, true, true, true, true, true, false, true, true, true, false, false, false, false, false, false, false, false, false, false, false, false, false, false] rfl rfl (take_ofW HT_.out HW_.out (by kernel_rfl)) (fun _ _ _ h => h) (Or.inl ⟨by rfl, ?_⟩) hHeld ?_ ?_
                rotate_left
                ·rintro w' ⟨s0, s1, s2, s3, s4, s5, s6, s7, s8, s9, s10, s11, s12⟩
                 go_simp
                 with_reducible rfl
                rotate_left
                ·simp only [Act.put, List.setIfInBounds_toArray, List.set_cons_zero, List.set_cons_succ, i64_w, i32_w]
                 rfl
                refine one_ (i := 12) (N := some 98) #[true, true, true, true, true, true, true, true, true, true, true, true, true, true, true, true, false, false, false, false, false, false, false, false, false, false, false, false, false, false] rfl rfl (one_of HT_.out (by kernel_rfl)) (by decide) (fun K hK => ?_)
                refine goes_ Try.func30 (by kernel_rfl) rfl #[.int .i64 ((rd_T45 y500 x45_1).f0), .int .u32 (rd y507 x60_2)] (by rfl) rfl rfl (by (try simp only [List.map_toArray, List.map_cons, List.map_nil]); first | done | rfl | (simp only [List.length_drop, List.length_take]; rfl)) ?_
                with_reducible refine (conv_Widen.calls k2 ((rd_T45 y500 x45_1).f0) (rd y507 x60_2) t525 _ A53.out).mono ?_
                rintro e w60 ⟨rfl, hb⟩
                refine ⟨_, rfl, ?_⟩
                have n0_ := Aside0.mk (Kd.R_below (by (with_reducible repeat (first | apply Kd.R_alloc | apply Kd.R_drewN | apply Kd.R_drew)); exact HO_43.out) hb)
                have n1_ := Aside0.mk (Kd.R_below (by (with_reducible repeat (first | apply Kd.R_alloc | apply Kd.R_drewN | apply Kd.R_drew)); exact HO_58.out) hb)
                have n2_ := Aside0.mk (blk_below (g := gb504) (o := .cells #[.int .i64 ((rd_T45 y500 x45_1).f0), .int .i64 ((rd_T45 y500 x45_1).f1), .int .i64 ((rd_T45 y500 x45_1).f2)] 45 (0, 0)) (by (with_reducible repeat (first | refine blk_drewN ?_ _ | refine blk_drew ?_ | refine blk_alloc ?_ _)); exact BK504.out) hb)
                have n3_ := Aside0.mk (blk_below (g := gb517) (o := .cells #[.bool t512, .bool t513, .bool t514, .bool t515, .bool t516] 30 (0, 0)) (by (with_reducible repeat (first | refine blk_drewN ?_ _ | refine blk_drew ?_ | refine blk_alloc ?_ _)); exact BK517.out) hb)
                have n4_ := Aside0.mk (blk_below (g := gb524) (o := .cells #[.bool t519, .bool t520, .bool t521, .bool t522, .bool t523] 30 (0, 0)) (by (with_reducible repeat (first | refine blk_drewN ?_ _ | refine blk_drew ?_ | refine blk_alloc ?_ _)); exact BK524.out) hb)
                have n5_ := Aside0.mk (below_step (by repeat (first | (with_reducible first | exact HB.out | apply below_alloc | apply pw_below_drewN | apply below_drew1 | refine below_set ?_ GE504.out | refine below_set ?_ GE517.out | refine below_set ?_ GE524.out) | exact HB.out)) hb)
                clear HO_43
                clear HO_58
                clear BK504
                clear BK517
                clear BK524
                clear HB
                have HO_43 := n0_
                have HO_58 := n1_
                have BK504 := n2_
                have BK517 := n3_
                have BK524 := n4_
                have HB := n5_
                clear n0_ n1_ n2_ n3_ n4_ n5_
                (try clear hb)
                (try clear hb2)
                (try clear hk)
                (try clear hi)
                refine hK.out _ _ ⟨(blk_cell BK517.out 0).trans rfl, (blk_cell BK517.out 1).trans rfl, (blk_cell BK517.out 2).trans rfl, (blk_cell BK517.out 3).trans rfl, (blk_cell BK517.out 4).trans rfl, (blk_cell BK524.out 0).trans rfl, (blk_cell BK524.out 1).trans rfl, (blk_cell BK524.out 2).trans rfl, (blk_cell BK524.out 3).trans rfl, (blk_cell BK524.out 4).trans rfl, (blk_cell BK504.out 0).trans rfl, (blk_cell BK504.out 1).trans rfl, (blk_cell BK504.out 2).trans rfl⟩ (fun hHeld => ?_)
                clear hK K
                refine norm_ (a' := ?_) ?_ ?_
                rotate_left
                ·show Act.put _ (some 98) _ = _
                 simp only [Act.put, List.setIfInBounds_toArray, List.set_cons_zero, List.set_cons_succ, i64_w, i32_w]
                 rfl
                refine one_ (i := 16) (N := some 102) #[true, true, true, true, true, true, true, true, true, true, true, true, true, true, true, true, true, false, false, false, false, false, false, false, false, false, false, false, false, false] rfl rfl (one_of HT_.out (by kernel_rfl)) (by decide) (fun K hK => ?_)
                refine goes_ Try.func31 (by kernel_rfl) rfl #[.int .i64 ((rd_T45 y500 x45_1).f0), .int .u32 (rd y507 x60_2)] (by rfl) rfl rfl (by (try simp only [List.map_toArray, List.map_cons, List.map_nil]); first | done | rfl | (simp only [List.length_drop, List.length_take]; rfl)) ?_
                with_reducible refine (annealref1_Widen.calls k2 ((rd_T45 y500 x45_1).f0) (rd y507 x60_2) t526 _ A54.out).mono ?_
                rintro e w61 ⟨rfl, hb⟩
                refine ⟨_, rfl, ?_⟩
                have n0_ := Aside0.mk (Kd.R_below (by (with_reducible repeat (first | apply Kd.R_alloc | apply Kd.R_drewN | apply Kd.R_drew)); exact HO_43.out) hb)
                have n1_ := Aside0.mk (Kd.R_below (by (with_reducible repeat (first | apply Kd.R_alloc | apply Kd.R_drewN | apply Kd.R_drew)); exact HO_58.out) hb)
                have n2_ := Aside0.mk (blk_below (g := gb504) (o := .cells #[.int .i64 ((rd_T45 y500 x45_1).f0), .int .i64 ((rd_T45 y500 x45_1).f1), .int .i64 ((rd_T45 y500 x45_1).f2)] 45 (0, 0)) (by (with_reducible repeat (first | refine blk_drewN ?_ _ | refine blk_drew ?_ | refine blk_alloc ?_ _)); exact BK504.out) hb)
                have n3_ := Aside0.mk (blk_below (g := gb517) (o := .cells #[.bool t512, .bool t513, .bool t514, .bool t515, .bool t516] 30 (0, 0)) (by (with_reducible repeat (first | refine blk_drewN ?_ _ | refine blk_drew ?_ | refine blk_alloc ?_ _)); exact BK517.out) hb)
                have n4_ := Aside0.mk (blk_below (g := gb524) (o := .cells #[.bool t519, .bool t520, .bool t521, .bool t522, .bool t523] 30 (0, 0)) (by (with_reducible repeat (first | refine blk_drewN ?_ _ | refine blk_drew ?_ | refine blk_alloc ?_ _)); exact BK524.out) hb)
                have n5_ := Aside0.mk (below_step (by repeat (first | (with_reducible first | exact HB.out | apply below_alloc | apply pw_below_drewN | apply below_drew1 | refine below_set ?_ GE504.out | refine below_set ?_ GE517.out | refine below_set ?_ GE524.out) | exact HB.out)) hb)
                clear HO_43
                clear HO_58
                clear BK504
                clear BK517
                clear BK524
                clear HB
                have HO_43 := n0_
                have HO_58 := n1_
                have BK504 := n2_
                have BK517 := n3_
                have BK524 := n4_
                have HB := n5_
                clear n0_ n1_ n2_ n3_ n4_ n5_
                (try clear hb)
                (try clear hb2)
                (try clear hk)
                (try clear hi)
                refine hK.out _ _ ⟨(blk_cell BK517.out 0).trans rfl, (blk_cell BK517.out 1).trans rfl, (blk_cell BK517.out 2).trans rfl, (blk_cell BK517.out 3).trans rfl, (blk_cell BK517.out 4).trans rfl, (blk_cell BK524.out 0).trans rfl, (blk_cell BK524.out 1).trans rfl, (blk_cell BK524.out 2).trans rfl, (blk_cell BK524.out 3).trans rfl, (blk_cell BK524.out 4).trans rfl, (blk_cell BK504.out 0).trans rfl, (blk_cell BK504.out 1).trans rfl, (blk_cell BK504.out 2).trans rfl⟩ (fun hHeld => ?_)
                clear hK K
                refine norm_ (a' := ?_) ?_ ?_
                rotate_left
                ·show Act.put _ (some 102) _ = _
                 simp only [Act.put, List.setIfInBounds_toArray, List.set_cons_zero, List.set_cons_succ, i64_w, i32_w]
                 rfl
                refine pure_ (i := 17) (N := some 103) (v := ?_) (a' := ?_) #[true, true, true, true, true, true, true, true, true, true, true, true, true, true, true, true, true, true, false, false, false, false, false, false, false, false, false, false, false, false] rfl rfl (any_of HT_.out (by kernel_rfl)) (fun _ _ _ h => h) (Or.inl ⟨by rfl, ?_⟩) ?_ ?_
                rotate_left
                ·intro w'
                 go_simp
                 with_reducible rfl
                rotate_left
                ·simp only [Act.put, List.setIfInBounds_toArray, List.set_cons_zero, List.set_cons_succ, i64_w, i32_w]
                 rfl
                refine pure_ (i := 18) (N := some 104) (v := ?_) (a' := ?_) #[true, true, true, true, true, true, true, true, true, true, true, true, true, true, true, true, true, true, true, false, false, false, false, false, false, false, false, false, false, false] rfl rfl (any_of HT_.out (by kernel_rfl)) (fun _ _ _ h => h) (Or.inl ⟨by rfl, ?_⟩) ?_ ?_
                rotate_left
                ·intro w'
                 go_simp
                 with_reducible rfl
                rotate_left
                ·simp only [Act.put, List.setIfInBounds_toArray, List.set_cons_zero, List.set_cons_succ, i64_w, i32_w]
                 rfl
                refine pure_ (i := 19) (N := some 105) (v := ?_) (a' := ?_) #[true, true, true, true, true, true, true, true, true, true, true, true, true, true, true, true, true, true, true, true, false, false, false, false, false, false, false, false, false, false] rfl rfl (any_of HT_.out (by kernel_rfl)) (fun _ _ _ h => h) (Or.inl ⟨by rfl, ?_⟩) ?_ ?_
                rotate_left
                ·intro w'
                 go_simp
                 with_reducible rfl
                rotate_left
                ·simp only [Act.put, List.setIfInBounds_toArray, List.set_cons_zero, List.set_cons_succ, i64_w, i32_w]
                 rfl
                refine pure_ (i := 20) (N := some 106) (v := ?_) (a' := ?_) #[true, true, true, true, true, true, true, true, true, true, true, true, true, true, true, true, true, true, true, true, true, false, false, false, false, false, false, false, false, false] rfl rfl (any_of HT_.out (by kernel_rfl)) (fun _ _ _ h => h) (Or.inl ⟨by rfl, ?_⟩) ?_ ?_
                rotate_left
                ·intro w'
                 go_simp
                 with_reducible rfl
                rotate_left
                ·simp only [Act.put, List.setIfInBounds_toArray, List.set_cons_zero, List.set_cons_succ, i64_w, i32_w]
                 rfl
                refine pure_ (i := 22) (N := some 108) (v := ?_) (a' := ?_) #[true, true, true, true, true, true, true, true, true, true, true, true, true, true, true, true, true, true, true, true, true, false, true, false, false, false, false, false, false, false] rfl rfl (any_of HT_.out (by kernel_rfl)) (fun _ _ _ h => h) (Or.inl ⟨by rfl, ?_⟩) ?_ ?_
                rotate_left
                ·intro w'
                 go_simp
                 with_reducible rfl
                rotate_left
                ·simp only [Act.put, List.setIfInBounds_toArray, List.set_cons_zero, List.set_cons_succ, i64_w, i32_w]
                 rfl
                refine pure_ (i := 24) (N := some 110) (v := ?_) (a' := ?_) #[true, true, true, true, true, true, true, true, true, true, true, true, true, true, true, true, true, true, true, true, true, false, true, false, true, false, false, false, false, false] rfl rfl (any_of HT_.out (by kernel_rfl)) (fun _ _ _ h => h) (Or.inl ⟨by rfl, ?_⟩) ?_ ?_
                rotate_left
                ·intro w'
                 go_simp
                 with_reducible rfl
                rotate_left
                ·simp only [Act.put, List.setIfInBounds_toArray, List.set_cons_zero, List.set_cons_succ, i64_w, i32_w]
                 rfl
                refine pure_ (i := 26) (N := some 112) (v := ?_) (a' := ?_) #[true, true, true, true, true, true, true, true, true, true, true, true, true, true, true, true, true, true, true, true, true, false, true, false, true, false, true, false, false, false] rfl rfl (any_of HT_.out (by kernel_rfl)) (fun _ _ _ h => h) (Or.inl ⟨by rfl, ?_⟩) ?_ ?_
                rotate_left
                ·intro w'
                 go_simp
                 with_reducible rfl
                rotate_left
                ·simp only [Act.put, List.setIfInBounds_toArray, List.set_cons_zero, List.set_cons_succ, i64_w, i32_w]
                 rfl
                refine take_ (i := 21) (N := some 107) (v := ?_) (a' := ?_) #[true, true, true, true, true, true, true, true, true, true, true, true, true, true, true, true, true, true, true, true, true, true, true, false, true, false, true, false, false, false] rfl rfl (take_ofW HT_.out HW_.out (by kernel_rfl)) (fun _ _ _ h => h) (Or.inl ⟨by rfl, ?_⟩) hHeld ?_ ?_
                rotate_left
                ·rintro w' ⟨s0, s1, s2, s3, s4, s5, s6, s7, s8, s9, s10, s11, s12⟩
                 go_simp
                 with_reducible rfl
                rotate_left
                ·simp only [Act.put, List.setIfInBounds_toArray, List.set_cons_zero, List.set_cons_succ, i64_w, i32_w]
                 rfl
                refine take_ (i := 25) (N := some 111) (v := ?_) (a' := ?_) #[true, true, true, true, true, true, true, true, true, true, true, true, true, true, true, true, true, true, true, true, true, true, true, false, true, true, true, false, false, false] rfl rfl (take_ofW HT_.out HW_.out (by kernel_rfl)) (fun _ _ _ h => h) (Or.inl ⟨by rfl, ?_⟩) hHeld ?_ ?_
                rotate_left
                ·rintro w' ⟨s0, s1, s2, s3, s4, s5, s6, s7, s8, s9, s10, s11, s12⟩
                 go_simp
                 with_reducible rfl
                rotate_left
                ·simp only [Act.put, List.setIfInBounds_toArray, List.set_cons_zero, List.set_cons_succ, i64_w, i32_w]
                 rfl
                refine one_ (i := 23) (N := some 109) #[true, true, true, true, true, true, true, true, true, true, true, true, true, true, true, true, true, true, true, true, true, true, true, true, true, true, true, false, false, false] rfl rfl (one_of HT_.out (by kernel_rfl)) (by decide) (fun K hK => ?_)
                refine goes_ Try.func32 (by kernel_rfl) rfl #[.int .i64 ((rd_T45 y500 x45_1).f1), .int .u32 (rd y507 x60_2)] (by rfl) rfl rfl (by (try simp only [List.map_toArray, List.map_cons, List.map_nil]); first | done | rfl | (simp only [List.length_drop, List.length_take]; rfl)) ?_
                with_reducible refine (conv_Narrow.calls k2 ((rd_T45 y500 x45_1).f1) (rd y507 x60_2) t527 _ A56.out).mono ?_
                rintro e w62 ⟨rfl, hb⟩
                refine ⟨_, rfl, ?_⟩
                have n0_ := Aside0.mk (Kd.R_below (by (with_reducible repeat (first | apply Kd.R_alloc | apply Kd.R_drewN | apply Kd.R_drew)); exact HO_43.out) hb)
                have n1_ := Aside0.mk (Kd.R_below (by (with_reducible repeat (first | apply Kd.R_alloc | apply Kd.R_drewN | apply Kd.R_drew)); exact HO_58.out) hb)
                have n2_ := Aside0.mk (blk_below (g := gb504) (o := .cells #[.int .i64 ((rd_T45 y500 x45_1).f0), .int .i64 ((rd_T45 y500 x45_1).f1), .int .i64 ((rd_T45 y500 x45_1).f2)] 45 (0, 0)) (by (with_reducible repeat (first | refine blk_drewN ?_ _ | refine blk_drew ?_ | refine blk_alloc ?_ _)); exact BK504.out) hb)
                have n3_ := Aside0.mk (blk_below (g := gb517) (o := .cells #[.bool t512, .bool t513, .bool t514, .bool t515, .bool t516] 30 (0, 0)) (by (with_reducible repeat (first | refine blk_drewN ?_ _ | refine blk_drew ?_ | refine blk_alloc ?_ _)); exact BK517.out) hb)
                have n4_ := Aside0.mk (blk_below (g := gb524) (o := .cells #[.bool t519, .bool t520, .bool t521, .bool t522, .bool t523] 30 (0, 0)) (by (with_reducible repeat (first | refine blk_drewN ?_ _ | refine blk_drew ?_ | refine blk_alloc ?_ _)); exact BK524.out) hb)
                have n5_ := Aside0.mk (below_step (by repeat (first | (with_reducible first | exact HB.out | apply below_alloc | apply pw_below_drewN | apply below_drew1 | refine below_set ?_ GE504.out | refine below_set ?_ GE517.out | refine below_set ?_ GE524.out) | exact HB.out)) hb)
                clear HO_43
                clear HO_58
                clear BK504
                clear BK517
                clear BK524
                clear HB
                have HO_43 := n0_
                have HO_58 := n1_
                have BK504 := n2_
                have BK517 := n3_
                have BK524 := n4_
                have HB := n5_
                clear n0_ n1_ n2_ n3_ n4_ n5_
                (try clear hb)
                (try clear hb2)
                (try clear hk)
                (try clear hi)
                refine hK.out _ _ ⟨(blk_cell BK517.out 0).trans rfl, (blk_cell BK517.out 1).trans rfl, (blk_cell BK517.out 2).trans rfl, (blk_cell BK517.out 3).trans rfl, (blk_cell BK517.out 4).trans rfl, (blk_cell BK524.out 0).trans rfl, (blk_cell BK524.out 1).trans rfl, (blk_cell BK524.out 2).trans rfl, (blk_cell BK524.out 3).trans rfl, (blk_cell BK524.out 4).trans rfl, (blk_cell BK504.out 0).trans rfl, (blk_cell BK504.out 1).trans rfl, (blk_cell BK504.out 2).trans rfl⟩ (fun hHeld => ?_)
                clear hK K
                refine norm_ (a' := ?_) ?_ ?_
                rotate_left
                ·show Act.put _ (some 109) _ = _
                 simp only [Act.put, List.setIfInBounds_toArray, List.set_cons_zero, List.set_cons_succ, i64_w, i32_w]
                 rfl
                refine one_ (i := 27) (N := some 113) #[true, true, true, true, true, true, true, true, true, true, true, true, true, true, true, true, true, true, true, true, true, true, true, true, true, true, true, true, false, false] rfl rfl (one_of HT_.out (by kernel_rfl)) (by decide) (fun K hK => ?_)
                refine goes_ Try.func33 (by kernel_rfl) rfl #[.int .i64 ((rd_T45 y500 x45_1).f1), .int .u32 (rd y507 x60_2)] (by rfl) rfl rfl (by (try simp only [List.map_toArray, List.map_cons, List.map_nil]); first | done | rfl | (simp only [List.length_drop, List.length_take]; rfl)) ?_
                with_reducible refine (annealref1_Narrow.calls k2 ((rd_T45 y500 x45_1).f1) (rd y507 x60_2) t528 _ A57.out).mono ?_
                rintro e w63 ⟨rfl, hb⟩
                refine ⟨_, rfl, ?_⟩
                have n0_ := Aside0.mk (Kd.R_below (by (with_reducible repeat (first | apply Kd.R_alloc | apply Kd.R_drewN | apply Kd.R_drew)); exact HO_43.out) hb)
                have n1_ := Aside0.mk (Kd.R_below (by (with_reducible repeat (first | apply Kd.R_alloc | apply Kd.R_drewN | apply Kd.R_drew)); exact HO_58.out) hb)
                have n2_ := Aside0.mk (blk_below (g := gb504) (o := .cells #[.int .i64 ((rd_T45 y500 x45_1).f0), .int .i64 ((rd_T45 y500 x45_1).f1), .int .i64 ((rd_T45 y500 x45_1).f2)] 45 (0, 0)) (by (with_reducible repeat (first | refine blk_drewN ?_ _ | refine blk_drew ?_ | refine blk_alloc ?_ _)); exact BK504.out) hb)
                have n3_ := Aside0.mk (blk_below (g := gb517) (o := .cells #[.bool t512, .bool t513, .bool t514, .bool t515, .bool t516] 30 (0, 0)) (by (with_reducible repeat (first | refine blk_drewN ?_ _ | refine blk_drew ?_ | refine blk_alloc ?_ _)); exact BK517.out) hb)
                have n4_ := Aside0.mk (blk_below (g := gb524) (o := .cells #[.bool t519, .bool t520, .bool t521, .bool t522, .bool t523] 30 (0, 0)) (by (with_reducible repeat (first | refine blk_drewN ?_ _ | refine blk_drew ?_ | refine blk_alloc ?_ _)); exact BK524.out) hb)
                have n5_ := Aside0.mk (below_step (by repeat (first | (with_reducible first | exact HB.out | apply below_alloc | apply pw_below_drewN | apply below_drew1 | refine below_set ?_ GE504.out | refine below_set ?_ GE517.out | refine below_set ?_ GE524.out) | exact HB.out)) hb)
                clear HO_43
                clear HO_58
                clear BK504
                clear BK517
                clear BK524
                clear HB
                have HO_43 := n0_
                have HO_58 := n1_
                have BK504 := n2_
                have BK517 := n3_
                have BK524 := n4_
                have HB := n5_
                clear n0_ n1_ n2_ n3_ n4_ n5_
                (try clear hb)
                (try clear hb2)
                (try clear hk)
                (try clear hi)
                refine hK.out _ _ ⟨(blk_cell BK517.out 0).trans rfl, (blk_cell BK517.out 1).trans rfl, (blk_cell BK517.out 2).trans rfl, (blk_cell BK517.out 3).trans rfl, (blk_cell BK517.out 4).trans rfl, (blk_cell BK524.out 0).trans rfl, (blk_cell BK524.out 1).trans rfl, (blk_cell BK524.out 2).trans rfl, (blk_cell BK524.out 3).trans rfl, (blk_cell BK524.out 4).trans rfl, (blk_cell BK504.out 0).trans rfl, (blk_cell BK504.out 1).trans rfl, (blk_cell BK504.out 2).trans rfl⟩ (fun hHeld => ?_)
                clear hK K
                refine norm_ (a' := ?_) ?_ ?_
                rotate_left
                ·show Act.put _ (some 113) _ = _
                 simp only [Act.put, List.setIfInBounds_toArray, List.set_cons_zero, List.set_cons_succ, i64_w, i32_w]
                 rfl
                refine pure_ (i := 28) (N := some 114) (v := ?_) (a' := ?_) #[true, true, true, true, true, true, true, true, true, true, true, true, true, true, true, true, true, true, true, true, true, true, true, true, true, true, true, true, true, false] rfl rfl (any_of HT_.out (by kernel_rfl)) (fun _ _ _ h => h) (Or.inl ⟨by rfl, ?_⟩) ?_ ?_
                rotate_left
                ·intro w'
                 go_simp
                 with_reducible rfl
                rotate_left
                ·simp only [Act.put, List.setIfInBounds_toArray, List.set_cons_zero, List.set_cons_succ, i64_w, i32_w]
                 rfl
                refine pure_ (i := 29) (N := some 115) (v := ?_) (a' := ?_) #[true, true, true, true, true, true, true, true, true, true, true, true, true, true, true, true, true, true, true, true, true, true, true, true, true, true, true, true, true, true] rfl rfl (any_of HT_.out (by kernel_rfl)) (fun _ _ _ h => h) (Or.inl ⟨by rfl, ?_⟩) ?_ ?_
                rotate_left
                ·intro w'
                 go_simp
                 with_reducible rfl
                rotate_left
                ·simp only [Act.put, List.setIfInBounds_toArray, List.set_cons_zero, List.set_cons_succ, i64_w, i32_w]
                 rfl
                refine done_ (done_of HT_.out (by kernel_rfl)) ?_
                try go_wp2
                go_meet
                case rel => exact ⟨_, ((t527 != t528)), (by first | rfl | (simp; done) | (simp [*]; done) | (congr 1; (try unfold wrap64); omega) | (congr 1; rw [IntKind.wrap_u64]; omega)), H', ⟨by have := HK1.out; have := HK2.out; first | omega | exact Nat.le_refl _⟩, ⟨by (with_reducible repeat (first | apply Kd.R_alloc | apply Kd.R_drewN | apply Kd.R_drew)); exact HO_43.out⟩, ⟨by (with_reducible repeat (first | apply Kd.R_alloc | apply Kd.R_drewN | apply Kd.R_drew)); exact HO_58.out⟩, ⟨by (with_reducible repeat (first | refine blk_drewN ?_ _ | refine blk_drew ?_ | refine blk_alloc ?_ _)); exact BK504.out⟩, ⟨by (with_reducible repeat (first | refine blk_drewN ?_ _ | refine blk_drew ?_ | refine blk_alloc ?_ _)); exact BK517.out⟩, ⟨by (with_reducible repeat (first | refine blk_drewN ?_ _ | refine blk_drew ?_ | refine blk_alloc ?_ _)); exact BK524.out⟩, ⟨by repeat (first | (with_reducible first | exact HB.out | apply below_alloc | apply pw_below_drewN | apply below_drew1 | refine below_set ?_ GE504.out | refine below_set ?_ GE517.out | refine below_set ?_ GE524.out) | exact HB.out)⟩⟩
               ·rw [if_neg c55] at H
                have c55b0 : (t525 == t526) = false := beq_eq_false_iff_ne.mpr c55
                have c55b1 : (t525 != t526) = true := bne_iff_ne.mpr c55
                have H' := Aside0.mk H
                clear H
                try go_wp2
                have n0_ : Aside0 (Kd.R k45 45 (((((w45.setCell ⟨gb524, 0, none⟩ (.bool t519)).setCell ⟨gb524, 1, none⟩ (.bool t520)).setCell ⟨gb524, 2, none⟩ (.bool t521)).setCell ⟨gb524, 3, none⟩ (.bool t522)).setCell ⟨gb524, 4, none⟩ (.bool t523)) w.heap.size (fun k_ => k_ ≠ gb504) (.slice (some ad503) y500.length co18) y500) := ⟨by (with_reducible repeat (first | apply Kd.R_alloc | apply Kd.R_drewN | apply Kd.R_drew)); exact Kd.R_mono (Kd.R_far (p := ⟨gb524, 4, none⟩) (Kd.R_far (p := ⟨gb524, 3, none⟩) (Kd.R_far (p := ⟨gb524, 2, none⟩) (Kd.R_far (p := ⟨gb524, 1, none⟩) (Kd.R_far (p := ⟨gb524, 0, none⟩) (Kd.R_types HO_43.out BK524.out (by decide)) (fun _ hk => hk.2) (.bool t519)) (fun _ hk => hk.2) (.bool t520)) (fun _ hk => hk.2) (.bool t521)) (fun _ hk => hk.2) (.bool t522)) (fun _ hk => hk.2) (.bool t523)) (fun _ hk => hk.1)⟩
                have n1_ : Aside0 (Kd.R (Kd.int .u32) 28 (((((w45.setCell ⟨gb524, 0, none⟩ (.bool t519)).setCell ⟨gb524, 1, none⟩ (.bool t520)).setCell ⟨gb524, 2, none⟩ (.bool t521)).setCell ⟨gb524, 3, none⟩ (.bool t522)).setCell ⟨gb524, 4, none⟩ (.bool t523)) w.heap.size (fun _ => True) (.slice (some ad510) y507.length co31) y507) := ⟨by (with_reducible repeat (first | apply Kd.R_alloc | apply Kd.R_drewN | apply Kd.R_drew)); exact Kd.R_mono (Kd.R_far (p := ⟨gb524, 4, none⟩) (Kd.R_far (p := ⟨gb524, 3, none⟩) (Kd.R_far (p := ⟨gb524, 2, none⟩) (Kd.R_far (p := ⟨gb524, 1, none⟩) (Kd.R_far (p := ⟨gb524, 0, none⟩) (Kd.R_types HO_58.out BK524.out (by decide)) (fun _ hk => hk.2) (.bool t519)) (fun _ hk => hk.2) (.bool t520)) (fun _ hk => hk.2) (.bool t521)) (fun _ hk => hk.2) (.bool t522)) (fun _ hk => hk.2) (.bool t523)) (fun _ hk => trivial)⟩
                have n2_ : Aside0 ((((((w45.setCell ⟨gb524, 0, none⟩ (.bool t519)).setCell ⟨gb524, 1, none⟩ (.bool t520)).setCell ⟨gb524, 2, none⟩ (.bool t521)).setCell ⟨gb524, 3, none⟩ (.bool t522)).setCell ⟨gb524, 4, none⟩ (.bool t523)).heap[gb504]? = some (.cells #[.int .i64 ((rd_T45 y500 x45_1).f0), .int .i64 ((rd_T45 y500 x45_1).f1), .int .i64 ((rd_T45 y500 x45_1).f2)] 45 (0, 0))) := ⟨by (with_reducible repeat (first | refine blk_drewN ?_ _ | refine blk_drew ?_ | refine blk_alloc ?_ _)); refine blk_far ?_ NB504_524.out _; (with_reducible repeat (first | refine blk_drewN ?_ _ | refine blk_drew ?_ | refine blk_alloc ?_ _)); refine blk_far ?_ NB504_524.out _; (with_reducible repeat (first | refine blk_drewN ?_ _ | refine blk_drew ?_ | refine blk_alloc ?_ _)); refine blk_far ?_ NB504_524.out _; (with_reducible repeat (first | refine blk_drewN ?_ _ | refine blk_drew ?_ | refine blk_alloc ?_ _)); refine blk_far ?_ NB504_524.out _; (with_reducible repeat (first | refine blk_drewN ?_ _ | refine blk_drew ?_ | refine blk_alloc ?_ _)); refine blk_far ?_ NB504_524.out _; (with_reducible repeat (first | refine blk_drewN ?_ _ | refine blk_drew ?_ | refine blk_alloc ?_ _)); exact BK504.out⟩
                have n3_ : Aside0 ((((((w45.setCell ⟨gb524, 0, none⟩ (.bool t519)).setCell ⟨gb524, 1, none⟩ (.bool t520)).setCell ⟨gb524, 2, none⟩ (.bool t521)).setCell ⟨gb524, 3, none⟩ (.bool t522)).setCell ⟨gb524, 4, none⟩ (.bool t523)).heap[gb517]? = some (.cells #[.bool t512, .bool t513, .bool t514, .bool t515, .bool t516] 30 (0, 0))) := ⟨by (with_reducible repeat (first | refine blk_drewN ?_ _ | refine blk_drew ?_ | refine blk_alloc ?_ _)); refine blk_far ?_ NB517_524.out _; (with_reducible repeat (first | refine blk_drewN ?_ _ | refine blk_drew ?_ | refine blk_alloc ?_ _)); refine blk_far ?_ NB517_524.out _; (with_reducible repeat (first | refine blk_drewN ?_ _ | refine blk_drew ?_ | refine blk_alloc ?_ _)); refine blk_far ?_ NB517_524.out _; (with_reducible repeat (first | refine blk_drewN ?_ _ | refine blk_drew ?_ | refine blk_alloc ?_ _)); refine blk_far ?_ NB517_524.out _; (with_reducible repeat (first | refine blk_drewN ?_ _ | refine blk_drew ?_ | refine blk_alloc ?_ _)); refine blk_far ?_ NB517_524.out _; (with_reducible repeat (first | refine blk_drewN ?_ _ | refine blk_drew ?_ | refine blk_alloc ?_ _)); exact BK517.out⟩
                have n4_ : Aside0 ((((((w45.setCell ⟨gb524, 0, none⟩ (.bool t519)).setCell ⟨gb524, 1, none⟩ (.bool t520)).setCell ⟨gb524, 2, none⟩ (.bool t521)).setCell ⟨gb524, 3, none⟩ (.bool t522)).setCell ⟨gb524, 4, none⟩ (.bool t523)).heap[gb524]? = some (.cells #[.bool t519, .bool t520, .bool t521, .bool t522, .bool t523] 30 (0, 0))) := ⟨by (with_reducible repeat (first | refine blk_drewN ?_ _ | refine blk_drew ?_ | refine blk_alloc ?_ _)); refine blk_put (cs := #[.bool t519, .bool t520, .bool t521, .bool t522, .bool false]) ?_ 4 _ rfl; (with_reducible repeat (first | refine blk_drewN ?_ _ | refine blk_drew ?_ | refine blk_alloc ?_ _)); refine blk_put (cs := #[.bool t519, .bool t520, .bool t521, .bool false, .bool false]) ?_ 3 _ rfl; (with_reducible repeat (first | refine blk_drewN ?_ _ | refine blk_drew ?_ | refine blk_alloc ?_ _)); refine blk_put (cs := #[.bool t519, .bool t520, .bool false, .bool false, .bool false]) ?_ 2 _ rfl; (with_reducible repeat (first | refine blk_drewN ?_ _ | refine blk_drew ?_ | refine blk_alloc ?_ _)); refine blk_put (cs := #[.bool t519, .bool false, .bool false, .bool false, .bool false]) ?_ 1 _ rfl; (with_reducible repeat (first | refine blk_drewN ?_ _ | refine blk_drew ?_ | refine blk_alloc ?_ _)); refine blk_put (cs := #[.bool false, .bool false, .bool false, .bool false, .bool false]) ?_ 0 _ rfl; (with_reducible repeat (first | refine blk_drewN ?_ _ | refine blk_drew ?_ | refine blk_alloc ?_ _)); exact BK524.out⟩
                have n5_ : Aside0 (Below w.heap.size w (((((w45.setCell ⟨gb524, 0, none⟩ (.bool t519)).setCell ⟨gb524, 1, none⟩ (.bool t520)).setCell ⟨gb524, 2, none⟩ (.bool t521)).setCell ⟨gb524, 3, none⟩ (.bool t522)).setCell ⟨gb524, 4, none⟩ (.bool t523))) := ⟨by repeat (first | (with_reducible first | exact HB.out | apply below_alloc | apply pw_below_drewN | apply below_drew1 | refine below_set ?_ GE504.out | refine below_set ?_ GE517.out | refine below_set ?_ GE524.out) | exact HB.out)⟩
                (try clear HO_43)
                (try clear HO_58)
                (try clear BK504)
                (try clear BK517)
                (try clear BK524)
                (try clear HB)
                generalize (((((w45.setCell ⟨gb524, 0, none⟩ (.bool t519)).setCell ⟨gb524, 1, none⟩ (.bool t520)).setCell ⟨gb524, 2, none⟩ (.bool t521)).setCell ⟨gb524, 3, none⟩ (.bool t522)).setCell ⟨gb524, 4, none⟩ (.bool t523)) = w64 at n0_ n1_ n2_ n3_ n4_ n5_ ⊢
                have HO_43 := n0_
                have HO_58 := n1_
                have BK504 := n2_
                have BK517 := n3_
                have BK524 := n4_
                have HB := n5_
                clear n0_ n1_ n2_ n3_ n4_ n5_
                have n0_ := Aside0.mk (Kd.R_drew HO_43.out)
                have n1_ := Aside0.mk (Kd.R_drew HO_58.out)
                have n2_ := Aside0.mk (blk_drew BK504.out)
                have n3_ := Aside0.mk (blk_drew BK517.out)
                have n4_ := Aside0.mk (blk_drew BK524.out)
                have n5_ := Aside0.mk (below_drew1 HB.out)
                clear HO_43
                clear HO_58
                clear BK504
                clear BK517
                clear BK524
                clear HB
                have HO_43 := n0_
                have HO_58 := n1_
                have BK504 := n2_
                have BK517 := n3_
                have BK524 := n4_
                have HB := n5_
                clear n0_ n1_ n2_ n3_ n4_ n5_
                refine start_ (n := 30) (S := fun w' => w'.cell? ⟨gb517, 0, none⟩ = some (.bool t512) ∧ w'.cell? ⟨gb517, 1, none⟩ = some (.bool t513) ∧ w'.cell? ⟨gb517, 2, none⟩ = some (.bool t514) ∧ w'.cell? ⟨gb517, 3, none⟩ = some (.bool t515) ∧ w'.cell? ⟨gb517, 4, none⟩ = some (.bool t516) ∧ w'.cell? ⟨gb524, 0, none⟩ = some (.bool t519) ∧ w'.cell? ⟨gb524, 1, none⟩ = some (.bool t520) ∧ w'.cell? ⟨gb524, 2, none⟩ = some (.bool t521) ∧ w'.cell? ⟨gb524, 3, none⟩ = some (.bool t522) ∧ w'.cell? ⟨gb524, 4, none⟩ = some (.bool t523) ∧ w'.cell? ⟨gb504, 0, none⟩ = some (.int .i64 ((rd_T45 y500 x45_1).f0)) ∧ w'.cell? ⟨gb504, 1, none⟩ = some (.int .i64 ((rd_T45 y500 x45_1).f1)) ∧ w'.cell? ⟨gb504, 2, none⟩ = some (.int .i64 ((rd_T45 y500 x45_1).f2))) (ds := []) #[false, false, false, false, false, false, false, false, false, false, false, false, false, false, false, false, false, false, false, false, false, false, false, false, false, false, false, false, false, false] (by kernel_rfl) rfl rfl ⟨(blk_cell BK517.out 0).trans rfl, (blk_cell BK517.out 1).trans rfl, (blk_cell BK517.out 2).trans rfl, (blk_cell BK517.out 3).trans rfl, (blk_cell BK517.out 4).trans rfl, (blk_cell BK524.out 0).trans rfl, (blk_cell BK524.out 1).trans rfl, (blk_cell BK524.out 2).trans rfl, (blk_cell BK524.out 3).trans rfl, (blk_cell BK524.out 4).trans rfl, (blk_cell BK504.out 0).trans rfl, (blk_cell BK504.out 1).trans rfl, (blk_cell BK504.out 2).trans rfl⟩ (fun hHeld => ?_); refine with_tabW anneallaw9_ConvTells.tab11 anneallaw9_ConvTells.bits11 (fun HT_ HW_ => ?_)
                generalize w64.drew = w65 at HO_43 HO_58 BK504 BK517 BK524 HB hHeld ⊢
                refine pure_ (i := 0) (N := some 86) (v := ?_) (a' := ?_) #[true, false, false, false, false, false, false, false, false, false, false, false, false, false, false, false, false, false, false, false, false, false, false, false, false, false, false, false, false, false] rfl rfl (any_of HT_.out (by kernel_rfl)) (fun _ _ _ h => h) (Or.inl ⟨by rfl, ?_⟩) ?_ ?_
                rotate_left
                ·intro w'
                 go_simp
                 with_reducible rfl
                rotate_left
                ·simp only [Act.put, List.setIfInBounds_toArray, List.set_cons_zero, List.set_cons_succ, i64_w, i32_w]
                 rfl
                refine pure_ (i := 1) (N := some 87) (v := ?_) (a' := ?_) #[true, true, false, false, false, false, false, false, false, false, false, false, false, false, false, false, false, false, false, false, false, false, false, false, false, false, false, false, false, false] rfl rfl (any_of HT_.out (by kernel_rfl)) (fun _ _ _ h => h) (Or.inl ⟨by rfl, ?_⟩) ?_ ?_
                rotate_left
                ·intro w'
                 go_simp
                 with_reducible rfl
                rotate_left
                ·simp only [Act.put, List.setIfInBounds_toArray, List.set_cons_zero, List.set_cons_succ, i64_w, i32_w]
                 rfl
                refine pure_ (i := 2) (N := some 88) (v := ?_) (a' := ?_) #[true, true, true, false, false, false, false, false, false, false, false, false, false, false, false, false, false, false, false, false, false, false, false, false, false, false, false, false, false, false] rfl rfl (any_of HT_.out (by kernel_rfl)) (fun _ _ _ h => h) (Or.inl ⟨by rfl, ?_⟩) ?_ ?_
                rotate_left
                ·intro w'
                 go_simp
                 with_reducible rfl
                rotate_left
                ·simp only [Act.put, List.setIfInBounds_toArray, List.set_cons_zero, List.set_cons_succ, i64_w, i32_w]
                 rfl
                refine pure_ (i := 3) (N := some 89) (v := ?_) (a' := ?_) #[true, true, true, true, false, false, false, false, false, false, false, false, false, false, false, false, false, false, false, false, false, false, false, false, false, false, false, false, false, false] rfl rfl (any_of HT_.out (by kernel_rfl)) (fun _ _ _ h => h) (Or.inl ⟨by rfl, ?_⟩) ?_ ?_
                rotate_left
                ·intro w'
                 go_simp
                 with_reducible rfl
                rotate_left
                ·simp only [Act.put, List.setIfInBounds_toArray, List.set_cons_zero, List.set_cons_succ, i64_w, i32_w]
                 rfl
                refine take_ (i := 4) (N := some 90) (v := ?_) (a' := ?_) #[true, true, true, true, true, false, false, false, false, false, false, false, false, false, false, false, false, false, false, false, false, false, false, false, false, false, false, false, false, false] rfl rfl (take_ofW HT_.out HW_.out (by kernel_rfl)) (fun _ _ _ h => h) (Or.inl ⟨by rfl, ?_⟩) hHeld ?_ ?_
                rotate_left
                ·rintro w' ⟨s0, s1, s2, s3, s4, s5, s6, s7, s8, s9, s10, s11, s12⟩
                 go_simp
                 with_reducible rfl
                rotate_left
                ·simp only [Act.put, List.setIfInBounds_toArray, List.set_cons_zero, List.set_cons_succ, i64_w, i32_w]
                 rfl
                refine take_ (i := 5) (N := some 91) (v := ?_) (a' := ?_) #[true, true, true, true, true, true, false, false, false, false, false, false, false, false, false, false, false, false, false, false, false, false, false, false, false, false, false, false, false, false] rfl rfl (take_ofW HT_.out HW_.out (by kernel_rfl)) (fun _ _ _ h => h) (Or.inl ⟨by rfl, ?_⟩) hHeld ?_ ?_
                rotate_left
                ·rintro w' ⟨s0, s1, s2, s3, s4, s5, s6, s7, s8, s9, s10, s11, s12⟩
                 go_simp
                 with_reducible rfl
                rotate_left
                ·simp only [Act.put, List.setIfInBounds_toArray, List.set_cons_zero, List.set_cons_succ, i64_w, i32_w]
                 rfl
                refine pure_ (i := 6) (N := some 92) (v := ?_) (a' := ?_) #[true, true, true, true, true, true, true, false, false, false, false, false, false, false, false, false, false, false, false, false, false, false, false, false, false, false, false, false, false, false] rfl rfl (any_of HT_.out (by kernel_rfl)) (fun _ _ _ h => h) (Or.inl ⟨by rfl, ?_⟩) ?_ ?_
                rotate_left
                ·intro w'
                 go_simp
                 with_reducible rfl
                rotate_left
                ·simp only [Act.put, List.setIfInBounds_toArray, List.set_cons_zero, List.set_cons_succ, i64_w, i32_w]
                 rfl
                refine pure_ (i := 7) (N := some 93) (v := ?_) (a' := ?_) #[true, true, true, true, true, true, true, true, false, false, false, false, false, false, false, false, false, false, false, false, false, false, false, false, false, false, false, false, false, false] rfl rfl (any_of HT_.out (by kernel_rfl)) (fun _ _ _ h => h) (Or.inl ⟨by rfl, ?_⟩) ?_ ?_
                rotate_left
                ·intro w'
                 go_simp
                 with_reducible rfl
                rotate_left
                ·simp only [Act.put, List.setIfInBounds_toArray, List.set_cons_zero, List.set_cons_succ, i64_w, i32_w]
                 rfl
                refine pure_ (i := 8) (N := some 94) (v := ?_) (a' := ?_) #[true, true, true, true, true, true, true, true, true, false, false, false, false, false, false, false, false, false, false, false, false, false, false, false, false, false, false, false, false, false] rfl rfl (any_of HT_.out (by kernel_rfl)) (fun _ _ _ h => h) (Or.inl ⟨by rfl, ?_⟩) ?_ ?_
                rotate_left
                ·intro w'
                 go_simp
                 with_reducible rfl
                rotate_left
                ·simp only [Act.put, List.setIfInBounds_toArray, List.set_cons_zero, List.set_cons_succ, i64_w, i32_w]
                 rfl
                refine pure_ (i := 9) (N := some 95) (v := ?_) (a' := ?_) #[true, true, true, true, true, true, true, true, true, true, false, false, false, false, false, false, false, false, false, false, false, false, false, false, false, false, false, false, false, false] rfl rfl (any_of HT_.out (by kernel_rfl)) (fun _ _ _ h => h) (Or.inl ⟨by rfl, ?_⟩) ?_ ?_
                rotate_left
                ·intro w'
                 go_simp
                 with_reducible rfl
                rotate_left
                ·simp only [Act.put, List.setIfInBounds_toArray, List.set_cons_zero, List.set_cons_succ, i64_w, i32_w]
                 rfl
                refine pure_ (i := 11) (N := some 97) (v := ?_) (a' := ?_) #[true, true, true, true, true, true, true, true, true, true, false, true, false, false, false, false, false, false, false, false, false, false, false, false, false, false, false, false, false, false] rfl rfl (any_of HT_.out (by kernel_rfl)) (fun _ _ _ h => h) (Or.inl ⟨by rfl, ?_⟩) ?_ ?_
                rotate_left
                ·intro w'
                 go_simp
                 with_reducible rfl
                rotate_left
                ·simp only [Act.put, List.setIfInBounds_toArray, List.set_cons_zero, List.set_cons_succ, i64_w, i32_w]
                 rfl
                refine pure_ (i := 13) (N := some 99) (v := ?_) (a' := ?_) #[true, true, true, true, true, true, true, true, true, true, false, true, false, true, false, false, false, false, false, false, false, false, false, false, false, false, false, false, false, false] rfl rfl (any_of HT_.out (by kernel_rfl)) (fun _ _ _ h => h) (Or.inl ⟨by rfl, ?_⟩) ?_ ?_
                rotate_left
                ·intro w'
                 go_simp
                 with_reducible rfl
                rotate_left
                ·simp only [Act.put, List.setIfInBounds_toArray, List.set_cons_zero, List.set_cons_succ, i64_w, i32_w]
                 rfl
                refine pure_ (i := 15) (N := some 101) (v := ?_) (a' := ?_) #[true, true, true, true, true, true, true, true, true, true, false, true, false, true, false, true, false, false, false, false, false, false, false, false, false, false, false, false, false, false] rfl rfl (any_of HT_.out (by kernel_rfl)) (fun _ _ _ h => h) (Or.inl ⟨by rfl, ?_⟩) ?_ ?_
                rotate_left
                ·intro w'
                 go_simp
                 with_reducible rfl
                rotate_left
                ·simp only [Act.put, List.setIfInBounds_toArray, List.set_cons_zero, List.set_cons_succ, i64_w, i32_w]
                 rfl
                refine take_ (i := 10) (N := some 96) (v := ?_) (a' := ?_) #[true, true, true, true, true, true, true, true, true, true, true, true, false, true, false, true, false, false, false, false, false, false, false, false, false, false, false, false, false, false] rfl rfl (take_ofW HT_.out HW_.out (by kernel_rfl)) (fun _ _ _ h => h) (Or.inl ⟨by rfl, ?_⟩) hHeld ?_ ?_
                rotate_left
                ·rintro w' ⟨s0, s1, s2, s3, s4, s5, s6, s7, s8, s9, s10, s11, s12⟩
                 go_simp
                 with_reducible rfl
                rotate_left
                ·simp only [Act.put, List.setIfInBounds_toArray, List.set_cons_zero, List.set_cons_succ, i64_w, i32_w]
                 rfl
                refine take_ (i := 14) (N := some 100) (v := ?_) (a' := ?_) #[true, true, true, true, true, true, true, true, true, true, true, true, false, true, true, true, false, false, false, false, false, false, false, false, false, false, false, false, false, false] rfl rfl (take_ofW HT_.out HW_.out (by kernel_rfl)) (fun _ _ _ h => h) (Or.inl ⟨by rfl, ?_⟩) hHeld ?_ ?_
                rotate_left
                ·rintro w' ⟨s0, s1, s2, s3, s4, s5, s6, s7, s8, s9, s10, s11, s12⟩
                 go_simp
                 with_reducible rfl
                rotate_left
                ·simp only [Act.put, List.setIfInBounds_toArray, List.set_cons_zero, List.set_cons_succ, i64_w, i32_w]
                 rfl
                refine one_ (i := 12) (N := some 98) #[true, true, true, true, true, true, true, true, true, true, true, true, true, true, true, true, false, false, false, false, false, false, false, false, false, false, false, false, false, false] rfl rfl (one_of HT_.out (by kernel_rfl)) (by decide) (fun K hK => ?_)
                refine goes_ Try.func30 (by kernel_rfl) rfl #[.int .i64 ((rd_T45 y500 x45_1).f0), .int .u32 (rd y507 x60_2)] (by rfl) rfl rfl (by (try simp only [List.map_toArray, List.map_cons, List.map_nil]); first | done | rfl | (simp only [List.length_drop, List.length_take]; rfl)) ?_
                with_reducible refine (conv_Widen.calls k2 ((rd_T45 y500 x45_1).f0) (rd y507 x60_2) t525 _ A53.out).mono ?_
                rintro e w66 ⟨rfl, hb⟩
                refine ⟨_, rfl, ?_⟩
                have n0_ := Aside0.mk (Kd.R_below (by (with_reducible repeat (first | apply Kd.R_alloc | apply Kd.R_drewN | apply Kd.R_drew)); exact HO_43.out) hb)
                have n1_ := Aside0.mk (Kd.R_below (by (with_reducible repeat (first | apply Kd.R_alloc | apply Kd.R_drewN | apply Kd.R_drew)); exact HO_58.out) hb)
                have n2_ := Aside0.mk (blk_below (g := gb504) (o := .cells #[.int .i64 ((rd_T45 y500 x45_1).f0), .int .i64 ((rd_T45 y500 x45_1).f1), .int .i64 ((rd_T45 y500 x45_1).f2)] 45 (0, 0)) (by (with_reducible repeat (first | refine blk_drewN ?_ _ | refine blk_drew ?_ | refine blk_alloc ?_ _)); exact BK504.out) hb)
                have n3_ := Aside0.mk (blk_below (g := gb517) (o := .cells #[.bool t512, .bool t513, .bool t514, .bool t515, .bool t516] 30 (0, 0)) (by (with_reducible repeat (first | refine blk_drewN ?_ _ | refine blk_drew ?_ | refine blk_alloc ?_ _)); exact BK517.out) hb)
                have n4_ := Aside0.mk (blk_below (g := gb524) (o := .cells #[.bool t519, .bool t520, .bool t521, .bool t522, .bool t523] 30 (0, 0)) (by (with_reducible repeat (first | refine blk_drewN ?_ _ | refine blk_drew ?_ | refine blk_alloc ?_ _)); exact BK524.out) hb)
                have n5_ := Aside0.mk (below_step (by repeat (first | (with_reducible first | exact HB.out | apply below_alloc | apply pw_below_drewN | apply below_drew1 | refine below_set ?_ GE504.out | refine below_set ?_ GE517.out | refine below_set ?_ GE524.out) | exact HB.out)) hb)
                clear HO_43
                clear HO_58
                clear BK504
                clear BK517
                clear BK524
                clear HB
                have HO_43 := n0_
                have HO_58 := n1_
                have BK504 := n2_
                have BK517 := n3_
                have BK524 := n4_
                have HB := n5_
                clear n0_ n1_ n2_ n3_ n4_ n5_
                (try clear hb)
                (try clear hb2)
                (try clear hk)
                (try clear hi)
                refine hK.out _ _ ⟨(blk_cell BK517.out 0).trans rfl, (blk_cell BK517.out 1).trans rfl, (blk_cell BK517.out 2).trans rfl, (blk_cell BK517.out 3).trans rfl, (blk_cell BK517.out 4).trans rfl, (blk_cell BK524.out 0).trans rfl, (blk_cell BK524.out 1).trans rfl, (blk_cell BK524.out 2).trans rfl, (blk_cell BK524.out 3).trans rfl, (blk_cell BK524.out 4).trans rfl, (blk_cell BK504.out 0).trans rfl, (blk_cell BK504.out 1).trans rfl, (blk_cell BK504.out 2).trans rfl⟩ (fun hHeld => ?_)
                clear hK K
                refine norm_ (a' := ?_) ?_ ?_
                rotate_left
                ·show Act.put _ (some 98) _ = _
                 simp only [Act.put, List.setIfInBounds_toArray, List.set_cons_zero, List.set_cons_succ, i64_w, i32_w]
                 rfl
                refine one_ (i := 16) (N := some 102) #[true, true, true, true, true, true, true, true, true, true, true, true, true, true, true, true, true, false, false, false, false, false, false, false, false, false, false, false, false, false] rfl rfl (one_of HT_.out (by kernel_rfl)) (by decide) (fun K hK => ?_)
                refine goes_ Try.func31 (by kernel_rfl) rfl #[.int .i64 ((rd_T45 y500 x45_1).f0), .int .u32 (rd y507 x60_2)] (by rfl) rfl rfl (by (try simp only [List.map_toArray, List.map_cons, List.map_nil]); first | done | rfl | (simp only [List.length_drop, List.length_take]; rfl)) ?_
                with_reducible refine (annealref1_Widen.calls k2 ((rd_T45 y500 x45_1).f0) (rd y507 x60_2) t526 _ A54.out).mono ?_
                rintro e w67 ⟨rfl, hb⟩
                refine ⟨_, rfl, ?_⟩
                have n0_ := Aside0.mk (Kd.R_below (by (with_reducible repeat (first | apply Kd.R_alloc | apply Kd.R_drewN | apply Kd.R_drew)); exact HO_43.out) hb)
                have n1_ := Aside0.mk (Kd.R_below (by (with_reducible repeat (first | apply Kd.R_alloc | apply Kd.R_drewN | apply Kd.R_drew)); exact HO_58.out) hb)
                have n2_ := Aside0.mk (blk_below (g := gb504) (o := .cells #[.int .i64 ((rd_T45 y500 x45_1).f0), .int .i64 ((rd_T45 y500 x45_1).f1), .int .i64 ((rd_T45 y500 x45_1).f2)] 45 (0, 0)) (by (with_reducible repeat (first | refine blk_drewN ?_ _ | refine blk_drew ?_ | refine blk_alloc ?_ _)); exact BK504.out) hb)
                have n3_ := Aside0.mk (blk_below (g := gb517) (o := .cells #[.bool t512, .bool t513, .bool t514, .bool t515, .bool t516] 30 (0, 0)) (by (with_reducible repeat (first | refine blk_drewN ?_ _ | refine blk_drew ?_ | refine blk_alloc ?_ _)); exact BK517.out) hb)
                have n4_ := Aside0.mk (blk_below (g := gb524) (o := .cells #[.bool t519, .bool t520, .bool t521, .bool t522, .bool t523] 30 (0, 0)) (by (with_reducible repeat (first | refine blk_drewN ?_ _ | refine blk_drew ?_ | refine blk_alloc ?_ _)); exact BK524.out) hb)
                have n5_ := Aside0.mk (below_step (by repeat (first | (with_reducible first | exact HB.out | apply below_alloc | apply pw_below_drewN | apply below_drew1 | refine below_set ?_ GE504.out | refine below_set ?_ GE517.out | refine below_set ?_ GE524.out) | exact HB.out)) hb)
                clear HO_43
                clear HO_58
                clear BK504
                clear BK517
                clear BK524
                clear HB
                have HO_43 := n0_
                have HO_58 := n1_
                have BK504 := n2_
                have BK517 := n3_
                have BK524 := n4_
                have HB := n5_
                clear n0_ n1_ n2_ n3_ n4_ n5_
                (try clear hb)
                (try clear hb2)
                (try clear hk)
                (try clear hi)
                refine hK.out _ _ ⟨(blk_cell BK517.out 0).trans rfl, (blk_cell BK517.out 1).trans rfl, (blk_cell BK517.out 2).trans rfl, (blk_cell BK517.out 3).trans rfl, (blk_cell BK517.out 4).trans rfl, (blk_cell BK524.out 0).trans rfl, (blk_cell BK524.out 1).trans rfl, (blk_cell BK524.out 2).trans rfl, (blk_cell BK524.out 3).trans rfl, (blk_cell BK524.out 4).trans rfl, (blk_cell BK504.out 0).trans rfl, (blk_cell BK504.out 1).trans rfl, (blk_cell BK504.out 2).trans rfl⟩ (fun hHeld => ?_)
                clear hK K
                refine norm_ (a' := ?_) ?_ ?_
                rotate_left
                ·show Act.put _ (some 102) _ = _
                 simp only [Act.put, List.setIfInBounds_toArray, List.set_cons_zero, List.set_cons_succ, i64_w, i32_w]
                 rfl
                refine pure_ (i := 17) (N := some 103) (v := ?_) (a' := ?_) #[true, true, true, true, true, true, true, true, true, true, true, true, true, true, true, true, true, true, false, false, false, false, false, false, false, false, false, false, false, false] rfl rfl (any_of HT_.out (by kernel_rfl)) (fun _ _ _ h => h) (Or.inl ⟨by rfl, ?_⟩) ?_ ?_
                rotate_left
                ·intro w'
                 go_simp
                 with_reducible rfl
                rotate_left
                ·simp only [Act.put, List.setIfInBounds_toArray, List.set_cons_zero, List.set_cons_succ, i64_w, i32_w]
                 rfl
                refine pure_ (i := 18) (N := some 104) (v := ?_) (a' := ?_) #[true, true, true, true, true, true, true, true, true, true, true, true, true, true, true, true, true, true, true, false, false, false, false, false, false, false, false, false, false, false] rfl rfl (any_of HT_.out (by kernel_rfl)) (fun _ _ _ h => h) (Or.inl ⟨by rfl, ?_⟩) ?_ ?_
                rotate_left
                ·intro w'
                 go_simp
                 with_reducible rfl
                rotate_left
                ·simp only [Act.put, List.setIfInBounds_toArray, List.set_cons_zero, List.set_cons_succ, i64_w, i32_w]
                 rfl
                refine pure_ (i := 19) (N := some 105) (v := ?_) (a' := ?_) #[true, true, true, true, true, true, true, true, true, true, true, true, true, true, true, true, true, true, true, true, false, false, false, false, false, false, false, false, false, false] rfl rfl (any_of HT_.out (by kernel_rfl)) (fun _ _ _ h => h) (Or.inl ⟨by rfl, ?_⟩) ?_ ?_
                rotate_left
                ·intro w'
                 go_simp
                 with_reducible rfl
                rotate_left
                ·simp only [Act.put, List.setIfInBounds_toArray, List.set_cons_zero, List.set_cons_succ, i64_w, i32_w]
                 rfl
                refine pure_ (i := 20) (N := some 106) (v := undef) (a' := ?_) #[true, true, true, true, true, true, true, true, true, true, true, true, true, true, true, true, true, true, true, true, true, false, false, false, false, false, false, false, false, false] rfl rfl (any_of HT_.out (by kernel_rfl)) (fun _ _ _ h => h) (Or.inr ⟨by rfl, rfl⟩) ?_ ?_
                rotate_left
                ·simp only [Act.put, List.setIfInBounds_toArray, List.set_cons_zero, List.set_cons_succ, i64_w, i32_w]
                 rfl
                refine pure_ (i := 21) (N := some 107) (v := undef) (a' := ?_) #[true, true, true, true, true, true, true, true, true, true, true, true, true, true, true, true, true, true, true, true, true, true, false, false, false, false, false, false, false, false] rfl rfl (any_of HT_.out (by kernel_rfl)) (fun _ _ _ h => h) (Or.inr ⟨by rfl, rfl⟩) ?_ ?_
                rotate_left
                ·simp only [Act.put, List.setIfInBounds_toArray, List.set_cons_zero, List.set_cons_succ, i64_w, i32_w]
                 rfl
                refine pure_ (i := 22) (N := some 108) (v := undef) (a' := ?_) #[true, true, true, true, true, true, true, true, true, true, true, true, true, true, true, true, true, true, true, true, true, true, true, false, false, false, false, false, false, false] rfl rfl (any_of HT_.out (by kernel_rfl)) (fun _ _ _ h => h) (Or.inr ⟨by rfl, rfl⟩) ?_ ?_
                rotate_left
                ·simp only [Act.put, List.setIfInBounds_toArray, List.set_cons_zero, List.set_cons_succ, i64_w, i32_w]
                 rfl
                refine pure_ (i := 23) (N := some 109) (v := undef) (a' := ?_) #[true, true, true, true, true, true, true, true, true, true, true, true, true, true, true, true, true, true, true, true, true, true, true, true, false, false, false, false, false, false] rfl rfl (any_of HT_.out (by kernel_rfl)) (fun _ _ _ h => h) (Or.inr ⟨by rfl, rfl⟩) ?_ ?_
                rotate_left
                ·simp only [Act.put, List.setIfInBounds_toArray, List.set_cons_zero, List.set_cons_succ, i64_w, i32_w]
                 rfl
                refine pure_ (i := 24) (N := some 110) (v := undef) (a' := ?_) #[true, true, true, true, true, true, true, true, true, true, true, true, true, true, true, true, true, true, true, true, true, true, true, true, true, false, false, false, false, false] rfl rfl (any_of HT_.out (by kernel_rfl)) (fun _ _ _ h => h) (Or.inr ⟨by rfl, rfl⟩) ?_ ?_
                rotate_left
                ·simp only [Act.put, List.setIfInBounds_toArray, List.set_cons_zero, List.set_cons_succ, i64_w, i32_w]
                 rfl
                refine pure_ (i := 25) (N := some 111) (v := undef) (a' := ?_) #[true, true, true, true, true, true, true, true, true, true, true, true, true, true, true, true, true, true, true, true, true, true, true, true, true, true, false, false, false, false] rfl rfl (any_of HT_.out (by kernel_rfl)) (fun _ _ _ h => h) (Or.inr ⟨by rfl, rfl⟩) ?_ ?_
                rotate_left
                ·simp only [Act.put, List.setIfInBounds_toArray, List.set_cons_zero, List.set_cons_succ, i64_w, i32_w]
                 rfl
                refine pure_ (i := 26) (N := some 112) (v := undef) (a' := ?_) #[true, true, true, true, true, true, true, true, true, true, true, true, true, true, true, true, true, true, true, true, true, true, true, true, true, true, true, false, false, false] rfl rfl (any_of HT_.out (by kernel_rfl)) (fun _ _ _ h => h) (Or.inr ⟨by rfl, rfl⟩) ?_ ?_
                rotate_left
                ·simp only [Act.put, List.setIfInBounds_toArray, List.set_cons_zero, List.set_cons_succ, i64_w, i32_w]
                 rfl
                refine pure_ (i := 27) (N := some 113) (v := undef) (a' := ?_) #[true, true, true, true, true, true, true, true, true, true, true, true, true, true, true, true, true, true, true, true, true, true, true, true, true, true, true, true, false, false] rfl rfl (any_of HT_.out (by kernel_rfl)) (fun _ _ _ h => h) (Or.inr ⟨by rfl, rfl⟩) ?_ ?_
                rotate_left
                ·simp only [Act.put, List.setIfInBounds_toArray, List.set_cons_zero, List.set_cons_succ, i64_w, i32_w]
                 rfl
                refine pure_ (i := 28) (N := some 114) (v := undef) (a' := ?_) #[true, true, true, true, true, true, true, true, true, true, true, true, true, true, true, true, true, true, true, true, true, true, true, true, true, true, true, true, true, false] rfl rfl (any_of HT_.out (by kernel_rfl)) (fun _ _ _ h => h) (Or.inr ⟨by rfl, rfl⟩) ?_ ?_
                rotate_left
                ·simp only [Act.put, List.setIfInBounds_toArray, List.set_cons_zero, List.set_cons_succ, i64_w, i32_w]
                 rfl
                refine pure_ (i := 29) (N := some 115) (v := ?_) (a' := ?_) #[true, true, true, true, true, true, true, true, true, true, true, true, true, true, true, true, true, true, true, true, true, true, true, true, true, true, true, true, true, true] rfl rfl (any_of HT_.out (by kernel_rfl)) (fun _ _ _ h => h) (Or.inl ⟨by rfl, ?_⟩) ?_ ?_
                rotate_left
                ·intro w'
                 go_simp
                 with_reducible rfl
                rotate_left
                ·simp only [Act.put, List.setIfInBounds_toArray, List.set_cons_zero, List.set_cons_succ, i64_w, i32_w]
                 rfl
                refine done_ (done_of HT_.out (by kernel_rfl)) ?_
                try go_wp2
                go_meet
                case rel => exact ⟨_, (true), (by first | rfl | (simp; done) | (simp [*]; done) | (congr 1; (try unfold wrap64); omega) | (congr 1; rw [IntKind.wrap_u64]; omega)), H', ⟨by have := HK1.out; have := HK2.out; first | omega | exact Nat.le_refl _⟩, ⟨by (with_reducible repeat (first | apply Kd.R_alloc | apply Kd.R_drewN | apply Kd.R_drew)); exact HO_43.out⟩, ⟨by (with_reducible repeat (first | apply Kd.R_alloc | apply Kd.R_drewN | apply Kd.R_drew)); exact HO_58.out⟩, ⟨by (with_reducible repeat (first | refine blk_drewN ?_ _ | refine blk_drew ?_ | refine blk_alloc ?_ _)); exact BK504.out⟩, ⟨by (with_reducible repeat (first | refine blk_drewN ?_ _ | refine blk_drew ?_ | refine blk_alloc ?_ _)); exact BK517.out⟩, ⟨by (with_reducible repeat (first | refine blk_drewN ?_ _ | refine blk_drew ?_ | refine blk_alloc ?_ _)); exact BK524.out⟩, ⟨by repeat (first | (with_reducible first | exact HB.out | apply below_alloc | apply pw_below_drewN | apply below_drew1 | refine below_set ?_ GE504.out | refine below_set ?_ GE517.out | refine below_set ?_ GE524.out) | exact HB.out)⟩⟩
             ·rw [if_neg c49] at H
              have c49b0 : (t511 == t518) = false := beq_eq_false_iff_ne.mpr c49
              have c49b1 : (t511 != t518) = true := bne_iff_ne.mpr c49
              (first | rw [c49b0] | (simp only [i64_w, i32_w]; rw [c49b0]) | skip)
              have H' := Aside0.mk H
              clear H
              try go_wp2
              have n0_ : Aside0 (Kd.R k45 45 (((((w45.setCell ⟨gb524, 0, none⟩ (.bool t519)).setCell ⟨gb524, 1, none⟩ (.bool t520)).setCell ⟨gb524, 2, none⟩ (.bool t521)).setCell ⟨gb524, 3, none⟩ (.bool t522)).setCell ⟨gb524, 4, none⟩ (.bool t523)) w.heap.size (fun k_ => k_ ≠ gb504) (.slice (some ad503) y500.length co18) y500) := ⟨by (with_reducible repeat (first | apply Kd.R_alloc | apply Kd.R_drewN | apply Kd.R_drew)); exact Kd.R_mono (Kd.R_far (p := ⟨gb524, 4, none⟩) (Kd.R_far (p := ⟨gb524, 3, none⟩) (Kd.R_far (p := ⟨gb524, 2, none⟩) (Kd.R_far (p := ⟨gb524, 1, none⟩) (Kd.R_far (p := ⟨gb524, 0, none⟩) (Kd.R_types HO_43.out BK524.out (by decide)) (fun _ hk => hk.2) (.bool t519)) (fun _ hk => hk.2) (.bool t520)) (fun _ hk => hk.2) (.bool t521)) (fun _ hk => hk.2) (.bool t522)) (fun _ hk => hk.2) (.bool t523)) (fun _ hk => hk.1)⟩
              have n1_ : Aside0 (Kd.R (Kd.int .u32) 28 (((((w45.setCell ⟨gb524, 0, none⟩ (.bool t519)).setCell ⟨gb524, 1, none⟩ (.bool t520)).setCell ⟨gb524, 2, none⟩ (.bool t521)).setCell ⟨gb524, 3, none⟩ (.bool t522)).setCell ⟨gb524, 4, none⟩ (.bool t523)) w.heap.size (fun _ => True) (.slice (some ad510) y507.length co31) y507) := ⟨by (with_reducible repeat (first | apply Kd.R_alloc | apply Kd.R_drewN | apply Kd.R_drew)); exact Kd.R_mono (Kd.R_far (p := ⟨gb524, 4, none⟩) (Kd.R_far (p := ⟨gb524, 3, none⟩) (Kd.R_far (p := ⟨gb524, 2, none⟩) (Kd.R_far (p := ⟨gb524, 1, none⟩) (Kd.R_far (p := ⟨gb524, 0, none⟩) (Kd.R_types HO_58.out BK524.out (by decide)) (fun _ hk => hk.2) (.bool t519)) (fun _ hk => hk.2) (.bool t520)) (fun _ hk => hk.2) (.bool t521)) (fun _ hk => hk.2) (.bool t522)) (fun _ hk => hk.2) (.bool t523)) (fun _ hk => trivial)⟩
              have n2_ : Aside0 ((((((w45.setCell ⟨gb524, 0, none⟩ (.bool t519)).setCell ⟨gb524, 1, none⟩ (.bool t520)).setCell ⟨gb524, 2, none⟩ (.bool t521)).setCell ⟨gb524, 3, none⟩ (.bool t522)).setCell ⟨gb524, 4, none⟩ (.bool t523)).heap[gb504]? = some (.cells #[.int .i64 ((rd_T45 y500 x45_1).f0), .int .i64 ((rd_T45 y500 x45_1).f1), .int .i64 ((rd_T45 y500 x45_1).f2)] 45 (0, 0))) := ⟨by (with_reducible repeat (first | refine blk_drewN ?_ _ | refine blk_drew ?_ | refine blk_alloc ?_ _)); refine blk_far ?_ NB504_524.out _; (with_reducible repeat (first | refine blk_drewN ?_ _ | refine blk_drew ?_ | refine blk_alloc ?_ _)); refine blk_far ?_ NB504_524.out _; (with_reducible repeat (first | refine blk_drewN ?_ _ | refine blk_drew ?_ | refine blk_alloc ?_ _)); refine blk_far ?_ NB504_524.out _; (with_reducible repeat (first | refine blk_drewN ?_ _ | refine blk_drew ?_ | refine blk_alloc ?_ _)); refine blk_far ?_ NB504_524.out _; (with_reducible repeat (first | refine blk_drewN ?_ _ | refine blk_drew ?_ | refine blk_alloc ?_ _)); refine blk_far ?_ NB504_524.out _; (with_reducible repeat (first | refine blk_drewN ?_ _ | refine blk_drew ?_ | refine blk_alloc ?_ _)); exact BK504.out⟩
              have n3_ : Aside0 ((((((w45.setCell ⟨gb524, 0, none⟩ (.bool t519)).setCell ⟨gb524, 1, none⟩ (.bool t520)).setCell ⟨gb524, 2, none⟩ (.bool t521)).setCell ⟨gb524, 3, none⟩ (.bool t522)).setCell ⟨gb524, 4, none⟩ (.bool t523)).heap[gb517]? = some (.cells #[.bool t512, .bool t513, .bool t514, .bool t515, .bool t516] 30 (0, 0))) := ⟨by (with_reducible repeat (first | refine blk_drewN ?_ _ | refine blk_drew ?_ | refine blk_alloc ?_ _)); refine blk_far ?_ NB517_524.out _; (with_reducible repeat (first | refine blk_drewN ?_ _ | refine blk_drew ?_ | refine blk_alloc ?_ _)); refine blk_far ?_ NB517_524.out _; (with_reducible repeat (first | refine blk_drewN ?_ _ | refine blk_drew ?_ | refine blk_alloc ?_ _)); refine blk_far ?_ NB517_524.out _; (with_reducible repeat (first | refine blk_drewN ?_ _ | refine blk_drew ?_ | refine blk_alloc ?_ _)); refine blk_far ?_ NB517_524.out _; (with_reducible repeat (first | refine blk_drewN ?_ _ | refine blk_drew ?_ | refine blk_alloc ?_ _)); refine blk_far ?_ NB517_524.out _; (with_reducible repeat (first | refine blk_drewN ?_ _ | refine blk_drew ?_ | refine blk_alloc ?_ _)); exact BK517.out⟩
              have n4_ : Aside0 ((((((w45.setCell ⟨gb524, 0, none⟩ (.bool t519)).setCell ⟨gb524, 1, none⟩ (.bool t520)).setCell ⟨gb524, 2, none⟩ (.bool t521)).setCell ⟨gb524, 3, none⟩ (.bool t522)).setCell ⟨gb524, 4, none⟩ (.bool t523)).heap[gb524]? = some (.cells #[.bool t519, .bool t520, .bool t521, .bool t522, .bool t523] 30 (0, 0))) := ⟨by (with_reducible repeat (first | refine blk_drewN ?_ _ | refine blk_drew ?_ | refine blk_alloc ?_ _)); refine blk_put (cs := #[.bool t519, .bool t520, .bool t521, .bool t522, .bool false]) ?_ 4 _ rfl; (with_reducible repeat (first | refine blk_drewN ?_ _ | refine blk_drew ?_ | refine blk_alloc ?_ _)); refine blk_put (cs := #[.bool t519, .bool t520, .bool t521, .bool false, .bool false]) ?_ 3 _ rfl; (with_reducible repeat (first | refine blk_drewN ?_ _ | refine blk_drew ?_ | refine blk_alloc ?_ _)); refine blk_put (cs := #[.bool t519, .bool t520, .bool false, .bool false, .bool false]) ?_ 2 _ rfl; (with_reducible repeat (first | refine blk_drewN ?_ _ | refine blk_drew ?_ | refine blk_alloc ?_ _)); refine blk_put (cs := #[.bool t519, .bool false, .bool false, .bool false, .bool false]) ?_ 1 _ rfl; (with_reducible repeat (first | refine blk_drewN ?_ _ | refine blk_drew ?_ | refine blk_alloc ?_ _)); refine blk_put (cs := #[.bool false, .bool false, .bool false, .bool false, .bool false]) ?_ 0 _ rfl; (with_reducible repeat (first | refine blk_drewN ?_ _ | refine blk_drew ?_ | refine blk_alloc ?_ _)); exact BK524.out⟩
              have n5_ : Aside0 (Below w.heap.size w (((((w45.setCell ⟨gb524, 0, none⟩ (.bool t519)).setCell ⟨gb524, 1, none⟩ (.bool t520)).setCell ⟨gb524, 2, none⟩ (.bool t521)).setCell ⟨gb524, 3, none⟩ (.bool t522)).setCell ⟨gb524, 4, none⟩ (.bool t523))) := ⟨by repeat (first | (with_reducible first | exact HB.out | apply below_alloc | apply pw_below_drewN | apply below_drew1 | refine below_set ?_ GE504.out | refine below_set ?_ GE517.out | refine below_set ?_ GE524.out) | exact HB.out)⟩
              (try clear HO_43)
              (try clear HO_58)
              (try clear BK504)
              (try clear BK517)
              (try clear BK524)
              (try clear HB)
              generalize (((((w45.setCell ⟨gb524, 0, none⟩ (.bool t519)).setCell ⟨gb524, 1, none⟩ (.bool t520)).setCell ⟨gb524, 2, none⟩ (.bool t521)).setCell ⟨gb524, 3, none⟩ (.bool t522)).setCell ⟨gb524, 4, none⟩ (.bool t523)) = w68 at n0_ n1_ n2_ n3_ n4_ n5_ ⊢
              have HO_43 := n0_
              have HO_58 := n1_
              have BK504 := n2_
              have BK517 := n3_
              have BK524 := n4_
              have HB := n5_
              clear n0_ n1_ n2_ n3_ n4_ n5_
              have n0_ := Aside0.mk (Kd.R_drew HO_43.out)
              have n1_ := Aside0.mk (Kd.R_drew HO_58.out)
              have n2_ := Aside0.mk (blk_drew BK504.out)
              have n3_ := Aside0.mk (blk_drew BK517.out)
              have n4_ := Aside0.mk (blk_drew BK524.out)
              have n5_ := Aside0.mk (below_drew1 HB.out)
              clear HO_43
              clear HO_58
              clear BK504
              clear BK517
              clear BK524
              clear HB
              have HO_43 := n0_
              have HO_58 := n1_
              have BK504 := n2_
              have BK517 := n3_
              have BK524 := n4_
              have HB := n5_
              clear n0_ n1_ n2_ n3_ n4_ n5_
              refine start_ (n := 30) (S := fun w' => True) (ds := []) #[false, false, false, false, false, false, false, false, false, false, false, false, false, false, false, false, false, false, false, false, false, false, false, false, false, false, false, false, false, false] (by kernel_rfl) rfl rfl trivial (fun hHeld => ?_); refine with_tabW anneallaw9_ConvTells.tab11 anneallaw9_ConvTells.bits11 (fun HT_ HW_ => ?_)
              generalize w68.drew = w69 at HO_43 HO_58 BK504 BK517 BK524 HB hHeld ⊢
              refine pure_ (i := 0) (N := some 86) (v := ?_) (a' := ?_) #[true, false, false, false, false, false, false, false, false, false, false, false, false, false, false, false, false, false, false, false, false, false, false, false, false, false, false, false, false, false] rfl rfl (any_of HT_.out (by kernel_rfl)) (fun _ _ _ h => h) (Or.inl ⟨by rfl, ?_⟩) ?_ ?_
              rotate_left
              ·intro w'
               go_simp
               with_reducible rfl
              rotate_left
              ·simp only [Act.put, List.setIfInBounds_toArray, List.set_cons_zero, List.set_cons_succ, i64_w, i32_w]
               rfl
              refine pure_ (i := 1) (N := some 87) (v := ?_) (a' := ?_) #[true, true, false, false, false, false, false, false, false, false, false, false, false, false, false, false, false, false, false, false, false, false, false, false, false, false, false, false, false, false] rfl rfl (any_of HT_.out (by kernel_rfl)) (fun _ _ _ h => h) (Or.inl ⟨by rfl, ?_⟩) ?_ ?_
              rotate_left
              ·intro w'
               go_simp
               with_reducible rfl
              rotate_left
              ·simp only [Act.put, List.setIfInBounds_toArray, List.set_cons_zero, List.set_cons_succ, i64_w, i32_w]
               rfl
              refine pure_ (i := 2) (N := some 88) (v := ?_) (a' := ?_) #[true, true, true, false, false, false, false, false, false, false, false, false, false, false, false, false, false, false, false, false, false, false, false, false, false, false, false, false, false, false] rfl rfl (any_of HT_.out (by kernel_rfl)) (fun _ _ _ h => h) (Or.inl ⟨by rfl, ?_⟩) ?_ ?_
              rotate_left
              ·intro w'
               go_simp
               with_reducible rfl
              rotate_left
              ·simp only [Act.put, List.setIfInBounds_toArray, List.set_cons_zero, List.set_cons_succ, i64_w, i32_w]
               rfl
              refine pure_ (i := 3) (N := some 89) (v := ?_) (a' := ?_) #[true, true, true, true, false, false, false, false, false, false, false, false, false, false, false, false, false, false, false, false, false, false, false, false, false, false, false, false, false, false] rfl rfl (any_of HT_.out (by kernel_rfl)) (fun _ _ _ h => h) (Or.inl ⟨by rfl, ?_⟩) ?_ ?_
              rotate_left
              ·intro w'
               go_simp
               with_reducible rfl
              rotate_left
              ·simp only [Act.put, List.setIfInBounds_toArray, List.set_cons_zero, List.set_cons_succ, i64_w, i32_w]
               rfl
              refine pure_ (i := 4) (N := some 90) (v := undef) (a' := ?_) #[true, true, true, true, true, false, false, false, false, false, false, false, false, false, false, false, false, false, false, false, false, false, false, false, false, false, false, false, false, false] rfl rfl (any_of HT_.out (by kernel_rfl)) (fun _ _ _ h => h) (Or.inr ⟨by rfl, rfl⟩) ?_ ?_
              rotate_left
              ·simp only [Act.put, List.setIfInBounds_toArray, List.set_cons_zero, List.set_cons_succ, i64_w, i32_w]
               rfl
              refine pure_ (i := 5) (N := some 91) (v := undef) (a' := ?_) #[true, true, true, true, true, true, false, false, false, false, false, false, false, false, false, false, false, false, false, false, false, false, false, false, false, false, false, false, false, false] rfl rfl (any_of HT_.out (by kernel_rfl)) (fun _ _ _ h => h) (Or.inr ⟨by rfl, rfl⟩) ?_ ?_
              rotate_left
              ·simp only [Act.put, List.setIfInBounds_toArray, List.set_cons_zero, List.set_cons_succ, i64_w, i32_w]
               rfl
              refine pure_ (i := 6) (N := some 92) (v := undef) (a' := ?_) #[true, true, true, true, true, true, true, false, false, false, false, false, false, false, false, false, false, false, false, false, false, false, false, false, false, false, false, false, false, false] rfl rfl (any_of HT_.out (by kernel_rfl)) (fun _ _ _ h => h) (Or.inr ⟨by rfl, rfl⟩) ?_ ?_
              rotate_left
              ·simp only [Act.put, List.setIfInBounds_toArray, List.set_cons_zero, List.set_cons_succ, i64_w, i32_w]
               rfl
              refine pure_ (i := 7) (N := some 93) (v := ?_) (a' := ?_) #[true, true, true, true, true, true, true, true, false, false, false, false, false, false, false, false, false, false, false, false, false, false, false, false, false, false, false, false, false, false] rfl rfl (any_of HT_.out (by kernel_rfl)) (fun _ _ _ h => h) (Or.inl ⟨by rfl, ?_⟩) ?_ ?_
              rotate_left
              ·intro w'
               go_simp
               with_reducible rfl
              rotate_left
              ·simp only [Act.put, List.setIfInBounds_toArray, List.set_cons_zero, List.set_cons_succ, i64_w, i32_w]
               rfl
              refine pure_ (i := 8) (N := some 94) (v := ?_) (a' := ?_) #[true, true, true, true, true, true, true, true, true, false, false, false, false, false, false, false, false, false, false, false, false, false, false, false, false, false, false, false, false, false] rfl rfl (any_of HT_.out (by kernel_rfl)) (fun _ _ _ h => h) (Or.inl ⟨by rfl, ?_⟩) ?_ ?_
              rotate_left
              ·intro w'
               go_simp
               with_reducible rfl
              rotate_left
              ·simp only [Act.put, List.setIfInBounds_toArray, List.set_cons_zero, List.set_cons_succ, i64_w, i32_w]
               rfl
              refine pure_ (i := 9) (N := some 95) (v := undef) (a' := ?_) #[true, true, true, true, true, true, true, true, true, true, false, false, false, false, false, false, false, false, false, false, false, false, false, false, false, false, false, false, false, false] rfl rfl (any_of HT_.out (by kernel_rfl)) (fun _ _ _ h => h) (Or.inr ⟨by rfl, rfl⟩) ?_ ?_
              rotate_left
              ·simp only [Act.put, List.setIfInBounds_toArray, List.set_cons_zero, List.set_cons_succ, i64_w, i32_w]
               rfl
              refine pure_ (i := 10) (N := some 96) (v := undef) (a' := ?_) #[true, true, true, true, true, true, true, true, true, true, true, false, false, false, false, false, false, false, false, false, false, false, false, false, false, false, false, false, false, false] rfl rfl (any_of HT_.out (by kernel_rfl)) (fun _ _ _ h => h) (Or.inr ⟨by rfl, rfl⟩) ?_ ?_
              rotate_left
              ·simp only [Act.put, List.setIfInBounds_toArray, List.set_cons_zero, List.set_cons_succ, i64_w, i32_w]
               rfl
              refine pure_ (i := 11) (N := some 97) (v := undef) (a' := ?_) #[true, true, true, true, true, true, true, true, true, true, true, true, false, false, false, false, false, false, false, false, false, false, false, false, false, false, false, false, false, false] rfl rfl (any_of HT_.out (by kernel_rfl)) (fun _ _ _ h => h) (Or.inr ⟨by rfl, rfl⟩) ?_ ?_
              rotate_left
              ·simp only [Act.put, List.setIfInBounds_toArray, List.set_cons_zero, List.set_cons_succ, i64_w, i32_w]
               rfl
              refine pure_ (i := 12) (N := some 98) (v := undef) (a' := ?_) #[true, true, true, true, true, true, true, true, true, true, true, true, true, false, false, false, false, false, false, false, false, false, false, false, false, false, false, false, false, false] rfl rfl (any_of HT_.out (by kernel_rfl)) (fun _ _ _ h => h) (Or.inr ⟨by rfl, rfl⟩) ?_ ?_
              rotate_left
              ·simp only [Act.put, List.setIfInBounds_toArray, List.set_cons_zero, List.set_cons_succ, i64_w, i32_w]
               rfl
              refine pure_ (i := 13) (N := some 99) (v := undef) (a' := ?_) #[true, true, true, true, true, true, true, true, true, true, true, true, true, true, false, false, false, false, false, false, false, false, false, false, false, false, false, false, false, false] rfl rfl (any_of HT_.out (by kernel_rfl)) (fun _ _ _ h => h) (Or.inr ⟨by rfl, rfl⟩) ?_ ?_
              rotate_left
              ·simp only [Act.put, List.setIfInBounds_toArray, List.set_cons_zero, List.set_cons_succ, i64_w, i32_w]
               rfl
              refine pure_ (i := 14) (N := some 100) (v := undef) (a' := ?_) #[true, true, true, true, true, true, true, true, true, true, true, true, true, true, true, false, false, false, false, false, false, false, false, false, false, false, false, false, false, false] rfl rfl (any_of HT_.out (by kernel_rfl)) (fun _ _ _ h => h) (Or.inr ⟨by rfl, rfl⟩) ?_ ?_
              rotate_left
              ·simp only [Act.put, List.setIfInBounds_toArray, List.set_cons_zero, List.set_cons_succ, i64_w, i32_w]
               rfl
              refine pure_ (i := 15) (N := some 101) (v := undef) (a' := ?_) #[true, true, true, true, true, true, true, true, true, true, true, true, true, true, true, true, false, false, false, false, false, false, false, false, false, false, false, false, false, false] rfl rfl (any_of HT_.out (by kernel_rfl)) (fun _ _ _ h => h) (Or.inr ⟨by rfl, rfl⟩) ?_ ?_
              rotate_left
              ·simp only [Act.put, List.setIfInBounds_toArray, List.set_cons_zero, List.set_cons_succ, i64_w, i32_w]
               rfl
              refine pure_ (i := 16) (N := some 102) (v := undef) (a' := ?_) #[true, true, true, true, true, true, true, true, true, true, true, true, true, true, true, true, true, false, false, false, false, false, false, false, false, false, false, false, false, false] rfl rfl (any_of HT_.out (by kernel_rfl)) (fun _ _ _ h => h) (Or.inr ⟨by rfl, rfl⟩) ?_ ?_
              rotate_left
              ·simp only [Act.put, List.setIfInBounds_toArray, List.set_cons_zero, List.set_cons_succ, i64_w, i32_w]
               rfl
              refine pure_ (i := 17) (N := some 103) (v := undef) (a' := ?_) #[true, true, true, true, true, true, true, true, true, true, true, true, true, true, true, true, true, true, false, false, false, false, false, false, false, false, false, false, false, false] rfl rfl (any_of HT_.out (by kernel_rfl)) (fun _ _ _ h => h) (Or.inr ⟨by rfl, rfl⟩) ?_ ?_
              rotate_left
              ·simp only [Act.put, List.setIfInBounds_toArray, List.set_cons_zero, List.set_cons_succ, i64_w, i32_w]
               rfl
              refine pure_ (i := 18) (N := some 104) (v := ?_) (a' := ?_) #[true, true, true, true, true, true, true, true, true, true, true, true, true, true, true, true, true, true, true, false, false, false, false, false, false, false, false, false, false, false] rfl rfl (any_of HT_.out (by kernel_rfl)) (fun _ _ _ h => h) (Or.inl ⟨by rfl, ?_⟩) ?_ ?_
              rotate_left
              ·intro w'
               go_simp
               with_reducible rfl
              rotate_left
              ·simp only [Act.put, List.setIfInBounds_toArray, List.set_cons_zero, List.set_cons_succ, i64_w, i32_w]
               rfl
              refine pure_ (i := 19) (N := some 105) (v := ?_) (a' := ?_) #[true, true, true, true, true, true, true, true, true, true, true, true, true, true, true, true, true, true, true, true, false, false, false, false, false, false, false, false, false, false] rfl rfl (any_of HT_.out (by kernel_rfl)) (fun _ _ _ h => h) (Or.inl ⟨by rfl, ?_⟩) ?_ ?_
              rotate_left
              ·intro w'
               go_simp
               with_reducible rfl
              rotate_left
              ·simp only [Act.put, List.setIfInBounds_toArray, List.set_cons_zero, List.set_cons_succ, i64_w, i32_w]
               rfl
              refine pure_ (i := 20) (N := some 106) (v := undef) (a' := ?_) #[true, true, true, true, true, true, true, true, true, true, true, true, true, true, true, true, true, true, true, true, true, false, false, false, false, false, false, false, false, false] rfl rfl (any_of HT_.out (by kernel_rfl)) (fun _ _ _ h => h) (Or.inr ⟨by rfl, rfl⟩) ?_ ?_
              rotate_left
              ·simp only [Act.put, List.setIfInBounds_toArray, List.set_cons_zero, List.set_cons_succ, i64_w, i32_w]
               rfl
              refine pure_ (i := 21) (N := some 107) (v := undef) (a' := ?_) #[true, true, true, true, true, true, true, true, true, true, true, true, true, true, true, true, true, true, true, true, true, true, false, false, false, false, false, false, false, false] rfl rfl (any_of HT_.out (by kernel_rfl)) (fun _ _ _ h => h) (Or.inr ⟨by rfl, rfl⟩) ?_ ?_
              rotate_left
              ·simp only [Act.put, List.setIfInBounds_toArray, List.set_cons_zero, List.set_cons_succ, i64_w, i32_w]
               rfl
              refine pure_ (i := 22) (N := some 108) (v := undef) (a' := ?_) #[true, true, true, true, true, true, true, true, true, true, true, true, true, true, true, true, true, true, true, true, true, true, true, false, false, false, false, false, false, false] rfl rfl (any_of HT_.out (by kernel_rfl)) (fun _ _ _ h => h) (Or.inr ⟨by rfl, rfl⟩) ?_ ?_
              rotate_left
              ·simp only [Act.put, List.setIfInBounds_toArray, List.set_cons_zero, List.set_cons_succ, i64_w, i32_w]
               rfl
              refine pure_ (i := 23) (N := some 109) (v := undef) (a' := ?_) #[true, true, true, true, true, true, true, true, true, true, true, true, true, true, true, true, true, true, true, true, true, true, true, true, false, false, false, false, false, false] rfl rfl (any_of HT_.out (by kernel_rfl)) (fun _ _ _ h => h) (Or.inr ⟨by rfl, rfl⟩) ?_ ?_
              rotate_left
              ·simp only [Act.put, List.setIfInBounds_toArray, List.set_cons_zero, List.set_cons_succ, i64_w, i32_w]
               rfl
              refine pure_ (i := 24) (N := some 110) (v := undef) (a' := ?_) #[true, true, true, true, true, true, true, true, true, true, true, true, true, true, true, true, true, true, true, true, true, true, true, true, true, false, false, false, false, false] rfl rfl (any_of HT_.out (by kernel_rfl)) (fun _ _ _ h => h) (Or.inr ⟨by rfl, rfl⟩) ?_ ?_
              rotate_left
              ·simp only [Act.put, List.setIfInBounds_toArray, List.set_cons_zero, List.set_cons_succ, i64_w, i32_w]
               rfl
              refine pure_ (i := 25) (N := some 111) (v := undef) (a' := ?_) #[true, true, true, true, true, true, true, true, true, true, true, true, true, true, true, true, true, true, true, true, true, true, true, true, true, true, false, false, false, false] rfl rfl (any_of HT_.out (by kernel_rfl)) (fun _ _ _ h => h) (Or.inr ⟨by rfl, rfl⟩) ?_ ?_
              rotate_left
              ·simp only [Act.put, List.setIfInBounds_toArray, List.set_cons_zero, List.set_cons_succ, i64_w, i32_w]
               rfl
              refine pure_ (i := 26) (N := some 112) (v := undef) (a' := ?_) #[true, true, true, true, true, true, true, true, true, true, true, true, true, true, true, true, true, true, true, true, true, true, true, true, true, true, true, false, false, false] rfl rfl (any_of HT_.out (by kernel_rfl)) (fun _ _ _ h => h) (Or.inr ⟨by rfl, rfl⟩) ?_ ?_
              rotate_left
              ·simp only [Act.put, List.setIfInBounds_toArray, List.set_cons_zero, List.set_cons_succ, i64_w, i32_w]
               rfl
              refine pure_ (i := 27) (N := some 113) (v := undef) (a' := ?_) #[true, true, true, true, true, true, true, true, true, true, true, true, true, true, true, true, true, true, true, true, true, true, true, true, true, true, true, true, false, false] rfl rfl (any_of HT_.out (by kernel_rfl)) (fun _ _ _ h => h) (Or.inr ⟨by rfl, rfl⟩) ?_ ?_
              rotate_left
              ·simp only [Act.put, List.setIfInBounds_toArray, List.set_cons_zero, List.set_cons_succ, i64_w, i32_w]
               rfl
              refine pure_ (i := 28) (N := some 114) (v := undef) (a' := ?_) #[true, true, true, true, true, true, true, true, true, true, true, true, true, true, true, true, true, true, true, true, true, true, true, true, true, true, true, true, true, false] rfl rfl (any_of HT_.out (by kernel_rfl)) (fun _ _ _ h => h) (Or.inr ⟨by rfl, rfl⟩) ?_ ?_
              rotate_left
              ·simp only [Act.put, List.setIfInBounds_toArray, List.set_cons_zero, List.set_cons_succ, i64_w, i32_w]
               rfl
              refine pure_ (i := 29) (N := some 115) (v := ?_) (a' := ?_) #[true, true, true, true, true, true, true, true, true, true, true, true, true, true, true, true, true, true, true, true, true, true, true, true, true, true, true, true, true, true] rfl rfl (any_of HT_.out (by kernel_rfl)) (fun _ _ _ h => h) (Or.inl ⟨by rfl, ?_⟩) ?_ ?_
              rotate_left
              ·intro w'
               go_simp
               with_reducible rfl
              rotate_left
              ·simp only [Act.put, List.setIfInBounds_toArray, List.set_cons_zero, List.set_cons_succ, i64_w, i32_w]
               rfl
              refine done_ (done_of HT_.out (by kernel_rfl)) ?_
              try go_wp2
              go_meet
              case rel => exact ⟨_, (true), (by first | rfl | (simp; done) | (simp [*]; done) | (congr 1; (try unfold wrap64); omega) | (congr 1; rw [IntKind.wrap_u64]; omega)), H', ⟨by have := HK1.out; have := HK2.out; first | omega | exact Nat.le_refl _⟩, ⟨by (with_reducible repeat (first | apply Kd.R_alloc | apply Kd.R_drewN | apply Kd.R_drew)); exact HO_43.out⟩, ⟨by (with_reducible repeat (first | apply Kd.R_alloc | apply Kd.R_drewN | apply Kd.R_drew)); exact HO_58.out⟩, ⟨by (with_reducible repeat (first | refine blk_drewN ?_ _ | refine blk_drew ?_ | refine blk_alloc ?_ _)); exact BK504.out⟩, ⟨by (with_reducible repeat (first | refine blk_drewN ?_ _ | refine blk_drew ?_ | refine blk_alloc ?_ _)); exact BK517.out⟩, ⟨by (with_reducible repeat (first | refine blk_drewN ?_ _ | refine blk_drew ?_ | refine blk_alloc ?_ _)); exact BK524.out⟩, ⟨by repeat (first | (with_reducible first | exact HB.out | apply below_alloc | apply pw_below_drewN | apply below_drew1 | refine below_set ?_ GE504.out | refine below_set ?_ GE517.out | refine below_set ?_ GE524.out) | exact HB.out)⟩⟩
            case rest =>
             clear HC37
             try clear p2
             try clear c3
             try clear c4
             try clear c5
             try clear p6
             try clear c30
             try clear c31
             try clear c33
             try clear c49
             try clear c49b0
             try clear c49b1
             try clear c55
             try clear c55b0
             try clear c55b1
             try clear p64
             obtain ⟨kq, x115_36, rfl, HA, HJ36, HO_43, HO_58, BK504, BK517, BK524, HB⟩ := hcut
             cases kq with
             | zero => exact absurd HA.out (by simp [anneallaw9_ConvTells.j2])
             | succ kj36 =>
              have H := HA.out
              clear HA
              simp only [anneallaw9_ConvTells.j2] at H
              by_cases c70 : x115_36 = true
              ·subst c70
               have H1 : (some false) = some r := by rw [if_pos rfl] at H; exact H
               clear H
               have H := H1
               clear H1
               obtain rfl := Option.some.inj H
               go_wp2
               go_ret
               exact ⟨by first | rfl | (simp [errW_none, errW_some] <;> rfl) | (simp [*, errW_none, errW_some] <;> rfl), by repeat (first | (with_reducible first | exact HB.out | apply below_alloc | apply pw_below_drewN | apply below_drew1 | refine below_set ?_ GE504.out | refine below_set ?_ GE517.out | refine below_set ?_ GE524.out) | exact HB.out)⟩
              ·replace c70 := Bool.eq_false_iff.mpr c70
               subst c70
               have H1 : (anneallaw9_ConvTells.l1 kj36 a5 y500 (y500.length : Int) x45_1 y507 (y507.length : Int) (wrap64 (x60_2 + 1)) ((rd_T45 y500 x45_1).f0) ((rd_T45 y500 x45_1).f1) ((rd_T45 y500 x45_1).f2)) = some r := by rw [if_neg (show ¬ (false = true) by decide)] at H; exact H
               clear H
               have H := H1
               clear H1
               have H' := Aside0.mk H
               clear H
               go_wp2
               go_roundg kj36
               case measure => have := HK1.out; have := HK2.out; have := HJ36.out; omega
               case rel => exact ⟨(wrap64 (x60_2 + 1)), (by first | rfl | (simp; done) | (simp [*]; done) | (congr 1; (try unfold wrap64); omega) | (congr 1; rw [IntKind.wrap_u64]; omega)), H', ⟨by have := HK1.out; have := HK2.out; have := HJ36.out; omega⟩, ⟨by (with_reducible repeat (first | apply Kd.R_alloc | apply Kd.R_drewN | apply Kd.R_drew)); exact HO_43.out⟩, ⟨by (with_reducible repeat (first | apply Kd.R_alloc | apply Kd.R_drewN | apply Kd.R_drew)); exact HO_58.out⟩, ⟨by (with_reducible repeat (first | refine blk_drewN ?_ _ | refine blk_drew ?_ | refine blk_alloc ?_ _)); exact BK504.out⟩, ⟨by repeat (first | (with_reducible first | exact HB.out | apply below_alloc | apply pw_below_drewN | apply below_drew1 | refine below_set ?_ GE504.out | refine below_set ?_ GE517.out | refine below_set ?_ GE524.out) | exact HB.out)⟩⟩
           ·rw [if_neg c34] at H
            exact absurd H (by simp)
          ·rw [if_neg c33] at H
           exact absurd H (by simp)
         ·rw [if_neg c32] at H
          have c32b0 : decide (x60_2 < (y507.length : Int)) = false := decide_eq_false c32
          clear c32
          have H' := Aside0.mk H
          clear H
          go_wp2
          go_roundg k2
          case measure => have := HK1.out; have := HK2.out; omega
          case rel => exact ⟨(wrap64 (x45_1 + 1)), (by first | rfl | (simp; done) | (simp [*]; done) | (congr 1; (try unfold wrap64); omega) | (congr 1; rw [IntKind.wrap_u64]; omega)), H', ⟨by have := HK1.out; have := HK2.out; omega⟩, ⟨by (with_reducible repeat (first | apply Kd.R_alloc | apply Kd.R_drewN | apply Kd.R_drew)); exact Kd.R_mono HO_43.out (fun _ hk => trivial)⟩, ⟨by repeat (first | (with_reducible first | exact HB.out | apply below_alloc | apply pw_below_drewN | apply below_drew1 | refine below_set ?_ GE504.out) | exact HB.out)⟩⟩
      ·rw [if_neg c21] at H
       exact absurd H (by simp)
     ·rw [if_neg c20] at H
      exact absurd H (by simp)
    ·rw [if_neg c19] at H
     have c19b0 : decide (x45_1 < (y500.length : Int)) = false := decide_eq_false c19
     clear c19
     obtain rfl := Option.some.inj H
     go_wp2
     go_ret
     exact ⟨by first | rfl | (simp [errW_none, errW_some] <;> rfl) | (simp [*, errW_none, errW_some] <;> rfl), by repeat (first | (with_reducible first | exact HB.out | apply below_alloc | apply pw_below_drewN | apply below_drew1) | exact HB.out)⟩
 ·replace c8 := Bool.eq_false_iff.mpr c8
  subst c8
  have H1 : (some false) = some r := by rw [if_neg (show ¬ (false = true) by decide)] at H; exact H
  clear H
  have H := H1
  clear H1
  obtain rfl := Option.some.inj H
  go_enter Try.func8, Try.ntmps8
  go_wp2_with (first | ((with_reducible refine gate_callee (f := 24) rfl ?_); refine goesL_ (some 21) rfl rfl Try.func24 (by kernel_rfl) rfl #[] rfl (by (try simp only [List.map_toArray, List.map_cons, List.map_nil]); first | done | rfl | (simp only [List.length_drop, List.length_take]; rfl)) ?_; (with_reducible refine (anneallaw9_known.calls k  false _ A7.out).mono ?_); rintro e w71 ⟨rfl, hb⟩; refine ⟨_, rfl, ?_⟩; have n0_ := Aside0.mk (below_step (by repeat (first | (with_reducible first | exact HB.out | apply below_alloc | apply pw_below_drewN | apply below_drew1) | exact HB.out)) hb); clear HB; have HB := n0_; clear n0_; (try clear hb); (try clear hb2); (try clear hk); (try clear hi)))
  go_ret
  exact ⟨by first | rfl | (simp [errW_none, errW_some] <;> rfl) | (simp [*, errW_none, errW_some] <;> rfl), by repeat (first | (with_reducible first | exact HB.out | apply below_alloc | apply pw_below_drewN | apply below_drew1) | exact HB.out)⟩

/-- THE ONE PURE STATEMENT of anneallaw9_ConvTells: yours. -/
def anneallaw9_ConvTells.Pure : Prop := ∀ (a0 : Int) (a1 : Int) (a2 : Int) (a3 : Int) (a4 : Int) (a5 : Int), (Lit.int .i64 a0).wf = true → (Lit.int .i64 a1).wf = true → (Lit.int .i64 a2).wf = true → (Lit.int .u8 a3).wf = true → (Lit.int .u8 a4).wf = true → (Lit.int .u32 a5).wf = true → ∃ k, anneallaw9_ConvTells.f k a0 a1 a2 a3 a4 a5 = some true
theorem anneallaw9_ConvTells.walk (P : anneallaw9_ConvTells.Pure) (a0 : Int) (a1 : Int) (a2 : Int) (a3 : Int) (a4 : Int) (a5 : Int) (w : World) (w0 : (Lit.int .i64 a0).wf = true) (w1 : (Lit.int .i64 a1).wf = true) (w2 : (Lit.int .i64 a2).wf = true) (w3 : (Lit.int .u8 a3).wf = true) (w4 : (Lit.int .u8 a4).wf = true) (w5 : (Lit.int .u32 a5).wf = true) :
  Calls Try.prog 8 #[.int .i64 a0, .int .i64 a1, .int .i64 a2, .int .u8 a3, .int .u8 a4, .int .u32 a5] w fun e w' => e = .returned (.bool true) ∧ Below w.heap.size w w' := by
 obtain ⟨k, h⟩ := P a0 a1 a2 a3 a4 a5 w0 w1 w2 w3 w4 w5
 refine (anneallaw9_ConvTells.calls k a0 a1 a2 a3 a4 a5 true w h).mono ?_
 rintro e w' ⟨rfl, hd⟩
 exact ⟨rfl, hd⟩

end Go.Proofs.Ytoljndjpnbdjmaa.P
