-- Printed by a program of this session's out of Lean's print of the translation; Lean checks it.
import Derived.Test.YtjmihdhclbjaeaaPx0
import Derived.Test.YtjmihdhclbjaeaaPx8
import Derived.Test.YtjmihdhclbjaeaaPx9
import Derived.Test.YtjmihdhclbjaeaaPx14
import Derived.Test.YtjmihdhclbjaeaaPx15
namespace Go.Proofs.Ytjmihdhclbjaeaa.P
open Go.RowKit Go.Proofs.YtjmihdhclbjaeaaW.PrintWords Go.Proofs.YtjmihdhclbjaeaaW.PrintLast Go.Proofs.YtjmihdhclbjaeaaW.PrintMore
attribute [local go_sem] max2_int min2_int max_two min_two max_three min_three max_four min_four   -- for this text's walks alone
set_option linter.unusedVariables false
set_option linter.unusedSimpArgs false

/-! ### anneallaw1_BitsTell: function 10 -/
def anneallaw1_BitsTell.l0 : Nat → Int → Int → List Int → Int → Int → Option (Bool)
  | 0, _, _, _, _, _ => none
  | k + 1, x0, x2, x20, x21, x22 => if x22 < x21 then (if 0 ≤ x22 then (if x22 < (x20.length : Int) then ((bits_Shift.f k x0 (rd x20 x22)).bind fun bt263 => ((annealref1_Shift.f k x0 (rd x20 x22)).bind fun bt265 => (if bt263.1 = bt265.1 then (if (bt263.2 != bt265.2) = true then (some false) else ((bits_Cut.f x0 (rd x20 x22)).bind fun t267 => ((annealref1_Cut.f x0 (rd x20 x22)).bind fun t268 => (if t267 = t268 then ((bits_Signed.f x0 (rd x20 x22)).bind fun t269 => ((annealref1_Signed.f x0 (rd x20 x22)).bind fun t270 => (if t269 = t270 then (anneallaw1_BitsTell.l0 k x0 x2 x20 x21 (wrap64 (x22 + 1))) else (some false)))) else (some false))))) else (some false)))) else (none)) else (none)) else ((bits_Len.f k x0).bind fun t271 => ((annealref1_Len.f k x0).bind fun t272 => (if t271 = t272 then (if 0 ≤ (Int.tmod x2 64) then ((bits_Len.f k (shr .u64 x0 (Int.tmod x2 64))).bind fun t273 => ((annealref1_Len.f k (shr .u64 x0 (Int.tmod x2 64))).bind fun t274 => (some (t273 == t274)))) else (none)) else (some false))))
def anneallaw1_BitsTell.f (k : Nat) (a0 : Int) (a1 : Int) (a2 : Int) : Option (Bool) := (anneallaw1_known.f k).bind fun t258 => (if t258 = true then ((some (([a1, wrap64 ((wrap64 (Int.tmod a2 140)) - 70), 0, 1, 63, 64, (-1), (-64)] : List Int) : List Int)).bind fun y259 => (anneallaw1_BitsTell.l0 k a0 a2 y259 (y259.length : Int) 0)) else (some false))
theorem anneallaw1_BitsTell.mono_l : ∀ k, (∀ y0 y1 y2 y3 y4, LeO (anneallaw1_BitsTell.l0 k y0 y1 y2 y3 y4) (anneallaw1_BitsTell.l0 (k + 1) y0 y1 y2 y3 y4))
  | 0 => fun _ _ _ _ _ r h => by simp [anneallaw1_BitsTell.l0] at h
  | k + 1 => by
    have ih0 := anneallaw1_BitsTell.mono_l k
    · intro y0 y1 y2 y3 y4
      unfold anneallaw1_BitsTell.l0
      repeat' first
      | (with_reducible exact ih0 _ _ _ _ _)
      | (with_reducible exact anneallaw1_known.mono _)
      | (with_reducible exact annealref1_Len.mono _ _)
      | (with_reducible exact annealref1_Shift.mono _ _ _)
      | (with_reducible exact bits_Len.mono _ _)
      | (with_reducible exact bits_Shift.mono _ _ _)
      | (with_reducible exact LeO.refl _)
      | (with_reducible exact LeO.none _)
      | (with_reducible refine LeO.ite ?_ ?_)
      | (with_reducible refine LeO.bind ?_ (fun _ => ?_))
      | exact ih0 _ _ _ _ _
      | exact anneallaw1_known.mono _
      | exact annealref1_Len.mono _ _
      | exact annealref1_Shift.mono _ _ _
      | exact bits_Len.mono _ _
      | exact bits_Shift.mono _ _ _
      | exact LeO.none _
      | refine LeO.ite ?_ ?_
      | refine LeO.bind ?_ (fun _ => ?_)
theorem anneallaw1_BitsTell.mono : ∀ a0 a1 a2 k, LeO (anneallaw1_BitsTell.f k a0 a1 a2) (anneallaw1_BitsTell.f (k + 1) a0 a1 a2) := by
  intro a0 a1 a2 k
  have ih0 := anneallaw1_BitsTell.mono_l k
  unfold anneallaw1_BitsTell.f
  repeat' first
      | (with_reducible exact ih0 _ _ _ _ _)
      | (with_reducible exact anneallaw1_known.mono _)
      | (with_reducible exact annealref1_Len.mono _ _)
      | (with_reducible exact annealref1_Shift.mono _ _ _)
      | (with_reducible exact bits_Len.mono _ _)
      | (with_reducible exact bits_Shift.mono _ _ _)
      | (with_reducible exact LeO.refl _)
      | (with_reducible exact LeO.none _)
      | (with_reducible refine LeO.ite ?_ ?_)
      | (with_reducible refine LeO.bind ?_ (fun _ => ?_))
      | exact ih0 _ _ _ _ _
      | exact anneallaw1_known.mono _
      | exact annealref1_Len.mono _ _
      | exact annealref1_Shift.mono _ _ _
      | exact bits_Len.mono _ _
      | exact bits_Shift.mono _ _ _
      | exact LeO.none _
      | refine LeO.ite ?_ ?_
      | refine LeO.bind ?_ (fun _ => ?_)
set_option maxHeartbeats 8000000 in
set_option maxRecDepth 100000 in
theorem anneallaw1_BitsTell.calls (k : Nat) (a0 : Int) (a1 : Int) (a2 : Int) (r : Bool) (w : World) (h : anneallaw1_BitsTell.f k a0 a1 a2 = some r) :
    Calls Try.prog 10 #[.int .u64 a0, .int .i64 a1, .int .u8 a2] w fun e w' => e = .returned (.bool r) ∧ Below w.heap.size w w' := by
  have HB := Aside0.mk (Below.refl w.heap.size w)
  have H : ((anneallaw1_known.f k).bind fun t258 => (if t258 = true then ((some (([a1, wrap64 ((wrap64 (Int.tmod a2 140)) - 70), 0, 1, 63, 64, (-1), (-64)] : List Int) : List Int)).bind fun y259 => (anneallaw1_BitsTell.l0 k a0 a2 y259 (y259.length : Int) 0)) else (some false))) = some r := h
  clear h
  replace H := Option.bind_eq_some_iff.mp H
  obtain ⟨t258, A40, H⟩ := H
  replace H : (if t258 = true then ((some (([a1, wrap64 ((wrap64 (Int.tmod a2 140)) - 70), 0, 1, 63, 64, (-1), (-64)] : List Int) : List Int)).bind fun y259 => (anneallaw1_BitsTell.l0 k a0 a2 y259 (y259.length : Int) 0)) else (some false)) = some r := H
  have A4 := Aside0.mk A40
  clear A40
  by_cases c5 : t258 = true
  · subst c5
    have H1 : ((some (([a1, wrap64 ((wrap64 (Int.tmod a2 140)) - 70), 0, 1, 63, 64, (-1), (-64)] : List Int) : List Int)).bind fun y259 => (anneallaw1_BitsTell.l0 k a0 a2 y259 (y259.length : Int) 0)) = some r := by rw [if_pos rfl] at H; exact H
    clear H
    have H := H1
    clear H1
    obtain ⟨y259, hy259⟩ : ∃ y_ : List Int, y_ = (([a1, wrap64 ((wrap64 (Int.tmod a2 140)) - 70), 0, 1, 63, 64, (-1), (-64)] : List Int)) := ⟨_, rfl⟩
    replace H : (anneallaw1_BitsTell.l0 k a0 a2 y259 (y259.length : Int) 0) = some r := by first | (rw [hy259]; with_reducible exact H) | (have H2_ := (Option.bind_some _ _).symm.trans H; rw [hy259]; with_reducible exact H2_) | (have H2_ := (Option.bind_some _ _).symm.trans H; with_reducible exact H2_) | with_reducible exact H | (rw [hy259]; exact H) | exact H
    have Ny259 := Aside0.mk hy259
    clear hy259
    have H' := Aside0.mk H
    clear H
    go_enter Try.func10, Try.ntmps10
    go_wp2_with (first | ((with_reducible refine gate_callee (f := 24) rfl ?_); refine goesL_ (some 13) rfl rfl Try.func24 (by kernel_rfl) rfl #[] rfl (by (try simp only [List.map_toArray, List.map_cons, List.map_nil]); first | done | rfl | (simp only [List.length_drop, List.length_take]; rfl)) ?_; (with_reducible refine (anneallaw1_known.calls k  true _ A4.out).mono ?_); rintro e w' ⟨rfl, ⟨nd, rfl⟩⟩; refine ⟨_, rfl, ?_⟩) | ((with_reducible refine gate_dst (N := 20) rfl ?_); refine Kd.R_lit (Kd.int .i64) _ 3 ?hg (N := 20) ?hd (xs := ([a1, wrap64 ((wrap64 (Int.tmod a2 140)) - 70), 0, 1, 63, 64, (-1), (-64)] : List Int)) (inner := [.int .i64 a1, .int .i64 (wrap64 ((wrap64 (Int.tmod a2 140)) - 70)), .int .i64 0, .int .i64 1, .int .i64 63, .int .i64 64, .int .i64 (-1), .int .i64 (-64)]) (ok := fun _ => True) (okp := fun _ => True) ?hr ?hp (fun _ hk => hk) trivial (Below.refl _ _) (Nat.le_refl _) (by simp) ?_; (case hd => rfl); (case hg => rfl); (case hr => first | (go_simp; done) | (go_simp; rfl)); (case hp => exact (Reps.one (show Kd.M (Kd.int .i64) _ _ _ a1 [.int .i64 a1] from rfl) (Reps.one (show Kd.M (Kd.int .i64) _ _ _ (wrap64 ((wrap64 (Int.tmod a2 140)) - 70)) [.int .i64 (wrap64 ((wrap64 (Int.tmod a2 140)) - 70))] from rfl) (Reps.one (show Kd.M (Kd.int .i64) _ _ _ 0 [.int .i64 0] from rfl) (Reps.one (show Kd.M (Kd.int .i64) _ _ _ 1 [.int .i64 1] from rfl) (Reps.one (show Kd.M (Kd.int .i64) _ _ _ 63 [.int .i64 63] from rfl) (Reps.one (show Kd.M (Kd.int .i64) _ _ _ 64 [.int .i64 64] from rfl) (Reps.one (show Kd.M (Kd.int .i64) _ _ _ (-1) [.int .i64 (-1)] from rfl) (Reps.one (show Kd.M (Kd.int .i64) _ _ _ (-64) [.int .i64 (-64)] from rfl) (Reps.none _ _)))))))))); intro v260 w6 ho7 hb hg_ hnew_; clear hg_ hnew_; (first | rw [← Ny259.out] at ho7 | (simp only [Int.reduceToNat] at ho7; rw [← Ny259.out] at ho7)); have n0_ := Aside0.mk (Kd.R_lower ho7 (below_size (by repeat (first | (with_reducible first | exact HB.out | apply below_alloc | apply pw_below_drewN | apply below_drew1) | exact HB.out)))); have n1_ := Aside0.mk (below_step (by repeat (first | (with_reducible first | exact HB.out | apply below_alloc | apply pw_below_drewN | apply below_drew1) | exact HB.out)) hb); clear HB; have HO261 := n0_; have HB := n1_; clear n0_ n1_; clear hb ho7; obtain ⟨Ao8, co8, eo8⟩ := Kd.R_slice HO261.out; subst eo8))
    go_loopg [22] k (fun kq v22 w' => ∃ (x22_1 : Int), v22 = .int .i64 x22_1 ∧ Aside0 (anneallaw1_BitsTell.l0 kq a0 a2 y259 (y259.length : Int) x22_1 = some r) ∧ Aside0 (kq ≤ k) ∧ Aside0 (Kd.R (Kd.int .i64) 3 w' w.heap.size (fun _ => True) (.slice Ao8 y259.length co8) y259) ∧ Aside0 (Below w.heap.size w w'))
    case atStart => exact ⟨(0), (by first | rfl | (simp; done) | (simp [*]; done) | (congr 1; (try unfold wrap64); omega)), H', ⟨Nat.le_refl _⟩, ⟨by (with_reducible repeat (first | apply Kd.R_alloc | apply Kd.R_drewN | apply Kd.R_drew)); exact HO261.out⟩, ⟨by repeat (first | (with_reducible first | exact HB.out | apply below_alloc | apply pw_below_drewN | apply below_drew1) | exact HB.out)⟩⟩
    case round =>
      clear H'
      try clear c1
      try clear c2
      try clear p2
      try clear c5
      try clear p6
      obtain ⟨x22_1, rfl, HA, HK1, HO_20, HB⟩ := hrel
      cases gk with
      | zero => exact absurd HA.out (by simp [anneallaw1_BitsTell.l0])
      | succ k1 =>
        have H := HA.out
        clear HA
        simp only [anneallaw1_BitsTell.l0] at H
        by_cases c9 : x22_1 < (y259.length : Int)
        · rw [if_pos c9] at H
          have c9b0 : decide (x22_1 < (y259.length : Int)) = true := decide_eq_true c9
          clear c9
          by_cases c10 : 0 ≤ x22_1
          · rw [if_pos c10] at H
            have c10b0 : decide (0 ≤ x22_1) = true := decide_eq_true c10
            clear c10
            by_cases c11 : x22_1 < (y259.length : Int)
            · rw [if_pos c11] at H
              have c11b0 : decide (x22_1 < (y259.length : Int)) = true := decide_eq_true c11
              clear c11
              replace H := Option.bind_eq_some_iff.mp H
              obtain ⟨⟨t263, t264⟩, A120, H⟩ := H
              replace H : ((annealref1_Shift.f k1 a0 (rd y259 x22_1)).bind fun bt265 => (if t263 = bt265.1 then (if (t264 != bt265.2) = true then (some false) else ((bits_Cut.f a0 (rd y259 x22_1)).bind fun t267 => ((annealref1_Cut.f a0 (rd y259 x22_1)).bind fun t268 => (if t267 = t268 then ((bits_Signed.f a0 (rd y259 x22_1)).bind fun t269 => ((annealref1_Signed.f a0 (rd y259 x22_1)).bind fun t270 => (if t269 = t270 then (anneallaw1_BitsTell.l0 k1 a0 a2 y259 (y259.length : Int) (wrap64 (x22_1 + 1))) else (some false)))) else (some false))))) else (some false))) = some r := H
              have A12 := Aside0.mk A120
              clear A120
              replace H := Option.bind_eq_some_iff.mp H
              obtain ⟨⟨t265, t266⟩, A130, H⟩ := H
              replace H : (if t263 = t265 then (if (t264 != t266) = true then (some false) else ((bits_Cut.f a0 (rd y259 x22_1)).bind fun t267 => ((annealref1_Cut.f a0 (rd y259 x22_1)).bind fun t268 => (if t267 = t268 then ((bits_Signed.f a0 (rd y259 x22_1)).bind fun t269 => ((annealref1_Signed.f a0 (rd y259 x22_1)).bind fun t270 => (if t269 = t270 then (anneallaw1_BitsTell.l0 k1 a0 a2 y259 (y259.length : Int) (wrap64 (x22_1 + 1))) else (some false)))) else (some false))))) else (some false)) = some r := H
              have A13 := Aside0.mk A130
              clear A130
              by_cases c14 : t263 = t265
              · rw [if_pos c14] at H
                have c14b0 : (t263 == t265) = true := beq_iff_eq.mpr c14
                have c14b1 : (t263 != t265) = false := bne_eq_false_iff_eq.mpr c14
                clear c14
                by_cases c15 : (t264 != t266) = true
                · rw [if_pos c15] at H
                  have c15b0 : (t264 != t266) = true := c15
                  (try (have c15b1 : decide (t264 = t266) = false := by simpa using c15))
                  (try (have c15b2 : (t264 == t266) = false := by simpa using c15))
                  (try (have c15b3 : ¬ (t264 = t266) := by simpa using c15))
                  clear c15
                  obtain rfl := Option.some.inj H
                  have p262 : 0 ≤ (x22_1 : Int) := of_decide_eq_true (by first | (with_reducible assumption) | assumption)
                  have q262 : x22_1 < (y259.length : Int) := of_decide_eq_true (by first | (with_reducible assumption) | assumption)
                  obtain ⟨ad262, e262, hx262_0⟩ := Kd.at_int (Kd.R_reads' HO_20.out).2.2 x22_1 p262 q262
                  cases e262
                  replace p262 := eq_true p262
                  replace q262 := eq_true q262
                  go_wp2_with (first | ((with_reducible refine gate_callee (f := 31) rfl ?_); refine goesL_ (some 29) rfl rfl Try.func31 (by kernel_rfl) rfl #[.int .u64 a0, .int .i64 (rd y259 x22_1)] rfl (by (try simp only [List.map_toArray, List.map_cons, List.map_nil]); first | done | rfl | (simp only [List.length_drop, List.length_take]; rfl)) ?_; (with_reducible refine (bits_Shift.calls k1 a0 (rd y259 x22_1) t263 t264 _ A12.out).mono ?_); rintro e w' ⟨rfl, ⟨nd, rfl⟩⟩; refine ⟨_, rfl, ?_⟩) | ((with_reducible refine gate_callee (f := 32) rfl ?_); refine goesL_ (some 35) rfl rfl Try.func32 (by kernel_rfl) rfl #[.int .u64 a0, .int .i64 (rd y259 x22_1)] rfl (by (try simp only [List.map_toArray, List.map_cons, List.map_nil]); first | done | rfl | (simp only [List.length_drop, List.length_take]; rfl)) ?_; (with_reducible refine (annealref1_Shift.calls k1 a0 (rd y259 x22_1) t265 t266 _ A13.out).mono ?_); rintro e w16 ⟨rfl, hb⟩; refine ⟨_, rfl, ?_⟩; have n0_ := Aside0.mk (Kd.R_below (by (with_reducible repeat (first | apply Kd.R_alloc | apply Kd.R_drewN | apply Kd.R_drew)); exact HO_20.out) hb); have n1_ := Aside0.mk (below_step (by repeat (first | (with_reducible first | exact HB.out | apply below_alloc | apply pw_below_drewN | apply below_drew1) | exact HB.out)) hb); clear HO_20; clear HB; have HO_20 := n0_; have HB := n1_; clear n0_ n1_; (try clear hb); (try clear hb2); (try clear hk); (try clear hi)))
                  go_ret
                  exact ⟨by first | rfl | (simp [errW_none, errW_some] <;> rfl) | (simp [*, errW_none, errW_some] <;> rfl), by repeat (first | (with_reducible first | exact HB.out | apply below_alloc | apply pw_below_drewN | apply below_drew1) | exact HB.out)⟩
                · rw [if_neg c15] at H
                  have c15b0 : (t264 != t266) = false := by simpa using c15
                  (try (have c15b1 : decide (t264 = t266) = true := by simpa using c15))
                  (try (have c15b2 : (t264 == t266) = true := by simpa using c15))
                  clear c15
                  replace H := Option.bind_eq_some_iff.mp H
                  obtain ⟨t267, A170, H⟩ := H
                  replace H : ((annealref1_Cut.f a0 (rd y259 x22_1)).bind fun t268 => (if t267 = t268 then ((bits_Signed.f a0 (rd y259 x22_1)).bind fun t269 => ((annealref1_Signed.f a0 (rd y259 x22_1)).bind fun t270 => (if t269 = t270 then (anneallaw1_BitsTell.l0 k1 a0 a2 y259 (y259.length : Int) (wrap64 (x22_1 + 1))) else (some false)))) else (some false))) = some r := H
                  have A17 := Aside0.mk A170
                  clear A170
                  replace H := Option.bind_eq_some_iff.mp H
                  obtain ⟨t268, A180, H⟩ := H
                  replace H : (if t267 = t268 then ((bits_Signed.f a0 (rd y259 x22_1)).bind fun t269 => ((annealref1_Signed.f a0 (rd y259 x22_1)).bind fun t270 => (if t269 = t270 then (anneallaw1_BitsTell.l0 k1 a0 a2 y259 (y259.length : Int) (wrap64 (x22_1 + 1))) else (some false)))) else (some false)) = some r := H
                  have A18 := Aside0.mk A180
                  clear A180
                  by_cases c19 : t267 = t268
                  · rw [if_pos c19] at H
                    have c19b0 : (t267 == t268) = true := beq_iff_eq.mpr c19
                    have c19b1 : (t267 != t268) = false := bne_eq_false_iff_eq.mpr c19
                    clear c19
                    replace H := Option.bind_eq_some_iff.mp H
                    obtain ⟨t269, A200, H⟩ := H
                    replace H : ((annealref1_Signed.f a0 (rd y259 x22_1)).bind fun t270 => (if t269 = t270 then (anneallaw1_BitsTell.l0 k1 a0 a2 y259 (y259.length : Int) (wrap64 (x22_1 + 1))) else (some false))) = some r := H
                    have A20 := Aside0.mk A200
                    clear A200
                    replace H := Option.bind_eq_some_iff.mp H
                    obtain ⟨t270, A210, H⟩ := H
                    replace H : (if t269 = t270 then (anneallaw1_BitsTell.l0 k1 a0 a2 y259 (y259.length : Int) (wrap64 (x22_1 + 1))) else (some false)) = some r := H
                    have A21 := Aside0.mk A210
                    clear A210
                    by_cases c22 : t269 = t270
                    · rw [if_pos c22] at H
                      have c22b0 : (t269 == t270) = true := beq_iff_eq.mpr c22
                      have c22b1 : (t269 != t270) = false := bne_eq_false_iff_eq.mpr c22
                      clear c22
                      have H' := Aside0.mk H
                      clear H
                      have p262 : 0 ≤ (x22_1 : Int) := of_decide_eq_true (by first | (with_reducible assumption) | assumption)
                      have q262 : x22_1 < (y259.length : Int) := of_decide_eq_true (by first | (with_reducible assumption) | assumption)
                      obtain ⟨ad262, e262, hx262_0⟩ := Kd.at_int (Kd.R_reads' HO_20.out).2.2 x22_1 p262 q262
                      cases e262
                      replace p262 := eq_true p262
                      replace q262 := eq_true q262
                      go_wp2_with (first | ((with_reducible refine gate_callee (f := 31) rfl ?_); refine goesL_ (some 29) rfl rfl Try.func31 (by kernel_rfl) rfl #[.int .u64 a0, .int .i64 (rd y259 x22_1)] rfl (by (try simp only [List.map_toArray, List.map_cons, List.map_nil]); first | done | rfl | (simp only [List.length_drop, List.length_take]; rfl)) ?_; (with_reducible refine (bits_Shift.calls k1 a0 (rd y259 x22_1) t263 t264 _ A12.out).mono ?_); rintro e w' ⟨rfl, ⟨nd, rfl⟩⟩; refine ⟨_, rfl, ?_⟩) | ((with_reducible refine gate_callee (f := 32) rfl ?_); refine goesL_ (some 35) rfl rfl Try.func32 (by kernel_rfl) rfl #[.int .u64 a0, .int .i64 (rd y259 x22_1)] rfl (by (try simp only [List.map_toArray, List.map_cons, List.map_nil]); first | done | rfl | (simp only [List.length_drop, List.length_take]; rfl)) ?_; (with_reducible refine (annealref1_Shift.calls k1 a0 (rd y259 x22_1) t265 t266 _ A13.out).mono ?_); rintro e w23 ⟨rfl, hb⟩; refine ⟨_, rfl, ?_⟩; have n0_ := Aside0.mk (Kd.R_below (by (with_reducible repeat (first | apply Kd.R_alloc | apply Kd.R_drewN | apply Kd.R_drew)); exact HO_20.out) hb); have n1_ := Aside0.mk (below_step (by repeat (first | (with_reducible first | exact HB.out | apply below_alloc | apply pw_below_drewN | apply below_drew1) | exact HB.out)) hb); clear HO_20; clear HB; have HO_20 := n0_; have HB := n1_; clear n0_ n1_; (try clear hb); (try clear hb2); (try clear hk); (try clear hi)) | (go_at_call 33; (with_reducible refine (bits_Cut.calls a0 (rd y259 x22_1) t267 _ A17.out).mono ?_); rintro e w' ⟨rfl, ⟨nd, rfl⟩⟩) | (go_at_call 34; (with_reducible refine (annealref1_Cut.calls a0 (rd y259 x22_1) t268 _ A18.out).mono ?_); rintro e w' ⟨rfl, ⟨nd, rfl⟩⟩) | (go_at_call 35; (with_reducible refine (bits_Signed.calls a0 (rd y259 x22_1) t269 _ A20.out).mono ?_); rintro e w24 ⟨rfl, hb⟩; have n0_ := Aside0.mk (Kd.R_below (by (with_reducible repeat (first | apply Kd.R_alloc | apply Kd.R_drewN | apply Kd.R_drew)); exact HO_20.out) hb); have n1_ := Aside0.mk (below_step (by repeat (first | (with_reducible first | exact HB.out | apply below_alloc | apply pw_below_drewN | apply below_drew1) | exact HB.out)) hb); clear HO_20; clear HB; have HO_20 := n0_; have HB := n1_; clear n0_ n1_; (try clear hb); (try clear hb2); (try clear hk); (try clear hi)) | (go_at_call 36; (with_reducible refine (annealref1_Signed.calls a0 (rd y259 x22_1) t270 _ A21.out).mono ?_); rintro e w' ⟨rfl, ⟨nd, rfl⟩⟩))
                      go_roundg k1
                      case measure => have := HK1.out; omega
                      case rel => exact ⟨(wrap64 (x22_1 + 1)), (by first | rfl | (simp; done) | (simp [*]; done) | (congr 1; (try unfold wrap64); omega)), H', ⟨by have := HK1.out; omega⟩, ⟨by (with_reducible repeat (first | apply Kd.R_alloc | apply Kd.R_drewN | apply Kd.R_drew)); exact HO_20.out⟩, ⟨by repeat (first | (with_reducible first | exact HB.out | apply below_alloc | apply pw_below_drewN | apply below_drew1) | exact HB.out)⟩⟩
                    · rw [if_neg c22] at H
                      have c22b0 : (t269 == t270) = false := beq_eq_false_iff_ne.mpr c22
                      have c22b1 : (t269 != t270) = true := bne_iff_ne.mpr c22
                      obtain rfl := Option.some.inj H
                      have p262 : 0 ≤ (x22_1 : Int) := of_decide_eq_true (by first | (with_reducible assumption) | assumption)
                      have q262 : x22_1 < (y259.length : Int) := of_decide_eq_true (by first | (with_reducible assumption) | assumption)
                      obtain ⟨ad262, e262, hx262_0⟩ := Kd.at_int (Kd.R_reads' HO_20.out).2.2 x22_1 p262 q262
                      cases e262
                      replace p262 := eq_true p262
                      replace q262 := eq_true q262
                      go_wp2_with (first | ((with_reducible refine gate_callee (f := 31) rfl ?_); refine goesL_ (some 29) rfl rfl Try.func31 (by kernel_rfl) rfl #[.int .u64 a0, .int .i64 (rd y259 x22_1)] rfl (by (try simp only [List.map_toArray, List.map_cons, List.map_nil]); first | done | rfl | (simp only [List.length_drop, List.length_take]; rfl)) ?_; (with_reducible refine (bits_Shift.calls k1 a0 (rd y259 x22_1) t263 t264 _ A12.out).mono ?_); rintro e w' ⟨rfl, ⟨nd, rfl⟩⟩; refine ⟨_, rfl, ?_⟩) | ((with_reducible refine gate_callee (f := 32) rfl ?_); refine goesL_ (some 35) rfl rfl Try.func32 (by kernel_rfl) rfl #[.int .u64 a0, .int .i64 (rd y259 x22_1)] rfl (by (try simp only [List.map_toArray, List.map_cons, List.map_nil]); first | done | rfl | (simp only [List.length_drop, List.length_take]; rfl)) ?_; (with_reducible refine (annealref1_Shift.calls k1 a0 (rd y259 x22_1) t265 t266 _ A13.out).mono ?_); rintro e w25 ⟨rfl, hb⟩; refine ⟨_, rfl, ?_⟩; have n0_ := Aside0.mk (Kd.R_below (by (with_reducible repeat (first | apply Kd.R_alloc | apply Kd.R_drewN | apply Kd.R_drew)); exact HO_20.out) hb); have n1_ := Aside0.mk (below_step (by repeat (first | (with_reducible first | exact HB.out | apply below_alloc | apply pw_below_drewN | apply below_drew1) | exact HB.out)) hb); clear HO_20; clear HB; have HO_20 := n0_; have HB := n1_; clear n0_ n1_; (try clear hb); (try clear hb2); (try clear hk); (try clear hi)) | (go_at_call 33; (with_reducible refine (bits_Cut.calls a0 (rd y259 x22_1) t267 _ A17.out).mono ?_); rintro e w' ⟨rfl, ⟨nd, rfl⟩⟩) | (go_at_call 34; (with_reducible refine (annealref1_Cut.calls a0 (rd y259 x22_1) t268 _ A18.out).mono ?_); rintro e w' ⟨rfl, ⟨nd, rfl⟩⟩) | (go_at_call 35; (with_reducible refine (bits_Signed.calls a0 (rd y259 x22_1) t269 _ A20.out).mono ?_); rintro e w26 ⟨rfl, hb⟩; have n0_ := Aside0.mk (Kd.R_below (by (with_reducible repeat (first | apply Kd.R_alloc | apply Kd.R_drewN | apply Kd.R_drew)); exact HO_20.out) hb); have n1_ := Aside0.mk (below_step (by repeat (first | (with_reducible first | exact HB.out | apply below_alloc | apply pw_below_drewN | apply below_drew1) | exact HB.out)) hb); clear HO_20; clear HB; have HO_20 := n0_; have HB := n1_; clear n0_ n1_; (try clear hb); (try clear hb2); (try clear hk); (try clear hi)) | (go_at_call 36; (with_reducible refine (annealref1_Signed.calls a0 (rd y259 x22_1) t270 _ A21.out).mono ?_); rintro e w' ⟨rfl, ⟨nd, rfl⟩⟩))
                      go_ret
                      exact ⟨by first | rfl | (simp [errW_none, errW_some] <;> rfl) | (simp [*, errW_none, errW_some] <;> rfl), by repeat (first | (with_reducible first | exact HB.out | apply below_alloc | apply pw_below_drewN | apply below_drew1) | exact HB.out)⟩
                  · rw [if_neg c19] at H
                    have c19b0 : (t267 == t268) = false := beq_eq_false_iff_ne.mpr c19
                    have c19b1 : (t267 != t268) = true := bne_iff_ne.mpr c19
                    obtain rfl := Option.some.inj H
                    have p262 : 0 ≤ (x22_1 : Int) := of_decide_eq_true (by first | (with_reducible assumption) | assumption)
                    have q262 : x22_1 < (y259.length : Int) := of_decide_eq_true (by first | (with_reducible assumption) | assumption)
                    obtain ⟨ad262, e262, hx262_0⟩ := Kd.at_int (Kd.R_reads' HO_20.out).2.2 x22_1 p262 q262
                    cases e262
                    replace p262 := eq_true p262
                    replace q262 := eq_true q262
                    go_wp2_with (first | ((with_reducible refine gate_callee (f := 31) rfl ?_); refine goesL_ (some 29) rfl rfl Try.func31 (by kernel_rfl) rfl #[.int .u64 a0, .int .i64 (rd y259 x22_1)] rfl (by (try simp only [List.map_toArray, List.map_cons, List.map_nil]); first | done | rfl | (simp only [List.length_drop, List.length_take]; rfl)) ?_; (with_reducible refine (bits_Shift.calls k1 a0 (rd y259 x22_1) t263 t264 _ A12.out).mono ?_); rintro e w' ⟨rfl, ⟨nd, rfl⟩⟩; refine ⟨_, rfl, ?_⟩) | ((with_reducible refine gate_callee (f := 32) rfl ?_); refine goesL_ (some 35) rfl rfl Try.func32 (by kernel_rfl) rfl #[.int .u64 a0, .int .i64 (rd y259 x22_1)] rfl (by (try simp only [List.map_toArray, List.map_cons, List.map_nil]); first | done | rfl | (simp only [List.length_drop, List.length_take]; rfl)) ?_; (with_reducible refine (annealref1_Shift.calls k1 a0 (rd y259 x22_1) t265 t266 _ A13.out).mono ?_); rintro e w27 ⟨rfl, hb⟩; refine ⟨_, rfl, ?_⟩; have n0_ := Aside0.mk (Kd.R_below (by (with_reducible repeat (first | apply Kd.R_alloc | apply Kd.R_drewN | apply Kd.R_drew)); exact HO_20.out) hb); have n1_ := Aside0.mk (below_step (by repeat (first | (with_reducible first | exact HB.out | apply below_alloc | apply pw_below_drewN | apply below_drew1) | exact HB.out)) hb); clear HO_20; clear HB; have HO_20 := n0_; have HB := n1_; clear n0_ n1_; (try clear hb); (try clear hb2); (try clear hk); (try clear hi)) | (go_at_call 33; (with_reducible refine (bits_Cut.calls a0 (rd y259 x22_1) t267 _ A17.out).mono ?_); rintro e w' ⟨rfl, ⟨nd, rfl⟩⟩) | (go_at_call 34; (with_reducible refine (annealref1_Cut.calls a0 (rd y259 x22_1) t268 _ A18.out).mono ?_); rintro e w' ⟨rfl, ⟨nd, rfl⟩⟩))
                    go_ret
                    exact ⟨by first | rfl | (simp [errW_none, errW_some] <;> rfl) | (simp [*, errW_none, errW_some] <;> rfl), by repeat (first | (with_reducible first | exact HB.out | apply below_alloc | apply pw_below_drewN | apply below_drew1) | exact HB.out)⟩
              · rw [if_neg c14] at H
                have c14b0 : (t263 == t265) = false := beq_eq_false_iff_ne.mpr c14
                have c14b1 : (t263 != t265) = true := bne_iff_ne.mpr c14
                obtain rfl := Option.some.inj H
                have p262 : 0 ≤ (x22_1 : Int) := of_decide_eq_true (by first | (with_reducible assumption) | assumption)
                have q262 : x22_1 < (y259.length : Int) := of_decide_eq_true (by first | (with_reducible assumption) | assumption)
                obtain ⟨ad262, e262, hx262_0⟩ := Kd.at_int (Kd.R_reads' HO_20.out).2.2 x22_1 p262 q262
                cases e262
                replace p262 := eq_true p262
                replace q262 := eq_true q262
                go_wp2_with (first | ((with_reducible refine gate_callee (f := 31) rfl ?_); refine goesL_ (some 29) rfl rfl Try.func31 (by kernel_rfl) rfl #[.int .u64 a0, .int .i64 (rd y259 x22_1)] rfl (by (try simp only [List.map_toArray, List.map_cons, List.map_nil]); first | done | rfl | (simp only [List.length_drop, List.length_take]; rfl)) ?_; (with_reducible refine (bits_Shift.calls k1 a0 (rd y259 x22_1) t263 t264 _ A12.out).mono ?_); rintro e w' ⟨rfl, ⟨nd, rfl⟩⟩; refine ⟨_, rfl, ?_⟩) | ((with_reducible refine gate_callee (f := 32) rfl ?_); refine goesL_ (some 35) rfl rfl Try.func32 (by kernel_rfl) rfl #[.int .u64 a0, .int .i64 (rd y259 x22_1)] rfl (by (try simp only [List.map_toArray, List.map_cons, List.map_nil]); first | done | rfl | (simp only [List.length_drop, List.length_take]; rfl)) ?_; (with_reducible refine (annealref1_Shift.calls k1 a0 (rd y259 x22_1) t265 t266 _ A13.out).mono ?_); rintro e w28 ⟨rfl, hb⟩; refine ⟨_, rfl, ?_⟩; have n0_ := Aside0.mk (Kd.R_below (by (with_reducible repeat (first | apply Kd.R_alloc | apply Kd.R_drewN | apply Kd.R_drew)); exact HO_20.out) hb); have n1_ := Aside0.mk (below_step (by repeat (first | (with_reducible first | exact HB.out | apply below_alloc | apply pw_below_drewN | apply below_drew1) | exact HB.out)) hb); clear HO_20; clear HB; have HO_20 := n0_; have HB := n1_; clear n0_ n1_; (try clear hb); (try clear hb2); (try clear hk); (try clear hi)))
                go_ret
                exact ⟨by first | rfl | (simp [errW_none, errW_some] <;> rfl) | (simp [*, errW_none, errW_some] <;> rfl), by repeat (first | (with_reducible first | exact HB.out | apply below_alloc | apply pw_below_drewN | apply below_drew1) | exact HB.out)⟩
            · rw [if_neg c11] at H
              exact absurd H (by simp)
          · rw [if_neg c10] at H
            exact absurd H (by simp)
        · rw [if_neg c9] at H
          have c9b0 : decide (x22_1 < (y259.length : Int)) = false := decide_eq_false c9
          clear c9
          replace H := Option.bind_eq_some_iff.mp H
          obtain ⟨t271, A290, H⟩ := H
          replace H : ((annealref1_Len.f k1 a0).bind fun t272 => (if t271 = t272 then (if 0 ≤ (Int.tmod a2 64) then ((bits_Len.f k1 (shr .u64 a0 (Int.tmod a2 64))).bind fun t273 => ((annealref1_Len.f k1 (shr .u64 a0 (Int.tmod a2 64))).bind fun t274 => (some (t273 == t274)))) else (none)) else (some false))) = some r := H
          have A29 := Aside0.mk A290
          clear A290
          replace H := Option.bind_eq_some_iff.mp H
          obtain ⟨t272, A300, H⟩ := H
          replace H : (if t271 = t272 then (if 0 ≤ (Int.tmod a2 64) then ((bits_Len.f k1 (shr .u64 a0 (Int.tmod a2 64))).bind fun t273 => ((annealref1_Len.f k1 (shr .u64 a0 (Int.tmod a2 64))).bind fun t274 => (some (t273 == t274)))) else (none)) else (some false)) = some r := H
          have A30 := Aside0.mk A300
          clear A300
          by_cases c31 : t271 = t272
          · rw [if_pos c31] at H
            have c31b0 : (t271 == t272) = true := beq_iff_eq.mpr c31
            have c31b1 : (t271 != t272) = false := bne_eq_false_iff_eq.mpr c31
            clear c31
            obtain ⟨ji32, hji32⟩ : ∃ j_ : Int, (Int.tmod a2 64) = j_ := ⟨_, rfl⟩
            replace H : (if 0 ≤ (ji32) then ((bits_Len.f k1 (shr .u64 a0 (ji32))).bind fun t273 => ((annealref1_Len.f k1 (shr .u64 a0 (ji32))).bind fun t274 => (some (t273 == t274)))) else (none)) = some r := by first | (rw [hji32] at H; exact H) | (simp only [hji32] at H ⊢; exact H)
            (try rw [hji32] at A29)
            (try rw [hji32] at A30)
            by_cases c33 : 0 ≤ (ji32)
            · rw [if_pos c33] at H
              have c33b0 := eq_true c33
              have c33b1 : decide (0 ≤ (ji32)) = true := decide_eq_true c33
              clear c33
              obtain ⟨ji34, hji34⟩ : ∃ j_ : Int, (shr .u64 a0 (ji32)) = j_ := ⟨_, rfl⟩
              replace H : ((bits_Len.f k1 (ji34)).bind fun t273 => ((annealref1_Len.f k1 (ji34)).bind fun t274 => (some (t273 == t274)))) = some r := by first | (rw [hji34] at H; exact H) | (simp only [hji34] at H ⊢; exact H)
              (try rw [hji34] at A29)
              (try rw [hji34] at A30)
              have hji34_ : (a0 / 2 ^ min (ji32).toNat 64) = ji34 := hji34
              have hji34z : (ji32) ≤ 64 → (a0 / 2 ^ (ji32).toNat) = ji34 := shr_small hji34
              replace H := Option.bind_eq_some_iff.mp H
              obtain ⟨t273, A350, H⟩ := H
              replace H : ((annealref1_Len.f k1 (ji34)).bind fun t274 => (some (t273 == t274))) = some r := H
              have A35 := Aside0.mk A350
              clear A350
              have c36b0 := eq_true (of_decide_eq_true (by first | (with_reducible assumption) | assumption) : 0 ≤ (ji32))
              replace H := Option.bind_eq_some_iff.mp H
              obtain ⟨t274, A370, H⟩ := H
              replace H : (some (t273 == t274)) = some r := H
              have A37 := Aside0.mk A370
              clear A370
              obtain rfl := Option.some.inj H
              go_wp2_with (first | ((with_reducible refine gate_callee (f := 37) rfl ?_); refine goesL_ (some 66) rfl rfl Try.func37 (by kernel_rfl) rfl #[.int .u64 a0] rfl (by (try simp only [List.map_toArray, List.map_cons, List.map_nil]); first | done | rfl | (simp only [List.length_drop, List.length_take]; rfl)) ?_; (with_reducible refine (bits_Len.calls k1 a0 t271 _ A29.out).mono ?_); rintro e w' ⟨rfl, ⟨nd, rfl⟩⟩; refine ⟨_, rfl, ?_⟩) | ((with_reducible refine gate_callee (f := 38) rfl ?_); refine goesL_ (some 68) rfl rfl Try.func38 (by kernel_rfl) rfl #[.int .u64 a0] rfl (by (try simp only [List.map_toArray, List.map_cons, List.map_nil]); first | done | rfl | (simp only [List.length_drop, List.length_take]; rfl)) ?_; (with_reducible refine (annealref1_Len.calls k1 a0 t272 _ A30.out).mono ?_); rintro e w' ⟨rfl, ⟨nd, rfl⟩⟩; refine ⟨_, rfl, ?_⟩) | (go_at_call 37; (with_reducible refine (bits_Len.calls k1 ji34 t273 _ A35.out).mono ?_); rintro e w' ⟨rfl, ⟨nd, rfl⟩⟩) | (go_at_call 38; (with_reducible refine (annealref1_Len.calls k1 ji34 t274 _ A37.out).mono ?_); rintro e w' ⟨rfl, ⟨nd, rfl⟩⟩))
              go_ret
              exact ⟨by first | rfl | (simp [errW_none, errW_some] <;> rfl) | (simp only [← hji32, ← hji34]; first | rfl | (simp [errW_none, errW_some] <;> rfl)) | (simp [*, errW_none, errW_some] <;> rfl), by repeat (first | (with_reducible first | exact HB.out | apply below_alloc | apply pw_below_drewN | apply below_drew1) | exact HB.out)⟩
            · rw [if_neg c33] at H
              exact absurd H (by simp)
          · rw [if_neg c31] at H
            have c31b0 : (t271 == t272) = false := beq_eq_false_iff_ne.mpr c31
            have c31b1 : (t271 != t272) = true := bne_iff_ne.mpr c31
            obtain rfl := Option.some.inj H
            go_wp2_with (first | ((with_reducible refine gate_callee (f := 37) rfl ?_); refine goesL_ (some 66) rfl rfl Try.func37 (by kernel_rfl) rfl #[.int .u64 a0] rfl (by (try simp only [List.map_toArray, List.map_cons, List.map_nil]); first | done | rfl | (simp only [List.length_drop, List.length_take]; rfl)) ?_; (with_reducible refine (bits_Len.calls k1 a0 t271 _ A29.out).mono ?_); rintro e w' ⟨rfl, ⟨nd, rfl⟩⟩; refine ⟨_, rfl, ?_⟩) | ((with_reducible refine gate_callee (f := 38) rfl ?_); refine goesL_ (some 68) rfl rfl Try.func38 (by kernel_rfl) rfl #[.int .u64 a0] rfl (by (try simp only [List.map_toArray, List.map_cons, List.map_nil]); first | done | rfl | (simp only [List.length_drop, List.length_take]; rfl)) ?_; (with_reducible refine (annealref1_Len.calls k1 a0 t272 _ A30.out).mono ?_); rintro e w' ⟨rfl, ⟨nd, rfl⟩⟩; refine ⟨_, rfl, ?_⟩))
            go_ret
            exact ⟨by first | rfl | (simp [errW_none, errW_some] <;> rfl) | (simp [*, errW_none, errW_some] <;> rfl), by repeat (first | (with_reducible first | exact HB.out | apply below_alloc | apply pw_below_drewN | apply below_drew1) | exact HB.out)⟩
  · replace c5 := Bool.eq_false_iff.mpr c5
    subst c5
    have H1 : (some false) = some r := by rw [if_neg (show ¬ (false = true) by decide)] at H; exact H
    clear H
    have H := H1
    clear H1
    obtain rfl := Option.some.inj H
    go_enter Try.func10, Try.ntmps10
    go_wp2_with (first | ((with_reducible refine gate_callee (f := 24) rfl ?_); refine goesL_ (some 13) rfl rfl Try.func24 (by kernel_rfl) rfl #[] rfl (by (try simp only [List.map_toArray, List.map_cons, List.map_nil]); first | done | rfl | (simp only [List.length_drop, List.length_take]; rfl)) ?_; (with_reducible refine (anneallaw1_known.calls k  false _ A4.out).mono ?_); rintro e w' ⟨rfl, ⟨nd, rfl⟩⟩; refine ⟨_, rfl, ?_⟩))
    go_ret
    exact ⟨by first | rfl | (simp [errW_none, errW_some] <;> rfl) | (simp [*, errW_none, errW_some] <;> rfl), by repeat (first | (with_reducible first | exact HB.out | apply below_alloc | apply pw_below_drewN | apply below_drew1) | exact HB.out)⟩

/-- THE ONE PURE STATEMENT of anneallaw1_BitsTell: yours. -/
def anneallaw1_BitsTell.Pure : Prop := ∀ (a0 : Int) (a1 : Int) (a2 : Int), (Lit.int .u64 a0).wf = true → (Lit.int .i64 a1).wf = true → (Lit.int .u8 a2).wf = true → ∃ k, anneallaw1_BitsTell.f k a0 a1 a2 = some true
theorem anneallaw1_BitsTell.walk (P : anneallaw1_BitsTell.Pure) (a0 : Int) (a1 : Int) (a2 : Int) (w : World) (w0 : (Lit.int .u64 a0).wf = true) (w1 : (Lit.int .i64 a1).wf = true) (w2 : (Lit.int .u8 a2).wf = true) :
    Calls Try.prog 10 #[.int .u64 a0, .int .i64 a1, .int .u8 a2] w fun e w' => e = .returned (.bool true) ∧ Below w.heap.size w w' := by
  obtain ⟨k, h⟩ := P a0 a1 a2 w0 w1 w2
  refine (anneallaw1_BitsTell.calls k a0 a1 a2 true w h).mono ?_
  rintro e w' ⟨rfl, hd⟩
  exact ⟨rfl, hd⟩

end Go.Proofs.Ytjmihdhclbjaeaa.P
