-- Printed by a program of this session's out of Lean's print of the translation; Lean checks it.
import Derived.Test.YtjmihdhclbjaeaaPx0
import Derived.Test.YtjmihdhclbjaeaaPx3
namespace Go.Proofs.Ytjmihdhclbjaeaa.P
open Go.RowKit Go.Proofs.YtjmihdhclbjaeaaW.PrintWords Go.Proofs.YtjmihdhclbjaeaaW.PrintLast Go.Proofs.YtjmihdhclbjaeaaW.PrintMore
attribute [local go_sem] max2_int min2_int max_two min_two max_three min_three max_four min_four   -- for this text's walks alone
set_option linter.unusedVariables false
set_option linter.unusedSimpArgs false

/-! ### anneallaw26_BatchOnce: function 4 -/
mutual
def anneallaw26_BatchOnce.l0 : Nat → Int → Int → Int → Int → Int → List Int → Int → Option (Bool)
  | 0, _, _, _, _, _, _, _ => none
  | k + 1, x2, x3, x9, x10, x11, x12, x13 => if x13 < x11 then ((batch_Rows.f k x9 x10 x2 (wrap64 ((wrap64 ((wrap64 (x3)) * x11)) + x13))).bind fun t191 => (if (t191.length : Int) > x10 then (anneallaw26_BatchOnce.j1 k x2 x3 x9 x10 x11 x12 x13 t191 true) else (if (wrap64 (x13 + 1)) < x11 then (anneallaw26_BatchOnce.j1 k x2 x3 x9 x10 x11 x12 x13 t191 ((t191.length : Int) != x10)) else (anneallaw26_BatchOnce.j1 k x2 x3 x9 x10 x11 x12 x13 t191 false)))) else (anneallaw26_BatchOnce.l2 k x9 x12 0)
def anneallaw26_BatchOnce.j1 : Nat → Int → Int → Int → Int → Int → List Int → Int → List Int → Bool → Option (Bool)
  | 0, _, _, _, _, _, _, _, _, _ => none
  | k + 1, x2, x3, x9, x10, x11, x12, x13, x14, x65 => if x65 = true then (some false) else (anneallaw26_BatchOnce.l1 k x2 x3 x9 x10 x11 x12 x13 x14 0)
def anneallaw26_BatchOnce.l1 : Nat → Int → Int → Int → Int → Int → List Int → Int → List Int → Int → Option (Bool)
  | 0, _, _, _, _, _, _, _, _, _ => none
  | k + 1, x2, x3, x9, x10, x11, x12, x13, x14, x15 => if x15 < (x14.length : Int) then (if 0 ≤ x15 then (if (rd x14 x15) < 0 then (some false) else (if (rd x14 x15) ≥ x9 then (some false) else (if 0 ≤ (rd x14 x15) then (if (rd x14 x15) < (x12.length : Int) then (anneallaw26_BatchOnce.l1 k x2 x3 x9 x10 x11 (x12.set ((rd x14 x15) : Int).toNat (wrap64 ((rd x12 (rd x14 x15)) + 1))) x13 x14 (wrap64 (x15 + 1))) else (none)) else (none)))) else (none)) else (anneallaw26_BatchOnce.l0 k x2 x3 x9 x10 x11 x12 (wrap64 (x13 + 1)))
def anneallaw26_BatchOnce.l2 : Nat → Int → List Int → Int → Option (Bool)
  | 0, _, _, _ => none
  | k + 1, x9, x12, x16 => if x16 < x9 then (if 0 ≤ x16 then (if x16 < (x12.length : Int) then (if (rd x12 x16) = 1 then (anneallaw26_BatchOnce.l2 k x9 x12 (wrap64 (x16 + 1))) else (some false)) else (none)) else (none)) else (some true)
end
def anneallaw26_BatchOnce.f (k : Nat) (a0 : Int) (a1 : Int) (a2 : Int) (a3 : Int) : Option (Bool) := (anneallaw26_known.f k).bind fun t187 => (if t187 = true then (if (wrap64 ((wrap64 (Int.tmod a1 9)) + 1)) = 0 then (none) else (if 0 ≤ (wrap64 ((wrap64 (Int.tmod a0 40)) + 1)) then (if (wrap64 ((wrap64 (Int.tmod a0 40)) + 1) : Int).toNat ≤ 35184372088832 then (anneallaw26_BatchOnce.l0 k a2 a3 (wrap64 ((wrap64 (Int.tmod a0 40)) + 1)) (wrap64 ((wrap64 (Int.tmod a1 9)) + 1)) (wrap64 (Int.tdiv (wrap64 ((wrap64 ((wrap64 ((wrap64 (Int.tmod a0 40)) + 1)) + (wrap64 ((wrap64 (Int.tmod a1 9)) + 1)))) - 1)) (wrap64 ((wrap64 (Int.tmod a1 9)) + 1)))) (List.replicate (wrap64 ((wrap64 (Int.tmod a0 40)) + 1) : Int).toNat 0) 0) else (none)) else (none))) else (some false))
theorem anneallaw26_BatchOnce.mono_l : ∀ k, (∀ y0 y1 y2 y3 y4 y5 y6, LeO (anneallaw26_BatchOnce.l0 k y0 y1 y2 y3 y4 y5 y6) (anneallaw26_BatchOnce.l0 (k + 1) y0 y1 y2 y3 y4 y5 y6)) ∧ (∀ y0 y1 y2 y3 y4 y5 y6 y7 y8, LeO (anneallaw26_BatchOnce.j1 k y0 y1 y2 y3 y4 y5 y6 y7 y8) (anneallaw26_BatchOnce.j1 (k + 1) y0 y1 y2 y3 y4 y5 y6 y7 y8)) ∧ (∀ y0 y1 y2 y3 y4 y5 y6 y7 y8, LeO (anneallaw26_BatchOnce.l1 k y0 y1 y2 y3 y4 y5 y6 y7 y8) (anneallaw26_BatchOnce.l1 (k + 1) y0 y1 y2 y3 y4 y5 y6 y7 y8)) ∧ (∀ y0 y1 y2, LeO (anneallaw26_BatchOnce.l2 k y0 y1 y2) (anneallaw26_BatchOnce.l2 (k + 1) y0 y1 y2))
  | 0 => ⟨fun _ _ _ _ _ _ _ r h => by simp [anneallaw26_BatchOnce.l0] at h, fun _ _ _ _ _ _ _ _ _ r h => by simp [anneallaw26_BatchOnce.j1] at h, fun _ _ _ _ _ _ _ _ _ r h => by simp [anneallaw26_BatchOnce.l1] at h, fun _ _ _ r h => by simp [anneallaw26_BatchOnce.l2] at h⟩
  | k + 1 => by
    obtain ⟨ih0, ih1, ih2, ih3⟩ := anneallaw26_BatchOnce.mono_l k
    refine ⟨?_, ?_, ?_, ?_⟩
    · intro y0 y1 y2 y3 y4 y5 y6
      unfold anneallaw26_BatchOnce.l0
      repeat' first
      | (with_reducible exact ih0 _ _ _ _ _ _ _)
      | (with_reducible exact ih1 _ _ _ _ _ _ _ _ _)
      | (with_reducible exact ih2 _ _ _ _ _ _ _ _ _)
      | (with_reducible exact ih3 _ _ _)
      | (with_reducible exact anneallaw26_known.mono _)
      | (with_reducible exact batch_Rows.mono _ _ _ _ _)
      | (with_reducible exact LeO.refl _)
      | (with_reducible exact LeO.none _)
      | (with_reducible refine LeO.ite ?_ ?_)
      | (with_reducible refine LeO.bind ?_ (fun _ => ?_))
      | exact ih0 _ _ _ _ _ _ _
      | exact ih1 _ _ _ _ _ _ _ _ _
      | exact ih2 _ _ _ _ _ _ _ _ _
      | exact ih3 _ _ _
      | exact anneallaw26_known.mono _
      | exact batch_Rows.mono _ _ _ _ _
      | exact LeO.none _
      | refine LeO.ite ?_ ?_
      | refine LeO.bind ?_ (fun _ => ?_)
    · intro y0 y1 y2 y3 y4 y5 y6 y7 y8
      unfold anneallaw26_BatchOnce.j1
      repeat' first
      | (with_reducible exact ih0 _ _ _ _ _ _ _)
      | (with_reducible exact ih1 _ _ _ _ _ _ _ _ _)
      | (with_reducible exact ih2 _ _ _ _ _ _ _ _ _)
      | (with_reducible exact ih3 _ _ _)
      | (with_reducible exact anneallaw26_known.mono _)
      | (with_reducible exact batch_Rows.mono _ _ _ _ _)
      | (with_reducible exact LeO.refl _)
      | (with_reducible exact LeO.none _)
      | (with_reducible refine LeO.ite ?_ ?_)
      | (with_reducible refine LeO.bind ?_ (fun _ => ?_))
      | exact ih0 _ _ _ _ _ _ _
      | exact ih1 _ _ _ _ _ _ _ _ _
      | exact ih2 _ _ _ _ _ _ _ _ _
      | exact ih3 _ _ _
      | exact anneallaw26_known.mono _
      | exact batch_Rows.mono _ _ _ _ _
      | exact LeO.none _
      | refine LeO.ite ?_ ?_
      | refine LeO.bind ?_ (fun _ => ?_)
    · intro y0 y1 y2 y3 y4 y5 y6 y7 y8
      unfold anneallaw26_BatchOnce.l1
      repeat' first
      | (with_reducible exact ih0 _ _ _ _ _ _ _)
      | (with_reducible exact ih1 _ _ _ _ _ _ _ _ _)
      | (with_reducible exact ih2 _ _ _ _ _ _ _ _ _)
      | (with_reducible exact ih3 _ _ _)
      | (with_reducible exact anneallaw26_known.mono _)
      | (with_reducible exact batch_Rows.mono _ _ _ _ _)
      | (with_reducible exact LeO.refl _)
      | (with_reducible exact LeO.none _)
      | (with_reducible refine LeO.ite ?_ ?_)
      | (with_reducible refine LeO.bind ?_ (fun _ => ?_))
      | exact ih0 _ _ _ _ _ _ _
      | exact ih1 _ _ _ _ _ _ _ _ _
      | exact ih2 _ _ _ _ _ _ _ _ _
      | exact ih3 _ _ _
      | exact anneallaw26_known.mono _
      | exact batch_Rows.mono _ _ _ _ _
      | exact LeO.none _
      | refine LeO.ite ?_ ?_
      | refine LeO.bind ?_ (fun _ => ?_)
    · intro y0 y1 y2
      unfold anneallaw26_BatchOnce.l2
      repeat' first
      | (with_reducible exact ih0 _ _ _ _ _ _ _)
      | (with_reducible exact ih1 _ _ _ _ _ _ _ _ _)
      | (with_reducible exact ih2 _ _ _ _ _ _ _ _ _)
      | (with_reducible exact ih3 _ _ _)
      | (with_reducible exact anneallaw26_known.mono _)
      | (with_reducible exact batch_Rows.mono _ _ _ _ _)
      | (with_reducible exact LeO.refl _)
      | (with_reducible exact LeO.none _)
      | (with_reducible refine LeO.ite ?_ ?_)
      | (with_reducible refine LeO.bind ?_ (fun _ => ?_))
      | exact ih0 _ _ _ _ _ _ _
      | exact ih1 _ _ _ _ _ _ _ _ _
      | exact ih2 _ _ _ _ _ _ _ _ _
      | exact ih3 _ _ _
      | exact anneallaw26_known.mono _
      | exact batch_Rows.mono _ _ _ _ _
      | exact LeO.none _
      | refine LeO.ite ?_ ?_
      | refine LeO.bind ?_ (fun _ => ?_)
theorem anneallaw26_BatchOnce.mono : ∀ a0 a1 a2 a3 k, LeO (anneallaw26_BatchOnce.f k a0 a1 a2 a3) (anneallaw26_BatchOnce.f (k + 1) a0 a1 a2 a3) := by
  intro a0 a1 a2 a3 k
  obtain ⟨ih0, ih1, ih2, ih3⟩ := anneallaw26_BatchOnce.mono_l k
  unfold anneallaw26_BatchOnce.f
  repeat' first
      | (with_reducible exact ih0 _ _ _ _ _ _ _)
      | (with_reducible exact ih1 _ _ _ _ _ _ _ _ _)
      | (with_reducible exact ih2 _ _ _ _ _ _ _ _ _)
      | (with_reducible exact ih3 _ _ _)
      | (with_reducible exact anneallaw26_known.mono _)
      | (with_reducible exact batch_Rows.mono _ _ _ _ _)
      | (with_reducible exact LeO.refl _)
      | (with_reducible exact LeO.none _)
      | (with_reducible refine LeO.ite ?_ ?_)
      | (with_reducible refine LeO.bind ?_ (fun _ => ?_))
      | exact ih0 _ _ _ _ _ _ _
      | exact ih1 _ _ _ _ _ _ _ _ _
      | exact ih2 _ _ _ _ _ _ _ _ _
      | exact ih3 _ _ _
      | exact anneallaw26_known.mono _
      | exact batch_Rows.mono _ _ _ _ _
      | exact LeO.none _
      | refine LeO.ite ?_ ?_
      | refine LeO.bind ?_ (fun _ => ?_)
set_option maxHeartbeats 8000000 in
set_option maxRecDepth 100000 in
theorem anneallaw26_BatchOnce.calls (k : Nat) (a0 : Int) (a1 : Int) (a2 : Int) (a3 : Int) (r : Bool) (w : World) (h : anneallaw26_BatchOnce.f k a0 a1 a2 a3 = some r) :
    Calls Try.prog 4 #[.int .u8 a0, .int .u8 a1, .int .u64 a2, .int .u8 a3] w fun e w' => e = .returned (.bool r) ∧ Below w.heap.size w w' := by
  have HB := Aside0.mk (Below.refl w.heap.size w)
  have H : ((anneallaw26_known.f k).bind fun t187 => (if t187 = true then (if (wrap64 ((wrap64 (Int.tmod a1 9)) + 1)) = 0 then (none) else (if 0 ≤ (wrap64 ((wrap64 (Int.tmod a0 40)) + 1)) then (if (wrap64 ((wrap64 (Int.tmod a0 40)) + 1) : Int).toNat ≤ 35184372088832 then (anneallaw26_BatchOnce.l0 k a2 a3 (wrap64 ((wrap64 (Int.tmod a0 40)) + 1)) (wrap64 ((wrap64 (Int.tmod a1 9)) + 1)) (wrap64 (Int.tdiv (wrap64 ((wrap64 ((wrap64 ((wrap64 (Int.tmod a0 40)) + 1)) + (wrap64 ((wrap64 (Int.tmod a1 9)) + 1)))) - 1)) (wrap64 ((wrap64 (Int.tmod a1 9)) + 1)))) (List.replicate (wrap64 ((wrap64 (Int.tmod a0 40)) + 1) : Int).toNat 0) 0) else (none)) else (none))) else (some false))) = some r := h
  clear h
  replace H := Option.bind_eq_some_iff.mp H
  obtain ⟨t187, A50, H⟩ := H
  replace H : (if t187 = true then (if (wrap64 ((wrap64 (Int.tmod a1 9)) + 1)) = 0 then (none) else (if 0 ≤ (wrap64 ((wrap64 (Int.tmod a0 40)) + 1)) then (if (wrap64 ((wrap64 (Int.tmod a0 40)) + 1) : Int).toNat ≤ 35184372088832 then (anneallaw26_BatchOnce.l0 k a2 a3 (wrap64 ((wrap64 (Int.tmod a0 40)) + 1)) (wrap64 ((wrap64 (Int.tmod a1 9)) + 1)) (wrap64 (Int.tdiv (wrap64 ((wrap64 ((wrap64 ((wrap64 (Int.tmod a0 40)) + 1)) + (wrap64 ((wrap64 (Int.tmod a1 9)) + 1)))) - 1)) (wrap64 ((wrap64 (Int.tmod a1 9)) + 1)))) (List.replicate (wrap64 ((wrap64 (Int.tmod a0 40)) + 1) : Int).toNat 0) 0) else (none)) else (none))) else (some false)) = some r := H
  have A5 := Aside0.mk A50
  clear A50
  by_cases c6 : t187 = true
  · subst c6
    have H1 : (if (wrap64 ((wrap64 (Int.tmod a1 9)) + 1)) = 0 then (none) else (if 0 ≤ (wrap64 ((wrap64 (Int.tmod a0 40)) + 1)) then (if (wrap64 ((wrap64 (Int.tmod a0 40)) + 1) : Int).toNat ≤ 35184372088832 then (anneallaw26_BatchOnce.l0 k a2 a3 (wrap64 ((wrap64 (Int.tmod a0 40)) + 1)) (wrap64 ((wrap64 (Int.tmod a1 9)) + 1)) (wrap64 (Int.tdiv (wrap64 ((wrap64 ((wrap64 ((wrap64 (Int.tmod a0 40)) + 1)) + (wrap64 ((wrap64 (Int.tmod a1 9)) + 1)))) - 1)) (wrap64 ((wrap64 (Int.tmod a1 9)) + 1)))) (List.replicate (wrap64 ((wrap64 (Int.tmod a0 40)) + 1) : Int).toNat 0) 0) else (none)) else (none))) = some r := by rw [if_pos rfl] at H; exact H
    clear H
    have H := H1
    clear H1
    by_cases c7 : (wrap64 ((wrap64 (Int.tmod a1 9)) + 1)) = 0
    · rw [if_pos c7] at H
      exact absurd H (by simp)
    · rw [if_neg c7] at H
      have c7b0 : ((wrap64 ((wrap64 (Int.tmod a1 9)) + 1)) == 0) = false := beq_eq_false_iff_ne.mpr c7
      have c7b1 : ((wrap64 ((wrap64 (Int.tmod a1 9)) + 1)) != 0) = true := bne_iff_ne.mpr c7
      obtain ⟨ji8, hji8⟩ : ∃ j_ : Int, (wrap64 ((wrap64 (Int.tmod a0 40)) + 1)) = j_ := ⟨_, rfl⟩
      replace H : (if 0 ≤ (ji8) then (if (ji8 : Int).toNat ≤ 35184372088832 then (anneallaw26_BatchOnce.l0 k a2 a3 ji8 (wrap64 ((wrap64 (Int.tmod a1 9)) + 1)) (wrap64 (Int.tdiv (wrap64 ((wrap64 ((ji8) + (wrap64 ((wrap64 (Int.tmod a1 9)) + 1)))) - 1)) (wrap64 ((wrap64 (Int.tmod a1 9)) + 1)))) (List.replicate (ji8 : Int).toNat 0) 0) else (none)) else (none)) = some r := by first | (rw [hji8] at H; exact H) | (simp only [hji8] at H ⊢; exact H)
      (try rw [hji8] at A5)
      have hji8w : (IntKind.i64.wrap ((wrap64 (Int.tmod a0 40)) + 1)) = ji8 := (i64_w _).trans hji8
      by_cases c9 : 0 ≤ (ji8)
      · rw [if_pos c9] at H
        have c9b0 := eq_true c9
        have c9b1 : decide (0 ≤ (ji8)) = true := decide_eq_true c9
        clear c9
        by_cases c10 : (ji8 : Int).toNat ≤ 35184372088832
        · rw [if_pos c10] at H
          have c10b0 := eq_true c10
          have c10b1 : decide ((ji8 : Int).toNat ≤ 35184372088832) = true := decide_eq_true c10
          clear c10
          obtain ⟨y188, hy188⟩ : ∃ y_ : List Int, y_ = (List.replicate (ji8 : Int).toNat 0) := ⟨_, rfl⟩
          replace H : (anneallaw26_BatchOnce.l0 k a2 a3 ji8 (wrap64 ((wrap64 (Int.tmod a1 9)) + 1)) (wrap64 (Int.tdiv (wrap64 ((wrap64 ((ji8) + (wrap64 ((wrap64 (Int.tmod a1 9)) + 1)))) - 1)) (wrap64 ((wrap64 (Int.tmod a1 9)) + 1)))) y188 0) = some r := by first | (rw [hy188]; with_reducible exact H) | (have H2_ := (Option.bind_some _ _).symm.trans H; rw [hy188]; with_reducible exact H2_) | (have H2_ := (Option.bind_some _ _).symm.trans H; with_reducible exact H2_) | with_reducible exact H | (rw [hy188]; exact H) | exact H
          have Ny188 := Aside0.mk hy188
          clear hy188
          have H' := Aside0.mk H
          clear H
          go_enter Try.func4, Try.ntmps4
          go_wp2_with (first | ((with_reducible refine gate_callee (f := 15) rfl ?_); refine goesL_ (some 17) rfl rfl Try.func15 (by kernel_rfl) rfl #[] rfl (by (try simp only [List.map_toArray, List.map_cons, List.map_nil]); first | done | rfl | (simp only [List.length_drop, List.length_take]; rfl)) ?_; (with_reducible refine (anneallaw26_known.calls k  true _ A5.out).mono ?_); rintro e w11 ⟨rfl, hb⟩; refine ⟨_, rfl, ?_⟩; have n0_ := Aside0.mk (below_step (by repeat (first | (with_reducible first | exact HB.out | apply below_alloc | apply pw_below_drewN | apply below_drew1) | exact HB.out)) hb); clear HB; have HB := n0_; clear n0_; (try clear hb); (try clear hb2); (try clear hk); (try clear hi)) | ((with_reducible refine gate_dst (N := 34) rfl ?_); (try (refine gate_guard (by rfl) ?_; dsimp only)); refine Kd.R_make (Kd.int .i64) _ 3 rfl (N := 34) rfl 30 _ _ rfl ji8 rfl rfl Try.underlying30 (.int .i64 0) 8 info3 rfl (by decide) (by omega) 0 (ok := fun _ => True) (okp := fun _ => True) rfl (fun _ hk => hk) trivial (of_decide_eq_true (by first | (with_reducible assumption) | assumption)) (Nat.le_trans (Nat.mul_le_mul_right _ (of_decide_eq_true (by first | (with_reducible assumption) | assumption) : ji8.toNat ≤ 35184372088832)) (by omega)) (Below.refl _ _) (Nat.le_refl _) ?_; intro v189 w12 ho13 hb hg_ hnew_; clear hg_ hnew_; (first | rw [← Ny188.out] at ho13 | (simp only [Int.reduceToNat] at ho13; rw [← Ny188.out] at ho13)); have n0_ := Aside0.mk (Kd.R_lower ho13 (below_size (by repeat (first | (with_reducible first | exact HB.out | apply below_alloc | apply pw_below_drewN | apply below_drew1) | exact HB.out)))); have n1_ := Aside0.mk (below_step (by repeat (first | (with_reducible first | exact HB.out | apply below_alloc | apply pw_below_drewN | apply below_drew1) | exact HB.out)) hb); clear HB; have HO190 := n0_; have HB := n1_; clear n0_ n1_; clear hb ho13))
          go_loopg [13] k (fun kq v13 w' => ∃ (x12_1 : List Int) (x13_1 : Int), v13 = .int .i64 x13_1 ∧ Aside0 (anneallaw26_BatchOnce.l0 kq a2 a3 ji8 (wrap64 ((wrap64 (Int.tmod a1 9)) + 1)) (wrap64 (Int.tdiv (wrap64 ((wrap64 ((ji8) + (wrap64 ((wrap64 (Int.tmod a1 9)) + 1)))) - 1)) (wrap64 ((wrap64 (Int.tmod a1 9)) + 1)))) x12_1 x13_1 = some r) ∧ Aside0 (kq ≤ k) ∧ Aside0 (Kd.R (Kd.int .i64) 3 w' w.heap.size (fun _ => True) v189 x12_1) ∧ Aside0 (Below w.heap.size w w'))
          case atStart => exact ⟨(y188), (0), (by first | rfl | (simp; done) | (simp [*]; done) | (congr 1; (try unfold wrap64); omega)), H', ⟨Nat.le_refl _⟩, ⟨by (with_reducible repeat (first | apply Kd.R_alloc | apply Kd.R_drewN | apply Kd.R_drew)); exact HO190.out⟩, ⟨by repeat (first | (with_reducible first | exact HB.out | apply below_alloc | apply pw_below_drewN | apply below_drew1) | exact HB.out)⟩⟩
          case round =>
            clear H'
            try clear c1
            try clear p2
            try clear c4
            try clear c6
            try clear p6
            try clear c7
            try clear c7b0
            try clear c7b1
            try clear c9
            try clear c9b0
            try clear c9b1
            try clear c10
            try clear c10b0
            try clear c10b1
            obtain ⟨x12_1, x13_1, rfl, HA, HK1, HO_12, HB⟩ := hrel
            cases gk with
            | zero => exact absurd HA.out (by simp [anneallaw26_BatchOnce.l0])
            | succ k1 =>
              have H := HA.out
              clear HA
              simp only [anneallaw26_BatchOnce.l0] at H
              by_cases c14 : x13_1 < (wrap64 (Int.tdiv (wrap64 ((wrap64 ((ji8) + (wrap64 ((wrap64 (Int.tmod a1 9)) + 1)))) - 1)) (wrap64 ((wrap64 (Int.tmod a1 9)) + 1))))
              · rw [if_pos c14] at H
                have c14b0 : decide (x13_1 < (wrap64 (Int.tdiv (wrap64 ((wrap64 ((ji8) + (wrap64 ((wrap64 (Int.tmod a1 9)) + 1)))) - 1)) (wrap64 ((wrap64 (Int.tmod a1 9)) + 1))))) = true := decide_eq_true c14
                clear c14
                replace H := Option.bind_eq_some_iff.mp H
                obtain ⟨t191, A150, H⟩ := H
                replace H : (if (t191.length : Int) > (wrap64 ((wrap64 (Int.tmod a1 9)) + 1)) then (anneallaw26_BatchOnce.j1 k1 a2 a3 ji8 (wrap64 ((wrap64 (Int.tmod a1 9)) + 1)) (wrap64 (Int.tdiv (wrap64 ((wrap64 ((ji8) + (wrap64 ((wrap64 (Int.tmod a1 9)) + 1)))) - 1)) (wrap64 ((wrap64 (Int.tmod a1 9)) + 1)))) x12_1 x13_1 t191 true) else (if (wrap64 (x13_1 + 1)) < (wrap64 (Int.tdiv (wrap64 ((wrap64 ((ji8) + (wrap64 ((wrap64 (Int.tmod a1 9)) + 1)))) - 1)) (wrap64 ((wrap64 (Int.tmod a1 9)) + 1)))) then (anneallaw26_BatchOnce.j1 k1 a2 a3 ji8 (wrap64 ((wrap64 (Int.tmod a1 9)) + 1)) (wrap64 (Int.tdiv (wrap64 ((wrap64 ((ji8) + (wrap64 ((wrap64 (Int.tmod a1 9)) + 1)))) - 1)) (wrap64 ((wrap64 (Int.tmod a1 9)) + 1)))) x12_1 x13_1 t191 ((t191.length : Int) != (wrap64 ((wrap64 (Int.tmod a1 9)) + 1)))) else (anneallaw26_BatchOnce.j1 k1 a2 a3 ji8 (wrap64 ((wrap64 (Int.tmod a1 9)) + 1)) (wrap64 (Int.tdiv (wrap64 ((wrap64 ((ji8) + (wrap64 ((wrap64 (Int.tmod a1 9)) + 1)))) - 1)) (wrap64 ((wrap64 (Int.tmod a1 9)) + 1)))) x12_1 x13_1 t191 false))) = some r := H
                have A15 := Aside0.mk A150
                clear A150
                have HC16 := Aside0.mk H
                clear H
                go_upto_region 10 with (first | ((with_reducible refine gate_callee (f := 22) rfl ?_); refine goesL_ (some 49) rfl rfl Try.func22 (by kernel_rfl) rfl #[.int .i64 ji8, .int .i64 (wrap64 ((wrap64 (Int.tmod a1 9)) + 1)), .int .u64 a2, .int .i64 (wrap64 ((wrap64 ((wrap64 (a3)) * (wrap64 (Int.tdiv (wrap64 ((wrap64 ((ji8) + (wrap64 ((wrap64 (Int.tmod a1 9)) + 1)))) - 1)) (wrap64 ((wrap64 (Int.tmod a1 9)) + 1)))))) + x13_1))] rfl (by (try simp only [List.map_toArray, List.map_cons, List.map_nil]); first | done | (simp only [hji8]; rfl) | rfl | (simp only [List.length_drop, List.length_take]; rfl)) ?_; (with_reducible refine (batch_Rows.calls k1 ji8 (wrap64 ((wrap64 (Int.tmod a1 9)) + 1)) a2 (wrap64 ((wrap64 ((wrap64 (a3)) * (wrap64 (Int.tdiv (wrap64 ((wrap64 ((ji8) + (wrap64 ((wrap64 (Int.tmod a1 9)) + 1)))) - 1)) (wrap64 ((wrap64 (Int.tmod a1 9)) + 1)))))) + x13_1)) t191 _ A15.out).mono ?_); rintro e w17 ⟨v192, rfl, ho0, hb⟩; refine ⟨_, rfl, ?_⟩; have n0_ := Aside0.mk (Kd.R_below (by (with_reducible repeat (first | apply Kd.R_alloc | apply Kd.R_drewN | apply Kd.R_drew)); exact HO_12.out) hb); have n1_ := Aside0.mk (Kd.V_lower (Kd.V_mono (ok' := fun k_ => some k_ ≠ (v189 : Value).ownBlock) ho0 (fun k_ hk_ => (Kd.fresh' (Kd.R_lt (by (with_reducible repeat (first | apply Kd.R_alloc | apply Kd.R_drewN | apply Kd.R_drew)); exact HO_12.out)) k_ hk_))) (below_size (by repeat (first | (with_reducible first | exact HB.out | apply below_alloc | apply pw_below_drewN | apply below_drew1) | exact HB.out)))); have n2_ := Aside0.mk (below_step (by repeat (first | (with_reducible first | exact HB.out | apply below_alloc | apply pw_below_drewN | apply below_drew1) | exact HB.out)) hb); clear HO_12; clear HB; have HO_12 := n0_; have HO193 := n1_; have HB := n2_; clear n0_ n1_ n2_; (try clear hb); (try clear hb2); (try clear hk); (try clear hi); (try clear ho0)))
                (try simp only [Act.put, List.setIfInBounds_toArray, List.set_cons_zero, List.set_cons_succ])
                go_cut [65] (fun v65 wc => ∃ (kq : Nat) (x65_15 : Bool), v65 = .bool x65_15 ∧ Aside0 (anneallaw26_BatchOnce.j1 kq a2 a3 ji8 (wrap64 ((wrap64 (Int.tmod a1 9)) + 1)) (wrap64 (Int.tdiv (wrap64 ((wrap64 ((ji8) + (wrap64 ((wrap64 (Int.tmod a1 9)) + 1)))) - 1)) (wrap64 ((wrap64 (Int.tmod a1 9)) + 1)))) x12_1 x13_1 t191 x65_15 = some r) ∧ Aside0 (kq ≤ k1) ∧ Aside0 (Kd.R (Kd.int .i64) 3 wc w.heap.size (fun _ => True) v189 x12_1) ∧ Aside0 (Kd.V (Kd.int .i64) 3 wc w.heap.size (fun k_ => some k_ ≠ (v189 : Value).ownBlock) v192 t191) ∧ Aside0 (Below w.heap.size w wc))
                case first =>
                  have H := HC16.out
                  clear HC16
                  by_cases c18 : (t191.length : Int) > (wrap64 ((wrap64 (Int.tmod a1 9)) + 1))
                  · rw [if_pos c18] at H
                    have c18b0 : decide ((wrap64 ((wrap64 (Int.tmod a1 9)) + 1)) < (t191.length : Int)) = true := decide_eq_true c18
                    clear c18
                    (first | rw [c18b0] | (simp only [i64_w, i32_w]; rw [c18b0]) | skip)
                    have H' := Aside0.mk H
                    clear H
                    obtain ⟨Ao19, co19, eo19⟩ := Kd.V_slice HO193.out
                    subst eo19
                    go_wp2
                    go_meet
                    case rel => exact ⟨_, (true), (by first | rfl | (simp; done) | (simp [*]; done) | (congr 1; (try unfold wrap64); omega)), H', ⟨by have := HK1.out; first | omega | exact Nat.le_refl _⟩, ⟨by (with_reducible repeat (first | apply Kd.R_alloc | apply Kd.R_drewN | apply Kd.R_drew)); exact HO_12.out⟩, ⟨by (with_reducible repeat (first | apply Kd.V_alloc | apply Kd.V_drewN | apply Kd.V_drew)); exact HO193.out⟩, ⟨by repeat (first | (with_reducible first | exact HB.out | apply below_alloc | apply pw_below_drewN | apply below_drew1) | exact HB.out)⟩⟩
                  · rw [if_neg c18] at H
                    have c18b0 : decide ((wrap64 ((wrap64 (Int.tmod a1 9)) + 1)) < (t191.length : Int)) = false := decide_eq_false c18
                    clear c18
                    (first | rw [c18b0] | (simp only [i64_w, i32_w]; rw [c18b0]) | skip)
                    by_cases c20 : (wrap64 (x13_1 + 1)) < (wrap64 (Int.tdiv (wrap64 ((wrap64 ((ji8) + (wrap64 ((wrap64 (Int.tmod a1 9)) + 1)))) - 1)) (wrap64 ((wrap64 (Int.tmod a1 9)) + 1))))
                    · rw [if_pos c20] at H
                      have c20b0 : decide ((wrap64 (x13_1 + 1)) < (wrap64 (Int.tdiv (wrap64 ((wrap64 ((ji8) + (wrap64 ((wrap64 (Int.tmod a1 9)) + 1)))) - 1)) (wrap64 ((wrap64 (Int.tmod a1 9)) + 1))))) = true := decide_eq_true c20
                      clear c20
                      have H' := Aside0.mk H
                      clear H
                      obtain ⟨Ao21, co21, eo21⟩ := Kd.V_slice HO193.out
                      subst eo21
                      go_wp2
                      go_meet
                      case rel => exact ⟨_, (((t191.length : Int) != (wrap64 ((wrap64 (Int.tmod a1 9)) + 1)))), (by first | rfl | (simp; done) | (simp [*]; done) | (congr 1; (try unfold wrap64); omega)), H', ⟨by have := HK1.out; first | omega | exact Nat.le_refl _⟩, ⟨by (with_reducible repeat (first | apply Kd.R_alloc | apply Kd.R_drewN | apply Kd.R_drew)); exact HO_12.out⟩, ⟨by (with_reducible repeat (first | apply Kd.V_alloc | apply Kd.V_drewN | apply Kd.V_drew)); exact HO193.out⟩, ⟨by repeat (first | (with_reducible first | exact HB.out | apply below_alloc | apply pw_below_drewN | apply below_drew1) | exact HB.out)⟩⟩
                    · rw [if_neg c20] at H
                      have c20b0 : decide ((wrap64 (x13_1 + 1)) < (wrap64 (Int.tdiv (wrap64 ((wrap64 ((ji8) + (wrap64 ((wrap64 (Int.tmod a1 9)) + 1)))) - 1)) (wrap64 ((wrap64 (Int.tmod a1 9)) + 1))))) = false := decide_eq_false c20
                      clear c20
                      have H' := Aside0.mk H
                      clear H
                      obtain ⟨Ao22, co22, eo22⟩ := Kd.V_slice HO193.out
                      subst eo22
                      go_wp2
                      go_meet
                      case rel => exact ⟨_, (false), (by first | rfl | (simp; done) | (simp [*]; done) | (congr 1; (try unfold wrap64); omega)), H', ⟨by have := HK1.out; first | omega | exact Nat.le_refl _⟩, ⟨by (with_reducible repeat (first | apply Kd.R_alloc | apply Kd.R_drewN | apply Kd.R_drew)); exact HO_12.out⟩, ⟨by (with_reducible repeat (first | apply Kd.V_alloc | apply Kd.V_drewN | apply Kd.V_drew)); exact HO193.out⟩, ⟨by repeat (first | (with_reducible first | exact HB.out | apply below_alloc | apply pw_below_drewN | apply below_drew1) | exact HB.out)⟩⟩
                case rest =>
                  clear HC16
                  try clear c1
                  try clear c2
                  try clear p2
                  try clear c4
                  try clear c6
                  try clear p6
                  try clear c7
                  try clear c7b0
                  try clear c7b1
                  try clear c9
                  try clear c9b0
                  try clear c9b1
                  try clear c10
                  try clear c10b0
                  try clear c10b1
                  try clear c14
                  try clear c14b0
                  try clear c15
                  try clear c18
                  try clear c18b0
                  try clear c20
                  try clear c20b0
                  try clear c22
                  try clear p2
                  try clear p6
                  obtain ⟨kq, x65_15, rfl, HA, HJ15, HO_12, HO_14, HB⟩ := hcut
                  cases kq with
                  | zero => exact absurd HA.out (by simp [anneallaw26_BatchOnce.j1])
                  | succ kj15 =>
                    have H := HA.out
                    clear HA
                    simp only [anneallaw26_BatchOnce.j1] at H
                    by_cases c23 : x65_15 = true
                    · subst c23
                      have H1 : (some false) = some r := by rw [if_pos rfl] at H; exact H
                      clear H
                      have H := H1
                      clear H1
                      obtain rfl := Option.some.inj H
                      go_wp2
                      go_ret
                      exact ⟨by first | rfl | (simp [errW_none, errW_some] <;> rfl) | (simp only [← hji8]; first | rfl | (simp [errW_none, errW_some] <;> rfl)) | (simp [*, errW_none, errW_some] <;> rfl), by repeat (first | (with_reducible first | exact HB.out | apply below_alloc | apply pw_below_drewN | apply below_drew1) | exact HB.out)⟩
                    · replace c23 := Bool.eq_false_iff.mpr c23
                      subst c23
                      have H1 : (anneallaw26_BatchOnce.l1 kj15 a2 a3 ji8 (wrap64 ((wrap64 (Int.tmod a1 9)) + 1)) (wrap64 (Int.tdiv (wrap64 ((wrap64 ((ji8) + (wrap64 ((wrap64 (Int.tmod a1 9)) + 1)))) - 1)) (wrap64 ((wrap64 (Int.tmod a1 9)) + 1)))) x12_1 x13_1 t191 0) = some r := by rw [if_neg (show ¬ (false = true) by decide)] at H; exact H
                      clear H
                      have H := H1
                      clear H1
                      have H' := Aside0.mk H
                      clear H
                      go_wp2
                      go_loopg [15] kj15 (fun kq v15 w' => ∃ (x12_3 : List Int) (x15_3 : Int), v15 = .int .i64 x15_3 ∧ Aside0 (anneallaw26_BatchOnce.l1 kq a2 a3 ji8 (wrap64 ((wrap64 (Int.tmod a1 9)) + 1)) (wrap64 (Int.tdiv (wrap64 ((wrap64 ((ji8) + (wrap64 ((wrap64 (Int.tmod a1 9)) + 1)))) - 1)) (wrap64 ((wrap64 (Int.tmod a1 9)) + 1)))) x12_3 x13_1 t191 x15_3 = some r) ∧ Aside0 (kq ≤ kj15) ∧ Aside0 (Kd.R (Kd.int .i64) 3 w' w.heap.size (fun _ => True) v189 x12_3) ∧ Aside0 (Kd.V (Kd.int .i64) 3 w' w.heap.size (fun k_ => some k_ ≠ (v189 : Value).ownBlock) v192 t191) ∧ Aside0 (Below w.heap.size w w'))
                      case atStart => exact ⟨(x12_1), (0), (by first | rfl | (simp; done) | (simp [*]; done) | (congr 1; (try unfold wrap64); omega)), H', ⟨Nat.le_refl _⟩, ⟨by (with_reducible repeat (first | apply Kd.R_alloc | apply Kd.R_drewN | apply Kd.R_drew)); exact HO_12.out⟩, ⟨by (with_reducible repeat (first | apply Kd.V_alloc | apply Kd.V_drewN | apply Kd.V_drew)); exact HO_14.out⟩, ⟨by repeat (first | (with_reducible first | exact HB.out | apply below_alloc | apply pw_below_drewN | apply below_drew1) | exact HB.out)⟩⟩
                      case round =>
                        clear H'
                        try clear c1
                        try clear c2
                        try clear p2
                        try clear c4
                        try clear c6
                        try clear p6
                        try clear c7
                        try clear c7b0
                        try clear c7b1
                        try clear c9
                        try clear c9b0
                        try clear c9b1
                        try clear c10
                        try clear c10b0
                        try clear c10b1
                        try clear c14
                        try clear c14b0
                        try clear c15
                        try clear c18
                        try clear c18b0
                        try clear c20
                        try clear c20b0
                        try clear c22
                        try clear c23
                        try clear p2
                        try clear p6
                        obtain ⟨x12_3, x15_3, rfl, HA, HK3, HO_12, HO_14, HB⟩ := hrel
                        cases gk with
                        | zero => exact absurd HA.out (by simp [anneallaw26_BatchOnce.l1])
                        | succ k3 =>
                          have H := HA.out
                          clear HA
                          simp only [anneallaw26_BatchOnce.l1] at H
                          by_cases c24 : x15_3 < (t191.length : Int)
                          · rw [if_pos c24] at H
                            have c24b0 : decide (x15_3 < (t191.length : Int)) = true := decide_eq_true c24
                            clear c24
                            by_cases c25 : 0 ≤ x15_3
                            · rw [if_pos c25] at H
                              have c25b0 : decide (0 ≤ x15_3) = true := decide_eq_true c25
                              clear c25
                              by_cases c26 : (rd t191 x15_3) < 0
                              · rw [if_pos c26] at H
                                have c26b0 : decide ((rd t191 x15_3) < 0) = true := decide_eq_true c26
                                clear c26
                                obtain rfl := Option.some.inj H
                                obtain ⟨Ao27, co27, eo27⟩ := Kd.V_slice HO_14.out
                                subst eo27
                                have p194 : 0 ≤ (x15_3 : Int) := of_decide_eq_true (by first | (with_reducible assumption) | assumption)
                                have q194 : x15_3 < (t191.length : Int) := of_decide_eq_true (by first | (with_reducible assumption) | assumption)
                                obtain ⟨ad194, e194, hx194_0⟩ := Kd.at_int (Kd.V_reads' HO_14.out).2.2 x15_3 p194 q194
                                cases e194
                                replace p194 := eq_true p194
                                replace q194 := eq_true q194
                                go_wp2
                                go_ret
                                exact ⟨by first | rfl | (simp [errW_none, errW_some] <;> rfl) | (simp only [← hji8]; first | rfl | (simp [errW_none, errW_some] <;> rfl)) | (simp [*, errW_none, errW_some] <;> rfl), by repeat (first | (with_reducible first | exact HB.out | apply below_alloc | apply pw_below_drewN | apply below_drew1) | exact HB.out)⟩
                              · rw [if_neg c26] at H
                                have c26b0 : decide ((rd t191 x15_3) < 0) = false := decide_eq_false c26
                                clear c26
                                by_cases c28 : (rd t191 x15_3) ≥ ji8
                                · rw [if_pos c28] at H
                                  have c28b0 : decide (ji8 ≤ (rd t191 x15_3)) = true := decide_eq_true c28
                                  clear c28
                                  obtain rfl := Option.some.inj H
                                  obtain ⟨Ao29, co29, eo29⟩ := Kd.V_slice HO_14.out
                                  subst eo29
                                  have p194 : 0 ≤ (x15_3 : Int) := of_decide_eq_true (by first | (with_reducible assumption) | assumption)
                                  have q194 : x15_3 < (t191.length : Int) := of_decide_eq_true (by first | (with_reducible assumption) | assumption)
                                  obtain ⟨ad194, e194, hx194_0⟩ := Kd.at_int (Kd.V_reads' HO_14.out).2.2 x15_3 p194 q194
                                  cases e194
                                  replace p194 := eq_true p194
                                  replace q194 := eq_true q194
                                  have p195 : 0 ≤ (x15_3 : Int) := of_decide_eq_true (by first | (with_reducible assumption) | assumption)
                                  have q195 : x15_3 < (t191.length : Int) := of_decide_eq_true (by first | (with_reducible assumption) | assumption)
                                  obtain ⟨ad195, e195, hx195_0⟩ := Kd.at_int (Kd.V_reads' HO_14.out).2.2 x15_3 p195 q195
                                  obtain rfl : ad194 = ad195 := (by injection e195)
                                  replace p195 := eq_true p195
                                  replace q195 := eq_true q195
                                  go_wp2
                                  go_ret
                                  exact ⟨by first | rfl | (simp [errW_none, errW_some] <;> rfl) | (simp only [← hji8]; first | rfl | (simp [errW_none, errW_some] <;> rfl)) | (simp [*, errW_none, errW_some] <;> rfl), by repeat (first | (with_reducible first | exact HB.out | apply below_alloc | apply pw_below_drewN | apply below_drew1) | exact HB.out)⟩
                                · rw [if_neg c28] at H
                                  have c28b0 : decide (ji8 ≤ (rd t191 x15_3)) = false := decide_eq_false c28
                                  clear c28
                                  by_cases c30 : 0 ≤ (rd t191 x15_3)
                                  · rw [if_pos c30] at H
                                    have c30b0 : decide (0 ≤ (rd t191 x15_3)) = true := decide_eq_true c30
                                    clear c30
                                    by_cases c31 : (rd t191 x15_3) < (x12_3.length : Int)
                                    · rw [if_pos c31] at H
                                      have c31b0 : decide ((rd t191 x15_3) < (x12_3.length : Int)) = true := decide_eq_true c31
                                      clear c31
                                      obtain ⟨y198, hy198⟩ : ∃ y_ : List Int, y_ = (x12_3.set ((rd t191 x15_3) : Int).toNat (wrap64 ((rd x12_3 (rd t191 x15_3)) + 1))) := ⟨_, rfl⟩
                                      replace H : (anneallaw26_BatchOnce.l1 k3 a2 a3 ji8 (wrap64 ((wrap64 (Int.tmod a1 9)) + 1)) (wrap64 (Int.tdiv (wrap64 ((wrap64 ((ji8) + (wrap64 ((wrap64 (Int.tmod a1 9)) + 1)))) - 1)) (wrap64 ((wrap64 (Int.tmod a1 9)) + 1)))) y198 x13_1 t191 (wrap64 (x15_3 + 1))) = some r := by first | (rw [hy198]; with_reducible exact H) | (have H2_ := (Option.bind_some _ _).symm.trans H; rw [hy198]; with_reducible exact H2_) | (have H2_ := (Option.bind_some _ _).symm.trans H; with_reducible exact H2_) | with_reducible exact H | (rw [hy198]; exact H) | exact H
                                      have Ny198 := Aside0.mk hy198
                                      clear hy198
                                      have H' := Aside0.mk H
                                      clear H
                                      obtain ⟨Ao33, co33, eo33⟩ := Kd.V_slice HO_14.out
                                      subst eo33
                                      have p194 : 0 ≤ (x15_3 : Int) := of_decide_eq_true (by first | (with_reducible assumption) | assumption)
                                      have q194 : x15_3 < (t191.length : Int) := of_decide_eq_true (by first | (with_reducible assumption) | assumption)
                                      obtain ⟨ad194, e194, hx194_0⟩ := Kd.at_int (Kd.V_reads' HO_14.out).2.2 x15_3 p194 q194
                                      cases e194
                                      replace p194 := eq_true p194
                                      replace q194 := eq_true q194
                                      have p195 : 0 ≤ (x15_3 : Int) := of_decide_eq_true (by first | (with_reducible assumption) | assumption)
                                      have q195 : x15_3 < (t191.length : Int) := of_decide_eq_true (by first | (with_reducible assumption) | assumption)
                                      obtain ⟨ad195, e195, hx195_0⟩ := Kd.at_int (Kd.V_reads' HO_14.out).2.2 x15_3 p195 q195
                                      obtain rfl : ad194 = ad195 := (by injection e195)
                                      replace p195 := eq_true p195
                                      replace q195 := eq_true q195
                                      have p196 : 0 ≤ (x15_3 : Int) := of_decide_eq_true (by first | (with_reducible assumption) | assumption)
                                      have q196 : x15_3 < (t191.length : Int) := of_decide_eq_true (by first | (with_reducible assumption) | assumption)
                                      obtain ⟨ad196, e196, hx196_0⟩ := Kd.at_int (Kd.V_reads' HO_14.out).2.2 x15_3 p196 q196
                                      obtain rfl : ad194 = ad196 := (by injection e196)
                                      replace p196 := eq_true p196
                                      replace q196 := eq_true q196
                                      obtain ⟨Ao34, co34, eo34⟩ := Kd.R_slice HO_12.out
                                      subst eo34
                                      have p197 : 0 ≤ ((rd t191 x15_3) : Int) := of_decide_eq_true (by first | (with_reducible assumption) | assumption)
                                      have q197 : (rd t191 x15_3) < (x12_3.length : Int) := of_decide_eq_true (by first | (with_reducible assumption) | assumption)
                                      obtain ⟨ad197, e197, hx197_0⟩ := Kd.at_int (Kd.R_reads' HO_12.out).2.2 (rd t191 x15_3) p197 q197
                                      cases e197
                                      replace p197 := eq_true p197
                                      replace q197 := eq_true q197
                                      have p32 : 0 ≤ ((rd t191 x15_3) : Int) := of_decide_eq_true (by first | (with_reducible assumption) | assumption)
                                      have q32 : ((rd t191 x15_3) : Int) < ((x12_3.length : Int) : Int) := of_decide_eq_true (by first | (with_reducible assumption) | assumption)
                                      obtain ⟨go32, co32, eo32, gb32, gl32, cl32, HG32⟩ := Kd.R_form HO_12.out (by omega)
                                      (first | cases eo32 | (injection eo32 with ea_ en_ ec_; (first | subst ea_ | (injection ea_ with ea_; subst ea_)); subst ec_; clear en_))
                                      have GB32 := Aside0.mk gb32
                                      have GG32 := Aside0.mk HG32
                                      clear gb32 gl32 HG32
                                      (first | simp only [add_plain] at hx197_0 | skip)
                                      obtain ⟨hx32_0, hf32_0⟩ := Kd.R_celln 0 HO_12.out ((rd t191 x15_3) : Int) p32 q32
                                      replace p32 := eq_true p32
                                      replace q32 := eq_true q32
                                      have HP35 := Kd.R_putg HO_12.out ((rd t191 x15_3) : Int) (wrap64 ((rd x12_3 (rd t191 x15_3)) + 1))
                                      go_wp2_with (first | ((with_reducible refine gate_store (t := 3) (p := 93) rfl ?_); refine store_event (t := 3) (p := 93) (v := ?vo_w36) (w1 := (wr.setCell ⟨go32, ((rd t191 x15_3) : Int).toNat, none⟩ (.int .i64 (wrap64 ((rd x12_3 (rd t191 x15_3)) + 1))))) ?hg ?ho ?hn ?hr ?_; (case ho => rfl); (case hg => rfl); (case hn => rfl); (case hr => first | (go_simp; done) | (go_simp; rfl)); intro w36 hw; have hg : wr.grownBy w36 (some go32) := (by rw [hw]; exact HP35.2); have hp_ : Kd.R (Kd.int .i64) 3 w36 w.heap.size (fun _ => True) (.slice (some ⟨go32, 0, none⟩) x12_3.length co34) y198 := (by rw [hw, Ny198.out]; exact HP35.1); clear HP35; have n0_ := Aside0.mk (hp_); have n1_ := Aside0.mk (Kd.V_afterv (v := (.slice (some ⟨go32, 0, none⟩) x12_3.length co34)) (v1 := (.slice (some ⟨go32, 0, none⟩) x12_3.length co34)) (ok := (fun _ => True)) (by (with_reducible repeat (first | apply Kd.V_alloc | apply Kd.V_drewN | apply Kd.V_drew)); exact Kd.V_mono HO_14.out (fun _ hk => ⟨trivial, hk⟩)) hg (.inl rfl)); have n2_ := Aside0.mk ((by rw [hw]; exact below_set (HB.out) GB32.out : Below w.heap.size w w36)); clear HO_12; clear HO_14; clear HB; have HO_12 := n0_; have HO_14 := n1_; have HB := n2_; clear n0_ n1_ n2_; clear hg hw hp_))
                                      go_roundg k3
                                      case measure => have := HK1.out; have := HJ15.out; have := HK3.out; omega
                                      case rel => exact ⟨(y198), (wrap64 (x15_3 + 1)), (by first | rfl | (simp; done) | (simp [*]; done) | (congr 1; (try unfold wrap64); omega)), H', ⟨by have := HK1.out; have := HJ15.out; have := HK3.out; omega⟩, ⟨by (with_reducible repeat (first | apply Kd.R_alloc | apply Kd.R_drewN | apply Kd.R_drew)); exact HO_12.out⟩, ⟨by (with_reducible repeat (first | apply Kd.V_alloc | apply Kd.V_drewN | apply Kd.V_drew)); exact Kd.V_mono HO_14.out (fun _ hk => hk.2)⟩, ⟨by repeat (first | (with_reducible first | exact HB.out | apply below_alloc | apply pw_below_drewN | apply below_drew1) | exact HB.out)⟩⟩
                                    · rw [if_neg c31] at H
                                      exact absurd H (by simp)
                                  · rw [if_neg c30] at H
                                    exact absurd H (by simp)
                            · rw [if_neg c25] at H
                              exact absurd H (by simp)
                          · rw [if_neg c24] at H
                            have c24b0 : decide (x15_3 < (t191.length : Int)) = false := decide_eq_false c24
                            clear c24
                            have H' := Aside0.mk H
                            clear H
                            obtain ⟨Ao37, co37, eo37⟩ := Kd.V_slice HO_14.out
                            subst eo37
                            go_wp2
                            go_roundg k3
                            case measure => have := HK1.out; have := HJ15.out; have := HK3.out; omega
                            case rel => exact ⟨(x12_3), (wrap64 (x13_1 + 1)), (by first | rfl | (simp; done) | (simp [*]; done) | (congr 1; (try unfold wrap64); omega)), H', ⟨by have := HK1.out; have := HJ15.out; have := HK3.out; omega⟩, ⟨by (with_reducible repeat (first | apply Kd.R_alloc | apply Kd.R_drewN | apply Kd.R_drew)); exact HO_12.out⟩, ⟨by repeat (first | (with_reducible first | exact HB.out | apply below_alloc | apply pw_below_drewN | apply below_drew1) | exact HB.out)⟩⟩
              · rw [if_neg c14] at H
                have c14b0 : decide (x13_1 < (wrap64 (Int.tdiv (wrap64 ((wrap64 ((ji8) + (wrap64 ((wrap64 (Int.tmod a1 9)) + 1)))) - 1)) (wrap64 ((wrap64 (Int.tmod a1 9)) + 1))))) = false := decide_eq_false c14
                clear c14
                have H' := Aside0.mk H
                clear H
                go_wp2
                go_loopg [16] k1 (fun kq v16 w' => ∃ (x16_2 : Int), v16 = .int .i64 x16_2 ∧ Aside0 (anneallaw26_BatchOnce.l2 kq ji8 x12_1 x16_2 = some r) ∧ Aside0 (kq ≤ k1) ∧ Aside0 (Kd.R (Kd.int .i64) 3 w' w.heap.size (fun _ => True) v189 x12_1) ∧ Aside0 (Below w.heap.size w w'))
                case atStart => exact ⟨(0), (by first | rfl | (simp; done) | (simp [*]; done) | (congr 1; (try unfold wrap64); omega)), H', ⟨Nat.le_refl _⟩, ⟨by (with_reducible repeat (first | apply Kd.R_alloc | apply Kd.R_drewN | apply Kd.R_drew)); exact HO_12.out⟩, ⟨by repeat (first | (with_reducible first | exact HB.out | apply below_alloc | apply pw_below_drewN | apply below_drew1) | exact HB.out)⟩⟩
                case round =>
                  clear H'
                  try clear c1
                  try clear p1
                  try clear q1
                  try clear hx1
                  try clear c2
                  try clear p2
                  try clear c3
                  try clear p3
                  try clear q3
                  try clear hx3
                  try clear c4
                  try clear c6
                  try clear p6
                  try clear c7
                  try clear c7b0
                  try clear c7b1
                  try clear c9
                  try clear c9b0
                  try clear c9b1
                  try clear c10
                  try clear c10b0
                  try clear c10b1
                  try clear c14
                  try clear c14b0
                  try clear c15
                  try clear c18
                  try clear c18b0
                  try clear p19
                  try clear q19
                  try clear hx19
                  try clear c20
                  try clear c20b0
                  try clear c22
                  try clear c23
                  try clear c24
                  try clear c24b0
                  try clear c25
                  try clear c25b0
                  try clear c26
                  try clear c26b0
                  try clear c28
                  try clear c28b0
                  try clear c30
                  try clear c30b0
                  try clear c31
                  try clear c31b0
                  try clear p32
                  try clear q32
                  try clear hx32
                  try clear hf32
                  try clear hx194_0
                  try clear hx195_0
                  try clear hx196_0
                  try clear hx197_0
                  try clear hx32_0
                  try clear p194
                  try clear p195
                  try clear p196
                  try clear p197
                  try clear p2
                  try clear p32
                  try clear p6
                  try clear q194
                  try clear q195
                  try clear q196
                  try clear q197
                  try clear q32
                  obtain ⟨x16_2, rfl, HA, HK2, HO_12, HB⟩ := hrel
                  cases gk with
                  | zero => exact absurd HA.out (by simp [anneallaw26_BatchOnce.l2])
                  | succ k2 =>
                    have H := HA.out
                    clear HA
                    simp only [anneallaw26_BatchOnce.l2] at H
                    by_cases c38 : x16_2 < ji8
                    · rw [if_pos c38] at H
                      have c38b0 : decide (x16_2 < ji8) = true := decide_eq_true c38
                      clear c38
                      by_cases c39 : 0 ≤ x16_2
                      · rw [if_pos c39] at H
                        have c39b0 : decide (0 ≤ x16_2) = true := decide_eq_true c39
                        clear c39
                        by_cases c40 : x16_2 < (x12_1.length : Int)
                        · rw [if_pos c40] at H
                          have c40b0 : decide (x16_2 < (x12_1.length : Int)) = true := decide_eq_true c40
                          clear c40
                          by_cases c41 : (rd x12_1 x16_2) = 1
                          · rw [if_pos c41] at H
                            have c41b0 : ((rd x12_1 x16_2) == 1) = true := beq_iff_eq.mpr c41
                            have c41b1 : ((rd x12_1 x16_2) != 1) = false := bne_eq_false_iff_eq.mpr c41
                            clear c41
                            have H' := Aside0.mk H
                            clear H
                            obtain ⟨Ao42, co42, eo42⟩ := Kd.R_slice HO_12.out
                            subst eo42
                            have p199 : 0 ≤ (x16_2 : Int) := of_decide_eq_true (by first | (with_reducible assumption) | assumption)
                            have q199 : x16_2 < (x12_1.length : Int) := of_decide_eq_true (by first | (with_reducible assumption) | assumption)
                            obtain ⟨ad199, e199, hx199_0⟩ := Kd.at_int (Kd.R_reads' HO_12.out).2.2 x16_2 p199 q199
                            cases e199
                            replace p199 := eq_true p199
                            replace q199 := eq_true q199
                            go_wp2
                            go_roundg k2
                            case measure => have := HK1.out; have := HK2.out; omega
                            case rel => exact ⟨(wrap64 (x16_2 + 1)), (by first | rfl | (simp; done) | (simp [*]; done) | (congr 1; (try unfold wrap64); omega)), H', ⟨by have := HK1.out; have := HK2.out; omega⟩, ⟨by (with_reducible repeat (first | apply Kd.R_alloc | apply Kd.R_drewN | apply Kd.R_drew)); exact HO_12.out⟩, ⟨by repeat (first | (with_reducible first | exact HB.out | apply below_alloc | apply pw_below_drewN | apply below_drew1) | exact HB.out)⟩⟩
                          · rw [if_neg c41] at H
                            have c41b0 : ((rd x12_1 x16_2) == 1) = false := beq_eq_false_iff_ne.mpr c41
                            have c41b1 : ((rd x12_1 x16_2) != 1) = true := bne_iff_ne.mpr c41
                            obtain rfl := Option.some.inj H
                            obtain ⟨Ao43, co43, eo43⟩ := Kd.R_slice HO_12.out
                            subst eo43
                            have p199 : 0 ≤ (x16_2 : Int) := of_decide_eq_true (by first | (with_reducible assumption) | assumption)
                            have q199 : x16_2 < (x12_1.length : Int) := of_decide_eq_true (by first | (with_reducible assumption) | assumption)
                            obtain ⟨ad199, e199, hx199_0⟩ := Kd.at_int (Kd.R_reads' HO_12.out).2.2 x16_2 p199 q199
                            cases e199
                            replace p199 := eq_true p199
                            replace q199 := eq_true q199
                            go_wp2
                            go_ret
                            exact ⟨by first | rfl | (simp [errW_none, errW_some] <;> rfl) | (simp only [← hji8]; first | rfl | (simp [errW_none, errW_some] <;> rfl)) | (simp [*, errW_none, errW_some] <;> rfl), by repeat (first | (with_reducible first | exact HB.out | apply below_alloc | apply pw_below_drewN | apply below_drew1) | exact HB.out)⟩
                        · rw [if_neg c40] at H
                          exact absurd H (by simp)
                      · rw [if_neg c39] at H
                        exact absurd H (by simp)
                    · rw [if_neg c38] at H
                      have c38b0 : decide (x16_2 < ji8) = false := decide_eq_false c38
                      clear c38
                      obtain rfl := Option.some.inj H
                      go_wp2
                      go_ret
                      exact ⟨by first | rfl | (simp [errW_none, errW_some] <;> rfl) | (simp only [← hji8]; first | rfl | (simp [errW_none, errW_some] <;> rfl)) | (simp [*, errW_none, errW_some] <;> rfl), by repeat (first | (with_reducible first | exact HB.out | apply below_alloc | apply pw_below_drewN | apply below_drew1) | exact HB.out)⟩
        · rw [if_neg c10] at H
          exact absurd H (by simp)
      · rw [if_neg c9] at H
        exact absurd H (by simp)
  · replace c6 := Bool.eq_false_iff.mpr c6
    subst c6
    have H1 : (some false) = some r := by rw [if_neg (show ¬ (false = true) by decide)] at H; exact H
    clear H
    have H := H1
    clear H1
    obtain rfl := Option.some.inj H
    go_enter Try.func4, Try.ntmps4
    go_wp2_with (first | ((with_reducible refine gate_callee (f := 15) rfl ?_); refine goesL_ (some 17) rfl rfl Try.func15 (by kernel_rfl) rfl #[] rfl (by (try simp only [List.map_toArray, List.map_cons, List.map_nil]); first | done | rfl | (simp only [List.length_drop, List.length_take]; rfl)) ?_; (with_reducible refine (anneallaw26_known.calls k  false _ A5.out).mono ?_); rintro e w44 ⟨rfl, hb⟩; refine ⟨_, rfl, ?_⟩; have n0_ := Aside0.mk (below_step (by repeat (first | (with_reducible first | exact HB.out | apply below_alloc | apply pw_below_drewN | apply below_drew1) | exact HB.out)) hb); clear HB; have HB := n0_; clear n0_; (try clear hb); (try clear hb2); (try clear hk); (try clear hi)))
    go_ret
    exact ⟨by first | rfl | (simp [errW_none, errW_some] <;> rfl) | (simp [*, errW_none, errW_some] <;> rfl), by repeat (first | (with_reducible first | exact HB.out | apply below_alloc | apply pw_below_drewN | apply below_drew1) | exact HB.out)⟩

/-- THE ONE PURE STATEMENT of anneallaw26_BatchOnce: yours. -/
def anneallaw26_BatchOnce.Pure : Prop := ∀ (a0 : Int) (a1 : Int) (a2 : Int) (a3 : Int), (Lit.int .u8 a0).wf = true → (Lit.int .u8 a1).wf = true → (Lit.int .u64 a2).wf = true → (Lit.int .u8 a3).wf = true → ∃ k, anneallaw26_BatchOnce.f k a0 a1 a2 a3 = some true
theorem anneallaw26_BatchOnce.walk (P : anneallaw26_BatchOnce.Pure) (a0 : Int) (a1 : Int) (a2 : Int) (a3 : Int) (w : World) (w0 : (Lit.int .u8 a0).wf = true) (w1 : (Lit.int .u8 a1).wf = true) (w2 : (Lit.int .u64 a2).wf = true) (w3 : (Lit.int .u8 a3).wf = true) :
    Calls Try.prog 4 #[.int .u8 a0, .int .u8 a1, .int .u64 a2, .int .u8 a3] w fun e w' => e = .returned (.bool true) ∧ Below w.heap.size w w' := by
  obtain ⟨k, h⟩ := P a0 a1 a2 a3 w0 w1 w2 w3
  refine (anneallaw26_BatchOnce.calls k a0 a1 a2 a3 true w h).mono ?_
  rintro e w' ⟨rfl, hd⟩
  exact ⟨rfl, hd⟩

end Go.Proofs.Ytjmihdhclbjaeaa.P
