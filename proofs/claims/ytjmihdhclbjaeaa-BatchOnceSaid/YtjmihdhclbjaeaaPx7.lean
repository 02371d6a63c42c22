-- Printed by a program of this session's out of Lean's print of the translation; Lean checks it.
import Derived.Test.YtjmihdhclbjaeaaPx0
import Derived.Test.YtjmihdhclbjaeaaPx1
import Derived.Test.YtjmihdhclbjaeaaPx3
namespace Go.Proofs.Ytjmihdhclbjaeaa.P
open Go.RowKit Go.Proofs.YtjmihdhclbjaeaaW.PrintWords Go.Proofs.YtjmihdhclbjaeaaW.PrintLast Go.Proofs.YtjmihdhclbjaeaaW.PrintMore
attribute [local go_sem] max2_int min2_int max_two min_two max_three min_three max_four min_four   -- for this text's walks alone
set_option linter.unusedVariables false
set_option linter.unusedSimpArgs false

/-! ### anneallaw26_BatchEpochs: function 5 -/
def anneallaw26_BatchEpochs.f (k : Nat) (a0 : Int) (a1 : Int) (a2 : Int) : Option (Bool) := (anneallaw26_known.f k).bind fun t200 => (if t200 = true then ((batch_Epochs.f (wrap64 ((wrap64 (Int.tmod a0 50)) + 1)) (wrap64 ((wrap64 (Int.tmod a1 9)) + 1)) (wrap64 (a2))).bind fun bt201 => (if (wrap64 ((wrap64 (Int.tmod a1 9)) + 1)) = 0 then (none) else ((batch_Epochs.f 0 (wrap64 ((wrap64 (Int.tmod a1 9)) + 1)) (wrap64 (a2))).bind fun bt203 => (if (wrap64 ((wrap64 (bt201.1 * (wrap64 (Int.tdiv (wrap64 ((wrap64 ((wrap64 ((wrap64 (Int.tmod a0 50)) + 1)) + (wrap64 ((wrap64 (Int.tmod a1 9)) + 1)))) - 1)) (wrap64 ((wrap64 (Int.tmod a1 9)) + 1)))))) + bt201.2)) = (wrap64 (a2)) then (if bt201.2 ≥ 0 then (if bt201.2 < (wrap64 (Int.tdiv (wrap64 ((wrap64 ((wrap64 ((wrap64 (Int.tmod a0 50)) + 1)) + (wrap64 ((wrap64 (Int.tmod a1 9)) + 1)))) - 1)) (wrap64 ((wrap64 (Int.tmod a1 9)) + 1)))) then (if bt203.1 = 0 then (some (bt203.2 == 0)) else (some false)) else (some false)) else (some false)) else (some false))))) else (some false))
theorem anneallaw26_BatchEpochs.mono : ∀ a0 a1 a2 k, LeO (anneallaw26_BatchEpochs.f k a0 a1 a2) (anneallaw26_BatchEpochs.f (k + 1) a0 a1 a2) := by
  intro a0 a1 a2 k
  unfold anneallaw26_BatchEpochs.f
  repeat' first
      | (with_reducible exact anneallaw26_known.mono _)
      | (with_reducible exact LeO.refl _)
      | (with_reducible exact LeO.none _)
      | (with_reducible refine LeO.ite ?_ ?_)
      | (with_reducible refine LeO.bind ?_ (fun _ => ?_))
      | exact anneallaw26_known.mono _
      | exact LeO.none _
      | refine LeO.ite ?_ ?_
      | refine LeO.bind ?_ (fun _ => ?_)
set_option maxHeartbeats 8000000 in
set_option maxRecDepth 100000 in
theorem anneallaw26_BatchEpochs.calls (k : Nat) (a0 : Int) (a1 : Int) (a2 : Int) (r : Bool) (w : World) (h : anneallaw26_BatchEpochs.f k a0 a1 a2 = some r) :
    Calls Try.prog 5 #[.int .u8 a0, .int .u8 a1, .int .u16 a2] w fun e w' => e = .returned (.bool r) ∧ Below w.heap.size w w' := by
  have HB := Aside0.mk (Below.refl w.heap.size w)
  have H : ((anneallaw26_known.f k).bind fun t200 => (if t200 = true then ((batch_Epochs.f (wrap64 ((wrap64 (Int.tmod a0 50)) + 1)) (wrap64 ((wrap64 (Int.tmod a1 9)) + 1)) (wrap64 (a2))).bind fun bt201 => (if (wrap64 ((wrap64 (Int.tmod a1 9)) + 1)) = 0 then (none) else ((batch_Epochs.f 0 (wrap64 ((wrap64 (Int.tmod a1 9)) + 1)) (wrap64 (a2))).bind fun bt203 => (if (wrap64 ((wrap64 (bt201.1 * (wrap64 (Int.tdiv (wrap64 ((wrap64 ((wrap64 ((wrap64 (Int.tmod a0 50)) + 1)) + (wrap64 ((wrap64 (Int.tmod a1 9)) + 1)))) - 1)) (wrap64 ((wrap64 (Int.tmod a1 9)) + 1)))))) + bt201.2)) = (wrap64 (a2)) then (if bt201.2 ≥ 0 then (if bt201.2 < (wrap64 (Int.tdiv (wrap64 ((wrap64 ((wrap64 ((wrap64 (Int.tmod a0 50)) + 1)) + (wrap64 ((wrap64 (Int.tmod a1 9)) + 1)))) - 1)) (wrap64 ((wrap64 (Int.tmod a1 9)) + 1)))) then (if bt203.1 = 0 then (some (bt203.2 == 0)) else (some false)) else (some false)) else (some false)) else (some false))))) else (some false))) = some r := h
  clear h
  replace H := Option.bind_eq_some_iff.mp H
  obtain ⟨t200, A40, H⟩ := H
  replace H : (if t200 = true then ((batch_Epochs.f (wrap64 ((wrap64 (Int.tmod a0 50)) + 1)) (wrap64 ((wrap64 (Int.tmod a1 9)) + 1)) (wrap64 (a2))).bind fun bt201 => (if (wrap64 ((wrap64 (Int.tmod a1 9)) + 1)) = 0 then (none) else ((batch_Epochs.f 0 (wrap64 ((wrap64 (Int.tmod a1 9)) + 1)) (wrap64 (a2))).bind fun bt203 => (if (wrap64 ((wrap64 (bt201.1 * (wrap64 (Int.tdiv (wrap64 ((wrap64 ((wrap64 ((wrap64 (Int.tmod a0 50)) + 1)) + (wrap64 ((wrap64 (Int.tmod a1 9)) + 1)))) - 1)) (wrap64 ((wrap64 (Int.tmod a1 9)) + 1)))))) + bt201.2)) = (wrap64 (a2)) then (if bt201.2 ≥ 0 then (if bt201.2 < (wrap64 (Int.tdiv (wrap64 ((wrap64 ((wrap64 ((wrap64 (Int.tmod a0 50)) + 1)) + (wrap64 ((wrap64 (Int.tmod a1 9)) + 1)))) - 1)) (wrap64 ((wrap64 (Int.tmod a1 9)) + 1)))) then (if bt203.1 = 0 then (some (bt203.2 == 0)) else (some false)) else (some false)) else (some false)) else (some false))))) else (some false)) = some r := H
  have A4 := Aside0.mk A40
  clear A40
  by_cases c5 : t200 = true
  · subst c5
    have H1 : ((batch_Epochs.f (wrap64 ((wrap64 (Int.tmod a0 50)) + 1)) (wrap64 ((wrap64 (Int.tmod a1 9)) + 1)) (wrap64 (a2))).bind fun bt201 => (if (wrap64 ((wrap64 (Int.tmod a1 9)) + 1)) = 0 then (none) else ((batch_Epochs.f 0 (wrap64 ((wrap64 (Int.tmod a1 9)) + 1)) (wrap64 (a2))).bind fun bt203 => (if (wrap64 ((wrap64 (bt201.1 * (wrap64 (Int.tdiv (wrap64 ((wrap64 ((wrap64 ((wrap64 (Int.tmod a0 50)) + 1)) + (wrap64 ((wrap64 (Int.tmod a1 9)) + 1)))) - 1)) (wrap64 ((wrap64 (Int.tmod a1 9)) + 1)))))) + bt201.2)) = (wrap64 (a2)) then (if bt201.2 ≥ 0 then (if bt201.2 < (wrap64 (Int.tdiv (wrap64 ((wrap64 ((wrap64 ((wrap64 (Int.tmod a0 50)) + 1)) + (wrap64 ((wrap64 (Int.tmod a1 9)) + 1)))) - 1)) (wrap64 ((wrap64 (Int.tmod a1 9)) + 1)))) then (if bt203.1 = 0 then (some (bt203.2 == 0)) else (some false)) else (some false)) else (some false)) else (some false))))) = some r := by rw [if_pos rfl] at H; exact H
    clear H
    have H := H1
    clear H1
    replace H := Option.bind_eq_some_iff.mp H
    obtain ⟨⟨t201, t202⟩, A60, H⟩ := H
    replace H : (if (wrap64 ((wrap64 (Int.tmod a1 9)) + 1)) = 0 then (none) else ((batch_Epochs.f 0 (wrap64 ((wrap64 (Int.tmod a1 9)) + 1)) (wrap64 (a2))).bind fun bt203 => (if (wrap64 ((wrap64 (t201 * (wrap64 (Int.tdiv (wrap64 ((wrap64 ((wrap64 ((wrap64 (Int.tmod a0 50)) + 1)) + (wrap64 ((wrap64 (Int.tmod a1 9)) + 1)))) - 1)) (wrap64 ((wrap64 (Int.tmod a1 9)) + 1)))))) + t202)) = (wrap64 (a2)) then (if t202 ≥ 0 then (if t202 < (wrap64 (Int.tdiv (wrap64 ((wrap64 ((wrap64 ((wrap64 (Int.tmod a0 50)) + 1)) + (wrap64 ((wrap64 (Int.tmod a1 9)) + 1)))) - 1)) (wrap64 ((wrap64 (Int.tmod a1 9)) + 1)))) then (if bt203.1 = 0 then (some (bt203.2 == 0)) else (some false)) else (some false)) else (some false)) else (some false)))) = some r := H
    have A6 := Aside0.mk A60
    clear A60
    by_cases c7 : (wrap64 ((wrap64 (Int.tmod a1 9)) + 1)) = 0
    · rw [if_pos c7] at H
      exact absurd H (by simp)
    · rw [if_neg c7] at H
      have c7b0 : ((wrap64 ((wrap64 (Int.tmod a1 9)) + 1)) == 0) = false := beq_eq_false_iff_ne.mpr c7
      have c7b1 : ((wrap64 ((wrap64 (Int.tmod a1 9)) + 1)) != 0) = true := bne_iff_ne.mpr c7
      replace H := Option.bind_eq_some_iff.mp H
      obtain ⟨⟨t203, t204⟩, A80, H⟩ := H
      replace H : (if (wrap64 ((wrap64 (t201 * (wrap64 (Int.tdiv (wrap64 ((wrap64 ((wrap64 ((wrap64 (Int.tmod a0 50)) + 1)) + (wrap64 ((wrap64 (Int.tmod a1 9)) + 1)))) - 1)) (wrap64 ((wrap64 (Int.tmod a1 9)) + 1)))))) + t202)) = (wrap64 (a2)) then (if t202 ≥ 0 then (if t202 < (wrap64 (Int.tdiv (wrap64 ((wrap64 ((wrap64 ((wrap64 (Int.tmod a0 50)) + 1)) + (wrap64 ((wrap64 (Int.tmod a1 9)) + 1)))) - 1)) (wrap64 ((wrap64 (Int.tmod a1 9)) + 1)))) then (if t203 = 0 then (some (t204 == 0)) else (some false)) else (some false)) else (some false)) else (some false)) = some r := H
      have A8 := Aside0.mk A80
      clear A80
      by_cases c9 : (wrap64 ((wrap64 (t201 * (wrap64 (Int.tdiv (wrap64 ((wrap64 ((wrap64 ((wrap64 (Int.tmod a0 50)) + 1)) + (wrap64 ((wrap64 (Int.tmod a1 9)) + 1)))) - 1)) (wrap64 ((wrap64 (Int.tmod a1 9)) + 1)))))) + t202)) = (wrap64 (a2))
      · rw [if_pos c9] at H
        have c9b0 : ((wrap64 ((wrap64 (t201 * (wrap64 (Int.tdiv (wrap64 ((wrap64 ((wrap64 ((wrap64 (Int.tmod a0 50)) + 1)) + (wrap64 ((wrap64 (Int.tmod a1 9)) + 1)))) - 1)) (wrap64 ((wrap64 (Int.tmod a1 9)) + 1)))))) + t202)) == (wrap64 (a2))) = true := beq_iff_eq.mpr c9
        have c9b1 : ((wrap64 ((wrap64 (t201 * (wrap64 (Int.tdiv (wrap64 ((wrap64 ((wrap64 ((wrap64 (Int.tmod a0 50)) + 1)) + (wrap64 ((wrap64 (Int.tmod a1 9)) + 1)))) - 1)) (wrap64 ((wrap64 (Int.tmod a1 9)) + 1)))))) + t202)) != (wrap64 (a2))) = false := bne_eq_false_iff_eq.mpr c9
        clear c9
        by_cases c10 : t202 ≥ 0
        · rw [if_pos c10] at H
          have c10b0 : decide (0 ≤ t202) = true := decide_eq_true c10
          clear c10
          by_cases c11 : t202 < (wrap64 (Int.tdiv (wrap64 ((wrap64 ((wrap64 ((wrap64 (Int.tmod a0 50)) + 1)) + (wrap64 ((wrap64 (Int.tmod a1 9)) + 1)))) - 1)) (wrap64 ((wrap64 (Int.tmod a1 9)) + 1))))
          · rw [if_pos c11] at H
            have c11b0 : decide (t202 < (wrap64 (Int.tdiv (wrap64 ((wrap64 ((wrap64 ((wrap64 (Int.tmod a0 50)) + 1)) + (wrap64 ((wrap64 (Int.tmod a1 9)) + 1)))) - 1)) (wrap64 ((wrap64 (Int.tmod a1 9)) + 1))))) = true := decide_eq_true c11
            clear c11
            by_cases c12 : t203 = 0
            · rw [if_pos c12] at H
              have c12b0 : (t203 == 0) = true := beq_iff_eq.mpr c12
              have c12b1 : (t203 != 0) = false := bne_eq_false_iff_eq.mpr c12
              clear c12
              obtain rfl := Option.some.inj H
              go_enter Try.func5, Try.ntmps5
              go_wp2_with (first | ((with_reducible refine gate_callee (f := 15) rfl ?_); refine goesL_ (some 14) rfl rfl Try.func15 (by kernel_rfl) rfl #[] rfl (by (try simp only [List.map_toArray, List.map_cons, List.map_nil]); first | done | rfl | (simp only [List.length_drop, List.length_take]; rfl)) ?_; (with_reducible refine (anneallaw26_known.calls k  true _ A4.out).mono ?_); rintro e w13 ⟨rfl, hb⟩; refine ⟨_, rfl, ?_⟩; have n0_ := Aside0.mk (below_step (by repeat (first | (with_reducible first | exact HB.out | apply below_alloc | apply pw_below_drewN | apply below_drew1) | exact HB.out)) hb); clear HB; have HB := n0_; clear n0_; (try clear hb); (try clear hb2); (try clear hk); (try clear hi)) | ((with_reducible refine gate_callee (f := 17) rfl ?_); refine goesL_ (some 29) rfl rfl Try.func17 (by kernel_rfl) rfl #[.int .i64 (wrap64 ((wrap64 (Int.tmod a0 50)) + 1)), .int .i64 (wrap64 ((wrap64 (Int.tmod a1 9)) + 1)), .int .i64 (wrap64 (a2))] rfl (by (try simp only [List.map_toArray, List.map_cons, List.map_nil]); first | done | rfl | (simp only [List.length_drop, List.length_take]; rfl)) ?_; (with_reducible refine (batch_Epochs.calls (wrap64 ((wrap64 (Int.tmod a0 50)) + 1)) (wrap64 ((wrap64 (Int.tmod a1 9)) + 1)) (wrap64 (a2)) t201 t202 _ A6.out).mono ?_); rintro e w14 ⟨rfl, hb⟩; refine ⟨_, rfl, ?_⟩; have n0_ := Aside0.mk (below_step (by repeat (first | (with_reducible first | exact HB.out | apply below_alloc | apply pw_below_drewN | apply below_drew1) | exact HB.out)) hb); clear HB; have HB := n0_; clear n0_; (try clear hb); (try clear hb2); (try clear hk); (try clear hi)) | ((with_reducible refine gate_callee (f := 17) rfl ?_); refine goesL_ (some 42) rfl rfl Try.func17 (by kernel_rfl) rfl #[.int .i64 0, .int .i64 (wrap64 ((wrap64 (Int.tmod a1 9)) + 1)), .int .i64 (wrap64 (a2))] rfl (by (try simp only [List.map_toArray, List.map_cons, List.map_nil]); first | done | rfl | (simp only [List.length_drop, List.length_take]; rfl)) ?_; (with_reducible refine (batch_Epochs.calls 0 (wrap64 ((wrap64 (Int.tmod a1 9)) + 1)) (wrap64 (a2)) t203 t204 _ A8.out).mono ?_); rintro e w15 ⟨rfl, hb⟩; refine ⟨_, rfl, ?_⟩; have n0_ := Aside0.mk (below_step (by repeat (first | (with_reducible first | exact HB.out | apply below_alloc | apply pw_below_drewN | apply below_drew1) | exact HB.out)) hb); clear HB; have HB := n0_; clear n0_; (try clear hb); (try clear hb2); (try clear hk); (try clear hi)))
              go_ret
              exact ⟨by first | rfl | (simp [errW_none, errW_some] <;> rfl) | (simp [*, errW_none, errW_some] <;> rfl), by repeat (first | (with_reducible first | exact HB.out | apply below_alloc | apply pw_below_drewN | apply below_drew1) | exact HB.out)⟩
            · rw [if_neg c12] at H
              have c12b0 : (t203 == 0) = false := beq_eq_false_iff_ne.mpr c12
              have c12b1 : (t203 != 0) = true := bne_iff_ne.mpr c12
              obtain rfl := Option.some.inj H
              go_enter Try.func5, Try.ntmps5
              go_wp2_with (first | ((with_reducible refine gate_callee (f := 15) rfl ?_); refine goesL_ (some 14) rfl rfl Try.func15 (by kernel_rfl) rfl #[] rfl (by (try simp only [List.map_toArray, List.map_cons, List.map_nil]); first | done | rfl | (simp only [List.length_drop, List.length_take]; rfl)) ?_; (with_reducible refine (anneallaw26_known.calls k  true _ A4.out).mono ?_); rintro e w16 ⟨rfl, hb⟩; refine ⟨_, rfl, ?_⟩; have n0_ := Aside0.mk (below_step (by repeat (first | (with_reducible first | exact HB.out | apply below_alloc | apply pw_below_drewN | apply below_drew1) | exact HB.out)) hb); clear HB; have HB := n0_; clear n0_; (try clear hb); (try clear hb2); (try clear hk); (try clear hi)) | ((with_reducible refine gate_callee (f := 17) rfl ?_); refine goesL_ (some 29) rfl rfl Try.func17 (by kernel_rfl) rfl #[.int .i64 (wrap64 ((wrap64 (Int.tmod a0 50)) + 1)), .int .i64 (wrap64 ((wrap64 (Int.tmod a1 9)) + 1)), .int .i64 (wrap64 (a2))] rfl (by (try simp only [List.map_toArray, List.map_cons, List.map_nil]); first | done | rfl | (simp only [List.length_drop, List.length_take]; rfl)) ?_; (with_reducible refine (batch_Epochs.calls (wrap64 ((wrap64 (Int.tmod a0 50)) + 1)) (wrap64 ((wrap64 (Int.tmod a1 9)) + 1)) (wrap64 (a2)) t201 t202 _ A6.out).mono ?_); rintro e w17 ⟨rfl, hb⟩; refine ⟨_, rfl, ?_⟩; have n0_ := Aside0.mk (below_step (by repeat (first | (with_reducible first | exact HB.out | apply below_alloc | apply pw_below_drewN | apply below_drew1) | exact HB.out)) hb); clear HB; have HB := n0_; clear n0_; (try clear hb); (try clear hb2); (try clear hk); (try clear hi)) | ((with_reducible refine gate_callee (f := 17) rfl ?_); refine goesL_ (some 42) rfl rfl Try.func17 (by kernel_rfl) rfl #[.int .i64 0, .int .i64 (wrap64 ((wrap64 (Int.tmod a1 9)) + 1)), .int .i64 (wrap64 (a2))] rfl (by (try simp only [List.map_toArray, List.map_cons, List.map_nil]); first | done | rfl | (simp only [List.length_drop, List.length_take]; rfl)) ?_; (with_reducible refine (batch_Epochs.calls 0 (wrap64 ((wrap64 (Int.tmod a1 9)) + 1)) (wrap64 (a2)) t203 t204 _ A8.out).mono ?_); rintro e w18 ⟨rfl, hb⟩; refine ⟨_, rfl, ?_⟩; have n0_ := Aside0.mk (below_step (by repeat (first | (with_reducible first | exact HB.out | apply below_alloc | apply pw_below_drewN | apply below_drew1) | exact HB.out)) hb); clear HB; have HB := n0_; clear n0_; (try clear hb); (try clear hb2); (try clear hk); (try clear hi)))
              go_ret
              exact ⟨by first | rfl | (simp [errW_none, errW_some] <;> rfl) | (simp [*, errW_none, errW_some] <;> rfl), by repeat (first | (with_reducible first | exact HB.out | apply below_alloc | apply pw_below_drewN | apply below_drew1) | exact HB.out)⟩
          · rw [if_neg c11] at H
            have c11b0 : decide (t202 < (wrap64 (Int.tdiv (wrap64 ((wrap64 ((wrap64 ((wrap64 (Int.tmod a0 50)) + 1)) + (wrap64 ((wrap64 (Int.tmod a1 9)) + 1)))) - 1)) (wrap64 ((wrap64 (Int.tmod a1 9)) + 1))))) = false := decide_eq_false c11
            clear c11
            obtain rfl := Option.some.inj H
            go_enter Try.func5, Try.ntmps5
            go_wp2_with (first | ((with_reducible refine gate_callee (f := 15) rfl ?_); refine goesL_ (some 14) rfl rfl Try.func15 (by kernel_rfl) rfl #[] rfl (by (try simp only [List.map_toArray, List.map_cons, List.map_nil]); first | done | rfl | (simp only [List.length_drop, List.length_take]; rfl)) ?_; (with_reducible refine (anneallaw26_known.calls k  true _ A4.out).mono ?_); rintro e w19 ⟨rfl, hb⟩; refine ⟨_, rfl, ?_⟩; have n0_ := Aside0.mk (below_step (by repeat (first | (with_reducible first | exact HB.out | apply below_alloc | apply pw_below_drewN | apply below_drew1) | exact HB.out)) hb); clear HB; have HB := n0_; clear n0_; (try clear hb); (try clear hb2); (try clear hk); (try clear hi)) | ((with_reducible refine gate_callee (f := 17) rfl ?_); refine goesL_ (some 29) rfl rfl Try.func17 (by kernel_rfl) rfl #[.int .i64 (wrap64 ((wrap64 (Int.tmod a0 50)) + 1)), .int .i64 (wrap64 ((wrap64 (Int.tmod a1 9)) + 1)), .int .i64 (wrap64 (a2))] rfl (by (try simp only [List.map_toArray, List.map_cons, List.map_nil]); first | done | rfl | (simp only [List.length_drop, List.length_take]; rfl)) ?_; (with_reducible refine (batch_Epochs.calls (wrap64 ((wrap64 (Int.tmod a0 50)) + 1)) (wrap64 ((wrap64 (Int.tmod a1 9)) + 1)) (wrap64 (a2)) t201 t202 _ A6.out).mono ?_); rintro e w20 ⟨rfl, hb⟩; refine ⟨_, rfl, ?_⟩; have n0_ := Aside0.mk (below_step (by repeat (first | (with_reducible first | exact HB.out | apply below_alloc | apply pw_below_drewN | apply below_drew1) | exact HB.out)) hb); clear HB; have HB := n0_; clear n0_; (try clear hb); (try clear hb2); (try clear hk); (try clear hi)) | ((with_reducible refine gate_callee (f := 17) rfl ?_); refine goesL_ (some 42) rfl rfl Try.func17 (by kernel_rfl) rfl #[.int .i64 0, .int .i64 (wrap64 ((wrap64 (Int.tmod a1 9)) + 1)), .int .i64 (wrap64 (a2))] rfl (by (try simp only [List.map_toArray, List.map_cons, List.map_nil]); first | done | rfl | (simp only [List.length_drop, List.length_take]; rfl)) ?_; (with_reducible refine (batch_Epochs.calls 0 (wrap64 ((wrap64 (Int.tmod a1 9)) + 1)) (wrap64 (a2)) t203 t204 _ A8.out).mono ?_); rintro e w21 ⟨rfl, hb⟩; refine ⟨_, rfl, ?_⟩; have n0_ := Aside0.mk (below_step (by repeat (first | (with_reducible first | exact HB.out | apply below_alloc | apply pw_below_drewN | apply below_drew1) | exact HB.out)) hb); clear HB; have HB := n0_; clear n0_; (try clear hb); (try clear hb2); (try clear hk); (try clear hi)))
            go_ret
            exact ⟨by first | rfl | (simp [errW_none, errW_some] <;> rfl) | (simp [*, errW_none, errW_some] <;> rfl), by repeat (first | (with_reducible first | exact HB.out | apply below_alloc | apply pw_below_drewN | apply below_drew1) | exact HB.out)⟩
        · rw [if_neg c10] at H
          have c10b0 : decide (0 ≤ t202) = false := decide_eq_false c10
          clear c10
          obtain rfl := Option.some.inj H
          go_enter Try.func5, Try.ntmps5
          go_wp2_with (first | ((with_reducible refine gate_callee (f := 15) rfl ?_); refine goesL_ (some 14) rfl rfl Try.func15 (by kernel_rfl) rfl #[] rfl (by (try simp only [List.map_toArray, List.map_cons, List.map_nil]); first | done | rfl | (simp only [List.length_drop, List.length_take]; rfl)) ?_; (with_reducible refine (anneallaw26_known.calls k  true _ A4.out).mono ?_); rintro e w22 ⟨rfl, hb⟩; refine ⟨_, rfl, ?_⟩; have n0_ := Aside0.mk (below_step (by repeat (first | (with_reducible first | exact HB.out | apply below_alloc | apply pw_below_drewN | apply below_drew1) | exact HB.out)) hb); clear HB; have HB := n0_; clear n0_; (try clear hb); (try clear hb2); (try clear hk); (try clear hi)) | ((with_reducible refine gate_callee (f := 17) rfl ?_); refine goesL_ (some 29) rfl rfl Try.func17 (by kernel_rfl) rfl #[.int .i64 (wrap64 ((wrap64 (Int.tmod a0 50)) + 1)), .int .i64 (wrap64 ((wrap64 (Int.tmod a1 9)) + 1)), .int .i64 (wrap64 (a2))] rfl (by (try simp only [List.map_toArray, List.map_cons, List.map_nil]); first | done | rfl | (simp only [List.length_drop, List.length_take]; rfl)) ?_; (with_reducible refine (batch_Epochs.calls (wrap64 ((wrap64 (Int.tmod a0 50)) + 1)) (wrap64 ((wrap64 (Int.tmod a1 9)) + 1)) (wrap64 (a2)) t201 t202 _ A6.out).mono ?_); rintro e w23 ⟨rfl, hb⟩; refine ⟨_, rfl, ?_⟩; have n0_ := Aside0.mk (below_step (by repeat (first | (with_reducible first | exact HB.out | apply below_alloc | apply pw_below_drewN | apply below_drew1) | exact HB.out)) hb); clear HB; have HB := n0_; clear n0_; (try clear hb); (try clear hb2); (try clear hk); (try clear hi)) | ((with_reducible refine gate_callee (f := 17) rfl ?_); refine goesL_ (some 42) rfl rfl Try.func17 (by kernel_rfl) rfl #[.int .i64 0, .int .i64 (wrap64 ((wrap64 (Int.tmod a1 9)) + 1)), .int .i64 (wrap64 (a2))] rfl (by (try simp only [List.map_toArray, List.map_cons, List.map_nil]); first | done | rfl | (simp only [List.length_drop, List.length_take]; rfl)) ?_; (with_reducible refine (batch_Epochs.calls 0 (wrap64 ((wrap64 (Int.tmod a1 9)) + 1)) (wrap64 (a2)) t203 t204 _ A8.out).mono ?_); rintro e w24 ⟨rfl, hb⟩; refine ⟨_, rfl, ?_⟩; have n0_ := Aside0.mk (below_step (by repeat (first | (with_reducible first | exact HB.out | apply below_alloc | apply pw_below_drewN | apply below_drew1) | exact HB.out)) hb); clear HB; have HB := n0_; clear n0_; (try clear hb); (try clear hb2); (try clear hk); (try clear hi)))
          go_ret
          exact ⟨by first | rfl | (simp [errW_none, errW_some] <;> rfl) | (simp [*, errW_none, errW_some] <;> rfl), by repeat (first | (with_reducible first | exact HB.out | apply below_alloc | apply pw_below_drewN | apply below_drew1) | exact HB.out)⟩
      · rw [if_neg c9] at H
        have c9b0 : ((wrap64 ((wrap64 (t201 * (wrap64 (Int.tdiv (wrap64 ((wrap64 ((wrap64 ((wrap64 (Int.tmod a0 50)) + 1)) + (wrap64 ((wrap64 (Int.tmod a1 9)) + 1)))) - 1)) (wrap64 ((wrap64 (Int.tmod a1 9)) + 1)))))) + t202)) == (wrap64 (a2))) = false := beq_eq_false_iff_ne.mpr c9
        have c9b1 : ((wrap64 ((wrap64 (t201 * (wrap64 (Int.tdiv (wrap64 ((wrap64 ((wrap64 ((wrap64 (Int.tmod a0 50)) + 1)) + (wrap64 ((wrap64 (Int.tmod a1 9)) + 1)))) - 1)) (wrap64 ((wrap64 (Int.tmod a1 9)) + 1)))))) + t202)) != (wrap64 (a2))) = true := bne_iff_ne.mpr c9
        obtain rfl := Option.some.inj H
        go_enter Try.func5, Try.ntmps5
        go_wp2_with (first | ((with_reducible refine gate_callee (f := 15) rfl ?_); refine goesL_ (some 14) rfl rfl Try.func15 (by kernel_rfl) rfl #[] rfl (by (try simp only [List.map_toArray, List.map_cons, List.map_nil]); first | done | rfl | (simp only [List.length_drop, List.length_take]; rfl)) ?_; (with_reducible refine (anneallaw26_known.calls k  true _ A4.out).mono ?_); rintro e w25 ⟨rfl, hb⟩; refine ⟨_, rfl, ?_⟩; have n0_ := Aside0.mk (below_step (by repeat (first | (with_reducible first | exact HB.out | apply below_alloc | apply pw_below_drewN | apply below_drew1) | exact HB.out)) hb); clear HB; have HB := n0_; clear n0_; (try clear hb); (try clear hb2); (try clear hk); (try clear hi)) | ((with_reducible refine gate_callee (f := 17) rfl ?_); refine goesL_ (some 29) rfl rfl Try.func17 (by kernel_rfl) rfl #[.int .i64 (wrap64 ((wrap64 (Int.tmod a0 50)) + 1)), .int .i64 (wrap64 ((wrap64 (Int.tmod a1 9)) + 1)), .int .i64 (wrap64 (a2))] rfl (by (try simp only [List.map_toArray, List.map_cons, List.map_nil]); first | done | rfl | (simp only [List.length_drop, List.length_take]; rfl)) ?_; (with_reducible refine (batch_Epochs.calls (wrap64 ((wrap64 (Int.tmod a0 50)) + 1)) (wrap64 ((wrap64 (Int.tmod a1 9)) + 1)) (wrap64 (a2)) t201 t202 _ A6.out).mono ?_); rintro e w26 ⟨rfl, hb⟩; refine ⟨_, rfl, ?_⟩; have n0_ := Aside0.mk (below_step (by repeat (first | (with_reducible first | exact HB.out | apply below_alloc | apply pw_below_drewN | apply below_drew1) | exact HB.out)) hb); clear HB; have HB := n0_; clear n0_; (try clear hb); (try clear hb2); (try clear hk); (try clear hi)) | ((with_reducible refine gate_callee (f := 17) rfl ?_); refine goesL_ (some 42) rfl rfl Try.func17 (by kernel_rfl) rfl #[.int .i64 0, .int .i64 (wrap64 ((wrap64 (Int.tmod a1 9)) + 1)), .int .i64 (wrap64 (a2))] rfl (by (try simp only [List.map_toArray, List.map_cons, List.map_nil]); first | done | rfl | (simp only [List.length_drop, List.length_take]; rfl)) ?_; (with_reducible refine (batch_Epochs.calls 0 (wrap64 ((wrap64 (Int.tmod a1 9)) + 1)) (wrap64 (a2)) t203 t204 _ A8.out).mono ?_); rintro e w27 ⟨rfl, hb⟩; refine ⟨_, rfl, ?_⟩; have n0_ := Aside0.mk (below_step (by repeat (first | (with_reducible first | exact HB.out | apply below_alloc | apply pw_below_drewN | apply below_drew1) | exact HB.out)) hb); clear HB; have HB := n0_; clear n0_; (try clear hb); (try clear hb2); (try clear hk); (try clear hi)))
        go_ret
        exact ⟨by first | rfl | (simp [errW_none, errW_some] <;> rfl) | (simp [*, errW_none, errW_some] <;> rfl), by repeat (first | (with_reducible first | exact HB.out | apply below_alloc | apply pw_below_drewN | apply below_drew1) | exact HB.out)⟩
  · replace c5 := Bool.eq_false_iff.mpr c5
    subst c5
    have H1 : (some false) = some r := by rw [if_neg (show ¬ (false = true) by decide)] at H; exact H
    clear H
    have H := H1
    clear H1
    obtain rfl := Option.some.inj H
    go_enter Try.func5, Try.ntmps5
    go_wp2_with (first | ((with_reducible refine gate_callee (f := 15) rfl ?_); refine goesL_ (some 14) rfl rfl Try.func15 (by kernel_rfl) rfl #[] rfl (by (try simp only [List.map_toArray, List.map_cons, List.map_nil]); first | done | rfl | (simp only [List.length_drop, List.length_take]; rfl)) ?_; (with_reducible refine (anneallaw26_known.calls k  false _ A4.out).mono ?_); rintro e w28 ⟨rfl, hb⟩; refine ⟨_, rfl, ?_⟩; have n0_ := Aside0.mk (below_step (by repeat (first | (with_reducible first | exact HB.out | apply below_alloc | apply pw_below_drewN | apply below_drew1) | exact HB.out)) hb); clear HB; have HB := n0_; clear n0_; (try clear hb); (try clear hb2); (try clear hk); (try clear hi)))
    go_ret
    exact ⟨by first | rfl | (simp [errW_none, errW_some] <;> rfl) | (simp [*, errW_none, errW_some] <;> rfl), by repeat (first | (with_reducible first | exact HB.out | apply below_alloc | apply pw_below_drewN | apply below_drew1) | exact HB.out)⟩

/-- THE ONE PURE STATEMENT of anneallaw26_BatchEpochs: yours. -/
def anneallaw26_BatchEpochs.Pure : Prop := ∀ (a0 : Int) (a1 : Int) (a2 : Int), (Lit.int .u8 a0).wf = true → (Lit.int .u8 a1).wf = true → (Lit.int .u16 a2).wf = true → ∃ k, anneallaw26_BatchEpochs.f k a0 a1 a2 = some true
theorem anneallaw26_BatchEpochs.walk (P : anneallaw26_BatchEpochs.Pure) (a0 : Int) (a1 : Int) (a2 : Int) (w : World) (w0 : (Lit.int .u8 a0).wf = true) (w1 : (Lit.int .u8 a1).wf = true) (w2 : (Lit.int .u16 a2).wf = true) :
    Calls Try.prog 5 #[.int .u8 a0, .int .u8 a1, .int .u16 a2] w fun e w' => e = .returned (.bool true) ∧ Below w.heap.size w w' := by
  obtain ⟨k, h⟩ := P a0 a1 a2 w0 w1 w2
  refine (anneallaw26_BatchEpochs.calls k a0 a1 a2 true w h).mono ?_
  rintro e w' ⟨rfl, hd⟩
  exact ⟨rfl, hd⟩

/-! ### bits_RotateLeft32: function 57 -/
def bits_RotateLeft32.f (a0 : Int) (a1 : Int) : Option (Int) := if 0 ≤ (Go.bits .and .u64 (IntKind.u64.wrap (a1)) 31) then (if 0 ≤ (IntKind.u64.wrap (32 - (Go.bits .and .u64 (IntKind.u64.wrap (a1)) 31))) then (some (Go.bits .or .u32 (shl .u32 a0 (Go.bits .and .u64 (IntKind.u64.wrap (a1)) 31)) (shr .u32 a0 (IntKind.u64.wrap (32 - (Go.bits .and .u64 (IntKind.u64.wrap (a1)) 31)))))) else (none)) else (none)
set_option maxHeartbeats 8000000 in
set_option maxRecDepth 100000 in
theorem bits_RotateLeft32.calls (a0 : Int) (a1 : Int) (r : Int) (w : World) (h : bits_RotateLeft32.f a0 a1 = some r) :
    Calls Try.prog 57 #[.int .u32 a0, .int .i64 a1] w fun e w' => e = .returned (.int .u32 r) ∧ Drawn0 w w' := by
  have H : (if 0 ≤ (Go.bits .and .u64 (IntKind.u64.wrap (a1)) 31) then (if 0 ≤ (IntKind.u64.wrap (32 - (Go.bits .and .u64 (IntKind.u64.wrap (a1)) 31))) then (some (Go.bits .or .u32 (shl .u32 a0 (Go.bits .and .u64 (IntKind.u64.wrap (a1)) 31)) (shr .u32 a0 (IntKind.u64.wrap (32 - (Go.bits .and .u64 (IntKind.u64.wrap (a1)) 31)))))) else (none)) else (none)) = some r := h
  clear h
  obtain ⟨ji3, hji3⟩ : ∃ j_ : Int, (Go.bits .and .u64 (IntKind.u64.wrap (a1)) 31) = j_ := ⟨_, rfl⟩
  replace H : (if 0 ≤ (ji3) then (if 0 ≤ (IntKind.u64.wrap (32 - (ji3))) then (some (Go.bits .or .u32 (shl .u32 a0 (ji3)) (shr .u32 a0 (IntKind.u64.wrap (32 - (ji3)))))) else (none)) else (none)) = some r := by first | (rw [hji3] at H; exact H) | (simp only [hji3] at H ⊢; exact H)
  by_cases c4 : 0 ≤ (ji3)
  · rw [if_pos c4] at H
    have c4b0 := eq_true c4
    have c4b1 : decide (0 ≤ (ji3)) = true := decide_eq_true c4
    clear c4
    obtain ⟨ji5, hji5⟩ : ∃ j_ : Int, (shl .u32 a0 (ji3)) = j_ := ⟨_, rfl⟩
    replace H : (if 0 ≤ (IntKind.u64.wrap (32 - (ji3))) then (some (Go.bits .or .u32 (ji5) (shr .u32 a0 (IntKind.u64.wrap (32 - (ji3)))))) else (none)) = some r := by first | (rw [hji5] at H; exact H) | (simp only [hji5] at H ⊢; exact H)
    have hji5_ : (IntKind.u32.wrap (a0 * 2 ^ min (ji3).toNat 32)) = ji5 := hji5
    have hji5z : (ji3) ≤ 32 → (IntKind.u32.wrap (a0 * 2 ^ (ji3).toNat)) = ji5 := shl_small hji5
    obtain ⟨ji6, hji6⟩ : ∃ j_ : Int, (IntKind.u64.wrap (32 - (ji3))) = j_ := ⟨_, rfl⟩
    replace H : (if 0 ≤ (ji6) then (some (Go.bits .or .u32 (ji5) (shr .u32 a0 (ji6)))) else (none)) = some r := by first | (rw [hji6] at H; exact H) | (simp only [hji6] at H ⊢; exact H)
    by_cases c7 : 0 ≤ (ji6)
    · rw [if_pos c7] at H
      have c7b0 := eq_true c7
      have c7b1 : decide (0 ≤ (ji6)) = true := decide_eq_true c7
      clear c7
      obtain ⟨ji8, hji8⟩ : ∃ j_ : Int, (shr .u32 a0 (ji6)) = j_ := ⟨_, rfl⟩
      replace H : (some (Go.bits .or .u32 (ji5) (ji8))) = some r := by first | (rw [hji8] at H; exact H) | (simp only [hji8] at H ⊢; exact H)
      have hji8_ : (a0 / 2 ^ min (ji6).toNat 32) = ji8 := hji8
      have hji8z : (ji6) ≤ 32 → (a0 / 2 ^ (ji6).toNat) = ji8 := shr_small hji8
      obtain rfl := Option.some.inj H
      go_enter Try.func57, Try.ntmps57
      go_wp2
      go_ret
      exact ⟨by first | rfl | (simp; done) | (simp only [← hji3, ← hji5, ← hji6, ← hji8] <;> (first | rfl | (simp; done))) | (simp [*]; done) | (congr 1; (try unfold wrap64); omega), by repeat (first | exact Drawn0.refl _ | apply Drawn0.step)⟩
    · rw [if_neg c7] at H
      exact absurd H (by simp)
  · rw [if_neg c4] at H
    exact absurd H (by simp)

/-! ### bits_Rotate: function 25 -/
def bits_Rotate.f (a0 : Int) (a1 : Int) : Option (Int) := (bits_RotateLeft32.f a0 (Go.bits .and .i64 a1 31)).bind fun t205 => (some t205)
set_option maxHeartbeats 8000000 in
set_option maxRecDepth 100000 in
theorem bits_Rotate.calls (a0 : Int) (a1 : Int) (r : Int) (w : World) (h : bits_Rotate.f a0 a1 = some r) :
    Calls Try.prog 25 #[.int .u32 a0, .int .i64 a1] w fun e w' => e = .returned (.int .u32 r) ∧ Drawn0 w w' := by
  have H : ((bits_RotateLeft32.f a0 (Go.bits .and .i64 a1 31)).bind fun t205 => (some t205)) = some r := h
  clear h
  replace H := Option.bind_eq_some_iff.mp H
  obtain ⟨t205, A30, H⟩ := H
  replace H : (some t205) = some r := H
  have A3 := Aside0.mk A30
  clear A30
  obtain rfl := Option.some.inj H
  go_enter Try.func25, Try.ntmps25
  go_wp2_with (first | ((with_reducible refine gate_callee (f := 57) rfl ?_); refine goesL_ (some 8) rfl rfl Try.func57 (by kernel_rfl) rfl #[.int .u32 a0, .int .i64 (Go.bits .and .i64 a1 31)] rfl (by (try simp only [List.map_toArray, List.map_cons, List.map_nil]); first | done | rfl | (simp only [List.length_drop, List.length_take]; rfl)) ?_; (with_reducible refine (bits_RotateLeft32.calls a0 (Go.bits .and .i64 a1 31) t205 _ A3.out).mono ?_); rintro e w' ⟨rfl, ⟨nd, rfl⟩⟩; refine ⟨_, rfl, ?_⟩))
  go_ret
  exact ⟨by first | rfl | (simp; done) | (simp [*]; done) | (congr 1; (try unfold wrap64); omega), by repeat (first | exact Drawn0.refl _ | apply Drawn0.step)⟩

/-! ### bits_Mul64: function 58 -/
def bits_Mul64.f (a0 : Int) (a1 : Int) : Option (Int × Int) := some (IntKind.u64.wrap ((IntKind.u64.wrap ((IntKind.u64.wrap ((a0 / 4294967296) * (a1 / 4294967296))) + ((IntKind.u64.wrap ((IntKind.u64.wrap ((a0 / 4294967296) * (Go.bits .and .u64 a1 4294967295))) + ((IntKind.u64.wrap ((Go.bits .and .u64 a0 4294967295) * (Go.bits .and .u64 a1 4294967295))) / 4294967296))) / 4294967296))) + ((IntKind.u64.wrap ((Go.bits .and .u64 (IntKind.u64.wrap ((IntKind.u64.wrap ((a0 / 4294967296) * (Go.bits .and .u64 a1 4294967295))) + ((IntKind.u64.wrap ((Go.bits .and .u64 a0 4294967295) * (Go.bits .and .u64 a1 4294967295))) / 4294967296))) 4294967295) + (IntKind.u64.wrap ((Go.bits .and .u64 a0 4294967295) * (a1 / 4294967296))))) / 4294967296)), IntKind.u64.wrap (a0 * a1))
set_option maxHeartbeats 8000000 in
set_option maxRecDepth 100000 in
theorem bits_Mul64.calls (a0 : Int) (a1 : Int) (r1 : Int) (r2 : Int) (w : World) (h : bits_Mul64.f a0 a1 = some (r1, r2)) :
    Calls Try.prog 58 #[.int .u64 a0, .int .u64 a1] w fun e w' => e = .returned (.tuple #[.int .u64 r1, .int .u64 r2]) ∧ Drawn0 w w' := by
  have H : (some (IntKind.u64.wrap ((IntKind.u64.wrap ((IntKind.u64.wrap ((a0 / 4294967296) * (a1 / 4294967296))) + ((IntKind.u64.wrap ((IntKind.u64.wrap ((a0 / 4294967296) * (Go.bits .and .u64 a1 4294967295))) + ((IntKind.u64.wrap ((Go.bits .and .u64 a0 4294967295) * (Go.bits .and .u64 a1 4294967295))) / 4294967296))) / 4294967296))) + ((IntKind.u64.wrap ((Go.bits .and .u64 (IntKind.u64.wrap ((IntKind.u64.wrap ((a0 / 4294967296) * (Go.bits .and .u64 a1 4294967295))) + ((IntKind.u64.wrap ((Go.bits .and .u64 a0 4294967295) * (Go.bits .and .u64 a1 4294967295))) / 4294967296))) 4294967295) + (IntKind.u64.wrap ((Go.bits .and .u64 a0 4294967295) * (a1 / 4294967296))))) / 4294967296)), IntKind.u64.wrap (a0 * a1))) = some (r1, r2) := h
  clear h
  simp only [Option.some.injEq, Prod.mk.injEq] at H
  obtain ⟨rfl, rfl⟩ := H
  go_enter Try.func58, Try.ntmps58
  go_wp2
  go_ret2
  exact ⟨by first | rfl | (simp; done) | (simp [*]; done) | (congr 1; (try unfold wrap64); omega), by repeat (first | exact Drawn0.refl _ | apply Drawn0.step)⟩

/-! ### bits_Product: function 27 -/
def bits_Product.f (a0 : Int) (a1 : Int) : Option (Int × Int) := (bits_Mul64.f a0 a1).bind fun bt206 => (some (bt206.1, bt206.2))
set_option maxHeartbeats 8000000 in
set_option maxRecDepth 100000 in
theorem bits_Product.calls (a0 : Int) (a1 : Int) (r1 : Int) (r2 : Int) (w : World) (h : bits_Product.f a0 a1 = some (r1, r2)) :
    Calls Try.prog 27 #[.int .u64 a0, .int .u64 a1] w fun e w' => e = .returned (.tuple #[.int .u64 r1, .int .u64 r2]) ∧ Drawn0 w w' := by
  have H : ((bits_Mul64.f a0 a1).bind fun bt206 => (some (bt206.1, bt206.2))) = some (r1, r2) := h
  clear h
  replace H := Option.bind_eq_some_iff.mp H
  obtain ⟨⟨t206, t207⟩, A30, H⟩ := H
  replace H : (some (t206, t207)) = some (r1, r2) := H
  have A3 := Aside0.mk A30
  clear A30
  simp only [Option.some.injEq, Prod.mk.injEq] at H
  obtain ⟨rfl, rfl⟩ := H
  go_enter Try.func27, Try.ntmps27
  go_wp2_with (first | ((with_reducible refine gate_callee (f := 58) rfl ?_); refine goesL_ (some 8) rfl rfl Try.func58 (by kernel_rfl) rfl #[.int .u64 a0, .int .u64 a1] rfl (by (try simp only [List.map_toArray, List.map_cons, List.map_nil]); first | done | rfl | (simp only [List.length_drop, List.length_take]; rfl)) ?_; (with_reducible refine (bits_Mul64.calls a0 a1 t206 t207 _ A3.out).mono ?_); rintro e w' ⟨rfl, ⟨nd, rfl⟩⟩; refine ⟨_, rfl, ?_⟩))
  go_ret2
  exact ⟨by first | rfl | (simp; done) | (simp [*]; done) | (congr 1; (try unfold wrap64); omega), by repeat (first | exact Drawn0.refl _ | apply Drawn0.step)⟩

/-! ### bits_Root: function 29 -/
def bits_Root.l0 : Nat → Int → Int → Int → Option (Int × Bool)
  | 0, _, _, _ => none
  | k + 1, x0, x4, x5 => if x5 > 0 then (if (IntKind.u64.wrap ((Go.bits .or .u64 x4 x5) * (Go.bits .or .u64 x4 x5))) ≤ x0 then (bits_Root.l0 k x0 (Go.bits .or .u64 x4 x5) (x5 / 2)) else (bits_Root.l0 k x0 x4 (x5 / 2))) else (some ((x4) % 4294967296, ((IntKind.u64.wrap (x4 * x4)) == x0)))
def bits_Root.f (k : Nat) (a0 : Int) : Option (Int × Bool) := bits_Root.l0 k a0 0 2147483648
theorem bits_Root.mono_l : ∀ k, (∀ y0 y1 y2, LeO (bits_Root.l0 k y0 y1 y2) (bits_Root.l0 (k + 1) y0 y1 y2))
  | 0 => fun _ _ _ r h => by simp [bits_Root.l0] at h
  | k + 1 => by
    have ih0 := bits_Root.mono_l k
    · intro y0 y1 y2
      unfold bits_Root.l0
      repeat' first
      | (with_reducible exact ih0 _ _ _)
      | (with_reducible exact LeO.refl _)
      | (with_reducible exact LeO.none _)
      | (with_reducible refine LeO.ite ?_ ?_)
      | (with_reducible refine LeO.bind ?_ (fun _ => ?_))
      | exact ih0 _ _ _
      | exact LeO.none _
      | refine LeO.ite ?_ ?_
      | refine LeO.bind ?_ (fun _ => ?_)
theorem bits_Root.mono : ∀ a0 k, LeO (bits_Root.f k a0) (bits_Root.f (k + 1) a0) := by
  intro a0 k
  have ih0 := bits_Root.mono_l k
  unfold bits_Root.f
  repeat' first
      | (with_reducible exact ih0 _ _ _)
      | (with_reducible exact LeO.refl _)
      | (with_reducible exact LeO.none _)
      | (with_reducible refine LeO.ite ?_ ?_)
      | (with_reducible refine LeO.bind ?_ (fun _ => ?_))
      | exact ih0 _ _ _
      | exact LeO.none _
      | refine LeO.ite ?_ ?_
      | refine LeO.bind ?_ (fun _ => ?_)
set_option maxHeartbeats 8000000 in
set_option maxRecDepth 100000 in
theorem bits_Root.calls (k : Nat) (a0 : Int) (r1 : Int) (r2 : Bool) (w : World) (h : bits_Root.f k a0 = some (r1, r2)) :
    Calls Try.prog 29 #[.int .u64 a0] w fun e w' => e = .returned (.tuple #[.int .u32 r1, .bool r2]) ∧ Drawn0 w w' := by
  have H : (bits_Root.l0 k a0 0 2147483648) = some (r1, r2) := h
  clear h
  have H' := Aside0.mk H
  clear H
  go_enter Try.func29, Try.ntmps29
  go_wp2
  go_loopg [4, 5] k (fun kq v4 v5 w' => ∃ (x4_1 : Int) (x5_1 : Int), v4 = .int .u64 x4_1 ∧ v5 = .int .u64 x5_1 ∧ Aside0 (bits_Root.l0 kq a0 x4_1 x5_1 = some (r1, r2)) ∧ Aside0 (kq ≤ k) ∧ Drawn0 w w')
  case atStart => exact ⟨(0), (2147483648), (by first | rfl | (simp; done) | (simp [*]; done) | (congr 1; (try unfold wrap64); omega)), (by first | rfl | (simp; done) | (simp [*]; done) | (congr 1; (try unfold wrap64); omega)), H', ⟨Nat.le_refl _⟩, by repeat (first | exact Drawn0.refl _ | apply Drawn0.step)⟩
  case round =>
    clear H'
    obtain ⟨x4_1, x5_1, rfl, rfl, HA, HK1, ⟨m1, rfl⟩⟩ := hrel
    cases gk with
    | zero => exact absurd HA.out (by simp [bits_Root.l0])
    | succ k1 =>
      have H := HA.out
      clear HA
      simp only [bits_Root.l0] at H
      by_cases c2 : x5_1 > 0
      · rw [if_pos c2] at H
        have c2b0 : decide (0 < x5_1) = true := decide_eq_true c2
        clear c2
        by_cases c3 : (IntKind.u64.wrap ((Go.bits .or .u64 x4_1 x5_1) * (Go.bits .or .u64 x4_1 x5_1))) ≤ a0
        · rw [if_pos c3] at H
          have c3b0 : decide ((IntKind.u64.wrap ((Go.bits .or .u64 x4_1 x5_1) * (Go.bits .or .u64 x4_1 x5_1))) ≤ a0) = true := decide_eq_true c3
          clear c3
          have H' := Aside0.mk H
          clear H
          go_wp2
          go_roundg k1
          case measure => have := HK1.out; omega
          case rel => exact ⟨(Go.bits .or .u64 x4_1 x5_1), (x5_1 / 2), (by first | rfl | (simp; done) | (simp [*]; done) | (congr 1; (try unfold wrap64); omega)), (by first | rfl | (simp; done) | (simp [*]; done) | (congr 1; (try unfold wrap64); omega)), H', ⟨by have := HK1.out; omega⟩, by repeat (first | exact Drawn0.refl _ | apply Drawn0.step)⟩
        · rw [if_neg c3] at H
          have c3b0 : decide ((IntKind.u64.wrap ((Go.bits .or .u64 x4_1 x5_1) * (Go.bits .or .u64 x4_1 x5_1))) ≤ a0) = false := decide_eq_false c3
          clear c3
          have H' := Aside0.mk H
          clear H
          go_wp2
          go_roundg k1
          case measure => have := HK1.out; omega
          case rel => exact ⟨(x4_1), (x5_1 / 2), (by first | rfl | (simp; done) | (simp [*]; done) | (congr 1; (try unfold wrap64); omega)), (by first | rfl | (simp; done) | (simp [*]; done) | (congr 1; (try unfold wrap64); omega)), H', ⟨by have := HK1.out; omega⟩, by repeat (first | exact Drawn0.refl _ | apply Drawn0.step)⟩
      · rw [if_neg c2] at H
        have c2b0 : decide (0 < x5_1) = false := decide_eq_false c2
        clear c2
        simp only [Option.some.injEq, Prod.mk.injEq] at H
        obtain ⟨rfl, rfl⟩ := H
        go_wp2
        go_ret2
        exact ⟨by first | rfl | (simp; done) | (simp [*]; done) | (congr 1; (try unfold wrap64); omega), by repeat (first | exact Drawn0.refl _ | apply Drawn0.step)⟩

end Go.Proofs.Ytjmihdhclbjaeaa.P
