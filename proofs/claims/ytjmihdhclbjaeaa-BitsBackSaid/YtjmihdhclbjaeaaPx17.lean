-- Printed by a program of this session's out of Lean's print of the translation; Lean checks it.
import Derived.Test.YtjmihdhclbjaeaaPx0
import Derived.Test.YtjmihdhclbjaeaaPx8
import Derived.Test.YtjmihdhclbjaeaaPx9
import Derived.Test.YtjmihdhclbjaeaaPx14
namespace Go.Proofs.Ytjmihdhclbjaeaa.P
open Go.RowKit Go.Proofs.YtjmihdhclbjaeaaW.PrintWords Go.Proofs.YtjmihdhclbjaeaaW.PrintLast Go.Proofs.YtjmihdhclbjaeaaW.PrintMore
attribute [local go_sem] max2_int min2_int max_two min_two max_three min_three max_four min_four   -- for this text's walks alone
set_option linter.unusedVariables false
set_option linter.unusedSimpArgs false

/-! ### anneallaw1_BitsBack: function 11 -/
def anneallaw1_BitsBack.f (k : Nat) (a0 : Int) (a1 : Int) : Option (Bool) := (anneallaw1_known.f k).bind fun t275 => (if t275 = true then ((bits_Shift.f k a0 (wrap64 (Int.tmod a1 64))).bind fun bt276 => ((bits_Shift.f k bt276.1 (wrap64 (-(wrap64 (Int.tmod a1 64))))).bind fun bt278 => ((bits_Cut.f a0 (wrap64 (Int.tmod a1 64))).bind fun t280 => (if bt278.2 = true then (some false) else (if (IntKind.u64.wrap (bt278.1 + t280)) = a0 then (if (bt276.2 == (t280 != 0)) = true then ((bits_Signed.f a0 64).bind fun t281 => (if (IntKind.u64.wrap (t281)) = a0 then ((bits_Signed.f a0 (wrap64 (Int.tmod a1 64))).bind fun t282 => ((bits_Cut.f (IntKind.u64.wrap (t282)) (wrap64 (Int.tmod a1 64))).bind fun t283 => (some (t283 == t280)))) else (some false))) else (some false)) else (some false)))))) else (some false))
theorem anneallaw1_BitsBack.mono : ∀ a0 a1 k, LeO (anneallaw1_BitsBack.f k a0 a1) (anneallaw1_BitsBack.f (k + 1) a0 a1) := by
  intro a0 a1 k
  unfold anneallaw1_BitsBack.f
  repeat' first
      | (with_reducible exact anneallaw1_known.mono _)
      | (with_reducible exact bits_Shift.mono _ _ _)
      | (with_reducible exact LeO.refl _)
      | (with_reducible exact LeO.none _)
      | (with_reducible refine LeO.ite ?_ ?_)
      | (with_reducible refine LeO.bind ?_ (fun _ => ?_))
      | exact anneallaw1_known.mono _
      | exact bits_Shift.mono _ _ _
      | exact LeO.none _
      | refine LeO.ite ?_ ?_
      | refine LeO.bind ?_ (fun _ => ?_)
set_option maxHeartbeats 8000000 in
set_option maxRecDepth 100000 in
theorem anneallaw1_BitsBack.calls (k : Nat) (a0 : Int) (a1 : Int) (r : Bool) (w : World) (h : anneallaw1_BitsBack.f k a0 a1 = some r) :
    Calls Try.prog 11 #[.int .u64 a0, .int .u8 a1] w fun e w' => e = .returned (.bool r) ∧ Below w.heap.size w w' := by
  have HB := Aside0.mk (Below.refl w.heap.size w)
  have H : ((anneallaw1_known.f k).bind fun t275 => (if t275 = true then ((bits_Shift.f k a0 (wrap64 (Int.tmod a1 64))).bind fun bt276 => ((bits_Shift.f k bt276.1 (wrap64 (-(wrap64 (Int.tmod a1 64))))).bind fun bt278 => ((bits_Cut.f a0 (wrap64 (Int.tmod a1 64))).bind fun t280 => (if bt278.2 = true then (some false) else (if (IntKind.u64.wrap (bt278.1 + t280)) = a0 then (if (bt276.2 == (t280 != 0)) = true then ((bits_Signed.f a0 64).bind fun t281 => (if (IntKind.u64.wrap (t281)) = a0 then ((bits_Signed.f a0 (wrap64 (Int.tmod a1 64))).bind fun t282 => ((bits_Cut.f (IntKind.u64.wrap (t282)) (wrap64 (Int.tmod a1 64))).bind fun t283 => (some (t283 == t280)))) else (some false))) else (some false)) else (some false)))))) else (some false))) = some r := h
  clear h
  replace H := Option.bind_eq_some_iff.mp H
  obtain ⟨t275, A30, H⟩ := H
  replace H : (if t275 = true then ((bits_Shift.f k a0 (wrap64 (Int.tmod a1 64))).bind fun bt276 => ((bits_Shift.f k bt276.1 (wrap64 (-(wrap64 (Int.tmod a1 64))))).bind fun bt278 => ((bits_Cut.f a0 (wrap64 (Int.tmod a1 64))).bind fun t280 => (if bt278.2 = true then (some false) else (if (IntKind.u64.wrap (bt278.1 + t280)) = a0 then (if (bt276.2 == (t280 != 0)) = true then ((bits_Signed.f a0 64).bind fun t281 => (if (IntKind.u64.wrap (t281)) = a0 then ((bits_Signed.f a0 (wrap64 (Int.tmod a1 64))).bind fun t282 => ((bits_Cut.f (IntKind.u64.wrap (t282)) (wrap64 (Int.tmod a1 64))).bind fun t283 => (some (t283 == t280)))) else (some false))) else (some false)) else (some false)))))) else (some false)) = some r := H
  have A3 := Aside0.mk A30
  clear A30
  by_cases c4 : t275 = true
  · subst c4
    have H1 : ((bits_Shift.f k a0 (wrap64 (Int.tmod a1 64))).bind fun bt276 => ((bits_Shift.f k bt276.1 (wrap64 (-(wrap64 (Int.tmod a1 64))))).bind fun bt278 => ((bits_Cut.f a0 (wrap64 (Int.tmod a1 64))).bind fun t280 => (if bt278.2 = true then (some false) else (if (IntKind.u64.wrap (bt278.1 + t280)) = a0 then (if (bt276.2 == (t280 != 0)) = true then ((bits_Signed.f a0 64).bind fun t281 => (if (IntKind.u64.wrap (t281)) = a0 then ((bits_Signed.f a0 (wrap64 (Int.tmod a1 64))).bind fun t282 => ((bits_Cut.f (IntKind.u64.wrap (t282)) (wrap64 (Int.tmod a1 64))).bind fun t283 => (some (t283 == t280)))) else (some false))) else (some false)) else (some false)))))) = some r := by rw [if_pos rfl] at H; exact H
    clear H
    have H := H1
    clear H1
    replace H := Option.bind_eq_some_iff.mp H
    obtain ⟨⟨t276, t277⟩, A50, H⟩ := H
    replace H : ((bits_Shift.f k t276 (wrap64 (-(wrap64 (Int.tmod a1 64))))).bind fun bt278 => ((bits_Cut.f a0 (wrap64 (Int.tmod a1 64))).bind fun t280 => (if bt278.2 = true then (some false) else (if (IntKind.u64.wrap (bt278.1 + t280)) = a0 then (if (t277 == (t280 != 0)) = true then ((bits_Signed.f a0 64).bind fun t281 => (if (IntKind.u64.wrap (t281)) = a0 then ((bits_Signed.f a0 (wrap64 (Int.tmod a1 64))).bind fun t282 => ((bits_Cut.f (IntKind.u64.wrap (t282)) (wrap64 (Int.tmod a1 64))).bind fun t283 => (some (t283 == t280)))) else (some false))) else (some false)) else (some false))))) = some r := H
    have A5 := Aside0.mk A50
    clear A50
    replace H := Option.bind_eq_some_iff.mp H
    obtain ⟨⟨t278, t279⟩, A60, H⟩ := H
    replace H : ((bits_Cut.f a0 (wrap64 (Int.tmod a1 64))).bind fun t280 => (if t279 = true then (some false) else (if (IntKind.u64.wrap (t278 + t280)) = a0 then (if (t277 == (t280 != 0)) = true then ((bits_Signed.f a0 64).bind fun t281 => (if (IntKind.u64.wrap (t281)) = a0 then ((bits_Signed.f a0 (wrap64 (Int.tmod a1 64))).bind fun t282 => ((bits_Cut.f (IntKind.u64.wrap (t282)) (wrap64 (Int.tmod a1 64))).bind fun t283 => (some (t283 == t280)))) else (some false))) else (some false)) else (some false)))) = some r := H
    have A6 := Aside0.mk A60
    clear A60
    replace H := Option.bind_eq_some_iff.mp H
    obtain ⟨t280, A70, H⟩ := H
    replace H : (if t279 = true then (some false) else (if (IntKind.u64.wrap (t278 + t280)) = a0 then (if (t277 == (t280 != 0)) = true then ((bits_Signed.f a0 64).bind fun t281 => (if (IntKind.u64.wrap (t281)) = a0 then ((bits_Signed.f a0 (wrap64 (Int.tmod a1 64))).bind fun t282 => ((bits_Cut.f (IntKind.u64.wrap (t282)) (wrap64 (Int.tmod a1 64))).bind fun t283 => (some (t283 == t280)))) else (some false))) else (some false)) else (some false))) = some r := H
    have A7 := Aside0.mk A70
    clear A70
    by_cases c8 : t279 = true
    · subst c8
      have H1 : (some false) = some r := by rw [if_pos rfl] at H; exact H
      clear H
      have H := H1
      clear H1
      obtain rfl := Option.some.inj H
      go_enter Try.func11, Try.ntmps11
      go_wp2_with (first | ((with_reducible refine gate_callee (f := 24) rfl ?_); refine goesL_ (some 11) rfl rfl Try.func24 (by kernel_rfl) rfl #[] rfl (by (try simp only [List.map_toArray, List.map_cons, List.map_nil]); first | done | rfl | (simp only [List.length_drop, List.length_take]; rfl)) ?_; (with_reducible refine (anneallaw1_known.calls k  true _ A3.out).mono ?_); rintro e w' ⟨rfl, ⟨nd, rfl⟩⟩; refine ⟨_, rfl, ?_⟩) | ((with_reducible refine gate_callee (f := 31) rfl ?_); refine goesL_ (some 19) rfl rfl Try.func31 (by kernel_rfl) rfl #[.int .u64 a0, .int .i64 (wrap64 (Int.tmod a1 64))] rfl (by (try simp only [List.map_toArray, List.map_cons, List.map_nil]); first | done | rfl | (simp only [List.length_drop, List.length_take]; rfl)) ?_; (with_reducible refine (bits_Shift.calls k a0 (wrap64 (Int.tmod a1 64)) t276 t277 _ A5.out).mono ?_); rintro e w' ⟨rfl, ⟨nd, rfl⟩⟩; refine ⟨_, rfl, ?_⟩) | ((with_reducible refine gate_callee (f := 31) rfl ?_); refine goesL_ (some 26) rfl rfl Try.func31 (by kernel_rfl) rfl #[.int .u64 t276, .int .i64 (wrap64 (-(wrap64 (Int.tmod a1 64))))] rfl (by (try simp only [List.map_toArray, List.map_cons, List.map_nil]); first | done | rfl | (simp only [List.length_drop, List.length_take]; rfl)) ?_; (with_reducible refine (bits_Shift.calls k t276 (wrap64 (-(wrap64 (Int.tmod a1 64)))) t278 true _ A6.out).mono ?_); rintro e w' ⟨rfl, ⟨nd, rfl⟩⟩; refine ⟨_, rfl, ?_⟩) | ((with_reducible refine gate_callee (f := 33) rfl ?_); refine goesL_ (some 31) rfl rfl Try.func33 (by kernel_rfl) rfl #[.int .u64 a0, .int .i64 (wrap64 (Int.tmod a1 64))] rfl (by (try simp only [List.map_toArray, List.map_cons, List.map_nil]); first | done | rfl | (simp only [List.length_drop, List.length_take]; rfl)) ?_; (with_reducible refine (bits_Cut.calls a0 (wrap64 (Int.tmod a1 64)) t280 _ A7.out).mono ?_); rintro e w' ⟨rfl, ⟨nd, rfl⟩⟩; refine ⟨_, rfl, ?_⟩))
      go_ret
      exact ⟨by first | rfl | (simp [errW_none, errW_some] <;> rfl) | (simp [*, errW_none, errW_some] <;> rfl), by repeat (first | (with_reducible first | exact HB.out | apply below_alloc | apply pw_below_drewN | apply below_drew1) | exact HB.out)⟩
    · replace c8 := Bool.eq_false_iff.mpr c8
      subst c8
      have H1 : (if (IntKind.u64.wrap (t278 + t280)) = a0 then (if (t277 == (t280 != 0)) = true then ((bits_Signed.f a0 64).bind fun t281 => (if (IntKind.u64.wrap (t281)) = a0 then ((bits_Signed.f a0 (wrap64 (Int.tmod a1 64))).bind fun t282 => ((bits_Cut.f (IntKind.u64.wrap (t282)) (wrap64 (Int.tmod a1 64))).bind fun t283 => (some (t283 == t280)))) else (some false))) else (some false)) else (some false)) = some r := by rw [if_neg (show ¬ (false = true) by decide)] at H; exact H
      clear H
      have H := H1
      clear H1
      by_cases c9 : (IntKind.u64.wrap (t278 + t280)) = a0
      · rw [if_pos c9] at H
        have c9b0 : ((IntKind.u64.wrap (t278 + t280)) == a0) = true := beq_iff_eq.mpr c9
        have c9b1 : ((IntKind.u64.wrap (t278 + t280)) != a0) = false := bne_eq_false_iff_eq.mpr c9
        clear c9
        by_cases c10 : (t277 == (t280 != 0)) = true
        · rw [if_pos c10] at H
          have c10b0 : (t277 == (t280 != 0)) = true := c10
          (try (have c10b1 : decide (t277 = (t280 != 0)) = true := by simpa using c10))
          (try (have c10b2 : (t277 == (t280 != 0)) = true := by simpa using c10))
          clear c10
          replace H := Option.bind_eq_some_iff.mp H
          obtain ⟨t281, A110, H⟩ := H
          replace H : (if (IntKind.u64.wrap (t281)) = a0 then ((bits_Signed.f a0 (wrap64 (Int.tmod a1 64))).bind fun t282 => ((bits_Cut.f (IntKind.u64.wrap (t282)) (wrap64 (Int.tmod a1 64))).bind fun t283 => (some (t283 == t280)))) else (some false)) = some r := H
          have A11 := Aside0.mk A110
          clear A110
          by_cases c12 : (IntKind.u64.wrap (t281)) = a0
          · rw [if_pos c12] at H
            have c12b0 : ((IntKind.u64.wrap (t281)) == a0) = true := beq_iff_eq.mpr c12
            have c12b1 : ((IntKind.u64.wrap (t281)) != a0) = false := bne_eq_false_iff_eq.mpr c12
            clear c12
            replace H := Option.bind_eq_some_iff.mp H
            obtain ⟨t282, A130, H⟩ := H
            replace H : ((bits_Cut.f (IntKind.u64.wrap (t282)) (wrap64 (Int.tmod a1 64))).bind fun t283 => (some (t283 == t280))) = some r := H
            have A13 := Aside0.mk A130
            clear A130
            replace H := Option.bind_eq_some_iff.mp H
            obtain ⟨t283, A140, H⟩ := H
            replace H : (some (t283 == t280)) = some r := H
            have A14 := Aside0.mk A140
            clear A140
            obtain rfl := Option.some.inj H
            go_enter Try.func11, Try.ntmps11
            go_wp2_with (first | ((with_reducible refine gate_callee (f := 24) rfl ?_); refine goesL_ (some 11) rfl rfl Try.func24 (by kernel_rfl) rfl #[] rfl (by (try simp only [List.map_toArray, List.map_cons, List.map_nil]); first | done | rfl | (simp only [List.length_drop, List.length_take]; rfl)) ?_; (with_reducible refine (anneallaw1_known.calls k  true _ A3.out).mono ?_); rintro e w' ⟨rfl, ⟨nd, rfl⟩⟩; refine ⟨_, rfl, ?_⟩) | ((with_reducible refine gate_callee (f := 31) rfl ?_); refine goesL_ (some 19) rfl rfl Try.func31 (by kernel_rfl) rfl #[.int .u64 a0, .int .i64 (wrap64 (Int.tmod a1 64))] rfl (by (try simp only [List.map_toArray, List.map_cons, List.map_nil]); first | done | rfl | (simp only [List.length_drop, List.length_take]; rfl)) ?_; (with_reducible refine (bits_Shift.calls k a0 (wrap64 (Int.tmod a1 64)) t276 t277 _ A5.out).mono ?_); rintro e w' ⟨rfl, ⟨nd, rfl⟩⟩; refine ⟨_, rfl, ?_⟩) | ((with_reducible refine gate_callee (f := 31) rfl ?_); refine goesL_ (some 26) rfl rfl Try.func31 (by kernel_rfl) rfl #[.int .u64 t276, .int .i64 (wrap64 (-(wrap64 (Int.tmod a1 64))))] rfl (by (try simp only [List.map_toArray, List.map_cons, List.map_nil]); first | done | rfl | (simp only [List.length_drop, List.length_take]; rfl)) ?_; (with_reducible refine (bits_Shift.calls k t276 (wrap64 (-(wrap64 (Int.tmod a1 64)))) t278 false _ A6.out).mono ?_); rintro e w' ⟨rfl, ⟨nd, rfl⟩⟩; refine ⟨_, rfl, ?_⟩) | ((with_reducible refine gate_callee (f := 33) rfl ?_); refine goesL_ (some 31) rfl rfl Try.func33 (by kernel_rfl) rfl #[.int .u64 a0, .int .i64 (wrap64 (Int.tmod a1 64))] rfl (by (try simp only [List.map_toArray, List.map_cons, List.map_nil]); first | done | rfl | (simp only [List.length_drop, List.length_take]; rfl)) ?_; (with_reducible refine (bits_Cut.calls a0 (wrap64 (Int.tmod a1 64)) t280 _ A7.out).mono ?_); rintro e w' ⟨rfl, ⟨nd, rfl⟩⟩; refine ⟨_, rfl, ?_⟩) | (go_at_call 35; (with_reducible refine (bits_Signed.calls a0 64 t281 _ A11.out).mono ?_); rintro e w15 ⟨rfl, hb⟩; have n0_ := Aside0.mk (below_step (by repeat (first | (with_reducible first | exact HB.out | apply below_alloc | apply pw_below_drewN | apply below_drew1) | exact HB.out)) hb); clear HB; have HB := n0_; clear n0_; (try clear hb); (try clear hb2); (try clear hk); (try clear hi)) | (go_at_call 35; (with_reducible refine (bits_Signed.calls a0 (wrap64 (Int.tmod a1 64)) t282 _ A13.out).mono ?_); rintro e w16 ⟨rfl, hb⟩; have n0_ := Aside0.mk (below_step (by repeat (first | (with_reducible first | exact HB.out | apply below_alloc | apply pw_below_drewN | apply below_drew1) | exact HB.out)) hb); clear HB; have HB := n0_; clear n0_; (try clear hb); (try clear hb2); (try clear hk); (try clear hi)) | (go_at_call 33; (with_reducible refine (bits_Cut.calls (IntKind.u64.wrap (t282)) (wrap64 (Int.tmod a1 64)) t283 _ A14.out).mono ?_); rintro e w' ⟨rfl, ⟨nd, rfl⟩⟩))
            go_ret
            exact ⟨by first | rfl | (simp [errW_none, errW_some] <;> rfl) | (simp [*, errW_none, errW_some] <;> rfl), by repeat (first | (with_reducible first | exact HB.out | apply below_alloc | apply pw_below_drewN | apply below_drew1) | exact HB.out)⟩
          · rw [if_neg c12] at H
            have c12b0 : ((IntKind.u64.wrap (t281)) == a0) = false := beq_eq_false_iff_ne.mpr c12
            have c12b1 : ((IntKind.u64.wrap (t281)) != a0) = true := bne_iff_ne.mpr c12
            obtain rfl := Option.some.inj H
            go_enter Try.func11, Try.ntmps11
            go_wp2_with (first | ((with_reducible refine gate_callee (f := 24) rfl ?_); refine goesL_ (some 11) rfl rfl Try.func24 (by kernel_rfl) rfl #[] rfl (by (try simp only [List.map_toArray, List.map_cons, List.map_nil]); first | done | rfl | (simp only [List.length_drop, List.length_take]; rfl)) ?_; (with_reducible refine (anneallaw1_known.calls k  true _ A3.out).mono ?_); rintro e w' ⟨rfl, ⟨nd, rfl⟩⟩; refine ⟨_, rfl, ?_⟩) | ((with_reducible refine gate_callee (f := 31) rfl ?_); refine goesL_ (some 19) rfl rfl Try.func31 (by kernel_rfl) rfl #[.int .u64 a0, .int .i64 (wrap64 (Int.tmod a1 64))] rfl (by (try simp only [List.map_toArray, List.map_cons, List.map_nil]); first | done | rfl | (simp only [List.length_drop, List.length_take]; rfl)) ?_; (with_reducible refine (bits_Shift.calls k a0 (wrap64 (Int.tmod a1 64)) t276 t277 _ A5.out).mono ?_); rintro e w' ⟨rfl, ⟨nd, rfl⟩⟩; refine ⟨_, rfl, ?_⟩) | ((with_reducible refine gate_callee (f := 31) rfl ?_); refine goesL_ (some 26) rfl rfl Try.func31 (by kernel_rfl) rfl #[.int .u64 t276, .int .i64 (wrap64 (-(wrap64 (Int.tmod a1 64))))] rfl (by (try simp only [List.map_toArray, List.map_cons, List.map_nil]); first | done | rfl | (simp only [List.length_drop, List.length_take]; rfl)) ?_; (with_reducible refine (bits_Shift.calls k t276 (wrap64 (-(wrap64 (Int.tmod a1 64)))) t278 false _ A6.out).mono ?_); rintro e w' ⟨rfl, ⟨nd, rfl⟩⟩; refine ⟨_, rfl, ?_⟩) | ((with_reducible refine gate_callee (f := 33) rfl ?_); refine goesL_ (some 31) rfl rfl Try.func33 (by kernel_rfl) rfl #[.int .u64 a0, .int .i64 (wrap64 (Int.tmod a1 64))] rfl (by (try simp only [List.map_toArray, List.map_cons, List.map_nil]); first | done | rfl | (simp only [List.length_drop, List.length_take]; rfl)) ?_; (with_reducible refine (bits_Cut.calls a0 (wrap64 (Int.tmod a1 64)) t280 _ A7.out).mono ?_); rintro e w' ⟨rfl, ⟨nd, rfl⟩⟩; refine ⟨_, rfl, ?_⟩) | (go_at_call 35; (with_reducible refine (bits_Signed.calls a0 64 t281 _ A11.out).mono ?_); rintro e w17 ⟨rfl, hb⟩; have n0_ := Aside0.mk (below_step (by repeat (first | (with_reducible first | exact HB.out | apply below_alloc | apply pw_below_drewN | apply below_drew1) | exact HB.out)) hb); clear HB; have HB := n0_; clear n0_; (try clear hb); (try clear hb2); (try clear hk); (try clear hi)))
            go_ret
            exact ⟨by first | rfl | (simp [errW_none, errW_some] <;> rfl) | (simp [*, errW_none, errW_some] <;> rfl), by repeat (first | (with_reducible first | exact HB.out | apply below_alloc | apply pw_below_drewN | apply below_drew1) | exact HB.out)⟩
        · rw [if_neg c10] at H
          have c10b0 : (t277 == (t280 != 0)) = false := by simpa using c10
          (try (have c10b1 : decide (t277 = (t280 != 0)) = false := by simpa using c10))
          (try (have c10b2 : (t277 == (t280 != 0)) = false := by simpa using c10))
          (try (have c10b3 : ¬ (t277 = (t280 != 0)) := by simpa using c10))
          clear c10
          obtain rfl := Option.some.inj H
          go_enter Try.func11, Try.ntmps11
          go_wp2_with (first | ((with_reducible refine gate_callee (f := 24) rfl ?_); refine goesL_ (some 11) rfl rfl Try.func24 (by kernel_rfl) rfl #[] rfl (by (try simp only [List.map_toArray, List.map_cons, List.map_nil]); first | done | rfl | (simp only [List.length_drop, List.length_take]; rfl)) ?_; (with_reducible refine (anneallaw1_known.calls k  true _ A3.out).mono ?_); rintro e w' ⟨rfl, ⟨nd, rfl⟩⟩; refine ⟨_, rfl, ?_⟩) | ((with_reducible refine gate_callee (f := 31) rfl ?_); refine goesL_ (some 19) rfl rfl Try.func31 (by kernel_rfl) rfl #[.int .u64 a0, .int .i64 (wrap64 (Int.tmod a1 64))] rfl (by (try simp only [List.map_toArray, List.map_cons, List.map_nil]); first | done | rfl | (simp only [List.length_drop, List.length_take]; rfl)) ?_; (with_reducible refine (bits_Shift.calls k a0 (wrap64 (Int.tmod a1 64)) t276 t277 _ A5.out).mono ?_); rintro e w' ⟨rfl, ⟨nd, rfl⟩⟩; refine ⟨_, rfl, ?_⟩) | ((with_reducible refine gate_callee (f := 31) rfl ?_); refine goesL_ (some 26) rfl rfl Try.func31 (by kernel_rfl) rfl #[.int .u64 t276, .int .i64 (wrap64 (-(wrap64 (Int.tmod a1 64))))] rfl (by (try simp only [List.map_toArray, List.map_cons, List.map_nil]); first | done | rfl | (simp only [List.length_drop, List.length_take]; rfl)) ?_; (with_reducible refine (bits_Shift.calls k t276 (wrap64 (-(wrap64 (Int.tmod a1 64)))) t278 false _ A6.out).mono ?_); rintro e w' ⟨rfl, ⟨nd, rfl⟩⟩; refine ⟨_, rfl, ?_⟩) | ((with_reducible refine gate_callee (f := 33) rfl ?_); refine goesL_ (some 31) rfl rfl Try.func33 (by kernel_rfl) rfl #[.int .u64 a0, .int .i64 (wrap64 (Int.tmod a1 64))] rfl (by (try simp only [List.map_toArray, List.map_cons, List.map_nil]); first | done | rfl | (simp only [List.length_drop, List.length_take]; rfl)) ?_; (with_reducible refine (bits_Cut.calls a0 (wrap64 (Int.tmod a1 64)) t280 _ A7.out).mono ?_); rintro e w' ⟨rfl, ⟨nd, rfl⟩⟩; refine ⟨_, rfl, ?_⟩))
          go_ret
          exact ⟨by first | rfl | (simp [errW_none, errW_some] <;> rfl) | (simp [*, errW_none, errW_some] <;> rfl), by repeat (first | (with_reducible first | exact HB.out | apply below_alloc | apply pw_below_drewN | apply below_drew1) | exact HB.out)⟩
      · rw [if_neg c9] at H
        have c9b0 : ((IntKind.u64.wrap (t278 + t280)) == a0) = false := beq_eq_false_iff_ne.mpr c9
        have c9b1 : ((IntKind.u64.wrap (t278 + t280)) != a0) = true := bne_iff_ne.mpr c9
        obtain rfl := Option.some.inj H
        go_enter Try.func11, Try.ntmps11
        go_wp2_with (first | ((with_reducible refine gate_callee (f := 24) rfl ?_); refine goesL_ (some 11) rfl rfl Try.func24 (by kernel_rfl) rfl #[] rfl (by (try simp only [List.map_toArray, List.map_cons, List.map_nil]); first | done | rfl | (simp only [List.length_drop, List.length_take]; rfl)) ?_; (with_reducible refine (anneallaw1_known.calls k  true _ A3.out).mono ?_); rintro e w' ⟨rfl, ⟨nd, rfl⟩⟩; refine ⟨_, rfl, ?_⟩) | ((with_reducible refine gate_callee (f := 31) rfl ?_); refine goesL_ (some 19) rfl rfl Try.func31 (by kernel_rfl) rfl #[.int .u64 a0, .int .i64 (wrap64 (Int.tmod a1 64))] rfl (by (try simp only [List.map_toArray, List.map_cons, List.map_nil]); first | done | rfl | (simp only [List.length_drop, List.length_take]; rfl)) ?_; (with_reducible refine (bits_Shift.calls k a0 (wrap64 (Int.tmod a1 64)) t276 t277 _ A5.out).mono ?_); rintro e w' ⟨rfl, ⟨nd, rfl⟩⟩; refine ⟨_, rfl, ?_⟩) | ((with_reducible refine gate_callee (f := 31) rfl ?_); refine goesL_ (some 26) rfl rfl Try.func31 (by kernel_rfl) rfl #[.int .u64 t276, .int .i64 (wrap64 (-(wrap64 (Int.tmod a1 64))))] rfl (by (try simp only [List.map_toArray, List.map_cons, List.map_nil]); first | done | rfl | (simp only [List.length_drop, List.length_take]; rfl)) ?_; (with_reducible refine (bits_Shift.calls k t276 (wrap64 (-(wrap64 (Int.tmod a1 64)))) t278 false _ A6.out).mono ?_); rintro e w' ⟨rfl, ⟨nd, rfl⟩⟩; refine ⟨_, rfl, ?_⟩) | ((with_reducible refine gate_callee (f := 33) rfl ?_); refine goesL_ (some 31) rfl rfl Try.func33 (by kernel_rfl) rfl #[.int .u64 a0, .int .i64 (wrap64 (Int.tmod a1 64))] rfl (by (try simp only [List.map_toArray, List.map_cons, List.map_nil]); first | done | rfl | (simp only [List.length_drop, List.length_take]; rfl)) ?_; (with_reducible refine (bits_Cut.calls a0 (wrap64 (Int.tmod a1 64)) t280 _ A7.out).mono ?_); rintro e w' ⟨rfl, ⟨nd, rfl⟩⟩; refine ⟨_, rfl, ?_⟩))
        go_ret
        exact ⟨by first | rfl | (simp [errW_none, errW_some] <;> rfl) | (simp [*, errW_none, errW_some] <;> rfl), by repeat (first | (with_reducible first | exact HB.out | apply below_alloc | apply pw_below_drewN | apply below_drew1) | exact HB.out)⟩
  · replace c4 := Bool.eq_false_iff.mpr c4
    subst c4
    have H1 : (some false) = some r := by rw [if_neg (show ¬ (false = true) by decide)] at H; exact H
    clear H
    have H := H1
    clear H1
    obtain rfl := Option.some.inj H
    go_enter Try.func11, Try.ntmps11
    go_wp2_with (first | ((with_reducible refine gate_callee (f := 24) rfl ?_); refine goesL_ (some 11) rfl rfl Try.func24 (by kernel_rfl) rfl #[] rfl (by (try simp only [List.map_toArray, List.map_cons, List.map_nil]); first | done | rfl | (simp only [List.length_drop, List.length_take]; rfl)) ?_; (with_reducible refine (anneallaw1_known.calls k  false _ A3.out).mono ?_); rintro e w' ⟨rfl, ⟨nd, rfl⟩⟩; refine ⟨_, rfl, ?_⟩))
    go_ret
    exact ⟨by first | rfl | (simp [errW_none, errW_some] <;> rfl) | (simp [*, errW_none, errW_some] <;> rfl), by repeat (first | (with_reducible first | exact HB.out | apply below_alloc | apply pw_below_drewN | apply below_drew1) | exact HB.out)⟩

/-- THE ONE PURE STATEMENT of anneallaw1_BitsBack: yours. -/
def anneallaw1_BitsBack.Pure : Prop := ∀ (a0 : Int) (a1 : Int), (Lit.int .u64 a0).wf = true → (Lit.int .u8 a1).wf = true → ∃ k, anneallaw1_BitsBack.f k a0 a1 = some true
theorem anneallaw1_BitsBack.walk (P : anneallaw1_BitsBack.Pure) (a0 : Int) (a1 : Int) (w : World) (w0 : (Lit.int .u64 a0).wf = true) (w1 : (Lit.int .u8 a1).wf = true) :
    Calls Try.prog 11 #[.int .u64 a0, .int .u8 a1] w fun e w' => e = .returned (.bool true) ∧ Below w.heap.size w w' := by
  obtain ⟨k, h⟩ := P a0 a1 w0 w1
  refine (anneallaw1_BitsBack.calls k a0 a1 true w h).mono ?_
  rintro e w' ⟨rfl, hd⟩
  exact ⟨rfl, hd⟩

/-! ### data_in: function 75 -/
def data_in.f (a0 : Int) (a1 : Int) (a2 : Int) : Option (Bool) := if a0 ≥ a1 then (some (decide (a0 ≤ a2))) else (some false)
set_option maxHeartbeats 8000000 in
set_option maxRecDepth 100000 in
theorem data_in.calls (a0 : Int) (a1 : Int) (a2 : Int) (r : Bool) (w : World) (h : data_in.f a0 a1 a2 = some r) :
    Calls Try.prog 75 #[.int .i64 a0, .int .i64 a1, .int .i64 a2] w fun e w' => e = .returned (.bool r) ∧ Drawn0 w w' := by
  have H : (if a0 ≥ a1 then (some (decide (a0 ≤ a2))) else (some false)) = some r := h
  clear h
  by_cases c4 : a0 ≥ a1
  · rw [if_pos c4] at H
    have c4b0 : decide (a1 ≤ a0) = true := decide_eq_true c4
    clear c4
    obtain rfl := Option.some.inj H
    go_enter Try.func75, Try.ntmps75
    go_wp2
    go_ret
    exact ⟨by first | rfl | (simp; done) | (simp [*]; done) | (congr 1; (try unfold wrap64); omega), by repeat (first | exact Drawn0.refl _ | apply Drawn0.step)⟩
  · rw [if_neg c4] at H
    have c4b0 : decide (a1 ≤ a0) = false := decide_eq_false c4
    clear c4
    obtain rfl := Option.some.inj H
    go_enter Try.func75, Try.ntmps75
    go_wp2
    go_ret
    exact ⟨by first | rfl | (simp; done) | (simp [*]; done) | (congr 1; (try unfold wrap64); omega), by repeat (first | exact Drawn0.refl _ | apply Drawn0.step)⟩

end Go.Proofs.Ytjmihdhclbjaeaa.P
