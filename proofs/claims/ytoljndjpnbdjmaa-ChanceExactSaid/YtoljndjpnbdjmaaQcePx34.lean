import Derived.Test.YtoljndjpnbdjmaaQcePx0
import Derived.Test.YtoljndjpnbdjmaaQcePx15
import Derived.Test.YtoljndjpnbdjmaaQcePx23
import Derived.Test.YtoljndjpnbdjmaaQcePx24
import Derived.Test.YtoljndjpnbdjmaaQcePx30
import Derived.Test.YtoljndjpnbdjmaaQcePx31
-- Printed by a program of this session's out of Lean's print of the translation; Lean checks it.
namespace Go.Proofs.Ytoljndjpnbdjmaa.P
open Go.RowKit Go.Proofs.YtoljndjpnbdjmaaW.PrintWords Go.Proofs.YtoljndjpnbdjmaaW.PrintLast Go.Proofs.YtoljndjpnbdjmaaW.PrintMore
attribute [local go_sem] max2_int min2_int max_two min_two max_three min_three max_four min_four   -- for this text's walks alone
set_option linter.unusedVariables false
set_option linter.unusedSimpArgs false

-- NOT PRINTED: function 12 (anneallaw11_ChanceBetween)

/-! ### anneallaw11_ChanceExact: function 13 -/
def anneallaw11_ChanceExact.f (k : Nat) (a0 : Int) (a1 : Int) (a2 : Int) : Option (Bool) := (anneallaw11_known.f k).bind fun t662 => (if t662 = true then ((some (([0, 1, 2] : List Int) : List Int)).bind fun y663 => (if 0 ≤ (Int.tmod a0 3) then (if (Int.tmod a0 3) < (y663.length : Int) then ((annealref1_Mask.f (rd y663 (Int.tmod a0 3))).bind fun t667 => ((annealref1_Class.f k (rd y663 (Int.tmod a0 3)) (Go.bits .and .u32 a1 t667)).bind fun t668 => (if t668 ≥ 4 then ((annealref1_Nan.f (rd y663 (Int.tmod a0 3))).bind fun t669 => ((annealref1_Widen.f k (rd y663 (Int.tmod a0 3)) (Go.bits .and .u32 a1 t667)).bind fun t670 => ((chance_Narrow.f k (rd y663 (Int.tmod a0 3)) t670 a2).bind fun t671 => (some (t671 == t669))))) else ((annealref1_Widen.f k (rd y663 (Int.tmod a0 3)) (Go.bits .and .u32 a1 t667)).bind fun t672 => ((chance_Narrow.f k (rd y663 (Int.tmod a0 3)) t672 a2).bind fun t673 => (some (t673 == (Go.bits .and .u32 a1 t667)))))))) else (none)) else (none))) else (some false))
set_option maxHeartbeats 8000000 in
set_option maxRecDepth 100000 in
theorem anneallaw11_ChanceExact.calls (k : Nat) (a0 : Int) (a1 : Int) (a2 : Int) (r : Bool) (w : World) (h : anneallaw11_ChanceExact.f k a0 a1 a2 = some r) :
    Calls Try.prog 13 #[.int .u8 a0, .int .u32 a1, .int .u32 a2] w fun e w' => e = .returned (.bool r) ∧ Below w.heap.size w w' := by
  have HB := Aside0.mk (Below.refl w.heap.size w)
  have H : ((anneallaw11_known.f k).bind fun t662 => (if t662 = true then ((some (([0, 1, 2] : List Int) : List Int)).bind fun y663 => (if 0 ≤ (Int.tmod a0 3) then (if (Int.tmod a0 3) < (y663.length : Int) then ((annealref1_Mask.f (rd y663 (Int.tmod a0 3))).bind fun t667 => ((annealref1_Class.f k (rd y663 (Int.tmod a0 3)) (Go.bits .and .u32 a1 t667)).bind fun t668 => (if t668 ≥ 4 then ((annealref1_Nan.f (rd y663 (Int.tmod a0 3))).bind fun t669 => ((annealref1_Widen.f k (rd y663 (Int.tmod a0 3)) (Go.bits .and .u32 a1 t667)).bind fun t670 => ((chance_Narrow.f k (rd y663 (Int.tmod a0 3)) t670 a2).bind fun t671 => (some (t671 == t669))))) else ((annealref1_Widen.f k (rd y663 (Int.tmod a0 3)) (Go.bits .and .u32 a1 t667)).bind fun t672 => ((chance_Narrow.f k (rd y663 (Int.tmod a0 3)) t672 a2).bind fun t673 => (some (t673 == (Go.bits .and .u32 a1 t667)))))))) else (none)) else (none))) else (some false))) = some r := h
  clear h
  replace H := Option.bind_eq_some_iff.mp H
  obtain ⟨t662, A40, H⟩ := H
  replace H : (if t662 = true then ((some (([0, 1, 2] : List Int) : List Int)).bind fun y663 => (if 0 ≤ (Int.tmod a0 3) then (if (Int.tmod a0 3) < (y663.length : Int) then ((annealref1_Mask.f (rd y663 (Int.tmod a0 3))).bind fun t667 => ((annealref1_Class.f k (rd y663 (Int.tmod a0 3)) (Go.bits .and .u32 a1 t667)).bind fun t668 => (if t668 ≥ 4 then ((annealref1_Nan.f (rd y663 (Int.tmod a0 3))).bind fun t669 => ((annealref1_Widen.f k (rd y663 (Int.tmod a0 3)) (Go.bits .and .u32 a1 t667)).bind fun t670 => ((chance_Narrow.f k (rd y663 (Int.tmod a0 3)) t670 a2).bind fun t671 => (some (t671 == t669))))) else ((annealref1_Widen.f k (rd y663 (Int.tmod a0 3)) (Go.bits .and .u32 a1 t667)).bind fun t672 => ((chance_Narrow.f k (rd y663 (Int.tmod a0 3)) t672 a2).bind fun t673 => (some (t673 == (Go.bits .and .u32 a1 t667)))))))) else (none)) else (none))) else (some false)) = some r := H
  have A4 := Aside0.mk A40
  clear A40
  by_cases c5 : t662 = true
  · subst c5
    have H1 : ((some (([0, 1, 2] : List Int) : List Int)).bind fun y663 => (if 0 ≤ (Int.tmod a0 3) then (if (Int.tmod a0 3) < (y663.length : Int) then ((annealref1_Mask.f (rd y663 (Int.tmod a0 3))).bind fun t667 => ((annealref1_Class.f k (rd y663 (Int.tmod a0 3)) (Go.bits .and .u32 a1 t667)).bind fun t668 => (if t668 ≥ 4 then ((annealref1_Nan.f (rd y663 (Int.tmod a0 3))).bind fun t669 => ((annealref1_Widen.f k (rd y663 (Int.tmod a0 3)) (Go.bits .and .u32 a1 t667)).bind fun t670 => ((chance_Narrow.f k (rd y663 (Int.tmod a0 3)) t670 a2).bind fun t671 => (some (t671 == t669))))) else ((annealref1_Widen.f k (rd y663 (Int.tmod a0 3)) (Go.bits .and .u32 a1 t667)).bind fun t672 => ((chance_Narrow.f k (rd y663 (Int.tmod a0 3)) t672 a2).bind fun t673 => (some (t673 == (Go.bits .and .u32 a1 t667)))))))) else (none)) else (none))) = some r := by rw [if_pos rfl] at H; exact H
    clear H
    have H := H1
    clear H1
    obtain ⟨y663, hy663⟩ : ∃ y_ : List Int, y_ = (([0, 1, 2] : List Int)) := ⟨_, rfl⟩
    replace H : (if 0 ≤ (Int.tmod a0 3) then (if (Int.tmod a0 3) < (y663.length : Int) then ((annealref1_Mask.f (rd y663 (Int.tmod a0 3))).bind fun t667 => ((annealref1_Class.f k (rd y663 (Int.tmod a0 3)) (Go.bits .and .u32 a1 t667)).bind fun t668 => (if t668 ≥ 4 then ((annealref1_Nan.f (rd y663 (Int.tmod a0 3))).bind fun t669 => ((annealref1_Widen.f k (rd y663 (Int.tmod a0 3)) (Go.bits .and .u32 a1 t667)).bind fun t670 => ((chance_Narrow.f k (rd y663 (Int.tmod a0 3)) t670 a2).bind fun t671 => (some (t671 == t669))))) else ((annealref1_Widen.f k (rd y663 (Int.tmod a0 3)) (Go.bits .and .u32 a1 t667)).bind fun t672 => ((chance_Narrow.f k (rd y663 (Int.tmod a0 3)) t672 a2).bind fun t673 => (some (t673 == (Go.bits .and .u32 a1 t667)))))))) else (none)) else (none)) = some r := by first | (rw [hy663]; with_reducible exact H) | (have H2_ := (Option.bind_some _ _).symm.trans H; rw [hy663]; with_reducible exact H2_) | (have H2_ := (Option.bind_some _ _).symm.trans H; with_reducible exact H2_) | with_reducible exact H | (rw [hy663]; exact H) | exact H
    have Ny663 := Aside0.mk hy663
    clear hy663
    obtain ⟨ji6, hji6⟩ : ∃ j_ : Int, (Int.tmod a0 3) = j_ := ⟨_, rfl⟩
    replace H : (if 0 ≤ (ji6) then (if (ji6) < (y663.length : Int) then ((annealref1_Mask.f (rd y663 (ji6))).bind fun t667 => ((annealref1_Class.f k (rd y663 (ji6)) (Go.bits .and .u32 a1 t667)).bind fun t668 => (if t668 ≥ 4 then ((annealref1_Nan.f (rd y663 (ji6))).bind fun t669 => ((annealref1_Widen.f k (rd y663 (ji6)) (Go.bits .and .u32 a1 t667)).bind fun t670 => ((chance_Narrow.f k (rd y663 (ji6)) t670 a2).bind fun t671 => (some (t671 == t669))))) else ((annealref1_Widen.f k (rd y663 (ji6)) (Go.bits .and .u32 a1 t667)).bind fun t672 => ((chance_Narrow.f k (rd y663 (ji6)) t672 a2).bind fun t673 => (some (t673 == (Go.bits .and .u32 a1 t667)))))))) else (none)) else (none)) = some r := by first | (rw [hji6] at H; exact H) | (simp only [hji6] at H ⊢; exact H)
    (try rw [hji6] at A4)
    by_cases c7 : 0 ≤ (ji6)
    · rw [if_pos c7] at H
      have c7b0 : decide (0 ≤ (ji6)) = true := decide_eq_true c7
      clear c7
      by_cases c8 : (ji6) < (y663.length : Int)
      · rw [if_pos c8] at H
        have c8b0 : decide ((ji6) < (y663.length : Int)) = true := decide_eq_true c8
        clear c8
        replace H := Option.bind_eq_some_iff.mp H
        obtain ⟨t667, A90, H⟩ := H
        replace H : ((annealref1_Class.f k (rd y663 (ji6)) (Go.bits .and .u32 a1 t667)).bind fun t668 => (if t668 ≥ 4 then ((annealref1_Nan.f (rd y663 (ji6))).bind fun t669 => ((annealref1_Widen.f k (rd y663 (ji6)) (Go.bits .and .u32 a1 t667)).bind fun t670 => ((chance_Narrow.f k (rd y663 (ji6)) t670 a2).bind fun t671 => (some (t671 == t669))))) else ((annealref1_Widen.f k (rd y663 (ji6)) (Go.bits .and .u32 a1 t667)).bind fun t672 => ((chance_Narrow.f k (rd y663 (ji6)) t672 a2).bind fun t673 => (some (t673 == (Go.bits .and .u32 a1 t667))))))) = some r := H
        have A9 := Aside0.mk A90
        clear A90
        replace H := Option.bind_eq_some_iff.mp H
        obtain ⟨t668, A100, H⟩ := H
        replace H : (if t668 ≥ 4 then ((annealref1_Nan.f (rd y663 (ji6))).bind fun t669 => ((annealref1_Widen.f k (rd y663 (ji6)) (Go.bits .and .u32 a1 t667)).bind fun t670 => ((chance_Narrow.f k (rd y663 (ji6)) t670 a2).bind fun t671 => (some (t671 == t669))))) else ((annealref1_Widen.f k (rd y663 (ji6)) (Go.bits .and .u32 a1 t667)).bind fun t672 => ((chance_Narrow.f k (rd y663 (ji6)) t672 a2).bind fun t673 => (some (t673 == (Go.bits .and .u32 a1 t667)))))) = some r := H
        have A10 := Aside0.mk A100
        clear A100
        by_cases c11 : t668 ≥ 4
        · rw [if_pos c11] at H
          have c11b0 : decide (4 ≤ t668) = true := decide_eq_true c11
          clear c11
          replace H := Option.bind_eq_some_iff.mp H
          obtain ⟨t669, A120, H⟩ := H
          replace H : ((annealref1_Widen.f k (rd y663 (ji6)) (Go.bits .and .u32 a1 t667)).bind fun t670 => ((chance_Narrow.f k (rd y663 (ji6)) t670 a2).bind fun t671 => (some (t671 == t669)))) = some r := H
          have A12 := Aside0.mk A120
          clear A120
          replace H := Option.bind_eq_some_iff.mp H
          obtain ⟨t670, A130, H⟩ := H
          replace H : ((chance_Narrow.f k (rd y663 (ji6)) t670 a2).bind fun t671 => (some (t671 == t669))) = some r := H
          have A13 := Aside0.mk A130
          clear A130
          replace H := Option.bind_eq_some_iff.mp H
          obtain ⟨t671, A140, H⟩ := H
          replace H : (some (t671 == t669)) = some r := H
          have A14 := Aside0.mk A140
          clear A140
          obtain rfl := Option.some.inj H
          go_enter Try.func13, Try.ntmps13
          go_wp2_with (first | ((with_reducible refine gate_callee (f := 37) rfl ?_); refine goesL_ (some 11) rfl rfl Try.func37 (by kernel_rfl) rfl #[] rfl (by (try simp only [List.map_toArray, List.map_cons, List.map_nil]); first | done | rfl | (simp only [List.length_drop, List.length_take]; rfl)) ?_; (with_reducible refine (anneallaw11_known.calls k  true _ A4.out).mono ?_); rintro e w15 ⟨rfl, hb⟩; refine ⟨_, rfl, ?_⟩; have n0_ := Aside0.mk (below_step (by repeat (first | (with_reducible first | exact HB.out | apply below_alloc | apply pw_below_drewN | apply below_drew1) | exact HB.out)) hb); clear HB; have HB := n0_; clear n0_; (try clear hb); (try clear hb2); (try clear hk); (try clear hi)) | ((with_reducible refine gate_dst (N := 13) rfl ?_); refine Kd.R_lit (Kd.int .i64) _ 3 ?hg (N := 13) ?hd (xs := ([0, 1, 2] : List Int)) (inner := [.int .i64 0, .int .i64 1, .int .i64 2]) (ok := fun _ => True) (okp := fun _ => True) ?hr ?hp (fun _ hk => hk) trivial (Below.refl _ _) (Nat.le_refl _) (by simp) ?_; (case hd => rfl); (case hg => rfl); (case hr => first | (go_simp; done) | (go_simp; rfl)); (case hp => exact (Reps.one (show Kd.M (Kd.int .i64) _ _ _ 0 [.int .i64 0] from rfl) (Reps.one (show Kd.M (Kd.int .i64) _ _ _ 1 [.int .i64 1] from rfl) (Reps.one (show Kd.M (Kd.int .i64) _ _ _ 2 [.int .i64 2] from rfl) (Reps.none _ _))))); intro v664 w16 ho17 hb hg_ hnew_; clear hg_ hnew_; (first | rw [← Ny663.out] at ho17 | (simp only [Int.reduceToNat] at ho17; rw [← Ny663.out] at ho17)); have n0_ := Aside0.mk (Kd.R_lower ho17 (below_size (by repeat (first | (with_reducible first | exact HB.out | apply below_alloc | apply pw_below_drewN | apply below_drew1) | exact HB.out)))); have n1_ := Aside0.mk (below_step (by repeat (first | (with_reducible first | exact HB.out | apply below_alloc | apply pw_below_drewN | apply below_drew1) | exact HB.out)) hb); clear HB; have HO665 := n0_; have HB := n1_; clear n0_ n1_; clear hb ho17; obtain ⟨Ao18, co18, eo18⟩ := Kd.R_slice HO665.out; subst eo18; have p666 : 0 ≤ ((ji6) : Int) := of_decide_eq_true (by first | (with_reducible assumption) | assumption); have q666 : (ji6) < (y663.length : Int) := of_decide_eq_true (by first | (with_reducible assumption) | assumption); obtain ⟨ad666, e666, hx666_0⟩ := Kd.at_int (Kd.R_reads' HO665.out).2.2 (ji6) p666 q666; cases e666; replace p666 := eq_true p666; replace q666 := eq_true q666) | ((with_reducible refine gate_callee (f := 19) rfl ?_); refine goesL_ (some 20) rfl rfl Try.func19 (by kernel_rfl) rfl #[.int .i64 (rd y663 (ji6))] rfl (by (try simp only [List.map_toArray, List.map_cons, List.map_nil]); first | done | (simp only [hji6]; rfl) | rfl | (simp only [List.length_drop, List.length_take]; rfl)) ?_; (with_reducible refine (annealref1_Mask.calls (rd y663 (ji6)) t667 _ A9.out).mono ?_); rintro e w' ⟨rfl, ⟨nd, rfl⟩⟩; refine ⟨_, rfl, ?_⟩) | ((with_reducible refine gate_callee (f := 34) rfl ?_); refine goesL_ (some 25) rfl rfl Try.func34 (by kernel_rfl) rfl #[.int .i64 (rd y663 (ji6)), .int .u32 (Go.bits .and .u32 a1 t667)] rfl (by (try simp only [List.map_toArray, List.map_cons, List.map_nil]); first | done | (simp only [hji6]; rfl) | rfl | (simp only [List.length_drop, List.length_take]; rfl)) ?_; (with_reducible refine (annealref1_Class.calls k (rd y663 (ji6)) (Go.bits .and .u32 a1 t667) t668 _ A10.out).mono ?_); rintro e w' ⟨rfl, ⟨nd, rfl⟩⟩; refine ⟨_, rfl, ?_⟩) | ((with_reducible refine gate_callee (f := 35) rfl ?_); refine goesL_ (some 29) rfl rfl Try.func35 (by kernel_rfl) rfl #[.int .i64 (rd y663 (ji6))] rfl (by (try simp only [List.map_toArray, List.map_cons, List.map_nil]); first | done | (simp only [hji6]; rfl) | rfl | (simp only [List.length_drop, List.length_take]; rfl)) ?_; (with_reducible refine (annealref1_Nan.calls (rd y663 (ji6)) t669 _ A12.out).mono ?_); rintro e w' ⟨rfl, ⟨nd, rfl⟩⟩; refine ⟨_, rfl, ?_⟩) | ((with_reducible refine gate_callee (f := 31) rfl ?_); refine goesL_ (some 33) rfl rfl Try.func31 (by kernel_rfl) rfl #[.int .i64 (rd y663 (ji6)), .int .u32 (Go.bits .and .u32 a1 t667)] rfl (by (try simp only [List.map_toArray, List.map_cons, List.map_nil]); first | done | (simp only [hji6]; rfl) | rfl | (simp only [List.length_drop, List.length_take]; rfl)) ?_; (with_reducible refine (annealref1_Widen.calls k (rd y663 (ji6)) (Go.bits .and .u32 a1 t667) t670 _ A13.out).mono ?_); rintro e w19 ⟨rfl, hb⟩; refine ⟨_, rfl, ?_⟩; have n0_ := Aside0.mk (Kd.R_below (by (with_reducible repeat (first | apply Kd.R_alloc | apply Kd.R_drewN | apply Kd.R_drew)); exact HO665.out) hb); have n1_ := Aside0.mk (below_step (by repeat (first | (with_reducible first | exact HB.out | apply below_alloc | apply pw_below_drewN | apply below_drew1) | exact HB.out)) hb); clear HO665; clear HB; have HO665 := n0_; have HB := n1_; clear n0_ n1_; (try clear hb); (try clear hb2); (try clear hk); (try clear hi)) | ((with_reducible refine gate_callee (f := 38) rfl ?_); refine goesL_ (some 35) rfl rfl Try.func38 (by kernel_rfl) rfl #[.int .i64 (rd y663 (ji6)), .int .u32 t670, .int .u32 a2] rfl (by (try simp only [List.map_toArray, List.map_cons, List.map_nil]); first | done | (simp only [hji6]; rfl) | rfl | (simp only [List.length_drop, List.length_take]; rfl)) ?_; (with_reducible refine (chance_Narrow.calls k (rd y663 (ji6)) t670 a2 t671 _ A14.out).mono ?_); rintro e w20 ⟨rfl, hb⟩; refine ⟨_, rfl, ?_⟩; have n0_ := Aside0.mk (Kd.R_below (by (with_reducible repeat (first | apply Kd.R_alloc | apply Kd.R_drewN | apply Kd.R_drew)); exact HO665.out) hb); have n1_ := Aside0.mk (below_step (by repeat (first | (with_reducible first | exact HB.out | apply below_alloc | apply pw_below_drewN | apply below_drew1) | exact HB.out)) hb); clear HO665; clear HB; have HO665 := n0_; have HB := n1_; clear n0_ n1_; (try clear hb); (try clear hb2); (try clear hk); (try clear hi)))
          go_ret
          exact ⟨by first | rfl | (simp [errW_none, errW_some] <;> rfl) | (simp only [← hji6]; first | rfl | (simp [errW_none, errW_some] <;> rfl)) | (simp [*, errW_none, errW_some] <;> rfl), by repeat (first | (with_reducible first | exact HB.out | apply below_alloc | apply pw_below_drewN | apply below_drew1) | exact HB.out)⟩
        · rw [if_neg c11] at H
          have c11b0 : decide (4 ≤ t668) = false := decide_eq_false c11
          clear c11
          replace H := Option.bind_eq_some_iff.mp H
          obtain ⟨t672, A210, H⟩ := H
          replace H : ((chance_Narrow.f k (rd y663 (ji6)) t672 a2).bind fun t673 => (some (t673 == (Go.bits .and .u32 a1 t667)))) = some r := H
          have A21 := Aside0.mk A210
          clear A210
          replace H := Option.bind_eq_some_iff.mp H
          obtain ⟨t673, A220, H⟩ := H
          replace H : (some (t673 == (Go.bits .and .u32 a1 t667))) = some r := H
          have A22 := Aside0.mk A220
          clear A220
          obtain rfl := Option.some.inj H
          go_enter Try.func13, Try.ntmps13
          go_wp2_with (first | ((with_reducible refine gate_callee (f := 37) rfl ?_); refine goesL_ (some 11) rfl rfl Try.func37 (by kernel_rfl) rfl #[] rfl (by (try simp only [List.map_toArray, List.map_cons, List.map_nil]); first | done | rfl | (simp only [List.length_drop, List.length_take]; rfl)) ?_; (with_reducible refine (anneallaw11_known.calls k  true _ A4.out).mono ?_); rintro e w23 ⟨rfl, hb⟩; refine ⟨_, rfl, ?_⟩; have n0_ := Aside0.mk (below_step (by repeat (first | (with_reducible first | exact HB.out | apply below_alloc | apply pw_below_drewN | apply below_drew1) | exact HB.out)) hb); clear HB; have HB := n0_; clear n0_; (try clear hb); (try clear hb2); (try clear hk); (try clear hi)) | ((with_reducible refine gate_dst (N := 13) rfl ?_); refine Kd.R_lit (Kd.int .i64) _ 3 ?hg (N := 13) ?hd (xs := ([0, 1, 2] : List Int)) (inner := [.int .i64 0, .int .i64 1, .int .i64 2]) (ok := fun _ => True) (okp := fun _ => True) ?hr ?hp (fun _ hk => hk) trivial (Below.refl _ _) (Nat.le_refl _) (by simp) ?_; (case hd => rfl); (case hg => rfl); (case hr => first | (go_simp; done) | (go_simp; rfl)); (case hp => exact (Reps.one (show Kd.M (Kd.int .i64) _ _ _ 0 [.int .i64 0] from rfl) (Reps.one (show Kd.M (Kd.int .i64) _ _ _ 1 [.int .i64 1] from rfl) (Reps.one (show Kd.M (Kd.int .i64) _ _ _ 2 [.int .i64 2] from rfl) (Reps.none _ _))))); intro v664 w24 ho25 hb hg_ hnew_; clear hg_ hnew_; (first | rw [← Ny663.out] at ho25 | (simp only [Int.reduceToNat] at ho25; rw [← Ny663.out] at ho25)); have n0_ := Aside0.mk (Kd.R_lower ho25 (below_size (by repeat (first | (with_reducible first | exact HB.out | apply below_alloc | apply pw_below_drewN | apply below_drew1) | exact HB.out)))); have n1_ := Aside0.mk (below_step (by repeat (first | (with_reducible first | exact HB.out | apply below_alloc | apply pw_below_drewN | apply below_drew1) | exact HB.out)) hb); clear HB; have HO665 := n0_; have HB := n1_; clear n0_ n1_; clear hb ho25; obtain ⟨Ao26, co26, eo26⟩ := Kd.R_slice HO665.out; subst eo26; have p666 : 0 ≤ ((ji6) : Int) := of_decide_eq_true (by first | (with_reducible assumption) | assumption); have q666 : (ji6) < (y663.length : Int) := of_decide_eq_true (by first | (with_reducible assumption) | assumption); obtain ⟨ad666, e666, hx666_0⟩ := Kd.at_int (Kd.R_reads' HO665.out).2.2 (ji6) p666 q666; cases e666; replace p666 := eq_true p666; replace q666 := eq_true q666) | ((with_reducible refine gate_callee (f := 19) rfl ?_); refine goesL_ (some 20) rfl rfl Try.func19 (by kernel_rfl) rfl #[.int .i64 (rd y663 (ji6))] rfl (by (try simp only [List.map_toArray, List.map_cons, List.map_nil]); first | done | (simp only [hji6]; rfl) | rfl | (simp only [List.length_drop, List.length_take]; rfl)) ?_; (with_reducible refine (annealref1_Mask.calls (rd y663 (ji6)) t667 _ A9.out).mono ?_); rintro e w' ⟨rfl, ⟨nd, rfl⟩⟩; refine ⟨_, rfl, ?_⟩) | ((with_reducible refine gate_callee (f := 34) rfl ?_); refine goesL_ (some 25) rfl rfl Try.func34 (by kernel_rfl) rfl #[.int .i64 (rd y663 (ji6)), .int .u32 (Go.bits .and .u32 a1 t667)] rfl (by (try simp only [List.map_toArray, List.map_cons, List.map_nil]); first | done | (simp only [hji6]; rfl) | rfl | (simp only [List.length_drop, List.length_take]; rfl)) ?_; (with_reducible refine (annealref1_Class.calls k (rd y663 (ji6)) (Go.bits .and .u32 a1 t667) t668 _ A10.out).mono ?_); rintro e w' ⟨rfl, ⟨nd, rfl⟩⟩; refine ⟨_, rfl, ?_⟩) | ((with_reducible refine gate_callee (f := 31) rfl ?_); refine goesL_ (some 33) rfl rfl Try.func31 (by kernel_rfl) rfl #[.int .i64 (rd y663 (ji6)), .int .u32 (Go.bits .and .u32 a1 t667)] rfl (by (try simp only [List.map_toArray, List.map_cons, List.map_nil]); first | done | (simp only [hji6]; rfl) | rfl | (simp only [List.length_drop, List.length_take]; rfl)) ?_; (with_reducible refine (annealref1_Widen.calls k (rd y663 (ji6)) (Go.bits .and .u32 a1 t667) t672 _ A21.out).mono ?_); rintro e w27 ⟨rfl, hb⟩; refine ⟨_, rfl, ?_⟩; have n0_ := Aside0.mk (Kd.R_below (by (with_reducible repeat (first | apply Kd.R_alloc | apply Kd.R_drewN | apply Kd.R_drew)); exact HO665.out) hb); have n1_ := Aside0.mk (below_step (by repeat (first | (with_reducible first | exact HB.out | apply below_alloc | apply pw_below_drewN | apply below_drew1) | exact HB.out)) hb); clear HO665; clear HB; have HO665 := n0_; have HB := n1_; clear n0_ n1_; (try clear hb); (try clear hb2); (try clear hk); (try clear hi)) | ((with_reducible refine gate_callee (f := 38) rfl ?_); refine goesL_ (some 35) rfl rfl Try.func38 (by kernel_rfl) rfl #[.int .i64 (rd y663 (ji6)), .int .u32 t672, .int .u32 a2] rfl (by (try simp only [List.map_toArray, List.map_cons, List.map_nil]); first | done | (simp only [hji6]; rfl) | rfl | (simp only [List.length_drop, List.length_take]; rfl)) ?_; (with_reducible refine (chance_Narrow.calls k (rd y663 (ji6)) t672 a2 t673 _ A22.out).mono ?_); rintro e w28 ⟨rfl, hb⟩; refine ⟨_, rfl, ?_⟩; have n0_ := Aside0.mk (Kd.R_below (by (with_reducible repeat (first | apply Kd.R_alloc | apply Kd.R_drewN | apply Kd.R_drew)); exact HO665.out) hb); have n1_ := Aside0.mk (below_step (by repeat (first | (with_reducible first | exact HB.out | apply below_alloc | apply pw_below_drewN | apply below_drew1) | exact HB.out)) hb); clear HO665; clear HB; have HO665 := n0_; have HB := n1_; clear n0_ n1_; (try clear hb); (try clear hb2); (try clear hk); (try clear hi)))
          go_ret
          exact ⟨by first | rfl | (simp [errW_none, errW_some] <;> rfl) | (simp only [← hji6]; first | rfl | (simp [errW_none, errW_some] <;> rfl)) | (simp [*, errW_none, errW_some] <;> rfl), by repeat (first | (with_reducible first | exact HB.out | apply below_alloc | apply pw_below_drewN | apply below_drew1) | exact HB.out)⟩
      · rw [if_neg c8] at H
        exact absurd H (by simp)
    · rw [if_neg c7] at H
      exact absurd H (by simp)
  · replace c5 := Bool.eq_false_iff.mpr c5
    subst c5
    have H1 : (some false) = some r := by rw [if_neg (show ¬ (false = true) by decide)] at H; exact H
    clear H
    have H := H1
    clear H1
    obtain rfl := Option.some.inj H
    go_enter Try.func13, Try.ntmps13
    go_wp2_with (first | ((with_reducible refine gate_callee (f := 37) rfl ?_); refine goesL_ (some 11) rfl rfl Try.func37 (by kernel_rfl) rfl #[] rfl (by (try simp only [List.map_toArray, List.map_cons, List.map_nil]); first | done | rfl | (simp only [List.length_drop, List.length_take]; rfl)) ?_; (with_reducible refine (anneallaw11_known.calls k  false _ A4.out).mono ?_); rintro e w29 ⟨rfl, hb⟩; refine ⟨_, rfl, ?_⟩; have n0_ := Aside0.mk (below_step (by repeat (first | (with_reducible first | exact HB.out | apply below_alloc | apply pw_below_drewN | apply below_drew1) | exact HB.out)) hb); clear HB; have HB := n0_; clear n0_; (try clear hb); (try clear hb2); (try clear hk); (try clear hi)))
    go_ret
    exact ⟨by first | rfl | (simp [errW_none, errW_some] <;> rfl) | (simp [*, errW_none, errW_some] <;> rfl), by repeat (first | (with_reducible first | exact HB.out | apply below_alloc | apply pw_below_drewN | apply below_drew1) | exact HB.out)⟩

/-- THE ONE PURE STATEMENT of anneallaw11_ChanceExact: yours. -/
def anneallaw11_ChanceExact.Pure : Prop := ∀ (a0 : Int) (a1 : Int) (a2 : Int), (Lit.int .u8 a0).wf = true → (Lit.int .u32 a1).wf = true → (Lit.int .u32 a2).wf = true → ∃ k, anneallaw11_ChanceExact.f k a0 a1 a2 = some true
theorem anneallaw11_ChanceExact.walk (P : anneallaw11_ChanceExact.Pure) (a0 : Int) (a1 : Int) (a2 : Int) (w : World) (w0 : (Lit.int .u8 a0).wf = true) (w1 : (Lit.int .u32 a1).wf = true) (w2 : (Lit.int .u32 a2).wf = true) :
    Calls Try.prog 13 #[.int .u8 a0, .int .u32 a1, .int .u32 a2] w fun e w' => e = .returned (.bool true) ∧ Below w.heap.size w w' := by
  obtain ⟨k, h⟩ := P a0 a1 a2 w0 w1 w2
  refine (anneallaw11_ChanceExact.calls k a0 a1 a2 true w h).mono ?_
  rintro e w' ⟨rfl, hd⟩
  exact ⟨rfl, hd⟩

/-! ### anneallaw11_ChanceParts: function 14 -/
end Go.Proofs.Ytoljndjpnbdjmaa.P
