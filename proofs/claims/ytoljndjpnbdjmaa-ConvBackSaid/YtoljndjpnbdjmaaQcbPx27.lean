import Derived.Test.YtoljndjpnbdjmaaQcbPx0
import Derived.Test.YtoljndjpnbdjmaaQcbPx15
import Derived.Test.YtoljndjpnbdjmaaQcbPx20
import Derived.Test.YtoljndjpnbdjmaaQcbPx21
import Derived.Test.YtoljndjpnbdjmaaQcbPx22
import Derived.Test.YtoljndjpnbdjmaaQcbPx23
import Derived.Test.YtoljndjpnbdjmaaQcbPx26
-- Printed by a program of this session's out of Lean's print of the translation; Lean checks it.
namespace Go.Proofs.Ytoljndjpnbdjmaa.P
open Go.RowKit Go.Proofs.YtoljndjpnbdjmaaW.PrintWords Go.Proofs.YtoljndjpnbdjmaaW.PrintLast Go.Proofs.YtoljndjpnbdjmaaW.PrintMore
attribute [local go_sem] max2_int min2_int max_two min_two max_three min_three max_four min_four   -- for this text's walks alone
set_option linter.unusedVariables false
set_option linter.unusedSimpArgs false

/-! ### anneallaw9_ConvBack: function 9 -/
def anneallaw9_ConvBack.j0 : Nat → Int → Int → Int → Int → Int → Int → Bool → Option (Bool)
  | 0, _, _, _, _, _, _, _ => none
  | k + 1, x7, x8, x9, x10, x11, x12, x44 => if x44 = true then ((annealref1_Nan.f x7).bind fun t546 => ((annealref1_Compare.f k x7 x8 x9).bind fun bt547 => ((annealref1_Compare.f k 2 x10 x11).bind fun bt549 => ((conv_Narrow.f k x7 x10).bind fun t551 => (if t551 = t546 then (if bt547.1 = bt549.1 then (some (bt547.2 == bt549.2)) else (some false)) else (some false)))))) else ((annealref1_Compare.f k x7 x8 x9).bind fun bt552 => ((annealref1_Compare.f k 2 x10 x11).bind fun bt554 => ((conv_Narrow.f k x7 x10).bind fun t556 => (if t556 = x12 then (if bt552.1 = bt554.1 then (some (bt552.2 == bt554.2)) else (some false)) else (some false)))))
def anneallaw9_ConvBack.f (k : Nat) (a0 : Int) (a1 : Int) (a2 : Int) : Option (Bool) := (anneallaw9_known.f k).bind fun t539 => (if t539 = true then ((anneallaw9_form.f a0).bind fun t540 => ((annealref1_Mask.f t540).bind fun t541 => ((annealseat_Num.f t540 a2).bind fun t542 => ((conv_Widen.f k t540 (Go.bits .and .u32 a1 t541)).bind fun t543 => ((conv_Widen.f k t540 t542).bind fun t544 => ((annealref1_Class.f k t540 (Go.bits .and .u32 a1 t541)).bind fun t545 => (if t545 = 4 then (anneallaw9_ConvBack.j0 k t540 (Go.bits .and .u32 a1 t541) t542 t543 t544 (Go.bits .and .u32 a1 t541) true) else (anneallaw9_ConvBack.j0 k t540 (Go.bits .and .u32 a1 t541) t542 t543 t544 (Go.bits .and .u32 a1 t541) (t545 == 5))))))))) else (some false))
set_option maxHeartbeats 8000000 in
set_option maxRecDepth 100000 in
theorem anneallaw9_ConvBack.calls (k : Nat) (a0 : Int) (a1 : Int) (a2 : Int) (r : Bool) (w : World) (h : anneallaw9_ConvBack.f k a0 a1 a2 = some r) :
    Calls Try.prog 9 #[.int .u8 a0, .int .u32 a1, .int .u32 a2] w fun e w' => e = .returned (.bool r) ∧ Below w.heap.size w w' := by
  have HB := Aside0.mk (Below.refl w.heap.size w)
  have H : ((anneallaw9_known.f k).bind fun t539 => (if t539 = true then ((anneallaw9_form.f a0).bind fun t540 => ((annealref1_Mask.f t540).bind fun t541 => ((annealseat_Num.f t540 a2).bind fun t542 => ((conv_Widen.f k t540 (Go.bits .and .u32 a1 t541)).bind fun t543 => ((conv_Widen.f k t540 t542).bind fun t544 => ((annealref1_Class.f k t540 (Go.bits .and .u32 a1 t541)).bind fun t545 => (if t545 = 4 then (anneallaw9_ConvBack.j0 k t540 (Go.bits .and .u32 a1 t541) t542 t543 t544 (Go.bits .and .u32 a1 t541) true) else (anneallaw9_ConvBack.j0 k t540 (Go.bits .and .u32 a1 t541) t542 t543 t544 (Go.bits .and .u32 a1 t541) (t545 == 5))))))))) else (some false))) = some r := h
  clear h
  replace H := Option.bind_eq_some_iff.mp H
  obtain ⟨t539, A40, H⟩ := H
  replace H : (if t539 = true then ((anneallaw9_form.f a0).bind fun t540 => ((annealref1_Mask.f t540).bind fun t541 => ((annealseat_Num.f t540 a2).bind fun t542 => ((conv_Widen.f k t540 (Go.bits .and .u32 a1 t541)).bind fun t543 => ((conv_Widen.f k t540 t542).bind fun t544 => ((annealref1_Class.f k t540 (Go.bits .and .u32 a1 t541)).bind fun t545 => (if t545 = 4 then (anneallaw9_ConvBack.j0 k t540 (Go.bits .and .u32 a1 t541) t542 t543 t544 (Go.bits .and .u32 a1 t541) true) else (anneallaw9_ConvBack.j0 k t540 (Go.bits .and .u32 a1 t541) t542 t543 t544 (Go.bits .and .u32 a1 t541) (t545 == 5))))))))) else (some false)) = some r := H
  have A4 := Aside0.mk A40
  clear A40
  by_cases c5 : t539 = true
  · subst c5
    have H1 : ((anneallaw9_form.f a0).bind fun t540 => ((annealref1_Mask.f t540).bind fun t541 => ((annealseat_Num.f t540 a2).bind fun t542 => ((conv_Widen.f k t540 (Go.bits .and .u32 a1 t541)).bind fun t543 => ((conv_Widen.f k t540 t542).bind fun t544 => ((annealref1_Class.f k t540 (Go.bits .and .u32 a1 t541)).bind fun t545 => (if t545 = 4 then (anneallaw9_ConvBack.j0 k t540 (Go.bits .and .u32 a1 t541) t542 t543 t544 (Go.bits .and .u32 a1 t541) true) else (anneallaw9_ConvBack.j0 k t540 (Go.bits .and .u32 a1 t541) t542 t543 t544 (Go.bits .and .u32 a1 t541) (t545 == 5))))))))) = some r := by rw [if_pos rfl] at H; exact H
    clear H
    have H := H1
    clear H1
    replace H := Option.bind_eq_some_iff.mp H
    obtain ⟨t540, A60, H⟩ := H
    replace H : ((annealref1_Mask.f t540).bind fun t541 => ((annealseat_Num.f t540 a2).bind fun t542 => ((conv_Widen.f k t540 (Go.bits .and .u32 a1 t541)).bind fun t543 => ((conv_Widen.f k t540 t542).bind fun t544 => ((annealref1_Class.f k t540 (Go.bits .and .u32 a1 t541)).bind fun t545 => (if t545 = 4 then (anneallaw9_ConvBack.j0 k t540 (Go.bits .and .u32 a1 t541) t542 t543 t544 (Go.bits .and .u32 a1 t541) true) else (anneallaw9_ConvBack.j0 k t540 (Go.bits .and .u32 a1 t541) t542 t543 t544 (Go.bits .and .u32 a1 t541) (t545 == 5)))))))) = some r := H
    have A6 := Aside0.mk A60
    clear A60
    replace H := Option.bind_eq_some_iff.mp H
    obtain ⟨t541, A70, H⟩ := H
    replace H : ((annealseat_Num.f t540 a2).bind fun t542 => ((conv_Widen.f k t540 (Go.bits .and .u32 a1 t541)).bind fun t543 => ((conv_Widen.f k t540 t542).bind fun t544 => ((annealref1_Class.f k t540 (Go.bits .and .u32 a1 t541)).bind fun t545 => (if t545 = 4 then (anneallaw9_ConvBack.j0 k t540 (Go.bits .and .u32 a1 t541) t542 t543 t544 (Go.bits .and .u32 a1 t541) true) else (anneallaw9_ConvBack.j0 k t540 (Go.bits .and .u32 a1 t541) t542 t543 t544 (Go.bits .and .u32 a1 t541) (t545 == 5))))))) = some r := H
    have A7 := Aside0.mk A70
    clear A70
    replace H := Option.bind_eq_some_iff.mp H
    obtain ⟨t542, A80, H⟩ := H
    replace H : ((conv_Widen.f k t540 (Go.bits .and .u32 a1 t541)).bind fun t543 => ((conv_Widen.f k t540 t542).bind fun t544 => ((annealref1_Class.f k t540 (Go.bits .and .u32 a1 t541)).bind fun t545 => (if t545 = 4 then (anneallaw9_ConvBack.j0 k t540 (Go.bits .and .u32 a1 t541) t542 t543 t544 (Go.bits .and .u32 a1 t541) true) else (anneallaw9_ConvBack.j0 k t540 (Go.bits .and .u32 a1 t541) t542 t543 t544 (Go.bits .and .u32 a1 t541) (t545 == 5)))))) = some r := H
    have A8 := Aside0.mk A80
    clear A80
    replace H := Option.bind_eq_some_iff.mp H
    obtain ⟨t543, A90, H⟩ := H
    replace H : ((conv_Widen.f k t540 t542).bind fun t544 => ((annealref1_Class.f k t540 (Go.bits .and .u32 a1 t541)).bind fun t545 => (if t545 = 4 then (anneallaw9_ConvBack.j0 k t540 (Go.bits .and .u32 a1 t541) t542 t543 t544 (Go.bits .and .u32 a1 t541) true) else (anneallaw9_ConvBack.j0 k t540 (Go.bits .and .u32 a1 t541) t542 t543 t544 (Go.bits .and .u32 a1 t541) (t545 == 5))))) = some r := H
    have A9 := Aside0.mk A90
    clear A90
    replace H := Option.bind_eq_some_iff.mp H
    obtain ⟨t544, A100, H⟩ := H
    replace H : ((annealref1_Class.f k t540 (Go.bits .and .u32 a1 t541)).bind fun t545 => (if t545 = 4 then (anneallaw9_ConvBack.j0 k t540 (Go.bits .and .u32 a1 t541) t542 t543 t544 (Go.bits .and .u32 a1 t541) true) else (anneallaw9_ConvBack.j0 k t540 (Go.bits .and .u32 a1 t541) t542 t543 t544 (Go.bits .and .u32 a1 t541) (t545 == 5)))) = some r := H
    have A10 := Aside0.mk A100
    clear A100
    replace H := Option.bind_eq_some_iff.mp H
    obtain ⟨t545, A110, H⟩ := H
    replace H : (if t545 = 4 then (anneallaw9_ConvBack.j0 k t540 (Go.bits .and .u32 a1 t541) t542 t543 t544 (Go.bits .and .u32 a1 t541) true) else (anneallaw9_ConvBack.j0 k t540 (Go.bits .and .u32 a1 t541) t542 t543 t544 (Go.bits .and .u32 a1 t541) (t545 == 5))) = some r := H
    have A11 := Aside0.mk A110
    clear A110
    have HC12 := Aside0.mk H
    clear H
    go_enter Try.func9, Try.ntmps9
    go_upto_region 8 with (first | ((with_reducible refine gate_callee (f := 24) rfl ?_); refine goesL_ (some 18) rfl rfl Try.func24 (by kernel_rfl) rfl #[] rfl (by (try simp only [List.map_toArray, List.map_cons, List.map_nil]); first | done | rfl | (simp only [List.length_drop, List.length_take]; rfl)) ?_; (with_reducible refine (anneallaw9_known.calls k  true _ A4.out).mono ?_); rintro e w13 ⟨rfl, hb⟩; refine ⟨_, rfl, ?_⟩; have n0_ := Aside0.mk (below_step (by repeat (first | (with_reducible first | exact HB.out | apply below_alloc | apply pw_below_drewN | apply below_drew1) | exact HB.out)) hb); clear HB; have HB := n0_; clear n0_; (try clear hb); (try clear hb2); (try clear hk); (try clear hi)) | ((with_reducible refine gate_callee (f := 25) rfl ?_); refine goesL_ (some 21) rfl rfl Try.func25 (by kernel_rfl) rfl #[.int .u8 a0] rfl (by (try simp only [List.map_toArray, List.map_cons, List.map_nil]); first | done | rfl | (simp only [List.length_drop, List.length_take]; rfl)) ?_; (with_reducible refine (anneallaw9_form.calls a0 t540 _ A6.out).mono ?_); rintro e w14 ⟨rfl, hb⟩; refine ⟨_, rfl, ?_⟩; have n0_ := Aside0.mk (below_step (by repeat (first | (with_reducible first | exact HB.out | apply below_alloc | apply pw_below_drewN | apply below_drew1) | exact HB.out)) hb); clear HB; have HB := n0_; clear n0_; (try clear hb); (try clear hb2); (try clear hk); (try clear hi)) | ((with_reducible refine gate_callee (f := 19) rfl ?_); refine goesL_ (some 24) rfl rfl Try.func19 (by kernel_rfl) rfl #[.int .i64 t540] rfl (by (try simp only [List.map_toArray, List.map_cons, List.map_nil]); first | done | rfl | (simp only [List.length_drop, List.length_take]; rfl)) ?_; (with_reducible refine (annealref1_Mask.calls t540 t541 _ A7.out).mono ?_); rintro e w' ⟨rfl, ⟨nd, rfl⟩⟩; refine ⟨_, rfl, ?_⟩) | ((with_reducible refine gate_callee (f := 26) rfl ?_); refine goesL_ (some 28) rfl rfl Try.func26 (by kernel_rfl) rfl #[.int .i64 t540, .int .u32 a2] rfl (by (try simp only [List.map_toArray, List.map_cons, List.map_nil]); first | done | rfl | (simp only [List.length_drop, List.length_take]; rfl)) ?_; (with_reducible refine (annealseat_Num.calls t540 a2 t542 _ A8.out).mono ?_); rintro e w15 ⟨rfl, hb⟩; refine ⟨_, rfl, ?_⟩; have n0_ := Aside0.mk (below_step (by repeat (first | (with_reducible first | exact HB.out | apply below_alloc | apply pw_below_drewN | apply below_drew1) | exact HB.out)) hb); clear HB; have HB := n0_; clear n0_; (try clear hb); (try clear hb2); (try clear hk); (try clear hi)) | ((with_reducible refine gate_callee (f := 30) rfl ?_); refine goesL_ (some 31) rfl rfl Try.func30 (by kernel_rfl) rfl #[.int .i64 t540, .int .u32 (Go.bits .and .u32 a1 t541)] rfl (by (try simp only [List.map_toArray, List.map_cons, List.map_nil]); first | done | rfl | (simp only [List.length_drop, List.length_take]; rfl)) ?_; (with_reducible refine (conv_Widen.calls k t540 (Go.bits .and .u32 a1 t541) t543 _ A9.out).mono ?_); rintro e w16 ⟨rfl, hb⟩; refine ⟨_, rfl, ?_⟩; have n0_ := Aside0.mk (below_step (by repeat (first | (with_reducible first | exact HB.out | apply below_alloc | apply pw_below_drewN | apply below_drew1) | exact HB.out)) hb); clear HB; have HB := n0_; clear n0_; (try clear hb); (try clear hb2); (try clear hk); (try clear hi)) | ((with_reducible refine gate_callee (f := 30) rfl ?_); refine goesL_ (some 34) rfl rfl Try.func30 (by kernel_rfl) rfl #[.int .i64 t540, .int .u32 t542] rfl (by (try simp only [List.map_toArray, List.map_cons, List.map_nil]); first | done | rfl | (simp only [List.length_drop, List.length_take]; rfl)) ?_; (with_reducible refine (conv_Widen.calls k t540 t542 t544 _ A10.out).mono ?_); rintro e w17 ⟨rfl, hb⟩; refine ⟨_, rfl, ?_⟩; have n0_ := Aside0.mk (below_step (by repeat (first | (with_reducible first | exact HB.out | apply below_alloc | apply pw_below_drewN | apply below_drew1) | exact HB.out)) hb); clear HB; have HB := n0_; clear n0_; (try clear hb); (try clear hb2); (try clear hk); (try clear hi)) | ((with_reducible refine gate_callee (f := 34) rfl ?_); refine goesL_ (some 38) rfl rfl Try.func34 (by kernel_rfl) rfl #[.int .i64 t540, .int .u32 (Go.bits .and .u32 a1 t541)] rfl (by (try simp only [List.map_toArray, List.map_cons, List.map_nil]); first | done | rfl | (simp only [List.length_drop, List.length_take]; rfl)) ?_; (with_reducible refine (annealref1_Class.calls k t540 (Go.bits .and .u32 a1 t541) t545 _ A11.out).mono ?_); rintro e w' ⟨rfl, ⟨nd, rfl⟩⟩; refine ⟨_, rfl, ?_⟩))
    (try simp only [Act.put, List.setIfInBounds_toArray, List.set_cons_zero, List.set_cons_succ])
    go_cut [44] (fun v44 wc => ∃ (kq : Nat) (x44_11 : Bool), v44 = .bool x44_11 ∧ Aside0 (anneallaw9_ConvBack.j0 kq t540 (Go.bits .and .u32 a1 t541) t542 t543 t544 (Go.bits .and .u32 a1 t541) x44_11 = some r) ∧ Aside0 (kq ≤ k) ∧ Aside0 (Below w.heap.size w wc))
    case first =>
      have H := HC12.out
      clear HC12
      by_cases c18 : t545 = 4
      · rw [if_pos c18] at H
        have c18b0 : (t545 == 4) = true := beq_iff_eq.mpr c18
        have c18b1 : (t545 != 4) = false := bne_eq_false_iff_eq.mpr c18
        clear c18
        (first | rw [c18b0] | (simp only [i64_w, i32_w]; rw [c18b0]) | skip)
        have H' := Aside0.mk H
        clear H
        go_wp2
        go_meet
        case rel => exact ⟨_, (true), (by first | rfl | (simp; done) | (simp [*]; done) | (congr 1; (try unfold wrap64); omega) | (congr 1; rw [IntKind.wrap_u64]; omega)), H', ⟨by first | omega | exact Nat.le_refl _⟩, ⟨by repeat (first | (with_reducible first | exact HB.out | apply below_alloc | apply pw_below_drewN | apply below_drew1) | exact HB.out)⟩⟩
      · rw [if_neg c18] at H
        have c18b0 : (t545 == 4) = false := beq_eq_false_iff_ne.mpr c18
        have c18b1 : (t545 != 4) = true := bne_iff_ne.mpr c18
        (first | rw [c18b0] | (simp only [i64_w, i32_w]; rw [c18b0]) | skip)
        have H' := Aside0.mk H
        clear H
        go_wp2
        go_meet
        case rel => exact ⟨_, ((t545 == 5)), (by first | rfl | (simp; done) | (simp [*]; done) | (congr 1; (try unfold wrap64); omega) | (congr 1; rw [IntKind.wrap_u64]; omega)), H', ⟨by first | omega | exact Nat.le_refl _⟩, ⟨by repeat (first | (with_reducible first | exact HB.out | apply below_alloc | apply pw_below_drewN | apply below_drew1) | exact HB.out)⟩⟩
    case rest =>
      clear HC12
      try clear c1
      try clear c2
      try clear p2
      try clear c3
      try clear c5
      try clear p6
      try clear c9
      try clear c18
      try clear c18b0
      try clear c18b1
      obtain ⟨kq, x44_11, rfl, HA, HJ11, HB⟩ := hcut
      cases kq with
      | zero => exact absurd HA.out (by simp [anneallaw9_ConvBack.j0])
      | succ kj11 =>
        have H := HA.out
        clear HA
        simp only [anneallaw9_ConvBack.j0] at H
        by_cases c19 : x44_11 = true
        · subst c19
          have H1 : ((annealref1_Nan.f t540).bind fun t546 => ((annealref1_Compare.f kj11 t540 (Go.bits .and .u32 a1 t541) t542).bind fun bt547 => ((annealref1_Compare.f kj11 2 t543 t544).bind fun bt549 => ((conv_Narrow.f kj11 t540 t543).bind fun t551 => (if t551 = t546 then (if bt547.1 = bt549.1 then (some (bt547.2 == bt549.2)) else (some false)) else (some false)))))) = some r := by rw [if_pos rfl] at H; exact H
          clear H
          have H := H1
          clear H1
          replace H := Option.bind_eq_some_iff.mp H
          obtain ⟨t546, A200, H⟩ := H
          replace H : ((annealref1_Compare.f kj11 t540 (Go.bits .and .u32 a1 t541) t542).bind fun bt547 => ((annealref1_Compare.f kj11 2 t543 t544).bind fun bt549 => ((conv_Narrow.f kj11 t540 t543).bind fun t551 => (if t551 = t546 then (if bt547.1 = bt549.1 then (some (bt547.2 == bt549.2)) else (some false)) else (some false))))) = some r := H
          have A20 := Aside0.mk A200
          clear A200
          replace H := Option.bind_eq_some_iff.mp H
          obtain ⟨⟨t547, t548⟩, A210, H⟩ := H
          replace H : ((annealref1_Compare.f kj11 2 t543 t544).bind fun bt549 => ((conv_Narrow.f kj11 t540 t543).bind fun t551 => (if t551 = t546 then (if t547 = bt549.1 then (some (t548 == bt549.2)) else (some false)) else (some false)))) = some r := H
          have A21 := Aside0.mk A210
          clear A210
          replace H := Option.bind_eq_some_iff.mp H
          obtain ⟨⟨t549, t550⟩, A220, H⟩ := H
          replace H : ((conv_Narrow.f kj11 t540 t543).bind fun t551 => (if t551 = t546 then (if t547 = t549 then (some (t548 == t550)) else (some false)) else (some false))) = some r := H
          have A22 := Aside0.mk A220
          clear A220
          replace H := Option.bind_eq_some_iff.mp H
          obtain ⟨t551, A230, H⟩ := H
          replace H : (if t551 = t546 then (if t547 = t549 then (some (t548 == t550)) else (some false)) else (some false)) = some r := H
          have A23 := Aside0.mk A230
          clear A230
          by_cases c24 : t551 = t546
          · rw [if_pos c24] at H
            have c24b0 : (t551 == t546) = true := beq_iff_eq.mpr c24
            have c24b1 : (t551 != t546) = false := bne_eq_false_iff_eq.mpr c24
            clear c24
            by_cases c25 : t547 = t549
            · rw [if_pos c25] at H
              have c25b0 : (t547 == t549) = true := beq_iff_eq.mpr c25
              have c25b1 : (t547 != t549) = false := bne_eq_false_iff_eq.mpr c25
              clear c25
              obtain rfl := Option.some.inj H
              go_wp2_with (first | ((with_reducible refine gate_callee (f := 35) rfl ?_); refine goesL_ (some 46) rfl rfl Try.func35 (by kernel_rfl) rfl #[.int .i64 t540] rfl (by (try simp only [List.map_toArray, List.map_cons, List.map_nil]); first | done | rfl | (simp only [List.length_drop, List.length_take]; rfl)) ?_; (with_reducible refine (annealref1_Nan.calls t540 t546 _ A20.out).mono ?_); rintro e w' ⟨rfl, ⟨nd, rfl⟩⟩; refine ⟨_, rfl, ?_⟩) | ((with_reducible refine gate_callee (f := 36) rfl ?_); refine goesL_ (some 51) rfl rfl Try.func36 (by kernel_rfl) rfl #[.int .i64 t540, .int .u32 (Go.bits .and .u32 a1 t541), .int .u32 t542] rfl (by (try simp only [List.map_toArray, List.map_cons, List.map_nil]); first | done | rfl | (simp only [List.length_drop, List.length_take]; rfl)) ?_; (with_reducible refine (annealref1_Compare.calls kj11 t540 (Go.bits .and .u32 a1 t541) t542 t547 t548 _ A21.out).mono ?_); rintro e w26 ⟨rfl, hb⟩; refine ⟨_, rfl, ?_⟩; have n0_ := Aside0.mk (below_step (by repeat (first | (with_reducible first | exact HB.out | apply below_alloc | apply pw_below_drewN | apply below_drew1) | exact HB.out)) hb); clear HB; have HB := n0_; clear n0_; (try clear hb); (try clear hb2); (try clear hk); (try clear hi)) | ((with_reducible refine gate_callee (f := 36) rfl ?_); refine goesL_ (some 57) rfl rfl Try.func36 (by kernel_rfl) rfl #[.int .i64 2, .int .u32 t543, .int .u32 t544] rfl (by (try simp only [List.map_toArray, List.map_cons, List.map_nil]); first | done | rfl | (simp only [List.length_drop, List.length_take]; rfl)) ?_; (with_reducible refine (annealref1_Compare.calls kj11 2 t543 t544 t549 t550 _ A22.out).mono ?_); rintro e w27 ⟨rfl, hb⟩; refine ⟨_, rfl, ?_⟩; have n0_ := Aside0.mk (below_step (by repeat (first | (with_reducible first | exact HB.out | apply below_alloc | apply pw_below_drewN | apply below_drew1) | exact HB.out)) hb); clear HB; have HB := n0_; clear n0_; (try clear hb); (try clear hb2); (try clear hk); (try clear hi)) | ((with_reducible refine gate_callee (f := 32) rfl ?_); refine goesL_ (some 62) rfl rfl Try.func32 (by kernel_rfl) rfl #[.int .i64 t540, .int .u32 t543] rfl (by (try simp only [List.map_toArray, List.map_cons, List.map_nil]); first | done | rfl | (simp only [List.length_drop, List.length_take]; rfl)) ?_; (with_reducible refine (conv_Narrow.calls kj11 t540 t543 t551 _ A23.out).mono ?_); rintro e w28 ⟨rfl, hb⟩; refine ⟨_, rfl, ?_⟩; have n0_ := Aside0.mk (below_step (by repeat (first | (with_reducible first | exact HB.out | apply below_alloc | apply pw_below_drewN | apply below_drew1) | exact HB.out)) hb); clear HB; have HB := n0_; clear n0_; (try clear hb); (try clear hb2); (try clear hk); (try clear hi)))
              go_ret
              exact ⟨by first | rfl | (simp [errW_none, errW_some] <;> rfl) | (simp [*, errW_none, errW_some] <;> rfl), by repeat (first | (with_reducible first | exact HB.out | apply below_alloc | apply pw_below_drewN | apply below_drew1) | exact HB.out)⟩
            · rw [if_neg c25] at H
              have c25b0 : (t547 == t549) = false := beq_eq_false_iff_ne.mpr c25
              have c25b1 : (t547 != t549) = true := bne_iff_ne.mpr c25
              obtain rfl := Option.some.inj H
              go_wp2_with (first | ((with_reducible refine gate_callee (f := 35) rfl ?_); refine goesL_ (some 46) rfl rfl Try.func35 (by kernel_rfl) rfl #[.int .i64 t540] rfl (by (try simp only [List.map_toArray, List.map_cons, List.map_nil]); first | done | rfl | (simp only [List.length_drop, List.length_take]; rfl)) ?_; (with_reducible refine (annealref1_Nan.calls t540 t546 _ A20.out).mono ?_); rintro e w' ⟨rfl, ⟨nd, rfl⟩⟩; refine ⟨_, rfl, ?_⟩) | ((with_reducible refine gate_callee (f := 36) rfl ?_); refine goesL_ (some 51) rfl rfl Try.func36 (by kernel_rfl) rfl #[.int .i64 t540, .int .u32 (Go.bits .and .u32 a1 t541), .int .u32 t542] rfl (by (try simp only [List.map_toArray, List.map_cons, List.map_nil]); first | done | rfl | (simp only [List.length_drop, List.length_take]; rfl)) ?_; (with_reducible refine (annealref1_Compare.calls kj11 t540 (Go.bits .and .u32 a1 t541) t542 t547 t548 _ A21.out).mono ?_); rintro e w29 ⟨rfl, hb⟩; refine ⟨_, rfl, ?_⟩; have n0_ := Aside0.mk (below_step (by repeat (first | (with_reducible first | exact HB.out | apply below_alloc | apply pw_below_drewN | apply below_drew1) | exact HB.out)) hb); clear HB; have HB := n0_; clear n0_; (try clear hb); (try clear hb2); (try clear hk); (try clear hi)) | ((with_reducible refine gate_callee (f := 36) rfl ?_); refine goesL_ (some 57) rfl rfl Try.func36 (by kernel_rfl) rfl #[.int .i64 2, .int .u32 t543, .int .u32 t544] rfl (by (try simp only [List.map_toArray, List.map_cons, List.map_nil]); first | done | rfl | (simp only [List.length_drop, List.length_take]; rfl)) ?_; (with_reducible refine (annealref1_Compare.calls kj11 2 t543 t544 t549 t550 _ A22.out).mono ?_); rintro e w30 ⟨rfl, hb⟩; refine ⟨_, rfl, ?_⟩; have n0_ := Aside0.mk (below_step (by repeat (first | (with_reducible first | exact HB.out | apply below_alloc | apply pw_below_drewN | apply below_drew1) | exact HB.out)) hb); clear HB; have HB := n0_; clear n0_; (try clear hb); (try clear hb2); (try clear hk); (try clear hi)) | ((with_reducible refine gate_callee (f := 32) rfl ?_); refine goesL_ (some 62) rfl rfl Try.func32 (by kernel_rfl) rfl #[.int .i64 t540, .int .u32 t543] rfl (by (try simp only [List.map_toArray, List.map_cons, List.map_nil]); first | done | rfl | (simp only [List.length_drop, List.length_take]; rfl)) ?_; (with_reducible refine (conv_Narrow.calls kj11 t540 t543 t551 _ A23.out).mono ?_); rintro e w31 ⟨rfl, hb⟩; refine ⟨_, rfl, ?_⟩; have n0_ := Aside0.mk (below_step (by repeat (first | (with_reducible first | exact HB.out | apply below_alloc | apply pw_below_drewN | apply below_drew1) | exact HB.out)) hb); clear HB; have HB := n0_; clear n0_; (try clear hb); (try clear hb2); (try clear hk); (try clear hi)))
              go_ret
              exact ⟨by first | rfl | (simp [errW_none, errW_some] <;> rfl) | (simp [*, errW_none, errW_some] <;> rfl), by repeat (first | (with_reducible first | exact HB.out | apply below_alloc | apply pw_below_drewN | apply below_drew1) | exact HB.out)⟩
          · rw [if_neg c24] at H
            have c24b0 : (t551 == t546) = false := beq_eq_false_iff_ne.mpr c24
            have c24b1 : (t551 != t546) = true := bne_iff_ne.mpr c24
            obtain rfl := Option.some.inj H
            go_wp2_with (first | ((with_reducible refine gate_callee (f := 35) rfl ?_); refine goesL_ (some 46) rfl rfl Try.func35 (by kernel_rfl) rfl #[.int .i64 t540] rfl (by (try simp only [List.map_toArray, List.map_cons, List.map_nil]); first | done | rfl | (simp only [List.length_drop, List.length_take]; rfl)) ?_; (with_reducible refine (annealref1_Nan.calls t540 t546 _ A20.out).mono ?_); rintro e w' ⟨rfl, ⟨nd, rfl⟩⟩; refine ⟨_, rfl, ?_⟩) | ((with_reducible refine gate_callee (f := 36) rfl ?_); refine goesL_ (some 51) rfl rfl Try.func36 (by kernel_rfl) rfl #[.int .i64 t540, .int .u32 (Go.bits .and .u32 a1 t541), .int .u32 t542] rfl (by (try simp only [List.map_toArray, List.map_cons, List.map_nil]); first | done | rfl | (simp only [List.length_drop, List.length_take]; rfl)) ?_; (with_reducible refine (annealref1_Compare.calls kj11 t540 (Go.bits .and .u32 a1 t541) t542 t547 t548 _ A21.out).mono ?_); rintro e w32 ⟨rfl, hb⟩; refine ⟨_, rfl, ?_⟩; have n0_ := Aside0.mk (below_step (by repeat (first | (with_reducible first | exact HB.out | apply below_alloc | apply pw_below_drewN | apply below_drew1) | exact HB.out)) hb); clear HB; have HB := n0_; clear n0_; (try clear hb); (try clear hb2); (try clear hk); (try clear hi)) | ((with_reducible refine gate_callee (f := 36) rfl ?_); refine goesL_ (some 57) rfl rfl Try.func36 (by kernel_rfl) rfl #[.int .i64 2, .int .u32 t543, .int .u32 t544] rfl (by (try simp only [List.map_toArray, List.map_cons, List.map_nil]); first | done | rfl | (simp only [List.length_drop, List.length_take]; rfl)) ?_; (with_reducible refine (annealref1_Compare.calls kj11 2 t543 t544 t549 t550 _ A22.out).mono ?_); rintro e w33 ⟨rfl, hb⟩; refine ⟨_, rfl, ?_⟩; have n0_ := Aside0.mk (below_step (by repeat (first | (with_reducible first | exact HB.out | apply below_alloc | apply pw_below_drewN | apply below_drew1) | exact HB.out)) hb); clear HB; have HB := n0_; clear n0_; (try clear hb); (try clear hb2); (try clear hk); (try clear hi)) | ((with_reducible refine gate_callee (f := 32) rfl ?_); refine goesL_ (some 62) rfl rfl Try.func32 (by kernel_rfl) rfl #[.int .i64 t540, .int .u32 t543] rfl (by (try simp only [List.map_toArray, List.map_cons, List.map_nil]); first | done | rfl | (simp only [List.length_drop, List.length_take]; rfl)) ?_; (with_reducible refine (conv_Narrow.calls kj11 t540 t543 t551 _ A23.out).mono ?_); rintro e w34 ⟨rfl, hb⟩; refine ⟨_, rfl, ?_⟩; have n0_ := Aside0.mk (below_step (by repeat (first | (with_reducible first | exact HB.out | apply below_alloc | apply pw_below_drewN | apply below_drew1) | exact HB.out)) hb); clear HB; have HB := n0_; clear n0_; (try clear hb); (try clear hb2); (try clear hk); (try clear hi)))
            go_ret
            exact ⟨by first | rfl | (simp [errW_none, errW_some] <;> rfl) | (simp [*, errW_none, errW_some] <;> rfl), by repeat (first | (with_reducible first | exact HB.out | apply below_alloc | apply pw_below_drewN | apply below_drew1) | exact HB.out)⟩
        · replace c19 := Bool.eq_false_iff.mpr c19
          subst c19
          have H1 : ((annealref1_Compare.f kj11 t540 (Go.bits .and .u32 a1 t541) t542).bind fun bt552 => ((annealref1_Compare.f kj11 2 t543 t544).bind fun bt554 => ((conv_Narrow.f kj11 t540 t543).bind fun t556 => (if t556 = (Go.bits .and .u32 a1 t541) then (if bt552.1 = bt554.1 then (some (bt552.2 == bt554.2)) else (some false)) else (some false))))) = some r := by rw [if_neg (show ¬ (false = true) by decide)] at H; exact H
          clear H
          have H := H1
          clear H1
          replace H := Option.bind_eq_some_iff.mp H
          obtain ⟨⟨t552, t553⟩, A350, H⟩ := H
          replace H : ((annealref1_Compare.f kj11 2 t543 t544).bind fun bt554 => ((conv_Narrow.f kj11 t540 t543).bind fun t556 => (if t556 = (Go.bits .and .u32 a1 t541) then (if t552 = bt554.1 then (some (t553 == bt554.2)) else (some false)) else (some false)))) = some r := H
          have A35 := Aside0.mk A350
          clear A350
          replace H := Option.bind_eq_some_iff.mp H
          obtain ⟨⟨t554, t555⟩, A360, H⟩ := H
          replace H : ((conv_Narrow.f kj11 t540 t543).bind fun t556 => (if t556 = (Go.bits .and .u32 a1 t541) then (if t552 = t554 then (some (t553 == t555)) else (some false)) else (some false))) = some r := H
          have A36 := Aside0.mk A360
          clear A360
          replace H := Option.bind_eq_some_iff.mp H
          obtain ⟨t556, A370, H⟩ := H
          replace H : (if t556 = (Go.bits .and .u32 a1 t541) then (if t552 = t554 then (some (t553 == t555)) else (some false)) else (some false)) = some r := H
          have A37 := Aside0.mk A370
          clear A370
          by_cases c38 : t556 = (Go.bits .and .u32 a1 t541)
          · rw [if_pos c38] at H
            have c38b0 : (t556 == (Go.bits .and .u32 a1 t541)) = true := beq_iff_eq.mpr c38
            have c38b1 : (t556 != (Go.bits .and .u32 a1 t541)) = false := bne_eq_false_iff_eq.mpr c38
            clear c38
            by_cases c39 : t552 = t554
            · rw [if_pos c39] at H
              have c39b0 : (t552 == t554) = true := beq_iff_eq.mpr c39
              have c39b1 : (t552 != t554) = false := bne_eq_false_iff_eq.mpr c39
              clear c39
              obtain rfl := Option.some.inj H
              go_wp2_with (first | ((with_reducible refine gate_callee (f := 36) rfl ?_); refine goesL_ (some 51) rfl rfl Try.func36 (by kernel_rfl) rfl #[.int .i64 t540, .int .u32 (Go.bits .and .u32 a1 t541), .int .u32 t542] rfl (by (try simp only [List.map_toArray, List.map_cons, List.map_nil]); first | done | rfl | (simp only [List.length_drop, List.length_take]; rfl)) ?_; (with_reducible refine (annealref1_Compare.calls kj11 t540 (Go.bits .and .u32 a1 t541) t542 t552 t553 _ A35.out).mono ?_); rintro e w40 ⟨rfl, hb⟩; refine ⟨_, rfl, ?_⟩; have n0_ := Aside0.mk (below_step (by repeat (first | (with_reducible first | exact HB.out | apply below_alloc | apply pw_below_drewN | apply below_drew1) | exact HB.out)) hb); clear HB; have HB := n0_; clear n0_; (try clear hb); (try clear hb2); (try clear hk); (try clear hi)) | ((with_reducible refine gate_callee (f := 36) rfl ?_); refine goesL_ (some 57) rfl rfl Try.func36 (by kernel_rfl) rfl #[.int .i64 2, .int .u32 t543, .int .u32 t544] rfl (by (try simp only [List.map_toArray, List.map_cons, List.map_nil]); first | done | rfl | (simp only [List.length_drop, List.length_take]; rfl)) ?_; (with_reducible refine (annealref1_Compare.calls kj11 2 t543 t544 t554 t555 _ A36.out).mono ?_); rintro e w41 ⟨rfl, hb⟩; refine ⟨_, rfl, ?_⟩; have n0_ := Aside0.mk (below_step (by repeat (first | (with_reducible first | exact HB.out | apply below_alloc | apply pw_below_drewN | apply below_drew1) | exact HB.out)) hb); clear HB; have HB := n0_; clear n0_; (try clear hb); (try clear hb2); (try clear hk); (try clear hi)) | ((with_reducible refine gate_callee (f := 32) rfl ?_); refine goesL_ (some 62) rfl rfl Try.func32 (by kernel_rfl) rfl #[.int .i64 t540, .int .u32 t543] rfl (by (try simp only [List.map_toArray, List.map_cons, List.map_nil]); first | done | rfl | (simp only [List.length_drop, List.length_take]; rfl)) ?_; (with_reducible refine (conv_Narrow.calls kj11 t540 t543 t556 _ A37.out).mono ?_); rintro e w42 ⟨rfl, hb⟩; refine ⟨_, rfl, ?_⟩; have n0_ := Aside0.mk (below_step (by repeat (first | (with_reducible first | exact HB.out | apply below_alloc | apply pw_below_drewN | apply below_drew1) | exact HB.out)) hb); clear HB; have HB := n0_; clear n0_; (try clear hb); (try clear hb2); (try clear hk); (try clear hi)))
              go_ret
              exact ⟨by first | rfl | (simp [errW_none, errW_some] <;> rfl) | (simp [*, errW_none, errW_some] <;> rfl), by repeat (first | (with_reducible first | exact HB.out | apply below_alloc | apply pw_below_drewN | apply below_drew1) | exact HB.out)⟩
            · rw [if_neg c39] at H
              have c39b0 : (t552 == t554) = false := beq_eq_false_iff_ne.mpr c39
              have c39b1 : (t552 != t554) = true := bne_iff_ne.mpr c39
              obtain rfl := Option.some.inj H
              go_wp2_with (first | ((with_reducible refine gate_callee (f := 36) rfl ?_); refine goesL_ (some 51) rfl rfl Try.func36 (by kernel_rfl) rfl #[.int .i64 t540, .int .u32 (Go.bits .and .u32 a1 t541), .int .u32 t542] rfl (by (try simp only [List.map_toArray, List.map_cons, List.map_nil]); first | done | rfl | (simp only [List.length_drop, List.length_take]; rfl)) ?_; (with_reducible refine (annealref1_Compare.calls kj11 t540 (Go.bits .and .u32 a1 t541) t542 t552 t553 _ A35.out).mono ?_); rintro e w43 ⟨rfl, hb⟩; refine ⟨_, rfl, ?_⟩; have n0_ := Aside0.mk (below_step (by repeat (first | (with_reducible first | exact HB.out | apply below_alloc | apply pw_below_drewN | apply below_drew1) | exact HB.out)) hb); clear HB; have HB := n0_; clear n0_; (try clear hb); (try clear hb2); (try clear hk); (try clear hi)) | ((with_reducible refine gate_callee (f := 36) rfl ?_); refine goesL_ (some 57) rfl rfl Try.func36 (by kernel_rfl) rfl #[.int .i64 2, .int .u32 t543, .int .u32 t544] rfl (by (try simp only [List.map_toArray, List.map_cons, List.map_nil]); first | done | rfl | (simp only [List.length_drop, List.length_take]; rfl)) ?_; (with_reducible refine (annealref1_Compare.calls kj11 2 t543 t544 t554 t555 _ A36.out).mono ?_); rintro e w44 ⟨rfl, hb⟩; refine ⟨_, rfl, ?_⟩; have n0_ := Aside0.mk (below_step (by repeat (first | (with_reducible first | exact HB.out | apply below_alloc | apply pw_below_drewN | apply below_drew1) | exact HB.out)) hb); clear HB; have HB := n0_; clear n0_; (try clear hb); (try clear hb2); (try clear hk); (try clear hi)) | ((with_reducible refine gate_callee (f := 32) rfl ?_); refine goesL_ (some 62) rfl rfl Try.func32 (by kernel_rfl) rfl #[.int .i64 t540, .int .u32 t543] rfl (by (try simp only [List.map_toArray, List.map_cons, List.map_nil]); first | done | rfl | (simp only [List.length_drop, List.length_take]; rfl)) ?_; (with_reducible refine (conv_Narrow.calls kj11 t540 t543 t556 _ A37.out).mono ?_); rintro e w45 ⟨rfl, hb⟩; refine ⟨_, rfl, ?_⟩; have n0_ := Aside0.mk (below_step (by repeat (first | (with_reducible first | exact HB.out | apply below_alloc | apply pw_below_drewN | apply below_drew1) | exact HB.out)) hb); clear HB; have HB := n0_; clear n0_; (try clear hb); (try clear hb2); (try clear hk); (try clear hi)))
              go_ret
              exact ⟨by first | rfl | (simp [errW_none, errW_some] <;> rfl) | (simp [*, errW_none, errW_some] <;> rfl), by repeat (first | (with_reducible first | exact HB.out | apply below_alloc | apply pw_below_drewN | apply below_drew1) | exact HB.out)⟩
          · rw [if_neg c38] at H
            have c38b0 : (t556 == (Go.bits .and .u32 a1 t541)) = false := beq_eq_false_iff_ne.mpr c38
            have c38b1 : (t556 != (Go.bits .and .u32 a1 t541)) = true := bne_iff_ne.mpr c38
            obtain rfl := Option.some.inj H
            go_wp2_with (first | ((with_reducible refine gate_callee (f := 36) rfl ?_); refine goesL_ (some 51) rfl rfl Try.func36 (by kernel_rfl) rfl #[.int .i64 t540, .int .u32 (Go.bits .and .u32 a1 t541), .int .u32 t542] rfl (by (try simp only [List.map_toArray, List.map_cons, List.map_nil]); first | done | rfl | (simp only [List.length_drop, List.length_take]; rfl)) ?_; (with_reducible refine (annealref1_Compare.calls kj11 t540 (Go.bits .and .u32 a1 t541) t542 t552 t553 _ A35.out).mono ?_); rintro e w46 ⟨rfl, hb⟩; refine ⟨_, rfl, ?_⟩; have n0_ := Aside0.mk (below_step (by repeat (first | (with_reducible first | exact HB.out | apply below_alloc | apply pw_below_drewN | apply below_drew1) | exact HB.out)) hb); clear HB; have HB := n0_; clear n0_; (try clear hb); (try clear hb2); (try clear hk); (try clear hi)) | ((with_reducible refine gate_callee (f := 36) rfl ?_); refine goesL_ (some 57) rfl rfl Try.func36 (by kernel_rfl) rfl #[.int .i64 2, .int .u32 t543, .int .u32 t544] rfl (by (try simp only [List.map_toArray, List.map_cons, List.map_nil]); first | done | rfl | (simp only [List.length_drop, List.length_take]; rfl)) ?_; (with_reducible refine (annealref1_Compare.calls kj11 2 t543 t544 t554 t555 _ A36.out).mono ?_); rintro e w47 ⟨rfl, hb⟩; refine ⟨_, rfl, ?_⟩; have n0_ := Aside0.mk (below_step (by repeat (first | (with_reducible first | exact HB.out | apply below_alloc | apply pw_below_drewN | apply below_drew1) | exact HB.out)) hb); clear HB; have HB := n0_; clear n0_; (try clear hb); (try clear hb2); (try clear hk); (try clear hi)) | ((with_reducible refine gate_callee (f := 32) rfl ?_); refine goesL_ (some 62) rfl rfl Try.func32 (by kernel_rfl) rfl #[.int .i64 t540, .int .u32 t543] rfl (by (try simp only [List.map_toArray, List.map_cons, List.map_nil]); first | done | rfl | (simp only [List.length_drop, List.length_take]; rfl)) ?_; (with_reducible refine (conv_Narrow.calls kj11 t540 t543 t556 _ A37.out).mono ?_); rintro e w48 ⟨rfl, hb⟩; refine ⟨_, rfl, ?_⟩; have n0_ := Aside0.mk (below_step (by repeat (first | (with_reducible first | exact HB.out | apply below_alloc | apply pw_below_drewN | apply below_drew1) | exact HB.out)) hb); clear HB; have HB := n0_; clear n0_; (try clear hb); (try clear hb2); (try clear hk); (try clear hi)))
            go_ret
            exact ⟨by first | rfl | (simp [errW_none, errW_some] <;> rfl) | (simp [*, errW_none, errW_some] <;> rfl), by repeat (first | (with_reducible first | exact HB.out | apply below_alloc | apply pw_below_drewN | apply below_drew1) | exact HB.out)⟩
  · replace c5 := Bool.eq_false_iff.mpr c5
    subst c5
    have H1 : (some false) = some r := by rw [if_neg (show ¬ (false = true) by decide)] at H; exact H
    clear H
    have H := H1
    clear H1
    obtain rfl := Option.some.inj H
    go_enter Try.func9, Try.ntmps9
    go_wp2_with (first | ((with_reducible refine gate_callee (f := 24) rfl ?_); refine goesL_ (some 18) rfl rfl Try.func24 (by kernel_rfl) rfl #[] rfl (by (try simp only [List.map_toArray, List.map_cons, List.map_nil]); first | done | rfl | (simp only [List.length_drop, List.length_take]; rfl)) ?_; (with_reducible refine (anneallaw9_known.calls k  false _ A4.out).mono ?_); rintro e w49 ⟨rfl, hb⟩; refine ⟨_, rfl, ?_⟩; have n0_ := Aside0.mk (below_step (by repeat (first | (with_reducible first | exact HB.out | apply below_alloc | apply pw_below_drewN | apply below_drew1) | exact HB.out)) hb); clear HB; have HB := n0_; clear n0_; (try clear hb); (try clear hb2); (try clear hk); (try clear hi)))
    go_ret
    exact ⟨by first | rfl | (simp [errW_none, errW_some] <;> rfl) | (simp [*, errW_none, errW_some] <;> rfl), by repeat (first | (with_reducible first | exact HB.out | apply below_alloc | apply pw_below_drewN | apply below_drew1) | exact HB.out)⟩

/-- THE ONE PURE STATEMENT of anneallaw9_ConvBack: yours. -/
def anneallaw9_ConvBack.Pure : Prop := ∀ (a0 : Int) (a1 : Int) (a2 : Int), (Lit.int .u8 a0).wf = true → (Lit.int .u32 a1).wf = true → (Lit.int .u32 a2).wf = true → ∃ k, anneallaw9_ConvBack.f k a0 a1 a2 = some true
theorem anneallaw9_ConvBack.walk (P : anneallaw9_ConvBack.Pure) (a0 : Int) (a1 : Int) (a2 : Int) (w : World) (w0 : (Lit.int .u8 a0).wf = true) (w1 : (Lit.int .u32 a1).wf = true) (w2 : (Lit.int .u32 a2).wf = true) :
    Calls Try.prog 9 #[.int .u8 a0, .int .u32 a1, .int .u32 a2] w fun e w' => e = .returned (.bool true) ∧ Below w.heap.size w w' := by
  obtain ⟨k, h⟩ := P a0 a1 a2 w0 w1 w2
  refine (anneallaw9_ConvBack.calls k a0 a1 a2 true w h).mono ?_
  rintro e w' ⟨rfl, hd⟩
  exact ⟨rfl, hd⟩

end Go.Proofs.Ytoljndjpnbdjmaa.P
