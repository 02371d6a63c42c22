-- Printed by a program of this session's out of Lean's print of the translation; Lean checks it.
import Derived.Test.YtoljndjpnbdjmaaPx0
import Derived.Test.YtoljndjpnbdjmaaPx7
import Derived.Test.YtoljndjpnbdjmaaPx8
import Derived.Test.YtoljndjpnbdjmaaPx16
namespace Go.Proofs.Ytoljndjpnbdjmaa.P
open Go.RowKit Go.Proofs.YtoljndjpnbdjmaaW.PrintWords Go.Proofs.YtoljndjpnbdjmaaW.PrintLast Go.Proofs.YtoljndjpnbdjmaaW.PrintMore
attribute [local go_sem] max2_int min2_int max_two min_two max_three min_three max_four min_four   -- for this text's walks alone
set_option linter.unusedVariables false
set_option linter.unusedSimpArgs false

/-! ### anneallaw3_RoundOrder: function 6 -/
mutual
def anneallaw3_RoundOrder.j0 : Nat → Bool → Bool → Int → Int → Int → Int → Int → Bool → Option (Bool)
  | 0, _, _, _, _, _, _, _, _ => none
  | k + 1, x5, x6, x15, x16, x17, x18, x19, x50 => if x50 = true then (anneallaw3_RoundOrder.j1 k false x6 x15 x16 x17 x18 x19) else (anneallaw3_RoundOrder.j1 k x5 x6 x15 x16 x17 x18 x19)
def anneallaw3_RoundOrder.j1 : Nat → Bool → Bool → Int → Int → Int → Int → Int → Option (Bool)
  | 0, _, _, _, _, _, _, _ => none
  | k + 1, x5, x6, x15, x16, x17, x18, x19 => (round_Pack.f k x15 x16 false x17 x18 x5).bind fun bt328 => ((round_Pack.f k x15 x16 false x17 x19 x6).bind fun bt335 => ((annealref1_Key.f x15 bt328.1).bind fun t342 => ((annealref1_Key.f x15 bt335.1).bind fun t343 => (some (decide (t342 ≤ t343))))))
end
def anneallaw3_RoundOrder.f (k : Nat) (a0 : Int) (a1 : Int) (a2 : Int) (a3 : Int) (a4 : Int) (a5 : Bool) (a6 : Bool) : Option (Bool) := (anneallaw3_known.f k).bind fun t326 => (if t326 = true then ((anneallaw3_form.f a0).bind fun t327 => (if (mn a2 a3) = (mx a2 a3) then (if a5 = true then (anneallaw3_RoundOrder.j0 k a5 a6 t327 (wrap64 (Int.tmod a1 5)) (wrap64 ((Int.tmod (wrap64 (a4)) 200) - 30)) (mn a2 a3) (mx a2 a3) (!a6)) else (anneallaw3_RoundOrder.j0 k a5 a6 t327 (wrap64 (Int.tmod a1 5)) (wrap64 ((Int.tmod (wrap64 (a4)) 200) - 30)) (mn a2 a3) (mx a2 a3) false)) else (anneallaw3_RoundOrder.j0 k a5 a6 t327 (wrap64 (Int.tmod a1 5)) (wrap64 ((Int.tmod (wrap64 (a4)) 200) - 30)) (mn a2 a3) (mx a2 a3) false))) else (some false))
theorem anneallaw3_RoundOrder.mono_l : ∀ k, (∀ y0 y1 y2 y3 y4 y5 y6 y7, LeO (anneallaw3_RoundOrder.j0 k y0 y1 y2 y3 y4 y5 y6 y7) (anneallaw3_RoundOrder.j0 (k + 1) y0 y1 y2 y3 y4 y5 y6 y7)) ∧ (∀ y0 y1 y2 y3 y4 y5 y6, LeO (anneallaw3_RoundOrder.j1 k y0 y1 y2 y3 y4 y5 y6) (anneallaw3_RoundOrder.j1 (k + 1) y0 y1 y2 y3 y4 y5 y6))
  | 0 => ⟨fun _ _ _ _ _ _ _ _ r h => by simp [anneallaw3_RoundOrder.j0] at h, fun _ _ _ _ _ _ _ r h => by simp [anneallaw3_RoundOrder.j1] at h⟩
  | k + 1 => by
    obtain ⟨ih0, ih1⟩ := anneallaw3_RoundOrder.mono_l k
    refine ⟨?_, ?_⟩
    · intro y0 y1 y2 y3 y4 y5 y6 y7
      unfold anneallaw3_RoundOrder.j0
      repeat' first
      | (with_reducible exact ih0 _ _ _ _ _ _ _ _)
      | (with_reducible exact ih1 _ _ _ _ _ _ _)
      | (with_reducible exact anneallaw3_known.mono _)
      | (with_reducible exact round_Pack.mono _ _ _ _ _ _ _)
      | (with_reducible exact LeO.refl _)
      | (with_reducible exact LeO.none _)
      | (with_reducible refine LeO.ite ?_ ?_)
      | (with_reducible refine LeO.bind ?_ (fun _ => ?_))
      | exact ih0 _ _ _ _ _ _ _ _
      | exact ih1 _ _ _ _ _ _ _
      | exact anneallaw3_known.mono _
      | exact round_Pack.mono _ _ _ _ _ _ _
      | exact LeO.none _
      | refine LeO.ite ?_ ?_
      | refine LeO.bind ?_ (fun _ => ?_)
    · intro y0 y1 y2 y3 y4 y5 y6
      unfold anneallaw3_RoundOrder.j1
      repeat' first
      | (with_reducible exact ih0 _ _ _ _ _ _ _ _)
      | (with_reducible exact ih1 _ _ _ _ _ _ _)
      | (with_reducible exact anneallaw3_known.mono _)
      | (with_reducible exact round_Pack.mono _ _ _ _ _ _ _)
      | (with_reducible exact LeO.refl _)
      | (with_reducible exact LeO.none _)
      | (with_reducible refine LeO.ite ?_ ?_)
      | (with_reducible refine LeO.bind ?_ (fun _ => ?_))
      | exact ih0 _ _ _ _ _ _ _ _
      | exact ih1 _ _ _ _ _ _ _
      | exact anneallaw3_known.mono _
      | exact round_Pack.mono _ _ _ _ _ _ _
      | exact LeO.none _
      | refine LeO.ite ?_ ?_
      | refine LeO.bind ?_ (fun _ => ?_)
theorem anneallaw3_RoundOrder.mono : ∀ a0 a1 a2 a3 a4 a5 a6 k, LeO (anneallaw3_RoundOrder.f k a0 a1 a2 a3 a4 a5 a6) (anneallaw3_RoundOrder.f (k + 1) a0 a1 a2 a3 a4 a5 a6) := by
  intro a0 a1 a2 a3 a4 a5 a6 k
  obtain ⟨ih0, ih1⟩ := anneallaw3_RoundOrder.mono_l k
  unfold anneallaw3_RoundOrder.f
  repeat' first
      | (with_reducible exact ih0 _ _ _ _ _ _ _ _)
      | (with_reducible exact ih1 _ _ _ _ _ _ _)
      | (with_reducible exact anneallaw3_known.mono _)
      | (with_reducible exact round_Pack.mono _ _ _ _ _ _ _)
      | (with_reducible exact LeO.refl _)
      | (with_reducible exact LeO.none _)
      | (with_reducible refine LeO.ite ?_ ?_)
      | (with_reducible refine LeO.bind ?_ (fun _ => ?_))
      | exact ih0 _ _ _ _ _ _ _ _
      | exact ih1 _ _ _ _ _ _ _
      | exact anneallaw3_known.mono _
      | exact round_Pack.mono _ _ _ _ _ _ _
      | exact LeO.none _
      | refine LeO.ite ?_ ?_
      | refine LeO.bind ?_ (fun _ => ?_)
set_option maxHeartbeats 8000000 in
set_option maxRecDepth 100000 in
theorem anneallaw3_RoundOrder.calls (k : Nat) (a0 : Int) (a1 : Int) (a2 : Int) (a3 : Int) (a4 : Int) (a5 : Bool) (a6 : Bool) (r : Bool) (w : World) (h : anneallaw3_RoundOrder.f k a0 a1 a2 a3 a4 a5 a6 = some r) :
    Calls Try.prog 6 #[.int .u8 a0, .int .u8 a1, .int .u64 a2, .int .u64 a3, .int .i16 a4, .bool a5, .bool a6] w fun e w' => e = .returned (.bool r) ∧ Below w.heap.size w w' := by
  have hu30 := Try.underlying30
  have HB := Aside0.mk (Below.refl w.heap.size w)
  have H : ((anneallaw3_known.f k).bind fun t326 => (if t326 = true then ((anneallaw3_form.f a0).bind fun t327 => (if (mn a2 a3) = (mx a2 a3) then (if a5 = true then (anneallaw3_RoundOrder.j0 k a5 a6 t327 (wrap64 (Int.tmod a1 5)) (wrap64 ((Int.tmod (wrap64 (a4)) 200) - 30)) (mn a2 a3) (mx a2 a3) (!a6)) else (anneallaw3_RoundOrder.j0 k a5 a6 t327 (wrap64 (Int.tmod a1 5)) (wrap64 ((Int.tmod (wrap64 (a4)) 200) - 30)) (mn a2 a3) (mx a2 a3) false)) else (anneallaw3_RoundOrder.j0 k a5 a6 t327 (wrap64 (Int.tmod a1 5)) (wrap64 ((Int.tmod (wrap64 (a4)) 200) - 30)) (mn a2 a3) (mx a2 a3) false))) else (some false))) = some r := h
  clear h
  replace H := Option.bind_eq_some_iff.mp H
  obtain ⟨t326, A80, H⟩ := H
  replace H : (if t326 = true then ((anneallaw3_form.f a0).bind fun t327 => (if (mn a2 a3) = (mx a2 a3) then (if a5 = true then (anneallaw3_RoundOrder.j0 k a5 a6 t327 (wrap64 (Int.tmod a1 5)) (wrap64 ((Int.tmod (wrap64 (a4)) 200) - 30)) (mn a2 a3) (mx a2 a3) (!a6)) else (anneallaw3_RoundOrder.j0 k a5 a6 t327 (wrap64 (Int.tmod a1 5)) (wrap64 ((Int.tmod (wrap64 (a4)) 200) - 30)) (mn a2 a3) (mx a2 a3) false)) else (anneallaw3_RoundOrder.j0 k a5 a6 t327 (wrap64 (Int.tmod a1 5)) (wrap64 ((Int.tmod (wrap64 (a4)) 200) - 30)) (mn a2 a3) (mx a2 a3) false))) else (some false)) = some r := H
  have A8 := Aside0.mk A80
  clear A80
  by_cases c9 : t326 = true
  · subst c9
    have H1 : ((anneallaw3_form.f a0).bind fun t327 => (if (mn a2 a3) = (mx a2 a3) then (if a5 = true then (anneallaw3_RoundOrder.j0 k a5 a6 t327 (wrap64 (Int.tmod a1 5)) (wrap64 ((Int.tmod (wrap64 (a4)) 200) - 30)) (mn a2 a3) (mx a2 a3) (!a6)) else (anneallaw3_RoundOrder.j0 k a5 a6 t327 (wrap64 (Int.tmod a1 5)) (wrap64 ((Int.tmod (wrap64 (a4)) 200) - 30)) (mn a2 a3) (mx a2 a3) false)) else (anneallaw3_RoundOrder.j0 k a5 a6 t327 (wrap64 (Int.tmod a1 5)) (wrap64 ((Int.tmod (wrap64 (a4)) 200) - 30)) (mn a2 a3) (mx a2 a3) false))) = some r := by rw [if_pos rfl] at H; exact H
    clear H
    have H := H1
    clear H1
    replace H := Option.bind_eq_some_iff.mp H
    obtain ⟨t327, A100, H⟩ := H
    replace H : (if (mn a2 a3) = (mx a2 a3) then (if a5 = true then (anneallaw3_RoundOrder.j0 k a5 a6 t327 (wrap64 (Int.tmod a1 5)) (wrap64 ((Int.tmod (wrap64 (a4)) 200) - 30)) (mn a2 a3) (mx a2 a3) (!a6)) else (anneallaw3_RoundOrder.j0 k a5 a6 t327 (wrap64 (Int.tmod a1 5)) (wrap64 ((Int.tmod (wrap64 (a4)) 200) - 30)) (mn a2 a3) (mx a2 a3) false)) else (anneallaw3_RoundOrder.j0 k a5 a6 t327 (wrap64 (Int.tmod a1 5)) (wrap64 ((Int.tmod (wrap64 (a4)) 200) - 30)) (mn a2 a3) (mx a2 a3) false)) = some r := H
    have A10 := Aside0.mk A100
    clear A100
    obtain ⟨ji11, hji11⟩ : ∃ j_ : Int, (mn a2 a3) = j_ := ⟨_, rfl⟩
    replace H : (if (ji11) = (mx a2 a3) then (if a5 = true then (anneallaw3_RoundOrder.j0 k a5 a6 t327 (wrap64 (Int.tmod a1 5)) (wrap64 ((Int.tmod (wrap64 (a4)) 200) - 30)) ji11 (mx a2 a3) (!a6)) else (anneallaw3_RoundOrder.j0 k a5 a6 t327 (wrap64 (Int.tmod a1 5)) (wrap64 ((Int.tmod (wrap64 (a4)) 200) - 30)) ji11 (mx a2 a3) false)) else (anneallaw3_RoundOrder.j0 k a5 a6 t327 (wrap64 (Int.tmod a1 5)) (wrap64 ((Int.tmod (wrap64 (a4)) 200) - 30)) ji11 (mx a2 a3) false)) = some r := by first | (rw [hji11] at H; exact H) | (simp only [hji11] at H ⊢; exact H)
    (try rw [hji11] at A8)
    (try rw [hji11] at A10)
    have hji11_ : (if a3 < a2 then a3 else a2) = ji11 := hji11
    obtain ⟨ji12, hji12⟩ : ∃ j_ : Int, (mx a2 a3) = j_ := ⟨_, rfl⟩
    replace H : (if (ji11) = (ji12) then (if a5 = true then (anneallaw3_RoundOrder.j0 k a5 a6 t327 (wrap64 (Int.tmod a1 5)) (wrap64 ((Int.tmod (wrap64 (a4)) 200) - 30)) ji11 ji12 (!a6)) else (anneallaw3_RoundOrder.j0 k a5 a6 t327 (wrap64 (Int.tmod a1 5)) (wrap64 ((Int.tmod (wrap64 (a4)) 200) - 30)) ji11 ji12 false)) else (anneallaw3_RoundOrder.j0 k a5 a6 t327 (wrap64 (Int.tmod a1 5)) (wrap64 ((Int.tmod (wrap64 (a4)) 200) - 30)) ji11 ji12 false)) = some r := by first | (rw [hji12] at H; exact H) | (simp only [hji12] at H ⊢; exact H)
    (try rw [hji12] at A8)
    (try rw [hji12] at A10)
    have hji12_ : (if a2 < a3 then a3 else a2) = ji12 := hji12
    have HC13 := Aside0.mk H
    clear H
    go_enter Try.func6, Try.ntmps6
    go_upto_region 6 with (first | ((with_reducible refine gate_callee (f := 15) rfl ?_); refine goesL_ (some 24) rfl rfl Try.func15 (by kernel_rfl) rfl #[] rfl (by (try simp only [List.map_toArray, List.map_cons, List.map_nil]); first | done | rfl | (simp only [List.length_drop, List.length_take]; rfl)) ?_; (with_reducible refine (anneallaw3_known.calls k  true _ A8.out).mono ?_); rintro e w14 ⟨rfl, hb⟩; refine ⟨_, rfl, ?_⟩; have n0_ := Aside0.mk (below_step (by repeat (first | (with_reducible first | exact HB.out | apply below_alloc | apply pw_below_drewN | apply below_drew1) | exact HB.out)) hb); clear HB; have HB := n0_; clear n0_; (try clear hb); (try clear hb2); (try clear hk); (try clear hi)) | ((with_reducible refine gate_callee (f := 16) rfl ?_); refine goesL_ (some 27) rfl rfl Try.func16 (by kernel_rfl) rfl #[.int .u8 a0] rfl (by (try simp only [List.map_toArray, List.map_cons, List.map_nil]); first | done | rfl | (simp only [List.length_drop, List.length_take]; rfl)) ?_; (with_reducible refine (anneallaw3_form.calls a0 t327 _ A10.out).mono ?_); rintro e w15 ⟨rfl, hb⟩; refine ⟨_, rfl, ?_⟩; have n0_ := Aside0.mk (below_step (by repeat (first | (with_reducible first | exact HB.out | apply below_alloc | apply pw_below_drewN | apply below_drew1) | exact HB.out)) hb); clear HB; have HB := n0_; clear n0_; (try clear hb); (try clear hb2); (try clear hk); (try clear hi)))
    (try simp only [Act.put, List.setIfInBounds_toArray, List.set_cons_zero, List.set_cons_succ])
    go_cut [50] (fun v50 wc => ∃ (kq : Nat) (x50_12 : Bool), v50 = .bool x50_12 ∧ Aside0 (anneallaw3_RoundOrder.j0 kq a5 a6 t327 (wrap64 (Int.tmod a1 5)) (wrap64 ((Int.tmod (wrap64 (a4)) 200) - 30)) ji11 ji12 x50_12 = some r) ∧ Aside0 (kq ≤ k) ∧ Aside0 (Below w.heap.size w wc))
    case first =>
      have H := HC13.out
      clear HC13
      by_cases c16 : (ji11) = (ji12)
      · rw [if_pos c16] at H
        have c16b0 : ((ji11) == (ji12)) = true := beq_iff_eq.mpr c16
        have c16b1 : ((ji11) != (ji12)) = false := bne_eq_false_iff_eq.mpr c16
        clear c16
        (first | rw [c16b0] | (simp only [i64_w, i32_w]; rw [c16b0]) | skip)
        by_cases c17 : a5 = true
        · subst c17
          have H1 : (anneallaw3_RoundOrder.j0 k true a6 t327 (wrap64 (Int.tmod a1 5)) (wrap64 ((Int.tmod (wrap64 (a4)) 200) - 30)) ji11 ji12 (!a6)) = some r := by rw [if_pos rfl] at H; exact H
          clear H
          have H := H1
          clear H1
          have H' := Aside0.mk H
          clear H
          go_wp2
          go_meet
          case rel => exact ⟨_, (!a6), (by first | rfl | (simp; done) | (simp [*]; done) | (congr 1; (try unfold wrap64); omega)), H', ⟨by first | omega | exact Nat.le_refl _⟩, ⟨by repeat (first | (with_reducible first | exact HB.out | apply below_alloc | apply pw_below_drewN | apply below_drew1) | exact HB.out)⟩⟩
        · replace c17 := Bool.eq_false_iff.mpr c17
          subst c17
          have H1 : (anneallaw3_RoundOrder.j0 k false a6 t327 (wrap64 (Int.tmod a1 5)) (wrap64 ((Int.tmod (wrap64 (a4)) 200) - 30)) ji11 ji12 false) = some r := by rw [if_neg (show ¬ (false = true) by decide)] at H; exact H
          clear H
          have H := H1
          clear H1
          have H' := Aside0.mk H
          clear H
          go_wp2
          go_meet
          case rel => exact ⟨_, (false), (by first | rfl | (simp; done) | (simp [*]; done) | (congr 1; (try unfold wrap64); omega)), H', ⟨by first | omega | exact Nat.le_refl _⟩, ⟨by repeat (first | (with_reducible first | exact HB.out | apply below_alloc | apply pw_below_drewN | apply below_drew1) | exact HB.out)⟩⟩
      · rw [if_neg c16] at H
        have c16b0 : ((ji11) == (ji12)) = false := beq_eq_false_iff_ne.mpr c16
        have c16b1 : ((ji11) != (ji12)) = true := bne_iff_ne.mpr c16
        (first | rw [c16b0] | (simp only [i64_w, i32_w]; rw [c16b0]) | skip)
        have H' := Aside0.mk H
        clear H
        go_wp2
        go_meet
        case rel => exact ⟨_, (false), (by first | rfl | (simp; done) | (simp [*]; done) | (congr 1; (try unfold wrap64); omega)), H', ⟨by first | omega | exact Nat.le_refl _⟩, ⟨by repeat (first | (with_reducible first | exact HB.out | apply below_alloc | apply pw_below_drewN | apply below_drew1) | exact HB.out)⟩⟩
    case rest =>
      clear HC13
      try clear c1
      try clear p2
      try clear c6
      try clear p6
      try clear c9
      try clear c15
      try clear c16
      try clear c16b0
      try clear c16b1
      try clear c17
      obtain ⟨kq, x50_12, rfl, HA, HJ12, HB⟩ := hcut
      cases kq with
      | zero => exact absurd HA.out (by simp [anneallaw3_RoundOrder.j0])
      | succ kj12 =>
        have H := HA.out
        clear HA
        simp only [anneallaw3_RoundOrder.j0] at H
        have HC18 := Aside0.mk H
        clear H
        go_upto_if 50 with (fail)
        go_cut [5] (fun v5 wc => ∃ (kq : Nat) (x5_17 : Bool), v5 = .bool x5_17 ∧ Aside0 (anneallaw3_RoundOrder.j1 kq x5_17 a6 t327 (wrap64 (Int.tmod a1 5)) (wrap64 ((Int.tmod (wrap64 (a4)) 200) - 30)) ji11 ji12 = some r) ∧ Aside0 (kq ≤ kj12) ∧ Aside0 (Below w.heap.size w wc))
        case first =>
          have H := HC18.out
          clear HC18
          by_cases c19 : x50_12 = true
          · subst c19
            have H1 : (anneallaw3_RoundOrder.j1 kj12 false a6 t327 (wrap64 (Int.tmod a1 5)) (wrap64 ((Int.tmod (wrap64 (a4)) 200) - 30)) ji11 ji12) = some r := by rw [if_pos rfl] at H; exact H
            clear H
            have H := H1
            clear H1
            have H' := Aside0.mk H
            clear H
            go_wp2
            go_meet
            case rel => exact ⟨_, (false), (by first | rfl | (simp; done) | (simp [*]; done) | (congr 1; (try unfold wrap64); omega)), H', ⟨by have := HJ12.out; first | omega | exact Nat.le_refl _⟩, ⟨by repeat (first | (with_reducible first | exact HB.out | apply below_alloc | apply pw_below_drewN | apply below_drew1) | exact HB.out)⟩⟩
          · replace c19 := Bool.eq_false_iff.mpr c19
            subst c19
            have H1 : (anneallaw3_RoundOrder.j1 kj12 a5 a6 t327 (wrap64 (Int.tmod a1 5)) (wrap64 ((Int.tmod (wrap64 (a4)) 200) - 30)) ji11 ji12) = some r := by rw [if_neg (show ¬ (false = true) by decide)] at H; exact H
            clear H
            have H := H1
            clear H1
            have H' := Aside0.mk H
            clear H
            go_wp2
            go_meet
            case rel => exact ⟨_, (a5), (by first | rfl | (simp; done) | (simp [*]; done) | (congr 1; (try unfold wrap64); omega)), H', ⟨by have := HJ12.out; first | omega | exact Nat.le_refl _⟩, ⟨by repeat (first | (with_reducible first | exact HB.out | apply below_alloc | apply pw_below_drewN | apply below_drew1) | exact HB.out)⟩⟩
        case rest =>
          clear HC18
          try clear c1
          try clear p2
          try clear c6
          try clear p6
          try clear c9
          try clear c15
          try clear c16
          try clear c16b0
          try clear c16b1
          try clear c17
          try clear c19
          try clear p2
          try clear p6
          obtain ⟨kq, x5_17, rfl, HA, HJ17, HB⟩ := hcut
          cases kq with
          | zero => exact absurd HA.out (by simp [anneallaw3_RoundOrder.j1])
          | succ kj17 =>
            have H := HA.out
            clear HA
            simp only [anneallaw3_RoundOrder.j1] at H
            replace H := Option.bind_eq_some_iff.mp H
            obtain ⟨⟨t328, t329, t330, t331, t332, t333⟩, A200, H⟩ := H
            replace H : ((round_Pack.f kj17 t327 (wrap64 (Int.tmod a1 5)) false (wrap64 ((Int.tmod (wrap64 (a4)) 200) - 30)) ji12 a6).bind fun bt335 => ((annealref1_Key.f t327 t328).bind fun t342 => ((annealref1_Key.f t327 bt335.1).bind fun t343 => (some (decide (t342 ≤ t343)))))) = some r := H
            have A20 := Aside0.mk A200
            clear A200
            replace H := Option.bind_eq_some_iff.mp H
            obtain ⟨⟨t335, t336, t337, t338, t339, t340⟩, A210, H⟩ := H
            replace H : ((annealref1_Key.f t327 t328).bind fun t342 => ((annealref1_Key.f t327 t335).bind fun t343 => (some (decide (t342 ≤ t343))))) = some r := H
            have A21 := Aside0.mk A210
            clear A210
            replace H := Option.bind_eq_some_iff.mp H
            obtain ⟨t342, A220, H⟩ := H
            replace H : ((annealref1_Key.f t327 t335).bind fun t343 => (some (decide (t342 ≤ t343)))) = some r := H
            have A22 := Aside0.mk A220
            clear A220
            replace H := Option.bind_eq_some_iff.mp H
            obtain ⟨t343, A230, H⟩ := H
            replace H : (some (decide (t342 ≤ t343))) = some r := H
            have A23 := Aside0.mk A230
            clear A230
            obtain rfl := Option.some.inj H
            go_wp2_with (first | ((with_reducible refine gate_callee (f := 17) rfl ?_); refine goesL_ (some 57) rfl rfl Try.func17 (by kernel_rfl) rfl #[.int .i64 t327, .int .i64 (wrap64 (Int.tmod a1 5)), .bool false, .int .i64 (wrap64 ((Int.tmod (wrap64 (a4)) 200) - 30)), .int .u64 ji11, .bool x5_17] rfl (by (try simp only [List.map_toArray, List.map_cons, List.map_nil]); first | done | (simp only [hji11]; rfl) | rfl | (simp only [List.length_drop, List.length_take]; rfl)) ?_; (with_reducible refine (round_Pack.calls kj17 t327 (wrap64 (Int.tmod a1 5)) false (wrap64 ((Int.tmod (wrap64 (a4)) 200) - 30)) ji11 x5_17 t328 t329 t330 t331 t332 t333 _ A20.out).mono ?_); rintro e w24 ⟨rfl, hb⟩; refine ⟨_, rfl, ?_⟩; have n0_ := Aside0.mk (below_step (by repeat (first | (with_reducible first | exact HB.out | apply below_alloc | apply pw_below_drewN | apply below_drew1) | exact HB.out)) hb); clear HB; have HB := n0_; clear n0_; (try clear hb); (try clear hb2); (try clear hk); (try clear hi)) | ((with_reducible refine gate_dst (N := 21) rfl ?_); refine box_event ?hg (N := 21) ?hd (cs := #[.bool false, .bool false, .bool false, .bool false, .bool false]) (t := 30) ?hr ?_; (case hd => rfl); (case hg => rfl); (case hr => first | (go_simp; done) | (go_simp; rfl)); intro gb334 hg w25 hbox hb; have n0_ := Aside0.mk (below_step (by repeat (first | (with_reducible first | exact HB.out | apply below_alloc | apply pw_below_drewN | apply below_drew1) | exact HB.out)) hb); have n1_ := Aside0.mk (hbox); have n2_ := Aside0.mk ((by rw [hg]; exact (below_size (by repeat (first | (with_reducible first | exact HB.out | apply below_alloc | apply pw_below_drewN | apply below_drew1) | exact HB.out))) : w.heap.size ≤ gb334)); have n3_ := Aside0.mk ((by rw [hg]; exact (below_size (by repeat (first | (with_reducible first | exact HB.out | apply below_alloc | apply pw_below_drewN | apply below_drew1) | exact HB.out))) : w.heap.size ≤ gb334)); clear HB; have HB := n0_; have BK334 := n1_; have GW334 := n2_; have GE334 := n3_; clear n0_ n1_ n2_ n3_; clear hb hbox hg; have hcz26_0 : w25.cell? ⟨gb334, 0, none⟩ = some (.bool false) := (blk_cell BK334.out 0).trans rfl; have hcz26_1 : w25.cell? ⟨gb334, 1, none⟩ = some (.bool false) := (blk_cell BK334.out 1).trans rfl; have hcz26_2 : w25.cell? ⟨gb334, 2, none⟩ = some (.bool false) := (blk_cell BK334.out 2).trans rfl; have hcz26_3 : w25.cell? ⟨gb334, 3, none⟩ = some (.bool false) := (blk_cell BK334.out 3).trans rfl; have hcz26_4 : w25.cell? ⟨gb334, 4, none⟩ = some (.bool false) := (blk_cell BK334.out 4).trans rfl; have hfz26_0 := blk_frozen BK334.out 0; have hfz26_1 := blk_frozen BK334.out 1; have hfz26_2 := blk_frozen BK334.out 2; have hfz26_3 := blk_frozen BK334.out 3; have hfz26_4 := blk_frozen BK334.out 4) | ((with_reducible refine gate_callee (f := 17) rfl ?_); refine goesL_ (some 66) rfl rfl Try.func17 (by kernel_rfl) rfl #[.int .i64 t327, .int .i64 (wrap64 (Int.tmod a1 5)), .bool false, .int .i64 (wrap64 ((Int.tmod (wrap64 (a4)) 200) - 30)), .int .u64 ji12, .bool a6] rfl (by (try simp only [List.map_toArray, List.map_cons, List.map_nil]); first | done | (simp only [hji12]; rfl) | rfl | (simp only [List.length_drop, List.length_take]; rfl)) ?_; (with_reducible refine (round_Pack.calls kj17 t327 (wrap64 (Int.tmod a1 5)) false (wrap64 ((Int.tmod (wrap64 (a4)) 200) - 30)) ji12 a6 t335 t336 t337 t338 t339 t340 _ A21.out).mono ?_); rintro e w27 ⟨rfl, hb⟩; refine ⟨_, rfl, ?_⟩; have n0_ := Aside0.mk (blk_below (g := gb334) (o := .cells #[.bool t329, .bool t330, .bool t331, .bool t332, .bool t333] 30 (0, 0)) (by (with_reducible repeat (first | refine blk_drewN ?_ _ | refine blk_drew ?_ | refine blk_alloc ?_ _)); refine blk_put (cs := #[.bool t329, .bool t330, .bool t331, .bool t332, .bool false]) ?_ 4 _ rfl; (with_reducible repeat (first | refine blk_drewN ?_ _ | refine blk_drew ?_ | refine blk_alloc ?_ _)); refine blk_put (cs := #[.bool t329, .bool t330, .bool t331, .bool false, .bool false]) ?_ 3 _ rfl; (with_reducible repeat (first | refine blk_drewN ?_ _ | refine blk_drew ?_ | refine blk_alloc ?_ _)); refine blk_put (cs := #[.bool t329, .bool t330, .bool false, .bool false, .bool false]) ?_ 2 _ rfl; (with_reducible repeat (first | refine blk_drewN ?_ _ | refine blk_drew ?_ | refine blk_alloc ?_ _)); refine blk_put (cs := #[.bool t329, .bool false, .bool false, .bool false, .bool false]) ?_ 1 _ rfl; (with_reducible repeat (first | refine blk_drewN ?_ _ | refine blk_drew ?_ | refine blk_alloc ?_ _)); refine blk_put (cs := #[.bool false, .bool false, .bool false, .bool false, .bool false]) ?_ 0 _ rfl; (with_reducible repeat (first | refine blk_drewN ?_ _ | refine blk_drew ?_ | refine blk_alloc ?_ _)); exact BK334.out) hb); have n1_ := Aside0.mk (below_step (by repeat (first | (with_reducible first | exact HB.out | apply below_alloc | apply pw_below_drewN | apply below_drew1 | refine below_set ?_ GE334.out) | exact HB.out)) hb); clear BK334; clear HB; have BK334 := n0_; have HB := n1_; clear n0_ n1_; (try clear hb); (try clear hb2); (try clear hk); (try clear hi)) | ((with_reducible refine gate_dst (N := 23) rfl ?_); refine box_event ?hg (N := 23) ?hd (cs := #[.bool false, .bool false, .bool false, .bool false, .bool false]) (t := 30) ?hr ?_; (case hd => rfl); (case hg => rfl); (case hr => first | (go_simp; done) | (go_simp; rfl)); intro gb341 hg w28 hbox hb; have n0_ := Aside0.mk (blk_below (g := gb334) (o := .cells #[.bool t329, .bool t330, .bool t331, .bool t332, .bool t333] 30 (0, 0)) (by (with_reducible repeat (first | refine blk_drewN ?_ _ | refine blk_drew ?_ | refine blk_alloc ?_ _)); exact BK334.out) hb); have n1_ := Aside0.mk (below_step (by repeat (first | (with_reducible first | exact HB.out | apply below_alloc | apply pw_below_drewN | apply below_drew1 | refine below_set ?_ GE334.out) | exact HB.out)) hb); have n2_ := Aside0.mk (hbox); have n3_ := Aside0.mk ((by rw [hg]; exact (below_size (by repeat (first | (with_reducible first | exact HB.out | apply below_alloc | apply pw_below_drewN | apply below_drew1 | refine below_set ?_ GE334.out) | exact HB.out))) : w.heap.size ≤ gb341)); have n4_ := Aside0.mk ((by rw [hg]; exact (below_size (by repeat (first | (with_reducible first | exact HB.out | apply below_alloc | apply pw_below_drewN | apply below_drew1 | refine below_set ?_ GE334.out) | exact HB.out))) : w.heap.size ≤ gb341)); have n5_ := Aside0.mk ((by rw [hg]; exact Nat.ne_of_lt (blk_lt (g := gb334) (o := .cells #[.bool t329, .bool t330, .bool t331, .bool t332, .bool t333] 30 (0, 0)) (by (with_reducible repeat (first | refine blk_drewN ?_ _ | refine blk_drew ?_ | refine blk_alloc ?_ _)); exact BK334.out)) : gb334 ≠ gb341)); have n6_ := Aside0.mk ((by rw [hg]; exact Nat.ne_of_gt (blk_lt (g := gb334) (o := .cells #[.bool t329, .bool t330, .bool t331, .bool t332, .bool t333] 30 (0, 0)) (by (with_reducible repeat (first | refine blk_drewN ?_ _ | refine blk_drew ?_ | refine blk_alloc ?_ _)); exact BK334.out)) : gb341 ≠ gb334)); clear BK334; clear HB; have BK334 := n0_; have HB := n1_; have BK341 := n2_; have GW341 := n3_; have GE341 := n4_; have NB334_341 := n5_; have NB341_334 := n6_; clear n0_ n1_ n2_ n3_ n4_ n5_ n6_; clear hb hbox hg; have hnb29 := NB341_334.out; have hnc29 := NB334_341.out; have hcz30_0 : w28.cell? ⟨gb341, 0, none⟩ = some (.bool false) := (blk_cell BK341.out 0).trans rfl; have hcz30_1 : w28.cell? ⟨gb341, 1, none⟩ = some (.bool false) := (blk_cell BK341.out 1).trans rfl; have hcz30_2 : w28.cell? ⟨gb341, 2, none⟩ = some (.bool false) := (blk_cell BK341.out 2).trans rfl; have hcz30_3 : w28.cell? ⟨gb341, 3, none⟩ = some (.bool false) := (blk_cell BK341.out 3).trans rfl; have hcz30_4 : w28.cell? ⟨gb341, 4, none⟩ = some (.bool false) := (blk_cell BK341.out 4).trans rfl; have hfz30_0 := blk_frozen BK341.out 0; have hfz30_1 := blk_frozen BK341.out 1; have hfz30_2 := blk_frozen BK341.out 2; have hfz30_3 := blk_frozen BK341.out 3; have hfz30_4 := blk_frozen BK341.out 4) | ((with_reducible refine gate_callee (f := 22) rfl ?_); refine goesL_ (some 71) rfl rfl Try.func22 (by kernel_rfl) rfl #[.int .i64 t327, .int .u32 t328] rfl (by (try simp only [List.map_toArray, List.map_cons, List.map_nil]); first | done | rfl | (simp only [List.length_drop, List.length_take]; rfl)) ?_; (with_reducible refine (annealref1_Key.calls t327 t328 t342 _ A22.out).mono ?_); rintro e w' ⟨rfl, ⟨nd, rfl⟩⟩; refine ⟨_, rfl, ?_⟩) | ((with_reducible refine gate_callee (f := 22) rfl ?_); refine goesL_ (some 74) rfl rfl Try.func22 (by kernel_rfl) rfl #[.int .i64 t327, .int .u32 t335] rfl (by (try simp only [List.map_toArray, List.map_cons, List.map_nil]); first | done | rfl | (simp only [List.length_drop, List.length_take]; rfl)) ?_; (with_reducible refine (annealref1_Key.calls t327 t335 t343 _ A23.out).mono ?_); rintro e w' ⟨rfl, ⟨nd, rfl⟩⟩; refine ⟨_, rfl, ?_⟩))
            go_ret
            exact ⟨by first | rfl | (simp [errW_none, errW_some] <;> rfl) | (simp only [← hji11, ← hji12]; first | rfl | (simp [errW_none, errW_some] <;> rfl)) | (simp [*, errW_none, errW_some] <;> rfl), by repeat (first | (with_reducible first | exact HB.out | apply below_alloc | apply pw_below_drewN | apply below_drew1 | refine below_set ?_ GE334.out | refine below_set ?_ GE341.out) | exact HB.out)⟩
  · replace c9 := Bool.eq_false_iff.mpr c9
    subst c9
    have H1 : (some false) = some r := by rw [if_neg (show ¬ (false = true) by decide)] at H; exact H
    clear H
    have H := H1
    clear H1
    obtain rfl := Option.some.inj H
    go_enter Try.func6, Try.ntmps6
    go_wp2_with (first | ((with_reducible refine gate_callee (f := 15) rfl ?_); refine goesL_ (some 24) rfl rfl Try.func15 (by kernel_rfl) rfl #[] rfl (by (try simp only [List.map_toArray, List.map_cons, List.map_nil]); first | done | rfl | (simp only [List.length_drop, List.length_take]; rfl)) ?_; (with_reducible refine (anneallaw3_known.calls k  false _ A8.out).mono ?_); rintro e w31 ⟨rfl, hb⟩; refine ⟨_, rfl, ?_⟩; have n0_ := Aside0.mk (below_step (by repeat (first | (with_reducible first | exact HB.out | apply below_alloc | apply pw_below_drewN | apply below_drew1) | exact HB.out)) hb); clear HB; have HB := n0_; clear n0_; (try clear hb); (try clear hb2); (try clear hk); (try clear hi)))
    go_ret
    exact ⟨by first | rfl | (simp [errW_none, errW_some] <;> rfl) | (simp [*, errW_none, errW_some] <;> rfl), by repeat (first | (with_reducible first | exact HB.out | apply below_alloc | apply pw_below_drewN | apply below_drew1) | exact HB.out)⟩

/-- THE ONE PURE STATEMENT of anneallaw3_RoundOrder: yours. -/
def anneallaw3_RoundOrder.Pure : Prop := ∀ (a0 : Int) (a1 : Int) (a2 : Int) (a3 : Int) (a4 : Int) (a5 : Bool) (a6 : Bool), (Lit.int .u8 a0).wf = true → (Lit.int .u8 a1).wf = true → (Lit.int .u64 a2).wf = true → (Lit.int .u64 a3).wf = true → (Lit.int .i16 a4).wf = true → ∃ k, anneallaw3_RoundOrder.f k a0 a1 a2 a3 a4 a5 a6 = some true
theorem anneallaw3_RoundOrder.walk (P : anneallaw3_RoundOrder.Pure) (a0 : Int) (a1 : Int) (a2 : Int) (a3 : Int) (a4 : Int) (a5 : Bool) (a6 : Bool) (w : World) (w0 : (Lit.int .u8 a0).wf = true) (w1 : (Lit.int .u8 a1).wf = true) (w2 : (Lit.int .u64 a2).wf = true) (w3 : (Lit.int .u64 a3).wf = true) (w4 : (Lit.int .i16 a4).wf = true) :
    Calls Try.prog 6 #[.int .u8 a0, .int .u8 a1, .int .u64 a2, .int .u64 a3, .int .i16 a4, .bool a5, .bool a6] w fun e w' => e = .returned (.bool true) ∧ Below w.heap.size w w' := by
  obtain ⟨k, h⟩ := P a0 a1 a2 a3 a4 a5 a6 w0 w1 w2 w3 w4
  refine (anneallaw3_RoundOrder.calls k a0 a1 a2 a3 a4 a5 a6 true w h).mono ?_
  rintro e w' ⟨rfl, hd⟩
  exact ⟨rfl, hd⟩

end Go.Proofs.Ytoljndjpnbdjmaa.P
