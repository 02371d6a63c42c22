-- Printed by a program of this session's out of Lean's print of the translation; Lean checks it.
import Derived.Test.YtjmihdhclbjaeaaPx0
import Derived.Test.YtjmihdhclbjaeaaPx7
import Derived.Test.YtjmihdhclbjaeaaPx9
import Derived.Test.YtjmihdhclbjaeaaPx10
namespace Go.Proofs.Ytjmihdhclbjaeaa.P
open Go.RowKit Go.Proofs.YtjmihdhclbjaeaaW.PrintWords Go.Proofs.YtjmihdhclbjaeaaW.PrintLast Go.Proofs.YtjmihdhclbjaeaaW.PrintMore
attribute [local go_sem] max2_int min2_int max_two min_two max_three min_three max_four min_four   -- for this text's walks alone
set_option linter.unusedVariables false
set_option linter.unusedSimpArgs false

/-! ### anneallaw1_BitsReckon: function 6 -/
mutual
def anneallaw1_BitsReckon.l0 : Nat → Int → Int → Int → Int → List Int → Int → Int → Option (Bool)
  | 0, _, _, _, _, _, _, _ => none
  | k + 1, x0, x1, x2, x4, x29, x30, x31 => if x31 < x30 then (if 0 ≤ x31 then (if x31 < (x29.length : Int) then ((bits_Rotate.f x2 (rd x29 x31)).bind fun t222 => ((annealref1_Rotate.f k x2 (rd x29 x31)).bind fun t223 => (if t222 = t223 then (anneallaw1_BitsReckon.l0 k x0 x1 x2 x4 x29 x30 (wrap64 (x31 + 1))) else (some false)))) else (none)) else (none)) else ((bits_Product.f x0 x1).bind fun bt224 => ((annealref1_Product.f x0 x1).bind fun bt226 => (if 0 ≤ (Int.tmod x4 64) then ((some (([x0, shr .u64 x0 (Int.tmod x4 64), IntKind.u64.wrap ((IntKind.u64.wrap (x2)) * (IntKind.u64.wrap (x2))), IntKind.u64.wrap ((IntKind.u64.wrap ((IntKind.u64.wrap (x2)) * (IntKind.u64.wrap (x2)))) - 1), IntKind.u64.wrap ((IntKind.u64.wrap ((IntKind.u64.wrap (x2)) * (IntKind.u64.wrap (x2)))) + 1)] : List Int) : List Int)).bind fun y228 => (anneallaw1_BitsReckon.l1 k bt224.1 bt224.2 bt226.1 bt226.2 y228 (y228.length : Int) 0)) else (none))))
def anneallaw1_BitsReckon.l1 : Nat → Int → Int → Int → Int → List Int → Int → Int → Option (Bool)
  | 0, _, _, _, _, _, _, _ => none
  | k + 1, x13, x14, x15, x16, x77, x78, x79 => if x79 < x78 then (if 0 ≤ x79 then (if x79 < (x77.length : Int) then ((bits_Root.f k (rd x77 x79)).bind fun bt232 => ((annealref1_Root.f k (rd x77 x79)).bind fun bt234 => (if bt232.1 = bt234.1 then (if (bt232.2 != bt234.2) = true then (some false) else (anneallaw1_BitsReckon.l1 k x13 x14 x15 x16 x77 x78 (wrap64 (x79 + 1)))) else (some false)))) else (none)) else (none)) else (if x13 = x15 then (some (x14 == x16)) else (some false))
end
def anneallaw1_BitsReckon.f (k : Nat) (a0 : Int) (a1 : Int) (a2 : Int) (a3 : Int) (a4 : Int) : Option (Bool) := (anneallaw1_known.f k).bind fun t217 => (if t217 = true then ((some (([a3, wrap64 ((wrap64 (a4)) - 128)] : List Int) : List Int)).bind fun y218 => (anneallaw1_BitsReckon.l0 k a0 a1 a2 a4 y218 (y218.length : Int) 0)) else (some false))
theorem anneallaw1_BitsReckon.mono_l : ∀ k, (∀ y0 y1 y2 y3 y4 y5 y6, LeO (anneallaw1_BitsReckon.l0 k y0 y1 y2 y3 y4 y5 y6) (anneallaw1_BitsReckon.l0 (k + 1) y0 y1 y2 y3 y4 y5 y6)) ∧ (∀ y0 y1 y2 y3 y4 y5 y6, LeO (anneallaw1_BitsReckon.l1 k y0 y1 y2 y3 y4 y5 y6) (anneallaw1_BitsReckon.l1 (k + 1) y0 y1 y2 y3 y4 y5 y6))
  | 0 => ⟨fun _ _ _ _ _ _ _ r h => by simp [anneallaw1_BitsReckon.l0] at h, fun _ _ _ _ _ _ _ r h => by simp [anneallaw1_BitsReckon.l1] at h⟩
  | k + 1 => by
    obtain ⟨ih0, ih1⟩ := anneallaw1_BitsReckon.mono_l k
    refine ⟨?_, ?_⟩
    · intro y0 y1 y2 y3 y4 y5 y6
      unfold anneallaw1_BitsReckon.l0
      repeat' first
      | (with_reducible exact ih0 _ _ _ _ _ _ _)
      | (with_reducible exact ih1 _ _ _ _ _ _ _)
      | (with_reducible exact anneallaw1_known.mono _)
      | (with_reducible exact annealref1_Root.mono _ _)
      | (with_reducible exact annealref1_Rotate.mono _ _ _)
      | (with_reducible exact bits_Root.mono _ _)
      | (with_reducible exact LeO.refl _)
      | (with_reducible exact LeO.none _)
      | (with_reducible refine LeO.ite ?_ ?_)
      | (with_reducible refine LeO.bind ?_ (fun _ => ?_))
      | exact ih0 _ _ _ _ _ _ _
      | exact ih1 _ _ _ _ _ _ _
      | exact anneallaw1_known.mono _
      | exact annealref1_Root.mono _ _
      | exact annealref1_Rotate.mono _ _ _
      | exact bits_Root.mono _ _
      | exact LeO.none _
      | refine LeO.ite ?_ ?_
      | refine LeO.bind ?_ (fun _ => ?_)
    · intro y0 y1 y2 y3 y4 y5 y6
      unfold anneallaw1_BitsReckon.l1
      repeat' first
      | (with_reducible exact ih0 _ _ _ _ _ _ _)
      | (with_reducible exact ih1 _ _ _ _ _ _ _)
      | (with_reducible exact anneallaw1_known.mono _)
      | (with_reducible exact annealref1_Root.mono _ _)
      | (with_reducible exact annealref1_Rotate.mono _ _ _)
      | (with_reducible exact bits_Root.mono _ _)
      | (with_reducible exact LeO.refl _)
      | (with_reducible exact LeO.none _)
      | (with_reducible refine LeO.ite ?_ ?_)
      | (with_reducible refine LeO.bind ?_ (fun _ => ?_))
      | exact ih0 _ _ _ _ _ _ _
      | exact ih1 _ _ _ _ _ _ _
      | exact anneallaw1_known.mono _
      | exact annealref1_Root.mono _ _
      | exact annealref1_Rotate.mono _ _ _
      | exact bits_Root.mono _ _
      | exact LeO.none _
      | refine LeO.ite ?_ ?_
      | refine LeO.bind ?_ (fun _ => ?_)
theorem anneallaw1_BitsReckon.mono : ∀ a0 a1 a2 a3 a4 k, LeO (anneallaw1_BitsReckon.f k a0 a1 a2 a3 a4) (anneallaw1_BitsReckon.f (k + 1) a0 a1 a2 a3 a4) := by
  intro a0 a1 a2 a3 a4 k
  obtain ⟨ih0, ih1⟩ := anneallaw1_BitsReckon.mono_l k
  unfold anneallaw1_BitsReckon.f
  repeat' first
      | (with_reducible exact ih0 _ _ _ _ _ _ _)
      | (with_reducible exact ih1 _ _ _ _ _ _ _)
      | (with_reducible exact anneallaw1_known.mono _)
      | (with_reducible exact annealref1_Root.mono _ _)
      | (with_reducible exact annealref1_Rotate.mono _ _ _)
      | (with_reducible exact bits_Root.mono _ _)
      | (with_reducible exact LeO.refl _)
      | (with_reducible exact LeO.none _)
      | (with_reducible refine LeO.ite ?_ ?_)
      | (with_reducible refine LeO.bind ?_ (fun _ => ?_))
      | exact ih0 _ _ _ _ _ _ _
      | exact ih1 _ _ _ _ _ _ _
      | exact anneallaw1_known.mono _
      | exact annealref1_Root.mono _ _
      | exact annealref1_Rotate.mono _ _ _
      | exact bits_Root.mono _ _
      | exact LeO.none _
      | refine LeO.ite ?_ ?_
      | refine LeO.bind ?_ (fun _ => ?_)
set_option maxHeartbeats 8000000 in
set_option maxRecDepth 100000 in
theorem anneallaw1_BitsReckon.calls (k : Nat) (a0 : Int) (a1 : Int) (a2 : Int) (a3 : Int) (a4 : Int) (r : Bool) (w : World) (h : anneallaw1_BitsReckon.f k a0 a1 a2 a3 a4 = some r) :
    Calls Try.prog 6 #[.int .u64 a0, .int .u64 a1, .int .u32 a2, .int .i64 a3, .int .u8 a4] w fun e w' => e = .returned (.bool r) ∧ Below w.heap.size w w' := by
  have HB := Aside0.mk (Below.refl w.heap.size w)
  have H : ((anneallaw1_known.f k).bind fun t217 => (if t217 = true then ((some (([a3, wrap64 ((wrap64 (a4)) - 128)] : List Int) : List Int)).bind fun y218 => (anneallaw1_BitsReckon.l0 k a0 a1 a2 a4 y218 (y218.length : Int) 0)) else (some false))) = some r := h
  clear h
  replace H := Option.bind_eq_some_iff.mp H
  obtain ⟨t217, A60, H⟩ := H
  replace H : (if t217 = true then ((some (([a3, wrap64 ((wrap64 (a4)) - 128)] : List Int) : List Int)).bind fun y218 => (anneallaw1_BitsReckon.l0 k a0 a1 a2 a4 y218 (y218.length : Int) 0)) else (some false)) = some r := H
  have A6 := Aside0.mk A60
  clear A60
  by_cases c7 : t217 = true
  · subst c7
    have H1 : ((some (([a3, wrap64 ((wrap64 (a4)) - 128)] : List Int) : List Int)).bind fun y218 => (anneallaw1_BitsReckon.l0 k a0 a1 a2 a4 y218 (y218.length : Int) 0)) = some r := by rw [if_pos rfl] at H; exact H
    clear H
    have H := H1
    clear H1
    obtain ⟨y218, hy218⟩ : ∃ y_ : List Int, y_ = (([a3, wrap64 ((wrap64 (a4)) - 128)] : List Int)) := ⟨_, rfl⟩
    replace H : (anneallaw1_BitsReckon.l0 k a0 a1 a2 a4 y218 (y218.length : Int) 0) = some r := by first | (rw [hy218]; with_reducible exact H) | (have H2_ := (Option.bind_some _ _).symm.trans H; rw [hy218]; with_reducible exact H2_) | (have H2_ := (Option.bind_some _ _).symm.trans H; with_reducible exact H2_) | with_reducible exact H | (rw [hy218]; exact H) | exact H
    have Ny218 := Aside0.mk hy218
    clear hy218
    have H' := Aside0.mk H
    clear H
    go_enter Try.func6, Try.ntmps6
    go_wp2_with (first | ((with_reducible refine gate_callee (f := 24) rfl ?_); refine goesL_ (some 23) rfl rfl Try.func24 (by kernel_rfl) rfl #[] rfl (by (try simp only [List.map_toArray, List.map_cons, List.map_nil]); first | done | rfl | (simp only [List.length_drop, List.length_take]; rfl)) ?_; (with_reducible refine (anneallaw1_known.calls k  true _ A6.out).mono ?_); rintro e w' ⟨rfl, ⟨nd, rfl⟩⟩; refine ⟨_, rfl, ?_⟩) | ((with_reducible refine gate_dst (N := 29) rfl ?_); refine Kd.R_lit (Kd.int .i64) _ 3 ?hg (N := 29) ?hd (xs := ([a3, wrap64 ((wrap64 (a4)) - 128)] : List Int)) (inner := [.int .i64 a3, .int .i64 (wrap64 ((wrap64 (a4)) - 128))]) (ok := fun _ => True) (okp := fun _ => True) ?hr ?hp (fun _ hk => hk) trivial (Below.refl _ _) (Nat.le_refl _) (by simp) ?_; (case hd => rfl); (case hg => rfl); (case hr => first | (go_simp; done) | (go_simp; rfl)); (case hp => exact (Reps.one (show Kd.M (Kd.int .i64) _ _ _ a3 [.int .i64 a3] from rfl) (Reps.one (show Kd.M (Kd.int .i64) _ _ _ (wrap64 ((wrap64 (a4)) - 128)) [.int .i64 (wrap64 ((wrap64 (a4)) - 128))] from rfl) (Reps.none _ _)))); intro v219 w8 ho9 hb hg_ hnew_; clear hg_ hnew_; (first | rw [← Ny218.out] at ho9 | (simp only [Int.reduceToNat] at ho9; rw [← Ny218.out] at ho9)); have n0_ := Aside0.mk (Kd.R_lower ho9 (below_size (by repeat (first | (with_reducible first | exact HB.out | apply below_alloc | apply pw_below_drewN | apply below_drew1) | exact HB.out)))); have n1_ := Aside0.mk (below_step (by repeat (first | (with_reducible first | exact HB.out | apply below_alloc | apply pw_below_drewN | apply below_drew1) | exact HB.out)) hb); clear HB; have HO220 := n0_; have HB := n1_; clear n0_ n1_; clear hb ho9; obtain ⟨Ao10, co10, eo10⟩ := Kd.R_slice HO220.out; subst eo10))
    go_loopg [31] k (fun kq v31 w' => ∃ (x31_1 : Int), v31 = .int .i64 x31_1 ∧ Aside0 (anneallaw1_BitsReckon.l0 kq a0 a1 a2 a4 y218 (y218.length : Int) x31_1 = some r) ∧ Aside0 (kq ≤ k) ∧ Aside0 (Kd.R (Kd.int .i64) 3 w' w.heap.size (fun _ => True) (.slice Ao10 y218.length co10) y218) ∧ Aside0 (Below w.heap.size w w'))
    case atStart => exact ⟨(0), (by first | rfl | (simp; done) | (simp [*]; done) | (congr 1; (try unfold wrap64); omega)), H', ⟨Nat.le_refl _⟩, ⟨by (with_reducible repeat (first | apply Kd.R_alloc | apply Kd.R_drewN | apply Kd.R_drew)); exact HO220.out⟩, ⟨by repeat (first | (with_reducible first | exact HB.out | apply below_alloc | apply pw_below_drewN | apply below_drew1) | exact HB.out)⟩⟩
    case round =>
      clear H'
      try clear c2
      try clear p2
      try clear c6
      try clear p6
      try clear c7
      obtain ⟨x31_1, rfl, HA, HK1, HO_29, HB⟩ := hrel
      cases gk with
      | zero => exact absurd HA.out (by simp [anneallaw1_BitsReckon.l0])
      | succ k1 =>
        have H := HA.out
        clear HA
        simp only [anneallaw1_BitsReckon.l0] at H
        by_cases c11 : x31_1 < (y218.length : Int)
        · rw [if_pos c11] at H
          have c11b0 : decide (x31_1 < (y218.length : Int)) = true := decide_eq_true c11
          clear c11
          by_cases c12 : 0 ≤ x31_1
          · rw [if_pos c12] at H
            have c12b0 : decide (0 ≤ x31_1) = true := decide_eq_true c12
            clear c12
            by_cases c13 : x31_1 < (y218.length : Int)
            · rw [if_pos c13] at H
              have c13b0 : decide (x31_1 < (y218.length : Int)) = true := decide_eq_true c13
              clear c13
              replace H := Option.bind_eq_some_iff.mp H
              obtain ⟨t222, A140, H⟩ := H
              replace H : ((annealref1_Rotate.f k1 a2 (rd y218 x31_1)).bind fun t223 => (if t222 = t223 then (anneallaw1_BitsReckon.l0 k1 a0 a1 a2 a4 y218 (y218.length : Int) (wrap64 (x31_1 + 1))) else (some false))) = some r := H
              have A14 := Aside0.mk A140
              clear A140
              replace H := Option.bind_eq_some_iff.mp H
              obtain ⟨t223, A150, H⟩ := H
              replace H : (if t222 = t223 then (anneallaw1_BitsReckon.l0 k1 a0 a1 a2 a4 y218 (y218.length : Int) (wrap64 (x31_1 + 1))) else (some false)) = some r := H
              have A15 := Aside0.mk A150
              clear A150
              by_cases c16 : t222 = t223
              · rw [if_pos c16] at H
                have c16b0 : (t222 == t223) = true := beq_iff_eq.mpr c16
                have c16b1 : (t222 != t223) = false := bne_eq_false_iff_eq.mpr c16
                clear c16
                have H' := Aside0.mk H
                clear H
                have p221 : 0 ≤ (x31_1 : Int) := of_decide_eq_true (by first | (with_reducible assumption) | assumption)
                have q221 : x31_1 < (y218.length : Int) := of_decide_eq_true (by first | (with_reducible assumption) | assumption)
                obtain ⟨ad221, e221, hx221_0⟩ := Kd.at_int (Kd.R_reads' HO_29.out).2.2 x31_1 p221 q221
                cases e221
                replace p221 := eq_true p221
                replace q221 := eq_true q221
                go_wp2_with (first | ((with_reducible refine gate_callee (f := 25) rfl ?_); refine goesL_ (some 37) rfl rfl Try.func25 (by kernel_rfl) rfl #[.int .u32 a2, .int .i64 (rd y218 x31_1)] rfl (by (try simp only [List.map_toArray, List.map_cons, List.map_nil]); first | done | rfl | (simp only [List.length_drop, List.length_take]; rfl)) ?_; (with_reducible refine (bits_Rotate.calls a2 (rd y218 x31_1) t222 _ A14.out).mono ?_); rintro e w' ⟨rfl, ⟨nd, rfl⟩⟩; refine ⟨_, rfl, ?_⟩) | ((with_reducible refine gate_callee (f := 26) rfl ?_); refine goesL_ (some 40) rfl rfl Try.func26 (by kernel_rfl) rfl #[.int .u32 a2, .int .i64 (rd y218 x31_1)] rfl (by (try simp only [List.map_toArray, List.map_cons, List.map_nil]); first | done | rfl | (simp only [List.length_drop, List.length_take]; rfl)) ?_; (with_reducible refine (annealref1_Rotate.calls k1 a2 (rd y218 x31_1) t223 _ A15.out).mono ?_); rintro e w' ⟨rfl, ⟨nd, rfl⟩⟩; refine ⟨_, rfl, ?_⟩))
                go_roundg k1
                case measure => have := HK1.out; omega
                case rel => exact ⟨(wrap64 (x31_1 + 1)), (by first | rfl | (simp; done) | (simp [*]; done) | (congr 1; (try unfold wrap64); omega)), H', ⟨by have := HK1.out; omega⟩, ⟨by (with_reducible repeat (first | apply Kd.R_alloc | apply Kd.R_drewN | apply Kd.R_drew)); exact HO_29.out⟩, ⟨by repeat (first | (with_reducible first | exact HB.out | apply below_alloc | apply pw_below_drewN | apply below_drew1) | exact HB.out)⟩⟩
              · rw [if_neg c16] at H
                have c16b0 : (t222 == t223) = false := beq_eq_false_iff_ne.mpr c16
                have c16b1 : (t222 != t223) = true := bne_iff_ne.mpr c16
                obtain rfl := Option.some.inj H
                have p221 : 0 ≤ (x31_1 : Int) := of_decide_eq_true (by first | (with_reducible assumption) | assumption)
                have q221 : x31_1 < (y218.length : Int) := of_decide_eq_true (by first | (with_reducible assumption) | assumption)
                obtain ⟨ad221, e221, hx221_0⟩ := Kd.at_int (Kd.R_reads' HO_29.out).2.2 x31_1 p221 q221
                cases e221
                replace p221 := eq_true p221
                replace q221 := eq_true q221
                go_wp2_with (first | ((with_reducible refine gate_callee (f := 25) rfl ?_); refine goesL_ (some 37) rfl rfl Try.func25 (by kernel_rfl) rfl #[.int .u32 a2, .int .i64 (rd y218 x31_1)] rfl (by (try simp only [List.map_toArray, List.map_cons, List.map_nil]); first | done | rfl | (simp only [List.length_drop, List.length_take]; rfl)) ?_; (with_reducible refine (bits_Rotate.calls a2 (rd y218 x31_1) t222 _ A14.out).mono ?_); rintro e w' ⟨rfl, ⟨nd, rfl⟩⟩; refine ⟨_, rfl, ?_⟩) | ((with_reducible refine gate_callee (f := 26) rfl ?_); refine goesL_ (some 40) rfl rfl Try.func26 (by kernel_rfl) rfl #[.int .u32 a2, .int .i64 (rd y218 x31_1)] rfl (by (try simp only [List.map_toArray, List.map_cons, List.map_nil]); first | done | rfl | (simp only [List.length_drop, List.length_take]; rfl)) ?_; (with_reducible refine (annealref1_Rotate.calls k1 a2 (rd y218 x31_1) t223 _ A15.out).mono ?_); rintro e w' ⟨rfl, ⟨nd, rfl⟩⟩; refine ⟨_, rfl, ?_⟩))
                go_ret
                exact ⟨by first | rfl | (simp [errW_none, errW_some] <;> rfl) | (simp [*, errW_none, errW_some] <;> rfl), by repeat (first | (with_reducible first | exact HB.out | apply below_alloc | apply pw_below_drewN | apply below_drew1) | exact HB.out)⟩
            · rw [if_neg c13] at H
              exact absurd H (by simp)
          · rw [if_neg c12] at H
            exact absurd H (by simp)
        · rw [if_neg c11] at H
          have c11b0 : decide (x31_1 < (y218.length : Int)) = false := decide_eq_false c11
          clear c11
          replace H := Option.bind_eq_some_iff.mp H
          obtain ⟨⟨t224, t225⟩, A170, H⟩ := H
          replace H : ((annealref1_Product.f a0 a1).bind fun bt226 => (if 0 ≤ (Int.tmod a4 64) then ((some (([a0, shr .u64 a0 (Int.tmod a4 64), IntKind.u64.wrap ((IntKind.u64.wrap (a2)) * (IntKind.u64.wrap (a2))), IntKind.u64.wrap ((IntKind.u64.wrap ((IntKind.u64.wrap (a2)) * (IntKind.u64.wrap (a2)))) - 1), IntKind.u64.wrap ((IntKind.u64.wrap ((IntKind.u64.wrap (a2)) * (IntKind.u64.wrap (a2)))) + 1)] : List Int) : List Int)).bind fun y228 => (anneallaw1_BitsReckon.l1 k1 t224 t225 bt226.1 bt226.2 y228 (y228.length : Int) 0)) else (none))) = some r := H
          have A17 := Aside0.mk A170
          clear A170
          replace H := Option.bind_eq_some_iff.mp H
          obtain ⟨⟨t226, t227⟩, A180, H⟩ := H
          replace H : (if 0 ≤ (Int.tmod a4 64) then ((some (([a0, shr .u64 a0 (Int.tmod a4 64), IntKind.u64.wrap ((IntKind.u64.wrap (a2)) * (IntKind.u64.wrap (a2))), IntKind.u64.wrap ((IntKind.u64.wrap ((IntKind.u64.wrap (a2)) * (IntKind.u64.wrap (a2)))) - 1), IntKind.u64.wrap ((IntKind.u64.wrap ((IntKind.u64.wrap (a2)) * (IntKind.u64.wrap (a2)))) + 1)] : List Int) : List Int)).bind fun y228 => (anneallaw1_BitsReckon.l1 k1 t224 t225 t226 t227 y228 (y228.length : Int) 0)) else (none)) = some r := H
          have A18 := Aside0.mk A180
          clear A180
          obtain ⟨ji19, hji19⟩ : ∃ j_ : Int, (Int.tmod a4 64) = j_ := ⟨_, rfl⟩
          replace H : (if 0 ≤ (ji19) then ((some (([a0, shr .u64 a0 (ji19), IntKind.u64.wrap ((IntKind.u64.wrap (a2)) * (IntKind.u64.wrap (a2))), IntKind.u64.wrap ((IntKind.u64.wrap ((IntKind.u64.wrap (a2)) * (IntKind.u64.wrap (a2)))) - 1), IntKind.u64.wrap ((IntKind.u64.wrap ((IntKind.u64.wrap (a2)) * (IntKind.u64.wrap (a2)))) + 1)] : List Int) : List Int)).bind fun y228 => (anneallaw1_BitsReckon.l1 k1 t224 t225 t226 t227 y228 (y228.length : Int) 0)) else (none)) = some r := by first | (rw [hji19] at H; exact H) | (simp only [hji19] at H ⊢; exact H)
          (try rw [hji19] at A17)
          (try rw [hji19] at A18)
          by_cases c20 : 0 ≤ (ji19)
          · rw [if_pos c20] at H
            have c20b0 := eq_true c20
            have c20b1 : decide (0 ≤ (ji19)) = true := decide_eq_true c20
            clear c20
            obtain ⟨ji21, hji21⟩ : ∃ j_ : Int, (shr .u64 a0 (ji19)) = j_ := ⟨_, rfl⟩
            replace H : ((some (([a0, ji21, IntKind.u64.wrap ((IntKind.u64.wrap (a2)) * (IntKind.u64.wrap (a2))), IntKind.u64.wrap ((IntKind.u64.wrap ((IntKind.u64.wrap (a2)) * (IntKind.u64.wrap (a2)))) - 1), IntKind.u64.wrap ((IntKind.u64.wrap ((IntKind.u64.wrap (a2)) * (IntKind.u64.wrap (a2)))) + 1)] : List Int) : List Int)).bind fun y228 => (anneallaw1_BitsReckon.l1 k1 t224 t225 t226 t227 y228 (y228.length : Int) 0)) = some r := by first | (rw [hji21] at H; exact H) | (simp only [hji21] at H ⊢; exact H)
            (try rw [hji21] at A17)
            (try rw [hji21] at A18)
            have hji21_ : (a0 / 2 ^ min (ji19).toNat 64) = ji21 := hji21
            have hji21z : (ji19) ≤ 64 → (a0 / 2 ^ (ji19).toNat) = ji21 := shr_small hji21
            obtain ⟨y228, hy228⟩ : ∃ y_ : List Int, y_ = (([a0, ji21, IntKind.u64.wrap ((IntKind.u64.wrap (a2)) * (IntKind.u64.wrap (a2))), IntKind.u64.wrap ((IntKind.u64.wrap ((IntKind.u64.wrap (a2)) * (IntKind.u64.wrap (a2)))) - 1), IntKind.u64.wrap ((IntKind.u64.wrap ((IntKind.u64.wrap (a2)) * (IntKind.u64.wrap (a2)))) + 1)] : List Int)) := ⟨_, rfl⟩
            replace H : (anneallaw1_BitsReckon.l1 k1 t224 t225 t226 t227 y228 (y228.length : Int) 0) = some r := by first | (rw [hy228]; with_reducible exact H) | (have H2_ := (Option.bind_some _ _).symm.trans H; rw [hy228]; with_reducible exact H2_) | (have H2_ := (Option.bind_some _ _).symm.trans H; with_reducible exact H2_) | with_reducible exact H | (rw [hy228]; exact H) | exact H
            have Ny228 := Aside0.mk hy228
            clear hy228
            have H' := Aside0.mk H
            clear H
            go_wp2_with (first | ((with_reducible refine gate_callee (f := 27) rfl ?_); refine goesL_ (some 46) rfl rfl Try.func27 (by kernel_rfl) rfl #[.int .u64 a0, .int .u64 a1] rfl (by (try simp only [List.map_toArray, List.map_cons, List.map_nil]); first | done | rfl | (simp only [List.length_drop, List.length_take]; rfl)) ?_; (with_reducible refine (bits_Product.calls a0 a1 t224 t225 _ A17.out).mono ?_); rintro e w' ⟨rfl, ⟨nd, rfl⟩⟩; refine ⟨_, rfl, ?_⟩) | ((with_reducible refine gate_callee (f := 28) rfl ?_); refine goesL_ (some 52) rfl rfl Try.func28 (by kernel_rfl) rfl #[.int .u64 a0, .int .u64 a1] rfl (by (try simp only [List.map_toArray, List.map_cons, List.map_nil]); first | done | rfl | (simp only [List.length_drop, List.length_take]; rfl)) ?_; (with_reducible refine (annealref1_Product.calls a0 a1 t226 t227 _ A18.out).mono ?_); rintro e w' ⟨rfl, ⟨nd, rfl⟩⟩; refine ⟨_, rfl, ?_⟩) | ((with_reducible refine gate_dst (N := 77) rfl ?_); refine Kd.R_lit (Kd.int .u64) _ 22 ?hg (N := 77) ?hd (xs := ([a0, ji21, IntKind.u64.wrap ((IntKind.u64.wrap (a2)) * (IntKind.u64.wrap (a2))), IntKind.u64.wrap ((IntKind.u64.wrap ((IntKind.u64.wrap (a2)) * (IntKind.u64.wrap (a2)))) - 1), IntKind.u64.wrap ((IntKind.u64.wrap ((IntKind.u64.wrap (a2)) * (IntKind.u64.wrap (a2)))) + 1)] : List Int)) (inner := [.int .u64 a0, .int .u64 ji21, .int .u64 (IntKind.u64.wrap ((IntKind.u64.wrap (a2)) * (IntKind.u64.wrap (a2)))), .int .u64 (IntKind.u64.wrap ((IntKind.u64.wrap ((IntKind.u64.wrap (a2)) * (IntKind.u64.wrap (a2)))) - 1)), .int .u64 (IntKind.u64.wrap ((IntKind.u64.wrap ((IntKind.u64.wrap (a2)) * (IntKind.u64.wrap (a2)))) + 1))]) (ok := fun _ => True) (okp := fun _ => True) ?hr ?hp (fun _ hk => hk) trivial (Below.refl _ _) (Nat.le_refl _) (by simp) ?_; (case hd => rfl); (case hg => rfl); (case hr => first | (go_simp; done) | (go_simp; rfl)); (case hp => exact (Reps.one (show Kd.M (Kd.int .u64) _ _ _ a0 [.int .u64 a0] from rfl) (Reps.one (show Kd.M (Kd.int .u64) _ _ _ ji21 [.int .u64 ji21] from rfl) (Reps.one (show Kd.M (Kd.int .u64) _ _ _ (IntKind.u64.wrap ((IntKind.u64.wrap (a2)) * (IntKind.u64.wrap (a2)))) [.int .u64 (IntKind.u64.wrap ((IntKind.u64.wrap (a2)) * (IntKind.u64.wrap (a2))))] from rfl) (Reps.one (show Kd.M (Kd.int .u64) _ _ _ (IntKind.u64.wrap ((IntKind.u64.wrap ((IntKind.u64.wrap (a2)) * (IntKind.u64.wrap (a2)))) - 1)) [.int .u64 (IntKind.u64.wrap ((IntKind.u64.wrap ((IntKind.u64.wrap (a2)) * (IntKind.u64.wrap (a2)))) - 1))] from rfl) (Reps.one (show Kd.M (Kd.int .u64) _ _ _ (IntKind.u64.wrap ((IntKind.u64.wrap ((IntKind.u64.wrap (a2)) * (IntKind.u64.wrap (a2)))) + 1)) [.int .u64 (IntKind.u64.wrap ((IntKind.u64.wrap ((IntKind.u64.wrap (a2)) * (IntKind.u64.wrap (a2)))) + 1))] from rfl) (Reps.none _ _))))))); intro v229 w22 ho23 hb hg_ hnew_; clear hg_ hnew_; (first | rw [← Ny228.out] at ho23 | (simp only [Int.reduceToNat] at ho23; rw [← Ny228.out] at ho23)); have n0_ := Aside0.mk (Kd.R_below (by (with_reducible repeat (first | apply Kd.R_alloc | apply Kd.R_drewN | apply Kd.R_drew)); exact HO_29.out) hb); have n1_ := Aside0.mk (Kd.R_lower ho23 (below_size (by repeat (first | (with_reducible first | exact HB.out | apply below_alloc | apply pw_below_drewN | apply below_drew1) | exact HB.out)))); have n2_ := Aside0.mk (below_step (by repeat (first | (with_reducible first | exact HB.out | apply below_alloc | apply pw_below_drewN | apply below_drew1) | exact HB.out)) hb); clear HO_29; clear HB; have HO_29 := n0_; have HO230 := n1_; have HB := n2_; clear n0_ n1_ n2_; clear hb ho23; obtain ⟨Ao24, co24, eo24⟩ := Kd.R_slice HO230.out; subst eo24))
            go_loopg [79] k1 (fun kq v79 w' => ∃ (x79_2 : Int), v79 = .int .i64 x79_2 ∧ Aside0 (anneallaw1_BitsReckon.l1 kq t224 t225 t226 t227 y228 (y228.length : Int) x79_2 = some r) ∧ Aside0 (kq ≤ k1) ∧ Aside0 (Kd.R (Kd.int .u64) 22 w' w.heap.size (fun _ => True) (.slice Ao24 y228.length co24) y228) ∧ Aside0 (Below w.heap.size w w'))
            case atStart => exact ⟨(0), (by first | rfl | (simp; done) | (simp [*]; done) | (congr 1; (try unfold wrap64); omega)), H', ⟨Nat.le_refl _⟩, ⟨by (with_reducible repeat (first | apply Kd.R_alloc | apply Kd.R_drewN | apply Kd.R_drew)); exact HO230.out⟩, ⟨by repeat (first | (with_reducible first | exact HB.out | apply below_alloc | apply pw_below_drewN | apply below_drew1) | exact HB.out)⟩⟩
            case round =>
              clear H'
              try clear c1
              try clear c2
              try clear p2
              try clear q2
              try clear hx2
              try clear c6
              try clear p6
              try clear c7
              try clear c11
              try clear c11b0
              try clear c12
              try clear c12b0
              try clear c13
              try clear c13b0
              try clear c16
              try clear c16b0
              try clear c16b1
              try clear c20
              try clear c20b0
              try clear c20b1
              try clear p22
              try clear q22
              try clear hx22
              try clear c24
              try clear hx221_0
              try clear p2
              try clear p221
              try clear p6
              try clear q221
              obtain ⟨x79_2, rfl, HA, HK2, HO_77, HB⟩ := hrel
              cases gk with
              | zero => exact absurd HA.out (by simp [anneallaw1_BitsReckon.l1])
              | succ k2 =>
                have H := HA.out
                clear HA
                simp only [anneallaw1_BitsReckon.l1] at H
                by_cases c25 : x79_2 < (y228.length : Int)
                · rw [if_pos c25] at H
                  have c25b0 : decide (x79_2 < (y228.length : Int)) = true := decide_eq_true c25
                  clear c25
                  by_cases c26 : 0 ≤ x79_2
                  · rw [if_pos c26] at H
                    have c26b0 : decide (0 ≤ x79_2) = true := decide_eq_true c26
                    clear c26
                    by_cases c27 : x79_2 < (y228.length : Int)
                    · rw [if_pos c27] at H
                      have c27b0 : decide (x79_2 < (y228.length : Int)) = true := decide_eq_true c27
                      clear c27
                      replace H := Option.bind_eq_some_iff.mp H
                      obtain ⟨⟨t232, t233⟩, A280, H⟩ := H
                      replace H : ((annealref1_Root.f k2 (rd y228 x79_2)).bind fun bt234 => (if t232 = bt234.1 then (if (t233 != bt234.2) = true then (some false) else (anneallaw1_BitsReckon.l1 k2 t224 t225 t226 t227 y228 (y228.length : Int) (wrap64 (x79_2 + 1)))) else (some false))) = some r := H
                      have A28 := Aside0.mk A280
                      clear A280
                      replace H := Option.bind_eq_some_iff.mp H
                      obtain ⟨⟨t234, t235⟩, A290, H⟩ := H
                      replace H : (if t232 = t234 then (if (t233 != t235) = true then (some false) else (anneallaw1_BitsReckon.l1 k2 t224 t225 t226 t227 y228 (y228.length : Int) (wrap64 (x79_2 + 1)))) else (some false)) = some r := H
                      have A29 := Aside0.mk A290
                      clear A290
                      by_cases c30 : t232 = t234
                      · rw [if_pos c30] at H
                        have c30b0 : (t232 == t234) = true := beq_iff_eq.mpr c30
                        have c30b1 : (t232 != t234) = false := bne_eq_false_iff_eq.mpr c30
                        clear c30
                        by_cases c31 : (t233 != t235) = true
                        · rw [if_pos c31] at H
                          have c31b0 : (t233 != t235) = true := c31
                          (try (have c31b1 : decide (t233 = t235) = false := by simpa using c31))
                          (try (have c31b2 : (t233 == t235) = false := by simpa using c31))
                          (try (have c31b3 : ¬ (t233 = t235) := by simpa using c31))
                          clear c31
                          obtain rfl := Option.some.inj H
                          have p231 : 0 ≤ (x79_2 : Int) := of_decide_eq_true (by first | (with_reducible assumption) | assumption)
                          have q231 : x79_2 < (y228.length : Int) := of_decide_eq_true (by first | (with_reducible assumption) | assumption)
                          obtain ⟨ad231, e231, hx231_0⟩ := Kd.at_int (Kd.R_reads' HO_77.out).2.2 x79_2 p231 q231
                          cases e231
                          replace p231 := eq_true p231
                          replace q231 := eq_true q231
                          go_wp2_with (first | ((with_reducible refine gate_callee (f := 29) rfl ?_); refine goesL_ (some 85) rfl rfl Try.func29 (by kernel_rfl) rfl #[.int .u64 (rd y228 x79_2)] rfl (by (try simp only [List.map_toArray, List.map_cons, List.map_nil]); first | done | rfl | (simp only [List.length_drop, List.length_take]; rfl)) ?_; (with_reducible refine (bits_Root.calls k2 (rd y228 x79_2) t232 t233 _ A28.out).mono ?_); rintro e w' ⟨rfl, ⟨nd, rfl⟩⟩; refine ⟨_, rfl, ?_⟩) | ((with_reducible refine gate_callee (f := 30) rfl ?_); refine goesL_ (some 90) rfl rfl Try.func30 (by kernel_rfl) rfl #[.int .u64 (rd y228 x79_2)] rfl (by (try simp only [List.map_toArray, List.map_cons, List.map_nil]); first | done | rfl | (simp only [List.length_drop, List.length_take]; rfl)) ?_; (with_reducible refine (annealref1_Root.calls k2 (rd y228 x79_2) t234 t235 _ A29.out).mono ?_); rintro e w' ⟨rfl, ⟨nd, rfl⟩⟩; refine ⟨_, rfl, ?_⟩))
                          go_ret
                          exact ⟨by first | rfl | (simp [errW_none, errW_some] <;> rfl) | (simp only [← hji19, ← hji21]; first | rfl | (simp [errW_none, errW_some] <;> rfl)) | (simp [*, errW_none, errW_some] <;> rfl), by repeat (first | (with_reducible first | exact HB.out | apply below_alloc | apply pw_below_drewN | apply below_drew1) | exact HB.out)⟩
                        · rw [if_neg c31] at H
                          have c31b0 : (t233 != t235) = false := by simpa using c31
                          (try (have c31b1 : decide (t233 = t235) = true := by simpa using c31))
                          (try (have c31b2 : (t233 == t235) = true := by simpa using c31))
                          clear c31
                          have H' := Aside0.mk H
                          clear H
                          have p231 : 0 ≤ (x79_2 : Int) := of_decide_eq_true (by first | (with_reducible assumption) | assumption)
                          have q231 : x79_2 < (y228.length : Int) := of_decide_eq_true (by first | (with_reducible assumption) | assumption)
                          obtain ⟨ad231, e231, hx231_0⟩ := Kd.at_int (Kd.R_reads' HO_77.out).2.2 x79_2 p231 q231
                          cases e231
                          replace p231 := eq_true p231
                          replace q231 := eq_true q231
                          go_wp2_with (first | ((with_reducible refine gate_callee (f := 29) rfl ?_); refine goesL_ (some 85) rfl rfl Try.func29 (by kernel_rfl) rfl #[.int .u64 (rd y228 x79_2)] rfl (by (try simp only [List.map_toArray, List.map_cons, List.map_nil]); first | done | rfl | (simp only [List.length_drop, List.length_take]; rfl)) ?_; (with_reducible refine (bits_Root.calls k2 (rd y228 x79_2) t232 t233 _ A28.out).mono ?_); rintro e w' ⟨rfl, ⟨nd, rfl⟩⟩; refine ⟨_, rfl, ?_⟩) | ((with_reducible refine gate_callee (f := 30) rfl ?_); refine goesL_ (some 90) rfl rfl Try.func30 (by kernel_rfl) rfl #[.int .u64 (rd y228 x79_2)] rfl (by (try simp only [List.map_toArray, List.map_cons, List.map_nil]); first | done | rfl | (simp only [List.length_drop, List.length_take]; rfl)) ?_; (with_reducible refine (annealref1_Root.calls k2 (rd y228 x79_2) t234 t235 _ A29.out).mono ?_); rintro e w' ⟨rfl, ⟨nd, rfl⟩⟩; refine ⟨_, rfl, ?_⟩))
                          go_roundg k2
                          case measure => have := HK1.out; have := HK2.out; omega
                          case rel => exact ⟨(wrap64 (x79_2 + 1)), (by first | rfl | (simp; done) | (simp [*]; done) | (congr 1; (try unfold wrap64); omega)), H', ⟨by have := HK1.out; have := HK2.out; omega⟩, ⟨by (with_reducible repeat (first | apply Kd.R_alloc | apply Kd.R_drewN | apply Kd.R_drew)); exact HO_77.out⟩, ⟨by repeat (first | (with_reducible first | exact HB.out | apply below_alloc | apply pw_below_drewN | apply below_drew1) | exact HB.out)⟩⟩
                      · rw [if_neg c30] at H
                        have c30b0 : (t232 == t234) = false := beq_eq_false_iff_ne.mpr c30
                        have c30b1 : (t232 != t234) = true := bne_iff_ne.mpr c30
                        obtain rfl := Option.some.inj H
                        have p231 : 0 ≤ (x79_2 : Int) := of_decide_eq_true (by first | (with_reducible assumption) | assumption)
                        have q231 : x79_2 < (y228.length : Int) := of_decide_eq_true (by first | (with_reducible assumption) | assumption)
                        obtain ⟨ad231, e231, hx231_0⟩ := Kd.at_int (Kd.R_reads' HO_77.out).2.2 x79_2 p231 q231
                        cases e231
                        replace p231 := eq_true p231
                        replace q231 := eq_true q231
                        go_wp2_with (first | ((with_reducible refine gate_callee (f := 29) rfl ?_); refine goesL_ (some 85) rfl rfl Try.func29 (by kernel_rfl) rfl #[.int .u64 (rd y228 x79_2)] rfl (by (try simp only [List.map_toArray, List.map_cons, List.map_nil]); first | done | rfl | (simp only [List.length_drop, List.length_take]; rfl)) ?_; (with_reducible refine (bits_Root.calls k2 (rd y228 x79_2) t232 t233 _ A28.out).mono ?_); rintro e w' ⟨rfl, ⟨nd, rfl⟩⟩; refine ⟨_, rfl, ?_⟩) | ((with_reducible refine gate_callee (f := 30) rfl ?_); refine goesL_ (some 90) rfl rfl Try.func30 (by kernel_rfl) rfl #[.int .u64 (rd y228 x79_2)] rfl (by (try simp only [List.map_toArray, List.map_cons, List.map_nil]); first | done | rfl | (simp only [List.length_drop, List.length_take]; rfl)) ?_; (with_reducible refine (annealref1_Root.calls k2 (rd y228 x79_2) t234 t235 _ A29.out).mono ?_); rintro e w' ⟨rfl, ⟨nd, rfl⟩⟩; refine ⟨_, rfl, ?_⟩))
                        go_ret
                        exact ⟨by first | rfl | (simp [errW_none, errW_some] <;> rfl) | (simp only [← hji19, ← hji21]; first | rfl | (simp [errW_none, errW_some] <;> rfl)) | (simp [*, errW_none, errW_some] <;> rfl), by repeat (first | (with_reducible first | exact HB.out | apply below_alloc | apply pw_below_drewN | apply below_drew1) | exact HB.out)⟩
                    · rw [if_neg c27] at H
                      exact absurd H (by simp)
                  · rw [if_neg c26] at H
                    exact absurd H (by simp)
                · rw [if_neg c25] at H
                  have c25b0 : decide (x79_2 < (y228.length : Int)) = false := decide_eq_false c25
                  clear c25
                  by_cases c32 : t224 = t226
                  · rw [if_pos c32] at H
                    have c32b0 : (t224 == t226) = true := beq_iff_eq.mpr c32
                    have c32b1 : (t224 != t226) = false := bne_eq_false_iff_eq.mpr c32
                    clear c32
                    obtain rfl := Option.some.inj H
                    go_wp2
                    go_ret
                    exact ⟨by first | rfl | (simp [errW_none, errW_some] <;> rfl) | (simp only [← hji19, ← hji21]; first | rfl | (simp [errW_none, errW_some] <;> rfl)) | (simp [*, errW_none, errW_some] <;> rfl), by repeat (first | (with_reducible first | exact HB.out | apply below_alloc | apply pw_below_drewN | apply below_drew1) | exact HB.out)⟩
                  · rw [if_neg c32] at H
                    have c32b0 : (t224 == t226) = false := beq_eq_false_iff_ne.mpr c32
                    have c32b1 : (t224 != t226) = true := bne_iff_ne.mpr c32
                    obtain rfl := Option.some.inj H
                    go_wp2
                    go_ret
                    exact ⟨by first | rfl | (simp [errW_none, errW_some] <;> rfl) | (simp only [← hji19, ← hji21]; first | rfl | (simp [errW_none, errW_some] <;> rfl)) | (simp [*, errW_none, errW_some] <;> rfl), by repeat (first | (with_reducible first | exact HB.out | apply below_alloc | apply pw_below_drewN | apply below_drew1) | exact HB.out)⟩
          · rw [if_neg c20] at H
            exact absurd H (by simp)
  · replace c7 := Bool.eq_false_iff.mpr c7
    subst c7
    have H1 : (some false) = some r := by rw [if_neg (show ¬ (false = true) by decide)] at H; exact H
    clear H
    have H := H1
    clear H1
    obtain rfl := Option.some.inj H
    go_enter Try.func6, Try.ntmps6
    go_wp2_with (first | ((with_reducible refine gate_callee (f := 24) rfl ?_); refine goesL_ (some 23) rfl rfl Try.func24 (by kernel_rfl) rfl #[] rfl (by (try simp only [List.map_toArray, List.map_cons, List.map_nil]); first | done | rfl | (simp only [List.length_drop, List.length_take]; rfl)) ?_; (with_reducible refine (anneallaw1_known.calls k  false _ A6.out).mono ?_); rintro e w' ⟨rfl, ⟨nd, rfl⟩⟩; refine ⟨_, rfl, ?_⟩))
    go_ret
    exact ⟨by first | rfl | (simp [errW_none, errW_some] <;> rfl) | (simp [*, errW_none, errW_some] <;> rfl), by repeat (first | (with_reducible first | exact HB.out | apply below_alloc | apply pw_below_drewN | apply below_drew1) | exact HB.out)⟩

/-- THE ONE PURE STATEMENT of anneallaw1_BitsReckon: yours. -/
def anneallaw1_BitsReckon.Pure : Prop := ∀ (a0 : Int) (a1 : Int) (a2 : Int) (a3 : Int) (a4 : Int), (Lit.int .u64 a0).wf = true → (Lit.int .u64 a1).wf = true → (Lit.int .u32 a2).wf = true → (Lit.int .i64 a3).wf = true → (Lit.int .u8 a4).wf = true → ∃ k, anneallaw1_BitsReckon.f k a0 a1 a2 a3 a4 = some true
theorem anneallaw1_BitsReckon.walk (P : anneallaw1_BitsReckon.Pure) (a0 : Int) (a1 : Int) (a2 : Int) (a3 : Int) (a4 : Int) (w : World) (w0 : (Lit.int .u64 a0).wf = true) (w1 : (Lit.int .u64 a1).wf = true) (w2 : (Lit.int .u32 a2).wf = true) (w3 : (Lit.int .i64 a3).wf = true) (w4 : (Lit.int .u8 a4).wf = true) :
    Calls Try.prog 6 #[.int .u64 a0, .int .u64 a1, .int .u32 a2, .int .i64 a3, .int .u8 a4] w fun e w' => e = .returned (.bool true) ∧ Below w.heap.size w w' := by
  obtain ⟨k, h⟩ := P a0 a1 a2 a3 a4 w0 w1 w2 w3 w4
  refine (anneallaw1_BitsReckon.calls k a0 a1 a2 a3 a4 true w h).mono ?_
  rintro e w' ⟨rfl, hd⟩
  exact ⟨rfl, hd⟩

end Go.Proofs.Ytjmihdhclbjaeaa.P
