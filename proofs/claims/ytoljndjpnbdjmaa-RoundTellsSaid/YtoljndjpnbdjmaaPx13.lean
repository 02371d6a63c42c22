-- Printed by a program of this session's out of Lean's print of the translation; Lean checks it.
import Derived.Test.YtoljndjpnbdjmaaPx0
import Derived.Test.YtoljndjpnbdjmaaPx1
import Derived.Test.YtoljndjpnbdjmaaPx7
import Derived.Test.YtoljndjpnbdjmaaPx8
import Derived.Test.YtoljndjpnbdjmaaPx12
namespace Go.Proofs.Ytoljndjpnbdjmaa.P
open Go.RowKit Go.Proofs.YtoljndjpnbdjmaaW.PrintWords Go.Proofs.YtoljndjpnbdjmaaW.PrintLast Go.Proofs.YtoljndjpnbdjmaaW.PrintMore
attribute [local go_sem] max2_int min2_int max_two min_two max_three min_three max_four min_four   -- for this text's walks alone
set_option linter.unusedVariables false
set_option linter.unusedSimpArgs false

attribute [local go_sem high] eqA30
/-! ### anneallaw3_RoundTells: function 3 -/
mutual
def anneallaw3_RoundTells.l0 : Nat → Int → Int → Int → Int → Int → Bool → Bool → List Int → Int → Int → Option (Bool)
  | 0, _, _, _, _, _, _, _, _, _, _ => none
  | k + 1, x1, x2, x3, x4, x5, x6, x7, x34, x35, x36 => if x36 < x35 then (if 0 ≤ x36 then (if x36 < (x34.length : Int) then ((some (([x1, wrap64 (Int.tmod x4 5)] : List Int) : List Int)).bind fun y223 => (anneallaw3_RoundTells.l1 k x1 x2 x3 x4 x5 x6 x7 (rd x34 x36) x34 x35 x36 y223 (y223.length : Int) 0)) else (none)) else (none)) else (some true)
def anneallaw3_RoundTells.l1 : Nat → Int → Int → Int → Int → Int → Bool → Bool → Int → List Int → Int → Int → List Int → Int → Int → Option (Bool)
  | 0, _, _, _, _, _, _, _, _, _, _, _, _, _, _ => none
  | k + 1, x1, x2, x3, x4, x5, x6, x7, x18, x34, x35, x36, x44, x45, x46 => if x46 < x45 then (if 0 ≤ x46 then (if x46 < (x44.length : Int) then ((some (([x2, wrap64 ((wrap64 ((wrap64 (x3)) - 128)) - (wrap64 (Int.tmod x4 64))), wrap64 ((wrap64 (Int.tdiv (wrap64 (x3)) 8)) - 40), (-149), (-24), (-133)] : List Int) : List Int)).bind fun y227 => (anneallaw3_RoundTells.l2 k x1 x2 x3 x4 x5 x6 x7 x18 (rd x44 x46) x34 x35 x36 x44 x45 x46 y227 (y227.length : Int) 0)) else (none)) else (none)) else (anneallaw3_RoundTells.l0 k x1 x2 x3 x4 x5 x6 x7 x34 x35 (wrap64 (x36 + 1)))
def anneallaw3_RoundTells.l2 : Nat → Int → Int → Int → Int → Int → Bool → Bool → Int → Int → List Int → Int → Int → List Int → Int → Int → List Int → Int → Int → Option (Bool)
  | 0, _, _, _, _, _, _, _, _, _, _, _, _, _, _, _, _, _, _ => none
  | k + 1, x1, x2, x3, x4, x5, x6, x7, x18, x20, x34, x35, x36, x44, x45, x46, x62, x63, x64 => if x64 < x63 then (if 0 ≤ x64 then (if x64 < (x62.length : Int) then (if 0 ≤ (Int.tmod x4 64) then ((some (([x5, shr .u64 x5 (Int.tmod x4 64), x5 / 1099511627776, Go.bits .and .u64 x5 7] : List Int) : List Int)).bind fun y231 => (anneallaw3_RoundTells.l3 k x1 x2 x3 x4 x5 x6 x7 x18 x20 (rd x62 x64) x34 x35 x36 x44 x45 x46 x62 x63 x64 y231 (y231.length : Int) 0)) else (none)) else (none)) else (none)) else (anneallaw3_RoundTells.l1 k x1 x2 x3 x4 x5 x6 x7 x18 x34 x35 x36 x44 x45 (wrap64 (x46 + 1)))
def anneallaw3_RoundTells.l3 : Nat → Int → Int → Int → Int → Int → Bool → Bool → Int → Int → Int → List Int → Int → Int → List Int → Int → Int → List Int → Int → Int → List Int → Int → Int → Option (Bool)
  | 0, _, _, _, _, _, _, _, _, _, _, _, _, _, _, _, _, _, _, _, _, _, _ => none
  | k + 1, x1, x2, x3, x4, x5, x6, x7, x18, x20, x22, x34, x35, x36, x44, x45, x46, x62, x63, x64, x77, x78, x79 => if x79 < x78 then (if 0 ≤ x79 then (if x79 < (x77.length : Int) then ((round_Pack.f k x18 x20 x6 x22 (rd x77 x79) x7).bind fun bt235 => ((annealref1_Pack.f k x18 x20 x6 x22 (rd x77 x79) x7).bind fun bt242 => (if bt235.1 = bt242.1 then (if (!(bt235.2.1 == bt242.2.1) || (!(bt235.2.2.1 == bt242.2.2.1) || (!(bt235.2.2.2.1 == bt242.2.2.2.1) || (!(bt235.2.2.2.2.1 == bt242.2.2.2.2.1) || (!(bt235.2.2.2.2.2 == bt242.2.2.2.2.2)))))) = true then (some false) else (anneallaw3_RoundTells.l3 k x1 x2 x3 x4 x5 x6 x7 x18 x20 x22 x34 x35 x36 x44 x45 x46 x62 x63 x64 x77 x78 (wrap64 (x79 + 1)))) else (some false)))) else (none)) else (none)) else (anneallaw3_RoundTells.l2 k x1 x2 x3 x4 x5 x6 x7 x18 x20 x34 x35 x36 x44 x45 x46 x62 x63 (wrap64 (x64 + 1)))
end
def anneallaw3_RoundTells.f (k : Nat) (a0 : Int) (a1 : Int) (a2 : Int) (a3 : Int) (a4 : Int) (a5 : Int) (a6 : Bool) (a7 : Bool) : Option (Bool) := (anneallaw3_known.f k).bind fun t217 => (if t217 = true then ((anneallaw3_form.f a3).bind fun t218 => ((some (([a0, t218] : List Int) : List Int)).bind fun y219 => (anneallaw3_RoundTells.l0 k a1 a2 a3 a4 a5 a6 a7 y219 (y219.length : Int) 0))) else (some false))
theorem anneallaw3_RoundTells.mono_l : ∀ k, (∀ y0 y1 y2 y3 y4 y5 y6 y7 y8 y9, LeO (anneallaw3_RoundTells.l0 k y0 y1 y2 y3 y4 y5 y6 y7 y8 y9) (anneallaw3_RoundTells.l0 (k + 1) y0 y1 y2 y3 y4 y5 y6 y7 y8 y9)) ∧ (∀ y0 y1 y2 y3 y4 y5 y6 y7 y8 y9 y10 y11 y12 y13, LeO (anneallaw3_RoundTells.l1 k y0 y1 y2 y3 y4 y5 y6 y7 y8 y9 y10 y11 y12 y13) (anneallaw3_RoundTells.l1 (k + 1) y0 y1 y2 y3 y4 y5 y6 y7 y8 y9 y10 y11 y12 y13)) ∧ (∀ y0 y1 y2 y3 y4 y5 y6 y7 y8 y9 y10 y11 y12 y13 y14 y15 y16 y17, LeO (anneallaw3_RoundTells.l2 k y0 y1 y2 y3 y4 y5 y6 y7 y8 y9 y10 y11 y12 y13 y14 y15 y16 y17) (anneallaw3_RoundTells.l2 (k + 1) y0 y1 y2 y3 y4 y5 y6 y7 y8 y9 y10 y11 y12 y13 y14 y15 y16 y17)) ∧ (∀ y0 y1 y2 y3 y4 y5 y6 y7 y8 y9 y10 y11 y12 y13 y14 y15 y16 y17 y18 y19 y20 y21, LeO (anneallaw3_RoundTells.l3 k y0 y1 y2 y3 y4 y5 y6 y7 y8 y9 y10 y11 y12 y13 y14 y15 y16 y17 y18 y19 y20 y21) (anneallaw3_RoundTells.l3 (k + 1) y0 y1 y2 y3 y4 y5 y6 y7 y8 y9 y10 y11 y12 y13 y14 y15 y16 y17 y18 y19 y20 y21))
  | 0 => ⟨fun _ _ _ _ _ _ _ _ _ _ r h => by simp [anneallaw3_RoundTells.l0] at h, fun _ _ _ _ _ _ _ _ _ _ _ _ _ _ r h => by simp [anneallaw3_RoundTells.l1] at h, fun _ _ _ _ _ _ _ _ _ _ _ _ _ _ _ _ _ _ r h => by simp [anneallaw3_RoundTells.l2] at h, fun _ _ _ _ _ _ _ _ _ _ _ _ _ _ _ _ _ _ _ _ _ _ r h => by simp [anneallaw3_RoundTells.l3] at h⟩
  | k + 1 => by
    obtain ⟨ih0, ih1, ih2, ih3⟩ := anneallaw3_RoundTells.mono_l k
    refine ⟨?_, ?_, ?_, ?_⟩
    · intro y0 y1 y2 y3 y4 y5 y6 y7 y8 y9
      unfold anneallaw3_RoundTells.l0
      repeat' first
      | (with_reducible exact ih0 _ _ _ _ _ _ _ _ _ _)
      | (with_reducible exact ih1 _ _ _ _ _ _ _ _ _ _ _ _ _ _)
      | (with_reducible exact ih2 _ _ _ _ _ _ _ _ _ _ _ _ _ _ _ _ _ _)
      | (with_reducible exact ih3 _ _ _ _ _ _ _ _ _ _ _ _ _ _ _ _ _ _ _ _ _ _)
      | (with_reducible exact anneallaw3_known.mono _)
      | (with_reducible exact annealref1_Pack.mono _ _ _ _ _ _ _)
      | (with_reducible exact round_Pack.mono _ _ _ _ _ _ _)
      | (with_reducible exact LeO.refl _)
      | (with_reducible exact LeO.none _)
      | (with_reducible refine LeO.ite ?_ ?_)
      | (with_reducible refine LeO.bind ?_ (fun _ => ?_))
      | exact ih0 _ _ _ _ _ _ _ _ _ _
      | exact ih1 _ _ _ _ _ _ _ _ _ _ _ _ _ _
      | exact ih2 _ _ _ _ _ _ _ _ _ _ _ _ _ _ _ _ _ _
      | exact ih3 _ _ _ _ _ _ _ _ _ _ _ _ _ _ _ _ _ _ _ _ _ _
      | exact anneallaw3_known.mono _
      | exact annealref1_Pack.mono _ _ _ _ _ _ _
      | exact round_Pack.mono _ _ _ _ _ _ _
      | exact LeO.none _
      | refine LeO.ite ?_ ?_
      | refine LeO.bind ?_ (fun _ => ?_)
    · intro y0 y1 y2 y3 y4 y5 y6 y7 y8 y9 y10 y11 y12 y13
      unfold anneallaw3_RoundTells.l1
      repeat' first
      | (with_reducible exact ih0 _ _ _ _ _ _ _ _ _ _)
      | (with_reducible exact ih1 _ _ _ _ _ _ _ _ _ _ _ _ _ _)
      | (with_reducible exact ih2 _ _ _ _ _ _ _ _ _ _ _ _ _ _ _ _ _ _)
      | (with_reducible exact ih3 _ _ _ _ _ _ _ _ _ _ _ _ _ _ _ _ _ _ _ _ _ _)
      | (with_reducible exact anneallaw3_known.mono _)
      | (with_reducible exact annealref1_Pack.mono _ _ _ _ _ _ _)
      | (with_reducible exact round_Pack.mono _ _ _ _ _ _ _)
      | (with_reducible exact LeO.refl _)
      | (with_reducible exact LeO.none _)
      | (with_reducible refine LeO.ite ?_ ?_)
      | (with_reducible refine LeO.bind ?_ (fun _ => ?_))
      | exact ih0 _ _ _ _ _ _ _ _ _ _
      | exact ih1 _ _ _ _ _ _ _ _ _ _ _ _ _ _
      | exact ih2 _ _ _ _ _ _ _ _ _ _ _ _ _ _ _ _ _ _
      | exact ih3 _ _ _ _ _ _ _ _ _ _ _ _ _ _ _ _ _ _ _ _ _ _
      | exact anneallaw3_known.mono _
      | exact annealref1_Pack.mono _ _ _ _ _ _ _
      | exact round_Pack.mono _ _ _ _ _ _ _
      | exact LeO.none _
      | refine LeO.ite ?_ ?_
      | refine LeO.bind ?_ (fun _ => ?_)
    · intro y0 y1 y2 y3 y4 y5 y6 y7 y8 y9 y10 y11 y12 y13 y14 y15 y16 y17
      unfold anneallaw3_RoundTells.l2
      repeat' first
      | (with_reducible exact ih0 _ _ _ _ _ _ _ _ _ _)
      | (with_reducible exact ih1 _ _ _ _ _ _ _ _ _ _ _ _ _ _)
      | (with_reducible exact ih2 _ _ _ _ _ _ _ _ _ _ _ _ _ _ _ _ _ _)
      | (with_reducible exact ih3 _ _ _ _ _ _ _ _ _ _ _ _ _ _ _ _ _ _ _ _ _ _)
      | (with_reducible exact anneallaw3_known.mono _)
      | (with_reducible exact annealref1_Pack.mono _ _ _ _ _ _ _)
      | (with_reducible exact round_Pack.mono _ _ _ _ _ _ _)
      | (with_reducible exact LeO.refl _)
      | (with_reducible exact LeO.none _)
      | (with_reducible refine LeO.ite ?_ ?_)
      | (with_reducible refine LeO.bind ?_ (fun _ => ?_))
      | exact ih0 _ _ _ _ _ _ _ _ _ _
      | exact ih1 _ _ _ _ _ _ _ _ _ _ _ _ _ _
      | exact ih2 _ _ _ _ _ _ _ _ _ _ _ _ _ _ _ _ _ _
      | exact ih3 _ _ _ _ _ _ _ _ _ _ _ _ _ _ _ _ _ _ _ _ _ _
      | exact anneallaw3_known.mono _
      | exact annealref1_Pack.mono _ _ _ _ _ _ _
      | exact round_Pack.mono _ _ _ _ _ _ _
      | exact LeO.none _
      | refine LeO.ite ?_ ?_
      | refine LeO.bind ?_ (fun _ => ?_)
    · intro y0 y1 y2 y3 y4 y5 y6 y7 y8 y9 y10 y11 y12 y13 y14 y15 y16 y17 y18 y19 y20 y21
      unfold anneallaw3_RoundTells.l3
      repeat' first
      | (with_reducible exact ih0 _ _ _ _ _ _ _ _ _ _)
      | (with_reducible exact ih1 _ _ _ _ _ _ _ _ _ _ _ _ _ _)
      | (with_reducible exact ih2 _ _ _ _ _ _ _ _ _ _ _ _ _ _ _ _ _ _)
      | (with_reducible exact ih3 _ _ _ _ _ _ _ _ _ _ _ _ _ _ _ _ _ _ _ _ _ _)
      | (with_reducible exact anneallaw3_known.mono _)
      | (with_reducible exact annealref1_Pack.mono _ _ _ _ _ _ _)
      | (with_reducible exact round_Pack.mono _ _ _ _ _ _ _)
      | (with_reducible exact LeO.refl _)
      | (with_reducible exact LeO.none _)
      | (with_reducible refine LeO.ite ?_ ?_)
      | (with_reducible refine LeO.bind ?_ (fun _ => ?_))
      | exact ih0 _ _ _ _ _ _ _ _ _ _
      | exact ih1 _ _ _ _ _ _ _ _ _ _ _ _ _ _
      | exact ih2 _ _ _ _ _ _ _ _ _ _ _ _ _ _ _ _ _ _
      | exact ih3 _ _ _ _ _ _ _ _ _ _ _ _ _ _ _ _ _ _ _ _ _ _
      | exact anneallaw3_known.mono _
      | exact annealref1_Pack.mono _ _ _ _ _ _ _
      | exact round_Pack.mono _ _ _ _ _ _ _
      | exact LeO.none _
      | refine LeO.ite ?_ ?_
      | refine LeO.bind ?_ (fun _ => ?_)
theorem anneallaw3_RoundTells.mono : ∀ a0 a1 a2 a3 a4 a5 a6 a7 k, LeO (anneallaw3_RoundTells.f k a0 a1 a2 a3 a4 a5 a6 a7) (anneallaw3_RoundTells.f (k + 1) a0 a1 a2 a3 a4 a5 a6 a7) := by
  intro a0 a1 a2 a3 a4 a5 a6 a7 k
  obtain ⟨ih0, ih1, ih2, ih3⟩ := anneallaw3_RoundTells.mono_l k
  unfold anneallaw3_RoundTells.f
  repeat' first
      | (with_reducible exact ih0 _ _ _ _ _ _ _ _ _ _)
      | (with_reducible exact ih1 _ _ _ _ _ _ _ _ _ _ _ _ _ _)
      | (with_reducible exact ih2 _ _ _ _ _ _ _ _ _ _ _ _ _ _ _ _ _ _)
      | (with_reducible exact ih3 _ _ _ _ _ _ _ _ _ _ _ _ _ _ _ _ _ _ _ _ _ _)
      | (with_reducible exact anneallaw3_known.mono _)
      | (with_reducible exact annealref1_Pack.mono _ _ _ _ _ _ _)
      | (with_reducible exact round_Pack.mono _ _ _ _ _ _ _)
      | (with_reducible exact LeO.refl _)
      | (with_reducible exact LeO.none _)
      | (with_reducible refine LeO.ite ?_ ?_)
      | (with_reducible refine LeO.bind ?_ (fun _ => ?_))
      | exact ih0 _ _ _ _ _ _ _ _ _ _
      | exact ih1 _ _ _ _ _ _ _ _ _ _ _ _ _ _
      | exact ih2 _ _ _ _ _ _ _ _ _ _ _ _ _ _ _ _ _ _
      | exact ih3 _ _ _ _ _ _ _ _ _ _ _ _ _ _ _ _ _ _ _ _ _ _
      | exact anneallaw3_known.mono _
      | exact annealref1_Pack.mono _ _ _ _ _ _ _
      | exact round_Pack.mono _ _ _ _ _ _ _
      | exact LeO.none _
      | refine LeO.ite ?_ ?_
      | refine LeO.bind ?_ (fun _ => ?_)
set_option maxHeartbeats 8000000 in
set_option maxRecDepth 100000 in
theorem anneallaw3_RoundTells.calls (k : Nat) (a0 : Int) (a1 : Int) (a2 : Int) (a3 : Int) (a4 : Int) (a5 : Int) (a6 : Bool) (a7 : Bool) (r : Bool) (w : World) (h : anneallaw3_RoundTells.f k a0 a1 a2 a3 a4 a5 a6 a7 = some r) :
    Calls Try.prog 3 #[.int .i64 a0, .int .i64 a1, .int .i64 a2, .int .u8 a3, .int .u8 a4, .int .u64 a5, .bool a6, .bool a7] w fun e w' => e = .returned (.bool r) ∧ Below w.heap.size w w' := by
  have hu30 := Try.underlying30
  have HB := Aside0.mk (Below.refl w.heap.size w)
  have H : ((anneallaw3_known.f k).bind fun t217 => (if t217 = true then ((anneallaw3_form.f a3).bind fun t218 => ((some (([a0, t218] : List Int) : List Int)).bind fun y219 => (anneallaw3_RoundTells.l0 k a1 a2 a3 a4 a5 a6 a7 y219 (y219.length : Int) 0))) else (some false))) = some r := h
  clear h
  replace H := Option.bind_eq_some_iff.mp H
  obtain ⟨t217, A90, H⟩ := H
  replace H : (if t217 = true then ((anneallaw3_form.f a3).bind fun t218 => ((some (([a0, t218] : List Int) : List Int)).bind fun y219 => (anneallaw3_RoundTells.l0 k a1 a2 a3 a4 a5 a6 a7 y219 (y219.length : Int) 0))) else (some false)) = some r := H
  have A9 := Aside0.mk A90
  clear A90
  by_cases c10 : t217 = true
  · subst c10
    have H1 : ((anneallaw3_form.f a3).bind fun t218 => ((some (([a0, t218] : List Int) : List Int)).bind fun y219 => (anneallaw3_RoundTells.l0 k a1 a2 a3 a4 a5 a6 a7 y219 (y219.length : Int) 0))) = some r := by rw [if_pos rfl] at H; exact H
    clear H
    have H := H1
    clear H1
    replace H := Option.bind_eq_some_iff.mp H
    obtain ⟨t218, A110, H⟩ := H
    replace H : ((some (([a0, t218] : List Int) : List Int)).bind fun y219 => (anneallaw3_RoundTells.l0 k a1 a2 a3 a4 a5 a6 a7 y219 (y219.length : Int) 0)) = some r := H
    have A11 := Aside0.mk A110
    clear A110
    obtain ⟨y219, hy219⟩ : ∃ y_ : List Int, y_ = (([a0, t218] : List Int)) := ⟨_, rfl⟩
    replace H : (anneallaw3_RoundTells.l0 k a1 a2 a3 a4 a5 a6 a7 y219 (y219.length : Int) 0) = some r := by first | (rw [hy219]; with_reducible exact H) | (have H2_ := (Option.bind_some _ _).symm.trans H; rw [hy219]; with_reducible exact H2_) | (have H2_ := (Option.bind_some _ _).symm.trans H; with_reducible exact H2_) | with_reducible exact H | (rw [hy219]; exact H) | exact H
    have Ny219 := Aside0.mk hy219
    clear hy219
    have H' := Aside0.mk H
    clear H
    go_enter Try.func3, Try.ntmps3
    go_wp2_with (first | ((with_reducible refine gate_callee (f := 15) rfl ?_); refine goesL_ (some 29) rfl rfl Try.func15 (by kernel_rfl) rfl #[] rfl (by (try simp only [List.map_toArray, List.map_cons, List.map_nil]); first | done | rfl | (simp only [List.length_drop, List.length_take]; rfl)) ?_; (with_reducible refine (anneallaw3_known.calls k  true _ A9.out).mono ?_); rintro e w12 ⟨rfl, hb⟩; refine ⟨_, rfl, ?_⟩; have n0_ := Aside0.mk (below_step (by repeat (first | (with_reducible first | exact HB.out | apply below_alloc | apply pw_below_drewN | apply below_drew1) | exact HB.out)) hb); clear HB; have HB := n0_; clear n0_; (try clear hb); (try clear hb2); (try clear hk); (try clear hi)) | ((with_reducible refine gate_callee (f := 16) rfl ?_); refine goesL_ (some 33) rfl rfl Try.func16 (by kernel_rfl) rfl #[.int .u8 a3] rfl (by (try simp only [List.map_toArray, List.map_cons, List.map_nil]); first | done | rfl | (simp only [List.length_drop, List.length_take]; rfl)) ?_; (with_reducible refine (anneallaw3_form.calls a3 t218 _ A11.out).mono ?_); rintro e w13 ⟨rfl, hb⟩; refine ⟨_, rfl, ?_⟩; have n0_ := Aside0.mk (below_step (by repeat (first | (with_reducible first | exact HB.out | apply below_alloc | apply pw_below_drewN | apply below_drew1) | exact HB.out)) hb); clear HB; have HB := n0_; clear n0_; (try clear hb); (try clear hb2); (try clear hk); (try clear hi)) | ((with_reducible refine gate_dst (N := 34) rfl ?_); refine Kd.R_lit (Kd.int .i64) _ 3 ?hg (N := 34) ?hd (xs := ([a0, t218] : List Int)) (inner := [.int .i64 a0, .int .i64 t218]) (ok := fun _ => True) (okp := fun _ => True) ?hr ?hp (fun _ hk => hk) trivial (Below.refl _ _) (Nat.le_refl _) (by simp) ?_; (case hd => rfl); (case hg => rfl); (case hr => first | (go_simp; done) | (go_simp; rfl)); (case hp => exact (Reps.one (show Kd.M (Kd.int .i64) _ _ _ a0 [.int .i64 a0] from rfl) (Reps.one (show Kd.M (Kd.int .i64) _ _ _ t218 [.int .i64 t218] from rfl) (Reps.none _ _)))); intro v220 w14 ho15 hb hg_ hnew_; clear hg_ hnew_; (first | rw [← Ny219.out] at ho15 | (simp only [Int.reduceToNat] at ho15; rw [← Ny219.out] at ho15)); have n0_ := Aside0.mk (Kd.R_lower ho15 (below_size (by repeat (first | (with_reducible first | exact HB.out | apply below_alloc | apply pw_below_drewN | apply below_drew1) | exact HB.out)))); have n1_ := Aside0.mk (below_step (by repeat (first | (with_reducible first | exact HB.out | apply below_alloc | apply pw_below_drewN | apply below_drew1) | exact HB.out)) hb); clear HB; have HO221 := n0_; have HB := n1_; clear n0_ n1_; clear hb ho15; obtain ⟨Ao16, co16, eo16⟩ := Kd.R_slice HO221.out; subst eo16))
    go_loopg [36] k (fun kq v36 w' => ∃ (x36_1 : Int), v36 = .int .i64 x36_1 ∧ Aside0 (anneallaw3_RoundTells.l0 kq a1 a2 a3 a4 a5 a6 a7 y219 (y219.length : Int) x36_1 = some r) ∧ Aside0 (kq ≤ k) ∧ Aside0 (Kd.R (Kd.int .i64) 3 w' w.heap.size (fun _ => True) (.slice Ao16 y219.length co16) y219) ∧ Aside0 (Below w.heap.size w w'))
    case atStart => exact ⟨(0), (by first | rfl | (simp; done) | (simp [*]; done) | (congr 1; (try unfold wrap64); omega)), H', ⟨Nat.le_refl _⟩, ⟨by (with_reducible repeat (first | apply Kd.R_alloc | apply Kd.R_drewN | apply Kd.R_drew)); exact HO221.out⟩, ⟨by repeat (first | (with_reducible first | exact HB.out | apply below_alloc | apply pw_below_drewN | apply below_drew1) | exact HB.out)⟩⟩
    case round =>
      clear H'
      try clear c1
      try clear p2
      try clear c3
      try clear p6
      try clear c10
      try clear c15
      try clear c16
      obtain ⟨x36_1, rfl, HA, HK1, HO_34, HB⟩ := hrel
      cases gk with
      | zero => exact absurd HA.out (by simp [anneallaw3_RoundTells.l0])
      | succ k1 =>
        have H := HA.out
        clear HA
        simp only [anneallaw3_RoundTells.l0] at H
        by_cases c17 : x36_1 < (y219.length : Int)
        · rw [if_pos c17] at H
          have c17b0 : decide (x36_1 < (y219.length : Int)) = true := decide_eq_true c17
          clear c17
          by_cases c18 : 0 ≤ x36_1
          · rw [if_pos c18] at H
            have c18b0 : decide (0 ≤ x36_1) = true := decide_eq_true c18
            clear c18
            by_cases c19 : x36_1 < (y219.length : Int)
            · rw [if_pos c19] at H
              have c19b0 : decide (x36_1 < (y219.length : Int)) = true := decide_eq_true c19
              clear c19
              obtain ⟨y223, hy223⟩ : ∃ y_ : List Int, y_ = (([a1, wrap64 (Int.tmod a4 5)] : List Int)) := ⟨_, rfl⟩
              replace H : (anneallaw3_RoundTells.l1 k1 a1 a2 a3 a4 a5 a6 a7 (rd y219 x36_1) y219 (y219.length : Int) x36_1 y223 (y223.length : Int) 0) = some r := by first | (rw [hy223]; with_reducible exact H) | (have H2_ := (Option.bind_some _ _).symm.trans H; rw [hy223]; with_reducible exact H2_) | (have H2_ := (Option.bind_some _ _).symm.trans H; with_reducible exact H2_) | with_reducible exact H | (rw [hy223]; exact H) | exact H
              have Ny223 := Aside0.mk hy223
              clear hy223
              have H' := Aside0.mk H
              clear H
              have p222 : 0 ≤ (x36_1 : Int) := of_decide_eq_true (by first | (with_reducible assumption) | assumption)
              have q222 : x36_1 < (y219.length : Int) := of_decide_eq_true (by first | (with_reducible assumption) | assumption)
              obtain ⟨ad222, e222, hx222_0⟩ := Kd.at_int (Kd.R_reads' HO_34.out).2.2 x36_1 p222 q222
              cases e222
              replace p222 := eq_true p222
              replace q222 := eq_true q222
              go_wp2_with (first | ((with_reducible refine gate_dst (N := 44) rfl ?_); refine Kd.R_lit (Kd.int .i64) _ 3 ?hg (N := 44) ?hd (xs := ([a1, wrap64 (Int.tmod a4 5)] : List Int)) (inner := [.int .i64 a1, .int .i64 (wrap64 (Int.tmod a4 5))]) (ok := fun _ => True) (okp := fun _ => True) ?hr ?hp (fun _ hk => hk) trivial (Below.refl _ _) (Nat.le_refl _) (by simp) ?_; (case hd => rfl); (case hg => rfl); (case hr => first | (go_simp; done) | (go_simp; rfl)); (case hp => exact (Reps.one (show Kd.M (Kd.int .i64) _ _ _ a1 [.int .i64 a1] from rfl) (Reps.one (show Kd.M (Kd.int .i64) _ _ _ (wrap64 (Int.tmod a4 5)) [.int .i64 (wrap64 (Int.tmod a4 5))] from rfl) (Reps.none _ _)))); intro v224 w20 ho21 hb hg_ hnew_; clear hg_ hnew_; (first | rw [← Ny223.out] at ho21 | (simp only [Int.reduceToNat] at ho21; rw [← Ny223.out] at ho21)); have n0_ := Aside0.mk (Kd.R_elder' (by (with_reducible repeat (first | apply Kd.R_alloc | apply Kd.R_drewN | apply Kd.R_drew)); exact HO_34.out) (Kd.R_base ho21) hb); have n1_ := Aside0.mk (Kd.R_lower (Kd.R_new' ho21 (Kd.R_lt (by (with_reducible repeat (first | apply Kd.R_alloc | apply Kd.R_drewN | apply Kd.R_drew)); exact HO_34.out))) (below_size (by repeat (first | (with_reducible first | exact HB.out | apply below_alloc | apply pw_below_drewN | apply below_drew1) | exact HB.out)))); have n2_ := Aside0.mk (below_step (by repeat (first | (with_reducible first | exact HB.out | apply below_alloc | apply pw_below_drewN | apply below_drew1) | exact HB.out)) hb); clear HO_34; clear HB; have HO_34 := n0_; have HO225 := n1_; have HB := n2_; clear n0_ n1_ n2_; clear hb ho21; obtain ⟨Ao22, co22, eo22⟩ := Kd.R_slice HO225.out; subst eo22))
              go_loopg [46] k1 (fun kq v46 w' => ∃ (x46_2 : Int), v46 = .int .i64 x46_2 ∧ Aside0 (anneallaw3_RoundTells.l1 kq a1 a2 a3 a4 a5 a6 a7 (rd y219 x36_1) y219 (y219.length : Int) x36_1 y223 (y223.length : Int) x46_2 = some r) ∧ Aside0 (kq ≤ k1) ∧ Aside0 (Kd.R (Kd.int .i64) 3 w' w.heap.size (fun k_ => some k_ ≠ ((.slice Ao22 y223.length co22) : Value).ownBlock) (.slice (some ad222) y219.length co16) y219) ∧ Aside0 (Kd.R (Kd.int .i64) 3 w' w.heap.size (fun k_ => some k_ ≠ ((.slice (some ad222) y219.length co16) : Value).ownBlock) (.slice Ao22 y223.length co22) y223) ∧ Aside0 (Below w.heap.size w w'))
              case atStart => exact ⟨(0), (by first | rfl | (simp; done) | (simp [*]; done) | (congr 1; (try unfold wrap64); omega)), H', ⟨Nat.le_refl _⟩, ⟨by (with_reducible repeat (first | apply Kd.R_alloc | apply Kd.R_drewN | apply Kd.R_drew)); exact Kd.R_mono HO_34.out (fun _ hk => hk.2)⟩, ⟨by (with_reducible repeat (first | apply Kd.R_alloc | apply Kd.R_drewN | apply Kd.R_drew)); exact Kd.R_mono HO225.out (fun _ hk => hk.2)⟩, ⟨by repeat (first | (with_reducible first | exact HB.out | apply below_alloc | apply pw_below_drewN | apply below_drew1) | exact HB.out)⟩⟩
              case round =>
                clear H'
                try clear c1
                try clear p2
                try clear q2
                try clear hx2
                try clear c3
                try clear p6
                try clear c10
                try clear c15
                try clear c16
                try clear c17
                try clear c17b0
                try clear c18
                try clear c18b0
                try clear c19
                try clear c19b0
                try clear p22
                try clear q22
                try clear hx22
                try clear hx222_0
                try clear p2
                try clear p222
                try clear p6
                try clear q222
                obtain ⟨x46_2, rfl, HA, HK2, HO_34, HO_44, HB⟩ := hrel
                cases gk with
                | zero => exact absurd HA.out (by simp [anneallaw3_RoundTells.l1])
                | succ k2 =>
                  have H := HA.out
                  clear HA
                  simp only [anneallaw3_RoundTells.l1] at H
                  by_cases c23 : x46_2 < (y223.length : Int)
                  · rw [if_pos c23] at H
                    have c23b0 : decide (x46_2 < (y223.length : Int)) = true := decide_eq_true c23
                    clear c23
                    by_cases c24 : 0 ≤ x46_2
                    · rw [if_pos c24] at H
                      have c24b0 : decide (0 ≤ x46_2) = true := decide_eq_true c24
                      clear c24
                      by_cases c25 : x46_2 < (y223.length : Int)
                      · rw [if_pos c25] at H
                        have c25b0 : decide (x46_2 < (y223.length : Int)) = true := decide_eq_true c25
                        clear c25
                        obtain ⟨y227, hy227⟩ : ∃ y_ : List Int, y_ = (([a2, wrap64 ((wrap64 ((wrap64 (a3)) - 128)) - (wrap64 (Int.tmod a4 64))), wrap64 ((wrap64 (Int.tdiv (wrap64 (a3)) 8)) - 40), (-149), (-24), (-133)] : List Int)) := ⟨_, rfl⟩
                        replace H : (anneallaw3_RoundTells.l2 k2 a1 a2 a3 a4 a5 a6 a7 (rd y219 x36_1) (rd y223 x46_2) y219 (y219.length : Int) x36_1 y223 (y223.length : Int) x46_2 y227 (y227.length : Int) 0) = some r := by first | (rw [hy227]; with_reducible exact H) | (have H2_ := (Option.bind_some _ _).symm.trans H; rw [hy227]; with_reducible exact H2_) | (have H2_ := (Option.bind_some _ _).symm.trans H; with_reducible exact H2_) | with_reducible exact H | (rw [hy227]; exact H) | exact H
                        have Ny227 := Aside0.mk hy227
                        clear hy227
                        have H' := Aside0.mk H
                        clear H
                        have p226 : 0 ≤ (x46_2 : Int) := of_decide_eq_true (by first | (with_reducible assumption) | assumption)
                        have q226 : x46_2 < (y223.length : Int) := of_decide_eq_true (by first | (with_reducible assumption) | assumption)
                        obtain ⟨ad226, e226, hx226_0⟩ := Kd.at_int (Kd.R_reads' HO_44.out).2.2 x46_2 p226 q226
                        cases e226
                        replace p226 := eq_true p226
                        replace q226 := eq_true q226
                        go_wp2_with (first | ((with_reducible refine gate_dst (N := 62) rfl ?_); refine Kd.R_lit (Kd.int .i64) _ 3 ?hg (N := 62) ?hd (xs := ([a2, wrap64 ((wrap64 ((wrap64 (a3)) - 128)) - (wrap64 (Int.tmod a4 64))), wrap64 ((wrap64 (Int.tdiv (wrap64 (a3)) 8)) - 40), (-149), (-24), (-133)] : List Int)) (inner := [.int .i64 a2, .int .i64 (wrap64 ((wrap64 ((wrap64 (a3)) - 128)) - (wrap64 (Int.tmod a4 64)))), .int .i64 (wrap64 ((wrap64 (Int.tdiv (wrap64 (a3)) 8)) - 40)), .int .i64 (-149), .int .i64 (-24), .int .i64 (-133)]) (ok := fun _ => True) (okp := fun _ => True) ?hr ?hp (fun _ hk => hk) trivial (Below.refl _ _) (Nat.le_refl _) (by simp) ?_; (case hd => rfl); (case hg => rfl); (case hr => first | (go_simp; done) | (go_simp; rfl)); (case hp => exact (Reps.one (show Kd.M (Kd.int .i64) _ _ _ a2 [.int .i64 a2] from rfl) (Reps.one (show Kd.M (Kd.int .i64) _ _ _ (wrap64 ((wrap64 ((wrap64 (a3)) - 128)) - (wrap64 (Int.tmod a4 64)))) [.int .i64 (wrap64 ((wrap64 ((wrap64 (a3)) - 128)) - (wrap64 (Int.tmod a4 64))))] from rfl) (Reps.one (show Kd.M (Kd.int .i64) _ _ _ (wrap64 ((wrap64 (Int.tdiv (wrap64 (a3)) 8)) - 40)) [.int .i64 (wrap64 ((wrap64 (Int.tdiv (wrap64 (a3)) 8)) - 40))] from rfl) (Reps.one (show Kd.M (Kd.int .i64) _ _ _ (-149) [.int .i64 (-149)] from rfl) (Reps.one (show Kd.M (Kd.int .i64) _ _ _ (-24) [.int .i64 (-24)] from rfl) (Reps.one (show Kd.M (Kd.int .i64) _ _ _ (-133) [.int .i64 (-133)] from rfl) (Reps.none _ _)))))))); intro v228 w26 ho27 hb hg_ hnew_; clear hg_ hnew_; (first | rw [← Ny227.out] at ho27 | (simp only [Int.reduceToNat] at ho27; rw [← Ny227.out] at ho27)); have n0_ := Aside0.mk (Kd.R_elder' (by (with_reducible repeat (first | apply Kd.R_alloc | apply Kd.R_drewN | apply Kd.R_drew)); exact HO_34.out) (Kd.R_base ho27) hb); have n1_ := Aside0.mk (Kd.R_elder' (by (with_reducible repeat (first | apply Kd.R_alloc | apply Kd.R_drewN | apply Kd.R_drew)); exact HO_44.out) (Kd.R_base ho27) hb); have n2_ := Aside0.mk (Kd.R_lower (Kd.R_new' (Kd.R_new' ho27 (Kd.R_lt (by (with_reducible repeat (first | apply Kd.R_alloc | apply Kd.R_drewN | apply Kd.R_drew)); exact HO_34.out))) (Kd.R_lt (by (with_reducible repeat (first | apply Kd.R_alloc | apply Kd.R_drewN | apply Kd.R_drew)); exact HO_44.out))) (below_size (by repeat (first | (with_reducible first | exact HB.out | apply below_alloc | apply pw_below_drewN | apply below_drew1) | exact HB.out)))); have n3_ := Aside0.mk (below_step (by repeat (first | (with_reducible first | exact HB.out | apply below_alloc | apply pw_below_drewN | apply below_drew1) | exact HB.out)) hb); clear HO_34; clear HO_44; clear HB; have HO_34 := n0_; have HO_44 := n1_; have HO229 := n2_; have HB := n3_; clear n0_ n1_ n2_ n3_; clear hb ho27; obtain ⟨Ao28, co28, eo28⟩ := Kd.R_slice HO229.out; subst eo28))
                        go_loopg [64] k2 (fun kq v64 w' => ∃ (x64_3 : Int), v64 = .int .i64 x64_3 ∧ Aside0 (anneallaw3_RoundTells.l2 kq a1 a2 a3 a4 a5 a6 a7 (rd y219 x36_1) (rd y223 x46_2) y219 (y219.length : Int) x36_1 y223 (y223.length : Int) x46_2 y227 (y227.length : Int) x64_3 = some r) ∧ Aside0 (kq ≤ k2) ∧ Aside0 (Kd.R (Kd.int .i64) 3 w' w.heap.size (fun k_ => some k_ ≠ ((.slice (some ad226) y223.length co22) : Value).ownBlock ∧ some k_ ≠ ((.slice Ao28 y227.length co28) : Value).ownBlock) (.slice (some ad222) y219.length co16) y219) ∧ Aside0 (Kd.R (Kd.int .i64) 3 w' w.heap.size (fun k_ => some k_ ≠ ((.slice (some ad222) y219.length co16) : Value).ownBlock ∧ some k_ ≠ ((.slice Ao28 y227.length co28) : Value).ownBlock) (.slice (some ad226) y223.length co22) y223) ∧ Aside0 (Kd.R (Kd.int .i64) 3 w' w.heap.size (fun k_ => some k_ ≠ ((.slice (some ad222) y219.length co16) : Value).ownBlock ∧ some k_ ≠ ((.slice (some ad226) y223.length co22) : Value).ownBlock) (.slice Ao28 y227.length co28) y227) ∧ Aside0 (Below w.heap.size w w'))
                        case atStart => exact ⟨(0), (by first | rfl | (simp; done) | (simp [*]; done) | (congr 1; (try unfold wrap64); omega)), H', ⟨Nat.le_refl _⟩, ⟨by (with_reducible repeat (first | apply Kd.R_alloc | apply Kd.R_drewN | apply Kd.R_drew)); exact HO_34.out⟩, ⟨by (with_reducible repeat (first | apply Kd.R_alloc | apply Kd.R_drewN | apply Kd.R_drew)); exact HO_44.out⟩, ⟨by (with_reducible repeat (first | apply Kd.R_alloc | apply Kd.R_drewN | apply Kd.R_drew)); exact Kd.R_mono HO229.out (fun _ hk => ⟨hk.1.2, hk.2⟩)⟩, ⟨by repeat (first | (with_reducible first | exact HB.out | apply below_alloc | apply pw_below_drewN | apply below_drew1) | exact HB.out)⟩⟩
                        case round =>
                          clear H'
                          try clear c1
                          try clear c2
                          try clear p2
                          try clear q2
                          try clear hx2
                          try clear c3
                          try clear p6
                          try clear c10
                          try clear c15
                          try clear c16
                          try clear c17
                          try clear c17b0
                          try clear c18
                          try clear c18b0
                          try clear c19
                          try clear c19b0
                          try clear p22
                          try clear q22
                          try clear hx22
                          try clear c23
                          try clear c23b0
                          try clear c24
                          try clear c24b0
                          try clear c25
                          try clear c25b0
                          try clear hx222_0
                          try clear hx226_0
                          try clear p2
                          try clear p22
                          try clear p222
                          try clear p226
                          try clear p6
                          try clear q2
                          try clear q22
                          try clear q222
                          try clear q226
                          obtain ⟨x64_3, rfl, HA, HK3, HO_34, HO_44, HO_62, HB⟩ := hrel
                          cases gk with
                          | zero => exact absurd HA.out (by simp [anneallaw3_RoundTells.l2])
                          | succ k3 =>
                            have H := HA.out
                            clear HA
                            simp only [anneallaw3_RoundTells.l2] at H
                            by_cases c29 : x64_3 < (y227.length : Int)
                            · rw [if_pos c29] at H
                              have c29b0 : decide (x64_3 < (y227.length : Int)) = true := decide_eq_true c29
                              clear c29
                              by_cases c30 : 0 ≤ x64_3
                              · rw [if_pos c30] at H
                                have c30b0 : decide (0 ≤ x64_3) = true := decide_eq_true c30
                                clear c30
                                by_cases c31 : x64_3 < (y227.length : Int)
                                · rw [if_pos c31] at H
                                  have c31b0 : decide (x64_3 < (y227.length : Int)) = true := decide_eq_true c31
                                  clear c31
                                  obtain ⟨ji32, hji32⟩ : ∃ j_ : Int, (Int.tmod a4 64) = j_ := ⟨_, rfl⟩
                                  replace H : (if 0 ≤ (ji32) then ((some (([a5, shr .u64 a5 (ji32), a5 / 1099511627776, Go.bits .and .u64 a5 7] : List Int) : List Int)).bind fun y231 => (anneallaw3_RoundTells.l3 k3 a1 a2 a3 a4 a5 a6 a7 (rd y219 x36_1) (rd y223 x46_2) (rd y227 x64_3) y219 (y219.length : Int) x36_1 y223 (y223.length : Int) x46_2 y227 (y227.length : Int) x64_3 y231 (y231.length : Int) 0)) else (none)) = some r := by first | (rw [hji32] at H; exact H) | (simp only [hji32] at H ⊢; exact H)
                                  by_cases c33 : 0 ≤ (ji32)
                                  · rw [if_pos c33] at H
                                    have c33b0 := eq_true c33
                                    have c33b1 : decide (0 ≤ (ji32)) = true := decide_eq_true c33
                                    clear c33
                                    obtain ⟨ji34, hji34⟩ : ∃ j_ : Int, (shr .u64 a5 (ji32)) = j_ := ⟨_, rfl⟩
                                    replace H : ((some (([a5, ji34, a5 / 1099511627776, Go.bits .and .u64 a5 7] : List Int) : List Int)).bind fun y231 => (anneallaw3_RoundTells.l3 k3 a1 a2 a3 a4 a5 a6 a7 (rd y219 x36_1) (rd y223 x46_2) (rd y227 x64_3) y219 (y219.length : Int) x36_1 y223 (y223.length : Int) x46_2 y227 (y227.length : Int) x64_3 y231 (y231.length : Int) 0)) = some r := by first | (rw [hji34] at H; exact H) | (simp only [hji34] at H ⊢; exact H)
                                    have hji34_ : (a5 / 2 ^ min (ji32).toNat 64) = ji34 := hji34
                                    have hji34z : (ji32) ≤ 64 → (a5 / 2 ^ (ji32).toNat) = ji34 := shr_small hji34
                                    obtain ⟨y231, hy231⟩ : ∃ y_ : List Int, y_ = (([a5, ji34, a5 / 1099511627776, Go.bits .and .u64 a5 7] : List Int)) := ⟨_, rfl⟩
                                    replace H : (anneallaw3_RoundTells.l3 k3 a1 a2 a3 a4 a5 a6 a7 (rd y219 x36_1) (rd y223 x46_2) (rd y227 x64_3) y219 (y219.length : Int) x36_1 y223 (y223.length : Int) x46_2 y227 (y227.length : Int) x64_3 y231 (y231.length : Int) 0) = some r := by first | (rw [hy231]; with_reducible exact H) | (have H2_ := (Option.bind_some _ _).symm.trans H; rw [hy231]; with_reducible exact H2_) | (have H2_ := (Option.bind_some _ _).symm.trans H; with_reducible exact H2_) | with_reducible exact H | (rw [hy231]; exact H) | exact H
                                    have Ny231 := Aside0.mk hy231
                                    clear hy231
                                    have H' := Aside0.mk H
                                    clear H
                                    have p230 : 0 ≤ (x64_3 : Int) := of_decide_eq_true (by first | (with_reducible assumption) | assumption)
                                    have q230 : x64_3 < (y227.length : Int) := of_decide_eq_true (by first | (with_reducible assumption) | assumption)
                                    obtain ⟨ad230, e230, hx230_0⟩ := Kd.at_int (Kd.R_reads' HO_62.out).2.2 x64_3 p230 q230
                                    cases e230
                                    replace p230 := eq_true p230
                                    replace q230 := eq_true q230
                                    go_wp2_with (first | ((with_reducible refine gate_dst (N := 77) rfl ?_); refine Kd.R_lit (Kd.int .u64) _ 22 ?hg (N := 77) ?hd (xs := ([a5, ji34, a5 / 1099511627776, Go.bits .and .u64 a5 7] : List Int)) (inner := [.int .u64 a5, .int .u64 ji34, .int .u64 (a5 / 1099511627776), .int .u64 (Go.bits .and .u64 a5 7)]) (ok := fun _ => True) (okp := fun _ => True) ?hr ?hp (fun _ hk => hk) trivial (Below.refl _ _) (Nat.le_refl _) (by simp) ?_; (case hd => rfl); (case hg => rfl); (case hr => first | (go_simp; done) | (go_simp; rfl)); (case hp => exact (Reps.one (show Kd.M (Kd.int .u64) _ _ _ a5 [.int .u64 a5] from rfl) (Reps.one (show Kd.M (Kd.int .u64) _ _ _ ji34 [.int .u64 ji34] from rfl) (Reps.one (show Kd.M (Kd.int .u64) _ _ _ (a5 / 1099511627776) [.int .u64 (a5 / 1099511627776)] from rfl) (Reps.one (show Kd.M (Kd.int .u64) _ _ _ (Go.bits .and .u64 a5 7) [.int .u64 (Go.bits .and .u64 a5 7)] from rfl) (Reps.none _ _)))))); intro v232 w35 ho36 hb hg_ hnew_; clear hg_ hnew_; (first | rw [← Ny231.out] at ho36 | (simp only [Int.reduceToNat] at ho36; rw [← Ny231.out] at ho36)); have n0_ := Aside0.mk (Kd.R_below (by (with_reducible repeat (first | apply Kd.R_alloc | apply Kd.R_drewN | apply Kd.R_drew)); exact HO_34.out) hb); have n1_ := Aside0.mk (Kd.R_below (by (with_reducible repeat (first | apply Kd.R_alloc | apply Kd.R_drewN | apply Kd.R_drew)); exact HO_44.out) hb); have n2_ := Aside0.mk (Kd.R_below (by (with_reducible repeat (first | apply Kd.R_alloc | apply Kd.R_drewN | apply Kd.R_drew)); exact HO_62.out) hb); have n3_ := Aside0.mk (Kd.R_lower ho36 (below_size (by repeat (first | (with_reducible first | exact HB.out | apply below_alloc | apply pw_below_drewN | apply below_drew1) | exact HB.out)))); have n4_ := Aside0.mk (below_step (by repeat (first | (with_reducible first | exact HB.out | apply below_alloc | apply pw_below_drewN | apply below_drew1) | exact HB.out)) hb); clear HO_34; clear HO_44; clear HO_62; clear HB; have HO_34 := n0_; have HO_44 := n1_; have HO_62 := n2_; have HO233 := n3_; have HB := n4_; clear n0_ n1_ n2_ n3_ n4_; clear hb ho36; obtain ⟨Ao37, co37, eo37⟩ := Kd.R_slice HO233.out; subst eo37))
                                    go_loopg [79] k3 (fun kq v79 w' => ∃ (x79_4 : Int), v79 = .int .i64 x79_4 ∧ Aside0 (anneallaw3_RoundTells.l3 kq a1 a2 a3 a4 a5 a6 a7 (rd y219 x36_1) (rd y223 x46_2) (rd y227 x64_3) y219 (y219.length : Int) x36_1 y223 (y223.length : Int) x46_2 y227 (y227.length : Int) x64_3 y231 (y231.length : Int) x79_4 = some r) ∧ Aside0 (kq ≤ k3) ∧ Aside0 (Kd.R (Kd.int .i64) 3 w' w.heap.size (fun k_ => some k_ ≠ ((.slice (some ad226) y223.length co22) : Value).ownBlock ∧ some k_ ≠ ((.slice (some ad230) y227.length co28) : Value).ownBlock) (.slice (some ad222) y219.length co16) y219) ∧ Aside0 (Kd.R (Kd.int .i64) 3 w' w.heap.size (fun k_ => some k_ ≠ ((.slice (some ad222) y219.length co16) : Value).ownBlock ∧ some k_ ≠ ((.slice (some ad230) y227.length co28) : Value).ownBlock) (.slice (some ad226) y223.length co22) y223) ∧ Aside0 (Kd.R (Kd.int .i64) 3 w' w.heap.size (fun k_ => some k_ ≠ ((.slice (some ad222) y219.length co16) : Value).ownBlock ∧ some k_ ≠ ((.slice (some ad226) y223.length co22) : Value).ownBlock) (.slice (some ad230) y227.length co28) y227) ∧ Aside0 (Kd.R (Kd.int .u64) 22 w' w.heap.size (fun _ => True) (.slice Ao37 y231.length co37) y231) ∧ Aside0 (Below w.heap.size w w'))
                                    case atStart => exact ⟨(0), (by first | rfl | (simp; done) | (simp [*]; done) | (congr 1; (try unfold wrap64); omega)), H', ⟨Nat.le_refl _⟩, ⟨by (with_reducible repeat (first | apply Kd.R_alloc | apply Kd.R_drewN | apply Kd.R_drew)); exact HO_34.out⟩, ⟨by (with_reducible repeat (first | apply Kd.R_alloc | apply Kd.R_drewN | apply Kd.R_drew)); exact HO_44.out⟩, ⟨by (with_reducible repeat (first | apply Kd.R_alloc | apply Kd.R_drewN | apply Kd.R_drew)); exact HO_62.out⟩, ⟨by (with_reducible repeat (first | apply Kd.R_alloc | apply Kd.R_drewN | apply Kd.R_drew)); exact HO233.out⟩, ⟨by repeat (first | (with_reducible first | exact HB.out | apply below_alloc | apply pw_below_drewN | apply below_drew1) | exact HB.out)⟩⟩
                                    case round =>
                                      clear H'
                                      try clear c1
                                      try clear c2
                                      try clear p2
                                      try clear q2
                                      try clear hx2
                                      try clear c3
                                      try clear p6
                                      try clear c10
                                      try clear c15
                                      try clear c16
                                      try clear c17
                                      try clear c17b0
                                      try clear c18
                                      try clear c18b0
                                      try clear c19
                                      try clear c19b0
                                      try clear p22
                                      try clear q22
                                      try clear hx22
                                      try clear c23
                                      try clear c23b0
                                      try clear p23
                                      try clear q23
                                      try clear hx23
                                      try clear c24
                                      try clear c24b0
                                      try clear c25
                                      try clear c25b0
                                      try clear c29
                                      try clear c29b0
                                      try clear c30
                                      try clear c30b0
                                      try clear c31
                                      try clear c31b0
                                      try clear c33
                                      try clear c33b0
                                      try clear c33b1
                                      try clear hx222_0
                                      try clear hx226_0
                                      try clear hx230_0
                                      try clear p2
                                      try clear p22
                                      try clear p222
                                      try clear p226
                                      try clear p230
                                      try clear p6
                                      try clear q2
                                      try clear q22
                                      try clear q222
                                      try clear q226
                                      try clear q230
                                      obtain ⟨x79_4, rfl, HA, HK4, HO_34, HO_44, HO_62, HO_77, HB⟩ := hrel
                                      cases gk with
                                      | zero => exact absurd HA.out (by simp [anneallaw3_RoundTells.l3])
                                      | succ k4 =>
                                        have H := HA.out
                                        clear HA
                                        simp only [anneallaw3_RoundTells.l3] at H
                                        by_cases c38 : x79_4 < (y231.length : Int)
                                        · rw [if_pos c38] at H
                                          have c38b0 : decide (x79_4 < (y231.length : Int)) = true := decide_eq_true c38
                                          clear c38
                                          by_cases c39 : 0 ≤ x79_4
                                          · rw [if_pos c39] at H
                                            have c39b0 : decide (0 ≤ x79_4) = true := decide_eq_true c39
                                            clear c39
                                            by_cases c40 : x79_4 < (y231.length : Int)
                                            · rw [if_pos c40] at H
                                              have c40b0 : decide (x79_4 < (y231.length : Int)) = true := decide_eq_true c40
                                              clear c40
                                              replace H := Option.bind_eq_some_iff.mp H
                                              obtain ⟨⟨t235, t236, t237, t238, t239, t240⟩, A410, H⟩ := H
                                              replace H : ((annealref1_Pack.f k4 (rd y219 x36_1) (rd y223 x46_2) a6 (rd y227 x64_3) (rd y231 x79_4) a7).bind fun bt242 => (if t235 = bt242.1 then (if (!(t236 == bt242.2.1) || (!(t237 == bt242.2.2.1) || (!(t238 == bt242.2.2.2.1) || (!(t239 == bt242.2.2.2.2.1) || (!(t240 == bt242.2.2.2.2.2)))))) = true then (some false) else (anneallaw3_RoundTells.l3 k4 a1 a2 a3 a4 a5 a6 a7 (rd y219 x36_1) (rd y223 x46_2) (rd y227 x64_3) y219 (y219.length : Int) x36_1 y223 (y223.length : Int) x46_2 y227 (y227.length : Int) x64_3 y231 (y231.length : Int) (wrap64 (x79_4 + 1)))) else (some false))) = some r := H
                                              have A41 := Aside0.mk A410
                                              clear A410
                                              replace H := Option.bind_eq_some_iff.mp H
                                              obtain ⟨⟨t242, t243, t244, t245, t246, t247⟩, A420, H⟩ := H
                                              replace H : (if t235 = t242 then (if (!(t236 == t243) || (!(t237 == t244) || (!(t238 == t245) || (!(t239 == t246) || (!(t240 == t247)))))) = true then (some false) else (anneallaw3_RoundTells.l3 k4 a1 a2 a3 a4 a5 a6 a7 (rd y219 x36_1) (rd y223 x46_2) (rd y227 x64_3) y219 (y219.length : Int) x36_1 y223 (y223.length : Int) x46_2 y227 (y227.length : Int) x64_3 y231 (y231.length : Int) (wrap64 (x79_4 + 1)))) else (some false)) = some r := H
                                              have A42 := Aside0.mk A420
                                              clear A420
                                              by_cases c43 : t235 = t242
                                              · rw [if_pos c43] at H
                                                have c43b0 : (t235 == t242) = true := beq_iff_eq.mpr c43
                                                have c43b1 : (t235 != t242) = false := bne_eq_false_iff_eq.mpr c43
                                                clear c43
                                                by_cases c44 : (!(t236 == t243) || (!(t237 == t244) || (!(t238 == t245) || (!(t239 == t246) || (!(t240 == t247)))))) = true
                                                · rw [if_pos c44] at H
                                                  have c44b0 : (!(t236 == t243) || (!(t237 == t244) || (!(t238 == t245) || (!(t239 == t246) || (!(t240 == t247)))))) = true := c44
                                                  clear c44
                                                  obtain rfl := Option.some.inj H
                                                  have p234 : 0 ≤ (x79_4 : Int) := of_decide_eq_true (by first | (with_reducible assumption) | assumption)
                                                  have q234 : x79_4 < (y231.length : Int) := of_decide_eq_true (by first | (with_reducible assumption) | assumption)
                                                  obtain ⟨ad234, e234, hx234_0⟩ := Kd.at_int (Kd.R_reads' HO_77.out).2.2 x79_4 p234 q234
                                                  cases e234
                                                  replace p234 := eq_true p234
                                                  replace q234 := eq_true q234
                                                  go_wp2_with (first | ((with_reducible refine gate_callee (f := 17) rfl ?_); refine goesL_ (some 90) rfl rfl Try.func17 (by kernel_rfl) rfl #[.int .i64 (rd y219 x36_1), .int .i64 (rd y223 x46_2), .bool a6, .int .i64 (rd y227 x64_3), .int .u64 (rd y231 x79_4), .bool a7] rfl (by (try simp only [List.map_toArray, List.map_cons, List.map_nil]); first | done | rfl | (simp only [List.length_drop, List.length_take]; rfl)) ?_; (with_reducible refine (round_Pack.calls k4 (rd y219 x36_1) (rd y223 x46_2) a6 (rd y227 x64_3) (rd y231 x79_4) a7 t235 t236 t237 t238 t239 t240 _ A41.out).mono ?_); rintro e w45 ⟨rfl, hb⟩; refine ⟨_, rfl, ?_⟩; have n0_ := Aside0.mk (Kd.R_below (by (with_reducible repeat (first | apply Kd.R_alloc | apply Kd.R_drewN | apply Kd.R_drew)); exact HO_34.out) hb); have n1_ := Aside0.mk (Kd.R_below (by (with_reducible repeat (first | apply Kd.R_alloc | apply Kd.R_drewN | apply Kd.R_drew)); exact HO_44.out) hb); have n2_ := Aside0.mk (Kd.R_below (by (with_reducible repeat (first | apply Kd.R_alloc | apply Kd.R_drewN | apply Kd.R_drew)); exact HO_62.out) hb); have n3_ := Aside0.mk (Kd.R_below (by (with_reducible repeat (first | apply Kd.R_alloc | apply Kd.R_drewN | apply Kd.R_drew)); exact HO_77.out) hb); have n4_ := Aside0.mk (below_step (by repeat (first | (with_reducible first | exact HB.out | apply below_alloc | apply pw_below_drewN | apply below_drew1) | exact HB.out)) hb); clear HO_34; clear HO_44; clear HO_62; clear HO_77; clear HB; have HO_34 := n0_; have HO_44 := n1_; have HO_62 := n2_; have HO_77 := n3_; have HB := n4_; clear n0_ n1_ n2_ n3_ n4_; (try clear hb); (try clear hb2); (try clear hk); (try clear hi)) | ((with_reducible refine gate_dst (N := 26) rfl ?_); refine box_event ?hg (N := 26) ?hd (cs := #[.bool false, .bool false, .bool false, .bool false, .bool false]) (t := 30) ?hr ?_; (case hd => rfl); (case hg => rfl); (case hr => first | (go_simp; done) | (go_simp; rfl)); intro gb241 hg w46 hbox hb; have n0_ := Aside0.mk (Kd.R_below (by (with_reducible repeat (first | apply Kd.R_alloc | apply Kd.R_drewN | apply Kd.R_drew)); exact HO_34.out) hb); have n1_ := Aside0.mk (Kd.R_below (by (with_reducible repeat (first | apply Kd.R_alloc | apply Kd.R_drewN | apply Kd.R_drew)); exact HO_44.out) hb); have n2_ := Aside0.mk (Kd.R_below (by (with_reducible repeat (first | apply Kd.R_alloc | apply Kd.R_drewN | apply Kd.R_drew)); exact HO_62.out) hb); have n3_ := Aside0.mk (Kd.R_below (by (with_reducible repeat (first | apply Kd.R_alloc | apply Kd.R_drewN | apply Kd.R_drew)); exact HO_77.out) hb); have n4_ := Aside0.mk (below_step (by repeat (first | (with_reducible first | exact HB.out | apply below_alloc | apply pw_below_drewN | apply below_drew1) | exact HB.out)) hb); have n5_ := Aside0.mk (hbox); have n6_ := Aside0.mk ((by rw [hg]; exact (below_size (by repeat (first | (with_reducible first | exact HB.out | apply below_alloc | apply pw_below_drewN | apply below_drew1) | exact HB.out))) : w.heap.size ≤ gb241)); have n7_ := Aside0.mk ((by rw [hg]; exact (below_size (by repeat (first | (with_reducible first | exact HB.out | apply below_alloc | apply pw_below_drewN | apply below_drew1) | exact HB.out))) : w.heap.size ≤ gb241)); clear HO_34; clear HO_44; clear HO_62; clear HO_77; clear HB; have HO_34 := n0_; have HO_44 := n1_; have HO_62 := n2_; have HO_77 := n3_; have HB := n4_; have BK241 := n5_; have GW241 := n6_; have GE241 := n7_; clear n0_ n1_ n2_ n3_ n4_ n5_ n6_ n7_; clear hb hbox hg; have hcz47_0 : w46.cell? ⟨gb241, 0, none⟩ = some (.bool false) := (blk_cell BK241.out 0).trans rfl; have hcz47_1 : w46.cell? ⟨gb241, 1, none⟩ = some (.bool false) := (blk_cell BK241.out 1).trans rfl; have hcz47_2 : w46.cell? ⟨gb241, 2, none⟩ = some (.bool false) := (blk_cell BK241.out 2).trans rfl; have hcz47_3 : w46.cell? ⟨gb241, 3, none⟩ = some (.bool false) := (blk_cell BK241.out 3).trans rfl; have hcz47_4 : w46.cell? ⟨gb241, 4, none⟩ = some (.bool false) := (blk_cell BK241.out 4).trans rfl; have hfz47_0 := blk_frozen BK241.out 0; have hfz47_1 := blk_frozen BK241.out 1; have hfz47_2 := blk_frozen BK241.out 2; have hfz47_3 := blk_frozen BK241.out 3; have hfz47_4 := blk_frozen BK241.out 4) | ((with_reducible refine gate_callee (f := 18) rfl ?_); refine goesL_ (some 100) rfl rfl Try.func18 (by kernel_rfl) rfl #[.int .i64 (rd y219 x36_1), .int .i64 (rd y223 x46_2), .bool a6, .int .i64 (rd y227 x64_3), .int .u64 (rd y231 x79_4), .bool a7] rfl (by (try simp only [List.map_toArray, List.map_cons, List.map_nil]); first | done | rfl | (simp only [List.length_drop, List.length_take]; rfl)) ?_; (with_reducible refine (annealref1_Pack.calls k4 (rd y219 x36_1) (rd y223 x46_2) a6 (rd y227 x64_3) (rd y231 x79_4) a7 t242 t243 t244 t245 t246 t247 _ A42.out).mono ?_); rintro e w48 ⟨rfl, hb⟩; refine ⟨_, rfl, ?_⟩; have n0_ := Aside0.mk (Kd.R_below (by (with_reducible repeat (first | apply Kd.R_alloc | apply Kd.R_drewN | apply Kd.R_drew)); exact (Kd.R_mono (Kd.R_far (p := ⟨gb241, 4, none⟩) (Kd.R_far (p := ⟨gb241, 3, none⟩) (Kd.R_far (p := ⟨gb241, 2, none⟩) (Kd.R_far (p := ⟨gb241, 1, none⟩) (Kd.R_far (p := ⟨gb241, 0, none⟩) (Kd.R_types HO_34.out BK241.out (by decide)) (fun _ hk => hk.2) (.bool t236)) (fun _ hk => hk.2) (.bool t237)) (fun _ hk => hk.2) (.bool t238)) (fun _ hk => hk.2) (.bool t239)) (fun _ hk => hk.2) (.bool t240)) (fun _ h_ => h_.1))) hb); have n1_ := Aside0.mk (Kd.R_below (by (with_reducible repeat (first | apply Kd.R_alloc | apply Kd.R_drewN | apply Kd.R_drew)); exact (Kd.R_mono (Kd.R_far (p := ⟨gb241, 4, none⟩) (Kd.R_far (p := ⟨gb241, 3, none⟩) (Kd.R_far (p := ⟨gb241, 2, none⟩) (Kd.R_far (p := ⟨gb241, 1, none⟩) (Kd.R_far (p := ⟨gb241, 0, none⟩) (Kd.R_types HO_44.out BK241.out (by decide)) (fun _ hk => hk.2) (.bool t236)) (fun _ hk => hk.2) (.bool t237)) (fun _ hk => hk.2) (.bool t238)) (fun _ hk => hk.2) (.bool t239)) (fun _ hk => hk.2) (.bool t240)) (fun _ h_ => h_.1))) hb); have n2_ := Aside0.mk (Kd.R_below (by (with_reducible repeat (first | apply Kd.R_alloc | apply Kd.R_drewN | apply Kd.R_drew)); exact (Kd.R_mono (Kd.R_far (p := ⟨gb241, 4, none⟩) (Kd.R_far (p := ⟨gb241, 3, none⟩) (Kd.R_far (p := ⟨gb241, 2, none⟩) (Kd.R_far (p := ⟨gb241, 1, none⟩) (Kd.R_far (p := ⟨gb241, 0, none⟩) (Kd.R_types HO_62.out BK241.out (by decide)) (fun _ hk => hk.2) (.bool t236)) (fun _ hk => hk.2) (.bool t237)) (fun _ hk => hk.2) (.bool t238)) (fun _ hk => hk.2) (.bool t239)) (fun _ hk => hk.2) (.bool t240)) (fun _ h_ => h_.1))) hb); have n3_ := Aside0.mk (Kd.R_below (by (with_reducible repeat (first | apply Kd.R_alloc | apply Kd.R_drewN | apply Kd.R_drew)); exact (Kd.R_mono (Kd.R_far (p := ⟨gb241, 4, none⟩) (Kd.R_far (p := ⟨gb241, 3, none⟩) (Kd.R_far (p := ⟨gb241, 2, none⟩) (Kd.R_far (p := ⟨gb241, 1, none⟩) (Kd.R_far (p := ⟨gb241, 0, none⟩) (Kd.R_types HO_77.out BK241.out (by decide)) (fun _ hk => hk.2) (.bool t236)) (fun _ hk => hk.2) (.bool t237)) (fun _ hk => hk.2) (.bool t238)) (fun _ hk => hk.2) (.bool t239)) (fun _ hk => hk.2) (.bool t240)) (fun _ h_ => h_.1))) hb); have n4_ := Aside0.mk (blk_below (g := gb241) (o := .cells #[.bool t236, .bool t237, .bool t238, .bool t239, .bool t240] 30 (0, 0)) (by (with_reducible repeat (first | refine blk_drewN ?_ _ | refine blk_drew ?_ | refine blk_alloc ?_ _)); refine blk_put (cs := #[.bool t236, .bool t237, .bool t238, .bool t239, .bool false]) ?_ 4 _ rfl; (with_reducible repeat (first | refine blk_drewN ?_ _ | refine blk_drew ?_ | refine blk_alloc ?_ _)); refine blk_put (cs := #[.bool t236, .bool t237, .bool t238, .bool false, .bool false]) ?_ 3 _ rfl; (with_reducible repeat (first | refine blk_drewN ?_ _ | refine blk_drew ?_ | refine blk_alloc ?_ _)); refine blk_put (cs := #[.bool t236, .bool t237, .bool false, .bool false, .bool false]) ?_ 2 _ rfl; (with_reducible repeat (first | refine blk_drewN ?_ _ | refine blk_drew ?_ | refine blk_alloc ?_ _)); refine blk_put (cs := #[.bool t236, .bool false, .bool false, .bool false, .bool false]) ?_ 1 _ rfl; (with_reducible repeat (first | refine blk_drewN ?_ _ | refine blk_drew ?_ | refine blk_alloc ?_ _)); refine blk_put (cs := #[.bool false, .bool false, .bool false, .bool false, .bool false]) ?_ 0 _ rfl; (with_reducible repeat (first | refine blk_drewN ?_ _ | refine blk_drew ?_ | refine blk_alloc ?_ _)); exact BK241.out) hb); have n5_ := Aside0.mk (below_step (by repeat (first | (with_reducible first | exact HB.out | apply below_alloc | apply pw_below_drewN | apply below_drew1 | refine below_set ?_ GE241.out) | exact HB.out)) hb); clear HO_34; clear HO_44; clear HO_62; clear HO_77; clear BK241; clear HB; have HO_34 := n0_; have HO_44 := n1_; have HO_62 := n2_; have HO_77 := n3_; have BK241 := n4_; have HB := n5_; clear n0_ n1_ n2_ n3_ n4_ n5_; (try clear hb); (try clear hb2); (try clear hk); (try clear hi)) | ((with_reducible refine gate_dst (N := 28) rfl ?_); refine box_event ?hg (N := 28) ?hd (cs := #[.bool false, .bool false, .bool false, .bool false, .bool false]) (t := 30) ?hr ?_; (case hd => rfl); (case hg => rfl); (case hr => first | (go_simp; done) | (go_simp; rfl)); intro gb248 hg w49 hbox hb; have n0_ := Aside0.mk (Kd.R_below (by (with_reducible repeat (first | apply Kd.R_alloc | apply Kd.R_drewN | apply Kd.R_drew)); exact HO_34.out) hb); have n1_ := Aside0.mk (Kd.R_below (by (with_reducible repeat (first | apply Kd.R_alloc | apply Kd.R_drewN | apply Kd.R_drew)); exact HO_44.out) hb); have n2_ := Aside0.mk (Kd.R_below (by (with_reducible repeat (first | apply Kd.R_alloc | apply Kd.R_drewN | apply Kd.R_drew)); exact HO_62.out) hb); have n3_ := Aside0.mk (Kd.R_below (by (with_reducible repeat (first | apply Kd.R_alloc | apply Kd.R_drewN | apply Kd.R_drew)); exact HO_77.out) hb); have n4_ := Aside0.mk (blk_below (g := gb241) (o := .cells #[.bool t236, .bool t237, .bool t238, .bool t239, .bool t240] 30 (0, 0)) (by (with_reducible repeat (first | refine blk_drewN ?_ _ | refine blk_drew ?_ | refine blk_alloc ?_ _)); exact BK241.out) hb); have n5_ := Aside0.mk (below_step (by repeat (first | (with_reducible first | exact HB.out | apply below_alloc | apply pw_below_drewN | apply below_drew1 | refine below_set ?_ GE241.out) | exact HB.out)) hb); have n6_ := Aside0.mk (hbox); have n7_ := Aside0.mk ((by rw [hg]; exact (below_size (by repeat (first | (with_reducible first | exact HB.out | apply below_alloc | apply pw_below_drewN | apply below_drew1 | refine below_set ?_ GE241.out) | exact HB.out))) : w.heap.size ≤ gb248)); have n8_ := Aside0.mk ((by rw [hg]; exact (below_size (by repeat (first | (with_reducible first | exact HB.out | apply below_alloc | apply pw_below_drewN | apply below_drew1 | refine below_set ?_ GE241.out) | exact HB.out))) : w.heap.size ≤ gb248)); have n9_ := Aside0.mk ((by rw [hg]; exact Nat.ne_of_lt (blk_lt (g := gb241) (o := .cells #[.bool t236, .bool t237, .bool t238, .bool t239, .bool t240] 30 (0, 0)) (by (with_reducible repeat (first | refine blk_drewN ?_ _ | refine blk_drew ?_ | refine blk_alloc ?_ _)); exact BK241.out)) : gb241 ≠ gb248)); have n10_ := Aside0.mk ((by rw [hg]; exact Nat.ne_of_gt (blk_lt (g := gb241) (o := .cells #[.bool t236, .bool t237, .bool t238, .bool t239, .bool t240] 30 (0, 0)) (by (with_reducible repeat (first | refine blk_drewN ?_ _ | refine blk_drew ?_ | refine blk_alloc ?_ _)); exact BK241.out)) : gb248 ≠ gb241)); clear HO_34; clear HO_44; clear HO_62; clear HO_77; clear BK241; clear HB; have HO_34 := n0_; have HO_44 := n1_; have HO_62 := n2_; have HO_77 := n3_; have BK241 := n4_; have HB := n5_; have BK248 := n6_; have GW248 := n7_; have GE248 := n8_; have NB241_248 := n9_; have NB248_241 := n10_; clear n0_ n1_ n2_ n3_ n4_ n5_ n6_ n7_ n8_ n9_ n10_; clear hb hbox hg; have hnb50 := NB248_241.out; have hnc50 := NB241_248.out; have hcz51_0 : w49.cell? ⟨gb248, 0, none⟩ = some (.bool false) := (blk_cell BK248.out 0).trans rfl; have hcz51_1 : w49.cell? ⟨gb248, 1, none⟩ = some (.bool false) := (blk_cell BK248.out 1).trans rfl; have hcz51_2 : w49.cell? ⟨gb248, 2, none⟩ = some (.bool false) := (blk_cell BK248.out 2).trans rfl; have hcz51_3 : w49.cell? ⟨gb248, 3, none⟩ = some (.bool false) := (blk_cell BK248.out 3).trans rfl; have hcz51_4 : w49.cell? ⟨gb248, 4, none⟩ = some (.bool false) := (blk_cell BK248.out 4).trans rfl; have hfz51_0 := blk_frozen BK248.out 0; have hfz51_1 := blk_frozen BK248.out 1; have hfz51_2 := blk_frozen BK248.out 2; have hfz51_3 := blk_frozen BK248.out 3; have hfz51_4 := blk_frozen BK248.out 4; have hcz52_0 : w49.cell? ⟨gb241, 0, none⟩ = some (.bool t236) := (blk_cell BK241.out 0).trans rfl; have hcz52_1 : w49.cell? ⟨gb241, 1, none⟩ = some (.bool t237) := (blk_cell BK241.out 1).trans rfl; have hcz52_2 : w49.cell? ⟨gb241, 2, none⟩ = some (.bool t238) := (blk_cell BK241.out 2).trans rfl; have hcz52_3 : w49.cell? ⟨gb241, 3, none⟩ = some (.bool t239) := (blk_cell BK241.out 3).trans rfl; have hcz52_4 : w49.cell? ⟨gb241, 4, none⟩ = some (.bool t240) := (blk_cell BK241.out 4).trans rfl; have hfz52_0 := blk_frozen BK241.out 0; have hfz52_1 := blk_frozen BK241.out 1; have hfz52_2 := blk_frozen BK241.out 2; have hfz52_3 := blk_frozen BK241.out 3; have hfz52_4 := blk_frozen BK241.out 4))
                                                  go_ret
                                                  exact ⟨by first | rfl | (simp [errW_none, errW_some] <;> rfl) | (simp only [← hji32, ← hji34]; first | rfl | (simp [errW_none, errW_some] <;> rfl)) | (simp [*, errW_none, errW_some] <;> rfl), by repeat (first | (with_reducible first | exact HB.out | apply below_alloc | apply pw_below_drewN | apply below_drew1 | refine below_set ?_ GE241.out | refine below_set ?_ GE248.out) | exact HB.out)⟩
                                                · rw [if_neg c44] at H
                                                  have c44b0 : (!(t236 == t243) || (!(t237 == t244) || (!(t238 == t245) || (!(t239 == t246) || (!(t240 == t247)))))) = false := by simpa using c44
                                                  clear c44
                                                  have H' := Aside0.mk H
                                                  clear H
                                                  have p234 : 0 ≤ (x79_4 : Int) := of_decide_eq_true (by first | (with_reducible assumption) | assumption)
                                                  have q234 : x79_4 < (y231.length : Int) := of_decide_eq_true (by first | (with_reducible assumption) | assumption)
                                                  obtain ⟨ad234, e234, hx234_0⟩ := Kd.at_int (Kd.R_reads' HO_77.out).2.2 x79_4 p234 q234
                                                  cases e234
                                                  replace p234 := eq_true p234
                                                  replace q234 := eq_true q234
                                                  go_wp2_with (first | ((with_reducible refine gate_callee (f := 17) rfl ?_); refine goesL_ (some 90) rfl rfl Try.func17 (by kernel_rfl) rfl #[.int .i64 (rd y219 x36_1), .int .i64 (rd y223 x46_2), .bool a6, .int .i64 (rd y227 x64_3), .int .u64 (rd y231 x79_4), .bool a7] rfl (by (try simp only [List.map_toArray, List.map_cons, List.map_nil]); first | done | rfl | (simp only [List.length_drop, List.length_take]; rfl)) ?_; (with_reducible refine (round_Pack.calls k4 (rd y219 x36_1) (rd y223 x46_2) a6 (rd y227 x64_3) (rd y231 x79_4) a7 t235 t236 t237 t238 t239 t240 _ A41.out).mono ?_); rintro e w53 ⟨rfl, hb⟩; refine ⟨_, rfl, ?_⟩; have n0_ := Aside0.mk (Kd.R_below (by (with_reducible repeat (first | apply Kd.R_alloc | apply Kd.R_drewN | apply Kd.R_drew)); exact HO_34.out) hb); have n1_ := Aside0.mk (Kd.R_below (by (with_reducible repeat (first | apply Kd.R_alloc | apply Kd.R_drewN | apply Kd.R_drew)); exact HO_44.out) hb); have n2_ := Aside0.mk (Kd.R_below (by (with_reducible repeat (first | apply Kd.R_alloc | apply Kd.R_drewN | apply Kd.R_drew)); exact HO_62.out) hb); have n3_ := Aside0.mk (Kd.R_below (by (with_reducible repeat (first | apply Kd.R_alloc | apply Kd.R_drewN | apply Kd.R_drew)); exact HO_77.out) hb); have n4_ := Aside0.mk (below_step (by repeat (first | (with_reducible first | exact HB.out | apply below_alloc | apply pw_below_drewN | apply below_drew1) | exact HB.out)) hb); clear HO_34; clear HO_44; clear HO_62; clear HO_77; clear HB; have HO_34 := n0_; have HO_44 := n1_; have HO_62 := n2_; have HO_77 := n3_; have HB := n4_; clear n0_ n1_ n2_ n3_ n4_; (try clear hb); (try clear hb2); (try clear hk); (try clear hi)) | ((with_reducible refine gate_dst (N := 26) rfl ?_); refine box_event ?hg (N := 26) ?hd (cs := #[.bool false, .bool false, .bool false, .bool false, .bool false]) (t := 30) ?hr ?_; (case hd => rfl); (case hg => rfl); (case hr => first | (go_simp; done) | (go_simp; rfl)); intro gb241 hg w54 hbox hb; have n0_ := Aside0.mk (Kd.R_below (by (with_reducible repeat (first | apply Kd.R_alloc | apply Kd.R_drewN | apply Kd.R_drew)); exact HO_34.out) hb); have n1_ := Aside0.mk (Kd.R_below (by (with_reducible repeat (first | apply Kd.R_alloc | apply Kd.R_drewN | apply Kd.R_drew)); exact HO_44.out) hb); have n2_ := Aside0.mk (Kd.R_below (by (with_reducible repeat (first | apply Kd.R_alloc | apply Kd.R_drewN | apply Kd.R_drew)); exact HO_62.out) hb); have n3_ := Aside0.mk (Kd.R_below (by (with_reducible repeat (first | apply Kd.R_alloc | apply Kd.R_drewN | apply Kd.R_drew)); exact HO_77.out) hb); have n4_ := Aside0.mk (below_step (by repeat (first | (with_reducible first | exact HB.out | apply below_alloc | apply pw_below_drewN | apply below_drew1) | exact HB.out)) hb); have n5_ := Aside0.mk (hbox); have n6_ := Aside0.mk ((by rw [hg]; exact (below_size (by repeat (first | (with_reducible first | exact HB.out | apply below_alloc | apply pw_below_drewN | apply below_drew1) | exact HB.out))) : w.heap.size ≤ gb241)); have n7_ := Aside0.mk ((by rw [hg]; exact (below_size (by repeat (first | (with_reducible first | exact HB.out | apply below_alloc | apply pw_below_drewN | apply below_drew1) | exact HB.out))) : w.heap.size ≤ gb241)); clear HO_34; clear HO_44; clear HO_62; clear HO_77; clear HB; have HO_34 := n0_; have HO_44 := n1_; have HO_62 := n2_; have HO_77 := n3_; have HB := n4_; have BK241 := n5_; have GW241 := n6_; have GE241 := n7_; clear n0_ n1_ n2_ n3_ n4_ n5_ n6_ n7_; clear hb hbox hg; have hcz55_0 : w54.cell? ⟨gb241, 0, none⟩ = some (.bool false) := (blk_cell BK241.out 0).trans rfl; have hcz55_1 : w54.cell? ⟨gb241, 1, none⟩ = some (.bool false) := (blk_cell BK241.out 1).trans rfl; have hcz55_2 : w54.cell? ⟨gb241, 2, none⟩ = some (.bool false) := (blk_cell BK241.out 2).trans rfl; have hcz55_3 : w54.cell? ⟨gb241, 3, none⟩ = some (.bool false) := (blk_cell BK241.out 3).trans rfl; have hcz55_4 : w54.cell? ⟨gb241, 4, none⟩ = some (.bool false) := (blk_cell BK241.out 4).trans rfl; have hfz55_0 := blk_frozen BK241.out 0; have hfz55_1 := blk_frozen BK241.out 1; have hfz55_2 := blk_frozen BK241.out 2; have hfz55_3 := blk_frozen BK241.out 3; have hfz55_4 := blk_frozen BK241.out 4) | ((with_reducible refine gate_callee (f := 18) rfl ?_); refine goesL_ (some 100) rfl rfl Try.func18 (by kernel_rfl) rfl #[.int .i64 (rd y219 x36_1), .int .i64 (rd y223 x46_2), .bool a6, .int .i64 (rd y227 x64_3), .int .u64 (rd y231 x79_4), .bool a7] rfl (by (try simp only [List.map_toArray, List.map_cons, List.map_nil]); first | done | rfl | (simp only [List.length_drop, List.length_take]; rfl)) ?_; (with_reducible refine (annealref1_Pack.calls k4 (rd y219 x36_1) (rd y223 x46_2) a6 (rd y227 x64_3) (rd y231 x79_4) a7 t242 t243 t244 t245 t246 t247 _ A42.out).mono ?_); rintro e w56 ⟨rfl, hb⟩; refine ⟨_, rfl, ?_⟩; have n0_ := Aside0.mk (Kd.R_below (by (with_reducible repeat (first | apply Kd.R_alloc | apply Kd.R_drewN | apply Kd.R_drew)); exact (Kd.R_mono (Kd.R_far (p := ⟨gb241, 4, none⟩) (Kd.R_far (p := ⟨gb241, 3, none⟩) (Kd.R_far (p := ⟨gb241, 2, none⟩) (Kd.R_far (p := ⟨gb241, 1, none⟩) (Kd.R_far (p := ⟨gb241, 0, none⟩) (Kd.R_types HO_34.out BK241.out (by decide)) (fun _ hk => hk.2) (.bool t236)) (fun _ hk => hk.2) (.bool t237)) (fun _ hk => hk.2) (.bool t238)) (fun _ hk => hk.2) (.bool t239)) (fun _ hk => hk.2) (.bool t240)) (fun _ h_ => h_.1))) hb); have n1_ := Aside0.mk (Kd.R_below (by (with_reducible repeat (first | apply Kd.R_alloc | apply Kd.R_drewN | apply Kd.R_drew)); exact (Kd.R_mono (Kd.R_far (p := ⟨gb241, 4, none⟩) (Kd.R_far (p := ⟨gb241, 3, none⟩) (Kd.R_far (p := ⟨gb241, 2, none⟩) (Kd.R_far (p := ⟨gb241, 1, none⟩) (Kd.R_far (p := ⟨gb241, 0, none⟩) (Kd.R_types HO_44.out BK241.out (by decide)) (fun _ hk => hk.2) (.bool t236)) (fun _ hk => hk.2) (.bool t237)) (fun _ hk => hk.2) (.bool t238)) (fun _ hk => hk.2) (.bool t239)) (fun _ hk => hk.2) (.bool t240)) (fun _ h_ => h_.1))) hb); have n2_ := Aside0.mk (Kd.R_below (by (with_reducible repeat (first | apply Kd.R_alloc | apply Kd.R_drewN | apply Kd.R_drew)); exact (Kd.R_mono (Kd.R_far (p := ⟨gb241, 4, none⟩) (Kd.R_far (p := ⟨gb241, 3, none⟩) (Kd.R_far (p := ⟨gb241, 2, none⟩) (Kd.R_far (p := ⟨gb241, 1, none⟩) (Kd.R_far (p := ⟨gb241, 0, none⟩) (Kd.R_types HO_62.out BK241.out (by decide)) (fun _ hk => hk.2) (.bool t236)) (fun _ hk => hk.2) (.bool t237)) (fun _ hk => hk.2) (.bool t238)) (fun _ hk => hk.2) (.bool t239)) (fun _ hk => hk.2) (.bool t240)) (fun _ h_ => h_.1))) hb); have n3_ := Aside0.mk (Kd.R_below (by (with_reducible repeat (first | apply Kd.R_alloc | apply Kd.R_drewN | apply Kd.R_drew)); exact (Kd.R_mono (Kd.R_far (p := ⟨gb241, 4, none⟩) (Kd.R_far (p := ⟨gb241, 3, none⟩) (Kd.R_far (p := ⟨gb241, 2, none⟩) (Kd.R_far (p := ⟨gb241, 1, none⟩) (Kd.R_far (p := ⟨gb241, 0, none⟩) (Kd.R_types HO_77.out BK241.out (by decide)) (fun _ hk => hk.2) (.bool t236)) (fun _ hk => hk.2) (.bool t237)) (fun _ hk => hk.2) (.bool t238)) (fun _ hk => hk.2) (.bool t239)) (fun _ hk => hk.2) (.bool t240)) (fun _ h_ => h_.1))) hb); have n4_ := Aside0.mk (blk_below (g := gb241) (o := .cells #[.bool t236, .bool t237, .bool t238, .bool t239, .bool t240] 30 (0, 0)) (by (with_reducible repeat (first | refine blk_drewN ?_ _ | refine blk_drew ?_ | refine blk_alloc ?_ _)); refine blk_put (cs := #[.bool t236, .bool t237, .bool t238, .bool t239, .bool false]) ?_ 4 _ rfl; (with_reducible repeat (first | refine blk_drewN ?_ _ | refine blk_drew ?_ | refine blk_alloc ?_ _)); refine blk_put (cs := #[.bool t236, .bool t237, .bool t238, .bool false, .bool false]) ?_ 3 _ rfl; (with_reducible repeat (first | refine blk_drewN ?_ _ | refine blk_drew ?_ | refine blk_alloc ?_ _)); refine blk_put (cs := #[.bool t236, .bool t237, .bool false, .bool false, .bool false]) ?_ 2 _ rfl; (with_reducible repeat (first | refine blk_drewN ?_ _ | refine blk_drew ?_ | refine blk_alloc ?_ _)); refine blk_put (cs := #[.bool t236, .bool false, .bool false, .bool false, .bool false]) ?_ 1 _ rfl; (with_reducible repeat (first | refine blk_drewN ?_ _ | refine blk_drew ?_ | refine blk_alloc ?_ _)); refine blk_put (cs := #[.bool false, .bool false, .bool false, .bool false, .bool false]) ?_ 0 _ rfl; (with_reducible repeat (first | refine blk_drewN ?_ _ | refine blk_drew ?_ | refine blk_alloc ?_ _)); exact BK241.out) hb); have n5_ := Aside0.mk (below_step (by repeat (first | (with_reducible first | exact HB.out | apply below_alloc | apply pw_below_drewN | apply below_drew1 | refine below_set ?_ GE241.out) | exact HB.out)) hb); clear HO_34; clear HO_44; clear HO_62; clear HO_77; clear BK241; clear HB; have HO_34 := n0_; have HO_44 := n1_; have HO_62 := n2_; have HO_77 := n3_; have BK241 := n4_; have HB := n5_; clear n0_ n1_ n2_ n3_ n4_ n5_; (try clear hb); (try clear hb2); (try clear hk); (try clear hi)) | ((with_reducible refine gate_dst (N := 28) rfl ?_); refine box_event ?hg (N := 28) ?hd (cs := #[.bool false, .bool false, .bool false, .bool false, .bool false]) (t := 30) ?hr ?_; (case hd => rfl); (case hg => rfl); (case hr => first | (go_simp; done) | (go_simp; rfl)); intro gb248 hg w57 hbox hb; have n0_ := Aside0.mk (Kd.R_below (by (with_reducible repeat (first | apply Kd.R_alloc | apply Kd.R_drewN | apply Kd.R_drew)); exact HO_34.out) hb); have n1_ := Aside0.mk (Kd.R_below (by (with_reducible repeat (first | apply Kd.R_alloc | apply Kd.R_drewN | apply Kd.R_drew)); exact HO_44.out) hb); have n2_ := Aside0.mk (Kd.R_below (by (with_reducible repeat (first | apply Kd.R_alloc | apply Kd.R_drewN | apply Kd.R_drew)); exact HO_62.out) hb); have n3_ := Aside0.mk (Kd.R_below (by (with_reducible repeat (first | apply Kd.R_alloc | apply Kd.R_drewN | apply Kd.R_drew)); exact HO_77.out) hb); have n4_ := Aside0.mk (blk_below (g := gb241) (o := .cells #[.bool t236, .bool t237, .bool t238, .bool t239, .bool t240] 30 (0, 0)) (by (with_reducible repeat (first | refine blk_drewN ?_ _ | refine blk_drew ?_ | refine blk_alloc ?_ _)); exact BK241.out) hb); have n5_ := Aside0.mk (below_step (by repeat (first | (with_reducible first | exact HB.out | apply below_alloc | apply pw_below_drewN | apply below_drew1 | refine below_set ?_ GE241.out) | exact HB.out)) hb); have n6_ := Aside0.mk (hbox); have n7_ := Aside0.mk ((by rw [hg]; exact (below_size (by repeat (first | (with_reducible first | exact HB.out | apply below_alloc | apply pw_below_drewN | apply below_drew1 | refine below_set ?_ GE241.out) | exact HB.out))) : w.heap.size ≤ gb248)); have n8_ := Aside0.mk ((by rw [hg]; exact (below_size (by repeat (first | (with_reducible first | exact HB.out | apply below_alloc | apply pw_below_drewN | apply below_drew1 | refine below_set ?_ GE241.out) | exact HB.out))) : w.heap.size ≤ gb248)); have n9_ := Aside0.mk ((by rw [hg]; exact Nat.ne_of_lt (blk_lt (g := gb241) (o := .cells #[.bool t236, .bool t237, .bool t238, .bool t239, .bool t240] 30 (0, 0)) (by (with_reducible repeat (first | refine blk_drewN ?_ _ | refine blk_drew ?_ | refine blk_alloc ?_ _)); exact BK241.out)) : gb241 ≠ gb248)); have n10_ := Aside0.mk ((by rw [hg]; exact Nat.ne_of_gt (blk_lt (g := gb241) (o := .cells #[.bool t236, .bool t237, .bool t238, .bool t239, .bool t240] 30 (0, 0)) (by (with_reducible repeat (first | refine blk_drewN ?_ _ | refine blk_drew ?_ | refine blk_alloc ?_ _)); exact BK241.out)) : gb248 ≠ gb241)); clear HO_34; clear HO_44; clear HO_62; clear HO_77; clear BK241; clear HB; have HO_34 := n0_; have HO_44 := n1_; have HO_62 := n2_; have HO_77 := n3_; have BK241 := n4_; have HB := n5_; have BK248 := n6_; have GW248 := n7_; have GE248 := n8_; have NB241_248 := n9_; have NB248_241 := n10_; clear n0_ n1_ n2_ n3_ n4_ n5_ n6_ n7_ n8_ n9_ n10_; clear hb hbox hg; have hnb58 := NB248_241.out; have hnc58 := NB241_248.out; have hcz59_0 : w57.cell? ⟨gb248, 0, none⟩ = some (.bool false) := (blk_cell BK248.out 0).trans rfl; have hcz59_1 : w57.cell? ⟨gb248, 1, none⟩ = some (.bool false) := (blk_cell BK248.out 1).trans rfl; have hcz59_2 : w57.cell? ⟨gb248, 2, none⟩ = some (.bool false) := (blk_cell BK248.out 2).trans rfl; have hcz59_3 : w57.cell? ⟨gb248, 3, none⟩ = some (.bool false) := (blk_cell BK248.out 3).trans rfl; have hcz59_4 : w57.cell? ⟨gb248, 4, none⟩ = some (.bool false) := (blk_cell BK248.out 4).trans rfl; have hfz59_0 := blk_frozen BK248.out 0; have hfz59_1 := blk_frozen BK248.out 1; have hfz59_2 := blk_frozen BK248.out 2; have hfz59_3 := blk_frozen BK248.out 3; have hfz59_4 := blk_frozen BK248.out 4; have hcz60_0 : w57.cell? ⟨gb241, 0, none⟩ = some (.bool t236) := (blk_cell BK241.out 0).trans rfl; have hcz60_1 : w57.cell? ⟨gb241, 1, none⟩ = some (.bool t237) := (blk_cell BK241.out 1).trans rfl; have hcz60_2 : w57.cell? ⟨gb241, 2, none⟩ = some (.bool t238) := (blk_cell BK241.out 2).trans rfl; have hcz60_3 : w57.cell? ⟨gb241, 3, none⟩ = some (.bool t239) := (blk_cell BK241.out 3).trans rfl; have hcz60_4 : w57.cell? ⟨gb241, 4, none⟩ = some (.bool t240) := (blk_cell BK241.out 4).trans rfl; have hfz60_0 := blk_frozen BK241.out 0; have hfz60_1 := blk_frozen BK241.out 1; have hfz60_2 := blk_frozen BK241.out 2; have hfz60_3 := blk_frozen BK241.out 3; have hfz60_4 := blk_frozen BK241.out 4))
                                                  go_roundg k4
                                                  case measure => have := HK1.out; have := HK2.out; have := HK3.out; have := HK4.out; omega
                                                  case rel => exact ⟨(wrap64 (x79_4 + 1)), (by first | rfl | (simp; done) | (simp [*]; done) | (congr 1; (try unfold wrap64); omega)), H', ⟨by have := HK1.out; have := HK2.out; have := HK3.out; have := HK4.out; omega⟩, ⟨by (with_reducible repeat (first | apply Kd.R_alloc | apply Kd.R_drewN | apply Kd.R_drew)); exact Kd.R_mono (Kd.R_far (p := ⟨gb248, 4, none⟩) (Kd.R_far (p := ⟨gb248, 3, none⟩) (Kd.R_far (p := ⟨gb248, 2, none⟩) (Kd.R_far (p := ⟨gb248, 1, none⟩) (Kd.R_far (p := ⟨gb248, 0, none⟩) (Kd.R_types HO_34.out BK248.out (by decide)) (fun _ hk => hk.2) (.bool t243)) (fun _ hk => hk.2) (.bool t244)) (fun _ hk => hk.2) (.bool t245)) (fun _ hk => hk.2) (.bool t246)) (fun _ hk => hk.2) (.bool t247)) (fun _ hk => ⟨hk.1.1, hk.1.2⟩)⟩, ⟨by (with_reducible repeat (first | apply Kd.R_alloc | apply Kd.R_drewN | apply Kd.R_drew)); exact Kd.R_mono (Kd.R_far (p := ⟨gb248, 4, none⟩) (Kd.R_far (p := ⟨gb248, 3, none⟩) (Kd.R_far (p := ⟨gb248, 2, none⟩) (Kd.R_far (p := ⟨gb248, 1, none⟩) (Kd.R_far (p := ⟨gb248, 0, none⟩) (Kd.R_types HO_44.out BK248.out (by decide)) (fun _ hk => hk.2) (.bool t243)) (fun _ hk => hk.2) (.bool t244)) (fun _ hk => hk.2) (.bool t245)) (fun _ hk => hk.2) (.bool t246)) (fun _ hk => hk.2) (.bool t247)) (fun _ hk => ⟨hk.1.1, hk.1.2⟩)⟩, ⟨by (with_reducible repeat (first | apply Kd.R_alloc | apply Kd.R_drewN | apply Kd.R_drew)); exact Kd.R_mono (Kd.R_far (p := ⟨gb248, 4, none⟩) (Kd.R_far (p := ⟨gb248, 3, none⟩) (Kd.R_far (p := ⟨gb248, 2, none⟩) (Kd.R_far (p := ⟨gb248, 1, none⟩) (Kd.R_far (p := ⟨gb248, 0, none⟩) (Kd.R_types HO_62.out BK248.out (by decide)) (fun _ hk => hk.2) (.bool t243)) (fun _ hk => hk.2) (.bool t244)) (fun _ hk => hk.2) (.bool t245)) (fun _ hk => hk.2) (.bool t246)) (fun _ hk => hk.2) (.bool t247)) (fun _ hk => ⟨hk.1.1, hk.1.2⟩)⟩, ⟨by (with_reducible repeat (first | apply Kd.R_alloc | apply Kd.R_drewN | apply Kd.R_drew)); exact Kd.R_mono (Kd.R_far (p := ⟨gb248, 4, none⟩) (Kd.R_far (p := ⟨gb248, 3, none⟩) (Kd.R_far (p := ⟨gb248, 2, none⟩) (Kd.R_far (p := ⟨gb248, 1, none⟩) (Kd.R_far (p := ⟨gb248, 0, none⟩) (Kd.R_types HO_77.out BK248.out (by decide)) (fun _ hk => hk.2) (.bool t243)) (fun _ hk => hk.2) (.bool t244)) (fun _ hk => hk.2) (.bool t245)) (fun _ hk => hk.2) (.bool t246)) (fun _ hk => hk.2) (.bool t247)) (fun _ hk => trivial)⟩, ⟨by repeat (first | (with_reducible first | exact HB.out | apply below_alloc | apply pw_below_drewN | apply below_drew1 | refine below_set ?_ GE241.out | refine below_set ?_ GE248.out) | exact HB.out)⟩⟩
                                              · rw [if_neg c43] at H
                                                have c43b0 : (t235 == t242) = false := beq_eq_false_iff_ne.mpr c43
                                                have c43b1 : (t235 != t242) = true := bne_iff_ne.mpr c43
                                                obtain rfl := Option.some.inj H
                                                have p234 : 0 ≤ (x79_4 : Int) := of_decide_eq_true (by first | (with_reducible assumption) | assumption)
                                                have q234 : x79_4 < (y231.length : Int) := of_decide_eq_true (by first | (with_reducible assumption) | assumption)
                                                obtain ⟨ad234, e234, hx234_0⟩ := Kd.at_int (Kd.R_reads' HO_77.out).2.2 x79_4 p234 q234
                                                cases e234
                                                replace p234 := eq_true p234
                                                replace q234 := eq_true q234
                                                go_wp2_with (first | ((with_reducible refine gate_callee (f := 17) rfl ?_); refine goesL_ (some 90) rfl rfl Try.func17 (by kernel_rfl) rfl #[.int .i64 (rd y219 x36_1), .int .i64 (rd y223 x46_2), .bool a6, .int .i64 (rd y227 x64_3), .int .u64 (rd y231 x79_4), .bool a7] rfl (by (try simp only [List.map_toArray, List.map_cons, List.map_nil]); first | done | rfl | (simp only [List.length_drop, List.length_take]; rfl)) ?_; (with_reducible refine (round_Pack.calls k4 (rd y219 x36_1) (rd y223 x46_2) a6 (rd y227 x64_3) (rd y231 x79_4) a7 t235 t236 t237 t238 t239 t240 _ A41.out).mono ?_); rintro e w61 ⟨rfl, hb⟩; refine ⟨_, rfl, ?_⟩; have n0_ := Aside0.mk (Kd.R_below (by (with_reducible repeat (first | apply Kd.R_alloc | apply Kd.R_drewN | apply Kd.R_drew)); exact HO_34.out) hb); have n1_ := Aside0.mk (Kd.R_below (by (with_reducible repeat (first | apply Kd.R_alloc | apply Kd.R_drewN | apply Kd.R_drew)); exact HO_44.out) hb); have n2_ := Aside0.mk (Kd.R_below (by (with_reducible repeat (first | apply Kd.R_alloc | apply Kd.R_drewN | apply Kd.R_drew)); exact HO_62.out) hb); have n3_ := Aside0.mk (Kd.R_below (by (with_reducible repeat (first | apply Kd.R_alloc | apply Kd.R_drewN | apply Kd.R_drew)); exact HO_77.out) hb); have n4_ := Aside0.mk (below_step (by repeat (first | (with_reducible first | exact HB.out | apply below_alloc | apply pw_below_drewN | apply below_drew1) | exact HB.out)) hb); clear HO_34; clear HO_44; clear HO_62; clear HO_77; clear HB; have HO_34 := n0_; have HO_44 := n1_; have HO_62 := n2_; have HO_77 := n3_; have HB := n4_; clear n0_ n1_ n2_ n3_ n4_; (try clear hb); (try clear hb2); (try clear hk); (try clear hi)) | ((with_reducible refine gate_dst (N := 26) rfl ?_); refine box_event ?hg (N := 26) ?hd (cs := #[.bool false, .bool false, .bool false, .bool false, .bool false]) (t := 30) ?hr ?_; (case hd => rfl); (case hg => rfl); (case hr => first | (go_simp; done) | (go_simp; rfl)); intro gb241 hg w62 hbox hb; have n0_ := Aside0.mk (Kd.R_below (by (with_reducible repeat (first | apply Kd.R_alloc | apply Kd.R_drewN | apply Kd.R_drew)); exact HO_34.out) hb); have n1_ := Aside0.mk (Kd.R_below (by (with_reducible repeat (first | apply Kd.R_alloc | apply Kd.R_drewN | apply Kd.R_drew)); exact HO_44.out) hb); have n2_ := Aside0.mk (Kd.R_below (by (with_reducible repeat (first | apply Kd.R_alloc | apply Kd.R_drewN | apply Kd.R_drew)); exact HO_62.out) hb); have n3_ := Aside0.mk (Kd.R_below (by (with_reducible repeat (first | apply Kd.R_alloc | apply Kd.R_drewN | apply Kd.R_drew)); exact HO_77.out) hb); have n4_ := Aside0.mk (below_step (by repeat (first | (with_reducible first | exact HB.out | apply below_alloc | apply pw_below_drewN | apply below_drew1) | exact HB.out)) hb); have n5_ := Aside0.mk (hbox); have n6_ := Aside0.mk ((by rw [hg]; exact (below_size (by repeat (first | (with_reducible first | exact HB.out | apply below_alloc | apply pw_below_drewN | apply below_drew1) | exact HB.out))) : w.heap.size ≤ gb241)); have n7_ := Aside0.mk ((by rw [hg]; exact (below_size (by repeat (first | (with_reducible first | exact HB.out | apply below_alloc | apply pw_below_drewN | apply below_drew1) | exact HB.out))) : w.heap.size ≤ gb241)); clear HO_34; clear HO_44; clear HO_62; clear HO_77; clear HB; have HO_34 := n0_; have HO_44 := n1_; have HO_62 := n2_; have HO_77 := n3_; have HB := n4_; have BK241 := n5_; have GW241 := n6_; have GE241 := n7_; clear n0_ n1_ n2_ n3_ n4_ n5_ n6_ n7_; clear hb hbox hg; have hcz63_0 : w62.cell? ⟨gb241, 0, none⟩ = some (.bool false) := (blk_cell BK241.out 0).trans rfl; have hcz63_1 : w62.cell? ⟨gb241, 1, none⟩ = some (.bool false) := (blk_cell BK241.out 1).trans rfl; have hcz63_2 : w62.cell? ⟨gb241, 2, none⟩ = some (.bool false) := (blk_cell BK241.out 2).trans rfl; have hcz63_3 : w62.cell? ⟨gb241, 3, none⟩ = some (.bool false) := (blk_cell BK241.out 3).trans rfl; have hcz63_4 : w62.cell? ⟨gb241, 4, none⟩ = some (.bool false) := (blk_cell BK241.out 4).trans rfl; have hfz63_0 := blk_frozen BK241.out 0; have hfz63_1 := blk_frozen BK241.out 1; have hfz63_2 := blk_frozen BK241.out 2; have hfz63_3 := blk_frozen BK241.out 3; have hfz63_4 := blk_frozen BK241.out 4) | ((with_reducible refine gate_callee (f := 18) rfl ?_); refine goesL_ (some 100) rfl rfl Try.func18 (by kernel_rfl) rfl #[.int .i64 (rd y219 x36_1), .int .i64 (rd y223 x46_2), .bool a6, .int .i64 (rd y227 x64_3), .int .u64 (rd y231 x79_4), .bool a7] rfl (by (try simp only [List.map_toArray, List.map_cons, List.map_nil]); first | done | rfl | (simp only [List.length_drop, List.length_take]; rfl)) ?_; (with_reducible refine (annealref1_Pack.calls k4 (rd y219 x36_1) (rd y223 x46_2) a6 (rd y227 x64_3) (rd y231 x79_4) a7 t242 t243 t244 t245 t246 t247 _ A42.out).mono ?_); rintro e w64 ⟨rfl, hb⟩; refine ⟨_, rfl, ?_⟩; have n0_ := Aside0.mk (Kd.R_below (by (with_reducible repeat (first | apply Kd.R_alloc | apply Kd.R_drewN | apply Kd.R_drew)); exact (Kd.R_mono (Kd.R_far (p := ⟨gb241, 4, none⟩) (Kd.R_far (p := ⟨gb241, 3, none⟩) (Kd.R_far (p := ⟨gb241, 2, none⟩) (Kd.R_far (p := ⟨gb241, 1, none⟩) (Kd.R_far (p := ⟨gb241, 0, none⟩) (Kd.R_types HO_34.out BK241.out (by decide)) (fun _ hk => hk.2) (.bool t236)) (fun _ hk => hk.2) (.bool t237)) (fun _ hk => hk.2) (.bool t238)) (fun _ hk => hk.2) (.bool t239)) (fun _ hk => hk.2) (.bool t240)) (fun _ h_ => h_.1))) hb); have n1_ := Aside0.mk (Kd.R_below (by (with_reducible repeat (first | apply Kd.R_alloc | apply Kd.R_drewN | apply Kd.R_drew)); exact (Kd.R_mono (Kd.R_far (p := ⟨gb241, 4, none⟩) (Kd.R_far (p := ⟨gb241, 3, none⟩) (Kd.R_far (p := ⟨gb241, 2, none⟩) (Kd.R_far (p := ⟨gb241, 1, none⟩) (Kd.R_far (p := ⟨gb241, 0, none⟩) (Kd.R_types HO_44.out BK241.out (by decide)) (fun _ hk => hk.2) (.bool t236)) (fun _ hk => hk.2) (.bool t237)) (fun _ hk => hk.2) (.bool t238)) (fun _ hk => hk.2) (.bool t239)) (fun _ hk => hk.2) (.bool t240)) (fun _ h_ => h_.1))) hb); have n2_ := Aside0.mk (Kd.R_below (by (with_reducible repeat (first | apply Kd.R_alloc | apply Kd.R_drewN | apply Kd.R_drew)); exact (Kd.R_mono (Kd.R_far (p := ⟨gb241, 4, none⟩) (Kd.R_far (p := ⟨gb241, 3, none⟩) (Kd.R_far (p := ⟨gb241, 2, none⟩) (Kd.R_far (p := ⟨gb241, 1, none⟩) (Kd.R_far (p := ⟨gb241, 0, none⟩) (Kd.R_types HO_62.out BK241.out (by decide)) (fun _ hk => hk.2) (.bool t236)) (fun _ hk => hk.2) (.bool t237)) (fun _ hk => hk.2) (.bool t238)) (fun _ hk => hk.2) (.bool t239)) (fun _ hk => hk.2) (.bool t240)) (fun _ h_ => h_.1))) hb); have n3_ := Aside0.mk (Kd.R_below (by (with_reducible repeat (first | apply Kd.R_alloc | apply Kd.R_drewN | apply Kd.R_drew)); exact (Kd.R_mono (Kd.R_far (p := ⟨gb241, 4, none⟩) (Kd.R_far (p := ⟨gb241, 3, none⟩) (Kd.R_far (p := ⟨gb241, 2, none⟩) (Kd.R_far (p := ⟨gb241, 1, none⟩) (Kd.R_far (p := ⟨gb241, 0, none⟩) (Kd.R_types HO_77.out BK241.out (by decide)) (fun _ hk => hk.2) (.bool t236)) (fun _ hk => hk.2) (.bool t237)) (fun _ hk => hk.2) (.bool t238)) (fun _ hk => hk.2) (.bool t239)) (fun _ hk => hk.2) (.bool t240)) (fun _ h_ => h_.1))) hb); have n4_ := Aside0.mk (blk_below (g := gb241) (o := .cells #[.bool t236, .bool t237, .bool t238, .bool t239, .bool t240] 30 (0, 0)) (by (with_reducible repeat (first | refine blk_drewN ?_ _ | refine blk_drew ?_ | refine blk_alloc ?_ _)); refine blk_put (cs := #[.bool t236, .bool t237, .bool t238, .bool t239, .bool false]) ?_ 4 _ rfl; (with_reducible repeat (first | refine blk_drewN ?_ _ | refine blk_drew ?_ | refine blk_alloc ?_ _)); refine blk_put (cs := #[.bool t236, .bool t237, .bool t238, .bool false, .bool false]) ?_ 3 _ rfl; (with_reducible repeat (first | refine blk_drewN ?_ _ | refine blk_drew ?_ | refine blk_alloc ?_ _)); refine blk_put (cs := #[.bool t236, .bool t237, .bool false, .bool false, .bool false]) ?_ 2 _ rfl; (with_reducible repeat (first | refine blk_drewN ?_ _ | refine blk_drew ?_ | refine blk_alloc ?_ _)); refine blk_put (cs := #[.bool t236, .bool false, .bool false, .bool false, .bool false]) ?_ 1 _ rfl; (with_reducible repeat (first | refine blk_drewN ?_ _ | refine blk_drew ?_ | refine blk_alloc ?_ _)); refine blk_put (cs := #[.bool false, .bool false, .bool false, .bool false, .bool false]) ?_ 0 _ rfl; (with_reducible repeat (first | refine blk_drewN ?_ _ | refine blk_drew ?_ | refine blk_alloc ?_ _)); exact BK241.out) hb); have n5_ := Aside0.mk (below_step (by repeat (first | (with_reducible first | exact HB.out | apply below_alloc | apply pw_below_drewN | apply below_drew1 | refine below_set ?_ GE241.out) | exact HB.out)) hb); clear HO_34; clear HO_44; clear HO_62; clear HO_77; clear BK241; clear HB; have HO_34 := n0_; have HO_44 := n1_; have HO_62 := n2_; have HO_77 := n3_; have BK241 := n4_; have HB := n5_; clear n0_ n1_ n2_ n3_ n4_ n5_; (try clear hb); (try clear hb2); (try clear hk); (try clear hi)) | ((with_reducible refine gate_dst (N := 28) rfl ?_); refine box_event ?hg (N := 28) ?hd (cs := #[.bool false, .bool false, .bool false, .bool false, .bool false]) (t := 30) ?hr ?_; (case hd => rfl); (case hg => rfl); (case hr => first | (go_simp; done) | (go_simp; rfl)); intro gb248 hg w65 hbox hb; have n0_ := Aside0.mk (Kd.R_below (by (with_reducible repeat (first | apply Kd.R_alloc | apply Kd.R_drewN | apply Kd.R_drew)); exact HO_34.out) hb); have n1_ := Aside0.mk (Kd.R_below (by (with_reducible repeat (first | apply Kd.R_alloc | apply Kd.R_drewN | apply Kd.R_drew)); exact HO_44.out) hb); have n2_ := Aside0.mk (Kd.R_below (by (with_reducible repeat (first | apply Kd.R_alloc | apply Kd.R_drewN | apply Kd.R_drew)); exact HO_62.out) hb); have n3_ := Aside0.mk (Kd.R_below (by (with_reducible repeat (first | apply Kd.R_alloc | apply Kd.R_drewN | apply Kd.R_drew)); exact HO_77.out) hb); have n4_ := Aside0.mk (blk_below (g := gb241) (o := .cells #[.bool t236, .bool t237, .bool t238, .bool t239, .bool t240] 30 (0, 0)) (by (with_reducible repeat (first | refine blk_drewN ?_ _ | refine blk_drew ?_ | refine blk_alloc ?_ _)); exact BK241.out) hb); have n5_ := Aside0.mk (below_step (by repeat (first | (with_reducible first | exact HB.out | apply below_alloc | apply pw_below_drewN | apply below_drew1 | refine below_set ?_ GE241.out) | exact HB.out)) hb); have n6_ := Aside0.mk (hbox); have n7_ := Aside0.mk ((by rw [hg]; exact (below_size (by repeat (first | (with_reducible first | exact HB.out | apply below_alloc | apply pw_below_drewN | apply below_drew1 | refine below_set ?_ GE241.out) | exact HB.out))) : w.heap.size ≤ gb248)); have n8_ := Aside0.mk ((by rw [hg]; exact (below_size (by repeat (first | (with_reducible first | exact HB.out | apply below_alloc | apply pw_below_drewN | apply below_drew1 | refine below_set ?_ GE241.out) | exact HB.out))) : w.heap.size ≤ gb248)); have n9_ := Aside0.mk ((by rw [hg]; exact Nat.ne_of_lt (blk_lt (g := gb241) (o := .cells #[.bool t236, .bool t237, .bool t238, .bool t239, .bool t240] 30 (0, 0)) (by (with_reducible repeat (first | refine blk_drewN ?_ _ | refine blk_drew ?_ | refine blk_alloc ?_ _)); exact BK241.out)) : gb241 ≠ gb248)); have n10_ := Aside0.mk ((by rw [hg]; exact Nat.ne_of_gt (blk_lt (g := gb241) (o := .cells #[.bool t236, .bool t237, .bool t238, .bool t239, .bool t240] 30 (0, 0)) (by (with_reducible repeat (first | refine blk_drewN ?_ _ | refine blk_drew ?_ | refine blk_alloc ?_ _)); exact BK241.out)) : gb248 ≠ gb241)); clear HO_34; clear HO_44; clear HO_62; clear HO_77; clear BK241; clear HB; have HO_34 := n0_; have HO_44 := n1_; have HO_62 := n2_; have HO_77 := n3_; have BK241 := n4_; have HB := n5_; have BK248 := n6_; have GW248 := n7_; have GE248 := n8_; have NB241_248 := n9_; have NB248_241 := n10_; clear n0_ n1_ n2_ n3_ n4_ n5_ n6_ n7_ n8_ n9_ n10_; clear hb hbox hg; have hnb66 := NB248_241.out; have hnc66 := NB241_248.out; have hcz67_0 : w65.cell? ⟨gb248, 0, none⟩ = some (.bool false) := (blk_cell BK248.out 0).trans rfl; have hcz67_1 : w65.cell? ⟨gb248, 1, none⟩ = some (.bool false) := (blk_cell BK248.out 1).trans rfl; have hcz67_2 : w65.cell? ⟨gb248, 2, none⟩ = some (.bool false) := (blk_cell BK248.out 2).trans rfl; have hcz67_3 : w65.cell? ⟨gb248, 3, none⟩ = some (.bool false) := (blk_cell BK248.out 3).trans rfl; have hcz67_4 : w65.cell? ⟨gb248, 4, none⟩ = some (.bool false) := (blk_cell BK248.out 4).trans rfl; have hfz67_0 := blk_frozen BK248.out 0; have hfz67_1 := blk_frozen BK248.out 1; have hfz67_2 := blk_frozen BK248.out 2; have hfz67_3 := blk_frozen BK248.out 3; have hfz67_4 := blk_frozen BK248.out 4))
                                                go_ret
                                                exact ⟨by first | rfl | (simp [errW_none, errW_some] <;> rfl) | (simp only [← hji32, ← hji34]; first | rfl | (simp [errW_none, errW_some] <;> rfl)) | (simp [*, errW_none, errW_some] <;> rfl), by repeat (first | (with_reducible first | exact HB.out | apply below_alloc | apply pw_below_drewN | apply below_drew1 | refine below_set ?_ GE241.out | refine below_set ?_ GE248.out) | exact HB.out)⟩
                                            · rw [if_neg c40] at H
                                              exact absurd H (by simp)
                                          · rw [if_neg c39] at H
                                            exact absurd H (by simp)
                                        · rw [if_neg c38] at H
                                          have c38b0 : decide (x79_4 < (y231.length : Int)) = false := decide_eq_false c38
                                          clear c38
                                          have H' := Aside0.mk H
                                          clear H
                                          go_wp2
                                          (try subst hji34)
                                          (try subst hji32)
                                          go_roundg k4
                                          case measure => have := HK1.out; have := HK2.out; have := HK3.out; have := HK4.out; omega
                                          case rel => exact ⟨(wrap64 (x64_3 + 1)), (by first | rfl | (simp; done) | (simp [*]; done) | (congr 1; (try unfold wrap64); omega)), H', ⟨by have := HK1.out; have := HK2.out; have := HK3.out; have := HK4.out; omega⟩, ⟨by (with_reducible repeat (first | apply Kd.R_alloc | apply Kd.R_drewN | apply Kd.R_drew)); exact HO_34.out⟩, ⟨by (with_reducible repeat (first | apply Kd.R_alloc | apply Kd.R_drewN | apply Kd.R_drew)); exact HO_44.out⟩, ⟨by (with_reducible repeat (first | apply Kd.R_alloc | apply Kd.R_drewN | apply Kd.R_drew)); exact HO_62.out⟩, ⟨by repeat (first | (with_reducible first | exact HB.out | apply below_alloc | apply pw_below_drewN | apply below_drew1) | exact HB.out)⟩⟩
                                  · rw [if_neg c33] at H
                                    exact absurd H (by simp)
                                · rw [if_neg c31] at H
                                  exact absurd H (by simp)
                              · rw [if_neg c30] at H
                                exact absurd H (by simp)
                            · rw [if_neg c29] at H
                              have c29b0 : decide (x64_3 < (y227.length : Int)) = false := decide_eq_false c29
                              clear c29
                              have H' := Aside0.mk H
                              clear H
                              go_wp2
                              go_roundg k3
                              case measure => have := HK1.out; have := HK2.out; have := HK3.out; omega
                              case rel => exact ⟨(wrap64 (x46_2 + 1)), (by first | rfl | (simp; done) | (simp [*]; done) | (congr 1; (try unfold wrap64); omega)), H', ⟨by have := HK1.out; have := HK2.out; have := HK3.out; omega⟩, ⟨by (with_reducible repeat (first | apply Kd.R_alloc | apply Kd.R_drewN | apply Kd.R_drew)); exact Kd.R_mono HO_34.out (fun _ hk => hk.1)⟩, ⟨by (with_reducible repeat (first | apply Kd.R_alloc | apply Kd.R_drewN | apply Kd.R_drew)); exact Kd.R_mono HO_44.out (fun _ hk => hk.1)⟩, ⟨by repeat (first | (with_reducible first | exact HB.out | apply below_alloc | apply pw_below_drewN | apply below_drew1) | exact HB.out)⟩⟩
                      · rw [if_neg c25] at H
                        exact absurd H (by simp)
                    · rw [if_neg c24] at H
                      exact absurd H (by simp)
                  · rw [if_neg c23] at H
                    have c23b0 : decide (x46_2 < (y223.length : Int)) = false := decide_eq_false c23
                    clear c23
                    have H' := Aside0.mk H
                    clear H
                    go_wp2
                    go_roundg k2
                    case measure => have := HK1.out; have := HK2.out; omega
                    case rel => exact ⟨(wrap64 (x36_1 + 1)), (by first | rfl | (simp; done) | (simp [*]; done) | (congr 1; (try unfold wrap64); omega)), H', ⟨by have := HK1.out; have := HK2.out; omega⟩, ⟨by (with_reducible repeat (first | apply Kd.R_alloc | apply Kd.R_drewN | apply Kd.R_drew)); exact Kd.R_mono HO_34.out (fun _ hk => trivial)⟩, ⟨by repeat (first | (with_reducible first | exact HB.out | apply below_alloc | apply pw_below_drewN | apply below_drew1) | exact HB.out)⟩⟩
            · rw [if_neg c19] at H
              exact absurd H (by simp)
          · rw [if_neg c18] at H
            exact absurd H (by simp)
        · rw [if_neg c17] at H
          have c17b0 : decide (x36_1 < (y219.length : Int)) = false := decide_eq_false c17
          clear c17
          obtain rfl := Option.some.inj H
          go_wp2
          go_ret
          exact ⟨by first | rfl | (simp [errW_none, errW_some] <;> rfl) | (simp [*, errW_none, errW_some] <;> rfl), by repeat (first | (with_reducible first | exact HB.out | apply below_alloc | apply pw_below_drewN | apply below_drew1) | exact HB.out)⟩
  · replace c10 := Bool.eq_false_iff.mpr c10
    subst c10
    have H1 : (some false) = some r := by rw [if_neg (show ¬ (false = true) by decide)] at H; exact H
    clear H
    have H := H1
    clear H1
    obtain rfl := Option.some.inj H
    go_enter Try.func3, Try.ntmps3
    go_wp2_with (first | ((with_reducible refine gate_callee (f := 15) rfl ?_); refine goesL_ (some 29) rfl rfl Try.func15 (by kernel_rfl) rfl #[] rfl (by (try simp only [List.map_toArray, List.map_cons, List.map_nil]); first | done | rfl | (simp only [List.length_drop, List.length_take]; rfl)) ?_; (with_reducible refine (anneallaw3_known.calls k  false _ A9.out).mono ?_); rintro e w68 ⟨rfl, hb⟩; refine ⟨_, rfl, ?_⟩; have n0_ := Aside0.mk (below_step (by repeat (first | (with_reducible first | exact HB.out | apply below_alloc | apply pw_below_drewN | apply below_drew1) | exact HB.out)) hb); clear HB; have HB := n0_; clear n0_; (try clear hb); (try clear hb2); (try clear hk); (try clear hi)))
    go_ret
    exact ⟨by first | rfl | (simp [errW_none, errW_some] <;> rfl) | (simp [*, errW_none, errW_some] <;> rfl), by repeat (first | (with_reducible first | exact HB.out | apply below_alloc | apply pw_below_drewN | apply below_drew1) | exact HB.out)⟩

/-- THE ONE PURE STATEMENT of anneallaw3_RoundTells: yours. -/
def anneallaw3_RoundTells.Pure : Prop := ∀ (a0 : Int) (a1 : Int) (a2 : Int) (a3 : Int) (a4 : Int) (a5 : Int) (a6 : Bool) (a7 : Bool), (Lit.int .i64 a0).wf = true → (Lit.int .i64 a1).wf = true → (Lit.int .i64 a2).wf = true → (Lit.int .u8 a3).wf = true → (Lit.int .u8 a4).wf = true → (Lit.int .u64 a5).wf = true → ∃ k, anneallaw3_RoundTells.f k a0 a1 a2 a3 a4 a5 a6 a7 = some true
theorem anneallaw3_RoundTells.walk (P : anneallaw3_RoundTells.Pure) (a0 : Int) (a1 : Int) (a2 : Int) (a3 : Int) (a4 : Int) (a5 : Int) (a6 : Bool) (a7 : Bool) (w : World) (w0 : (Lit.int .i64 a0).wf = true) (w1 : (Lit.int .i64 a1).wf = true) (w2 : (Lit.int .i64 a2).wf = true) (w3 : (Lit.int .u8 a3).wf = true) (w4 : (Lit.int .u8 a4).wf = true) (w5 : (Lit.int .u64 a5).wf = true) :
    Calls Try.prog 3 #[.int .i64 a0, .int .i64 a1, .int .i64 a2, .int .u8 a3, .int .u8 a4, .int .u64 a5, .bool a6, .bool a7] w fun e w' => e = .returned (.bool true) ∧ Below w.heap.size w w' := by
  obtain ⟨k, h⟩ := P a0 a1 a2 a3 a4 a5 a6 a7 w0 w1 w2 w3 w4 w5
  refine (anneallaw3_RoundTells.calls k a0 a1 a2 a3 a4 a5 a6 a7 true w h).mono ?_
  rintro e w' ⟨rfl, hd⟩
  exact ⟨rfl, hd⟩

end Go.Proofs.Ytoljndjpnbdjmaa.P
