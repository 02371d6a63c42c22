-- Printed by a program of this session's out of Lean's print of the translation; Lean checks it.
import Derived.Test.YtoljndjpnbdjmaaPx0
import Derived.Test.YtoljndjpnbdjmaaPx7
import Derived.Test.YtoljndjpnbdjmaaPx8
namespace Go.Proofs.Ytoljndjpnbdjmaa.P
open Go.RowKit Go.Proofs.YtoljndjpnbdjmaaW.PrintWords Go.Proofs.YtoljndjpnbdjmaaW.PrintLast Go.Proofs.YtoljndjpnbdjmaaW.PrintMore
attribute [local go_sem] max2_int min2_int max_two min_two max_three min_three max_four min_four   -- for this text's walks alone
set_option linter.unusedVariables false
set_option linter.unusedSimpArgs false

/-! ### anneallaw3_RoundModes: function 4 -/
mutual
def anneallaw3_RoundModes.j0 : Nat → Int → Int → Int → Int → Int → Bool → Bool → Bool → Bool → Bool → Bool → Bool → Bool → Bool → Bool → Bool → Bool → Bool → Bool → Bool → Bool → Bool → Bool → Bool → Bool → Option (Bool)
  | 0, _, _, _, _, _, _, _, _, _, _, _, _, _, _, _, _, _, _, _, _, _, _, _, _, _ => none
  | k + 1, x13, x19, x21, x23, x24, x258000, x258001, x258002, x258003, x258004, x265000, x265001, x265002, x265003, x265004, x272000, x272001, x272002, x272003, x272004, x279000, x279001, x279002, x279003, x279004 => if x13 = x24 then (if (x258004 != x265004) = true then (anneallaw3_RoundModes.j1 k x13 x19 x21 x23 true x258000 x258001 x258002 x258003 x258004) else (if (x265004 != x272004) = true then (anneallaw3_RoundModes.j1 k x13 x19 x21 x23 true x258000 x258001 x258002 x258003 x258004) else (anneallaw3_RoundModes.j1 k x13 x19 x21 x23 (x272004 != x279004) x258000 x258001 x258002 x258003 x258004))) else (anneallaw3_RoundModes.j1 k x13 x19 x21 x23 true x258000 x258001 x258002 x258003 x258004)
def anneallaw3_RoundModes.j1 : Nat → Int → Int → Int → Int → Bool → Bool → Bool → Bool → Bool → Bool → Option (Bool)
  | 0, _, _, _, _, _, _, _, _, _, _ => none
  | k + 1, x13, x19, x21, x23, x105, x258000, x258001, x258002, x258003, x258004 => if x105 = true then (some false) else (if x258004 = true then (if x23 = x13 then (some false) else (if x19 = x23 then (if x21 = x23 then (some true) else (some (x21 == x13))) else (if x19 = x13 then (if x21 = x23 then (some true) else (some (x21 == x13))) else (some false)))) else (if x13 = x23 then (if x13 = x19 then (some (x19 == x21)) else (some false)) else (some false)))
end
def anneallaw3_RoundModes.f (k : Nat) (a0 : Int) (a1 : Int) (a2 : Int) (a3 : Bool) (a4 : Bool) : Option (Bool) := (anneallaw3_known.f k).bind fun t249 => (if t249 = true then ((anneallaw3_form.f a0).bind fun t250 => ((round_Pack.f k t250 1 a3 (Int.tmod (wrap64 (a1)) 300) a2 a4).bind fun bt251 => ((round_Pack.f k t250 2 a3 (Int.tmod (wrap64 (a1)) 300) a2 a4).bind fun bt258 => ((round_Pack.f k t250 3 a3 (Int.tmod (wrap64 (a1)) 300) a2 a4).bind fun bt265 => ((round_Pack.f k t250 0 a3 (Int.tmod (wrap64 (a1)) 300) a2 a4).bind fun bt272 => ((round_Pack.f k t250 4 a3 (Int.tmod (wrap64 (a1)) 300) a2 a4).bind fun bt279 => (if a3 = true then (anneallaw3_RoundModes.j0 k bt251.1 bt272.1 bt279.1 bt265.1 bt258.1 bt251.2.1 bt251.2.2.1 bt251.2.2.2.1 bt251.2.2.2.2.1 bt251.2.2.2.2.2 bt258.2.1 bt258.2.2.1 bt258.2.2.2.1 bt258.2.2.2.2.1 bt258.2.2.2.2.2 bt265.2.1 bt265.2.2.1 bt265.2.2.2.1 bt265.2.2.2.2.1 bt265.2.2.2.2.2 bt272.2.1 bt272.2.2.1 bt272.2.2.2.1 bt272.2.2.2.2.1 bt272.2.2.2.2.2) else (anneallaw3_RoundModes.j0 k bt251.1 bt272.1 bt279.1 bt258.1 bt265.1 bt251.2.1 bt251.2.2.1 bt251.2.2.2.1 bt251.2.2.2.2.1 bt251.2.2.2.2.2 bt258.2.1 bt258.2.2.1 bt258.2.2.2.1 bt258.2.2.2.2.1 bt258.2.2.2.2.2 bt265.2.1 bt265.2.2.1 bt265.2.2.2.1 bt265.2.2.2.2.1 bt265.2.2.2.2.2 bt272.2.1 bt272.2.2.1 bt272.2.2.2.1 bt272.2.2.2.2.1 bt272.2.2.2.2.2)))))))) else (some false))
theorem anneallaw3_RoundModes.mono_l : ∀ k, (∀ y0 y1 y2 y3 y4 y5 y6 y7 y8 y9 y10 y11 y12 y13 y14 y15 y16 y17 y18 y19 y20 y21 y22 y23 y24, LeO (anneallaw3_RoundModes.j0 k y0 y1 y2 y3 y4 y5 y6 y7 y8 y9 y10 y11 y12 y13 y14 y15 y16 y17 y18 y19 y20 y21 y22 y23 y24) (anneallaw3_RoundModes.j0 (k + 1) y0 y1 y2 y3 y4 y5 y6 y7 y8 y9 y10 y11 y12 y13 y14 y15 y16 y17 y18 y19 y20 y21 y22 y23 y24)) ∧ (∀ y0 y1 y2 y3 y4 y5 y6 y7 y8 y9, LeO (anneallaw3_RoundModes.j1 k y0 y1 y2 y3 y4 y5 y6 y7 y8 y9) (anneallaw3_RoundModes.j1 (k + 1) y0 y1 y2 y3 y4 y5 y6 y7 y8 y9))
  | 0 => ⟨fun _ _ _ _ _ _ _ _ _ _ _ _ _ _ _ _ _ _ _ _ _ _ _ _ _ r h => by simp [anneallaw3_RoundModes.j0] at h, fun _ _ _ _ _ _ _ _ _ _ r h => by simp [anneallaw3_RoundModes.j1] at h⟩
  | k + 1 => by
    obtain ⟨ih0, ih1⟩ := anneallaw3_RoundModes.mono_l k
    refine ⟨?_, ?_⟩
    · intro y0 y1 y2 y3 y4 y5 y6 y7 y8 y9 y10 y11 y12 y13 y14 y15 y16 y17 y18 y19 y20 y21 y22 y23 y24
      unfold anneallaw3_RoundModes.j0
      repeat' first
      | (with_reducible exact ih0 _ _ _ _ _ _ _ _ _ _ _ _ _ _ _ _ _ _ _ _ _ _ _ _ _)
      | (with_reducible exact ih1 _ _ _ _ _ _ _ _ _ _)
      | (with_reducible exact anneallaw3_known.mono _)
      | (with_reducible exact round_Pack.mono _ _ _ _ _ _ _)
      | (with_reducible exact LeO.refl _)
      | (with_reducible exact LeO.none _)
      | (with_reducible refine LeO.ite ?_ ?_)
      | (with_reducible refine LeO.bind ?_ (fun _ => ?_))
      | exact ih0 _ _ _ _ _ _ _ _ _ _ _ _ _ _ _ _ _ _ _ _ _ _ _ _ _
      | exact ih1 _ _ _ _ _ _ _ _ _ _
      | exact anneallaw3_known.mono _
      | exact round_Pack.mono _ _ _ _ _ _ _
      | exact LeO.none _
      | refine LeO.ite ?_ ?_
      | refine LeO.bind ?_ (fun _ => ?_)
    · intro y0 y1 y2 y3 y4 y5 y6 y7 y8 y9
      unfold anneallaw3_RoundModes.j1
      repeat' first
      | (with_reducible exact ih0 _ _ _ _ _ _ _ _ _ _ _ _ _ _ _ _ _ _ _ _ _ _ _ _ _)
      | (with_reducible exact ih1 _ _ _ _ _ _ _ _ _ _)
      | (with_reducible exact anneallaw3_known.mono _)
      | (with_reducible exact round_Pack.mono _ _ _ _ _ _ _)
      | (with_reducible exact LeO.refl _)
      | (with_reducible exact LeO.none _)
      | (with_reducible refine LeO.ite ?_ ?_)
      | (with_reducible refine LeO.bind ?_ (fun _ => ?_))
      | exact ih0 _ _ _ _ _ _ _ _ _ _ _ _ _ _ _ _ _ _ _ _ _ _ _ _ _
      | exact ih1 _ _ _ _ _ _ _ _ _ _
      | exact anneallaw3_known.mono _
      | exact round_Pack.mono _ _ _ _ _ _ _
      | exact LeO.none _
      | refine LeO.ite ?_ ?_
      | refine LeO.bind ?_ (fun _ => ?_)
theorem anneallaw3_RoundModes.mono : ∀ a0 a1 a2 a3 a4 k, LeO (anneallaw3_RoundModes.f k a0 a1 a2 a3 a4) (anneallaw3_RoundModes.f (k + 1) a0 a1 a2 a3 a4) := by
  intro a0 a1 a2 a3 a4 k
  obtain ⟨ih0, ih1⟩ := anneallaw3_RoundModes.mono_l k
  unfold anneallaw3_RoundModes.f
  repeat' first
      | (with_reducible exact ih0 _ _ _ _ _ _ _ _ _ _ _ _ _ _ _ _ _ _ _ _ _ _ _ _ _)
      | (with_reducible exact ih1 _ _ _ _ _ _ _ _ _ _)
      | (with_reducible exact anneallaw3_known.mono _)
      | (with_reducible exact round_Pack.mono _ _ _ _ _ _ _)
      | (with_reducible exact LeO.refl _)
      | (with_reducible exact LeO.none _)
      | (with_reducible refine LeO.ite ?_ ?_)
      | (with_reducible refine LeO.bind ?_ (fun _ => ?_))
      | exact ih0 _ _ _ _ _ _ _ _ _ _ _ _ _ _ _ _ _ _ _ _ _ _ _ _ _
      | exact ih1 _ _ _ _ _ _ _ _ _ _
      | exact anneallaw3_known.mono _
      | exact round_Pack.mono _ _ _ _ _ _ _
      | exact LeO.none _
      | refine LeO.ite ?_ ?_
      | refine LeO.bind ?_ (fun _ => ?_)
set_option maxHeartbeats 8000000 in
set_option maxRecDepth 100000 in
theorem anneallaw3_RoundModes.calls (k : Nat) (a0 : Int) (a1 : Int) (a2 : Int) (a3 : Bool) (a4 : Bool) (r : Bool) (w : World) (h : anneallaw3_RoundModes.f k a0 a1 a2 a3 a4 = some r) :
    Calls Try.prog 4 #[.int .u8 a0, .int .i16 a1, .int .u64 a2, .bool a3, .bool a4] w fun e w' => e = .returned (.bool r) ∧ Below w.heap.size w w' := by
  have hu30 := Try.underlying30
  have HB := Aside0.mk (Below.refl w.heap.size w)
  have H : ((anneallaw3_known.f k).bind fun t249 => (if t249 = true then ((anneallaw3_form.f a0).bind fun t250 => ((round_Pack.f k t250 1 a3 (Int.tmod (wrap64 (a1)) 300) a2 a4).bind fun bt251 => ((round_Pack.f k t250 2 a3 (Int.tmod (wrap64 (a1)) 300) a2 a4).bind fun bt258 => ((round_Pack.f k t250 3 a3 (Int.tmod (wrap64 (a1)) 300) a2 a4).bind fun bt265 => ((round_Pack.f k t250 0 a3 (Int.tmod (wrap64 (a1)) 300) a2 a4).bind fun bt272 => ((round_Pack.f k t250 4 a3 (Int.tmod (wrap64 (a1)) 300) a2 a4).bind fun bt279 => (if a3 = true then (anneallaw3_RoundModes.j0 k bt251.1 bt272.1 bt279.1 bt265.1 bt258.1 bt251.2.1 bt251.2.2.1 bt251.2.2.2.1 bt251.2.2.2.2.1 bt251.2.2.2.2.2 bt258.2.1 bt258.2.2.1 bt258.2.2.2.1 bt258.2.2.2.2.1 bt258.2.2.2.2.2 bt265.2.1 bt265.2.2.1 bt265.2.2.2.1 bt265.2.2.2.2.1 bt265.2.2.2.2.2 bt272.2.1 bt272.2.2.1 bt272.2.2.2.1 bt272.2.2.2.2.1 bt272.2.2.2.2.2) else (anneallaw3_RoundModes.j0 k bt251.1 bt272.1 bt279.1 bt258.1 bt265.1 bt251.2.1 bt251.2.2.1 bt251.2.2.2.1 bt251.2.2.2.2.1 bt251.2.2.2.2.2 bt258.2.1 bt258.2.2.1 bt258.2.2.2.1 bt258.2.2.2.2.1 bt258.2.2.2.2.2 bt265.2.1 bt265.2.2.1 bt265.2.2.2.1 bt265.2.2.2.2.1 bt265.2.2.2.2.2 bt272.2.1 bt272.2.2.1 bt272.2.2.2.1 bt272.2.2.2.2.1 bt272.2.2.2.2.2)))))))) else (some false))) = some r := h
  clear h
  replace H := Option.bind_eq_some_iff.mp H
  obtain ⟨t249, A60, H⟩ := H
  replace H : (if t249 = true then ((anneallaw3_form.f a0).bind fun t250 => ((round_Pack.f k t250 1 a3 (Int.tmod (wrap64 (a1)) 300) a2 a4).bind fun bt251 => ((round_Pack.f k t250 2 a3 (Int.tmod (wrap64 (a1)) 300) a2 a4).bind fun bt258 => ((round_Pack.f k t250 3 a3 (Int.tmod (wrap64 (a1)) 300) a2 a4).bind fun bt265 => ((round_Pack.f k t250 0 a3 (Int.tmod (wrap64 (a1)) 300) a2 a4).bind fun bt272 => ((round_Pack.f k t250 4 a3 (Int.tmod (wrap64 (a1)) 300) a2 a4).bind fun bt279 => (if a3 = true then (anneallaw3_RoundModes.j0 k bt251.1 bt272.1 bt279.1 bt265.1 bt258.1 bt251.2.1 bt251.2.2.1 bt251.2.2.2.1 bt251.2.2.2.2.1 bt251.2.2.2.2.2 bt258.2.1 bt258.2.2.1 bt258.2.2.2.1 bt258.2.2.2.2.1 bt258.2.2.2.2.2 bt265.2.1 bt265.2.2.1 bt265.2.2.2.1 bt265.2.2.2.2.1 bt265.2.2.2.2.2 bt272.2.1 bt272.2.2.1 bt272.2.2.2.1 bt272.2.2.2.2.1 bt272.2.2.2.2.2) else (anneallaw3_RoundModes.j0 k bt251.1 bt272.1 bt279.1 bt258.1 bt265.1 bt251.2.1 bt251.2.2.1 bt251.2.2.2.1 bt251.2.2.2.2.1 bt251.2.2.2.2.2 bt258.2.1 bt258.2.2.1 bt258.2.2.2.1 bt258.2.2.2.2.1 bt258.2.2.2.2.2 bt265.2.1 bt265.2.2.1 bt265.2.2.2.1 bt265.2.2.2.2.1 bt265.2.2.2.2.2 bt272.2.1 bt272.2.2.1 bt272.2.2.2.1 bt272.2.2.2.2.1 bt272.2.2.2.2.2)))))))) else (some false)) = some r := H
  have A6 := Aside0.mk A60
  clear A60
  by_cases c7 : t249 = true
  · subst c7
    have H1 : ((anneallaw3_form.f a0).bind fun t250 => ((round_Pack.f k t250 1 a3 (Int.tmod (wrap64 (a1)) 300) a2 a4).bind fun bt251 => ((round_Pack.f k t250 2 a3 (Int.tmod (wrap64 (a1)) 300) a2 a4).bind fun bt258 => ((round_Pack.f k t250 3 a3 (Int.tmod (wrap64 (a1)) 300) a2 a4).bind fun bt265 => ((round_Pack.f k t250 0 a3 (Int.tmod (wrap64 (a1)) 300) a2 a4).bind fun bt272 => ((round_Pack.f k t250 4 a3 (Int.tmod (wrap64 (a1)) 300) a2 a4).bind fun bt279 => (if a3 = true then (anneallaw3_RoundModes.j0 k bt251.1 bt272.1 bt279.1 bt265.1 bt258.1 bt251.2.1 bt251.2.2.1 bt251.2.2.2.1 bt251.2.2.2.2.1 bt251.2.2.2.2.2 bt258.2.1 bt258.2.2.1 bt258.2.2.2.1 bt258.2.2.2.2.1 bt258.2.2.2.2.2 bt265.2.1 bt265.2.2.1 bt265.2.2.2.1 bt265.2.2.2.2.1 bt265.2.2.2.2.2 bt272.2.1 bt272.2.2.1 bt272.2.2.2.1 bt272.2.2.2.2.1 bt272.2.2.2.2.2) else (anneallaw3_RoundModes.j0 k bt251.1 bt272.1 bt279.1 bt258.1 bt265.1 bt251.2.1 bt251.2.2.1 bt251.2.2.2.1 bt251.2.2.2.2.1 bt251.2.2.2.2.2 bt258.2.1 bt258.2.2.1 bt258.2.2.2.1 bt258.2.2.2.2.1 bt258.2.2.2.2.2 bt265.2.1 bt265.2.2.1 bt265.2.2.2.1 bt265.2.2.2.2.1 bt265.2.2.2.2.2 bt272.2.1 bt272.2.2.1 bt272.2.2.2.1 bt272.2.2.2.2.1 bt272.2.2.2.2.2)))))))) = some r := by rw [if_pos rfl] at H; exact H
    clear H
    have H := H1
    clear H1
    replace H := Option.bind_eq_some_iff.mp H
    obtain ⟨t250, A80, H⟩ := H
    replace H : ((round_Pack.f k t250 1 a3 (Int.tmod (wrap64 (a1)) 300) a2 a4).bind fun bt251 => ((round_Pack.f k t250 2 a3 (Int.tmod (wrap64 (a1)) 300) a2 a4).bind fun bt258 => ((round_Pack.f k t250 3 a3 (Int.tmod (wrap64 (a1)) 300) a2 a4).bind fun bt265 => ((round_Pack.f k t250 0 a3 (Int.tmod (wrap64 (a1)) 300) a2 a4).bind fun bt272 => ((round_Pack.f k t250 4 a3 (Int.tmod (wrap64 (a1)) 300) a2 a4).bind fun bt279 => (if a3 = true then (anneallaw3_RoundModes.j0 k bt251.1 bt272.1 bt279.1 bt265.1 bt258.1 bt251.2.1 bt251.2.2.1 bt251.2.2.2.1 bt251.2.2.2.2.1 bt251.2.2.2.2.2 bt258.2.1 bt258.2.2.1 bt258.2.2.2.1 bt258.2.2.2.2.1 bt258.2.2.2.2.2 bt265.2.1 bt265.2.2.1 bt265.2.2.2.1 bt265.2.2.2.2.1 bt265.2.2.2.2.2 bt272.2.1 bt272.2.2.1 bt272.2.2.2.1 bt272.2.2.2.2.1 bt272.2.2.2.2.2) else (anneallaw3_RoundModes.j0 k bt251.1 bt272.1 bt279.1 bt258.1 bt265.1 bt251.2.1 bt251.2.2.1 bt251.2.2.2.1 bt251.2.2.2.2.1 bt251.2.2.2.2.2 bt258.2.1 bt258.2.2.1 bt258.2.2.2.1 bt258.2.2.2.2.1 bt258.2.2.2.2.2 bt265.2.1 bt265.2.2.1 bt265.2.2.2.1 bt265.2.2.2.2.1 bt265.2.2.2.2.2 bt272.2.1 bt272.2.2.1 bt272.2.2.2.1 bt272.2.2.2.2.1 bt272.2.2.2.2.2))))))) = some r := H
    have A8 := Aside0.mk A80
    clear A80
    replace H := Option.bind_eq_some_iff.mp H
    obtain ⟨⟨t251, t252, t253, t254, t255, t256⟩, A90, H⟩ := H
    replace H : ((round_Pack.f k t250 2 a3 (Int.tmod (wrap64 (a1)) 300) a2 a4).bind fun bt258 => ((round_Pack.f k t250 3 a3 (Int.tmod (wrap64 (a1)) 300) a2 a4).bind fun bt265 => ((round_Pack.f k t250 0 a3 (Int.tmod (wrap64 (a1)) 300) a2 a4).bind fun bt272 => ((round_Pack.f k t250 4 a3 (Int.tmod (wrap64 (a1)) 300) a2 a4).bind fun bt279 => (if a3 = true then (anneallaw3_RoundModes.j0 k t251 bt272.1 bt279.1 bt265.1 bt258.1 t252 t253 t254 t255 t256 bt258.2.1 bt258.2.2.1 bt258.2.2.2.1 bt258.2.2.2.2.1 bt258.2.2.2.2.2 bt265.2.1 bt265.2.2.1 bt265.2.2.2.1 bt265.2.2.2.2.1 bt265.2.2.2.2.2 bt272.2.1 bt272.2.2.1 bt272.2.2.2.1 bt272.2.2.2.2.1 bt272.2.2.2.2.2) else (anneallaw3_RoundModes.j0 k t251 bt272.1 bt279.1 bt258.1 bt265.1 t252 t253 t254 t255 t256 bt258.2.1 bt258.2.2.1 bt258.2.2.2.1 bt258.2.2.2.2.1 bt258.2.2.2.2.2 bt265.2.1 bt265.2.2.1 bt265.2.2.2.1 bt265.2.2.2.2.1 bt265.2.2.2.2.2 bt272.2.1 bt272.2.2.1 bt272.2.2.2.1 bt272.2.2.2.2.1 bt272.2.2.2.2.2)))))) = some r := H
    have A9 := Aside0.mk A90
    clear A90
    replace H := Option.bind_eq_some_iff.mp H
    obtain ⟨⟨t258, t259, t260, t261, t262, t263⟩, A100, H⟩ := H
    replace H : ((round_Pack.f k t250 3 a3 (Int.tmod (wrap64 (a1)) 300) a2 a4).bind fun bt265 => ((round_Pack.f k t250 0 a3 (Int.tmod (wrap64 (a1)) 300) a2 a4).bind fun bt272 => ((round_Pack.f k t250 4 a3 (Int.tmod (wrap64 (a1)) 300) a2 a4).bind fun bt279 => (if a3 = true then (anneallaw3_RoundModes.j0 k t251 bt272.1 bt279.1 bt265.1 t258 t252 t253 t254 t255 t256 t259 t260 t261 t262 t263 bt265.2.1 bt265.2.2.1 bt265.2.2.2.1 bt265.2.2.2.2.1 bt265.2.2.2.2.2 bt272.2.1 bt272.2.2.1 bt272.2.2.2.1 bt272.2.2.2.2.1 bt272.2.2.2.2.2) else (anneallaw3_RoundModes.j0 k t251 bt272.1 bt279.1 t258 bt265.1 t252 t253 t254 t255 t256 t259 t260 t261 t262 t263 bt265.2.1 bt265.2.2.1 bt265.2.2.2.1 bt265.2.2.2.2.1 bt265.2.2.2.2.2 bt272.2.1 bt272.2.2.1 bt272.2.2.2.1 bt272.2.2.2.2.1 bt272.2.2.2.2.2))))) = some r := H
    have A10 := Aside0.mk A100
    clear A100
    replace H := Option.bind_eq_some_iff.mp H
    obtain ⟨⟨t265, t266, t267, t268, t269, t270⟩, A110, H⟩ := H
    replace H : ((round_Pack.f k t250 0 a3 (Int.tmod (wrap64 (a1)) 300) a2 a4).bind fun bt272 => ((round_Pack.f k t250 4 a3 (Int.tmod (wrap64 (a1)) 300) a2 a4).bind fun bt279 => (if a3 = true then (anneallaw3_RoundModes.j0 k t251 bt272.1 bt279.1 t265 t258 t252 t253 t254 t255 t256 t259 t260 t261 t262 t263 t266 t267 t268 t269 t270 bt272.2.1 bt272.2.2.1 bt272.2.2.2.1 bt272.2.2.2.2.1 bt272.2.2.2.2.2) else (anneallaw3_RoundModes.j0 k t251 bt272.1 bt279.1 t258 t265 t252 t253 t254 t255 t256 t259 t260 t261 t262 t263 t266 t267 t268 t269 t270 bt272.2.1 bt272.2.2.1 bt272.2.2.2.1 bt272.2.2.2.2.1 bt272.2.2.2.2.2)))) = some r := H
    have A11 := Aside0.mk A110
    clear A110
    replace H := Option.bind_eq_some_iff.mp H
    obtain ⟨⟨t272, t273, t274, t275, t276, t277⟩, A120, H⟩ := H
    replace H : ((round_Pack.f k t250 4 a3 (Int.tmod (wrap64 (a1)) 300) a2 a4).bind fun bt279 => (if a3 = true then (anneallaw3_RoundModes.j0 k t251 t272 bt279.1 t265 t258 t252 t253 t254 t255 t256 t259 t260 t261 t262 t263 t266 t267 t268 t269 t270 t273 t274 t275 t276 t277) else (anneallaw3_RoundModes.j0 k t251 t272 bt279.1 t258 t265 t252 t253 t254 t255 t256 t259 t260 t261 t262 t263 t266 t267 t268 t269 t270 t273 t274 t275 t276 t277))) = some r := H
    have A12 := Aside0.mk A120
    clear A120
    replace H := Option.bind_eq_some_iff.mp H
    obtain ⟨⟨t279, t280, t281, t282, t283, t284⟩, A130, H⟩ := H
    replace H : (if a3 = true then (anneallaw3_RoundModes.j0 k t251 t272 t279 t265 t258 t252 t253 t254 t255 t256 t259 t260 t261 t262 t263 t266 t267 t268 t269 t270 t273 t274 t275 t276 t277) else (anneallaw3_RoundModes.j0 k t251 t272 t279 t258 t265 t252 t253 t254 t255 t256 t259 t260 t261 t262 t263 t266 t267 t268 t269 t270 t273 t274 t275 t276 t277)) = some r := H
    have A13 := Aside0.mk A130
    clear A130
    have HC14 := Aside0.mk H
    clear H
    go_enter Try.func4, Try.ntmps4
    go_upto_if 79 with (first | ((with_reducible refine gate_callee (f := 15) rfl ?_); refine goesL_ (some 25) rfl rfl Try.func15 (by kernel_rfl) rfl #[] rfl (by (try simp only [List.map_toArray, List.map_cons, List.map_nil]); first | done | rfl | (simp only [List.length_drop, List.length_take]; rfl)) ?_; (with_reducible refine (anneallaw3_known.calls k  true _ A6.out).mono ?_); rintro e w15 ⟨rfl, hb⟩; refine ⟨_, rfl, ?_⟩; have n0_ := Aside0.mk (below_step (by repeat (first | (with_reducible first | exact HB.out | apply below_alloc | apply pw_below_drewN | apply below_drew1) | exact HB.out)) hb); clear HB; have HB := n0_; clear n0_; (try clear hb); (try clear hb2); (try clear hk); (try clear hi)) | ((with_reducible refine gate_callee (f := 16) rfl ?_); refine goesL_ (some 28) rfl rfl Try.func16 (by kernel_rfl) rfl #[.int .u8 a0] rfl (by (try simp only [List.map_toArray, List.map_cons, List.map_nil]); first | done | rfl | (simp only [List.length_drop, List.length_take]; rfl)) ?_; (with_reducible refine (anneallaw3_form.calls a0 t250 _ A8.out).mono ?_); rintro e w16 ⟨rfl, hb⟩; refine ⟨_, rfl, ?_⟩; have n0_ := Aside0.mk (below_step (by repeat (first | (with_reducible first | exact HB.out | apply below_alloc | apply pw_below_drewN | apply below_drew1) | exact HB.out)) hb); clear HB; have HB := n0_; clear n0_; (try clear hb); (try clear hb2); (try clear hk); (try clear hi)) | ((with_reducible refine gate_callee (f := 17) rfl ?_); refine goesL_ (some 38) rfl rfl Try.func17 (by kernel_rfl) rfl #[.int .i64 t250, .int .i64 1, .bool a3, .int .i64 (Int.tmod (wrap64 (a1)) 300), .int .u64 a2, .bool a4] rfl (by (try simp only [List.map_toArray, List.map_cons, List.map_nil]); first | done | rfl | (simp only [List.length_drop, List.length_take]; rfl)) ?_; (with_reducible refine (round_Pack.calls k t250 1 a3 (Int.tmod (wrap64 (a1)) 300) a2 a4 t251 t252 t253 t254 t255 t256 _ A9.out).mono ?_); rintro e w17 ⟨rfl, hb⟩; refine ⟨_, rfl, ?_⟩; have n0_ := Aside0.mk (below_step (by repeat (first | (with_reducible first | exact HB.out | apply below_alloc | apply pw_below_drewN | apply below_drew1) | exact HB.out)) hb); clear HB; have HB := n0_; clear n0_; (try clear hb); (try clear hb2); (try clear hk); (try clear hi)) | ((with_reducible refine gate_dst (N := 14) rfl ?_); refine box_event ?hg (N := 14) ?hd (cs := #[.bool false, .bool false, .bool false, .bool false, .bool false]) (t := 30) ?hr ?_; (case hd => rfl); (case hg => rfl); (case hr => first | (go_simp; done) | (go_simp; rfl)); intro gb257 hg w18 hbox hb; have n0_ := Aside0.mk (below_step (by repeat (first | (with_reducible first | exact HB.out | apply below_alloc | apply pw_below_drewN | apply below_drew1) | exact HB.out)) hb); have n1_ := Aside0.mk (hbox); have n2_ := Aside0.mk ((by rw [hg]; exact (below_size (by repeat (first | (with_reducible first | exact HB.out | apply below_alloc | apply pw_below_drewN | apply below_drew1) | exact HB.out))) : w.heap.size ≤ gb257)); have n3_ := Aside0.mk ((by rw [hg]; exact (below_size (by repeat (first | (with_reducible first | exact HB.out | apply below_alloc | apply pw_below_drewN | apply below_drew1) | exact HB.out))) : w.heap.size ≤ gb257)); clear HB; have HB := n0_; have BK257 := n1_; have GW257 := n2_; have GE257 := n3_; clear n0_ n1_ n2_ n3_; clear hb hbox hg; have hcz19_0 : w18.cell? ⟨gb257, 0, none⟩ = some (.bool false) := (blk_cell BK257.out 0).trans rfl; have hcz19_1 : w18.cell? ⟨gb257, 1, none⟩ = some (.bool false) := (blk_cell BK257.out 1).trans rfl; have hcz19_2 : w18.cell? ⟨gb257, 2, none⟩ = some (.bool false) := (blk_cell BK257.out 2).trans rfl; have hcz19_3 : w18.cell? ⟨gb257, 3, none⟩ = some (.bool false) := (blk_cell BK257.out 3).trans rfl; have hcz19_4 : w18.cell? ⟨gb257, 4, none⟩ = some (.bool false) := (blk_cell BK257.out 4).trans rfl; have hfz19_0 := blk_frozen BK257.out 0; have hfz19_1 := blk_frozen BK257.out 1; have hfz19_2 := blk_frozen BK257.out 2; have hfz19_3 := blk_frozen BK257.out 3; have hfz19_4 := blk_frozen BK257.out 4) | ((with_reducible refine gate_callee (f := 17) rfl ?_); refine goesL_ (some 47) rfl rfl Try.func17 (by kernel_rfl) rfl #[.int .i64 t250, .int .i64 2, .bool a3, .int .i64 (Int.tmod (wrap64 (a1)) 300), .int .u64 a2, .bool a4] rfl (by (try simp only [List.map_toArray, List.map_cons, List.map_nil]); first | done | rfl | (simp only [List.length_drop, List.length_take]; rfl)) ?_; (with_reducible refine (round_Pack.calls k t250 2 a3 (Int.tmod (wrap64 (a1)) 300) a2 a4 t258 t259 t260 t261 t262 t263 _ A10.out).mono ?_); rintro e w20 ⟨rfl, hb⟩; refine ⟨_, rfl, ?_⟩; have n0_ := Aside0.mk (blk_below (g := gb257) (o := .cells #[.bool t252, .bool t253, .bool t254, .bool t255, .bool t256] 30 (0, 0)) (by (with_reducible repeat (first | refine blk_drewN ?_ _ | refine blk_drew ?_ | refine blk_alloc ?_ _)); refine blk_put (cs := #[.bool t252, .bool t253, .bool t254, .bool t255, .bool false]) ?_ 4 _ rfl; (with_reducible repeat (first | refine blk_drewN ?_ _ | refine blk_drew ?_ | refine blk_alloc ?_ _)); refine blk_put (cs := #[.bool t252, .bool t253, .bool t254, .bool false, .bool false]) ?_ 3 _ rfl; (with_reducible repeat (first | refine blk_drewN ?_ _ | refine blk_drew ?_ | refine blk_alloc ?_ _)); refine blk_put (cs := #[.bool t252, .bool t253, .bool false, .bool false, .bool false]) ?_ 2 _ rfl; (with_reducible repeat (first | refine blk_drewN ?_ _ | refine blk_drew ?_ | refine blk_alloc ?_ _)); refine blk_put (cs := #[.bool t252, .bool false, .bool false, .bool false, .bool false]) ?_ 1 _ rfl; (with_reducible repeat (first | refine blk_drewN ?_ _ | refine blk_drew ?_ | refine blk_alloc ?_ _)); refine blk_put (cs := #[.bool false, .bool false, .bool false, .bool false, .bool false]) ?_ 0 _ rfl; (with_reducible repeat (first | refine blk_drewN ?_ _ | refine blk_drew ?_ | refine blk_alloc ?_ _)); exact BK257.out) hb); have n1_ := Aside0.mk (below_step (by repeat (first | (with_reducible first | exact HB.out | apply below_alloc | apply pw_below_drewN | apply below_drew1 | refine below_set ?_ GE257.out) | exact HB.out)) hb); clear BK257; clear HB; have BK257 := n0_; have HB := n1_; clear n0_ n1_; (try clear hb); (try clear hb2); (try clear hk); (try clear hi)) | ((with_reducible refine gate_dst (N := 16) rfl ?_); refine box_event ?hg (N := 16) ?hd (cs := #[.bool false, .bool false, .bool false, .bool false, .bool false]) (t := 30) ?hr ?_; (case hd => rfl); (case hg => rfl); (case hr => first | (go_simp; done) | (go_simp; rfl)); intro gb264 hg w21 hbox hb; have n0_ := Aside0.mk (blk_below (g := gb257) (o := .cells #[.bool t252, .bool t253, .bool t254, .bool t255, .bool t256] 30 (0, 0)) (by (with_reducible repeat (first | refine blk_drewN ?_ _ | refine blk_drew ?_ | refine blk_alloc ?_ _)); exact BK257.out) hb); have n1_ := Aside0.mk (below_step (by repeat (first | (with_reducible first | exact HB.out | apply below_alloc | apply pw_below_drewN | apply below_drew1 | refine below_set ?_ GE257.out) | exact HB.out)) hb); have n2_ := Aside0.mk (hbox); have n3_ := Aside0.mk ((by rw [hg]; exact (below_size (by repeat (first | (with_reducible first | exact HB.out | apply below_alloc | apply pw_below_drewN | apply below_drew1 | refine below_set ?_ GE257.out) | exact HB.out))) : w.heap.size ≤ gb264)); have n4_ := Aside0.mk ((by rw [hg]; exact (below_size (by repeat (first | (with_reducible first | exact HB.out | apply below_alloc | apply pw_below_drewN | apply below_drew1 | refine below_set ?_ GE257.out) | exact HB.out))) : w.heap.size ≤ gb264)); have n5_ := Aside0.mk ((by rw [hg]; exact Nat.ne_of_lt (blk_lt (g := gb257) (o := .cells #[.bool t252, .bool t253, .bool t254, .bool t255, .bool t256] 30 (0, 0)) (by (with_reducible repeat (first | refine blk_drewN ?_ _ | refine blk_drew ?_ | refine blk_alloc ?_ _)); exact BK257.out)) : gb257 ≠ gb264)); have n6_ := Aside0.mk ((by rw [hg]; exact Nat.ne_of_gt (blk_lt (g := gb257) (o := .cells #[.bool t252, .bool t253, .bool t254, .bool t255, .bool t256] 30 (0, 0)) (by (with_reducible repeat (first | refine blk_drewN ?_ _ | refine blk_drew ?_ | refine blk_alloc ?_ _)); exact BK257.out)) : gb264 ≠ gb257)); clear BK257; clear HB; have BK257 := n0_; have HB := n1_; have BK264 := n2_; have GW264 := n3_; have GE264 := n4_; have NB257_264 := n5_; have NB264_257 := n6_; clear n0_ n1_ n2_ n3_ n4_ n5_ n6_; clear hb hbox hg; have hnb22 := NB264_257.out; have hnc22 := NB257_264.out; have hcz23_0 : w21.cell? ⟨gb264, 0, none⟩ = some (.bool false) := (blk_cell BK264.out 0).trans rfl; have hcz23_1 : w21.cell? ⟨gb264, 1, none⟩ = some (.bool false) := (blk_cell BK264.out 1).trans rfl; have hcz23_2 : w21.cell? ⟨gb264, 2, none⟩ = some (.bool false) := (blk_cell BK264.out 2).trans rfl; have hcz23_3 : w21.cell? ⟨gb264, 3, none⟩ = some (.bool false) := (blk_cell BK264.out 3).trans rfl; have hcz23_4 : w21.cell? ⟨gb264, 4, none⟩ = some (.bool false) := (blk_cell BK264.out 4).trans rfl; have hfz23_0 := blk_frozen BK264.out 0; have hfz23_1 := blk_frozen BK264.out 1; have hfz23_2 := blk_frozen BK264.out 2; have hfz23_3 := blk_frozen BK264.out 3; have hfz23_4 := blk_frozen BK264.out 4) | ((with_reducible refine gate_callee (f := 17) rfl ?_); refine goesL_ (some 56) rfl rfl Try.func17 (by kernel_rfl) rfl #[.int .i64 t250, .int .i64 3, .bool a3, .int .i64 (Int.tmod (wrap64 (a1)) 300), .int .u64 a2, .bool a4] rfl (by (try simp only [List.map_toArray, List.map_cons, List.map_nil]); first | done | rfl | (simp only [List.length_drop, List.length_take]; rfl)) ?_; (with_reducible refine (round_Pack.calls k t250 3 a3 (Int.tmod (wrap64 (a1)) 300) a2 a4 t265 t266 t267 t268 t269 t270 _ A11.out).mono ?_); rintro e w24 ⟨rfl, hb⟩; refine ⟨_, rfl, ?_⟩; have n0_ := Aside0.mk (blk_below (g := gb257) (o := .cells #[.bool t252, .bool t253, .bool t254, .bool t255, .bool t256] 30 (0, 0)) (by (with_reducible repeat (first | refine blk_drewN ?_ _ | refine blk_drew ?_ | refine blk_alloc ?_ _)); refine blk_far ?_ NB257_264.out _; (with_reducible repeat (first | refine blk_drewN ?_ _ | refine blk_drew ?_ | refine blk_alloc ?_ _)); refine blk_far ?_ NB257_264.out _; (with_reducible repeat (first | refine blk_drewN ?_ _ | refine blk_drew ?_ | refine blk_alloc ?_ _)); refine blk_far ?_ NB257_264.out _; (with_reducible repeat (first | refine blk_drewN ?_ _ | refine blk_drew ?_ | refine blk_alloc ?_ _)); refine blk_far ?_ NB257_264.out _; (with_reducible repeat (first | refine blk_drewN ?_ _ | refine blk_drew ?_ | refine blk_alloc ?_ _)); refine blk_far ?_ NB257_264.out _; (with_reducible repeat (first | refine blk_drewN ?_ _ | refine blk_drew ?_ | refine blk_alloc ?_ _)); exact BK257.out) hb); have n1_ := Aside0.mk (blk_below (g := gb264) (o := .cells #[.bool t259, .bool t260, .bool t261, .bool t262, .bool t263] 30 (0, 0)) (by (with_reducible repeat (first | refine blk_drewN ?_ _ | refine blk_drew ?_ | refine blk_alloc ?_ _)); refine blk_put (cs := #[.bool t259, .bool t260, .bool t261, .bool t262, .bool false]) ?_ 4 _ rfl; (with_reducible repeat (first | refine blk_drewN ?_ _ | refine blk_drew ?_ | refine blk_alloc ?_ _)); refine blk_put (cs := #[.bool t259, .bool t260, .bool t261, .bool false, .bool false]) ?_ 3 _ rfl; (with_reducible repeat (first | refine blk_drewN ?_ _ | refine blk_drew ?_ | refine blk_alloc ?_ _)); refine blk_put (cs := #[.bool t259, .bool t260, .bool false, .bool false, .bool false]) ?_ 2 _ rfl; (with_reducible repeat (first | refine blk_drewN ?_ _ | refine blk_drew ?_ | refine blk_alloc ?_ _)); refine blk_put (cs := #[.bool t259, .bool false, .bool false, .bool false, .bool false]) ?_ 1 _ rfl; (with_reducible repeat (first | refine blk_drewN ?_ _ | refine blk_drew ?_ | refine blk_alloc ?_ _)); refine blk_put (cs := #[.bool false, .bool false, .bool false, .bool false, .bool false]) ?_ 0 _ rfl; (with_reducible repeat (first | refine blk_drewN ?_ _ | refine blk_drew ?_ | refine blk_alloc ?_ _)); exact BK264.out) hb); have n2_ := Aside0.mk (below_step (by repeat (first | (with_reducible first | exact HB.out | apply below_alloc | apply pw_below_drewN | apply below_drew1 | refine below_set ?_ GE257.out | refine below_set ?_ GE264.out) | exact HB.out)) hb); clear BK257; clear BK264; clear HB; have BK257 := n0_; have BK264 := n1_; have HB := n2_; clear n0_ n1_ n2_; (try clear hb); (try clear hb2); (try clear hk); (try clear hi)) | ((with_reducible refine gate_dst (N := 18) rfl ?_); refine box_event ?hg (N := 18) ?hd (cs := #[.bool false, .bool false, .bool false, .bool false, .bool false]) (t := 30) ?hr ?_; (case hd => rfl); (case hg => rfl); (case hr => first | (go_simp; done) | (go_simp; rfl)); intro gb271 hg w25 hbox hb; have n0_ := Aside0.mk (blk_below (g := gb257) (o := .cells #[.bool t252, .bool t253, .bool t254, .bool t255, .bool t256] 30 (0, 0)) (by (with_reducible repeat (first | refine blk_drewN ?_ _ | refine blk_drew ?_ | refine blk_alloc ?_ _)); exact BK257.out) hb); have n1_ := Aside0.mk (blk_below (g := gb264) (o := .cells #[.bool t259, .bool t260, .bool t261, .bool t262, .bool t263] 30 (0, 0)) (by (with_reducible repeat (first | refine blk_drewN ?_ _ | refine blk_drew ?_ | refine blk_alloc ?_ _)); exact BK264.out) hb); have n2_ := Aside0.mk (below_step (by repeat (first | (with_reducible first | exact HB.out | apply below_alloc | apply pw_below_drewN | apply below_drew1 | refine below_set ?_ GE257.out | refine below_set ?_ GE264.out) | exact HB.out)) hb); have n3_ := Aside0.mk (hbox); have n4_ := Aside0.mk ((by rw [hg]; exact (below_size (by repeat (first | (with_reducible first | exact HB.out | apply below_alloc | apply pw_below_drewN | apply below_drew1 | refine below_set ?_ GE257.out | refine below_set ?_ GE264.out) | exact HB.out))) : w.heap.size ≤ gb271)); have n5_ := Aside0.mk ((by rw [hg]; exact (below_size (by repeat (first | (with_reducible first | exact HB.out | apply below_alloc | apply pw_below_drewN | apply below_drew1 | refine below_set ?_ GE257.out | refine below_set ?_ GE264.out) | exact HB.out))) : w.heap.size ≤ gb271)); have n6_ := Aside0.mk ((by rw [hg]; exact Nat.ne_of_lt (blk_lt (g := gb257) (o := .cells #[.bool t252, .bool t253, .bool t254, .bool t255, .bool t256] 30 (0, 0)) (by (with_reducible repeat (first | refine blk_drewN ?_ _ | refine blk_drew ?_ | refine blk_alloc ?_ _)); exact BK257.out)) : gb257 ≠ gb271)); have n7_ := Aside0.mk ((by rw [hg]; exact Nat.ne_of_gt (blk_lt (g := gb257) (o := .cells #[.bool t252, .bool t253, .bool t254, .bool t255, .bool t256] 30 (0, 0)) (by (with_reducible repeat (first | refine blk_drewN ?_ _ | refine blk_drew ?_ | refine blk_alloc ?_ _)); exact BK257.out)) : gb271 ≠ gb257)); have n8_ := Aside0.mk ((by rw [hg]; exact Nat.ne_of_lt (blk_lt (g := gb264) (o := .cells #[.bool t259, .bool t260, .bool t261, .bool t262, .bool t263] 30 (0, 0)) (by (with_reducible repeat (first | refine blk_drewN ?_ _ | refine blk_drew ?_ | refine blk_alloc ?_ _)); exact BK264.out)) : gb264 ≠ gb271)); have n9_ := Aside0.mk ((by rw [hg]; exact Nat.ne_of_gt (blk_lt (g := gb264) (o := .cells #[.bool t259, .bool t260, .bool t261, .bool t262, .bool t263] 30 (0, 0)) (by (with_reducible repeat (first | refine blk_drewN ?_ _ | refine blk_drew ?_ | refine blk_alloc ?_ _)); exact BK264.out)) : gb271 ≠ gb264)); clear BK257; clear BK264; clear HB; have BK257 := n0_; have BK264 := n1_; have HB := n2_; have BK271 := n3_; have GW271 := n4_; have GE271 := n5_; have NB257_271 := n6_; have NB271_257 := n7_; have NB264_271 := n8_; have NB271_264 := n9_; clear n0_ n1_ n2_ n3_ n4_ n5_ n6_ n7_ n8_ n9_; clear hb hbox hg; have hnb26 := NB271_257.out; have hnc26 := NB257_271.out; have hnb27 := NB271_264.out; have hnc27 := NB264_271.out; have hcz28_0 : w25.cell? ⟨gb271, 0, none⟩ = some (.bool false) := (blk_cell BK271.out 0).trans rfl; have hcz28_1 : w25.cell? ⟨gb271, 1, none⟩ = some (.bool false) := (blk_cell BK271.out 1).trans rfl; have hcz28_2 : w25.cell? ⟨gb271, 2, none⟩ = some (.bool false) := (blk_cell BK271.out 2).trans rfl; have hcz28_3 : w25.cell? ⟨gb271, 3, none⟩ = some (.bool false) := (blk_cell BK271.out 3).trans rfl; have hcz28_4 : w25.cell? ⟨gb271, 4, none⟩ = some (.bool false) := (blk_cell BK271.out 4).trans rfl; have hfz28_0 := blk_frozen BK271.out 0; have hfz28_1 := blk_frozen BK271.out 1; have hfz28_2 := blk_frozen BK271.out 2; have hfz28_3 := blk_frozen BK271.out 3; have hfz28_4 := blk_frozen BK271.out 4) | ((with_reducible refine gate_callee (f := 17) rfl ?_); refine goesL_ (some 65) rfl rfl Try.func17 (by kernel_rfl) rfl #[.int .i64 t250, .int .i64 0, .bool a3, .int .i64 (Int.tmod (wrap64 (a1)) 300), .int .u64 a2, .bool a4] rfl (by (try simp only [List.map_toArray, List.map_cons, List.map_nil]); first | done | rfl | (simp only [List.length_drop, List.length_take]; rfl)) ?_; (with_reducible refine (round_Pack.calls k t250 0 a3 (Int.tmod (wrap64 (a1)) 300) a2 a4 t272 t273 t274 t275 t276 t277 _ A12.out).mono ?_); rintro e w29 ⟨rfl, hb⟩; refine ⟨_, rfl, ?_⟩; have n0_ := Aside0.mk (blk_below (g := gb257) (o := .cells #[.bool t252, .bool t253, .bool t254, .bool t255, .bool t256] 30 (0, 0)) (by (with_reducible repeat (first | refine blk_drewN ?_ _ | refine blk_drew ?_ | refine blk_alloc ?_ _)); refine blk_far ?_ NB257_271.out _; (with_reducible repeat (first | refine blk_drewN ?_ _ | refine blk_drew ?_ | refine blk_alloc ?_ _)); refine blk_far ?_ NB257_271.out _; (with_reducible repeat (first | refine blk_drewN ?_ _ | refine blk_drew ?_ | refine blk_alloc ?_ _)); refine blk_far ?_ NB257_271.out _; (with_reducible repeat (first | refine blk_drewN ?_ _ | refine blk_drew ?_ | refine blk_alloc ?_ _)); refine blk_far ?_ NB257_271.out _; (with_reducible repeat (first | refine blk_drewN ?_ _ | refine blk_drew ?_ | refine blk_alloc ?_ _)); refine blk_far ?_ NB257_271.out _; (with_reducible repeat (first | refine blk_drewN ?_ _ | refine blk_drew ?_ | refine blk_alloc ?_ _)); exact BK257.out) hb); have n1_ := Aside0.mk (blk_below (g := gb264) (o := .cells #[.bool t259, .bool t260, .bool t261, .bool t262, .bool t263] 30 (0, 0)) (by (with_reducible repeat (first | refine blk_drewN ?_ _ | refine blk_drew ?_ | refine blk_alloc ?_ _)); refine blk_far ?_ NB264_271.out _; (with_reducible repeat (first | refine blk_drewN ?_ _ | refine blk_drew ?_ | refine blk_alloc ?_ _)); refine blk_far ?_ NB264_271.out _; (with_reducible repeat (first | refine blk_drewN ?_ _ | refine blk_drew ?_ | refine blk_alloc ?_ _)); refine blk_far ?_ NB264_271.out _; (with_reducible repeat (first | refine blk_drewN ?_ _ | refine blk_drew ?_ | refine blk_alloc ?_ _)); refine blk_far ?_ NB264_271.out _; (with_reducible repeat (first | refine blk_drewN ?_ _ | refine blk_drew ?_ | refine blk_alloc ?_ _)); refine blk_far ?_ NB264_271.out _; (with_reducible repeat (first | refine blk_drewN ?_ _ | refine blk_drew ?_ | refine blk_alloc ?_ _)); exact BK264.out) hb); have n2_ := Aside0.mk (blk_below (g := gb271) (o := .cells #[.bool t266, .bool t267, .bool t268, .bool t269, .bool t270] 30 (0, 0)) (by (with_reducible repeat (first | refine blk_drewN ?_ _ | refine blk_drew ?_ | refine blk_alloc ?_ _)); refine blk_put (cs := #[.bool t266, .bool t267, .bool t268, .bool t269, .bool false]) ?_ 4 _ rfl; (with_reducible repeat (first | refine blk_drewN ?_ _ | refine blk_drew ?_ | refine blk_alloc ?_ _)); refine blk_put (cs := #[.bool t266, .bool t267, .bool t268, .bool false, .bool false]) ?_ 3 _ rfl; (with_reducible repeat (first | refine blk_drewN ?_ _ | refine blk_drew ?_ | refine blk_alloc ?_ _)); refine blk_put (cs := #[.bool t266, .bool t267, .bool false, .bool false, .bool false]) ?_ 2 _ rfl; (with_reducible repeat (first | refine blk_drewN ?_ _ | refine blk_drew ?_ | refine blk_alloc ?_ _)); refine blk_put (cs := #[.bool t266, .bool false, .bool false, .bool false, .bool false]) ?_ 1 _ rfl; (with_reducible repeat (first | refine blk_drewN ?_ _ | refine blk_drew ?_ | refine blk_alloc ?_ _)); refine blk_put (cs := #[.bool false, .bool false, .bool false, .bool false, .bool false]) ?_ 0 _ rfl; (with_reducible repeat (first | refine blk_drewN ?_ _ | refine blk_drew ?_ | refine blk_alloc ?_ _)); exact BK271.out) hb); have n3_ := Aside0.mk (below_step (by repeat (first | (with_reducible first | exact HB.out | apply below_alloc | apply pw_below_drewN | apply below_drew1 | refine below_set ?_ GE257.out | refine below_set ?_ GE264.out | refine below_set ?_ GE271.out) | exact HB.out)) hb); clear BK257; clear BK264; clear BK271; clear HB; have BK257 := n0_; have BK264 := n1_; have BK271 := n2_; have HB := n3_; clear n0_ n1_ n2_ n3_; (try clear hb); (try clear hb2); (try clear hk); (try clear hi)) | ((with_reducible refine gate_dst (N := 20) rfl ?_); refine box_event ?hg (N := 20) ?hd (cs := #[.bool false, .bool false, .bool false, .bool false, .bool false]) (t := 30) ?hr ?_; (case hd => rfl); (case hg => rfl); (case hr => first | (go_simp; done) | (go_simp; rfl)); intro gb278 hg w30 hbox hb; have n0_ := Aside0.mk (blk_below (g := gb257) (o := .cells #[.bool t252, .bool t253, .bool t254, .bool t255, .bool t256] 30 (0, 0)) (by (with_reducible repeat (first | refine blk_drewN ?_ _ | refine blk_drew ?_ | refine blk_alloc ?_ _)); exact BK257.out) hb); have n1_ := Aside0.mk (blk_below (g := gb264) (o := .cells #[.bool t259, .bool t260, .bool t261, .bool t262, .bool t263] 30 (0, 0)) (by (with_reducible repeat (first | refine blk_drewN ?_ _ | refine blk_drew ?_ | refine blk_alloc ?_ _)); exact BK264.out) hb); have n2_ := Aside0.mk (blk_below (g := gb271) (o := .cells #[.bool t266, .bool t267, .bool t268, .bool t269, .bool t270] 30 (0, 0)) (by (with_reducible repeat (first | refine blk_drewN ?_ _ | refine blk_drew ?_ | refine blk_alloc ?_ _)); exact BK271.out) hb); have n3_ := Aside0.mk (below_step (by repeat (first | (with_reducible first | exact HB.out | apply below_alloc | apply pw_below_drewN | apply below_drew1 | refine below_set ?_ GE257.out | refine below_set ?_ GE264.out | refine below_set ?_ GE271.out) | exact HB.out)) hb); have n4_ := Aside0.mk (hbox); have n5_ := Aside0.mk ((by rw [hg]; exact (below_size (by repeat (first | (with_reducible first | exact HB.out | apply below_alloc | apply pw_below_drewN | apply below_drew1 | refine below_set ?_ GE257.out | refine below_set ?_ GE264.out | refine below_set ?_ GE271.out) | exact HB.out))) : w.heap.size ≤ gb278)); have n6_ := Aside0.mk ((by rw [hg]; exact (below_size (by repeat (first | (with_reducible first | exact HB.out | apply below_alloc | apply pw_below_drewN | apply below_drew1 | refine below_set ?_ GE257.out | refine below_set ?_ GE264.out | refine below_set ?_ GE271.out) | exact HB.out))) : w.heap.size ≤ gb278)); have n7_ := Aside0.mk ((by rw [hg]; exact Nat.ne_of_lt (blk_lt (g := gb257) (o := .cells #[.bool t252, .bool t253, .bool t254, .bool t255, .bool t256] 30 (0, 0)) (by (with_reducible repeat (first | refine blk_drewN ?_ _ | refine blk_drew ?_ | refine blk_alloc ?_ _)); exact BK257.out)) : gb257 ≠ gb278)); have n8_ := Aside0.mk ((by rw [hg]; exact Nat.ne_of_gt (blk_lt (g := gb257) (o := .cells #[.bool t252, .bool t253, .bool t254, .bool t255, .bool t256] 30 (0, 0)) (by (with_reducible repeat (first | refine blk_drewN ?_ _ | refine blk_drew ?_ | refine blk_alloc ?_ _)); exact BK257.out)) : gb278 ≠ gb257)); have n9_ := Aside0.mk ((by rw [hg]; exact Nat.ne_of_lt (blk_lt (g := gb264) (o := .cells #[.bool t259, .bool t260, .bool t261, .bool t262, .bool t263] 30 (0, 0)) (by (with_reducible repeat (first | refine blk_drewN ?_ _ | refine blk_drew ?_ | refine blk_alloc ?_ _)); exact BK264.out)) : gb264 ≠ gb278)); have n10_ := Aside0.mk ((by rw [hg]; exact Nat.ne_of_gt (blk_lt (g := gb264) (o := .cells #[.bool t259, .bool t260, .bool t261, .bool t262, .bool t263] 30 (0, 0)) (by (with_reducible repeat (first | refine blk_drewN ?_ _ | refine blk_drew ?_ | refine blk_alloc ?_ _)); exact BK264.out)) : gb278 ≠ gb264)); have n11_ := Aside0.mk ((by rw [hg]; exact Nat.ne_of_lt (blk_lt (g := gb271) (o := .cells #[.bool t266, .bool t267, .bool t268, .bool t269, .bool t270] 30 (0, 0)) (by (with_reducible repeat (first | refine blk_drewN ?_ _ | refine blk_drew ?_ | refine blk_alloc ?_ _)); exact BK271.out)) : gb271 ≠ gb278)); have n12_ := Aside0.mk ((by rw [hg]; exact Nat.ne_of_gt (blk_lt (g := gb271) (o := .cells #[.bool t266, .bool t267, .bool t268, .bool t269, .bool t270] 30 (0, 0)) (by (with_reducible repeat (first | refine blk_drewN ?_ _ | refine blk_drew ?_ | refine blk_alloc ?_ _)); exact BK271.out)) : gb278 ≠ gb271)); clear BK257; clear BK264; clear BK271; clear HB; have BK257 := n0_; have BK264 := n1_; have BK271 := n2_; have HB := n3_; have BK278 := n4_; have GW278 := n5_; have GE278 := n6_; have NB257_278 := n7_; have NB278_257 := n8_; have NB264_278 := n9_; have NB278_264 := n10_; have NB271_278 := n11_; have NB278_271 := n12_; clear n0_ n1_ n2_ n3_ n4_ n5_ n6_ n7_ n8_ n9_ n10_ n11_ n12_; clear hb hbox hg; have hnb31 := NB278_257.out; have hnc31 := NB257_278.out; have hnb32 := NB278_264.out; have hnc32 := NB264_278.out; have hnb33 := NB278_271.out; have hnc33 := NB271_278.out; have hcz34_0 : w30.cell? ⟨gb278, 0, none⟩ = some (.bool false) := (blk_cell BK278.out 0).trans rfl; have hcz34_1 : w30.cell? ⟨gb278, 1, none⟩ = some (.bool false) := (blk_cell BK278.out 1).trans rfl; have hcz34_2 : w30.cell? ⟨gb278, 2, none⟩ = some (.bool false) := (blk_cell BK278.out 2).trans rfl; have hcz34_3 : w30.cell? ⟨gb278, 3, none⟩ = some (.bool false) := (blk_cell BK278.out 3).trans rfl; have hcz34_4 : w30.cell? ⟨gb278, 4, none⟩ = some (.bool false) := (blk_cell BK278.out 4).trans rfl; have hfz34_0 := blk_frozen BK278.out 0; have hfz34_1 := blk_frozen BK278.out 1; have hfz34_2 := blk_frozen BK278.out 2; have hfz34_3 := blk_frozen BK278.out 3; have hfz34_4 := blk_frozen BK278.out 4) | ((with_reducible refine gate_callee (f := 17) rfl ?_); refine goesL_ (some 74) rfl rfl Try.func17 (by kernel_rfl) rfl #[.int .i64 t250, .int .i64 4, .bool a3, .int .i64 (Int.tmod (wrap64 (a1)) 300), .int .u64 a2, .bool a4] rfl (by (try simp only [List.map_toArray, List.map_cons, List.map_nil]); first | done | rfl | (simp only [List.length_drop, List.length_take]; rfl)) ?_; (with_reducible refine (round_Pack.calls k t250 4 a3 (Int.tmod (wrap64 (a1)) 300) a2 a4 t279 t280 t281 t282 t283 t284 _ A13.out).mono ?_); rintro e w35 ⟨rfl, hb⟩; refine ⟨_, rfl, ?_⟩; have n0_ := Aside0.mk (blk_below (g := gb257) (o := .cells #[.bool t252, .bool t253, .bool t254, .bool t255, .bool t256] 30 (0, 0)) (by (with_reducible repeat (first | refine blk_drewN ?_ _ | refine blk_drew ?_ | refine blk_alloc ?_ _)); refine blk_far ?_ NB257_278.out _; (with_reducible repeat (first | refine blk_drewN ?_ _ | refine blk_drew ?_ | refine blk_alloc ?_ _)); refine blk_far ?_ NB257_278.out _; (with_reducible repeat (first | refine blk_drewN ?_ _ | refine blk_drew ?_ | refine blk_alloc ?_ _)); refine blk_far ?_ NB257_278.out _; (with_reducible repeat (first | refine blk_drewN ?_ _ | refine blk_drew ?_ | refine blk_alloc ?_ _)); refine blk_far ?_ NB257_278.out _; (with_reducible repeat (first | refine blk_drewN ?_ _ | refine blk_drew ?_ | refine blk_alloc ?_ _)); refine blk_far ?_ NB257_278.out _; (with_reducible repeat (first | refine blk_drewN ?_ _ | refine blk_drew ?_ | refine blk_alloc ?_ _)); exact BK257.out) hb); have n1_ := Aside0.mk (blk_below (g := gb264) (o := .cells #[.bool t259, .bool t260, .bool t261, .bool t262, .bool t263] 30 (0, 0)) (by (with_reducible repeat (first | refine blk_drewN ?_ _ | refine blk_drew ?_ | refine blk_alloc ?_ _)); refine blk_far ?_ NB264_278.out _; (with_reducible repeat (first | refine blk_drewN ?_ _ | refine blk_drew ?_ | refine blk_alloc ?_ _)); refine blk_far ?_ NB264_278.out _; (with_reducible repeat (first | refine blk_drewN ?_ _ | refine blk_drew ?_ | refine blk_alloc ?_ _)); refine blk_far ?_ NB264_278.out _; (with_reducible repeat (first | refine blk_drewN ?_ _ | refine blk_drew ?_ | refine blk_alloc ?_ _)); refine blk_far ?_ NB264_278.out _; (with_reducible repeat (first | refine blk_drewN ?_ _ | refine blk_drew ?_ | refine blk_alloc ?_ _)); refine blk_far ?_ NB264_278.out _; (with_reducible repeat (first | refine blk_drewN ?_ _ | refine blk_drew ?_ | refine blk_alloc ?_ _)); exact BK264.out) hb); have n2_ := Aside0.mk (blk_below (g := gb271) (o := .cells #[.bool t266, .bool t267, .bool t268, .bool t269, .bool t270] 30 (0, 0)) (by (with_reducible repeat (first | refine blk_drewN ?_ _ | refine blk_drew ?_ | refine blk_alloc ?_ _)); refine blk_far ?_ NB271_278.out _; (with_reducible repeat (first | refine blk_drewN ?_ _ | refine blk_drew ?_ | refine blk_alloc ?_ _)); refine blk_far ?_ NB271_278.out _; (with_reducible repeat (first | refine blk_drewN ?_ _ | refine blk_drew ?_ | refine blk_alloc ?_ _)); refine blk_far ?_ NB271_278.out _; (with_reducible repeat (first | refine blk_drewN ?_ _ | refine blk_drew ?_ | refine blk_alloc ?_ _)); refine blk_far ?_ NB271_278.out _; (with_reducible repeat (first | refine blk_drewN ?_ _ | refine blk_drew ?_ | refine blk_alloc ?_ _)); refine blk_far ?_ NB271_278.out _; (with_reducible repeat (first | refine blk_drewN ?_ _ | refine blk_drew ?_ | refine blk_alloc ?_ _)); exact BK271.out) hb); have n3_ := Aside0.mk (blk_below (g := gb278) (o := .cells #[.bool t273, .bool t274, .bool t275, .bool t276, .bool t277] 30 (0, 0)) (by (with_reducible repeat (first | refine blk_drewN ?_ _ | refine blk_drew ?_ | refine blk_alloc ?_ _)); refine blk_put (cs := #[.bool t273, .bool t274, .bool t275, .bool t276, .bool false]) ?_ 4 _ rfl; (with_reducible repeat (first | refine blk_drewN ?_ _ | refine blk_drew ?_ | refine blk_alloc ?_ _)); refine blk_put (cs := #[.bool t273, .bool t274, .bool t275, .bool false, .bool false]) ?_ 3 _ rfl; (with_reducible repeat (first | refine blk_drewN ?_ _ | refine blk_drew ?_ | refine blk_alloc ?_ _)); refine blk_put (cs := #[.bool t273, .bool t274, .bool false, .bool false, .bool false]) ?_ 2 _ rfl; (with_reducible repeat (first | refine blk_drewN ?_ _ | refine blk_drew ?_ | refine blk_alloc ?_ _)); refine blk_put (cs := #[.bool t273, .bool false, .bool false, .bool false, .bool false]) ?_ 1 _ rfl; (with_reducible repeat (first | refine blk_drewN ?_ _ | refine blk_drew ?_ | refine blk_alloc ?_ _)); refine blk_put (cs := #[.bool false, .bool false, .bool false, .bool false, .bool false]) ?_ 0 _ rfl; (with_reducible repeat (first | refine blk_drewN ?_ _ | refine blk_drew ?_ | refine blk_alloc ?_ _)); exact BK278.out) hb); have n4_ := Aside0.mk (below_step (by repeat (first | (with_reducible first | exact HB.out | apply below_alloc | apply pw_below_drewN | apply below_drew1 | refine below_set ?_ GE257.out | refine below_set ?_ GE264.out | refine below_set ?_ GE271.out | refine below_set ?_ GE278.out) | exact HB.out)) hb); clear BK257; clear BK264; clear BK271; clear BK278; clear HB; have BK257 := n0_; have BK264 := n1_; have BK271 := n2_; have BK278 := n3_; have HB := n4_; clear n0_ n1_ n2_ n3_ n4_; (try clear hb); (try clear hb2); (try clear hk); (try clear hi)) | ((with_reducible refine gate_dst (N := 22) rfl ?_); refine box_event ?hg (N := 22) ?hd (cs := #[.bool false, .bool false, .bool false, .bool false, .bool false]) (t := 30) ?hr ?_; (case hd => rfl); (case hg => rfl); (case hr => first | (go_simp; done) | (go_simp; rfl)); intro gb285 hg w36 hbox hb; have n0_ := Aside0.mk (blk_below (g := gb257) (o := .cells #[.bool t252, .bool t253, .bool t254, .bool t255, .bool t256] 30 (0, 0)) (by (with_reducible repeat (first | refine blk_drewN ?_ _ | refine blk_drew ?_ | refine blk_alloc ?_ _)); exact BK257.out) hb); have n1_ := Aside0.mk (blk_below (g := gb264) (o := .cells #[.bool t259, .bool t260, .bool t261, .bool t262, .bool t263] 30 (0, 0)) (by (with_reducible repeat (first | refine blk_drewN ?_ _ | refine blk_drew ?_ | refine blk_alloc ?_ _)); exact BK264.out) hb); have n2_ := Aside0.mk (blk_below (g := gb271) (o := .cells #[.bool t266, .bool t267, .bool t268, .bool t269, .bool t270] 30 (0, 0)) (by (with_reducible repeat (first | refine blk_drewN ?_ _ | refine blk_drew ?_ | refine blk_alloc ?_ _)); exact BK271.out) hb); have n3_ := Aside0.mk (blk_below (g := gb278) (o := .cells #[.bool t273, .bool t274, .bool t275, .bool t276, .bool t277] 30 (0, 0)) (by (with_reducible repeat (first | refine blk_drewN ?_ _ | refine blk_drew ?_ | refine blk_alloc ?_ _)); exact BK278.out) hb); have n4_ := Aside0.mk (below_step (by repeat (first | (with_reducible first | exact HB.out | apply below_alloc | apply pw_below_drewN | apply below_drew1 | refine below_set ?_ GE257.out | refine below_set ?_ GE264.out | refine below_set ?_ GE271.out | refine below_set ?_ GE278.out) | exact HB.out)) hb); have n5_ := Aside0.mk (hbox); have n6_ := Aside0.mk ((by rw [hg]; exact (below_size (by repeat (first | (with_reducible first | exact HB.out | apply below_alloc | apply pw_below_drewN | apply below_drew1 | refine below_set ?_ GE257.out | refine below_set ?_ GE264.out | refine below_set ?_ GE271.out | refine below_set ?_ GE278.out) | exact HB.out))) : w.heap.size ≤ gb285)); have n7_ := Aside0.mk ((by rw [hg]; exact (below_size (by repeat (first | (with_reducible first | exact HB.out | apply below_alloc | apply pw_below_drewN | apply below_drew1 | refine below_set ?_ GE257.out | refine below_set ?_ GE264.out | refine below_set ?_ GE271.out | refine below_set ?_ GE278.out) | exact HB.out))) : w.heap.size ≤ gb285)); have n8_ := Aside0.mk ((by rw [hg]; exact Nat.ne_of_lt (blk_lt (g := gb257) (o := .cells #[.bool t252, .bool t253, .bool t254, .bool t255, .bool t256] 30 (0, 0)) (by (with_reducible repeat (first | refine blk_drewN ?_ _ | refine blk_drew ?_ | refine blk_alloc ?_ _)); exact BK257.out)) : gb257 ≠ gb285)); have n9_ := Aside0.mk ((by rw [hg]; exact Nat.ne_of_gt (blk_lt (g := gb257) (o := .cells #[.bool t252, .bool t253, .bool t254, .bool t255, .bool t256] 30 (0, 0)) (by (with_reducible repeat (first | refine blk_drewN ?_ _ | refine blk_drew ?_ | refine blk_alloc ?_ _)); exact BK257.out)) : gb285 ≠ gb257)); have n10_ := Aside0.mk ((by rw [hg]; exact Nat.ne_of_lt (blk_lt (g := gb264) (o := .cells #[.bool t259, .bool t260, .bool t261, .bool t262, .bool t263] 30 (0, 0)) (by (with_reducible repeat (first | refine blk_drewN ?_ _ | refine blk_drew ?_ | refine blk_alloc ?_ _)); exact BK264.out)) : gb264 ≠ gb285)); have n11_ := Aside0.mk ((by rw [hg]; exact Nat.ne_of_gt (blk_lt (g := gb264) (o := .cells #[.bool t259, .bool t260, .bool t261, .bool t262, .bool t263] 30 (0, 0)) (by (with_reducible repeat (first | refine blk_drewN ?_ _ | refine blk_drew ?_ | refine blk_alloc ?_ _)); exact BK264.out)) : gb285 ≠ gb264)); have n12_ := Aside0.mk ((by rw [hg]; exact Nat.ne_of_lt (blk_lt (g := gb271) (o := .cells #[.bool t266, .bool t267, .bool t268, .bool t269, .bool t270] 30 (0, 0)) (by (with_reducible repeat (first | refine blk_drewN ?_ _ | refine blk_drew ?_ | refine blk_alloc ?_ _)); exact BK271.out)) : gb271 ≠ gb285)); have n13_ := Aside0.mk ((by rw [hg]; exact Nat.ne_of_gt (blk_lt (g := gb271) (o := .cells #[.bool t266, .bool t267, .bool t268, .bool t269, .bool t270] 30 (0, 0)) (by (with_reducible repeat (first | refine blk_drewN ?_ _ | refine blk_drew ?_ | refine blk_alloc ?_ _)); exact BK271.out)) : gb285 ≠ gb271)); have n14_ := Aside0.mk ((by rw [hg]; exact Nat.ne_of_lt (blk_lt (g := gb278) (o := .cells #[.bool t273, .bool t274, .bool t275, .bool t276, .bool t277] 30 (0, 0)) (by (with_reducible repeat (first | refine blk_drewN ?_ _ | refine blk_drew ?_ | refine blk_alloc ?_ _)); exact BK278.out)) : gb278 ≠ gb285)); have n15_ := Aside0.mk ((by rw [hg]; exact Nat.ne_of_gt (blk_lt (g := gb278) (o := .cells #[.bool t273, .bool t274, .bool t275, .bool t276, .bool t277] 30 (0, 0)) (by (with_reducible repeat (first | refine blk_drewN ?_ _ | refine blk_drew ?_ | refine blk_alloc ?_ _)); exact BK278.out)) : gb285 ≠ gb278)); clear BK257; clear BK264; clear BK271; clear BK278; clear HB; have BK257 := n0_; have BK264 := n1_; have BK271 := n2_; have BK278 := n3_; have HB := n4_; have BK285 := n5_; have GW285 := n6_; have GE285 := n7_; have NB257_285 := n8_; have NB285_257 := n9_; have NB264_285 := n10_; have NB285_264 := n11_; have NB271_285 := n12_; have NB285_271 := n13_; have NB278_285 := n14_; have NB285_278 := n15_; clear n0_ n1_ n2_ n3_ n4_ n5_ n6_ n7_ n8_ n9_ n10_ n11_ n12_ n13_ n14_ n15_; clear hb hbox hg; have hnb37 := NB285_257.out; have hnc37 := NB257_285.out; have hnb38 := NB285_264.out; have hnc38 := NB264_285.out; have hnb39 := NB285_271.out; have hnc39 := NB271_285.out; have hnb40 := NB285_278.out; have hnc40 := NB278_285.out; have hcz41_0 : w36.cell? ⟨gb285, 0, none⟩ = some (.bool false) := (blk_cell BK285.out 0).trans rfl; have hcz41_1 : w36.cell? ⟨gb285, 1, none⟩ = some (.bool false) := (blk_cell BK285.out 1).trans rfl; have hcz41_2 : w36.cell? ⟨gb285, 2, none⟩ = some (.bool false) := (blk_cell BK285.out 2).trans rfl; have hcz41_3 : w36.cell? ⟨gb285, 3, none⟩ = some (.bool false) := (blk_cell BK285.out 3).trans rfl; have hcz41_4 : w36.cell? ⟨gb285, 4, none⟩ = some (.bool false) := (blk_cell BK285.out 4).trans rfl; have hfz41_0 := blk_frozen BK285.out 0; have hfz41_1 := blk_frozen BK285.out 1; have hfz41_2 := blk_frozen BK285.out 2; have hfz41_3 := blk_frozen BK285.out 3; have hfz41_4 := blk_frozen BK285.out 4))
    (try simp only [Act.put, List.setIfInBounds_toArray, List.set_cons_zero, List.set_cons_succ])
    go_cut [23, 24] (fun v23 v24 wc => ∃ (kq : Nat) (x23_13 : Int) (x24_13 : Int), v23 = .int .u32 x23_13 ∧ v24 = .int .u32 x24_13 ∧ Aside0 (anneallaw3_RoundModes.j0 kq t251 t272 t279 x23_13 x24_13 t252 t253 t254 t255 t256 t259 t260 t261 t262 t263 t266 t267 t268 t269 t270 t273 t274 t275 t276 t277 = some r) ∧ Aside0 (kq ≤ k) ∧ Aside0 (wc.heap[gb257]? = some (.cells #[.bool t252, .bool t253, .bool t254, .bool t255, .bool t256] 30 (0, 0))) ∧ Aside0 (wc.heap[gb264]? = some (.cells #[.bool t259, .bool t260, .bool t261, .bool t262, .bool t263] 30 (0, 0))) ∧ Aside0 (wc.heap[gb271]? = some (.cells #[.bool t266, .bool t267, .bool t268, .bool t269, .bool t270] 30 (0, 0))) ∧ Aside0 (wc.heap[gb278]? = some (.cells #[.bool t273, .bool t274, .bool t275, .bool t276, .bool t277] 30 (0, 0))) ∧ Aside0 (wc.heap[gb285]? = some (.cells #[.bool t280, .bool t281, .bool t282, .bool t283, .bool t284] 30 (0, 0))) ∧ Aside0 (Below w.heap.size w wc))
    case first =>
      have H := HC14.out
      clear HC14
      by_cases c42 : a3 = true
      · subst c42
        have H1 : (anneallaw3_RoundModes.j0 k t251 t272 t279 t265 t258 t252 t253 t254 t255 t256 t259 t260 t261 t262 t263 t266 t267 t268 t269 t270 t273 t274 t275 t276 t277) = some r := by rw [if_pos rfl] at H; exact H
        clear H
        have H := H1
        clear H1
        have H' := Aside0.mk H
        clear H
        go_wp2
        go_meet
        case rel => exact ⟨_, (t265), (t258), (by first | rfl | (simp; done) | (simp [*]; done) | (congr 1; (try unfold wrap64); omega)), (by first | rfl | (simp; done) | (simp [*]; done) | (congr 1; (try unfold wrap64); omega)), H', ⟨by first | omega | exact Nat.le_refl _⟩, ⟨by (with_reducible repeat (first | refine blk_drewN ?_ _ | refine blk_drew ?_ | refine blk_alloc ?_ _)); refine blk_far ?_ NB257_285.out _; (with_reducible repeat (first | refine blk_drewN ?_ _ | refine blk_drew ?_ | refine blk_alloc ?_ _)); refine blk_far ?_ NB257_285.out _; (with_reducible repeat (first | refine blk_drewN ?_ _ | refine blk_drew ?_ | refine blk_alloc ?_ _)); refine blk_far ?_ NB257_285.out _; (with_reducible repeat (first | refine blk_drewN ?_ _ | refine blk_drew ?_ | refine blk_alloc ?_ _)); refine blk_far ?_ NB257_285.out _; (with_reducible repeat (first | refine blk_drewN ?_ _ | refine blk_drew ?_ | refine blk_alloc ?_ _)); refine blk_far ?_ NB257_285.out _; (with_reducible repeat (first | refine blk_drewN ?_ _ | refine blk_drew ?_ | refine blk_alloc ?_ _)); exact BK257.out⟩, ⟨by (with_reducible repeat (first | refine blk_drewN ?_ _ | refine blk_drew ?_ | refine blk_alloc ?_ _)); refine blk_far ?_ NB264_285.out _; (with_reducible repeat (first | refine blk_drewN ?_ _ | refine blk_drew ?_ | refine blk_alloc ?_ _)); refine blk_far ?_ NB264_285.out _; (with_reducible repeat (first | refine blk_drewN ?_ _ | refine blk_drew ?_ | refine blk_alloc ?_ _)); refine blk_far ?_ NB264_285.out _; (with_reducible repeat (first | refine blk_drewN ?_ _ | refine blk_drew ?_ | refine blk_alloc ?_ _)); refine blk_far ?_ NB264_285.out _; (with_reducible repeat (first | refine blk_drewN ?_ _ | refine blk_drew ?_ | refine blk_alloc ?_ _)); refine blk_far ?_ NB264_285.out _; (with_reducible repeat (first | refine blk_drewN ?_ _ | refine blk_drew ?_ | refine blk_alloc ?_ _)); exact BK264.out⟩, ⟨by (with_reducible repeat (first | refine blk_drewN ?_ _ | refine blk_drew ?_ | refine blk_alloc ?_ _)); refine blk_far ?_ NB271_285.out _; (with_reducible repeat (first | refine blk_drewN ?_ _ | refine blk_drew ?_ | refine blk_alloc ?_ _)); refine blk_far ?_ NB271_285.out _; (with_reducible repeat (first | refine blk_drewN ?_ _ | refine blk_drew ?_ | refine blk_alloc ?_ _)); refine blk_far ?_ NB271_285.out _; (with_reducible repeat (first | refine blk_drewN ?_ _ | refine blk_drew ?_ | refine blk_alloc ?_ _)); refine blk_far ?_ NB271_285.out _; (with_reducible repeat (first | refine blk_drewN ?_ _ | refine blk_drew ?_ | refine blk_alloc ?_ _)); refine blk_far ?_ NB271_285.out _; (with_reducible repeat (first | refine blk_drewN ?_ _ | refine blk_drew ?_ | refine blk_alloc ?_ _)); exact BK271.out⟩, ⟨by (with_reducible repeat (first | refine blk_drewN ?_ _ | refine blk_drew ?_ | refine blk_alloc ?_ _)); refine blk_far ?_ NB278_285.out _; (with_reducible repeat (first | refine blk_drewN ?_ _ | refine blk_drew ?_ | refine blk_alloc ?_ _)); refine blk_far ?_ NB278_285.out _; (with_reducible repeat (first | refine blk_drewN ?_ _ | refine blk_drew ?_ | refine blk_alloc ?_ _)); refine blk_far ?_ NB278_285.out _; (with_reducible repeat (first | refine blk_drewN ?_ _ | refine blk_drew ?_ | refine blk_alloc ?_ _)); refine blk_far ?_ NB278_285.out _; (with_reducible repeat (first | refine blk_drewN ?_ _ | refine blk_drew ?_ | refine blk_alloc ?_ _)); refine blk_far ?_ NB278_285.out _; (with_reducible repeat (first | refine blk_drewN ?_ _ | refine blk_drew ?_ | refine blk_alloc ?_ _)); exact BK278.out⟩, ⟨by (with_reducible repeat (first | refine blk_drewN ?_ _ | refine blk_drew ?_ | refine blk_alloc ?_ _)); refine blk_put (cs := #[.bool t280, .bool t281, .bool t282, .bool t283, .bool false]) ?_ 4 _ rfl; (with_reducible repeat (first | refine blk_drewN ?_ _ | refine blk_drew ?_ | refine blk_alloc ?_ _)); refine blk_put (cs := #[.bool t280, .bool t281, .bool t282, .bool false, .bool false]) ?_ 3 _ rfl; (with_reducible repeat (first | refine blk_drewN ?_ _ | refine blk_drew ?_ | refine blk_alloc ?_ _)); refine blk_put (cs := #[.bool t280, .bool t281, .bool false, .bool false, .bool false]) ?_ 2 _ rfl; (with_reducible repeat (first | refine blk_drewN ?_ _ | refine blk_drew ?_ | refine blk_alloc ?_ _)); refine blk_put (cs := #[.bool t280, .bool false, .bool false, .bool false, .bool false]) ?_ 1 _ rfl; (with_reducible repeat (first | refine blk_drewN ?_ _ | refine blk_drew ?_ | refine blk_alloc ?_ _)); refine blk_put (cs := #[.bool false, .bool false, .bool false, .bool false, .bool false]) ?_ 0 _ rfl; (with_reducible repeat (first | refine blk_drewN ?_ _ | refine blk_drew ?_ | refine blk_alloc ?_ _)); exact BK285.out⟩, ⟨by repeat (first | (with_reducible first | exact HB.out | apply below_alloc | apply pw_below_drewN | apply below_drew1 | refine below_set ?_ GE257.out | refine below_set ?_ GE264.out | refine below_set ?_ GE271.out | refine below_set ?_ GE278.out | refine below_set ?_ GE285.out) | exact HB.out)⟩⟩
      · replace c42 := Bool.eq_false_iff.mpr c42
        subst c42
        have H1 : (anneallaw3_RoundModes.j0 k t251 t272 t279 t258 t265 t252 t253 t254 t255 t256 t259 t260 t261 t262 t263 t266 t267 t268 t269 t270 t273 t274 t275 t276 t277) = some r := by rw [if_neg (show ¬ (false = true) by decide)] at H; exact H
        clear H
        have H := H1
        clear H1
        have H' := Aside0.mk H
        clear H
        go_wp2
        go_meet
        case rel => exact ⟨_, (t258), (t265), (by first | rfl | (simp; done) | (simp [*]; done) | (congr 1; (try unfold wrap64); omega)), (by first | rfl | (simp; done) | (simp [*]; done) | (congr 1; (try unfold wrap64); omega)), H', ⟨by first | omega | exact Nat.le_refl _⟩, ⟨by (with_reducible repeat (first | refine blk_drewN ?_ _ | refine blk_drew ?_ | refine blk_alloc ?_ _)); refine blk_far ?_ NB257_285.out _; (with_reducible repeat (first | refine blk_drewN ?_ _ | refine blk_drew ?_ | refine blk_alloc ?_ _)); refine blk_far ?_ NB257_285.out _; (with_reducible repeat (first | refine blk_drewN ?_ _ | refine blk_drew ?_ | refine blk_alloc ?_ _)); refine blk_far ?_ NB257_285.out _; (with_reducible repeat (first | refine blk_drewN ?_ _ | refine blk_drew ?_ | refine blk_alloc ?_ _)); refine blk_far ?_ NB257_285.out _; (with_reducible repeat (first | refine blk_drewN ?_ _ | refine blk_drew ?_ | refine blk_alloc ?_ _)); refine blk_far ?_ NB257_285.out _; (with_reducible repeat (first | refine blk_drewN ?_ _ | refine blk_drew ?_ | refine blk_alloc ?_ _)); exact BK257.out⟩, ⟨by (with_reducible repeat (first | refine blk_drewN ?_ _ | refine blk_drew ?_ | refine blk_alloc ?_ _)); refine blk_far ?_ NB264_285.out _; (with_reducible repeat (first | refine blk_drewN ?_ _ | refine blk_drew ?_ | refine blk_alloc ?_ _)); refine blk_far ?_ NB264_285.out _; (with_reducible repeat (first | refine blk_drewN ?_ _ | refine blk_drew ?_ | refine blk_alloc ?_ _)); refine blk_far ?_ NB264_285.out _; (with_reducible repeat (first | refine blk_drewN ?_ _ | refine blk_drew ?_ | refine blk_alloc ?_ _)); refine blk_far ?_ NB264_285.out _; (with_reducible repeat (first | refine blk_drewN ?_ _ | refine blk_drew ?_ | refine blk_alloc ?_ _)); refine blk_far ?_ NB264_285.out _; (with_reducible repeat (first | refine blk_drewN ?_ _ | refine blk_drew ?_ | refine blk_alloc ?_ _)); exact BK264.out⟩, ⟨by (with_reducible repeat (first | refine blk_drewN ?_ _ | refine blk_drew ?_ | refine blk_alloc ?_ _)); refine blk_far ?_ NB271_285.out _; (with_reducible repeat (first | refine blk_drewN ?_ _ | refine blk_drew ?_ | refine blk_alloc ?_ _)); refine blk_far ?_ NB271_285.out _; (with_reducible repeat (first | refine blk_drewN ?_ _ | refine blk_drew ?_ | refine blk_alloc ?_ _)); refine blk_far ?_ NB271_285.out _; (with_reducible repeat (first | refine blk_drewN ?_ _ | refine blk_drew ?_ | refine blk_alloc ?_ _)); refine blk_far ?_ NB271_285.out _; (with_reducible repeat (first | refine blk_drewN ?_ _ | refine blk_drew ?_ | refine blk_alloc ?_ _)); refine blk_far ?_ NB271_285.out _; (with_reducible repeat (first | refine blk_drewN ?_ _ | refine blk_drew ?_ | refine blk_alloc ?_ _)); exact BK271.out⟩, ⟨by (with_reducible repeat (first | refine blk_drewN ?_ _ | refine blk_drew ?_ | refine blk_alloc ?_ _)); refine blk_far ?_ NB278_285.out _; (with_reducible repeat (first | refine blk_drewN ?_ _ | refine blk_drew ?_ | refine blk_alloc ?_ _)); refine blk_far ?_ NB278_285.out _; (with_reducible repeat (first | refine blk_drewN ?_ _ | refine blk_drew ?_ | refine blk_alloc ?_ _)); refine blk_far ?_ NB278_285.out _; (with_reducible repeat (first | refine blk_drewN ?_ _ | refine blk_drew ?_ | refine blk_alloc ?_ _)); refine blk_far ?_ NB278_285.out _; (with_reducible repeat (first | refine blk_drewN ?_ _ | refine blk_drew ?_ | refine blk_alloc ?_ _)); refine blk_far ?_ NB278_285.out _; (with_reducible repeat (first | refine blk_drewN ?_ _ | refine blk_drew ?_ | refine blk_alloc ?_ _)); exact BK278.out⟩, ⟨by (with_reducible repeat (first | refine blk_drewN ?_ _ | refine blk_drew ?_ | refine blk_alloc ?_ _)); refine blk_put (cs := #[.bool t280, .bool t281, .bool t282, .bool t283, .bool false]) ?_ 4 _ rfl; (with_reducible repeat (first | refine blk_drewN ?_ _ | refine blk_drew ?_ | refine blk_alloc ?_ _)); refine blk_put (cs := #[.bool t280, .bool t281, .bool t282, .bool false, .bool false]) ?_ 3 _ rfl; (with_reducible repeat (first | refine blk_drewN ?_ _ | refine blk_drew ?_ | refine blk_alloc ?_ _)); refine blk_put (cs := #[.bool t280, .bool t281, .bool false, .bool false, .bool false]) ?_ 2 _ rfl; (with_reducible repeat (first | refine blk_drewN ?_ _ | refine blk_drew ?_ | refine blk_alloc ?_ _)); refine blk_put (cs := #[.bool t280, .bool false, .bool false, .bool false, .bool false]) ?_ 1 _ rfl; (with_reducible repeat (first | refine blk_drewN ?_ _ | refine blk_drew ?_ | refine blk_alloc ?_ _)); refine blk_put (cs := #[.bool false, .bool false, .bool false, .bool false, .bool false]) ?_ 0 _ rfl; (with_reducible repeat (first | refine blk_drewN ?_ _ | refine blk_drew ?_ | refine blk_alloc ?_ _)); exact BK285.out⟩, ⟨by repeat (first | (with_reducible first | exact HB.out | apply below_alloc | apply pw_below_drewN | apply below_drew1 | refine below_set ?_ GE257.out | refine below_set ?_ GE264.out | refine below_set ?_ GE271.out | refine below_set ?_ GE278.out | refine below_set ?_ GE285.out) | exact HB.out)⟩⟩
    case rest =>
      clear HC14
      try clear c1
      try clear c2
      try clear p2
      try clear c3
      try clear c4
      try clear p6
      try clear c7
      try clear c15
      try clear c16
      try clear c17
      try clear c22
      try clear c26
      try clear c27
      try clear c31
      try clear c32
      try clear c33
      try clear c37
      try clear c38
      try clear c39
      try clear c40
      try clear c42
      try clear hcz19_0
      try clear hcz19_1
      try clear hcz19_2
      try clear hcz19_3
      try clear hcz19_4
      try clear hcz23_0
      try clear hcz23_1
      try clear hcz23_2
      try clear hcz23_3
      try clear hcz23_4
      try clear hcz28_0
      try clear hcz28_1
      try clear hcz28_2
      try clear hcz28_3
      try clear hcz28_4
      try clear hcz34_0
      try clear hcz34_1
      try clear hcz34_2
      try clear hcz34_3
      try clear hcz34_4
      try clear hcz41_0
      try clear hcz41_1
      try clear hcz41_2
      try clear hcz41_3
      try clear hcz41_4
      try clear hfz19_0
      try clear hfz19_1
      try clear hfz19_2
      try clear hfz19_3
      try clear hfz19_4
      try clear hfz23_0
      try clear hfz23_1
      try clear hfz23_2
      try clear hfz23_3
      try clear hfz23_4
      try clear hfz28_0
      try clear hfz28_1
      try clear hfz28_2
      try clear hfz28_3
      try clear hfz28_4
      try clear hfz34_0
      try clear hfz34_1
      try clear hfz34_2
      try clear hfz34_3
      try clear hfz34_4
      try clear hfz41_0
      try clear hfz41_1
      try clear hfz41_2
      try clear hfz41_3
      try clear hfz41_4
      obtain ⟨kq, x23_13, x24_13, rfl, rfl, HA, HJ13, BK257, BK264, BK271, BK278, BK285, HB⟩ := hcut
      cases kq with
      | zero => exact absurd HA.out (by simp [anneallaw3_RoundModes.j0])
      | succ kj13 =>
        have H := HA.out
        clear HA
        simp only [anneallaw3_RoundModes.j0] at H
        have HC43 := Aside0.mk H
        clear H
        go_upto_region 13 with (fail)
        go_cut [105] (fun v105 wc => ∃ (kq : Nat) (x105_42 : Bool), v105 = .bool x105_42 ∧ Aside0 (anneallaw3_RoundModes.j1 kq t251 t272 t279 x23_13 x105_42 t252 t253 t254 t255 t256 = some r) ∧ Aside0 (kq ≤ kj13) ∧ Aside0 (wc.heap[gb257]? = some (.cells #[.bool t252, .bool t253, .bool t254, .bool t255, .bool t256] 30 (0, 0))) ∧ Aside0 (wc.heap[gb264]? = some (.cells #[.bool t259, .bool t260, .bool t261, .bool t262, .bool t263] 30 (0, 0))) ∧ Aside0 (wc.heap[gb271]? = some (.cells #[.bool t266, .bool t267, .bool t268, .bool t269, .bool t270] 30 (0, 0))) ∧ Aside0 (wc.heap[gb278]? = some (.cells #[.bool t273, .bool t274, .bool t275, .bool t276, .bool t277] 30 (0, 0))) ∧ Aside0 (wc.heap[gb285]? = some (.cells #[.bool t280, .bool t281, .bool t282, .bool t283, .bool t284] 30 (0, 0))) ∧ Aside0 (Below w.heap.size w wc))
        case first =>
          have H := HC43.out
          clear HC43
          by_cases c44 : t251 = x24_13
          · rw [if_pos c44] at H
            have c44b0 : (t251 == x24_13) = true := beq_iff_eq.mpr c44
            have c44b1 : (t251 != x24_13) = false := bne_eq_false_iff_eq.mpr c44
            clear c44
            (first | rw [c44b0] | (simp only [i64_w, i32_w]; rw [c44b0]) | skip)
            by_cases c45 : (t256 != t263) = true
            · rw [if_pos c45] at H
              have c45b0 : (t256 != t263) = true := c45
              (try (have c45b1 : decide (t256 = t263) = false := by simpa using c45))
              (try (have c45b2 : (t256 == t263) = false := by simpa using c45))
              (try (have c45b3 : ¬ (t256 = t263) := by simpa using c45))
              clear c45
              have H' := Aside0.mk H
              clear H
              have hnb46 := NB257_264.out
              have hnc46 := NB264_257.out
              have hnb47 := NB257_271.out
              have hnc47 := NB271_257.out
              have hnb48 := NB257_278.out
              have hnc48 := NB278_257.out
              have hnb49 := NB257_285.out
              have hnc49 := NB285_257.out
              have hcz50_0 : wc.cell? ⟨gb257, 0, none⟩ = some (.bool t252) := (blk_cell BK257.out 0).trans rfl
              have hcz50_1 : wc.cell? ⟨gb257, 1, none⟩ = some (.bool t253) := (blk_cell BK257.out 1).trans rfl
              have hcz50_2 : wc.cell? ⟨gb257, 2, none⟩ = some (.bool t254) := (blk_cell BK257.out 2).trans rfl
              have hcz50_3 : wc.cell? ⟨gb257, 3, none⟩ = some (.bool t255) := (blk_cell BK257.out 3).trans rfl
              have hcz50_4 : wc.cell? ⟨gb257, 4, none⟩ = some (.bool t256) := (blk_cell BK257.out 4).trans rfl
              have hfz50_0 := blk_frozen BK257.out 0
              have hfz50_1 := blk_frozen BK257.out 1
              have hfz50_2 := blk_frozen BK257.out 2
              have hfz50_3 := blk_frozen BK257.out 3
              have hfz50_4 := blk_frozen BK257.out 4
              have hnb51 := NB264_271.out
              have hnc51 := NB271_264.out
              have hnb52 := NB264_278.out
              have hnc52 := NB278_264.out
              have hnb53 := NB264_285.out
              have hnc53 := NB285_264.out
              have hcz54_0 : wc.cell? ⟨gb264, 0, none⟩ = some (.bool t259) := (blk_cell BK264.out 0).trans rfl
              have hcz54_1 : wc.cell? ⟨gb264, 1, none⟩ = some (.bool t260) := (blk_cell BK264.out 1).trans rfl
              have hcz54_2 : wc.cell? ⟨gb264, 2, none⟩ = some (.bool t261) := (blk_cell BK264.out 2).trans rfl
              have hcz54_3 : wc.cell? ⟨gb264, 3, none⟩ = some (.bool t262) := (blk_cell BK264.out 3).trans rfl
              have hcz54_4 : wc.cell? ⟨gb264, 4, none⟩ = some (.bool t263) := (blk_cell BK264.out 4).trans rfl
              have hfz54_0 := blk_frozen BK264.out 0
              have hfz54_1 := blk_frozen BK264.out 1
              have hfz54_2 := blk_frozen BK264.out 2
              have hfz54_3 := blk_frozen BK264.out 3
              have hfz54_4 := blk_frozen BK264.out 4
              go_wp2
              go_meet
              case rel => exact ⟨_, (true), (by first | rfl | (simp; done) | (simp [*]; done) | (congr 1; (try unfold wrap64); omega)), H', ⟨by have := HJ13.out; first | omega | exact Nat.le_refl _⟩, ⟨by (with_reducible repeat (first | refine blk_drewN ?_ _ | refine blk_drew ?_ | refine blk_alloc ?_ _)); exact BK257.out⟩, ⟨by (with_reducible repeat (first | refine blk_drewN ?_ _ | refine blk_drew ?_ | refine blk_alloc ?_ _)); exact BK264.out⟩, ⟨by (with_reducible repeat (first | refine blk_drewN ?_ _ | refine blk_drew ?_ | refine blk_alloc ?_ _)); exact BK271.out⟩, ⟨by (with_reducible repeat (first | refine blk_drewN ?_ _ | refine blk_drew ?_ | refine blk_alloc ?_ _)); exact BK278.out⟩, ⟨by (with_reducible repeat (first | refine blk_drewN ?_ _ | refine blk_drew ?_ | refine blk_alloc ?_ _)); exact BK285.out⟩, ⟨by repeat (first | (with_reducible first | exact HB.out | apply below_alloc | apply pw_below_drewN | apply below_drew1 | refine below_set ?_ GE257.out | refine below_set ?_ GE264.out | refine below_set ?_ GE271.out | refine below_set ?_ GE278.out | refine below_set ?_ GE285.out) | exact HB.out)⟩⟩
            · rw [if_neg c45] at H
              have c45b0 : (t256 != t263) = false := by simpa using c45
              (try (have c45b1 : decide (t256 = t263) = true := by simpa using c45))
              (try (have c45b2 : (t256 == t263) = true := by simpa using c45))
              clear c45
              by_cases c55 : (t263 != t270) = true
              · rw [if_pos c55] at H
                have c55b0 : (t263 != t270) = true := c55
                (try (have c55b1 : decide (t263 = t270) = false := by simpa using c55))
                (try (have c55b2 : (t263 == t270) = false := by simpa using c55))
                (try (have c55b3 : ¬ (t263 = t270) := by simpa using c55))
                clear c55
                have H' := Aside0.mk H
                clear H
                have hnb56 := NB257_264.out
                have hnc56 := NB264_257.out
                have hnb57 := NB257_271.out
                have hnc57 := NB271_257.out
                have hnb58 := NB257_278.out
                have hnc58 := NB278_257.out
                have hnb59 := NB257_285.out
                have hnc59 := NB285_257.out
                have hcz60_0 : wc.cell? ⟨gb257, 0, none⟩ = some (.bool t252) := (blk_cell BK257.out 0).trans rfl
                have hcz60_1 : wc.cell? ⟨gb257, 1, none⟩ = some (.bool t253) := (blk_cell BK257.out 1).trans rfl
                have hcz60_2 : wc.cell? ⟨gb257, 2, none⟩ = some (.bool t254) := (blk_cell BK257.out 2).trans rfl
                have hcz60_3 : wc.cell? ⟨gb257, 3, none⟩ = some (.bool t255) := (blk_cell BK257.out 3).trans rfl
                have hcz60_4 : wc.cell? ⟨gb257, 4, none⟩ = some (.bool t256) := (blk_cell BK257.out 4).trans rfl
                have hfz60_0 := blk_frozen BK257.out 0
                have hfz60_1 := blk_frozen BK257.out 1
                have hfz60_2 := blk_frozen BK257.out 2
                have hfz60_3 := blk_frozen BK257.out 3
                have hfz60_4 := blk_frozen BK257.out 4
                have hnb61 := NB264_271.out
                have hnc61 := NB271_264.out
                have hnb62 := NB264_278.out
                have hnc62 := NB278_264.out
                have hnb63 := NB264_285.out
                have hnc63 := NB285_264.out
                have hcz64_0 : wc.cell? ⟨gb264, 0, none⟩ = some (.bool t259) := (blk_cell BK264.out 0).trans rfl
                have hcz64_1 : wc.cell? ⟨gb264, 1, none⟩ = some (.bool t260) := (blk_cell BK264.out 1).trans rfl
                have hcz64_2 : wc.cell? ⟨gb264, 2, none⟩ = some (.bool t261) := (blk_cell BK264.out 2).trans rfl
                have hcz64_3 : wc.cell? ⟨gb264, 3, none⟩ = some (.bool t262) := (blk_cell BK264.out 3).trans rfl
                have hcz64_4 : wc.cell? ⟨gb264, 4, none⟩ = some (.bool t263) := (blk_cell BK264.out 4).trans rfl
                have hfz64_0 := blk_frozen BK264.out 0
                have hfz64_1 := blk_frozen BK264.out 1
                have hfz64_2 := blk_frozen BK264.out 2
                have hfz64_3 := blk_frozen BK264.out 3
                have hfz64_4 := blk_frozen BK264.out 4
                have hnb65 := NB271_278.out
                have hnc65 := NB278_271.out
                have hnb66 := NB271_285.out
                have hnc66 := NB285_271.out
                have hcz67_0 : wc.cell? ⟨gb271, 0, none⟩ = some (.bool t266) := (blk_cell BK271.out 0).trans rfl
                have hcz67_1 : wc.cell? ⟨gb271, 1, none⟩ = some (.bool t267) := (blk_cell BK271.out 1).trans rfl
                have hcz67_2 : wc.cell? ⟨gb271, 2, none⟩ = some (.bool t268) := (blk_cell BK271.out 2).trans rfl
                have hcz67_3 : wc.cell? ⟨gb271, 3, none⟩ = some (.bool t269) := (blk_cell BK271.out 3).trans rfl
                have hcz67_4 : wc.cell? ⟨gb271, 4, none⟩ = some (.bool t270) := (blk_cell BK271.out 4).trans rfl
                have hfz67_0 := blk_frozen BK271.out 0
                have hfz67_1 := blk_frozen BK271.out 1
                have hfz67_2 := blk_frozen BK271.out 2
                have hfz67_3 := blk_frozen BK271.out 3
                have hfz67_4 := blk_frozen BK271.out 4
                go_wp2
                go_meet
                case rel => exact ⟨_, (true), (by first | rfl | (simp; done) | (simp [*]; done) | (congr 1; (try unfold wrap64); omega)), H', ⟨by have := HJ13.out; first | omega | exact Nat.le_refl _⟩, ⟨by (with_reducible repeat (first | refine blk_drewN ?_ _ | refine blk_drew ?_ | refine blk_alloc ?_ _)); exact BK257.out⟩, ⟨by (with_reducible repeat (first | refine blk_drewN ?_ _ | refine blk_drew ?_ | refine blk_alloc ?_ _)); exact BK264.out⟩, ⟨by (with_reducible repeat (first | refine blk_drewN ?_ _ | refine blk_drew ?_ | refine blk_alloc ?_ _)); exact BK271.out⟩, ⟨by (with_reducible repeat (first | refine blk_drewN ?_ _ | refine blk_drew ?_ | refine blk_alloc ?_ _)); exact BK278.out⟩, ⟨by (with_reducible repeat (first | refine blk_drewN ?_ _ | refine blk_drew ?_ | refine blk_alloc ?_ _)); exact BK285.out⟩, ⟨by repeat (first | (with_reducible first | exact HB.out | apply below_alloc | apply pw_below_drewN | apply below_drew1 | refine below_set ?_ GE257.out | refine below_set ?_ GE264.out | refine below_set ?_ GE271.out | refine below_set ?_ GE278.out | refine below_set ?_ GE285.out) | exact HB.out)⟩⟩
              · rw [if_neg c55] at H
                have c55b0 : (t263 != t270) = false := by simpa using c55
                (try (have c55b1 : decide (t263 = t270) = true := by simpa using c55))
                (try (have c55b2 : (t263 == t270) = true := by simpa using c55))
                clear c55
                have H' := Aside0.mk H
                clear H
                have hnb68 := NB257_264.out
                have hnc68 := NB264_257.out
                have hnb69 := NB257_271.out
                have hnc69 := NB271_257.out
                have hnb70 := NB257_278.out
                have hnc70 := NB278_257.out
                have hnb71 := NB257_285.out
                have hnc71 := NB285_257.out
                have hcz72_0 : wc.cell? ⟨gb257, 0, none⟩ = some (.bool t252) := (blk_cell BK257.out 0).trans rfl
                have hcz72_1 : wc.cell? ⟨gb257, 1, none⟩ = some (.bool t253) := (blk_cell BK257.out 1).trans rfl
                have hcz72_2 : wc.cell? ⟨gb257, 2, none⟩ = some (.bool t254) := (blk_cell BK257.out 2).trans rfl
                have hcz72_3 : wc.cell? ⟨gb257, 3, none⟩ = some (.bool t255) := (blk_cell BK257.out 3).trans rfl
                have hcz72_4 : wc.cell? ⟨gb257, 4, none⟩ = some (.bool t256) := (blk_cell BK257.out 4).trans rfl
                have hfz72_0 := blk_frozen BK257.out 0
                have hfz72_1 := blk_frozen BK257.out 1
                have hfz72_2 := blk_frozen BK257.out 2
                have hfz72_3 := blk_frozen BK257.out 3
                have hfz72_4 := blk_frozen BK257.out 4
                have hnb73 := NB264_271.out
                have hnc73 := NB271_264.out
                have hnb74 := NB264_278.out
                have hnc74 := NB278_264.out
                have hnb75 := NB264_285.out
                have hnc75 := NB285_264.out
                have hcz76_0 : wc.cell? ⟨gb264, 0, none⟩ = some (.bool t259) := (blk_cell BK264.out 0).trans rfl
                have hcz76_1 : wc.cell? ⟨gb264, 1, none⟩ = some (.bool t260) := (blk_cell BK264.out 1).trans rfl
                have hcz76_2 : wc.cell? ⟨gb264, 2, none⟩ = some (.bool t261) := (blk_cell BK264.out 2).trans rfl
                have hcz76_3 : wc.cell? ⟨gb264, 3, none⟩ = some (.bool t262) := (blk_cell BK264.out 3).trans rfl
                have hcz76_4 : wc.cell? ⟨gb264, 4, none⟩ = some (.bool t263) := (blk_cell BK264.out 4).trans rfl
                have hfz76_0 := blk_frozen BK264.out 0
                have hfz76_1 := blk_frozen BK264.out 1
                have hfz76_2 := blk_frozen BK264.out 2
                have hfz76_3 := blk_frozen BK264.out 3
                have hfz76_4 := blk_frozen BK264.out 4
                have hnb77 := NB271_278.out
                have hnc77 := NB278_271.out
                have hnb78 := NB271_285.out
                have hnc78 := NB285_271.out
                have hcz79_0 : wc.cell? ⟨gb271, 0, none⟩ = some (.bool t266) := (blk_cell BK271.out 0).trans rfl
                have hcz79_1 : wc.cell? ⟨gb271, 1, none⟩ = some (.bool t267) := (blk_cell BK271.out 1).trans rfl
                have hcz79_2 : wc.cell? ⟨gb271, 2, none⟩ = some (.bool t268) := (blk_cell BK271.out 2).trans rfl
                have hcz79_3 : wc.cell? ⟨gb271, 3, none⟩ = some (.bool t269) := (blk_cell BK271.out 3).trans rfl
                have hcz79_4 : wc.cell? ⟨gb271, 4, none⟩ = some (.bool t270) := (blk_cell BK271.out 4).trans rfl
                have hfz79_0 := blk_frozen BK271.out 0
                have hfz79_1 := blk_frozen BK271.out 1
                have hfz79_2 := blk_frozen BK271.out 2
                have hfz79_3 := blk_frozen BK271.out 3
                have hfz79_4 := blk_frozen BK271.out 4
                have hnb80 := NB278_285.out
                have hnc80 := NB285_278.out
                have hcz81_0 : wc.cell? ⟨gb278, 0, none⟩ = some (.bool t273) := (blk_cell BK278.out 0).trans rfl
                have hcz81_1 : wc.cell? ⟨gb278, 1, none⟩ = some (.bool t274) := (blk_cell BK278.out 1).trans rfl
                have hcz81_2 : wc.cell? ⟨gb278, 2, none⟩ = some (.bool t275) := (blk_cell BK278.out 2).trans rfl
                have hcz81_3 : wc.cell? ⟨gb278, 3, none⟩ = some (.bool t276) := (blk_cell BK278.out 3).trans rfl
                have hcz81_4 : wc.cell? ⟨gb278, 4, none⟩ = some (.bool t277) := (blk_cell BK278.out 4).trans rfl
                have hfz81_0 := blk_frozen BK278.out 0
                have hfz81_1 := blk_frozen BK278.out 1
                have hfz81_2 := blk_frozen BK278.out 2
                have hfz81_3 := blk_frozen BK278.out 3
                have hfz81_4 := blk_frozen BK278.out 4
                go_wp2
                go_meet
                case rel => exact ⟨_, ((t270 != t277)), (by first | rfl | (simp; done) | (simp [*]; done) | (congr 1; (try unfold wrap64); omega)), H', ⟨by have := HJ13.out; first | omega | exact Nat.le_refl _⟩, ⟨by (with_reducible repeat (first | refine blk_drewN ?_ _ | refine blk_drew ?_ | refine blk_alloc ?_ _)); exact BK257.out⟩, ⟨by (with_reducible repeat (first | refine blk_drewN ?_ _ | refine blk_drew ?_ | refine blk_alloc ?_ _)); exact BK264.out⟩, ⟨by (with_reducible repeat (first | refine blk_drewN ?_ _ | refine blk_drew ?_ | refine blk_alloc ?_ _)); exact BK271.out⟩, ⟨by (with_reducible repeat (first | refine blk_drewN ?_ _ | refine blk_drew ?_ | refine blk_alloc ?_ _)); exact BK278.out⟩, ⟨by (with_reducible repeat (first | refine blk_drewN ?_ _ | refine blk_drew ?_ | refine blk_alloc ?_ _)); exact BK285.out⟩, ⟨by repeat (first | (with_reducible first | exact HB.out | apply below_alloc | apply pw_below_drewN | apply below_drew1 | refine below_set ?_ GE257.out | refine below_set ?_ GE264.out | refine below_set ?_ GE271.out | refine below_set ?_ GE278.out | refine below_set ?_ GE285.out) | exact HB.out)⟩⟩
          · rw [if_neg c44] at H
            have c44b0 : (t251 == x24_13) = false := beq_eq_false_iff_ne.mpr c44
            have c44b1 : (t251 != x24_13) = true := bne_iff_ne.mpr c44
            (first | rw [c44b0] | (simp only [i64_w, i32_w]; rw [c44b0]) | skip)
            have H' := Aside0.mk H
            clear H
            go_wp2
            go_meet
            case rel => exact ⟨_, (true), (by first | rfl | (simp; done) | (simp [*]; done) | (congr 1; (try unfold wrap64); omega)), H', ⟨by have := HJ13.out; first | omega | exact Nat.le_refl _⟩, ⟨by (with_reducible repeat (first | refine blk_drewN ?_ _ | refine blk_drew ?_ | refine blk_alloc ?_ _)); exact BK257.out⟩, ⟨by (with_reducible repeat (first | refine blk_drewN ?_ _ | refine blk_drew ?_ | refine blk_alloc ?_ _)); exact BK264.out⟩, ⟨by (with_reducible repeat (first | refine blk_drewN ?_ _ | refine blk_drew ?_ | refine blk_alloc ?_ _)); exact BK271.out⟩, ⟨by (with_reducible repeat (first | refine blk_drewN ?_ _ | refine blk_drew ?_ | refine blk_alloc ?_ _)); exact BK278.out⟩, ⟨by (with_reducible repeat (first | refine blk_drewN ?_ _ | refine blk_drew ?_ | refine blk_alloc ?_ _)); exact BK285.out⟩, ⟨by repeat (first | (with_reducible first | exact HB.out | apply below_alloc | apply pw_below_drewN | apply below_drew1 | refine below_set ?_ GE257.out | refine below_set ?_ GE264.out | refine below_set ?_ GE271.out | refine below_set ?_ GE278.out | refine below_set ?_ GE285.out) | exact HB.out)⟩⟩
        case rest =>
          clear HC43
          try clear c1
          try clear c2
          try clear p2
          try clear c3
          try clear c4
          try clear c5
          try clear c6
          try clear p6
          try clear c7
          try clear c8
          try clear c15
          try clear c16
          try clear c17
          try clear c22
          try clear c26
          try clear c27
          try clear c31
          try clear c32
          try clear c33
          try clear c37
          try clear c38
          try clear c39
          try clear c40
          try clear c42
          try clear c44
          try clear c44b0
          try clear c44b1
          try clear c45
          try clear c45b0
          try clear c45b1
          try clear c45b2
          try clear c46
          try clear c47
          try clear c48
          try clear c49
          try clear c51
          try clear c52
          try clear c53
          try clear c55
          try clear c55b0
          try clear c55b1
          try clear c55b2
          try clear c56
          try clear c57
          try clear c58
          try clear c59
          try clear c61
          try clear c62
          try clear c63
          try clear p64
          try clear c65
          try clear c66
          try clear c68
          try clear c69
          try clear c70
          try clear c71
          try clear c73
          try clear c74
          try clear c75
          try clear c77
          try clear c78
          try clear c80
          try clear hcz19_0
          try clear hcz19_1
          try clear hcz19_2
          try clear hcz19_3
          try clear hcz19_4
          try clear hcz23_0
          try clear hcz23_1
          try clear hcz23_2
          try clear hcz23_3
          try clear hcz23_4
          try clear hcz28_0
          try clear hcz28_1
          try clear hcz28_2
          try clear hcz28_3
          try clear hcz28_4
          try clear hcz34_0
          try clear hcz34_1
          try clear hcz34_2
          try clear hcz34_3
          try clear hcz34_4
          try clear hcz41_0
          try clear hcz41_1
          try clear hcz41_2
          try clear hcz41_3
          try clear hcz41_4
          try clear hcz50_0
          try clear hcz50_1
          try clear hcz50_2
          try clear hcz50_3
          try clear hcz50_4
          try clear hcz54_0
          try clear hcz54_1
          try clear hcz54_2
          try clear hcz54_3
          try clear hcz54_4
          try clear hcz60_0
          try clear hcz60_1
          try clear hcz60_2
          try clear hcz60_3
          try clear hcz60_4
          try clear hcz64_0
          try clear hcz64_1
          try clear hcz64_2
          try clear hcz64_3
          try clear hcz64_4
          try clear hcz67_0
          try clear hcz67_1
          try clear hcz67_2
          try clear hcz67_3
          try clear hcz67_4
          try clear hcz72_0
          try clear hcz72_1
          try clear hcz72_2
          try clear hcz72_3
          try clear hcz72_4
          try clear hcz76_0
          try clear hcz76_1
          try clear hcz76_2
          try clear hcz76_3
          try clear hcz76_4
          try clear hcz79_0
          try clear hcz79_1
          try clear hcz79_2
          try clear hcz79_3
          try clear hcz79_4
          try clear hcz81_0
          try clear hcz81_1
          try clear hcz81_2
          try clear hcz81_3
          try clear hcz81_4
          try clear hfz19_0
          try clear hfz19_1
          try clear hfz19_2
          try clear hfz19_3
          try clear hfz19_4
          try clear hfz23_0
          try clear hfz23_1
          try clear hfz23_2
          try clear hfz23_3
          try clear hfz23_4
          try clear hfz28_0
          try clear hfz28_1
          try clear hfz28_2
          try clear hfz28_3
          try clear hfz28_4
          try clear hfz34_0
          try clear hfz34_1
          try clear hfz34_2
          try clear hfz34_3
          try clear hfz34_4
          try clear hfz41_0
          try clear hfz41_1
          try clear hfz41_2
          try clear hfz41_3
          try clear hfz41_4
          try clear hfz50_0
          try clear hfz50_1
          try clear hfz50_2
          try clear hfz50_3
          try clear hfz50_4
          try clear hfz54_0
          try clear hfz54_1
          try clear hfz54_2
          try clear hfz54_3
          try clear hfz54_4
          try clear hfz60_0
          try clear hfz60_1
          try clear hfz60_2
          try clear hfz60_3
          try clear hfz60_4
          try clear hfz64_0
          try clear hfz64_1
          try clear hfz64_2
          try clear hfz64_3
          try clear hfz64_4
          try clear hfz67_0
          try clear hfz67_1
          try clear hfz67_2
          try clear hfz67_3
          try clear hfz67_4
          try clear hfz72_0
          try clear hfz72_1
          try clear hfz72_2
          try clear hfz72_3
          try clear hfz72_4
          try clear hfz76_0
          try clear hfz76_1
          try clear hfz76_2
          try clear hfz76_3
          try clear hfz76_4
          try clear hfz79_0
          try clear hfz79_1
          try clear hfz79_2
          try clear hfz79_3
          try clear hfz79_4
          try clear hfz81_0
          try clear hfz81_1
          try clear hfz81_2
          try clear hfz81_3
          try clear hfz81_4
          try clear p2
          try clear p6
          obtain ⟨kq, x105_42, rfl, HA, HJ42, BK257, BK264, BK271, BK278, BK285, HB⟩ := hcut
          cases kq with
          | zero => exact absurd HA.out (by simp [anneallaw3_RoundModes.j1])
          | succ kj42 =>
            have H := HA.out
            clear HA
            simp only [anneallaw3_RoundModes.j1] at H
            by_cases c82 : x105_42 = true
            · subst c82
              have H1 : (some false) = some r := by rw [if_pos rfl] at H; exact H
              clear H
              have H := H1
              clear H1
              obtain rfl := Option.some.inj H
              go_wp2
              go_ret
              exact ⟨by first | rfl | (simp [errW_none, errW_some] <;> rfl) | (simp [*, errW_none, errW_some] <;> rfl), by repeat (first | (with_reducible first | exact HB.out | apply below_alloc | apply pw_below_drewN | apply below_drew1 | refine below_set ?_ GE257.out | refine below_set ?_ GE264.out | refine below_set ?_ GE271.out | refine below_set ?_ GE278.out | refine below_set ?_ GE285.out) | exact HB.out)⟩
            · replace c82 := Bool.eq_false_iff.mpr c82
              subst c82
              have H1 : (if t256 = true then (if x23_13 = t251 then (some false) else (if t272 = x23_13 then (if t279 = x23_13 then (some true) else (some (t279 == t251))) else (if t272 = t251 then (if t279 = x23_13 then (some true) else (some (t279 == t251))) else (some false)))) else (if t251 = x23_13 then (if t251 = t272 then (some (t272 == t279)) else (some false)) else (some false))) = some r := by rw [if_neg (show ¬ (false = true) by decide)] at H; exact H
              clear H
              have H := H1
              clear H1
              by_cases c83 : t256 = true
              · subst c83
                have H1 : (if x23_13 = t251 then (some false) else (if t272 = x23_13 then (if t279 = x23_13 then (some true) else (some (t279 == t251))) else (if t272 = t251 then (if t279 = x23_13 then (some true) else (some (t279 == t251))) else (some false)))) = some r := by rw [if_pos rfl] at H; exact H
                clear H
                have H := H1
                clear H1
                by_cases c84 : x23_13 = t251
                · rw [if_pos c84] at H
                  have c84b0 : (x23_13 == t251) = true := beq_iff_eq.mpr c84
                  have c84b1 : (x23_13 != t251) = false := bne_eq_false_iff_eq.mpr c84
                  clear c84
                  obtain rfl := Option.some.inj H
                  have hnb85 := NB257_264.out
                  have hnc85 := NB264_257.out
                  have hnb86 := NB257_271.out
                  have hnc86 := NB271_257.out
                  have hnb87 := NB257_278.out
                  have hnc87 := NB278_257.out
                  have hnb88 := NB257_285.out
                  have hnc88 := NB285_257.out
                  have hcz89_0 : wc.cell? ⟨gb257, 0, none⟩ = some (.bool t252) := (blk_cell BK257.out 0).trans rfl
                  have hcz89_1 : wc.cell? ⟨gb257, 1, none⟩ = some (.bool t253) := (blk_cell BK257.out 1).trans rfl
                  have hcz89_2 : wc.cell? ⟨gb257, 2, none⟩ = some (.bool t254) := (blk_cell BK257.out 2).trans rfl
                  have hcz89_3 : wc.cell? ⟨gb257, 3, none⟩ = some (.bool t255) := (blk_cell BK257.out 3).trans rfl
                  have hcz89_4 : wc.cell? ⟨gb257, 4, none⟩ = some (.bool true) := (blk_cell BK257.out 4).trans rfl
                  have hfz89_0 := blk_frozen BK257.out 0
                  have hfz89_1 := blk_frozen BK257.out 1
                  have hfz89_2 := blk_frozen BK257.out 2
                  have hfz89_3 := blk_frozen BK257.out 3
                  have hfz89_4 := blk_frozen BK257.out 4
                  go_wp2
                  go_ret
                  exact ⟨by first | rfl | (simp [errW_none, errW_some] <;> rfl) | (simp [*, errW_none, errW_some] <;> rfl), by repeat (first | (with_reducible first | exact HB.out | apply below_alloc | apply pw_below_drewN | apply below_drew1 | refine below_set ?_ GE257.out | refine below_set ?_ GE264.out | refine below_set ?_ GE271.out | refine below_set ?_ GE278.out | refine below_set ?_ GE285.out) | exact HB.out)⟩
                · rw [if_neg c84] at H
                  have c84b0 : (x23_13 == t251) = false := beq_eq_false_iff_ne.mpr c84
                  have c84b1 : (x23_13 != t251) = true := bne_iff_ne.mpr c84
                  by_cases c90 : t272 = x23_13
                  · rw [if_pos c90] at H
                    have c90b0 : (t272 == x23_13) = true := beq_iff_eq.mpr c90
                    have c90b1 : (t272 != x23_13) = false := bne_eq_false_iff_eq.mpr c90
                    clear c90
                    by_cases c91 : t279 = x23_13
                    · rw [if_pos c91] at H
                      have c91b0 : (t279 == x23_13) = true := beq_iff_eq.mpr c91
                      have c91b1 : (t279 != x23_13) = false := bne_eq_false_iff_eq.mpr c91
                      clear c91
                      obtain rfl := Option.some.inj H
                      have hnb92 := NB257_264.out
                      have hnc92 := NB264_257.out
                      have hnb93 := NB257_271.out
                      have hnc93 := NB271_257.out
                      have hnb94 := NB257_278.out
                      have hnc94 := NB278_257.out
                      have hnb95 := NB257_285.out
                      have hnc95 := NB285_257.out
                      have hcz96_0 : wc.cell? ⟨gb257, 0, none⟩ = some (.bool t252) := (blk_cell BK257.out 0).trans rfl
                      have hcz96_1 : wc.cell? ⟨gb257, 1, none⟩ = some (.bool t253) := (blk_cell BK257.out 1).trans rfl
                      have hcz96_2 : wc.cell? ⟨gb257, 2, none⟩ = some (.bool t254) := (blk_cell BK257.out 2).trans rfl
                      have hcz96_3 : wc.cell? ⟨gb257, 3, none⟩ = some (.bool t255) := (blk_cell BK257.out 3).trans rfl
                      have hcz96_4 : wc.cell? ⟨gb257, 4, none⟩ = some (.bool true) := (blk_cell BK257.out 4).trans rfl
                      have hfz96_0 := blk_frozen BK257.out 0
                      have hfz96_1 := blk_frozen BK257.out 1
                      have hfz96_2 := blk_frozen BK257.out 2
                      have hfz96_3 := blk_frozen BK257.out 3
                      have hfz96_4 := blk_frozen BK257.out 4
                      go_wp2
                      go_ret
                      exact ⟨by first | rfl | (simp [errW_none, errW_some] <;> rfl) | (simp [*, errW_none, errW_some] <;> rfl), by repeat (first | (with_reducible first | exact HB.out | apply below_alloc | apply pw_below_drewN | apply below_drew1 | refine below_set ?_ GE257.out | refine below_set ?_ GE264.out | refine below_set ?_ GE271.out | refine below_set ?_ GE278.out | refine below_set ?_ GE285.out) | exact HB.out)⟩
                    · rw [if_neg c91] at H
                      have c91b0 : (t279 == x23_13) = false := beq_eq_false_iff_ne.mpr c91
                      have c91b1 : (t279 != x23_13) = true := bne_iff_ne.mpr c91
                      obtain rfl := Option.some.inj H
                      have hnb97 := NB257_264.out
                      have hnc97 := NB264_257.out
                      have hnb98 := NB257_271.out
                      have hnc98 := NB271_257.out
                      have hnb99 := NB257_278.out
                      have hnc99 := NB278_257.out
                      have hnb100 := NB257_285.out
                      have hnc100 := NB285_257.out
                      have hcz101_0 : wc.cell? ⟨gb257, 0, none⟩ = some (.bool t252) := (blk_cell BK257.out 0).trans rfl
                      have hcz101_1 : wc.cell? ⟨gb257, 1, none⟩ = some (.bool t253) := (blk_cell BK257.out 1).trans rfl
                      have hcz101_2 : wc.cell? ⟨gb257, 2, none⟩ = some (.bool t254) := (blk_cell BK257.out 2).trans rfl
                      have hcz101_3 : wc.cell? ⟨gb257, 3, none⟩ = some (.bool t255) := (blk_cell BK257.out 3).trans rfl
                      have hcz101_4 : wc.cell? ⟨gb257, 4, none⟩ = some (.bool true) := (blk_cell BK257.out 4).trans rfl
                      have hfz101_0 := blk_frozen BK257.out 0
                      have hfz101_1 := blk_frozen BK257.out 1
                      have hfz101_2 := blk_frozen BK257.out 2
                      have hfz101_3 := blk_frozen BK257.out 3
                      have hfz101_4 := blk_frozen BK257.out 4
                      go_wp2
                      go_ret
                      exact ⟨by first | rfl | (simp [errW_none, errW_some] <;> rfl) | (simp [*, errW_none, errW_some] <;> rfl), by repeat (first | (with_reducible first | exact HB.out | apply below_alloc | apply pw_below_drewN | apply below_drew1 | refine below_set ?_ GE257.out | refine below_set ?_ GE264.out | refine below_set ?_ GE271.out | refine below_set ?_ GE278.out | refine below_set ?_ GE285.out) | exact HB.out)⟩
                  · rw [if_neg c90] at H
                    have c90b0 : (t272 == x23_13) = false := beq_eq_false_iff_ne.mpr c90
                    have c90b1 : (t272 != x23_13) = true := bne_iff_ne.mpr c90
                    by_cases c102 : t272 = t251
                    · rw [if_pos c102] at H
                      have c102b0 : (t272 == t251) = true := beq_iff_eq.mpr c102
                      have c102b1 : (t272 != t251) = false := bne_eq_false_iff_eq.mpr c102
                      clear c102
                      by_cases c103 : t279 = x23_13
                      · rw [if_pos c103] at H
                        have c103b0 : (t279 == x23_13) = true := beq_iff_eq.mpr c103
                        have c103b1 : (t279 != x23_13) = false := bne_eq_false_iff_eq.mpr c103
                        clear c103
                        obtain rfl := Option.some.inj H
                        have hnb104 := NB257_264.out
                        have hnc104 := NB264_257.out
                        have hnb105 := NB257_271.out
                        have hnc105 := NB271_257.out
                        have hnb106 := NB257_278.out
                        have hnc106 := NB278_257.out
                        have hnb107 := NB257_285.out
                        have hnc107 := NB285_257.out
                        have hcz108_0 : wc.cell? ⟨gb257, 0, none⟩ = some (.bool t252) := (blk_cell BK257.out 0).trans rfl
                        have hcz108_1 : wc.cell? ⟨gb257, 1, none⟩ = some (.bool t253) := (blk_cell BK257.out 1).trans rfl
                        have hcz108_2 : wc.cell? ⟨gb257, 2, none⟩ = some (.bool t254) := (blk_cell BK257.out 2).trans rfl
                        have hcz108_3 : wc.cell? ⟨gb257, 3, none⟩ = some (.bool t255) := (blk_cell BK257.out 3).trans rfl
                        have hcz108_4 : wc.cell? ⟨gb257, 4, none⟩ = some (.bool true) := (blk_cell BK257.out 4).trans rfl
                        have hfz108_0 := blk_frozen BK257.out 0
                        have hfz108_1 := blk_frozen BK257.out 1
                        have hfz108_2 := blk_frozen BK257.out 2
                        have hfz108_3 := blk_frozen BK257.out 3
                        have hfz108_4 := blk_frozen BK257.out 4
                        go_wp2
                        go_ret
                        exact ⟨by first | rfl | (simp [errW_none, errW_some] <;> rfl) | (simp [*, errW_none, errW_some] <;> rfl), by repeat (first | (with_reducible first | exact HB.out | apply below_alloc | apply pw_below_drewN | apply below_drew1 | refine below_set ?_ GE257.out | refine below_set ?_ GE264.out | refine below_set ?_ GE271.out | refine below_set ?_ GE278.out | refine below_set ?_ GE285.out) | exact HB.out)⟩
                      · rw [if_neg c103] at H
                        have c103b0 : (t279 == x23_13) = false := beq_eq_false_iff_ne.mpr c103
                        have c103b1 : (t279 != x23_13) = true := bne_iff_ne.mpr c103
                        obtain rfl := Option.some.inj H
                        have hnb109 := NB257_264.out
                        have hnc109 := NB264_257.out
                        have hnb110 := NB257_271.out
                        have hnc110 := NB271_257.out
                        have hnb111 := NB257_278.out
                        have hnc111 := NB278_257.out
                        have hnb112 := NB257_285.out
                        have hnc112 := NB285_257.out
                        have hcz113_0 : wc.cell? ⟨gb257, 0, none⟩ = some (.bool t252) := (blk_cell BK257.out 0).trans rfl
                        have hcz113_1 : wc.cell? ⟨gb257, 1, none⟩ = some (.bool t253) := (blk_cell BK257.out 1).trans rfl
                        have hcz113_2 : wc.cell? ⟨gb257, 2, none⟩ = some (.bool t254) := (blk_cell BK257.out 2).trans rfl
                        have hcz113_3 : wc.cell? ⟨gb257, 3, none⟩ = some (.bool t255) := (blk_cell BK257.out 3).trans rfl
                        have hcz113_4 : wc.cell? ⟨gb257, 4, none⟩ = some (.bool true) := (blk_cell BK257.out 4).trans rfl
                        have hfz113_0 := blk_frozen BK257.out 0
                        have hfz113_1 := blk_frozen BK257.out 1
                        have hfz113_2 := blk_frozen BK257.out 2
                        have hfz113_3 := blk_frozen BK257.out 3
                        have hfz113_4 := blk_frozen BK257.out 4
                        go_wp2
                        go_ret
                        exact ⟨by first | rfl | (simp [errW_none, errW_some] <;> rfl) | (simp [*, errW_none, errW_some] <;> rfl), by repeat (first | (with_reducible first | exact HB.out | apply below_alloc | apply pw_below_drewN | apply below_drew1 | refine below_set ?_ GE257.out | refine below_set ?_ GE264.out | refine below_set ?_ GE271.out | refine below_set ?_ GE278.out | refine below_set ?_ GE285.out) | exact HB.out)⟩
                    · rw [if_neg c102] at H
                      have c102b0 : (t272 == t251) = false := beq_eq_false_iff_ne.mpr c102
                      have c102b1 : (t272 != t251) = true := bne_iff_ne.mpr c102
                      obtain rfl := Option.some.inj H
                      have hnb114 := NB257_264.out
                      have hnc114 := NB264_257.out
                      have hnb115 := NB257_271.out
                      have hnc115 := NB271_257.out
                      have hnb116 := NB257_278.out
                      have hnc116 := NB278_257.out
                      have hnb117 := NB257_285.out
                      have hnc117 := NB285_257.out
                      have hcz118_0 : wc.cell? ⟨gb257, 0, none⟩ = some (.bool t252) := (blk_cell BK257.out 0).trans rfl
                      have hcz118_1 : wc.cell? ⟨gb257, 1, none⟩ = some (.bool t253) := (blk_cell BK257.out 1).trans rfl
                      have hcz118_2 : wc.cell? ⟨gb257, 2, none⟩ = some (.bool t254) := (blk_cell BK257.out 2).trans rfl
                      have hcz118_3 : wc.cell? ⟨gb257, 3, none⟩ = some (.bool t255) := (blk_cell BK257.out 3).trans rfl
                      have hcz118_4 : wc.cell? ⟨gb257, 4, none⟩ = some (.bool true) := (blk_cell BK257.out 4).trans rfl
                      have hfz118_0 := blk_frozen BK257.out 0
                      have hfz118_1 := blk_frozen BK257.out 1
                      have hfz118_2 := blk_frozen BK257.out 2
                      have hfz118_3 := blk_frozen BK257.out 3
                      have hfz118_4 := blk_frozen BK257.out 4
                      go_wp2
                      go_ret
                      exact ⟨by first | rfl | (simp [errW_none, errW_some] <;> rfl) | (simp [*, errW_none, errW_some] <;> rfl), by repeat (first | (with_reducible first | exact HB.out | apply below_alloc | apply pw_below_drewN | apply below_drew1 | refine below_set ?_ GE257.out | refine below_set ?_ GE264.out | refine below_set ?_ GE271.out | refine below_set ?_ GE278.out | refine below_set ?_ GE285.out) | exact HB.out)⟩
              · replace c83 := Bool.eq_false_iff.mpr c83
                subst c83
                have H1 : (if t251 = x23_13 then (if t251 = t272 then (some (t272 == t279)) else (some false)) else (some false)) = some r := by rw [if_neg (show ¬ (false = true) by decide)] at H; exact H
                clear H
                have H := H1
                clear H1
                by_cases c119 : t251 = x23_13
                · rw [if_pos c119] at H
                  have c119b0 : (t251 == x23_13) = true := beq_iff_eq.mpr c119
                  have c119b1 : (t251 != x23_13) = false := bne_eq_false_iff_eq.mpr c119
                  clear c119
                  by_cases c120 : t251 = t272
                  · rw [if_pos c120] at H
                    have c120b0 : (t251 == t272) = true := beq_iff_eq.mpr c120
                    have c120b1 : (t251 != t272) = false := bne_eq_false_iff_eq.mpr c120
                    clear c120
                    obtain rfl := Option.some.inj H
                    have hnb121 := NB257_264.out
                    have hnc121 := NB264_257.out
                    have hnb122 := NB257_271.out
                    have hnc122 := NB271_257.out
                    have hnb123 := NB257_278.out
                    have hnc123 := NB278_257.out
                    have hnb124 := NB257_285.out
                    have hnc124 := NB285_257.out
                    have hcz125_0 : wc.cell? ⟨gb257, 0, none⟩ = some (.bool t252) := (blk_cell BK257.out 0).trans rfl
                    have hcz125_1 : wc.cell? ⟨gb257, 1, none⟩ = some (.bool t253) := (blk_cell BK257.out 1).trans rfl
                    have hcz125_2 : wc.cell? ⟨gb257, 2, none⟩ = some (.bool t254) := (blk_cell BK257.out 2).trans rfl
                    have hcz125_3 : wc.cell? ⟨gb257, 3, none⟩ = some (.bool t255) := (blk_cell BK257.out 3).trans rfl
                    have hcz125_4 : wc.cell? ⟨gb257, 4, none⟩ = some (.bool false) := (blk_cell BK257.out 4).trans rfl
                    have hfz125_0 := blk_frozen BK257.out 0
                    have hfz125_1 := blk_frozen BK257.out 1
                    have hfz125_2 := blk_frozen BK257.out 2
                    have hfz125_3 := blk_frozen BK257.out 3
                    have hfz125_4 := blk_frozen BK257.out 4
                    go_wp2
                    go_ret
                    exact ⟨by first | rfl | (simp [errW_none, errW_some] <;> rfl) | (simp [*, errW_none, errW_some] <;> rfl), by repeat (first | (with_reducible first | exact HB.out | apply below_alloc | apply pw_below_drewN | apply below_drew1 | refine below_set ?_ GE257.out | refine below_set ?_ GE264.out | refine below_set ?_ GE271.out | refine below_set ?_ GE278.out | refine below_set ?_ GE285.out) | exact HB.out)⟩
                  · rw [if_neg c120] at H
                    have c120b0 : (t251 == t272) = false := beq_eq_false_iff_ne.mpr c120
                    have c120b1 : (t251 != t272) = true := bne_iff_ne.mpr c120
                    obtain rfl := Option.some.inj H
                    have hnb126 := NB257_264.out
                    have hnc126 := NB264_257.out
                    have hnb127 := NB257_271.out
                    have hnc127 := NB271_257.out
                    have hnb128 := NB257_278.out
                    have hnc128 := NB278_257.out
                    have hnb129 := NB257_285.out
                    have hnc129 := NB285_257.out
                    have hcz130_0 : wc.cell? ⟨gb257, 0, none⟩ = some (.bool t252) := (blk_cell BK257.out 0).trans rfl
                    have hcz130_1 : wc.cell? ⟨gb257, 1, none⟩ = some (.bool t253) := (blk_cell BK257.out 1).trans rfl
                    have hcz130_2 : wc.cell? ⟨gb257, 2, none⟩ = some (.bool t254) := (blk_cell BK257.out 2).trans rfl
                    have hcz130_3 : wc.cell? ⟨gb257, 3, none⟩ = some (.bool t255) := (blk_cell BK257.out 3).trans rfl
                    have hcz130_4 : wc.cell? ⟨gb257, 4, none⟩ = some (.bool false) := (blk_cell BK257.out 4).trans rfl
                    have hfz130_0 := blk_frozen BK257.out 0
                    have hfz130_1 := blk_frozen BK257.out 1
                    have hfz130_2 := blk_frozen BK257.out 2
                    have hfz130_3 := blk_frozen BK257.out 3
                    have hfz130_4 := blk_frozen BK257.out 4
                    go_wp2
                    go_ret
                    exact ⟨by first | rfl | (simp [errW_none, errW_some] <;> rfl) | (simp [*, errW_none, errW_some] <;> rfl), by repeat (first | (with_reducible first | exact HB.out | apply below_alloc | apply pw_below_drewN | apply below_drew1 | refine below_set ?_ GE257.out | refine below_set ?_ GE264.out | refine below_set ?_ GE271.out | refine below_set ?_ GE278.out | refine below_set ?_ GE285.out) | exact HB.out)⟩
                · rw [if_neg c119] at H
                  have c119b0 : (t251 == x23_13) = false := beq_eq_false_iff_ne.mpr c119
                  have c119b1 : (t251 != x23_13) = true := bne_iff_ne.mpr c119
                  obtain rfl := Option.some.inj H
                  have hnb131 := NB257_264.out
                  have hnc131 := NB264_257.out
                  have hnb132 := NB257_271.out
                  have hnc132 := NB271_257.out
                  have hnb133 := NB257_278.out
                  have hnc133 := NB278_257.out
                  have hnb134 := NB257_285.out
                  have hnc134 := NB285_257.out
                  have hcz135_0 : wc.cell? ⟨gb257, 0, none⟩ = some (.bool t252) := (blk_cell BK257.out 0).trans rfl
                  have hcz135_1 : wc.cell? ⟨gb257, 1, none⟩ = some (.bool t253) := (blk_cell BK257.out 1).trans rfl
                  have hcz135_2 : wc.cell? ⟨gb257, 2, none⟩ = some (.bool t254) := (blk_cell BK257.out 2).trans rfl
                  have hcz135_3 : wc.cell? ⟨gb257, 3, none⟩ = some (.bool t255) := (blk_cell BK257.out 3).trans rfl
                  have hcz135_4 : wc.cell? ⟨gb257, 4, none⟩ = some (.bool false) := (blk_cell BK257.out 4).trans rfl
                  have hfz135_0 := blk_frozen BK257.out 0
                  have hfz135_1 := blk_frozen BK257.out 1
                  have hfz135_2 := blk_frozen BK257.out 2
                  have hfz135_3 := blk_frozen BK257.out 3
                  have hfz135_4 := blk_frozen BK257.out 4
                  go_wp2
                  go_ret
                  exact ⟨by first | rfl | (simp [errW_none, errW_some] <;> rfl) | (simp [*, errW_none, errW_some] <;> rfl), by repeat (first | (with_reducible first | exact HB.out | apply below_alloc | apply pw_below_drewN | apply below_drew1 | refine below_set ?_ GE257.out | refine below_set ?_ GE264.out | refine below_set ?_ GE271.out | refine below_set ?_ GE278.out | refine below_set ?_ GE285.out) | exact HB.out)⟩
  · replace c7 := Bool.eq_false_iff.mpr c7
    subst c7
    have H1 : (some false) = some r := by rw [if_neg (show ¬ (false = true) by decide)] at H; exact H
    clear H
    have H := H1
    clear H1
    obtain rfl := Option.some.inj H
    go_enter Try.func4, Try.ntmps4
    go_wp2_with (first | ((with_reducible refine gate_callee (f := 15) rfl ?_); refine goesL_ (some 25) rfl rfl Try.func15 (by kernel_rfl) rfl #[] rfl (by (try simp only [List.map_toArray, List.map_cons, List.map_nil]); first | done | rfl | (simp only [List.length_drop, List.length_take]; rfl)) ?_; (with_reducible refine (anneallaw3_known.calls k  false _ A6.out).mono ?_); rintro e w136 ⟨rfl, hb⟩; refine ⟨_, rfl, ?_⟩; have n0_ := Aside0.mk (below_step (by repeat (first | (with_reducible first | exact HB.out | apply below_alloc | apply pw_below_drewN | apply below_drew1) | exact HB.out)) hb); clear HB; have HB := n0_; clear n0_; (try clear hb); (try clear hb2); (try clear hk); (try clear hi)))
    go_ret
    exact ⟨by first | rfl | (simp [errW_none, errW_some] <;> rfl) | (simp [*, errW_none, errW_some] <;> rfl), by repeat (first | (with_reducible first | exact HB.out | apply below_alloc | apply pw_below_drewN | apply below_drew1) | exact HB.out)⟩

/-- THE ONE PURE STATEMENT of anneallaw3_RoundModes: yours. -/
def anneallaw3_RoundModes.Pure : Prop := ∀ (a0 : Int) (a1 : Int) (a2 : Int) (a3 : Bool) (a4 : Bool), (Lit.int .u8 a0).wf = true → (Lit.int .i16 a1).wf = true → (Lit.int .u64 a2).wf = true → ∃ k, anneallaw3_RoundModes.f k a0 a1 a2 a3 a4 = some true
theorem anneallaw3_RoundModes.walk (P : anneallaw3_RoundModes.Pure) (a0 : Int) (a1 : Int) (a2 : Int) (a3 : Bool) (a4 : Bool) (w : World) (w0 : (Lit.int .u8 a0).wf = true) (w1 : (Lit.int .i16 a1).wf = true) (w2 : (Lit.int .u64 a2).wf = true) :
    Calls Try.prog 4 #[.int .u8 a0, .int .i16 a1, .int .u64 a2, .bool a3, .bool a4] w fun e w' => e = .returned (.bool true) ∧ Below w.heap.size w w' := by
  obtain ⟨k, h⟩ := P a0 a1 a2 a3 a4 w0 w1 w2
  refine (anneallaw3_RoundModes.calls k a0 a1 a2 a3 a4 true w h).mono ?_
  rintro e w' ⟨rfl, hd⟩
  exact ⟨rfl, hd⟩

end Go.Proofs.Ytoljndjpnbdjmaa.P
