import Derived.Test.YtjlgmfgjleajfaaGreatQzuM7
import Derived.Test.YtjlgmfgjleajfaaGreatQzuM5
import Derived.Test.YtjlgmfgjleajfaaGreatQzuM6
import Derived.Test.YtjlgmfgjleajfaaGreatQzuZ
/- The program's parts of a number, its class, its whole number and exponent: as plain numbers; the reference's are the same. -/
set_option linter.unusedVariables false
set_option linter.unusedSimpArgs false
set_option maxRecDepth 100000
set_option maxHeartbeats 8000000
namespace Go.Proofs.YtjlgmfgjleajfaaGreat.Round
open Go.RowKit Go.Proofs.YtjlgmfgjleajfaaGreat.P Go.Proofs.YtjlgmfgjleajfaaGreat.Num Go.Proofs.YtjlgmfgjleajfaaGreat.BitsF Go.Proofs.YtjlgmfgjleajfaaGreat.Fmt Go.Proofs.YtjlgmfgjleajfaaGreatW.PrintWords Go.Proofs.YtjlgmfgjleajfaaGreatW.PrintLast Go.Proofs.YtjlgmfgjleajfaaGreatW.PrintMore

theorem sum_w (f : Int) : IntKind.u64.wrap (wrap64 ((fe f : Int) + (fm f : Int))) = ((fe f + fm f : Nat) : Int) := by
 have h := dZ f
 rw [show (fe f : Int) + (fm f : Int) = ((fe f + fm f : Nat) : Int) by omega, wu _ (by omega)]
theorem zC (f : Int) (v : Nat) (hv : v < 4294967296) : eP.f f (v : Int) = some (dE f v, (mF f v : Int), (kS f v : Int)) := by
 unfold eP.f
 have h := dZ f
 have hd : v / 2 ^ (fe f + fm f) < 4294967296 := Nat.lt_of_le_of_lt (Nat.div_le_self _ _) hv
 have hd' : v / 2 ^ fm f < 4294967296 := Nat.lt_of_le_of_lt (Nat.div_le_self _ _) hv
 rw [jO, Option.bind_some]
 dsimp only
 rw [sum_w, iD (fm f) (by omega), iD (fe f) (by omega), if_pos (Int.natCast_nonneg _), if_pos (Int.natCast_nonneg _), if_pos (Int.natCast_nonneg _), tC _ _ hv, tC _ _ hv, and1_u32 _ hd, rY _ _ hd' (by omega), rY _ _ hv (by omega), wY _ _ (by omega)]
 rw [show (1 : Int) = ((1 : Nat) : Int) from rfl, nN]
 unfold dE mF kS
 exact Eq.refl _
theorem aAj (k : Nat) (f : Int) (e m : Nat) (he : e ≤ iT f) (hm : m < 2 ^ fm f) (hz : ¬ (e = 0 ∧ m = 0)) :
  aT.j0 (k + 1) f (fm f : Int) (e : Int) (m : Int) false = some (((if e = 0 then (if m = 0 then 0 else 1) else if e < iT f then 2 else if m = 0 then 3 else if m / 2 ^ (fm f - 1) = 1 then 4 else 5 : Nat)) : Int) := by
 have h := dZ f
 have h31 := eT (show fm f ≤ 31 by omega)
 rw [aT.j0, if_neg (by decide)]
 by_cases c : e = 0
 ·subst c
  rw [if_pos (by rfl), if_pos rfl, if_neg (fun h => hz ⟨rfl, h⟩)]; rfl
 ·rw [if_neg (by omega), if_neg c, aAP, Option.bind_some]
  by_cases c2 : e < iT f
  ·rw [if_pos (by omega), if_pos c2]; rfl
  ·rw [if_neg (by omega), if_neg c2]
   by_cases c3 : m = 0
   ·rw [if_pos (by omega), if_pos c3]; rfl
   ·rw [if_neg (by omega), if_neg c3, show (fm f : Int) - 1 = ((fm f - 1 : Nat) : Int) by omega, wu _ (by omega), if_pos (Int.natCast_nonneg _), tC _ _ (by omega)]
    by_cases c4 : m / 2 ^ (fm f - 1) = 1
    ·rw [if_pos (by rw [c4]; rfl), if_pos c4]; rfl
    ·rw [if_neg (by omega), if_neg c4]; rfl
theorem nV (f : Int) (v : Nat) (hv : v < 4294967296) : Ev (fun k => aT.f k f (v : Int)) (bK f v : Int) := by
 have he := aCp f v
 have hm := sU f v
 refine ⟨1, fun k hk => ?_⟩
 obtain ⟨k, rfl⟩ : ∃ j, k = j + 1 := ⟨k - 1, by omega⟩
 show aT.f (k + 1) f (v : Int) = _
 unfold aT.f bK
 rw [jO, Option.bind_some, zC f v hv, Option.bind_some]
 dsimp only
 generalize mF f v = e at *
 generalize kS f v = m at *
 by_cases c : e = 0 ∧ m = 0
 ·obtain ⟨rfl, rfl⟩ := c
  rw [if_pos (by rfl), aT.j0, if_pos (by rfl), if_pos rfl, if_pos rfl]; rfl
 ·by_cases c2 : e = 0
  ·have e2 : (((m : Int) == 0) : Bool) = false := by simp; omega
   rw [if_pos (by omega), e2, aAj k f e m he hm c]
  ·rw [if_neg (by omega), aAj k f e m he hm c]
theorem tJ (f : Int) (v : Nat) (hv : v < 4294967296) : dS.f f (v : Int) = some (dE f v) := by
 unfold dS.f; rw [zC f v hv]; rfl
def qU (f : Int) : Nat := iT f * 2 ^ fm f + 2 ^ (fm f - 1)
theorem wZ (f : Int) : 2 ^ (fm f - 1) < 2 ^ fm f := by
 have h := dZ f
 exact Nat.pow_lt_pow_right (by decide) (by omega)
theorem nan_f (f : Int) : gW.f f = some (qU f : Int) := by
 unfold gW.f
 have h := dZ f
 rw [jO, Option.bind_some, aAP, Option.bind_some]
 dsimp only
 rw [show (fm f : Int) - 1 = ((fm f - 1 : Nat) : Int) by omega, wu _ (by omega), if_pos (Int.natCast_nonneg _), nG _ (by omega), wJ f false _ _ (Nat.le_refl _) (wZ f), Option.bind_some]
 unfold aAI qU
 simp [fO]
theorem bad_f (f : Int) : gL.f f = some ((qU f : Int), true, false, false, false, false) := by
 unfold gL.f; rw [nan_f]; rfl
theorem jZ (f : Int) : bN.f f = some (qU f : Int) := by
 unfold bN.f
 have h := dZ f
 obtain ⟨hi, _⟩ := mH f false
 have hh := wZ f
 have h31 := eT (show fm f ≤ 31 by omega)
 rw [gV, Option.bind_some, kN, Option.bind_some]
 dsimp only
 rw [show (fm f : Int) - 1 = ((fm f - 1 : Nat) : Int) by omega, cK _ (by omega) (by omega), if_pos (Int.natCast_nonneg _), nG _ (by omega), qV _ _ hi (by omega)]
 unfold oH qU
 rw [show fO f false = 0 from rfl, Nat.add_zero, o6 _ _ (fm f) (Nat.mul_mod_left ..) hh]
theorem unpack_f (f : Int) (v : Nat) (hv : v < 4294967296) (h : mF f v < iT f) : iF.f f (v : Int) = some (dE f v, bA f v, (bH f v : Int)) := by
 unfold iF.f bA bH
 obtain ⟨b1, b2, b3, b4, b5⟩ := dZ f
 have hm := sU f v
 have h31 := eT (show fm f ≤ 31 by omega)
 have hl := iO f
 have ht := jL f
 rw [jO, Option.bind_some, zC f v hv, Option.bind_some]
 dsimp only
 generalize mF f v = e at *
 generalize kS f v = m at *
 by_cases c : e = 0
 ·subst c
  rw [if_pos (by rfl), qD, Option.bind_some, if_pos rfl, cK (dQ f - fm f) (by omega) (by omega), iD m (by omega)]
  simp
 ·rw [if_neg (by omega), aAP, Option.bind_some, if_neg (by omega), qD, Option.bind_some, if_neg c, iD (fm f) (by omega), if_pos (Int.natCast_nonneg _), iD m (by omega), or_top m _ hm (by omega), cK (dQ f - fm f) (by omega) (by omega), cK (dQ f - fm f + e) (by omega) (by omega), cK _ (by omega) (by omega), show dQ f - (fm f : Int) + (e : Int) - 1 = dQ f - fm f + ((e - 1 : Nat) : Int) by omega]
theorem of_f (f : Int) (v : Nat) (hv : v < 4294967296) (h : mF f v < iT f) : gP.f f (v : Int) = some (dE f v, bA f v, (bH f v : Int), false) := by
 unfold gP.f; rw [unpack_f f v hv h]; rfl

theorem jI (f : Int) (v : Nat) (hv : v < 4294967296) (h : mF f v < iT f) : Ev (fun k => aN.f k f (v : Int)) (dE f v, bA f v, (bH f v : Int)) := by
 have := uX f v hv (by rw [qH]; exact h); rw [tN, aAw, aB9] at this; exact this
theorem iK (f : Int) (v : Nat) (hv : v < 4294967296) : Ev (fun k => aI.f k f (v : Int)) (decide (bK f v = 3)) := by
 refine Ev.congr (fun k => by unfold aI.f; rfl) (Ev.bind (pF f v hv) (Ev.congr (fun k => ?_) (Ev.now _)))
 rw [show (3 : Int) = ((3 : Nat) : Int) from rfl, nN]
end Go.Proofs.YtjlgmfgjleajfaaGreat.Round

-- Printed by a program of this session's out of Lean's print of the translation; Lean checks it.
namespace Go.Proofs.YtjlgmfgjleajfaaGreat.P
open Go.RowKit Go.Proofs.YtjlgmfgjleajfaaGreatW.PrintWords Go.Proofs.YtjlgmfgjleajfaaGreatW.PrintLast Go.Proofs.YtjlgmfgjleajfaaGreatW.PrintMore
attribute [local go_sem] max2_int min2_int max_two min_two max_three min_three max_four min_four

-- NEED 0
/-! ### dN: function 75 -/
def dN.f (k : Nat) (a0 a1 a2 : Int) : Option (Int) := (bC.f a0).bind fun bt145 => ((dG.f a0).bind fun t147 => (if a2 > 0 then ((bits_Len.f k a2).bind fun t148 => (some (wrap64 ((mx t147 (wrap64 ((wrap64 (a1 + t148)) - 1))) - bt145.2)))) else (some (wrap64 (t147 - bt145.2)))))
theorem dN.mono : ∀ a0 a1 a2 k, LeO (dN.f k a0 a1 a2) (dN.f (k + 1) a0 a1 a2) := by
 intro a0 a1 a2 k
 unfold dN.f
 repeat' first
   |(with_reducible first|exact bits_Len.mono _ _|exact LeO.refl _|exact LeO.none _|refine LeO.ite ?_ ?_|refine LeO.bind ?_ (fun _ => ?_))
   |exact bits_Len.mono _ _
   |exact LeO.none _
   |refine LeO.ite ?_ ?_
   |refine LeO.bind ?_ (fun _ => ?_)
theorem dN.calls (k : Nat) (a0 a1 : Int) (a2 r : Int) (w : World) (h : dN.f k a0 a1 a2 = some r) :
  Calls Tryz.prog 75 #[.int .i64 a0, .int .i64 a1, .int .u64 a2] w fun e w' => e = .returned (.int .i64 r) ∧ Below w.heap.size w w' := by
 have HB := Aside0.mk (Below.refl w.heap.size w)
 have H : ((bC.f a0).bind fun bt145 => ((dG.f a0).bind fun t147 => (if a2 > 0 then ((bits_Len.f k a2).bind fun t148 => (some (wrap64 ((mx t147 (wrap64 ((wrap64 (a1 + t148)) - 1))) - bt145.2)))) else (some (wrap64 (t147 - bt145.2)))))) = some r := h
 clear h
 replace H := bq_ H
 obtain ⟨⟨t145, t146⟩, A40, H⟩ := H
 replace H : ((dG.f a0).bind fun t147 => (if a2 > 0 then ((bits_Len.f k a2).bind fun t148 => (some (wrap64 ((mx t147 (wrap64 ((wrap64 (a1 + t148)) - 1))) - t146)))) else (some (wrap64 (t147 - t146))))) = some r := H
 have A4 := Aside0.mk A40
 clear A40
 replace H := bq_ H
 obtain ⟨t147, A50, H⟩ := H
 replace H : (if a2 > 0 then ((bits_Len.f k a2).bind fun t148 => (some (wrap64 ((mx t147 (wrap64 ((wrap64 (a1 + t148)) - 1))) - t146)))) else (some (wrap64 (t147 - t146)))) = some r := H
 have A5 := Aside0.mk A50
 clear A50
 by_cases c6 : a2 > 0
 ·rw [if_pos c6] at H
  have c6b0 : decide (0 < a2) = true := decide_eq_true c6
  clear c6
  replace H := bq_ H
  obtain ⟨t148, A70, H⟩ := H
  replace H : (some (wrap64 ((mx t147 (wrap64 ((wrap64 (a1 + t148)) - 1))) - t146))) = some r := H
  have A7 := Aside0.mk A70
  clear A70
  obtain ⟨ji8, hji8⟩ : ∃ j_ : Int, (mx t147 (wrap64 ((wrap64 (a1 + t148)) - 1))) = j_ := ⟨_, rfl⟩
  replace H : (some (wrap64 ((ji8) - t146))) = some r := by first | (rw [hji8] at H; exact H) | (simp only [hji8] at H ⊢; exact H)
  (try rw [hji8] at A4)
  (try rw [hji8] at A5)
  (try rw [hji8] at A7)
  have hji8_ : (if t147 < (wrap64 ((wrap64 (a1 + t148)) - 1)) then (wrap64 ((wrap64 (a1 + t148)) - 1)) else t147) = ji8 := hji8
  obtain rfl := Option.some.inj H
  go_enter Tryz.func75, Tryz.ntmps75
  go_wp2_with (first | ((with_reducible refine gate_callee (f := 70) rfl ?_); refine goesL_ (some 12) rfl rfl Tryz.func70 (by kernel_rfl) rfl #[.int .i64 a0] rfl gl ?_; (with_reducible refine (bC.calls a0 t145 t146 _ A4.out).mono ?_); rintro e w' ⟨rfl, ⟨nd, rfl⟩⟩; refine ⟨_, rfl, ?_⟩) | ((with_reducible refine gate_callee (f := 78) rfl ?_); refine goesL_ (some 16) rfl rfl Tryz.func78 (by kernel_rfl) rfl #[.int .i64 a0] rfl gl ?_; (with_reducible refine (dG.calls a0 t147 _ A5.out).mono ?_); rintro e w' ⟨rfl, ⟨nd, rfl⟩⟩; refine ⟨_, rfl, ?_⟩) | ((with_reducible refine gate_callee (f := 39) rfl ?_); refine goesL_ (some 22) rfl rfl Tryz.func39 (by kernel_rfl) rfl #[.int .u64 a2] rfl gl ?_; (with_reducible refine (bits_Len.calls k a2 t148 _ A7.out).mono ?_); rintro e w' ⟨rfl, ⟨nd, rfl⟩⟩; refine ⟨_, rfl, ?_⟩))
  go_ret
  exact ⟨by first | rfl | (simp [aP, aQ] <;> rfl) | (simp only [← hji8]; first | rfl | (simp [aP, aQ] <;> rfl)) | (simp [*, aP, aQ] <;> rfl), bl0 HB.out⟩
 ·rw [if_neg c6] at H
  have c6b0 : decide (0 < a2) = false := decide_eq_false c6
  clear c6
  obtain rfl := Option.some.inj H
  go_enter Tryz.func75, Tryz.ntmps75
  go_wp2_with (first | ((with_reducible refine gate_callee (f := 70) rfl ?_); refine goesL_ (some 12) rfl rfl Tryz.func70 (by kernel_rfl) rfl #[.int .i64 a0] rfl gl ?_; (with_reducible refine (bC.calls a0 t145 t146 _ A4.out).mono ?_); rintro e w' ⟨rfl, ⟨nd, rfl⟩⟩; refine ⟨_, rfl, ?_⟩) | ((with_reducible refine gate_callee (f := 78) rfl ?_); refine goesL_ (some 16) rfl rfl Tryz.func78 (by kernel_rfl) rfl #[.int .i64 a0] rfl gl ?_; (with_reducible refine (dG.calls a0 t147 _ A5.out).mono ?_); rintro e w' ⟨rfl, ⟨nd, rfl⟩⟩; refine ⟨_, rfl, ?_⟩))
  go_ret
  exact ⟨by first | rfl | (simp [aP, aQ] <;> rfl) | (simp [*, aP, aQ] <;> rfl), bl0 HB.out⟩

-- NEED 0
/-! ### dC: function 76 -/
def dC.f (k : Nat) (a0 a1 : Int) (a2 : Bool) : Option (Int × Int) := if a1 ≤ 0 then ((aV.f k a0 a1).bind fun bt149 => (if a2 = true then (some (bt149.1, 1)) else (some (bt149.1, 0)))) else ((aV.f k a0 a1).bind fun bt151 => (if bt151.2 = true then ((aV.f k a0 (wrap64 (a1 - 1))).bind fun bt153 => (if (Go.bits .and .u64 bt153.1 1) = 0 then (some (bt151.1, 1)) else (if bt153.2 = true then (some (bt151.1, 3)) else (if a2 = true then (some (bt151.1, 3)) else (some (bt151.1, 2)))))) else (if a2 = true then (some (bt151.1, 1)) else (some (bt151.1, 0)))))
theorem dC.mono : ∀ a0 a1 a2 k, LeO (dC.f k a0 a1 a2) (dC.f (k + 1) a0 a1 a2) := by
 intro a0 a1 a2 k
 unfold dC.f
 repeat' first
   |(with_reducible first|exact aV.mono _ _ _|exact LeO.refl _|exact LeO.none _|refine LeO.ite ?_ ?_|refine LeO.bind ?_ (fun _ => ?_))
   |exact aV.mono _ _ _
   |exact LeO.none _
   |refine LeO.ite ?_ ?_
   |refine LeO.bind ?_ (fun _ => ?_)
theorem dC.calls (k : Nat) (a0 a1 : Int) (a2 : Bool) (r1 r2 : Int) (w : World) (h : dC.f k a0 a1 a2 = some (r1, r2)) :
  Calls Tryz.prog 76 #[.int .u64 a0, .int .i64 a1, .bool a2] w fun e w' => e = .returned (.tuple #[.int .u64 r1, .int .i64 r2]) ∧ Drawn0 w w' := by
 have H : (if a1 ≤ 0 then ((aV.f k a0 a1).bind fun bt149 => (if a2 = true then (some (bt149.1, 1)) else (some (bt149.1, 0)))) else ((aV.f k a0 a1).bind fun bt151 => (if bt151.2 = true then ((aV.f k a0 (wrap64 (a1 - 1))).bind fun bt153 => (if (Go.bits .and .u64 bt153.1 1) = 0 then (some (bt151.1, 1)) else (if bt153.2 = true then (some (bt151.1, 3)) else (if a2 = true then (some (bt151.1, 3)) else (some (bt151.1, 2)))))) else (if a2 = true then (some (bt151.1, 1)) else (some (bt151.1, 0)))))) = some (r1, r2) := h
 clear h
 by_cases c4 : a1 ≤ 0
 ·rw [if_pos c4] at H
  have c4b0 : decide (a1 ≤ 0) = true := decide_eq_true c4
  clear c4
  replace H := bq_ H
  obtain ⟨⟨t149, t150⟩, A50, H⟩ := H
  replace H : (if a2 = true then (some (t149, 1)) else (some (t149, 0))) = some (r1, r2) := H
  have A5 := Aside0.mk A50
  clear A50
  by_cases c6 : a2 = true
  ·subst c6
   have H1 : (some (t149, 1)) = some (r1, r2) := by rw [if_pos rfl] at H; exact H
   clear H
   have H := H1
   clear H1
   simp only [Option.some.injEq, Prod.mk.injEq] at H
   obtain ⟨rfl, rfl⟩ := H
   go_enter Tryz.func76, Tryz.ntmps76
   go_wp2_with (first | ((with_reducible refine gate_callee (f := 40) rfl ?_); refine goesL_ (some 19) rfl rfl Tryz.func40 (by kernel_rfl) rfl #[.int .u64 a0, .int .i64 a1] rfl gl ?_; (with_reducible refine (aV.calls k a0 a1 t149 t150 _ A5.out).mono ?_); rintro e w' ⟨rfl, ⟨nd, rfl⟩⟩; refine ⟨_, rfl, ?_⟩))
   go_ret2
   exact ⟨gr_, gd_⟩
  ·replace c6 := Bool.eq_false_iff.mpr c6
   subst c6
   have H1 : (some (t149, 0)) = some (r1, r2) := by rw [if_neg (show ¬ (false = true) by decide)] at H; exact H
   clear H
   have H := H1
   clear H1
   simp only [Option.some.injEq, Prod.mk.injEq] at H
   obtain ⟨rfl, rfl⟩ := H
   go_enter Tryz.func76, Tryz.ntmps76
   go_wp2_with (first | ((with_reducible refine gate_callee (f := 40) rfl ?_); refine goesL_ (some 19) rfl rfl Tryz.func40 (by kernel_rfl) rfl #[.int .u64 a0, .int .i64 a1] rfl gl ?_; (with_reducible refine (aV.calls k a0 a1 t149 t150 _ A5.out).mono ?_); rintro e w' ⟨rfl, ⟨nd, rfl⟩⟩; refine ⟨_, rfl, ?_⟩))
   go_ret2
   exact ⟨gr_, gd_⟩
 ·rw [if_neg c4] at H
  have c4b0 : decide (a1 ≤ 0) = false := decide_eq_false c4
  clear c4
  replace H := bq_ H
  obtain ⟨⟨t151, t152⟩, A70, H⟩ := H
  replace H : (if t152 = true then ((aV.f k a0 (wrap64 (a1 - 1))).bind fun bt153 => (if (Go.bits .and .u64 bt153.1 1) = 0 then (some (t151, 1)) else (if bt153.2 = true then (some (t151, 3)) else (if a2 = true then (some (t151, 3)) else (some (t151, 2)))))) else (if a2 = true then (some (t151, 1)) else (some (t151, 0)))) = some (r1, r2) := H
  have A7 := Aside0.mk A70
  clear A70
  by_cases c8 : t152 = true
  ·subst c8
   have H1 : ((aV.f k a0 (wrap64 (a1 - 1))).bind fun bt153 => (if (Go.bits .and .u64 bt153.1 1) = 0 then (some (t151, 1)) else (if bt153.2 = true then (some (t151, 3)) else (if a2 = true then (some (t151, 3)) else (some (t151, 2)))))) = some (r1, r2) := by rw [if_pos rfl] at H; exact H
   clear H
   have H := H1
   clear H1
   replace H := bq_ H
   obtain ⟨⟨t153, t154⟩, A90, H⟩ := H
   replace H : (if (Go.bits .and .u64 t153 1) = 0 then (some (t151, 1)) else (if t154 = true then (some (t151, 3)) else (if a2 = true then (some (t151, 3)) else (some (t151, 2))))) = some (r1, r2) := H
   have A9 := Aside0.mk A90
   clear A90
   by_cases c10 : (Go.bits .and .u64 t153 1) = 0
   ·rw [if_pos c10] at H
    have c10b0 : ((Go.bits .and .u64 t153 1) == 0) = true := beq_iff_eq.mpr c10
    have c10b1 : ((Go.bits .and .u64 t153 1) != 0) = false := bne_eq_false_iff_eq.mpr c10
    clear c10
    simp only [Option.some.injEq, Prod.mk.injEq] at H
    obtain ⟨rfl, rfl⟩ := H
    go_enter Tryz.func76, Tryz.ntmps76
    go_wp2_with (first | ((with_reducible refine gate_callee (f := 40) rfl ?_); refine goesL_ (some 28) rfl rfl Tryz.func40 (by kernel_rfl) rfl #[.int .u64 a0, .int .i64 a1] rfl gl ?_; (with_reducible refine (aV.calls k a0 a1 t151 true _ A7.out).mono ?_); rintro e w' ⟨rfl, ⟨nd, rfl⟩⟩; refine ⟨_, rfl, ?_⟩) | ((with_reducible refine gate_callee (f := 40) rfl ?_); refine goesL_ (some 40) rfl rfl Tryz.func40 (by kernel_rfl) rfl #[.int .u64 a0, .int .i64 (wrap64 (a1 - 1))] rfl gl ?_; (with_reducible refine (aV.calls k a0 (wrap64 (a1 - 1)) t153 t154 _ A9.out).mono ?_); rintro e w' ⟨rfl, ⟨nd, rfl⟩⟩; refine ⟨_, rfl, ?_⟩))
    go_ret2
    exact ⟨gr_, gd_⟩
   ·rw [if_neg c10] at H
    have c10b0 : ((Go.bits .and .u64 t153 1) == 0) = false := beq_eq_false_iff_ne.mpr c10
    have c10b1 : ((Go.bits .and .u64 t153 1) != 0) = true := bne_iff_ne.mpr c10
    by_cases c11 : t154 = true
    ·subst c11
     have H1 : (some (t151, 3)) = some (r1, r2) := by rw [if_pos rfl] at H; exact H
     clear H
     have H := H1
     clear H1
     simp only [Option.some.injEq, Prod.mk.injEq] at H
     obtain ⟨rfl, rfl⟩ := H
     go_enter Tryz.func76, Tryz.ntmps76
     go_wp2_with (first | ((with_reducible refine gate_callee (f := 40) rfl ?_); refine goesL_ (some 28) rfl rfl Tryz.func40 (by kernel_rfl) rfl #[.int .u64 a0, .int .i64 a1] rfl gl ?_; (with_reducible refine (aV.calls k a0 a1 t151 true _ A7.out).mono ?_); rintro e w' ⟨rfl, ⟨nd, rfl⟩⟩; refine ⟨_, rfl, ?_⟩) | ((with_reducible refine gate_callee (f := 40) rfl ?_); refine goesL_ (some 40) rfl rfl Tryz.func40 (by kernel_rfl) rfl #[.int .u64 a0, .int .i64 (wrap64 (a1 - 1))] rfl gl ?_; (with_reducible refine (aV.calls k a0 (wrap64 (a1 - 1)) t153 true _ A9.out).mono ?_); rintro e w' ⟨rfl, ⟨nd, rfl⟩⟩; refine ⟨_, rfl, ?_⟩))
     go_ret2
     exact ⟨gr_, gd_⟩
    ·replace c11 := Bool.eq_false_iff.mpr c11
     subst c11
     have H1 : (if a2 = true then (some (t151, 3)) else (some (t151, 2))) = some (r1, r2) := by rw [if_neg (show ¬ (false = true) by decide)] at H; exact H
     clear H
     have H := H1
     clear H1
     by_cases c12 : a2 = true
     ·subst c12
      have H1 : (some (t151, 3)) = some (r1, r2) := by rw [if_pos rfl] at H; exact H
      clear H
      have H := H1
      clear H1
      simp only [Option.some.injEq, Prod.mk.injEq] at H
      obtain ⟨rfl, rfl⟩ := H
      go_enter Tryz.func76, Tryz.ntmps76
      go_wp2_with (first | ((with_reducible refine gate_callee (f := 40) rfl ?_); refine goesL_ (some 28) rfl rfl Tryz.func40 (by kernel_rfl) rfl #[.int .u64 a0, .int .i64 a1] rfl gl ?_; (with_reducible refine (aV.calls k a0 a1 t151 true _ A7.out).mono ?_); rintro e w' ⟨rfl, ⟨nd, rfl⟩⟩; refine ⟨_, rfl, ?_⟩) | ((with_reducible refine gate_callee (f := 40) rfl ?_); refine goesL_ (some 40) rfl rfl Tryz.func40 (by kernel_rfl) rfl #[.int .u64 a0, .int .i64 (wrap64 (a1 - 1))] rfl gl ?_; (with_reducible refine (aV.calls k a0 (wrap64 (a1 - 1)) t153 false _ A9.out).mono ?_); rintro e w' ⟨rfl, ⟨nd, rfl⟩⟩; refine ⟨_, rfl, ?_⟩))
      go_ret2
      exact ⟨gr_, gd_⟩
     ·replace c12 := Bool.eq_false_iff.mpr c12
      subst c12
      have H1 : (some (t151, 2)) = some (r1, r2) := by rw [if_neg (show ¬ (false = true) by decide)] at H; exact H
      clear H
      have H := H1
      clear H1
      simp only [Option.some.injEq, Prod.mk.injEq] at H
      obtain ⟨rfl, rfl⟩ := H
      go_enter Tryz.func76, Tryz.ntmps76
      go_wp2_with (first | ((with_reducible refine gate_callee (f := 40) rfl ?_); refine goesL_ (some 28) rfl rfl Tryz.func40 (by kernel_rfl) rfl #[.int .u64 a0, .int .i64 a1] rfl gl ?_; (with_reducible refine (aV.calls k a0 a1 t151 true _ A7.out).mono ?_); rintro e w' ⟨rfl, ⟨nd, rfl⟩⟩; refine ⟨_, rfl, ?_⟩) | ((with_reducible refine gate_callee (f := 40) rfl ?_); refine goesL_ (some 40) rfl rfl Tryz.func40 (by kernel_rfl) rfl #[.int .u64 a0, .int .i64 (wrap64 (a1 - 1))] rfl gl ?_; (with_reducible refine (aV.calls k a0 (wrap64 (a1 - 1)) t153 false _ A9.out).mono ?_); rintro e w' ⟨rfl, ⟨nd, rfl⟩⟩; refine ⟨_, rfl, ?_⟩))
      go_ret2
      exact ⟨gr_, gd_⟩
  ·replace c8 := Bool.eq_false_iff.mpr c8
   subst c8
   have H1 : (if a2 = true then (some (t151, 1)) else (some (t151, 0))) = some (r1, r2) := by rw [if_neg (show ¬ (false = true) by decide)] at H; exact H
   clear H
   have H := H1
   clear H1
   by_cases c13 : a2 = true
   ·subst c13
    have H1 : (some (t151, 1)) = some (r1, r2) := by rw [if_pos rfl] at H; exact H
    clear H
    have H := H1
    clear H1
    simp only [Option.some.injEq, Prod.mk.injEq] at H
    obtain ⟨rfl, rfl⟩ := H
    go_enter Tryz.func76, Tryz.ntmps76
    go_wp2_with (first | ((with_reducible refine gate_callee (f := 40) rfl ?_); refine goesL_ (some 28) rfl rfl Tryz.func40 (by kernel_rfl) rfl #[.int .u64 a0, .int .i64 a1] rfl gl ?_; (with_reducible refine (aV.calls k a0 a1 t151 false _ A7.out).mono ?_); rintro e w' ⟨rfl, ⟨nd, rfl⟩⟩; refine ⟨_, rfl, ?_⟩))
    go_ret2
    exact ⟨gr_, gd_⟩
   ·replace c13 := Bool.eq_false_iff.mpr c13
    subst c13
    have H1 : (some (t151, 0)) = some (r1, r2) := by rw [if_neg (show ¬ (false = true) by decide)] at H; exact H
    clear H
    have H := H1
    clear H1
    simp only [Option.some.injEq, Prod.mk.injEq] at H
    obtain ⟨rfl, rfl⟩ := H
    go_enter Tryz.func76, Tryz.ntmps76
    go_wp2_with (first | ((with_reducible refine gate_callee (f := 40) rfl ?_); refine goesL_ (some 28) rfl rfl Tryz.func40 (by kernel_rfl) rfl #[.int .u64 a0, .int .i64 a1] rfl gl ?_; (with_reducible refine (aV.calls k a0 a1 t151 false _ A7.out).mono ?_); rintro e w' ⟨rfl, ⟨nd, rfl⟩⟩; refine ⟨_, rfl, ?_⟩))
    go_ret2
    exact ⟨gr_, gd_⟩

-- NEED 0
/-! ### jA: function 77 -/
def jA.f (a0 : Int) (a1 : Bool) (a2 a3 : Int) : Option (Bool) := if a0 = 1 then (some false) else (if a0 = 2 then (if a1 = true then (some false) else (some (a3 != 0))) else (if a0 = 3 then (if a1 = true then (some (a3 != 0)) else (some false)) else (if a0 = 4 then (some (decide (a3 ≥ 2))) else (if a3 = 3 then (some true) else (if a3 = 2 then (some ((Go.bits .and .u64 a2 1) == 1)) else (some false))))))
theorem jA.calls (a0 : Int) (a1 : Bool) (a2 a3 : Int) (r : Bool) (w : World) (h : jA.f a0 a1 a2 a3 = some r) :
  Calls Tryz.prog 77 #[.int .i64 a0, .bool a1, .int .u64 a2, .int .i64 a3] w fun e w' => e = .returned (.bool r) ∧ Drawn0 w w' := by
 have H : (if a0 = 1 then (some false) else (if a0 = 2 then (if a1 = true then (some false) else (some (a3 != 0))) else (if a0 = 3 then (if a1 = true then (some (a3 != 0)) else (some false)) else (if a0 = 4 then (some (decide (a3 ≥ 2))) else (if a3 = 3 then (some true) else (if a3 = 2 then (some ((Go.bits .and .u64 a2 1) == 1)) else (some false))))))) = some r := h
 clear h
 by_cases c5 : a0 = 1
 ·rw [if_pos c5] at H
  have c5b0 : (a0 == 1) = true := beq_iff_eq.mpr c5
  have c5b1 : (a0 != 1) = false := bne_eq_false_iff_eq.mpr c5
  clear c5
  obtain rfl := Option.some.inj H
  go_enter Tryz.func77, Tryz.ntmps77
  go_wp2
  go_ret
  exact ⟨gr_, gd_⟩
 ·rw [if_neg c5] at H
  have c5b0 : (a0 == 1) = false := beq_eq_false_iff_ne.mpr c5
  have c5b1 : (a0 != 1) = true := bne_iff_ne.mpr c5
  by_cases c6 : a0 = 2
  ·rw [if_pos c6] at H
   have c6b0 : (a0 == 2) = true := beq_iff_eq.mpr c6
   have c6b1 : (a0 != 2) = false := bne_eq_false_iff_eq.mpr c6
   clear c6
   by_cases c7 : a1 = true
   ·subst c7
    have H1 : (some false) = some r := by rw [if_pos rfl] at H; exact H
    clear H
    have H := H1
    clear H1
    obtain rfl := Option.some.inj H
    go_enter Tryz.func77, Tryz.ntmps77
    go_wp2
    go_ret
    exact ⟨gr_, gd_⟩
   ·replace c7 := Bool.eq_false_iff.mpr c7
    subst c7
    have H1 : (some (a3 != 0)) = some r := by rw [if_neg (show ¬ (false = true) by decide)] at H; exact H
    clear H
    have H := H1
    clear H1
    obtain rfl := Option.some.inj H
    go_enter Tryz.func77, Tryz.ntmps77
    go_wp2
    go_ret
    exact ⟨gr_, gd_⟩
  ·rw [if_neg c6] at H
   have c6b0 : (a0 == 2) = false := beq_eq_false_iff_ne.mpr c6
   have c6b1 : (a0 != 2) = true := bne_iff_ne.mpr c6
   by_cases c8 : a0 = 3
   ·rw [if_pos c8] at H
    have c8b0 : (a0 == 3) = true := beq_iff_eq.mpr c8
    have c8b1 : (a0 != 3) = false := bne_eq_false_iff_eq.mpr c8
    clear c8
    by_cases c9 : a1 = true
    ·subst c9
     have H1 : (some (a3 != 0)) = some r := by rw [if_pos rfl] at H; exact H
     clear H
     have H := H1
     clear H1
     obtain rfl := Option.some.inj H
     go_enter Tryz.func77, Tryz.ntmps77
     go_wp2
     go_ret
     exact ⟨gr_, gd_⟩
    ·replace c9 := Bool.eq_false_iff.mpr c9
     subst c9
     have H1 : (some false) = some r := by rw [if_neg (show ¬ (false = true) by decide)] at H; exact H
     clear H
     have H := H1
     clear H1
     obtain rfl := Option.some.inj H
     go_enter Tryz.func77, Tryz.ntmps77
     go_wp2
     go_ret
     exact ⟨gr_, gd_⟩
   ·rw [if_neg c8] at H
    have c8b0 : (a0 == 3) = false := beq_eq_false_iff_ne.mpr c8
    have c8b1 : (a0 != 3) = true := bne_iff_ne.mpr c8
    by_cases c10 : a0 = 4
    ·rw [if_pos c10] at H
     have c10b0 : (a0 == 4) = true := beq_iff_eq.mpr c10
     have c10b1 : (a0 != 4) = false := bne_eq_false_iff_eq.mpr c10
     clear c10
     obtain rfl := Option.some.inj H
     go_enter Tryz.func77, Tryz.ntmps77
     go_wp2
     go_ret
     exact ⟨gr_, gd_⟩
    ·rw [if_neg c10] at H
     have c10b0 : (a0 == 4) = false := beq_eq_false_iff_ne.mpr c10
     have c10b1 : (a0 != 4) = true := bne_iff_ne.mpr c10
     by_cases c11 : a3 = 3
     ·rw [if_pos c11] at H
      have c11b0 : (a3 == 3) = true := beq_iff_eq.mpr c11
      have c11b1 : (a3 != 3) = false := bne_eq_false_iff_eq.mpr c11
      clear c11
      obtain rfl := Option.some.inj H
      go_enter Tryz.func77, Tryz.ntmps77
      go_wp2
      go_ret
      exact ⟨gr_, gd_⟩
     ·rw [if_neg c11] at H
      have c11b0 : (a3 == 3) = false := beq_eq_false_iff_ne.mpr c11
      have c11b1 : (a3 != 3) = true := bne_iff_ne.mpr c11
      by_cases c12 : a3 = 2
      ·rw [if_pos c12] at H
       have c12b0 : (a3 == 2) = true := beq_iff_eq.mpr c12
       have c12b1 : (a3 != 2) = false := bne_eq_false_iff_eq.mpr c12
       clear c12
       obtain rfl := Option.some.inj H
       go_enter Tryz.func77, Tryz.ntmps77
       go_wp2
       go_ret
       exact ⟨gr_, gd_⟩
      ·rw [if_neg c12] at H
       have c12b0 : (a3 == 2) = false := beq_eq_false_iff_ne.mpr c12
       have c12b1 : (a3 != 2) = true := bne_iff_ne.mpr c12
       obtain rfl := Option.some.inj H
       go_enter Tryz.func77, Tryz.ntmps77
       go_wp2
       go_ret
       exact ⟨gr_, gd_⟩


-- NEED 1
/-! ### aB: function 41 -/
mutual
def aB.j0 : Nat → Int → Int → Bool → Int → Int → Bool → Bool → Option (Int × Bool × Bool × Bool × Bool × Bool)
 |0, _, _, _, _, _, _, _ => none
 |k + 1, x0, x1, x2, x3, x4, x5, x29 => if x29 = true then ((eF.f x0 x2).bind fun t168 => (some (t168, false, false, false, false, false))) else ((bC.f x0).bind fun bt169 => ((dN.f k x0 x3 x4).bind fun t171 => ((dC.f k x4 (wrap64 (t171 - x3)) x5).bind fun bt172 => ((jA.f x1 x2 bt172.1 bt172.2).bind fun t174 => (if t174 = true then (aB.j1 k x0 x1 x2 x3 x4 bt169.2 t171 (IntKind.u64.wrap (bt172.1 + 1)) bt172.2) else (aB.j1 k x0 x1 x2 x3 x4 bt169.2 t171 bt172.1 bt172.2))))))
def aB.j1 : Nat → Int → Int → Bool → Int → Int → Int → Int → Int → Int → Option (Int × Bool × Bool × Bool × Bool × Bool)
 |0, _, _, _, _, _, _, _, _, _ => none
 |k + 1, x0, x1, x2, x3, x4, x15, x16, x17, x18 => if 0 ≤ (IntKind.u64.wrap (wrap64 (x15 + 1))) then (if (shr .u64 x17 (IntKind.u64.wrap (wrap64 (x15 + 1)))) = 0 then (aB.j2 k x0 x1 x2 x3 x4 x15 x16 x17 x18) else (aB.j2 k x0 x1 x2 x3 x4 x15 (wrap64 (x16 + 1)) (x17 / 2) x18)) else (none)
def aB.j2 : Nat → Int → Int → Bool → Int → Int → Int → Int → Int → Int → Option (Int × Bool × Bool × Bool × Bool × Bool)
 |0, _, _, _, _, _, _, _, _, _ => none
 |k + 1, x0, x1, x2, x3, x4, x15, x16, x17, x18 => (dG.f x0).bind fun t175 => (if 0 ≤ (IntKind.u64.wrap (x15)) then (if (shr .u64 x17 (IntKind.u64.wrap (x15))) = 0 then (aB.j3 k x0 x1 x2 x3 x4 x15 x17 x18 0) else (aB.j3 k x0 x1 x2 x3 x4 x15 x17 x18 (wrap64 ((wrap64 ((wrap64 (x16 + x15)) - t175)) + 1)))) else (none))
def aB.j3 : Nat → Int → Int → Bool → Int → Int → Int → Int → Int → Int → Option (Int × Bool × Bool × Bool × Bool × Bool)
 |0, _, _, _, _, _, _, _, _, _ => none
 |k + 1, x0, x1, x2, x3, x4, x15, x17, x18, x19 => (dO.f x0).bind fun t176 => (if x19 ≥ t176 then ((bZ.f x0 x1 x2).bind fun bt177 => (some (bt177.1, bt177.2.1, bt177.2.2.1, bt177.2.2.2.1, bt177.2.2.2.2.1, bt177.2.2.2.2.2))) else (if x18 = 0 then ((gU.f x17 x15).bind fun t184 => ((cO.f x0 x2 x19 ((t184) % 4294967296)).bind fun t185 => (some (t185, false, false, false, false, (x18 != 0))))) else (if x4 = 0 then ((gU.f x17 x15).bind fun t186 => ((cO.f x0 x2 x19 ((t186) % 4294967296)).bind fun t187 => (some (t187, false, false, false, true, (x18 != 0))))) else ((bits_Len.f k x4).bind fun t188 => ((dG.f x0).bind fun t189 => ((gU.f x17 x15).bind fun t190 => ((cO.f x0 x2 x19 ((t190) % 4294967296)).bind fun t191 => (some (t191, false, false, false, decide ((wrap64 ((wrap64 (x3 + t188)) - 1)) < t189), (x18 != 0))))))))))
end
def aB.f (k : Nat) (a0 a1 : Int) (a2 : Bool) (a3 a4 : Int) (a5 : Bool) : Option (Int × Bool × Bool × Bool × Bool × Bool) := if a4 = 0 then (aB.j0 k a0 a1 a2 (mn (mx a3 (-10000)) 10000) a4 a5 (!a5)) else (aB.j0 k a0 a1 a2 (mn (mx a3 (-10000)) 10000) a4 a5 false)
theorem aB.eZ : ∀ k, (∀ y0 y1 y2 y3 y4 y5 y6, LeO (aB.j0 k y0 y1 y2 y3 y4 y5 y6) (aB.j0 (k + 1) y0 y1 y2 y3 y4 y5 y6)) ∧ (∀ y0 y1 y2 y3 y4 y5 y6 y7 y8, LeO (aB.j1 k y0 y1 y2 y3 y4 y5 y6 y7 y8) (aB.j1 (k + 1) y0 y1 y2 y3 y4 y5 y6 y7 y8)) ∧ (∀ y0 y1 y2 y3 y4 y5 y6 y7 y8, LeO (aB.j2 k y0 y1 y2 y3 y4 y5 y6 y7 y8) (aB.j2 (k + 1) y0 y1 y2 y3 y4 y5 y6 y7 y8)) ∧ (∀ y0 y1 y2 y3 y4 y5 y6 y7 y8, LeO (aB.j3 k y0 y1 y2 y3 y4 y5 y6 y7 y8) (aB.j3 (k + 1) y0 y1 y2 y3 y4 y5 y6 y7 y8))
 |0 => ⟨fun _ _ _ _ _ _ _ r h => by simp [aB.j0] at h, fun _ _ _ _ _ _ _ _ _ r h => by simp [aB.j1] at h, fun _ _ _ _ _ _ _ _ _ r h => by simp [aB.j2] at h, fun _ _ _ _ _ _ _ _ _ r h => by simp [aB.j3] at h⟩
 |k + 1 => by
  obtain ⟨ih0, ih1, ih2, ih3⟩ := aB.eZ k
  refine ⟨?_, ?_, ?_, ?_⟩
  ·intro y0 y1 y2 y3 y4 y5 y6
   unfold aB.j0
   repeat' first
   |(with_reducible first|exact ih0 _ _ _ _ _ _ _|exact ih1 _ _ _ _ _ _ _ _ _|exact ih2 _ _ _ _ _ _ _ _ _|exact ih3 _ _ _ _ _ _ _ _ _|exact bits_Len.mono _ _|exact dN.mono _ _ _ _|exact dC.mono _ _ _ _|exact LeO.refl _|exact LeO.none _|refine LeO.ite ?_ ?_|refine LeO.bind ?_ (fun _ => ?_))
   |exact ih0 _ _ _ _ _ _ _
   |exact ih1 _ _ _ _ _ _ _ _ _
   |exact ih2 _ _ _ _ _ _ _ _ _
   |exact ih3 _ _ _ _ _ _ _ _ _
   |exact bits_Len.mono _ _
   |exact dN.mono _ _ _ _
   |exact dC.mono _ _ _ _
   |exact LeO.none _
   |refine LeO.ite ?_ ?_
   |refine LeO.bind ?_ (fun _ => ?_)
  ·intro y0 y1 y2 y3 y4 y5 y6 y7 y8
   unfold aB.j1
   repeat' first
   |(with_reducible first|exact ih0 _ _ _ _ _ _ _|exact ih1 _ _ _ _ _ _ _ _ _|exact ih2 _ _ _ _ _ _ _ _ _|exact ih3 _ _ _ _ _ _ _ _ _|exact bits_Len.mono _ _|exact dN.mono _ _ _ _|exact dC.mono _ _ _ _|exact LeO.refl _|exact LeO.none _|refine LeO.ite ?_ ?_|refine LeO.bind ?_ (fun _ => ?_))
   |exact ih0 _ _ _ _ _ _ _
   |exact ih1 _ _ _ _ _ _ _ _ _
   |exact ih2 _ _ _ _ _ _ _ _ _
   |exact ih3 _ _ _ _ _ _ _ _ _
   |exact bits_Len.mono _ _
   |exact dN.mono _ _ _ _
   |exact dC.mono _ _ _ _
   |exact LeO.none _
   |refine LeO.ite ?_ ?_
   |refine LeO.bind ?_ (fun _ => ?_)
  ·intro y0 y1 y2 y3 y4 y5 y6 y7 y8
   unfold aB.j2
   repeat' first
   |(with_reducible first|exact ih0 _ _ _ _ _ _ _|exact ih1 _ _ _ _ _ _ _ _ _|exact ih2 _ _ _ _ _ _ _ _ _|exact ih3 _ _ _ _ _ _ _ _ _|exact bits_Len.mono _ _|exact dN.mono _ _ _ _|exact dC.mono _ _ _ _|exact LeO.refl _|exact LeO.none _|refine LeO.ite ?_ ?_|refine LeO.bind ?_ (fun _ => ?_))
   |exact ih0 _ _ _ _ _ _ _
   |exact ih1 _ _ _ _ _ _ _ _ _
   |exact ih2 _ _ _ _ _ _ _ _ _
   |exact ih3 _ _ _ _ _ _ _ _ _
   |exact bits_Len.mono _ _
   |exact dN.mono _ _ _ _
   |exact dC.mono _ _ _ _
   |exact LeO.none _
   |refine LeO.ite ?_ ?_
   |refine LeO.bind ?_ (fun _ => ?_)
  ·intro y0 y1 y2 y3 y4 y5 y6 y7 y8
   unfold aB.j3
   repeat' first
   |(with_reducible first|exact ih0 _ _ _ _ _ _ _|exact ih1 _ _ _ _ _ _ _ _ _|exact ih2 _ _ _ _ _ _ _ _ _|exact ih3 _ _ _ _ _ _ _ _ _|exact bits_Len.mono _ _|exact dN.mono _ _ _ _|exact dC.mono _ _ _ _|exact LeO.refl _|exact LeO.none _|refine LeO.ite ?_ ?_|refine LeO.bind ?_ (fun _ => ?_))
   |exact ih0 _ _ _ _ _ _ _
   |exact ih1 _ _ _ _ _ _ _ _ _
   |exact ih2 _ _ _ _ _ _ _ _ _
   |exact ih3 _ _ _ _ _ _ _ _ _
   |exact bits_Len.mono _ _
   |exact dN.mono _ _ _ _
   |exact dC.mono _ _ _ _
   |exact LeO.none _
   |refine LeO.ite ?_ ?_
   |refine LeO.bind ?_ (fun _ => ?_)
theorem aB.mono : ∀ a0 a1 a2 a3 a4 a5 k, LeO (aB.f k a0 a1 a2 a3 a4 a5) (aB.f (k + 1) a0 a1 a2 a3 a4 a5) := by
 intro a0 a1 a2 a3 a4 a5 k
 obtain ⟨ih0, ih1, ih2, ih3⟩ := aB.eZ k
 unfold aB.f
 repeat' first
   |(with_reducible first|exact ih0 _ _ _ _ _ _ _|exact ih1 _ _ _ _ _ _ _ _ _|exact ih2 _ _ _ _ _ _ _ _ _|exact ih3 _ _ _ _ _ _ _ _ _|exact bits_Len.mono _ _|exact dN.mono _ _ _ _|exact dC.mono _ _ _ _|exact LeO.refl _|exact LeO.none _|refine LeO.ite ?_ ?_|refine LeO.bind ?_ (fun _ => ?_))
   |exact ih0 _ _ _ _ _ _ _
   |exact ih1 _ _ _ _ _ _ _ _ _
   |exact ih2 _ _ _ _ _ _ _ _ _
   |exact ih3 _ _ _ _ _ _ _ _ _
   |exact bits_Len.mono _ _
   |exact dN.mono _ _ _ _
   |exact dC.mono _ _ _ _
   |exact LeO.none _
   |refine LeO.ite ?_ ?_
   |refine LeO.bind ?_ (fun _ => ?_)

end Go.Proofs.YtjlgmfgjleajfaaGreat.P

/- What the program's rounding computes, as plain numbers. -/
namespace Go.Proofs.YtjlgmfgjleajfaaGreat.Round
open Go.RowKit Go.Proofs.YtjlgmfgjleajfaaGreat.P Go.Proofs.YtjlgmfgjleajfaaGreat.Num Go.Proofs.YtjlgmfgjleajfaaGreat.BitsF Go.Proofs.YtjlgmfgjleajfaaGreat.Fmt Go.Proofs.YtjlgmfgjleajfaaGreatW.PrintWords Go.Proofs.YtjlgmfgjleajfaaGreatW.PrintLast Go.Proofs.YtjlgmfgjleajfaaGreatW.PrintMore

def iY (s : Nat) (d : Int) : Nat := if d ≤ 0 then s * 2 ^ (-d).toNat else s / 2 ^ d.toNat
def gN (s : Nat) (d : Int) (more : Bool) : Nat :=
 if d ≤ 0 ∨ s % 2 ^ d.toNat = 0 then (if more then 1 else 0)
 else if s / 2 ^ (d.toNat - 1) % 2 = 0 then 1 else if s % 2 ^ (d.toNat - 1) ≠ 0 ∨ more = true then 3 else 2
def upN (mode : Int) (neg : Bool) (q left : Nat) : Bool :=
 if mode = 1 then false else if mode = 2 then (!neg && decide (left ≠ 0)) else if mode = 3 then (neg && decide (left ≠ 0))
 else if mode = 4 then decide (2 ≤ left) else (decide (left = 3) || (decide (left = 2) && decide (q % 2 = 1)))
def iC (f x : Int) (s : Nat) : Nat := if s = 0 then 0 else (x + gT s - 1 - dQ f).toNat
def dU (f x : Int) (s : Nat) : Int := dQ f - fm f + iC f x s
def oI (f mode : Int) (neg : Bool) (x : Int) (s : Nat) (more : Bool) : Nat :=
 iC f x s * 2 ^ fm f + iY s (dU f x s - x) + (if upN mode neg (iY s (dU f x s - x)) (gN s (dU f x s - x) more) then 1 else 0)
def jK (f : Int) (k : Nat) : Bool := decide (iT f * 2 ^ fm f ≤ k)
def jS (mode : Int) (neg : Bool) : Bool := if mode = 1 then false else if mode = 2 then !neg else if mode = 3 then neg else true
def lV (f x : Int) (s : Nat) (more : Bool) : Bool := decide (gN s (dU f x s - x) more ≠ 0)
def nE (f x : Int) (s : Nat) (more : Bool) : Bool := lV f x s more && (decide (s = 0) || decide (x + gT s - 1 < dQ f))
def gD (f mode : Int) (neg : Bool) (x : Int) (s : Nat) (more : Bool) : Nat :=
 (if jK f (oI f mode neg x s more) then (if jS mode neg then iT f * 2 ^ fm f else iT f * 2 ^ fm f - 1) else oI f mode neg x s more) + fO f neg
def lW (f mode : Int) (neg : Bool) (x : Int) (s : Nat) (more : Bool) : Bool × Bool × Bool :=
 if jK f (oI f mode neg x s more) then (true, false, true) else (false, nE f x s more, lV f x s more)
def lS (x : Int) : Int := mn (mx x (-10000)) 10000
theorem pX (x : Int) : -10000 ≤ lS x ∧ lS x ≤ 10000 := by
 unfold lS mn mx; split <;> split <;> omega
theorem iV (x : Int) (h : -10000 ≤ x) (h' : x ≤ 10000) : lS x = x := by
 unfold lS mn mx; split <;> split <;> omega

theorem unit_f (k : Nat) (f x : Int) (s : Nat) (hs : s < 18446744073709551616) (h1 : -10000 ≤ x) (h2 : x ≤ 10000) : dN.f (k + 1) f x (s : Int) = some (dU f x s) := by
 unfold dN.f dU iC
 obtain ⟨b1, b2, b3, b4, b5⟩ := dZ f
 have hl := iO f
 have hn := nW s hs
 simp only [jO, qD, Option.bind_some]
 by_cases c : s = 0
 ·subst c
  rw [if_neg (by decide), if_pos rfl, cK _ (by omega) (by omega)]; simp
 ·rw [if_pos (by omega), if_neg c, len_f k s hs]
  simp only [Option.bind_some]
  rw [cK (x + _) (by omega) (by omega), cK (x + _ - 1) (by omega) (by omega)]
  unfold mx
  split
  ·rw [cK _ (by omega) (by omega)]; congr 1; omega
  ·rw [cK _ (by omega) (by omega)]; congr 1; omega
theorem quo_lt (s : Nat) (d : Int) (h : d ≤ 0) (h' : s * 2 ^ (-d).toNat < 18446744073709551616) : s * 2 ^ (-d).toNat % 18446744073709551616 = iY s d := by
 unfold iY; rw [if_pos h, Nat.mod_eq_of_lt h']
theorem vD (s : Nat) (d : Int) (more : Bool) : gN s d more ≤ 3 := by
 unfold gN; split
 ·split <;> omega
 ·split
  ·omega
  ·split <;> omega
theorem aAz (v : Nat) (n : Int) : (lK v n).1 = if 0 ≤ n then v / 2 ^ n.toNat else v * 2 ^ (-n).toNat % 18446744073709551616 := by
 unfold lK; split <;> rfl
theorem iE {s : Nat} {d : Int} (more : Bool) (h : d ≤ 0 ∨ s % 2 ^ d.toNat = 0) : gN s d more = if more then 1 else 0 := by
 unfold gN; rw [if_pos h]
theorem mO {s : Nat} {d : Int} (more : Bool) (h : ¬ d ≤ 0) (h' : ¬ s % 2 ^ d.toNat = 0) :
  gN s d more = if s / 2 ^ (d.toNat - 1) % 2 = 0 then 1 else if s % 2 ^ (d.toNat - 1) ≠ 0 ∨ more = true then 3 else 2 := by
 unfold gN; rw [if_neg (not_or.mpr ⟨h, h'⟩)]
theorem units_f (k s : Nat) (hs : s < 18446744073709551616) (d : Int) (h1 : -100000 ≤ d) (h2 : d ≤ 100000) (more : Bool) (hq : d ≤ 0 → s * 2 ^ (-d).toNat < 18446744073709551616) :
  dC.f (k + 1) (s : Int) d more = some ((iY s d : Int), (gN s d more : Int)) := by
 unfold dC.f
 by_cases c : d ≤ 0
 ·rw [if_pos c, vB s hs d (by omega) (by omega)]
  have e : (lK s d).1 = iY s d := by
   rw [aAz]
   by_cases c0 : 0 ≤ d
   ·obtain rfl : d = 0 := by omega
    unfold iY; simp
   ·rw [if_neg c0]; exact quo_lt s d c (hq c)
  simp only [Option.bind_some, e]
  rw [iE more (.inl c)]
  cases more <;> rfl
 ·rw [if_neg c]
  obtain ⟨m, rfl⟩ := lZ (show 0 ≤ d by omega)
  have hm : (m : Int) - 1 = ((m - 1 : Nat) : Int) := by omega
  rw [vB s hs _ (by omega) (by omega), cK _ (by omega) (by omega), hm, vB s hs _ (by omega) (by omega)]
  simp only [Option.bind_some, jT]
  have hqe : iY s (m : Int) = s / 2 ^ m := by unfold iY; rw [if_neg c, Int.toNat_natCast]
  have hd : s / 2 ^ (m - 1) < 18446744073709551616 := Nat.lt_of_le_of_lt (Nat.div_le_self _ _) hs
  rw [hqe]
  by_cases z : s % 2 ^ m = 0
  ·have hl : gN s (m : Int) more = if more then 1 else 0 := iE more (.inr (by rw [Int.toNat_natCast]; exact z))
   rw [hl, if_neg (by simp [z])]
   cases more <;> rfl
  ·have hl : gN s (m : Int) more = _ := mO more c (by rw [Int.toNat_natCast]; exact z)
   rw [Int.toNat_natCast] at hl
   rw [hl, if_pos (by simp [z]), pV _ hd]
   by_cases y : s / 2 ^ (m - 1) % 2 = 0
   ·simp only [y, if_true, Int.natCast_zero]; rfl
   ·simp only [y, if_false]
    rw [if_neg (by omega)]
    by_cases w : s % 2 ^ (m - 1) = 0
    ·simp only [w, ne_eq, not_true_eq_false, decide_false, Bool.false_eq_true, if_false, false_or]
     cases more <;> rfl
    ·simp only [w, ne_eq, not_false_eq_true, decide_true, if_true, true_or]; rfl
theorem up_f (mode : Int) (neg : Bool) (q left : Nat) (hq : q < 18446744073709551616) : jA.f mode neg (q : Int) (left : Int) = some (upN mode neg q left) := by
 unfold jA.f upN
 have eb : (((left : Int) != 0) : Bool) = decide (left ≠ 0) := by rw [show (0 : Int) = ((0 : Nat) : Int) from rfl, bne_cast]
 have e1 : ((Go.bits .and .u64 (q : Int) 1 == 1) : Bool) = decide (q % 2 = 1) := by
  rw [pV q hq, show (1 : Int) = ((1 : Nat) : Int) from rfl]
  by_cases h : q % 2 = 1
  ·rw [h]; rfl
  ·rw [decide_eq_false h, beq_eq_false_iff_ne]; omega
 rw [eb, e1]
 by_cases m1 : mode = 1
 ·rw [if_pos m1, if_pos m1]
 ·rw [if_neg m1, if_neg m1]
  by_cases m2 : mode = 2
  ·rw [if_pos m2, if_pos m2]; cases neg <;> simp
  ·rw [if_neg m2, if_neg m2]
   by_cases m3 : mode = 3
   ·rw [if_pos m3, if_pos m3]; cases neg <;> simp
   ·rw [if_neg m3, if_neg m3]
    by_cases m4 : mode = 4
    ·rw [if_pos m4, if_pos m4]; congr 1; apply decide_eq_decide.mpr; omega
    ·rw [if_neg m4, if_neg m4]
     by_cases l3 : left = 3
     ·subst l3; rfl
     ·rw [if_neg (by omega), decide_eq_false l3, Bool.false_or]
      by_cases l2 : left = 2
      ·subst l2; simp
      ·rw [if_neg (by omega), decide_eq_false l2, Bool.false_and]
theorem beyond_f (f mode : Int) (neg : Bool) : bZ.f f mode neg = some (((if jS mode neg then oH f neg else oZ f neg : Nat) : Int), false, false, true, false, true) := by
 unfold bZ.f jS
 simp only [aAo, aAU, Option.bind_some]
 by_cases m1 : mode = 1
 ·rw [if_pos m1, if_pos m1]; rfl
 ·rw [if_neg m1, if_neg m1]
  by_cases m2 : mode = 2
  ·rw [if_pos m2, if_pos m2]; cases neg <;> rfl
  ·rw [if_neg m2, if_neg m2]
   by_cases m3 : mode = 3
   ·rw [if_pos m3, if_pos m3]; cases neg <;> rfl
   ·rw [if_neg m3, if_neg m3]; rfl

theorem nT (f x : Int) (s : Nat) : iY s (dU f x s - x) < 2 ^ (fm f + 1) ∧ (iC f x s ≠ 0 → 2 ^ fm f ≤ iY s (dU f x s - x)) := by
 obtain ⟨b1, b2, b3, b4, b5⟩ := dZ f
 by_cases c : s = 0
 ·subst c
  have : iC f x 0 = 0 := by unfold iC; rw [if_pos rfl]
  refine ⟨?_, fun h => absurd this h⟩
  have h0 := Nat.two_pow_pos (fm f + 1)
  unfold iY; split <;> simp [h0]
 ·have hlt := lH s
  have hle := qA s c
  have hpos := kM s c
  have hr : iC f x s = (x + gT s - 1 - dQ f).toNat := by unfold iC; rw [if_neg c]
  unfold dU iY
  generalize gT s = L at *
  by_cases d : dQ f - (fm f : Int) + (iC f x s : Int) - x ≤ 0
  ·rw [if_pos d]
   obtain ⟨j, hj⟩ := lZ (show 0 ≤ -(dQ f - (fm f : Int) + (iC f x s : Int) - x) by omega)
   rw [hj, Int.toNat_natCast]
   have hjL : L + j ≤ fm f + 1 := by omega
   constructor
   ·calc s * 2 ^ j < 2 ^ L * 2 ^ j := Nat.mul_lt_mul_of_pos_right hlt (Nat.two_pow_pos _)
     _ = 2 ^ (L + j) := (Nat.pow_add ..).symm
     _ ≤ 2 ^ (fm f + 1) := Nat.pow_le_pow_right (by decide) hjL
   ·intro h
    calc 2 ^ fm f = 2 ^ (L - 1) * 2 ^ j := by rw [← Nat.pow_add]; congr 1; omega
     _ ≤ s * 2 ^ j := Nat.mul_le_mul_right _ hle
  ·rw [if_neg d]
   obtain ⟨j, hj⟩ := lZ (show 0 ≤ dQ f - (fm f : Int) + (iC f x s : Int) - x by omega)
   rw [hj, Int.toNat_natCast]
   constructor
   ·rw [Nat.div_lt_iff_lt_mul (Nat.two_pow_pos _), ← Nat.pow_add]
    exact Nat.lt_of_lt_of_le hlt (Nat.pow_le_pow_right (by decide) (by omega))
   ·intro h
    rw [Nat.le_div_iff_mul_le (Nat.two_pow_pos _), ← Nat.pow_add]
    exact Nat.le_trans (Nat.pow_le_pow_right (by decide) (by omega)) hle
theorem sV (f x : Int) (s : Nat) (hs : s < 18446744073709551616) (h1 : -10000 ≤ x) (h2 : x ≤ 10000) : -200 ≤ dU f x s ∧ dU f x s ≤ 10100 ∧ iC f x s ≤ 10200 := by
 obtain ⟨b1, b2, b3, b4, b5⟩ := dZ f
 have hl := iO f
 have hn := nW s hs
 unfold dU
 have hr : iC f x s = 0 ∨ (iC f x s : Int) = x + gT s - 1 - dQ f := by
  unfold iC; split
  ·left; rfl
  ·omega
 omega
theorem exc_cast (l : Nat) : (((l : Int) != 0) : Bool) = decide (l ≠ 0) := by rw [show (0 : Int) = ((0 : Nat) : Int) from rfl, bne_cast]

theorem xV (k : Nat) (f mode : Int) (neg : Bool) (x : Int) (s q l a : Nat) (hs : s < 18446744073709551616) (hq : q < 18446744073709551616) (h1 : -10000 ≤ x) (h2 : x ≤ 10000) (K : Nat)
  (hK : K = a * 2 ^ fm f + q % 2 ^ fm f) :
  aB.j3 (k + 2) f mode neg x (s : Int) (fm f : Int) (q : Int) (l : Int) (a : Int) = some
   ((((if jK f K then (if jS mode neg then iT f * 2 ^ fm f else iT f * 2 ^ fm f - 1) else K) + fO f neg : Nat) : Int), false, false,
    jK f K, !jK f K && (decide (l ≠ 0) && (decide (s = 0) || decide (x + gT s - 1 < dQ f))), jK f K || decide (l ≠ 0)) := by
 obtain ⟨b1, b2, b3, b4, b5⟩ := dZ f
 have hp := Nat.two_pow_pos (fm f)
 have hm : q % 2 ^ fm f < 2 ^ fm f := Nat.mod_lt _ hp
 have h31 := eT (show fm f ≤ 31 by omega)
 have ho : (a : Int) ≥ (iT f : Int) ↔ jK f K = true := by
  unfold jK
  rw [decide_eq_true_iff, hK]
  constructor
  ·intro h
   have : iT f * 2 ^ fm f ≤ a * 2 ^ fm f := Nat.mul_le_mul_right _ (by omega)
   omega
  ·intro h
   rcases Nat.lt_or_ge a (iT f) with c | c
   ·have : (a + 1) * 2 ^ fm f ≤ iT f * 2 ^ fm f := Nat.mul_le_mul_right _ c
    rw [Nat.add_mul, Nat.one_mul] at this; omega
   ·omega
 rw [aB.j3, aAP]
 simp only [Option.bind_some]
 by_cases c : (a : Int) ≥ (iT f : Int)
 ·rw [if_pos c, beyond_f, ho.mp c]
  simp only [Option.bind_some, if_true, Bool.not_true, Bool.false_and, Bool.true_or]
  congr 2
  unfold oH oZ
  split <;> rfl
 ·rw [if_neg c]
  have co : jK f K = false := by simpa using fun h => c (ho.mpr h)
  have ec : gU.f (q : Int) (fm f : Int) = some ((q % 2 ^ fm f : Nat) : Int) := by
   rw [cut_f q hq _ (by omega)]; unfold cutN; rw [if_neg (by omega), Int.toNat_natCast]
  have ej : cO.f f neg (a : Int) (((q % 2 ^ fm f : Nat) : Int) % 4294967296) = some ((K + fO f neg : Nat) : Int) := by
   rw [show ((q % 2 ^ fm f : Nat) : Int) % 4294967296 = ((q % 2 ^ fm f : Nat) : Int) by omega, wJ f neg _ _ (by omega) hm, hK]; rfl
  rw [co, ec]
  simp only [Option.bind_some, ej, Bool.false_eq_true, if_false, Bool.not_false, Bool.true_and, Bool.false_or, exc_cast]
  by_cases l0 : l = 0
  ·subst l0; simp
  ·rw [if_neg (by omega)]
   by_cases s0 : s = 0
   ·subst s0; simp [l0]
   ·have hn := nW s hs
    rw [if_neg (by omega), len_f (k) s hs, qD]
    simp only [Option.bind_some]
    rw [cK (x + _) (by omega) (by omega), cK _ (by omega) (by omega)]
    simp [l0, s0]
theorem pack_j1 (k : Nat) (f mode : Int) (neg : Bool) (x : Int) (s q l U : Nat) (hU : U ≤ 10200) (hs : s < 18446744073709551616) (hq : q ≤ 2 ^ (fm f + 1)) (hq' : U ≠ 0 → 2 ^ fm f ≤ q) (h1 : -10000 ≤ x) (h2 : x ≤ 10000) (K : Nat)
  (hK : K = U * 2 ^ fm f + q) :
  aB.j1 (k + 4) f mode neg x (s : Int) (fm f : Int) (dQ f - fm f + U) (q : Int) (l : Int) = some
   ((((if jK f K then (if jS mode neg then iT f * 2 ^ fm f else iT f * 2 ^ fm f - 1) else K) + fO f neg : Nat) : Int), false, false,
    jK f K, !jK f K && (decide (l ≠ 0) && (decide (s = 0) || decide (x + gT s - 1 < dQ f))), jK f K || decide (l ≠ 0)) := by
 obtain ⟨b1, b2, b3, b4, b5⟩ := dZ f
 have hl := iO f
 have hp := Nat.two_pow_pos (fm f)
 have h31 := eT (show fm f + 1 ≤ 31 by omega)
 have hq64 : q < 18446744073709551616 := by omega
 have e1 : wrap64 ((fm f : Int) + 1) = ((fm f + 1 : Nat) : Int) := by rw [cK] <;> omega
 have hsucc : 2 ^ (fm f + 1) = 2 * 2 ^ fm f := by rw [Nat.pow_succ, Nat.mul_comm]
 rw [aB.j1, e1, iD _ (by omega), if_pos (by omega), nJ _ _ hq64]
 by_cases c : q = 2 ^ (fm f + 1)
 ·have hd : q / 2 ^ (fm f + 1) = 1 := by rw [c, Nat.div_self (by omega)]
  rw [hd, if_neg (by decide), cK _ (by omega) (by omega), show (q : Int) / 2 = ((2 ^ fm f : Nat) : Int) by omega, aB.j2, qD]
  simp only [Option.bind_some]
  rw [iD _ (by omega), if_pos (by omega), nJ _ _ (by omega), Nat.div_self hp, if_neg (by decide)]
  rw [show dQ f - (fm f : Int) + (U : Int) + 1 + (fm f : Int) = dQ f + (U : Int) + 1 by omega, cK (dQ f + (U : Int) + 1) (by omega) (by omega), cK (dQ f + (U : Int) + 1 - dQ f) (by omega) (by omega), cK _ (by omega) (by omega), show dQ f + (U : Int) + 1 - dQ f + 1 = ((U + 2 : Nat) : Int) by omega]
  exact xV k f mode neg x s _ l (U + 2) hs (by omega) h1 h2 K (by rw [hK, c, hsucc, Nat.mod_self, Nat.add_mul]; omega)
 ·have hd : q / 2 ^ (fm f + 1) = 0 := Nat.div_eq_of_lt (by omega)
  rw [hd, if_pos (by decide), aB.j2, qD]
  simp only [Option.bind_some]
  rw [iD _ (by omega), if_pos (by omega), nJ _ _ hq64]
  by_cases c2 : q < 2 ^ fm f
  ·have hU0 : U = 0 := by
    rcases Nat.eq_zero_or_pos U with h | h
    ·exact h
    ·have := hq' (by omega); omega
   subst hU0
   rw [Nat.div_eq_of_lt c2, if_pos (by decide)]
   have h := xV k f mode neg x s q l 0 hs hq64 h1 h2 K (by rw [hK, Nat.mod_eq_of_lt c2])
   rw [show ((0 : Nat) : Int) = 0 from rfl] at h
   exact h
  ·have hd1 : q / 2 ^ fm f = 1 := Nat.div_eq_of_lt_le (by omega) (by omega)
   rw [hd1, if_neg (by decide)]
   rw [show dQ f - (fm f : Int) + (U : Int) + (fm f : Int) = dQ f + (U : Int) by omega, cK (dQ f + (U : Int)) (by omega) (by omega), cK (dQ f + (U : Int) - dQ f) (by omega) (by omega), cK _ (by omega) (by omega), show dQ f + (U : Int) - dQ f + 1 = ((U + 1 : Nat) : Int) by omega]
   have hm1 : q % 2 ^ fm f = q - 2 ^ fm f := by
    have := Nat.div_add_mod q (2 ^ fm f)
    rw [hd1, Nat.mul_one] at this; omega
   exact xV k f mode neg x s q l (U + 1) hs hq64 h1 h2 K (by rw [hK, hm1, Nat.add_mul]; omega)
theorem pack_f (k : Nat) (f mode : Int) (neg : Bool) (x : Int) (s : Nat) (more : Bool) (hs : s < 18446744073709551616) :
  aB.f (k + 5) f mode neg x (s : Int) more = some ((gD f mode neg (lS x) s more : Int), false, false, lW f mode neg (lS x) s more) := by
 unfold aB.f
 have hc : mn (mx x (-10000)) 10000 = lS x := rfl
 obtain ⟨h1, h2⟩ := pX x
 rw [hc]
 generalize lS x = x at *
 by_cases z : s = 0 ∧ more = false
 ·obtain ⟨rfl, rfl⟩ := z
  rw [if_pos (by decide), aB.j0]
  simp only [Bool.not_false, if_true]
  rw [wU]
  have hk : oI f mode neg x 0 false = 0 := by
   unfold oI
   have hr : iC f x 0 = 0 := by unfold iC; rw [if_pos rfl]
   have hq : iY 0 (dU f x 0 - x) = 0 := by unfold iY; split <;> simp
   have hl : gN 0 (dU f x 0 - x) false = 0 := by rw [iE _ (.inr (by simp))]; rfl
   rw [hr, hq, hl]
   have : upN mode neg 0 0 = false := by unfold upN; simp
   rw [this]; simp
  have hl : gN 0 (dU f x 0 - x) false = 0 := by rw [iE _ (.inr (by simp))]; rfl
  have ho : jK f 0 = false := by
   unfold jK
   have := jL f
   have := Nat.two_pow_pos (fm f)
   rw [decide_eq_false_iff_not]
   have : 0 < iT f * 2 ^ fm f := Nat.mul_pos (by omega) (by omega)
   omega
  unfold gD lW nE lV
  rw [hk, ho, hl]; simp
 ·have hj : (if (s : Int) = 0 then aB.j0 (k + 5) f mode neg x (s : Int) more (!more) else aB.j0 (k + 5) f mode neg x (s : Int) more false) = aB.j0 (k + 5) f mode neg x (s : Int) more false := by
   by_cases c : (s : Int) = 0
   ·rw [if_pos c]
    cases more
    ·exact absurd ⟨by omega, rfl⟩ z
    ·rfl
   ·rw [if_neg c]
  rw [hj, aB.j0, if_neg (by decide), jO]
  obtain ⟨u1, u2, u3⟩ := sV f x s hs h1 h2
  obtain ⟨q1, q2⟩ := nT f x s
  obtain ⟨b1, b2, b3, b4, b5⟩ := dZ f
  have h31 := eT (show fm f + 1 ≤ 31 by omega)
  have hll := vD s (dU f x s - x) more
  have hq64 : iY s (dU f x s - x) < 18446744073709551616 := by omega
  have hd : dU f x s - x ≤ 0 → s * 2 ^ (-(dU f x s - x)).toNat < 18446744073709551616 := by
   intro h; have := hq64; unfold iY at this; rw [if_pos h] at this; exact this
  simp only [Option.bind_some]
  rw [unit_f _ f x s hs h1 h2]
  simp only [Option.bind_some]
  rw [cK _ (by omega) (by omega), units_f _ s hs _ (by omega) (by omega) more hd]
  simp only [Option.bind_some]
  rw [up_f _ _ _ _ hq64]
  simp only [Option.bind_some]
  have hun : dU f x s = dQ f - fm f + (iC f x s : Nat) := rfl
  have key : ∀ up : Bool, aB.j1 (k + 4) f mode neg x (s : Int) (fm f : Int) (dU f x s) ((iY s (dU f x s - x) + (if up then 1 else 0) : Nat) : Int) (gN s (dU f x s - x) more : Int) = _ :=
   fun up => pack_j1 k f mode neg x s _ _ (iC f x s) u3 hs (by split <;> omega) (fun h => Nat.le_trans (q2 h) (Nat.le_add_right _ _)) h1 h2 _ rfl
  have res : ∀ up : Bool, up = upN mode neg (iY s (dU f x s - x)) (gN s (dU f x s - x) more) → aB.j1 (k + 4) f mode neg x (s : Int) (fm f : Int) (dU f x s) ((iY s (dU f x s - x) + (if up then 1 else 0) : Nat) : Int) (gN s (dU f x s - x) more : Int) = some ((gD f mode neg x s more : Int), false, false, lW f mode neg x s more) := by
   intro up hup
   rw [key up]
   subst hup
   unfold gD lW nE lV oI
   rw [← Nat.add_assoc]
   by_cases o : jK f (iC f x s * 2 ^ fm f + iY s (dU f x s - x) + if upN mode neg (iY s (dU f x s - x)) (gN s (dU f x s - x) more) = true then 1 else 0) = true
   ·rw [o]; simp
   ·rw [Bool.not_eq_true] at o; rw [o]; simp
  by_cases hu : upN mode neg (iY s (dU f x s - x)) (gN s (dU f x s - x) more) = true
  ·rw [if_pos hu]
   have h := res true hu.symm
   rw [if_pos rfl] at h
   rw [show ((iY s (dU f x s - x) : Nat) : Int) + 1 = ((iY s (dU f x s - x) + 1 : Nat) : Int) by omega, iD _ (by omega)]
   exact h
  ·rw [if_neg hu]
   rw [Bool.not_eq_true] at hu
   have h := res false hu.symm
   rw [if_neg (by decide), Nat.add_zero] at h
   exact h
/- What is a number already is rounded to it; a greater number isn't rounded to a lesser one: of the plain numbers that the rounding computes. -/

theorem up_none (mode : Int) (neg : Bool) (q : Nat) : upN mode neg q 0 = false := by unfold upN; simp
theorem aBt (f : Int) (M s r : Nat) (hM : M < 2 ^ (fm f + 1)) (hr : r = 0 ∨ 2 ^ fm f ≤ M) :
  iC f (dQ f - fm f + r - s) (M * 2 ^ s) = r ∧ iY (M * 2 ^ s) (dU f (dQ f - fm f + r - s) (M * 2 ^ s) - (dQ f - fm f + r - s)) = M ∧ gN (M * 2 ^ s) (dU f (dQ f - fm f + r - s) (M * 2 ^ s) - (dQ f - fm f + r - s)) false = 0 := by
 have hrise : iC f (dQ f - fm f + r - s) (M * 2 ^ s) = r := by
  unfold iC
  by_cases c : M = 0
  ·subst c
   rw [Nat.zero_mul, if_pos rfl]
   rcases hr with h | h
   ·exact h.symm
   ·have := Nat.two_pow_pos (fm f); omega
  ·rw [if_neg (Nat.mul_ne_zero c (Nat.ne_of_gt (Nat.two_pow_pos s))), pJ M s c]
   have h1 := gH M (fm f + 1) hM
   have h2 := kM M c
   have h3 : r ≠ 0 → fm f < gT M := fun h => aBy M (fm f) (hr.resolve_left h)
   omega
 have hu : dU f (dQ f - fm f + r - s) (M * 2 ^ s) - (dQ f - fm f + r - s) = (s : Int) := by
  unfold dU; rw [hrise]; omega
 rw [hu]
 have hp := Nat.two_pow_pos s
 refine ⟨hrise, ?_, iE _ (.inr ?_)⟩
 ·unfold iY
  by_cases c : (s : Int) ≤ 0
  ·obtain rfl : s = 0 := by omega
   simp
  ·rw [if_neg c, Int.toNat_natCast, Nat.mul_div_cancel _ hp]
 ·rw [Int.toNat_natCast, Nat.mul_mod_left]
theorem kC (f : Int) (v : Nat) : bH f v < 2 ^ (fm f + 1) := by
 have hf := sU f v
 have hs : 2 ^ (fm f + 1) = 2 * 2 ^ fm f := by rw [Nat.pow_succ, Nat.mul_comm]
 unfold bH; split <;> omega

def rH (r h : Nat) (more : Bool) : Nat := if r < h then (if r = 0 ∧ more = false then 0 else 1) else if r = h ∧ more = false then 2 else 3
theorem mM (s : Nat) (d : Int) (more : Bool) (hd : ¬ d ≤ 0) : gN s d more = rH (s % 2 ^ d.toNat) (2 ^ (d.toNat - 1)) more := by
 obtain ⟨m, hm⟩ : ∃ m, d.toNat = m + 1 := ⟨d.toNat - 1, by omega⟩
 have hh := Nat.two_pow_pos m
 have hs : 2 ^ (m + 1) = 2 ^ m * 2 := Nat.pow_succ ..
 have h1 := Nat.mod_lt s (Nat.two_pow_pos (m + 1))
 have h3 : s / 2 ^ m = (s / 2 ^ (m + 1)) * 2 + (s % 2 ^ (m + 1)) / 2 ^ m := by
  have h2 := Nat.div_add_mod s (2 ^ (m + 1))
  rw [hs] at h2 ⊢
  have e : s = 2 ^ m * (s / (2 ^ m * 2) * 2) + s % (2 ^ m * 2) := by
   rw [← Nat.mul_assoc, Nat.mul_right_comm]; exact h2.symm
  exact (congrArg (· / 2 ^ m) e).trans (Nat.mul_add_div hh _ _)
 have h4 : s % 2 ^ m = s % 2 ^ (m + 1) % 2 ^ m := by rw [hs, Nat.mod_mul_right_mod]
 have hz : ¬ s % 2 ^ (m + 1) = 0 → gN s d more = if s / 2 ^ m % 2 = 0 then 1 else if s % 2 ^ m ≠ 0 ∨ more = true then 3 else 2 := by
  intro h'
  have := mO more hd (by rw [hm]; exact h')
  rw [hm, Nat.add_sub_cancel] at this; exact this
 rw [hm, Nat.add_sub_cancel]
 by_cases c : s % 2 ^ (m + 1) = 0
 ·rw [iE _ (.inr (by rw [hm]; exact c)), c]
  unfold rH
  rw [if_pos hh]
  cases more <;> simp
 ·rw [hz c, h3, h4]
  generalize s % 2 ^ (m + 1) = r at *
  unfold rH
  by_cases lt : r < 2 ^ m
  ·rw [if_pos lt, Nat.div_eq_of_lt lt, if_pos (by omega), if_neg (by omega)]
  ·have e1 : r / 2 ^ m = 1 := Nat.div_eq_of_lt_le (by omega) (by omega)
   have e2 : r % 2 ^ m = r - 2 ^ m := by rw [Nat.mod_eq_sub_mod (by omega), Nat.mod_eq_of_lt (by omega)]
   rw [if_neg lt, e1, e2, if_neg (by omega)]
   by_cases e3 : r = 2 ^ m
   ·subst e3; cases more <;> simp
   ·rw [if_pos (.inl (by omega)), if_neg (by omega)]
theorem aBx {r r' h : Nat} {more less : Bool} (hr : r ≤ r') (hm : r = r' → more = true → less = true) : rH r h more ≤ rH r' h less := by
 unfold rH
 rcases Nat.lt_or_eq_of_le hr with c | c
 ·split <;> split <;> (first | (split <;> split <;> omega) | (split <;> omega) | omega)
 ·subst c
  have := hm rfl
  split <;> cases more <;> cases less <;> simp_all <;> split <;> omega
theorem up_mono (mode : Int) (neg : Bool) (q l l' : Nat) (hl : l ≤ l') (hl' : l' ≤ 3) (h : upN mode neg q l = true) : upN mode neg q l' = true := by
 unfold upN at *
 by_cases m1 : mode = 1
 ·simp [m1] at h
 ·by_cases m2 : mode = 2
  ·simp [m2] at h ⊢; exact ⟨h.1, by omega⟩
  ·by_cases m3 : mode = 3
   ·simp [m3] at h ⊢; exact ⟨h.1, by omega⟩
   ·by_cases m4 : mode = 4
    ·simp [m4] at h ⊢; omega
    ·simp [m1, m2, m3, m4] at h ⊢; omega
theorem len_mono {a b : Nat} (h : a ≤ b) : gT a ≤ gT b := gH a _ (Nat.lt_of_le_of_lt h (lH b))
theorem aBg (f x : Int) {a b : Nat} (h : a ≤ b) : iC f x a ≤ iC f x b := by
 have hl := len_mono h
 unfold iC
 split
 ·omega
 ·rw [if_neg (by omega)]; omega
theorem quo_mono (d : Int) {a b : Nat} (h : a ≤ b) : iY a d ≤ iY b d := by
 unfold iY; split
 ·exact Nat.mul_le_mul_right _ h
 ·exact Nat.div_le_div_right h
theorem aBu (d : Int) {a b : Nat} {more less : Bool} (h : a ≤ b) (hm : a = b → more = true → less = true) (hq : iY a d = iY b d) : gN a d more ≤ gN b d less := by
 by_cases c : d ≤ 0
 ·have e : a = b := by
   unfold iY at hq; rw [if_pos c, if_pos c] at hq
   exact Nat.eq_of_mul_eq_mul_right (Nat.two_pow_pos _) hq
  subst e
  rw [iE _ (.inl c), iE _ (.inl c)]
  have := hm rfl
  cases more <;> cases less <;> simp_all
 ·rw [mM a d _ c, mM b d _ c]
  unfold iY at hq; rw [if_neg c, if_neg c] at hq
  have h1 := Nat.div_add_mod a (2 ^ d.toNat)
  have h2 := Nat.div_add_mod b (2 ^ d.toNat)
  rw [hq] at h1
  apply aBx
  ·omega
  ·intro e; exact hm (by omega)
theorem vJ (f mode : Int) (neg : Bool) (x : Int) {a b : Nat} {more less : Bool} (h : a ≤ b) (hm : a = b → more = true → less = true) : oI f mode neg x a more ≤ oI f mode neg x b less := by
 have hr := aBg f x h
 obtain ⟨qa, _⟩ := nT f x a
 obtain ⟨_, qb⟩ := nT f x b
 have hs : 2 ^ (fm f + 1) = 2 * 2 ^ fm f := by rw [Nat.pow_succ, Nat.mul_comm]
 unfold oI
 rcases Nat.lt_or_eq_of_le hr with c | c
 ·have q := qb (by omega)
  have h1 : (iC f x a + 1) * 2 ^ fm f ≤ iC f x b * 2 ^ fm f := Nat.mul_le_mul_right _ c
  rw [Nat.add_mul, Nat.one_mul] at h1
  generalize iY a (dU f x a - x) = u at *
  generalize iY b (dU f x b - x) = w at *
  split <;> split <;> omega
 ·have hu : dU f x a = dU f x b := by unfold dU; rw [c]
  rw [hu, c]
  have hq := quo_mono (dU f x b - x) h
  rcases Nat.lt_or_eq_of_le hq with d | d
  ·split <;> split <;> omega
  ·have hl := aBu (dU f x b - x) h hm d
   have hl3 := vD b (dU f x b - x) less
   rw [d]
   by_cases u : upN mode neg (iY b (dU f x b - x)) (gN a (dU f x b - x) more) = true
   ·rw [if_pos u, if_pos (up_mono mode neg _ _ _ hl hl3 u)]
    exact Nat.le_refl _
   ·rw [if_neg u]; split <;> omega
theorem wG (f mode : Int) (neg : Bool) (x : Int) {a b : Nat} {more less : Bool} (h : a ≤ b) (hm : a = b → more = true → less = true) : gD f mode neg x a more ≤ gD f mode neg x b less := by
 have hk := vJ f mode neg x h hm
 unfold gD jK
 generalize oI f mode neg x a more = K at *
 generalize oI f mode neg x b less = K' at *
 generalize iT f * 2 ^ fm f = T at *
 cases jS mode neg
 ·by_cases c : T ≤ K <;> by_cases c' : T ≤ K' <;> simp [c, c'] <;> omega
 ·by_cases c : T ≤ K <;> by_cases c' : T ≤ K' <;> simp [c, c'] <;> omega
theorem aAE (f mode x : Int) (a : Nat) (more : Bool) : gD f mode false x a more < 2 ^ (fe f + fm f) := by
 obtain ⟨_, hi⟩ := mH f false
 have hp := Nat.two_pow_pos (fm f)
 have ht : 0 < iT f * 2 ^ fm f := Nat.mul_pos (by have := jL f; omega) hp
 unfold gD jK fO
 generalize oI f mode false x a more = K at *
 generalize iT f * 2 ^ fm f = T at *
 by_cases c : T ≤ K
 ·cases jS mode false <;> simp [c] <;> omega
 ·simp [c]; omega
end Go.Proofs.YtjlgmfgjleajfaaGreat.Round

-- Printed by a program of this session's out of Lean's print of the translation; Lean checks it.
namespace Go.Proofs.YtjlgmfgjleajfaaGreat.P
open Go.RowKit Go.Proofs.YtjlgmfgjleajfaaGreatW.PrintWords Go.Proofs.YtjlgmfgjleajfaaGreatW.PrintLast Go.Proofs.YtjlgmfgjleajfaaGreatW.PrintMore
attribute [local go_sem] max2_int min2_int max_two min_two max_three min_three max_four min_four

-- NEED 0
/-! ### aJ: function 66 -/
def aJ.f (k : Nat) (a0 a1 : Int) : Option (Bool) := (aT.f k a0 a1).bind fun t258 => (some (t258 == 3))
theorem aJ.mono : ∀ a0 a1 k, LeO (aJ.f k a0 a1) (aJ.f (k + 1) a0 a1) := by
 intro a0 a1 k
 unfold aJ.f
 repeat' first
   |(with_reducible first|exact aT.mono _ _ _|exact LeO.refl _|exact LeO.none _|refine LeO.ite ?_ ?_|refine LeO.bind ?_ (fun _ => ?_))
   |exact aT.mono _ _ _
   |exact LeO.none _
   |refine LeO.ite ?_ ?_
   |refine LeO.bind ?_ (fun _ => ?_)
theorem aJ.calls (k : Nat) (a0 a1 : Int) (r : Bool) (w : World) (h : aJ.f k a0 a1 = some r) :
  Calls Tryz.prog 66 #[.int .i64 a0, .int .u32 a1] w fun e w' => e = .returned (.bool r) ∧ Drawn0 w w' := by
 have H : ((aT.f k a0 a1).bind fun t258 => (some (t258 == 3))) = some r := h
 clear h
 replace H := bq_ H
 obtain ⟨t258, A30, H⟩ := H
 replace H : (some (t258 == 3)) = some r := H
 have A3 := Aside0.mk A30
 clear A30
 obtain rfl := Option.some.inj H
 go_enter Tryz.func66, Tryz.ntmps66
 go_wp2_with (first | ((with_reducible refine gate_callee (f := 34) rfl ?_); refine goesL_ (some 7) rfl rfl Tryz.func34 (by kernel_rfl) rfl #[.int .i64 a0, .int .u32 a1] rfl gl ?_; (with_reducible refine (aT.calls k a0 a1 t258 _ A3.out).mono ?_); rintro e w' ⟨rfl, ⟨nd, rfl⟩⟩; refine ⟨_, rfl, ?_⟩))
 go_ret
 exact ⟨gr_, gd_⟩

-- NEED 0
/-! ### cB: function 100 -/
def cB.f (k : Nat) (a0 a1 : Int) : Option (Bool) := (aT.f k a0 a1).bind fun t259 => (some (t259 == 0))
theorem cB.mono : ∀ a0 a1 k, LeO (cB.f k a0 a1) (cB.f (k + 1) a0 a1) := by
 intro a0 a1 k
 unfold cB.f
 repeat' first
   |(with_reducible first|exact aT.mono _ _ _|exact LeO.refl _|exact LeO.none _|refine LeO.ite ?_ ?_|refine LeO.bind ?_ (fun _ => ?_))
   |exact aT.mono _ _ _
   |exact LeO.none _
   |refine LeO.ite ?_ ?_
   |refine LeO.bind ?_ (fun _ => ?_)
theorem cB.calls (k : Nat) (a0 a1 : Int) (r : Bool) (w : World) (h : cB.f k a0 a1 = some r) :
  Calls Tryz.prog 100 #[.int .i64 a0, .int .u32 a1] w fun e w' => e = .returned (.bool r) ∧ Drawn0 w w' := by
 have H : ((aT.f k a0 a1).bind fun t259 => (some (t259 == 0))) = some r := h
 clear h
 replace H := bq_ H
 obtain ⟨t259, A30, H⟩ := H
 replace H : (some (t259 == 0)) = some r := H
 have A3 := Aside0.mk A30
 clear A30
 obtain rfl := Option.some.inj H
 go_enter Tryz.func100, Tryz.ntmps100
 go_wp2_with (first | ((with_reducible refine gate_callee (f := 34) rfl ?_); refine goesL_ (some 7) rfl rfl Tryz.func34 (by kernel_rfl) rfl #[.int .i64 a0, .int .u32 a1] rfl gl ?_; (with_reducible refine (aT.calls k a0 a1 t259 _ A3.out).mono ?_); rintro e w' ⟨rfl, ⟨nd, rfl⟩⟩; refine ⟨_, rfl, ?_⟩))
 go_ret
 exact ⟨gr_, gd_⟩

-- NEED 0
/-! ### dK: function 65 -/
def dK.f (k : Nat) (a0 a1 a2 : Int) : Option (Bool) := (cB.f k a0 a1).bind fun t260 => (if t260 = true then ((aJ.f k a0 a2).bind fun t261 => (if t261 = true then (some true) else ((aJ.f k a0 a1).bind fun t262 => (if t262 = true then ((cB.f k a0 a2).bind fun t263 => (some t263)) else (some false))))) else ((aJ.f k a0 a1).bind fun t264 => (if t264 = true then ((cB.f k a0 a2).bind fun t265 => (some t265)) else (some false))))
theorem dK.mono : ∀ a0 a1 a2 k, LeO (dK.f k a0 a1 a2) (dK.f (k + 1) a0 a1 a2) := by
 intro a0 a1 a2 k
 unfold dK.f
 repeat' first
   |(with_reducible first|exact aJ.mono _ _ _|exact cB.mono _ _ _|exact LeO.refl _|exact LeO.none _|refine LeO.ite ?_ ?_|refine LeO.bind ?_ (fun _ => ?_))
   |exact aJ.mono _ _ _
   |exact cB.mono _ _ _
   |exact LeO.none _
   |refine LeO.ite ?_ ?_
   |refine LeO.bind ?_ (fun _ => ?_)
theorem dK.calls (k : Nat) (a0 a1 a2 : Int) (r : Bool) (w : World) (h : dK.f k a0 a1 a2 = some r) :
  Calls Tryz.prog 65 #[.int .i64 a0, .int .u32 a1, .int .u32 a2] w fun e w' => e = .returned (.bool r) ∧ Drawn0 w w' := by
 have H : ((cB.f k a0 a1).bind fun t260 => (if t260 = true then ((aJ.f k a0 a2).bind fun t261 => (if t261 = true then (some true) else ((aJ.f k a0 a1).bind fun t262 => (if t262 = true then ((cB.f k a0 a2).bind fun t263 => (some t263)) else (some false))))) else ((aJ.f k a0 a1).bind fun t264 => (if t264 = true then ((cB.f k a0 a2).bind fun t265 => (some t265)) else (some false))))) = some r := h
 clear h
 replace H := bq_ H
 obtain ⟨t260, A40, H⟩ := H
 replace H : (if t260 = true then ((aJ.f k a0 a2).bind fun t261 => (if t261 = true then (some true) else ((aJ.f k a0 a1).bind fun t262 => (if t262 = true then ((cB.f k a0 a2).bind fun t263 => (some t263)) else (some false))))) else ((aJ.f k a0 a1).bind fun t264 => (if t264 = true then ((cB.f k a0 a2).bind fun t265 => (some t265)) else (some false)))) = some r := H
 have A4 := Aside0.mk A40
 clear A40
 by_cases c5 : t260 = true
 ·subst c5
  have H1 : ((aJ.f k a0 a2).bind fun t261 => (if t261 = true then (some true) else ((aJ.f k a0 a1).bind fun t262 => (if t262 = true then ((cB.f k a0 a2).bind fun t263 => (some t263)) else (some false))))) = some r := by rw [if_pos rfl] at H; exact H
  clear H
  have H := H1
  clear H1
  replace H := bq_ H
  obtain ⟨t261, A60, H⟩ := H
  replace H : (if t261 = true then (some true) else ((aJ.f k a0 a1).bind fun t262 => (if t262 = true then ((cB.f k a0 a2).bind fun t263 => (some t263)) else (some false)))) = some r := H
  have A6 := Aside0.mk A60
  clear A60
  by_cases c7 : t261 = true
  ·subst c7
   have H1 : (some true) = some r := by rw [if_pos rfl] at H; exact H
   clear H
   have H := H1
   clear H1
   obtain rfl := Option.some.inj H
   go_enter Tryz.func65, Tryz.ntmps65
   go_wp2_with (first | ((with_reducible refine gate_callee (f := 100) rfl ?_); refine goesL_ (some 9) rfl rfl Tryz.func100 (by kernel_rfl) rfl #[.int .i64 a0, .int .u32 a1] rfl gl ?_; (with_reducible refine (cB.calls k a0 a1 true _ A4.out).mono ?_); rintro e w' ⟨rfl, ⟨nd, rfl⟩⟩; refine ⟨_, rfl, ?_⟩) | (go_at_call 66; (with_reducible refine (aJ.calls k a0 a2 true _ A6.out).mono ?_); rintro e w' ⟨rfl, ⟨nd, rfl⟩⟩))
   go_ret
   exact ⟨gr_, gd_⟩
  ·replace c7 := Bool.eq_false_iff.mpr c7
   subst c7
   have H1 : ((aJ.f k a0 a1).bind fun t262 => (if t262 = true then ((cB.f k a0 a2).bind fun t263 => (some t263)) else (some false))) = some r := by rw [if_neg (show ¬ (false = true) by decide)] at H; exact H
   clear H
   have H := H1
   clear H1
   replace H := bq_ H
   obtain ⟨t262, A80, H⟩ := H
   replace H : (if t262 = true then ((cB.f k a0 a2).bind fun t263 => (some t263)) else (some false)) = some r := H
   have A8 := Aside0.mk A80
   clear A80
   by_cases c9 : t262 = true
   ·subst c9
    have H1 : ((cB.f k a0 a2).bind fun t263 => (some t263)) = some r := by rw [if_pos rfl] at H; exact H
    clear H
    have H := H1
    clear H1
    replace H := bq_ H
    obtain ⟨t263, A100, H⟩ := H
    replace H : (some t263) = some r := H
    have A10 := Aside0.mk A100
    clear A100
    obtain rfl := Option.some.inj H
    go_enter Tryz.func65, Tryz.ntmps65
    go_wp2_with (first | ((with_reducible refine gate_callee (f := 100) rfl ?_); refine goesL_ (some 9) rfl rfl Tryz.func100 (by kernel_rfl) rfl #[.int .i64 a0, .int .u32 a1] rfl gl ?_; (with_reducible refine (cB.calls k a0 a1 true _ A4.out).mono ?_); rintro e w' ⟨rfl, ⟨nd, rfl⟩⟩; refine ⟨_, rfl, ?_⟩) | (go_at_call 66; (with_reducible refine (aJ.calls k a0 a2 false _ A6.out).mono ?_); rintro e w' ⟨rfl, ⟨nd, rfl⟩⟩) | (go_at_call 66; (with_reducible refine (aJ.calls k a0 a1 true _ A8.out).mono ?_); rintro e w' ⟨rfl, ⟨nd, rfl⟩⟩) | (go_at_call 100; (with_reducible refine (cB.calls k a0 a2 t263 _ A10.out).mono ?_); rintro e w' ⟨rfl, ⟨nd, rfl⟩⟩))
    go_ret
    exact ⟨gr_, gd_⟩
   ·replace c9 := Bool.eq_false_iff.mpr c9
    subst c9
    have H1 : (some false) = some r := by rw [if_neg (show ¬ (false = true) by decide)] at H; exact H
    clear H
    have H := H1
    clear H1
    obtain rfl := Option.some.inj H
    go_enter Tryz.func65, Tryz.ntmps65
    go_wp2_with (first | ((with_reducible refine gate_callee (f := 100) rfl ?_); refine goesL_ (some 9) rfl rfl Tryz.func100 (by kernel_rfl) rfl #[.int .i64 a0, .int .u32 a1] rfl gl ?_; (with_reducible refine (cB.calls k a0 a1 true _ A4.out).mono ?_); rintro e w' ⟨rfl, ⟨nd, rfl⟩⟩; refine ⟨_, rfl, ?_⟩) | (go_at_call 66; (with_reducible refine (aJ.calls k a0 a2 false _ A6.out).mono ?_); rintro e w' ⟨rfl, ⟨nd, rfl⟩⟩) | (go_at_call 66; (with_reducible refine (aJ.calls k a0 a1 false _ A8.out).mono ?_); rintro e w' ⟨rfl, ⟨nd, rfl⟩⟩))
    go_ret
    exact ⟨gr_, gd_⟩
 ·replace c5 := Bool.eq_false_iff.mpr c5
  subst c5
  have H1 : ((aJ.f k a0 a1).bind fun t264 => (if t264 = true then ((cB.f k a0 a2).bind fun t265 => (some t265)) else (some false))) = some r := by rw [if_neg (show ¬ (false = true) by decide)] at H; exact H
  clear H
  have H := H1
  clear H1
  replace H := bq_ H
  obtain ⟨t264, A110, H⟩ := H
  replace H : (if t264 = true then ((cB.f k a0 a2).bind fun t265 => (some t265)) else (some false)) = some r := H
  have A11 := Aside0.mk A110
  clear A110
  by_cases c12 : t264 = true
  ·subst c12
   have H1 : ((cB.f k a0 a2).bind fun t265 => (some t265)) = some r := by rw [if_pos rfl] at H; exact H
   clear H
   have H := H1
   clear H1
   replace H := bq_ H
   obtain ⟨t265, A130, H⟩ := H
   replace H : (some t265) = some r := H
   have A13 := Aside0.mk A130
   clear A130
   obtain rfl := Option.some.inj H
   go_enter Tryz.func65, Tryz.ntmps65
   go_wp2_with (first | ((with_reducible refine gate_callee (f := 100) rfl ?_); refine goesL_ (some 9) rfl rfl Tryz.func100 (by kernel_rfl) rfl #[.int .i64 a0, .int .u32 a1] rfl gl ?_; (with_reducible refine (cB.calls k a0 a1 false _ A4.out).mono ?_); rintro e w' ⟨rfl, ⟨nd, rfl⟩⟩; refine ⟨_, rfl, ?_⟩) | (go_at_call 66; (with_reducible refine (aJ.calls k a0 a1 true _ A11.out).mono ?_); rintro e w' ⟨rfl, ⟨nd, rfl⟩⟩) | (go_at_call 100; (with_reducible refine (cB.calls k a0 a2 t265 _ A13.out).mono ?_); rintro e w' ⟨rfl, ⟨nd, rfl⟩⟩))
   go_ret
   exact ⟨gr_, gd_⟩
  ·replace c12 := Bool.eq_false_iff.mpr c12
   subst c12
   have H1 : (some false) = some r := by rw [if_neg (show ¬ (false = true) by decide)] at H; exact H
   clear H
   have H := H1
   clear H1
   obtain rfl := Option.some.inj H
   go_enter Tryz.func65, Tryz.ntmps65
   go_wp2_with (first | ((with_reducible refine gate_callee (f := 100) rfl ?_); refine goesL_ (some 9) rfl rfl Tryz.func100 (by kernel_rfl) rfl #[.int .i64 a0, .int .u32 a1] rfl gl ?_; (with_reducible refine (cB.calls k a0 a1 false _ A4.out).mono ?_); rintro e w' ⟨rfl, ⟨nd, rfl⟩⟩; refine ⟨_, rfl, ?_⟩) | (go_at_call 66; (with_reducible refine (aJ.calls k a0 a1 false _ A11.out).mono ?_); rintro e w' ⟨rfl, ⟨nd, rfl⟩⟩))
   go_ret
   exact ⟨gr_, gd_⟩

-- NEED 0
/-! ### eQ: function 67 -/
def eQ.f (a0 a1 a2 : Int) : Option (Bool × Int × Int × Bool) := (gP.f a0 a1).bind fun bt267 => ((gP.f a0 a2).bind fun bt271 => (some ((bt267.1 != bt271.1), wrap64 (bt267.2.1 + bt271.2.1), IntKind.u64.wrap (bt267.2.2.1 * bt271.2.2.1), false)))
theorem eQ.calls (a0 a1 a2 : Int) (r1 : Bool) (r2 r3 : Int) (r4 : Bool) (w : World) (h : eQ.f a0 a1 a2 = some (r1, r2, r3, r4)) :
  Calls Tryz.prog 67 #[.int .i64 a0, .int .u32 a1, .int .u32 a2] w fun e w' => e = .returned (.agg #[.bool r1, .int .i64 r2, .int .u64 r3, .bool r4]) ∧ Below w.heap.size w w' := by
 have hu55 := Tryz.underlying55
 have HB := Aside0.mk (Below.refl w.heap.size w)
 have H : ((gP.f a0 a1).bind fun bt267 => ((gP.f a0 a2).bind fun bt271 => (some ((bt267.1 != bt271.1), wrap64 (bt267.2.1 + bt271.2.1), IntKind.u64.wrap (bt267.2.2.1 * bt271.2.2.1), false)))) = some (r1, r2, r3, r4) := h
 clear h
 replace H := bq_ H
 obtain ⟨⟨t267, t268, t269, t270⟩, A40, H⟩ := H
 replace H : ((gP.f a0 a2).bind fun bt271 => (some ((t267 != bt271.1), wrap64 (t268 + bt271.2.1), IntKind.u64.wrap (t269 * bt271.2.2.1), false))) = some (r1, r2, r3, r4) := H
 have A4 := Aside0.mk A40
 clear A40
 replace H := bq_ H
 obtain ⟨⟨t271, t272, t273, t274⟩, A50, H⟩ := H
 replace H : (some ((t267 != t271), wrap64 (t268 + t272), IntKind.u64.wrap (t269 * t273), false)) = some (r1, r2, r3, r4) := H
 have A5 := Aside0.mk A50
 clear A50
 simp only [Option.some.injEq, Prod.mk.injEq] at H
 obtain ⟨rfl, rfl, rfl, rfl⟩ := H
 go_enter Tryz.func67, Tryz.ntmps67
 go_wp2_with (first | ((with_reducible refine gate_dst (N := 6) rfl ?_); refine box_event ?hg (N := 6) ?hd (cs := #[.bool false, .int .i64 0, .int .u64 0, .bool false]) (t := 55) ?hr ?_; (case hd => rfl); (case hg => rfl); (case hr => first | (go_simp; done) | (go_simp; rfl)); intro gb266 hg w6 hbox hb; have n0_ := Aside0.mk (below_step (bl0 HB.out) hb); have n1_ := Aside0.mk (hbox); have n2_ := Aside0.mk ((by rw [hg]; exact (below_size (bl0 HB.out)) : w.heap.size ≤ gb266)); have n3_ := n2_; clear HB; have HB := n0_; have BK266 := n1_; have GW266 := n2_; have GE266 := n3_; clear n0_ n1_ n2_ n3_; clear hb hbox hg) | ((with_reducible refine gate_callee (f := 38) rfl ?_); refine goesL_ (some 11) rfl rfl Tryz.func38 (by kernel_rfl) rfl #[.int .i64 a0, .int .u32 a1] rfl gl ?_; (with_reducible refine (gP.calls a0 a1 t267 t268 t269 t270 _ A4.out).mono ?_); rintro e w7 ⟨rfl, hb⟩; refine ⟨_, rfl, ?_⟩; have n0_ := Aside0.mk (blk_below (g := gb266) (o := .cells #[.bool false, .int .i64 0, .int .u64 0, .bool false] 55 (0, 0)) (bv BK266.out) hb); have n1_ := Aside0.mk (below_step (bl1 HB.out GE266.out) hb); clear BK266; clear HB; have BK266 := n0_; have HB := n1_; clear n0_ n1_) | ((with_reducible refine gate_callee (f := 38) rfl ?_); refine goesL_ (some 14) rfl rfl Tryz.func38 (by kernel_rfl) rfl #[.int .i64 a0, .int .u32 a2] rfl gl ?_; (with_reducible refine (gP.calls a0 a2 t271 t272 t273 t274 _ A5.out).mono ?_); rintro e w8 ⟨rfl, hb⟩; refine ⟨_, rfl, ?_⟩; have n0_ := Aside0.mk (blk_below (g := gb266) (o := .cells #[.bool false, .int .i64 0, .int .u64 0, .bool false] 55 (0, 0)) (bv BK266.out) hb); have n1_ := Aside0.mk (below_step (bl1 HB.out GE266.out) hb); clear BK266; clear HB; have BK266 := n0_; have HB := n1_; clear n0_ n1_) | ((with_reducible refine gate_dst (N := 7) rfl ?_); refine box_event ?hg (N := 7) ?hd (cs := #[.bool false, .int .i64 0, .int .u64 0, .bool false]) (t := 55) ?hr ?_; (case hd => rfl); (case hg => rfl); (case hr => first | (go_simp; done) | (go_simp; rfl)); intro gb275 hg w9 hbox hb; have n0_ := Aside0.mk (blk_below (g := gb266) (o := .cells #[.bool false, .int .i64 0, .int .u64 0, .bool false] 55 (0, 0)) (bv BK266.out) hb); have n1_ := Aside0.mk (below_step (bl1 HB.out GE266.out) hb); have n2_ := Aside0.mk (hbox); have n3_ := Aside0.mk ((by rw [hg]; exact (below_size (bl1 HB.out GE266.out)) : w.heap.size ≤ gb275)); have n4_ := n3_; have n5_ := Aside0.mk ((by rw [hg]; exact Nat.ne_of_lt (blk_lt (g := gb266) (o := .cells #[.bool false, .int .i64 0, .int .u64 0, .bool false] 55 (0, 0)) (bv BK266.out)) : gb266 ≠ gb275)); have n6_ := Aside0.mk (Ne.symm n5_.out); clear BK266; clear HB; have BK266 := n0_; have HB := n1_; have BK275 := n2_; have GW275 := n3_; have GE275 := n4_; have NB266_275 := n5_; have NB275_266 := n6_; clear n0_ n1_ n2_ n3_ n4_ n5_ n6_; clear hb hbox hg) | ((with_reducible refine gate_dst (N := 8) rfl ?_); refine box_event ?hg (N := 8) ?hd (cs := #[.bool false, .int .i64 0, .int .u64 0, .bool false]) (t := 55) ?hr ?_; (case hd => rfl); (case hg => rfl); (case hr => first | (go_simp; done) | (go_simp; rfl)); intro gb276 hg w10 hbox hb; have n0_ := Aside0.mk (blk_below (g := gb266) (o := .cells #[.bool false, .int .i64 0, .int .u64 0, .bool false] 55 (0, 0)) (bv BK266.out) hb); have n1_ := Aside0.mk (blk_below (g := gb275) (o := .cells #[.bool false, .int .i64 0, .int .u64 0, .bool false] 55 (0, 0)) (bv BK275.out) hb); have n2_ := Aside0.mk (below_step (bl2 HB.out GE266.out GE275.out) hb); have n3_ := Aside0.mk (hbox); have n4_ := Aside0.mk ((by rw [hg]; exact (below_size (bl2 HB.out GE266.out GE275.out)) : w.heap.size ≤ gb276)); have n5_ := n4_; have n6_ := Aside0.mk ((by rw [hg]; exact Nat.ne_of_lt (blk_lt (g := gb266) (o := .cells #[.bool false, .int .i64 0, .int .u64 0, .bool false] 55 (0, 0)) (bv BK266.out)) : gb266 ≠ gb276)); have n7_ := Aside0.mk (Ne.symm n6_.out); have n8_ := Aside0.mk ((by rw [hg]; exact Nat.ne_of_lt (blk_lt (g := gb275) (o := .cells #[.bool false, .int .i64 0, .int .u64 0, .bool false] 55 (0, 0)) (bv BK275.out)) : gb275 ≠ gb276)); have n9_ := Aside0.mk (Ne.symm n8_.out); clear BK266; clear BK275; clear HB; have BK266 := n0_; have BK275 := n1_; have HB := n2_; have BK276 := n3_; have GW276 := n4_; have GE276 := n5_; have NB266_276 := n6_; have NB276_266 := n7_; have NB275_276 := n8_; have NB276_275 := n9_; clear n0_ n1_ n2_ n3_ n4_ n5_ n6_ n7_ n8_ n9_; clear hb hbox hg; have hnb11 := NB275_266.out; have hnc11 := NB266_275.out; have hnb12 := NB275_276.out; have hnc12 := NB276_275.out; obtain ⟨hcz13_0, hcz13_1, hcz13_2, hcz13_3⟩ := bc4 BK275.out; obtain ⟨hfz13_0, hfz13_1, hfz13_2, hfz13_3⟩ := bf4 BK275.out; have hnb14 := NB276_266.out; have hnc14 := NB266_276.out; obtain ⟨hcz15_0, hcz15_1, hcz15_2, hcz15_3⟩ := bc4 BK276.out; obtain ⟨hfz15_0, hfz15_1, hfz15_2, hfz15_3⟩ := bf4 BK276.out; obtain ⟨hcz16_0, hcz16_1, hcz16_2, hcz16_3⟩ := bc4 BK266.out; obtain ⟨hfz16_0, hfz16_1, hfz16_2, hfz16_3⟩ := bf4 BK266.out))
 refine bodyPost_ret (results_cell_row rfl _ _ gb266 55 #[.bool (t267 != t271), .int .i64 (wrap64 (t268 + t272)), .int .u64 (IntKind.u64.wrap (t269 * t273)), .bool false] (0, 0) _ rfl (by (with_reducible repeat first | apply bd | apply be | apply ba); refine blk_put (cs := #[.bool (t267 != t271), .int .i64 (wrap64 (t268 + t272)), .int .u64 (IntKind.u64.wrap (t269 * t273)), .bool false]) ?_ 3 _ rfl; (with_reducible repeat first | apply bd | apply be | apply ba); refine blk_put (cs := #[.bool (t267 != t271), .int .i64 (wrap64 (t268 + t272)), .int .u64 0, .bool false]) ?_ 2 _ rfl; (with_reducible repeat first | apply bd | apply be | apply ba); refine blk_put (cs := #[.bool (t267 != t271), .int .i64 0, .int .u64 0, .bool false]) ?_ 1 _ rfl; (with_reducible repeat first | apply bd | apply be | apply ba); refine blk_put (cs := #[.bool false, .int .i64 0, .int .u64 0, .bool false]) ?_ 0 _ rfl; (with_reducible repeat first | apply bd | apply be | apply ba); refine blk_far ?_ NB266_276.out _; (with_reducible repeat first | apply bd | apply be | apply ba); refine blk_far ?_ NB266_276.out _; (with_reducible repeat first | apply bd | apply be | apply ba); refine blk_far ?_ NB266_276.out _; (with_reducible repeat first | apply bd | apply be | apply ba); refine blk_far ?_ NB266_276.out _; (with_reducible repeat first | apply bd | apply be | apply ba); refine blk_far ?_ NB266_275.out _; (with_reducible repeat first | apply bd | apply be | apply ba); refine blk_far ?_ NB266_275.out _; (with_reducible repeat first | apply bd | apply be | apply ba); refine blk_far ?_ NB266_275.out _; (with_reducible repeat first | apply bd | apply be | apply ba); refine blk_far ?_ NB266_275.out _; (with_reducible repeat first | apply bd | apply be | apply ba); exact BK266.out) Tryz.underlying55 rfl (by kernel_rfl)) rfl ?_
 exact ⟨by first | rfl | (simp [aP, aQ] <;> rfl) | (simp [*, aP, aQ] <;> rfl), bl3 HB.out GE266.out GE275.out GE276.out⟩


-- NEED 0
/-! ### fQ: function 84 -/
def fQ.f (k : Nat) (a0 a1 : Int) : Option (Bool) := (aT.f k a0 a1).bind fun t399 => (some (decide (t399 ≥ 4)))
theorem fQ.mono : ∀ a0 a1 k, LeO (fQ.f k a0 a1) (fQ.f (k + 1) a0 a1) := by
 intro a0 a1 k
 unfold fQ.f
 repeat' first
   |(with_reducible first|exact aT.mono _ _ _|exact LeO.refl _|exact LeO.none _|refine LeO.ite ?_ ?_|refine LeO.bind ?_ (fun _ => ?_))
   |exact aT.mono _ _ _
   |exact LeO.none _
   |refine LeO.ite ?_ ?_
   |refine LeO.bind ?_ (fun _ => ?_)
theorem fQ.calls (k : Nat) (a0 a1 : Int) (r : Bool) (w : World) (h : fQ.f k a0 a1 = some r) :
  Calls Tryz.prog 84 #[.int .i64 a0, .int .u32 a1] w fun e w' => e = .returned (.bool r) ∧ Drawn0 w w' := by
 have H : ((aT.f k a0 a1).bind fun t399 => (some (decide (t399 ≥ 4)))) = some r := h
 clear h
 replace H := bq_ H
 obtain ⟨t399, A30, H⟩ := H
 replace H : (some (decide (t399 ≥ 4))) = some r := H
 have A3 := Aside0.mk A30
 clear A30
 obtain rfl := Option.some.inj H
 go_enter Tryz.func84, Tryz.ntmps84
 go_wp2_with (first | ((with_reducible refine gate_callee (f := 34) rfl ?_); refine goesL_ (some 7) rfl rfl Tryz.func34 (by kernel_rfl) rfl #[.int .i64 a0, .int .u32 a1] rfl gl ?_; (with_reducible refine (aT.calls k a0 a1 t399 _ A3.out).mono ?_); rintro e w' ⟨rfl, ⟨nd, rfl⟩⟩; refine ⟨_, rfl, ?_⟩))
 go_ret
 exact ⟨gr_, gd_⟩

-- NEED 0
/-! ### fU: function 44 -/
def fU.f (k : Nat) (a0 : Int) : Option (Bool) := (fQ.f k 2 a0).bind fun t400 => (some t400)
theorem fU.mono : ∀ a0 k, LeO (fU.f k a0) (fU.f (k + 1) a0) := by
 intro a0 k
 unfold fU.f
 repeat' first
   |(with_reducible first|exact fQ.mono _ _ _|exact LeO.refl _|exact LeO.none _|refine LeO.ite ?_ ?_|refine LeO.bind ?_ (fun _ => ?_))
   |exact fQ.mono _ _ _
   |exact LeO.none _
   |refine LeO.ite ?_ ?_
   |refine LeO.bind ?_ (fun _ => ?_)
theorem fU.calls (k : Nat) (a0 : Int) (r : Bool) (w : World) (h : fU.f k a0 = some r) :
  Calls Tryz.prog 44 #[.int .u32 a0] w fun e w' => e = .returned (.bool r) ∧ Drawn0 w w' := by
 have H : ((fQ.f k 2 a0).bind fun t400 => (some t400)) = some r := h
 clear h
 replace H := bq_ H
 obtain ⟨t400, A20, H⟩ := H
 replace H : (some t400) = some r := H
 have A2 := Aside0.mk A20
 clear A20
 obtain rfl := Option.some.inj H
 go_enter Tryz.func44, Tryz.ntmps44
 go_wp2_with (first | ((with_reducible refine gate_callee (f := 84) rfl ?_); refine goesL_ (some 4) rfl rfl Tryz.func84 (by kernel_rfl) rfl #[.int .i64 2, .int .u32 a0] rfl gl ?_; (with_reducible refine (fQ.calls k 2 a0 t400 _ A2.out).mono ?_); rintro e w' ⟨rfl, ⟨nd, rfl⟩⟩; refine ⟨_, rfl, ?_⟩))
 go_ret
 exact ⟨gr_, gd_⟩

-- NEED 0
/-! ### jF: function 45 -/
def jF.f  : Option (Int) := (gW.f 2).bind fun t401 => (some t401)
theorem jF.calls  (r : Int) (w : World) (h : jF.f  = some r) :
  Calls Tryz.prog 45 #[] w fun e w' => e = .returned (.int .u32 r) ∧ Drawn0 w w' := by
 have H : ((gW.f 2).bind fun t401 => (some t401)) = some r := h
 clear h
 replace H := bq_ H
 obtain ⟨t401, A10, H⟩ := H
 replace H : (some t401) = some r := H
 have A1 := Aside0.mk A10
 clear A10
 obtain rfl := Option.some.inj H
 go_enter Tryz.func45, Tryz.ntmps45
 go_wp2_with (first | ((with_reducible refine gate_callee (f := 68) rfl ?_); refine goesL_ (some 1) rfl rfl Tryz.func68 (by kernel_rfl) rfl #[.int .i64 2] rfl gl ?_; (with_reducible refine (gW.calls 2 t401 _ A1.out).mono ?_); rintro e w' ⟨rfl, ⟨nd, rfl⟩⟩; refine ⟨_, rfl, ?_⟩))
 go_ret
 exact ⟨gr_, gd_⟩

-- NEED 0
/-! ### iQ: function 103 -/
def iQ.f (a0 : Int) : Option (Int) := (bC.f a0).bind fun bt402 => (if 0 ≤ (IntKind.u64.wrap (wrap64 ((wrap64 (bt402.1 + bt402.2)) + 1))) then (some (((shl .u32 1 (IntKind.u64.wrap (wrap64 ((wrap64 (bt402.1 + bt402.2)) + 1)))) - 1) % 4294967296)) else (none))
theorem iQ.calls (a0 r : Int) (w : World) (h : iQ.f a0 = some r) :
  Calls Tryz.prog 103 #[.int .i64 a0] w fun e w' => e = .returned (.int .u32 r) ∧ Drawn0 w w' := by
 have H : ((bC.f a0).bind fun bt402 => (if 0 ≤ (IntKind.u64.wrap (wrap64 ((wrap64 (bt402.1 + bt402.2)) + 1))) then (some (((shl .u32 1 (IntKind.u64.wrap (wrap64 ((wrap64 (bt402.1 + bt402.2)) + 1)))) - 1) % 4294967296)) else (none))) = some r := h
 clear h
 replace H := bq_ H
 obtain ⟨⟨t402, t403⟩, A20, H⟩ := H
 replace H : (if 0 ≤ (IntKind.u64.wrap (wrap64 ((wrap64 (t402 + t403)) + 1))) then (some (((shl .u32 1 (IntKind.u64.wrap (wrap64 ((wrap64 (t402 + t403)) + 1)))) - 1) % 4294967296)) else (none)) = some r := H
 have A2 := Aside0.mk A20
 clear A20
 obtain ⟨ji3, hji3⟩ : ∃ j_ : Int, (IntKind.u64.wrap (wrap64 ((wrap64 (t402 + t403)) + 1))) = j_ := ⟨_, rfl⟩
 replace H : (if 0 ≤ (ji3) then (some (((shl .u32 1 (ji3)) - 1) % 4294967296)) else (none)) = some r := by first | (rw [hji3] at H; exact H) | (simp only [hji3] at H ⊢; exact H)
 (try rw [hji3] at A2)
 by_cases c4 : 0 ≤ (ji3)
 ·rw [if_pos c4] at H
  have c4b0 := eq_true c4
  have c4b1 : decide (0 ≤ (ji3)) = true := decide_eq_true c4
  clear c4
  obtain ⟨ji5, hji5⟩ : ∃ j_ : Int, (shl .u32 1 (ji3)) = j_ := ⟨_, rfl⟩
  replace H : (some (((ji5) - 1) % 4294967296)) = some r := by first | (rw [hji5] at H; exact H) | (simp only [hji5] at H ⊢; exact H)
  (try rw [hji5] at A2)
  have hji5_ : (IntKind.u32.wrap (1 * 2 ^ min (ji3).toNat 32)) = ji5 := hji5
  have hji5z : (ji3) ≤ 32 → (IntKind.u32.wrap (1 * 2 ^ (ji3).toNat)) = ji5 := shl_small hji5
  have hji5u : (IntKind.u32.wrap (2 ^ min (ji3).toNat 32)) = ji5 := by have h_ := hji5_; rw [Int.one_mul] at h_; exact h_
  have hji5v : (ji3) ≤ 32 → (IntKind.u32.wrap (2 ^ (ji3).toNat)) = ji5 := fun hle_ => by have h_ := hji5z hle_; rw [Int.one_mul] at h_; exact h_
  obtain ⟨ji6, hji6⟩ : ∃ j_ : Int, (((ji5) - 1) % 4294967296) = j_ := ⟨_, rfl⟩
  replace H : (some ji6) = some r := by first | (rw [hji6] at H; exact H) | (simp only [hji6] at H ⊢; exact H)
  (try rw [hji6] at A2)
  have hji6l : 0 ≤ ji6 := by rw [← hji6]; exact Int.emod_nonneg _ (by decide)
  have hji6h : ji6 ≤ 4294967295 := by have := Int.emod_lt_of_pos (((ji5) - 1)) (show (0 : Int) < 4294967296 by decide); omega
  have hji6w : (IntKind.u32.wrap ((ji5) - 1)) = ji6 := (wS _).trans hji6
  (try (have hji6_ := hji6; simp only [Int.add_emod_emod, Int.emod_add_emod, Int.sub_emod_emod, Int.emod_sub_emod] at hji6_))
  obtain rfl := Option.some.inj H
  go_enter Tryz.func103, Tryz.ntmps103
  go_wp2_with (first | ((with_reducible refine gate_callee (f := 70) rfl ?_); refine goesL_ (some 7) rfl rfl Tryz.func70 (by kernel_rfl) rfl #[.int .i64 a0] rfl gl ?_; (with_reducible refine (bC.calls a0 t402 t403 _ A2.out).mono ?_); rintro e w' ⟨rfl, ⟨nd, rfl⟩⟩; refine ⟨_, rfl, ?_⟩))
  go_ret
  exact ⟨by first | rfl | (simp; done) | (simp only [← hji3, ← hji5, ← hji6] <;> (first | rfl | (simp; done))) | (simp [*]; done) | (congr 1; (try unfold wrap64); omega) | (congr 1; rw [IntKind.wrap_u64]; omega), gd_⟩
 ·rw [if_neg c4] at H
  exact absurd H (by simp)

-- NEED 0
/-! ### fK: function 86 -/
def fK.f (a0 a1 : Int) : Option (Int) := (bC.f a0).bind fun bt404 => ((iQ.f a0).bind fun t406 => (if 0 ≤ (IntKind.u64.wrap (wrap64 (bt404.1 + bt404.2))) then (some (Go.bits .xor .u32 (Go.bits .and .u32 a1 t406) (shl .u32 1 (IntKind.u64.wrap (wrap64 (bt404.1 + bt404.2)))))) else (none)))
theorem fK.calls (a0 a1 r : Int) (w : World) (h : fK.f a0 a1 = some r) :
  Calls Tryz.prog 86 #[.int .i64 a0, .int .u32 a1] w fun e w' => e = .returned (.int .u32 r) ∧ Drawn0 w w' := by
 have H : ((bC.f a0).bind fun bt404 => ((iQ.f a0).bind fun t406 => (if 0 ≤ (IntKind.u64.wrap (wrap64 (bt404.1 + bt404.2))) then (some (Go.bits .xor .u32 (Go.bits .and .u32 a1 t406) (shl .u32 1 (IntKind.u64.wrap (wrap64 (bt404.1 + bt404.2)))))) else (none)))) = some r := h
 clear h
 replace H := bq_ H
 obtain ⟨⟨t404, t405⟩, A30, H⟩ := H
 replace H : ((iQ.f a0).bind fun t406 => (if 0 ≤ (IntKind.u64.wrap (wrap64 (t404 + t405))) then (some (Go.bits .xor .u32 (Go.bits .and .u32 a1 t406) (shl .u32 1 (IntKind.u64.wrap (wrap64 (t404 + t405)))))) else (none))) = some r := H
 have A3 := Aside0.mk A30
 clear A30
 replace H := bq_ H
 obtain ⟨t406, A40, H⟩ := H
 replace H : (if 0 ≤ (IntKind.u64.wrap (wrap64 (t404 + t405))) then (some (Go.bits .xor .u32 (Go.bits .and .u32 a1 t406) (shl .u32 1 (IntKind.u64.wrap (wrap64 (t404 + t405)))))) else (none)) = some r := H
 have A4 := Aside0.mk A40
 clear A40
 obtain ⟨ji5, hji5⟩ : ∃ j_ : Int, (IntKind.u64.wrap (wrap64 (t404 + t405))) = j_ := ⟨_, rfl⟩
 replace H : (if 0 ≤ (ji5) then (some (Go.bits .xor .u32 (Go.bits .and .u32 a1 t406) (shl .u32 1 (ji5)))) else (none)) = some r := by first | (rw [hji5] at H; exact H) | (simp only [hji5] at H ⊢; exact H)
 (try rw [hji5] at A3)
 (try rw [hji5] at A4)
 by_cases c6 : 0 ≤ (ji5)
 ·rw [if_pos c6] at H
  have c6b0 := eq_true c6
  have c6b1 : decide (0 ≤ (ji5)) = true := decide_eq_true c6
  clear c6
  obtain ⟨ji7, hji7⟩ : ∃ j_ : Int, (shl .u32 1 (ji5)) = j_ := ⟨_, rfl⟩
  replace H : (some (Go.bits .xor .u32 (Go.bits .and .u32 a1 t406) (ji7))) = some r := by first | (rw [hji7] at H; exact H) | (simp only [hji7] at H ⊢; exact H)
  (try rw [hji7] at A3)
  (try rw [hji7] at A4)
  have hji7_ : (IntKind.u32.wrap (1 * 2 ^ min (ji5).toNat 32)) = ji7 := hji7
  have hji7z : (ji5) ≤ 32 → (IntKind.u32.wrap (1 * 2 ^ (ji5).toNat)) = ji7 := shl_small hji7
  have hji7u : (IntKind.u32.wrap (2 ^ min (ji5).toNat 32)) = ji7 := by have h_ := hji7_; rw [Int.one_mul] at h_; exact h_
  have hji7v : (ji5) ≤ 32 → (IntKind.u32.wrap (2 ^ (ji5).toNat)) = ji7 := fun hle_ => by have h_ := hji7z hle_; rw [Int.one_mul] at h_; exact h_
  obtain rfl := Option.some.inj H
  go_enter Tryz.func86, Tryz.ntmps86
  go_wp2_with (first | ((with_reducible refine gate_callee (f := 70) rfl ?_); refine goesL_ (some 9) rfl rfl Tryz.func70 (by kernel_rfl) rfl #[.int .i64 a0] rfl gl ?_; (with_reducible refine (bC.calls a0 t404 t405 _ A3.out).mono ?_); rintro e w' ⟨rfl, ⟨nd, rfl⟩⟩; refine ⟨_, rfl, ?_⟩) | ((with_reducible refine gate_callee (f := 103) rfl ?_); refine goesL_ (some 14) rfl rfl Tryz.func103 (by kernel_rfl) rfl #[.int .i64 a0] rfl gl ?_; (with_reducible refine (iQ.calls a0 t406 _ A4.out).mono ?_); rintro e w' ⟨rfl, ⟨nd, rfl⟩⟩; refine ⟨_, rfl, ?_⟩))
  go_ret
  exact ⟨by first | rfl | (simp; done) | (simp only [← hji5, ← hji7] <;> (first | rfl | (simp; done))) | (simp [*]; done) | (congr 1; (try unfold wrap64); omega) | (congr 1; rw [IntKind.wrap_u64]; omega), gd_⟩
 ·rw [if_neg c6] at H
  exact absurd H (by simp)

end Go.Proofs.YtjlgmfgjleajfaaGreat.P

/- Which numbers are none, infinite, nought; bits of a format alone: the program's, as plain numbers. -/
namespace Go.Proofs.YtjlgmfgjleajfaaGreat.Round
open Go.RowKit Go.Proofs.YtjlgmfgjleajfaaGreat.P Go.Proofs.YtjlgmfgjleajfaaGreat.Num Go.Proofs.YtjlgmfgjleajfaaGreat.BitsF Go.Proofs.YtjlgmfgjleajfaaGreat.Fmt Go.Proofs.YtjlgmfgjleajfaaGreatW.PrintWords Go.Proofs.YtjlgmfgjleajfaaGreatW.PrintLast Go.Proofs.YtjlgmfgjleajfaaGreatW.PrintMore

theorem aAe (f : Int) (v : Nat) (hv : v < 4294967296) : Ev (fun k => cB.f k f (v : Int)) (decide (bK f v = 0)) := by
 refine Ev.congr (fun k => by unfold cB.f; rfl) (Ev.bind (nV f v hv) (Ev.congr (fun k => ?_) (Ev.now _)))
 rw [show (0 : Int) = ((0 : Nat) : Int) from rfl, nN]
theorem jY (f : Int) (v : Nat) (hv : v < 4294967296) : Ev (fun k => aJ.f k f (v : Int)) (decide (bK f v = 3)) := by
 refine Ev.congr (fun k => by unfold aJ.f; rfl) (Ev.bind (nV f v hv) (Ev.congr (fun k => ?_) (Ev.now _)))
 rw [show (3 : Int) = ((3 : Nat) : Int) from rfl, nN]
theorem pmask_f (f : Int) : iQ.f f = some (maskN f : Int) := by
 unfold iQ.f maskN
 have h := dZ f
 rw [jO, Option.bind_some]
 dsimp only
 rw [show (fe f : Int) + (fm f : Int) = ((fe f + fm f : Nat) : Int) by omega, cK ((fe f + fm f : Nat) : Int) (by omega) (by omega), show ((fe f + fm f : Nat) : Int) + 1 = ((fe f + fm f + 1 : Nat) : Int) by omega, wu _ (by omega), if_pos (Int.natCast_nonneg _)]
 have e := r9 1 (fe f + fm f + 1)
 rw [Nat.one_mul] at e
 rw [show (1 : Int) = ((1 : Nat) : Int) from rfl, e]
 have h32 := mY (show fe f + fm f + 1 ≤ 32 by omega)
 have h0 := Nat.two_pow_pos (fe f + fm f + 1)
 generalize 2 ^ (fe f + fm f + 1) = P at *
 congr 1; omega
theorem mQ (f : Int) (L : List Int) (i v : Nat) (b c : Bool) (r : Int × Bool × Bool × Bool × Bool × Bool × Bool) (hi : i < L.length) (hn : L.length ≤ 100) (hv : v < 4294967296) (hr : rd L (i : Int) = (v : Int))
  (h : Ev (fun k => aY.l0 k f (b || eX f v) L (L.length : Int) ((i + 1 : Nat) : Int) (c || gI f v) false false false false) r) : Ev (fun k => aY.l0 k f b L (L.length : Int) (i : Int) c false false false false) r := by
 have hw : wrap64 ((i : Int) + 1) = ((i + 1 : Nat) : Int) := by rw [cK _ (by omega) (by omega)]; omega
 refine Ev.step (fun k => by rw [aY.l0, if_pos (by omega), if_pos (Int.natCast_nonneg _), if_pos (by omega), hr, hw]) (Ev.bind (nV f v hv) (Ev.congr (fun k => ?_) h))
 have e5 : (((bK f v : Nat) : Int) == 5) = gI f v := by rw [show (5 : Int) = ((5 : Nat) : Int) from rfl, nN]; rfl
 have e4 : decide (((bK f v : Nat) : Int) ≥ 4) = eX f v := by unfold eX; apply decide_eq_decide.mpr; omega
 rw [e5, e4]
 cases b <;> cases c <;> simp
theorem wI (f : Int) (L : List Int) (b c : Bool) : Ev (fun k => aY.l0 k f b L (L.length : Int) (L.length : Int) c false false false false) ((qU f : Int), c, false, false, false, false, b) :=
 Ev.step (fun k => by rw [aY.l0, if_neg (by omega), nan_f]; rfl) (Ev.now _)
theorem o7 (f : Int) (a b : Nat) (ha : a < 4294967296) (hb : b < 4294967296) : Ev (fun k => aY.f k f [(a : Int), (b : Int)]) ((qU f : Int), gI f a || gI f b, false, false, false, false, eX f a || eX f b) := by
 refine Ev.congr (fun k => by unfold aY.f; rfl) (mQ f _ 0 a false false _ (by simp) (by simp) ha rfl (mQ f _ 1 b _ _ _ (by simp) (by simp) hb rfl ?_))
 rw [Bool.false_or, Bool.false_or]
 exact wI f [(a : Int), (b : Int)] _ _
theorem l6 (f : Int) (v : Nat) (h : bK f v = 0) : lG f v = fO f (dE f v) ∧ bH f v = 0 := by
 have hz : mF f v = 0 ∧ kS f v = 0 := by
  unfold bK at h
  by_cases c : mF f v = 0
  ·rw [if_pos c] at h
   by_cases d : kS f v = 0
   ·exact ⟨c, d⟩
   ·rw [if_neg d] at h; omega
  ·rw [if_neg c] at h
   split at h
   ·omega
   ·split at h
    ·omega
    ·split at h <;> omega
 have hp := xK f v
 rw [qH, rQ, tN, hz.1, hz.2] at hp
 refine ⟨by omega, ?_⟩
 unfold bH; rw [if_pos hz.1, hz.2]
theorem yU (f : Int) (v : Nat) (h : bK f v = 3) : lG f v = oH f (dE f v) := by
 have hz : mF f v = iT f ∧ kS f v = 0 := by
  have he := aCp f v
  unfold bK at h
  by_cases c : mF f v = 0
  ·rw [if_pos c] at h
   split at h <;> omega
  ·rw [if_neg c] at h
   by_cases d : mF f v < iT f
   ·rw [if_pos d] at h; omega
   ·rw [if_neg d] at h
    by_cases z : kS f v = 0
    ·exact ⟨by omega, z⟩
    ·rw [if_neg z] at h; split at h <;> omega
 have hp := xK f v
 rw [qH, rQ, tN, hz.1, hz.2] at hp
 unfold oH; omega
theorem whole_64 (f : Int) (v : Nat) : bH f v < 18446744073709551616 := by
 have h := dZ f
 have h1 := kC f v
 have h2 := eT (show fm f + 1 ≤ 31 by omega)
 omega
theorem fB (f : Int) (v : Nat) : -200 ≤ bA f v ∧ bA f v ≤ 300 := by
 have := iO f; have := jL f; have := dZ f; have := aCp f v
 unfold bA; omega
theorem iZ (f : Int) (v : Nat) (h : bK f v < 3) : mF f v < iT f := (qN f v).mp h
/- Sums to all bits that rounding asks for: plain numbers alone. -/

def kQ (s : Nat) : Nat := 62 - gT s
def iJ (na : Bool) (Ea : Int) (A : Nat) (nb : Bool) (Eb : Int) (B : Nat) : Bool × Int × Nat × Bool :=
 if na = nb then (na, Ea, A + B / 2 ^ (Ea - Eb).toNat, decide (B % 2 ^ (Ea - Eb).toNat ≠ 0))
 else (na, Ea, A - B / 2 ^ (Ea - Eb).toNat - (if B % 2 ^ (Ea - Eb).toNat ≠ 0 then 1 else 0), decide (B % 2 ^ (Ea - Eb).toNat ≠ 0))
def lC (n1 : Bool) (e1 : Int) (s1 : Nat) (n2 : Bool) (e2 : Int) (s2 : Nat) : Bool × Int × Nat × Bool :=
 if s1 = 0 then (n2, e2, s2, false) else if s2 = 0 then (n1, e1, s1, false)
 else if e1 - (kQ s1 : Int) < e2 - (kQ s2 : Int) ∨ e1 - (kQ s1 : Int) = e2 - (kQ s2 : Int) ∧ s1 * 2 ^ kQ s1 < s2 * 2 ^ kQ s2 then iJ n2 (e2 - (kQ s2 : Int)) (s2 * 2 ^ kQ s2) n1 (e1 - (kQ s1 : Int)) (s1 * 2 ^ kQ s1)
 else iJ n1 (e1 - (kQ s1 : Int)) (s1 * 2 ^ kQ s1) n2 (e2 - (kQ s2 : Int)) (s2 * 2 ^ kQ s2)
theorem kJ (s : Nat) (h : s ≠ 0) (h' : s < 4611686018427387904) : kQ s ≤ 61 ∧ gT s + kQ s = 62 ∧ 2305843009213693952 ≤ s * 2 ^ kQ s ∧ s * 2 ^ kQ s < 4611686018427387904 := by
 have h1 := gH s 62 h'
 have h2 := kM s h
 have e : gT s + kQ s = 62 := by unfold kQ; omega
 have hp := Nat.two_pow_pos (kQ s)
 have l1 := Nat.mul_le_mul_right (2 ^ kQ s) (qA s h)
 have l2 := Nat.mul_lt_mul_of_pos_right (lH s) hp
 rw [← Nat.pow_add, show gT s - 1 + kQ s = 61 by omega] at l1
 rw [← Nat.pow_add, e] at l2
 exact ⟨by omega, e, l1, l2⟩
/- Sums, rounded: plain numbers alone. -/

def l9 (f mode : Int) (a b : Bool) : Nat := if a = b then fO f a else fO f (decide (mode = 3))
def gG (f mode : Int) (a b : Bool) (r : Bool × Int × Nat × Bool) : Nat := if r.2.2 = (0, false) then l9 f mode a b else gD f mode r.1 r.2.1 r.2.2.1 r.2.2.2
def gZ (f mode : Int) (r : Bool × Int × Nat × Bool) : Bool × Bool × Bool := if r.2.2 = (0, false) then (false, false, false) else lW f mode r.1 r.2.1 r.2.2.1 r.2.2.2
def vW (f : Int) (a b : Nat) : Bool × Int × Nat × Bool := lC (dE f a) (bA f a) (bH f a) (dE f b) (bA f b) (bH f b)
def rV (f mode : Int) (a b : Nat) : Nat :=
 if 4 ≤ bK f a ∨ 4 ≤ bK f b then qU f else if bK f a = 3 ∧ bK f b = 3 ∧ dE f a ≠ dE f b then qU f else if bK f a = 3 then oH f (dE f a) else if bK f b = 3 then oH f (dE f b)
 else gG f mode (dE f a) (dE f b) (vW f a b)
def aAX (f mode : Int) (a b : Nat) : Bool × Bool × Bool × Bool × Bool :=
 if 4 ≤ bK f a ∨ 4 ≤ bK f b then (gI f a || gI f b, false, false, false, false) else if bK f a = 3 ∧ bK f b = 3 ∧ dE f a ≠ dE f b then (true, false, false, false, false) else if bK f a = 3 ∨ bK f b = 3 then (false, false, false, false, false)
 else (false, false, gZ f mode (vW f a b))
/- Sums of which nothing is lost: plain numbers alone. -/

theorem sG (m E F : Int) (h1 : m ≤ E) (h2 : E ≤ F) : 2 ^ (F - m).toNat = 2 ^ (F - E).toNat * 2 ^ (E - m).toNat := by
 rw [← Nat.pow_add]; congr 1; omega
/- A rounding depends on the value alone: more bits of the same value make no difference. Quotients and roots to so many bits. Plain numbers alone. -/

theorem zL (r h t P : Nat) (m : Bool) (ht : t < P) : rH (r * P + t) (h * P) m = rH r h (m || decide (t ≠ 0)) := by
 have h1 : r * P + t < h * P ↔ r < h := by
  constructor
  ·intro c; exact Nat.lt_of_mul_lt_mul_right (Nat.lt_of_le_of_lt (Nat.le_add_right _ _) c)
  ·intro c
   have := Nat.mul_le_mul_right P (show r + 1 ≤ h from c)
   rw [Nat.add_mul] at this; omega
 have h2 : r * P + t = h * P ↔ r = h ∧ t = 0 := by
  constructor
  ·intro c
   have a : ¬ r < h := fun l => by have := h1.mpr l; omega
   have b : ¬ h < r := fun l => by
    have := Nat.mul_le_mul_right P (show h + 1 ≤ r from l)
    rw [Nat.add_mul] at this; omega
   have e : r = h := by omega
   subst e; exact ⟨rfl, by omega⟩
  ·rintro ⟨rfl, rfl⟩; rfl
 have h3 : r * P + t = 0 ↔ r = 0 ∧ t = 0 := by
  constructor
  ·intro c
   have : r * P = 0 := by omega
   rw [Nat.mul_eq_zero] at this; omega
  ·rintro ⟨rfl, rfl⟩; simp
 unfold rH
 simp only [h1, h2, h3]
 by_cases c : t = 0
 ·subst c; simp
 ·simp [c]
theorem uV (s t j : Nat) (ht : t < 2 ^ j) (hs : s ≠ 0) : gT (s * 2 ^ j + t) = gT s + j := by
 have hp := Nat.two_pow_pos j
 have h1 : 2 ^ j ≤ s * 2 ^ j := Nat.le_mul_of_pos_left _ (by omega)
 have := mW (s * 2 ^ j + t) j (by omega)
 rw [Nat.mul_comm, Nat.mul_add_div hp, Nat.div_eq_of_lt ht, Nat.add_zero] at this
 rw [Nat.mul_comm s]; omega
theorem sI (s t j : Nat) (hs : s ≠ 0) : s * 2 ^ j + t ≠ 0 := by
 have h1 : 2 ^ j ≤ s * 2 ^ j := Nat.le_mul_of_pos_left _ (by omega)
 have hp := Nat.two_pow_pos j
 omega
theorem sW (f x : Int) (s t j : Nat) (ht : t < 2 ^ j) (hs : s ≠ 0) : iC f x (s * 2 ^ j + t) = iC f (x + j) s := by
 unfold iC
 rw [if_neg (sI s t j hs), if_neg hs, uV s t j ht hs]
 congr 1; omega
theorem yJ (f x : Int) (s t j : Nat) (ht : t < 2 ^ j) (hs : s ≠ 0) : dU f x (s * 2 ^ j + t) = dU f (x + j) s := by
 unfold dU; rw [sW f x s t j ht hs]
theorem uN (f x : Int) (s : Nat) (hs : 2 ^ (fm f + 1) ≤ s) : 1 ≤ dU f x s - x ∧ s ≠ 0 := by
 have hl := aBy s (fm f + 1) hs
 have hp := Nat.two_pow_pos (fm f + 1)
 have h0 : s ≠ 0 := by omega
 refine ⟨?_, h0⟩
 unfold dU iC
 rw [if_neg h0]; omega
theorem xZ (f x : Int) (s t j : Nat) (m : Bool) (ht : t < 2 ^ j) (hs : 2 ^ (fm f + 1) ≤ s) :
  iY (s * 2 ^ j + t) (dU f x (s * 2 ^ j + t) - x) = iY s (dU f (x + j) s - (x + j)) ∧
  gN (s * 2 ^ j + t) (dU f x (s * 2 ^ j + t) - x) m = gN s (dU f (x + j) s - (x + j)) (m || decide (t ≠ 0)) := by
 obtain ⟨hd, h0⟩ := uN f (x + j) s hs
 rw [yJ f x s t j ht h0]
 generalize dU f (x + j) s = U at *
 obtain ⟨d, e⟩ := lZ (show 0 ≤ U - (x + j) by omega)
 rw [e] at hd ⊢
 rw [show U - x = ((d + j : Nat) : Int) by omega]
 have hp := Nat.two_pow_pos j
 have hq : (s * 2 ^ j + t) / 2 ^ j = s := by rw [Nat.mul_comm, Nat.mul_add_div hp, Nat.div_eq_of_lt ht, Nat.add_zero]
 constructor
 ·unfold iY
  rw [if_neg (by omega), if_neg (by omega), Int.toNat_natCast, Int.toNat_natCast, Nat.add_comm d j, Nat.pow_add, ← Nat.div_div_eq_div_mul, hq]
 ·rw [mM _ _ _ (show ¬ ((d + j : Nat) : Int) ≤ 0 by omega), mM _ _ _ (show ¬ (d : Int) ≤ 0 by omega), Int.toNat_natCast, Int.toNat_natCast]
  have h1 : (s * 2 ^ j + t) % 2 ^ (d + j) = s % 2 ^ d * 2 ^ j + t := by
   rw [Nat.add_comm d j, Nat.pow_add, Nat.mod_mul, hq, Nat.mul_comm s, Nat.mul_add_mod, Nat.mod_eq_of_lt ht]
   rw [Nat.add_comm, Nat.mul_comm (2 ^ j)]
  have h2 : 2 ^ (d + j - 1) = 2 ^ (d - 1) * 2 ^ j := by rw [← Nat.pow_add]; congr 1; omega
  rw [h1, h2, zL _ _ _ _ _ ht]
theorem nA (f mode : Int) (neg : Bool) (x : Int) (s t j : Nat) (m : Bool) (ht : t < 2 ^ j) (hs : 2 ^ (fm f + 1) ≤ s) :
  gD f mode neg x (s * 2 ^ j + t) m = gD f mode neg (x + j) s (m || decide (t ≠ 0)) ∧ lW f mode neg x (s * 2 ^ j + t) m = lW f mode neg (x + j) s (m || decide (t ≠ 0)) := by
 obtain ⟨h1, h2⟩ := xZ f x s t j m ht hs
 have h0 := (uN f x s hs).2
 have h3 := sW f x s t j ht h0
 have hk : oI f mode neg x (s * 2 ^ j + t) m = oI f mode neg (x + j) s (m || decide (t ≠ 0)) := by unfold oI; rw [h1, h2, h3]
 have hi : lV f x (s * 2 ^ j + t) m = lV f (x + j) s (m || decide (t ≠ 0)) := by unfold lV; rw [h2]
 have hu : nE f x (s * 2 ^ j + t) m = nE f (x + j) s (m || decide (t ≠ 0)) := by
  unfold nE
  rw [hi, uV s t j ht h0, decide_eq_false (sI s t j h0), decide_eq_false h0]
  congr 2; apply decide_eq_decide.mpr; omega
 unfold gD lW
 rw [hk, hi, hu]; exact ⟨rfl, rfl⟩
theorem uI (f mode : Int) (neg : Bool) (e : Int) (A B c j : Nat) (hB : 0 < B) (hs : 2 ^ (fm f + 1) ≤ A * 2 ^ c / B) :
  gD f mode neg (e - ((c + j : Nat) : Int)) (A * 2 ^ (c + j) / B) (decide (A * 2 ^ (c + j) % B ≠ 0)) = gD f mode neg (e - c) (A * 2 ^ c / B) (decide (A * 2 ^ c % B ≠ 0)) ∧
  lW f mode neg (e - ((c + j : Nat) : Int)) (A * 2 ^ (c + j) / B) (decide (A * 2 ^ (c + j) % B ≠ 0)) = lW f mode neg (e - c) (A * 2 ^ c / B) (decide (A * 2 ^ c % B ≠ 0)) := by
 have hp := Nat.two_pow_pos j
 rw [Nat.pow_add, ← Nat.mul_assoc]
 generalize A * 2 ^ c = V at *
 have hd := Nat.div_add_mod V B
 have hr := Nat.mod_lt V hB
 generalize V / B = s at *
 generalize V % B = r at *
 have e1 : V * 2 ^ j = B * (s * 2 ^ j) + r * 2 ^ j := by rw [← hd, Nat.add_mul, Nat.mul_assoc]
 have e2 : V * 2 ^ j / B = s * 2 ^ j + r * 2 ^ j / B := by rw [e1, Nat.mul_add_div hB]
 have e3 : V * 2 ^ j % B = r * 2 ^ j % B := by rw [e1, Nat.mul_add_mod]
 have ht : r * 2 ^ j / B < 2 ^ j := by
  rw [Nat.div_lt_iff_lt_mul hB, Nat.mul_comm]
  exact Nat.mul_lt_mul_of_pos_left hr hp
 have h := nA f mode neg (e - ((c + j : Nat) : Int)) s (r * 2 ^ j / B) j (decide (r * 2 ^ j % B ≠ 0)) ht hs
 have hm : (decide (r * 2 ^ j % B ≠ 0) || decide (r * 2 ^ j / B ≠ 0)) = decide (r ≠ 0) := by
  have hz : r * 2 ^ j = 0 ↔ r = 0 := by rw [Nat.mul_eq_zero]; omega
  have hdm := Nat.div_add_mod (r * 2 ^ j) B
  by_cases z : r = 0
  ·subst z; simp
  ·have : r * 2 ^ j ≠ 0 := fun c => z (hz.mp c)
   rw [decide_eq_true z]
   by_cases a : r * 2 ^ j % B = 0
   ·have b : r * 2 ^ j / B ≠ 0 := fun b => by rw [a, b] at hdm; simp at hdm; omega
    rw [decide_eq_true b, Bool.or_true]
   ·rw [decide_eq_true a, Bool.true_or]
 rw [e2, e3, h.1, h.2, hm, show e - ((c + j : Nat) : Int) + (j : Int) = e - c by omega]
 exact ⟨rfl, rfl⟩
theorem quo_same (f mode : Int) (neg : Bool) (e : Int) (A B c d : Nat) (hB : 0 < B) (hc : 2 ^ (fm f + 1) ≤ A * 2 ^ c / B) (hd : 2 ^ (fm f + 1) ≤ A * 2 ^ d / B) :
  gD f mode neg (e - c) (A * 2 ^ c / B) (decide (A * 2 ^ c % B ≠ 0)) = gD f mode neg (e - d) (A * 2 ^ d / B) (decide (A * 2 ^ d % B ≠ 0)) ∧
  lW f mode neg (e - c) (A * 2 ^ c / B) (decide (A * 2 ^ c % B ≠ 0)) = lW f mode neg (e - d) (A * 2 ^ d / B) (decide (A * 2 ^ d % B ≠ 0)) := by
 rcases Nat.le_total c d with h | h
 ·obtain ⟨j, rfl⟩ := Nat.exists_eq_add_of_le h
  have := uI f mode neg e A B c j hB hc
  exact ⟨this.1.symm, this.2.symm⟩
 ·obtain ⟨j, rfl⟩ := Nat.exists_eq_add_of_le h
  exact uI f mode neg e A B d j hB hd
/- Amounts: what a number's bits without its sign stand for, in units of the least number; rounding depends on the amount alone. -/

def uC (f : Int) (v : Nat) : Nat := v % 2 ^ (fe f + fm f)
def aAY (f : Int) (K : Nat) : Nat := (if K / 2 ^ fm f = 0 then K % 2 ^ fm f else K % 2 ^ fm f + 2 ^ fm f) * 2 ^ (K / 2 ^ fm f - 1)
theorem amt_lt (f : Int) (K : Nat) : aAY f K < 2 ^ fm f * 2 ^ (K / 2 ^ fm f) := by
 have hm := Nat.mod_lt K (Nat.two_pow_pos (fm f))
 unfold aAY
 generalize K % 2 ^ fm f = m at *
 generalize K / 2 ^ fm f = E at *
 by_cases c : E = 0
 ·subst c; rw [if_pos rfl]; simpa using hm
 ·rw [if_neg c]
  have e : 2 ^ fm f * 2 ^ E = (2 ^ fm f + 2 ^ fm f) * 2 ^ (E - 1) := by
   obtain ⟨j, rfl⟩ : ∃ j, E = j + 1 := ⟨E - 1, by omega⟩
   rw [Nat.add_sub_cancel, Nat.pow_succ, Nat.add_mul, ← Nat.mul_assoc]; omega
  rw [e]
  exact Nat.mul_lt_mul_of_pos_right (by omega) (Nat.two_pow_pos _)
theorem amt_ge (f : Int) (K : Nat) (h : K / 2 ^ fm f ≠ 0) : 2 ^ fm f * 2 ^ (K / 2 ^ fm f - 1) ≤ aAY f K := by
 unfold aAY; rw [if_neg h]
 exact Nat.mul_le_mul_right _ (Nat.le_add_left _ _)
theorem aAd (f : Int) {K L : Nat} (h : K ≤ L) : aAY f K ≤ aAY f L := by
 have hd := Nat.div_le_div_right (c := 2 ^ fm f) h
 rcases Nat.lt_or_eq_of_le hd with c | c
 ·have h1 := amt_lt f K
  have h2 := amt_ge f L (Nat.ne_of_gt (Nat.lt_of_le_of_lt (Nat.zero_le _) c))
  have h3 : 2 ^ fm f * 2 ^ (K / 2 ^ fm f) ≤ 2 ^ fm f * 2 ^ (L / 2 ^ fm f - 1) := Nat.mul_le_mul_left _ (Nat.pow_le_pow_right (by decide) (Nat.le_sub_one_of_lt c))
  omega
 ·have h1 := Nat.div_add_mod K (2 ^ fm f)
  have h2 := Nat.div_add_mod L (2 ^ fm f)
  unfold aAY
  rw [c] at h1 ⊢
  refine Nat.mul_le_mul_right _ ?_
  split <;> omega
theorem amt_key (f : Int) (r q : Nat) (hq : q ≤ 2 ^ (fm f + 1)) (hr : r = 0 ∨ 2 ^ fm f ≤ q) : aAY f (r * 2 ^ fm f + q) = q * 2 ^ r := by
 have hp := Nat.two_pow_pos (fm f)
 have hs : 2 ^ (fm f + 1) = 2 * 2 ^ fm f := by rw [Nat.pow_succ, Nat.mul_comm]
 unfold aAY
 by_cases c : q < 2 ^ fm f
 ·obtain rfl : r = 0 := by omega
  rw [Nat.zero_mul, Nat.zero_add, Nat.div_eq_of_lt c, if_pos rfl, Nat.mod_eq_of_lt c]
 ·by_cases c2 : q = 2 ^ (fm f + 1)
  ·have e : r * 2 ^ fm f + q = (r + 2) * 2 ^ fm f := by rw [c2, hs, Nat.add_mul]
   rw [e, Nat.mul_div_cancel _ hp, Nat.mul_mod_left, if_neg (by omega), show r + 2 - 1 = r + 1 from rfl, c2, hs, Nat.pow_succ, Nat.zero_add]
   rw [Nat.mul_comm (2 ^ r) 2, ← Nat.mul_assoc, Nat.mul_comm (2 ^ fm f) 2]
  ·have e : r * 2 ^ fm f + q = (q - 2 ^ fm f) + 2 ^ fm f * (r + 1) := by rw [Nat.mul_add, Nat.mul_one, Nat.mul_comm r]; omega
   rw [e, Nat.add_mul_div_left _ _ hp, Nat.add_mul_mod_self_left, Nat.div_eq_of_lt (by omega), Nat.mod_eq_of_lt (by omega), if_neg (by omega), show 0 + (r + 1) - 1 = r by omega]
   congr 1; omega
theorem aAp (r h j : Nat) : rH (r * 2 ^ j) (h * 2 ^ j) false = rH r h false := by
 have hp := Nat.two_pow_pos j
 unfold rH
 have h1 : r * 2 ^ j < h * 2 ^ j ↔ r < h := Nat.mul_lt_mul_right hp
 have h2 : r * 2 ^ j = 0 ↔ r = 0 := by rw [Nat.mul_eq_zero]; omega
 have h3 : r * 2 ^ j = h * 2 ^ j ↔ r = h := ⟨fun e => Nat.eq_of_mul_eq_mul_right hp e, fun e => by rw [e]⟩
 simp only [h1, h2, h3]
theorem oC (s : Nat) (d : Int) (h : d ≤ 0 ∨ s % 2 ^ d.toNat = 0) : gN s d false = 0 := iE false h
theorem wN (s j : Nat) (d : Int) : iY (s * 2 ^ j) d = iY s (d - j) ∧ gN (s * 2 ^ j) d false = gN s (d - j) false := by
 by_cases c : d ≤ 0
 ·rw [oC _ _ (.inl c), oC _ _ (.inl (by omega))]
  refine ⟨?_, rfl⟩
  unfold iY
  rw [if_pos c, if_pos (by omega), show (-(d - (j : Int))).toNat = j + (-d).toNat by omega, Nat.pow_add, Nat.mul_assoc]
 ·obtain ⟨n, rfl⟩ := lZ (show 0 ≤ d by omega)
  by_cases c2 : (n : Int) - j ≤ 0
  ·obtain ⟨i, rfl⟩ : ∃ i, j = n + i := ⟨j - n, by omega⟩
   have e : s * 2 ^ (n + i) = s * 2 ^ i * 2 ^ n := by rw [Nat.add_comm, Nat.pow_add, Nat.mul_assoc]
   have hp := Nat.two_pow_pos n
   constructor
   ·unfold iY
    rw [if_neg c, if_pos c2, Int.toNat_natCast, e, Nat.mul_div_cancel _ hp, show (-((n : Int) - ((n + i : Nat) : Int))).toNat = i by omega]
   ·rw [oC _ _ (.inr (by rw [Int.toNat_natCast, e, Nat.mul_mod_left])), oC _ _ (.inl c2)]
  ·obtain ⟨i, rfl⟩ : ∃ i, n = i + j := ⟨n - j, by omega⟩
   have hp := Nat.two_pow_pos j
   have e : ((i + j : Nat) : Int) - (j : Int) = (i : Int) := by omega
   rw [e] at c2 ⊢
   have hi : i ≠ 0 := by omega
   constructor
   ·unfold iY
    rw [if_neg c, if_neg c2, Int.toNat_natCast, Int.toNat_natCast, Nat.pow_add, Nat.mul_div_mul_right _ _ hp]
   ·rw [mM _ _ _ c, mM _ _ _ c2, Int.toNat_natCast, Int.toNat_natCast, Nat.pow_add, Nat.mul_mod_mul_right, show i + j - 1 = i - 1 + j by omega, Nat.pow_add, aAp]
theorem uM (f x : Int) (s j : Nat) : iC f x (s * 2 ^ j) = iC f (x + j) s := by
 unfold iC
 by_cases c : s = 0
 ·subst c; rw [Nat.zero_mul, if_pos rfl, if_pos rfl]
 ·rw [if_neg (Nat.mul_ne_zero c (Nat.ne_of_gt (Nat.two_pow_pos j))), if_neg c, pJ s j c]
  congr 1; omega
theorem aBO (f mode : Int) (neg : Bool) (x : Int) (s j : Nat) : oI f mode neg x (s * 2 ^ j) false = oI f mode neg (x + j) s false := by
 have hr := uM f x s j
 have hu : dU f x (s * 2 ^ j) = dU f (x + j) s := by unfold dU; rw [hr]
 obtain ⟨hq, hl⟩ := wN s j (dU f (x + j) s - x)
 rw [show dU f (x + j) s - x - j = dU f (x + j) s - (x + j) by omega] at hq hl
 unfold oI
 rw [hr, hu, hq, hl]
theorem xQ (f mode : Int) (neg : Bool) (M s r : Nat) (hM : M < 2 ^ (fm f + 1)) (hr : r = 0 ∨ 2 ^ fm f ≤ M) : oI f mode neg (dQ f - fm f + r - s) (M * 2 ^ s) false = r * 2 ^ fm f + M := by
 obtain ⟨h1, h2, h3⟩ := aBt f M s r hM hr
 unfold oI; rw [h3, up_none, h1, h2]; simp
theorem nK (f : Int) (v : Nat) : uC f v / 2 ^ fm f = mF f v ∧ uC f v % 2 ^ fm f = kS f v := by
 unfold uC mF kS
 rw [Nat.add_comm (fe f), Nat.pow_add]
 exact ⟨Nat.mod_mul_right_div_self .., Nat.mod_mul_right_mod ..⟩
theorem xI (f : Int) (v : Nat) : aAY f (uC f v) = bH f v * 2 ^ (mF f v - 1) := by
 obtain ⟨h1, h2⟩ := nK f v
 unfold aAY bH; rw [h1, h2]
/- Bits with a sign, beyond the greatest number: plain numbers alone (for rounds without chapter 9). -/

theorem qL (f : Int) (P : Nat) (neg : Bool) (h : P < 2 ^ (fe f + fm f)) : dE f (P + fO f neg) = neg ∧ uC f (P + fO f neg) = P ∧ P + fO f neg < 2 ^ (fe f + fm f + 1) := by
 unfold dE uC fO
 have hp := Nat.two_pow_pos (fe f + fm f)
 cases neg
 ·simp only [Bool.false_eq_true, if_false, Nat.add_zero]
  rw [Nat.div_eq_of_lt h, Nat.mod_eq_of_lt h, Nat.pow_succ]
  exact ⟨rfl, rfl, by omega⟩
 ·simp only [if_true]
  rw [Nat.add_div_right _ hp, Nat.div_eq_of_lt h, Nat.add_mod_right, Nat.mod_eq_of_lt h, Nat.pow_succ]
  exact ⟨rfl, rfl, by omega⟩
theorem mag_sign (f : Int) (v : Nat) (h : v < 2 ^ (fe f + fm f + 1)) : v = uC f v + fO f (dE f v) := by
 unfold uC fO dE
 have h1 := Nat.div_add_mod v (2 ^ (fe f + fm f))
 have h2 : v / 2 ^ (fe f + fm f) < 2 := by rw [Nat.div_lt_iff_lt_mul (Nat.two_pow_pos _), Nat.mul_comm, ← Nat.pow_succ]; exact h
 rw [Nat.mod_eq_of_lt h2]
 generalize v / 2 ^ (fe f + fm f) = b at *
 have h3 : b = 0 ∨ b = 1 := by omega
 rcases h3 with rfl | rfl
 ·simp at h1 ⊢; omega
 ·simp at h1 ⊢; omega
/- Numbers near one, drawn: plain numbers. -/

/- Small whole numbers as numbers: plain numbers alone. -/

theorem lM (f mode : Int) (neg : Bool) (x : Int) (s j : Nat) : gD f mode neg x (s * 2 ^ j) false = gD f mode neg (x + j) s false ∧ lW f mode neg x (s * 2 ^ j) false = lW f mode neg (x + j) s false := by
 have hk := aBO f mode neg x s j
 have hr := uM f x s j
 have hu : dU f x (s * 2 ^ j) = dU f (x + j) s := by unfold dU; rw [hr]
 have hl := (wN s j (dU f (x + j) s - x)).2
 rw [show dU f (x + j) s - x - j = dU f (x + j) s - (x + j) by omega] at hl
 have hi : lV f x (s * 2 ^ j) false = lV f (x + j) s false := by unfold lV; rw [hu, hl]
 have hun : nE f x (s * 2 ^ j) false = nE f (x + j) s false := by
  unfold nE
  rw [hi]
  congr 1
  by_cases c : s = 0
  ·subst c; simp
  ·rw [decide_eq_false c, decide_eq_false (Nat.mul_ne_zero c (Nat.ne_of_gt (Nat.two_pow_pos j))), pJ s j c]
   congr 1; apply decide_eq_decide.mpr; omega
 unfold gD lW
 rw [hk, hi, hun]; exact ⟨rfl, rfl⟩
theorem zP (f : Int) (b : Bool) : bK f (fO f b) = 0 ∧ dE f (fO f b) = b ∧ fO f b < 4294967296 := by
 have hb := dZ f
 have h31 := eT (show fe f + fm f ≤ 31 by omega)
 have hp := Nat.two_pow_pos (fm f)
 obtain ⟨p1, p2, p3⟩ := qL f 0 b (Nat.two_pow_pos _)
 obtain ⟨q1, q2⟩ := nK f (0 + fO f b)
 rw [p2] at q1 q2
 rw [Nat.zero_add] at *
 refine ⟨?_, p1, ?_⟩
 ·unfold bK; rw [← q1, ← q2, Nat.zero_div, Nat.zero_mod]; rfl
 ·unfold fO; split <;> omega
/- Sums as whole numbers of many bits: plain numbers alone. -/

def jD (n1 : Bool) (X : Nat) (n2 : Bool) (Y : Nat) : Bool × Nat := if n1 = n2 then (n1, X + Y) else if X < Y then (n2, Y - X) else (n1, X - Y)
theorem meet_add (f mode : Int) (n : Bool) (Ea Eb m : Int) (A B : Nat) (hm : m ≤ Eb) (h : Eb ≤ Ea) (a1 : 2305843009213693952 ≤ A) :
    (A * 2 ^ (Ea - m).toNat + B * 2 ^ (Eb - m).toNat ≠ 0) ∧ ¬ ((iJ n Ea A n Eb B).2.2 = (0, false)) ∧ (iJ n Ea A n Eb B).1 = n ∧
    gD f mode n (iJ n Ea A n Eb B).2.1 (iJ n Ea A n Eb B).2.2.1 (iJ n Ea A n Eb B).2.2.2 = gD f mode n m (A * 2 ^ (Ea - m).toNat + B * 2 ^ (Eb - m).toNat) false ∧
    lW f mode n (iJ n Ea A n Eb B).2.1 (iJ n Ea A n Eb B).2.2.1 (iJ n Ea A n Eb B).2.2.2 = lW f mode n m (A * 2 ^ (Ea - m).toNat + B * 2 ^ (Eb - m).toNat) false := by
  have hb := dZ f
  have hp : 2 ^ (fm f + 1) ≤ 2 ^ 24 := Nat.pow_le_pow_right (by decide) (by omega)
  have hr : iJ n Ea A n Eb B = (n, Ea, A + B / 2 ^ (Ea - Eb).toNat, decide (B % 2 ^ (Ea - Eb).toNat ≠ 0)) := by unfold iJ; rw [if_pos rfl]
  have hs := sG m Eb Ea hm h
  rw [hr]
  dsimp only
  have hd : 0 < 2 ^ (Ea - Eb).toNat := Nat.two_pow_pos _
  have hu : 0 < 2 ^ (Eb - m).toNat := Nat.two_pow_pos _
  have hdm := Nat.div_add_mod B (2 ^ (Ea - Eb).toNat)
  have ht := Nat.mod_lt B hd
  obtain ⟨q, hq⟩ : ∃ q, B / 2 ^ (Ea - Eb).toNat = q := ⟨_, rfl⟩
  obtain ⟨t, htt⟩ : ∃ t, B % 2 ^ (Ea - Eb).toNat = t := ⟨_, rfl⟩
  rw [hq, htt] at hdm ⊢
  rw [htt] at ht
  have e : A * 2 ^ (Ea - m).toNat + B * 2 ^ (Eb - m).toNat = ((A + q) * 2 ^ (Ea - Eb).toNat + t) * 2 ^ (Eb - m).toNat := by
    rw [hs, ← Nat.mul_assoc, ← Nat.add_mul, Nat.add_mul A, Nat.add_assoc, Nat.mul_comm q, hdm]
  obtain ⟨p1, p2⟩ := lM f mode n m ((A + q) * 2 ^ (Ea - Eb).toNat + t) (Eb - m).toNat
  obtain ⟨q1, q2⟩ := nA f mode n Eb (A + q) t (Ea - Eb).toNat false ht (by omega)
  rw [show m + ((Eb - m).toNat : Int) = Eb by omega] at p1 p2
  rw [show Eb + ((Ea - Eb).toNat : Int) = Ea by omega, Bool.false_or] at q1 q2
  refine ⟨?_, fun z => ?_, rfl, ?_, ?_⟩
  · have := Nat.mul_le_mul a1 (Nat.two_pow_pos (Ea - m).toNat); omega
  · have := (Prod.mk.inj z).1; omega
  · rw [e, p1, q1]
  · rw [e, p2, q2]
theorem aBq (f mode : Int) (n n' : Bool) (hn : n ≠ n') (Ea Eb m : Int) (A B : Nat) (hm : m ≤ Eb) (h : Eb ≤ Ea) (_ : Ea = Eb → B ≤ A) (a1 : 2305843009213693952 ≤ A) (b2 : B < 4611686018427387904) (b4 : B % 4 = 0) :
    (A * 2 ^ (Ea - m).toNat - B * 2 ^ (Eb - m).toNat = 0 ↔ (iJ n Ea A n' Eb B).2.2 = (0, false)) ∧ (iJ n Ea A n' Eb B).1 = n ∧
    (A * 2 ^ (Ea - m).toNat - B * 2 ^ (Eb - m).toNat ≠ 0 → gD f mode n (iJ n Ea A n' Eb B).2.1 (iJ n Ea A n' Eb B).2.2.1 (iJ n Ea A n' Eb B).2.2.2 = gD f mode n m (A * 2 ^ (Ea - m).toNat - B * 2 ^ (Eb - m).toNat) false ∧
    lW f mode n (iJ n Ea A n' Eb B).2.1 (iJ n Ea A n' Eb B).2.2.1 (iJ n Ea A n' Eb B).2.2.2 = lW f mode n m (A * 2 ^ (Ea - m).toNat - B * 2 ^ (Eb - m).toNat) false) := by
  have hb := dZ f
  have hp : 2 ^ (fm f + 1) ≤ 2 ^ 24 := Nat.pow_le_pow_right (by decide) (by omega)
  have hr : iJ n Ea A n' Eb B = (n, Ea, A - B / 2 ^ (Ea - Eb).toNat - (if B % 2 ^ (Ea - Eb).toNat ≠ 0 then 1 else 0), decide (B % 2 ^ (Ea - Eb).toNat ≠ 0)) := by unfold iJ; rw [if_neg hn]
  have hs := sG m Eb Ea hm h
  rw [hr]
  dsimp only
  have hd : 0 < 2 ^ (Ea - Eb).toNat := Nat.two_pow_pos _
  have hu : 0 < 2 ^ (Eb - m).toNat := Nat.two_pow_pos _
  have hdm := Nat.div_add_mod B (2 ^ (Ea - Eb).toNat)
  have ht := Nat.mod_lt B hd
  have hX : A * 2 ^ (Ea - m).toNat - B * 2 ^ (Eb - m).toNat = (A * 2 ^ (Ea - Eb).toNat - B) * 2 ^ (Eb - m).toNat := by rw [hs, ← Nat.mul_assoc, ← Nat.sub_mul]
  by_cases t0 : B % 2 ^ (Ea - Eb).toNat = 0
  · rw [if_neg (show ¬ (B % 2 ^ (Ea - Eb).toNat ≠ 0) by omega), decide_eq_false (show ¬ (B % 2 ^ (Ea - Eb).toNat ≠ 0) by omega), Nat.sub_zero]
    have e : A * 2 ^ (Ea - m).toNat - B * 2 ^ (Eb - m).toNat = (A - B / 2 ^ (Ea - Eb).toNat) * 2 ^ (Ea - m).toNat := by
      rw [hX, hs, ← Nat.mul_assoc, Nat.sub_mul A]
      congr 2
      rw [t0, Nat.add_zero, Nat.mul_comm] at hdm
      exact hdm.symm
    obtain ⟨p1, p2⟩ := lM f mode n m (A - B / 2 ^ (Ea - Eb).toNat) (Ea - m).toNat
    rw [show m + ((Ea - m).toNat : Int) = Ea by omega] at p1 p2
    rw [e]
    have hw : 0 < 2 ^ (Ea - m).toNat := Nat.two_pow_pos _
    refine ⟨⟨fun z => ?_, fun z => ?_⟩, rfl, fun _ => ⟨p1.symm, p2.symm⟩⟩
    · rcases Nat.mul_eq_zero.mp z with z | z
      · rw [z]
      · omega
    · rw [(Prod.mk.inj z).1, Nat.zero_mul]
  · rw [if_pos t0, decide_eq_true (show B % 2 ^ (Ea - Eb).toNat ≠ 0 from t0)]
    have h3 : 3 ≤ (Ea - Eb).toNat := by
      rcases Nat.lt_or_ge (Ea - Eb).toNat 3 with c | c
      · exfalso
        have : (Ea - Eb).toNat = 0 ∨ (Ea - Eb).toNat = 1 ∨ (Ea - Eb).toNat = 2 := by omega
        rcases this with c | c | c <;> rw [c] at t0 <;> simp at t0 <;> omega
      · exact c
    have h8 : 2 ^ 3 ≤ 2 ^ (Ea - Eb).toNat := Nat.pow_le_pow_right (by decide) h3
    have hq : B / 2 ^ (Ea - Eb).toNat ≤ B / 2 ^ 3 := Nat.div_le_div_left h8 (by decide)
    have e : A * 2 ^ (Ea - m).toNat - B * 2 ^ (Eb - m).toNat = ((A - B / 2 ^ (Ea - Eb).toNat - 1) * 2 ^ (Ea - Eb).toNat + (2 ^ (Ea - Eb).toNat - B % 2 ^ (Ea - Eb).toNat)) * 2 ^ (Eb - m).toNat := by
      rw [hX]
      congr 1
      generalize 2 ^ (Ea - Eb).toNat = D at *
      generalize hqq : B / D = q at *
      generalize B % D = t at *
      have h1 : (A - q - 1) * D + D = (A - q) * D := by
        rw [← Nat.succ_mul]; congr 1; omega
      have h2 : (A - q) * D = A * D - D * q := by rw [Nat.sub_mul, Nat.mul_comm q]
      have h4 : D * q + D ≤ A * D := by
        rw [← Nat.mul_succ, Nat.mul_comm A]; exact Nat.mul_le_mul_left _ (by omega)
      omega
    have hqb : B / 2 ^ (Ea - Eb).toNat ≤ 576460752303423488 := by omega
    obtain ⟨p1, p2⟩ := lM f mode n m ((A - B / 2 ^ (Ea - Eb).toNat - 1) * 2 ^ (Ea - Eb).toNat + (2 ^ (Ea - Eb).toNat - B % 2 ^ (Ea - Eb).toNat)) (Eb - m).toNat
    obtain ⟨q1, q2⟩ := nA f mode n Eb (A - B / 2 ^ (Ea - Eb).toNat - 1) (2 ^ (Ea - Eb).toNat - B % 2 ^ (Ea - Eb).toNat) (Ea - Eb).toNat false (by omega) (by omega)
    rw [show m + ((Eb - m).toNat : Int) = Eb by omega] at p1 p2
    rw [show Eb + ((Ea - Eb).toNat : Int) = Ea by omega, Bool.false_or, decide_eq_true (show 2 ^ (Ea - Eb).toNat - B % 2 ^ (Ea - Eb).toNat ≠ 0 by omega)] at q1 q2
    rw [e]
    refine ⟨⟨fun z => ?_, fun z => ?_⟩, rfl, fun _ => ⟨by rw [p1, q1], by rw [p2, q2]⟩⟩
    · exfalso
      rcases Nat.mul_eq_zero.mp z with z | z <;> omega
    · have := (Prod.mk.inj z).2; cases this
theorem oF (f mode : Int) (n1 : Bool) (e1 : Int) (s1 : Nat) (n2 : Bool) (e2 : Int) (s2 : Nat) (l1 : -298 ≤ e1) (l2 : -298 ≤ e2) (h1 : s1 < 1152921504606846976) (h2 : s2 < 1152921504606846976) :
    gG f mode n1 n2 (lC n1 e1 s1 n2 e2 s2) = (if (jD n1 (s1 * 2 ^ (e1 + 298).toNat) n2 (s2 * 2 ^ (e2 + 298).toNat)).2 = 0 then l9 f mode n1 n2 else gD f mode (jD n1 (s1 * 2 ^ (e1 + 298).toNat) n2 (s2 * 2 ^ (e2 + 298).toNat)).1 (-298) (jD n1 (s1 * 2 ^ (e1 + 298).toNat) n2 (s2 * 2 ^ (e2 + 298).toNat)).2 false) ∧
    gZ f mode (lC n1 e1 s1 n2 e2 s2) = (if (jD n1 (s1 * 2 ^ (e1 + 298).toNat) n2 (s2 * 2 ^ (e2 + 298).toNat)).2 = 0 then (false, false, false) else lW f mode (jD n1 (s1 * 2 ^ (e1 + 298).toNat) n2 (s2 * 2 ^ (e2 + 298).toNat)).1 (-298) (jD n1 (s1 * 2 ^ (e1 + 298).toNat) n2 (s2 * 2 ^ (e2 + 298).toNat)).2 false) := by
  have one : ∀ (n : Bool) (e : Int) (s : Nat), -298 ≤ e → gD f mode n (-298) (s * 2 ^ (e + 298).toNat) false = gD f mode n e s false ∧ lW f mode n (-298) (s * 2 ^ (e + 298).toNat) false = lW f mode n e s false := fun n e s h => by
    have := lM f mode n (-298) s (e + 298).toNat
    rwa [show (-298 : Int) + ((e + 298).toNat : Int) = e by omega] at this
  have pos : ∀ (e : Int) (s : Nat), s ≠ 0 → s * 2 ^ (e + 298).toNat ≠ 0 := fun e s h => Nat.mul_ne_zero h (by have := Nat.two_pow_pos (e + 298).toNat; omega)
  unfold lC gG gZ
  by_cases z1 : s1 = 0
  · subst z1
    rw [if_pos rfl, Nat.zero_mul]
    by_cases z2 : s2 = 0
    · subst z2
      have hw : (jD n1 0 n2 (0 * 2 ^ (e2 + 298).toNat)).2 = 0 := by unfold jD; rw [Nat.zero_mul]; split <;> rfl
      rw [if_pos rfl, if_pos hw, if_pos rfl, if_pos hw]; exact ⟨rfl, rfl⟩
    · have hw : jD n1 0 n2 (s2 * 2 ^ (e2 + 298).toNat) = (n2, s2 * 2 ^ (e2 + 298).toNat) := by
        unfold jD
        by_cases n : n1 = n2
        · rw [if_pos n, n, Nat.zero_add]
        · rw [if_neg n, if_pos (Nat.pos_of_ne_zero (pos e2 s2 z2)), Nat.sub_zero]
      have hne : ¬ (s2, false) = (0, false) := fun e => z2 (Prod.mk.inj e).1
      rw [hw, if_neg hne, if_neg hne, if_neg (pos e2 s2 z2), if_neg (pos e2 s2 z2)]
      exact ⟨(one n2 e2 s2 l2).1.symm, (one n2 e2 s2 l2).2.symm⟩
  · rw [if_neg z1]
    by_cases z2 : s2 = 0
    · subst z2
      have hw : jD n1 (s1 * 2 ^ (e1 + 298).toNat) n2 (0 * 2 ^ (e2 + 298).toNat) = (n1, s1 * 2 ^ (e1 + 298).toNat) := by
        unfold jD
        rw [Nat.zero_mul]
        by_cases n : n1 = n2
        · rw [if_pos n, Nat.add_zero]
        · rw [if_neg n, if_neg (Nat.not_lt_zero _), Nat.sub_zero]
      have hne : ¬ (s1, false) = (0, false) := fun e => z1 (Prod.mk.inj e).1
      rw [if_pos rfl, hw, if_neg hne, if_neg hne, if_neg (pos e1 s1 z1), if_neg (pos e1 s1 z1)]
      exact ⟨(one n1 e1 s1 l1).1.symm, (one n1 e1 s1 l1).2.symm⟩
    · rw [if_neg z2]
      obtain ⟨a1, a2, a3, a4⟩ := kJ s1 z1 (by omega)
      obtain ⟨b1, b2, b3, b4⟩ := kJ s2 z2 (by omega)
      have k1 := gH s1 60 h1
      have k2 := gH s2 60 h2
      have m1 : s1 * 2 ^ kQ s1 % 4 = 0 := by
        rw [show kQ s1 = (kQ s1 - 2) + 2 by omega, Nat.pow_add, ← Nat.mul_assoc]; exact Nat.mul_mod_left _ _
      have m2 : s2 * 2 ^ kQ s2 % 4 = 0 := by
        rw [show kQ s2 = (kQ s2 - 2) + 2 by omega, Nat.pow_add, ← Nat.mul_assoc]; exact Nat.mul_mod_left _ _
      have up1 : s1 * 2 ^ kQ s1 * 2 ^ (e1 - (kQ s1 : Int) - (-400)).toNat = s1 * 2 ^ (e1 + 298).toNat * 2 ^ 102 := by
        rw [Nat.mul_assoc, ← Nat.pow_add, Nat.mul_assoc, ← Nat.pow_add]; congr 2; omega
      have up2 : s2 * 2 ^ kQ s2 * 2 ^ (e2 - (kQ s2 : Int) - (-400)).toNat = s2 * 2 ^ (e2 + 298).toNat * 2 ^ 102 := by
        rw [Nat.mul_assoc, ← Nat.pow_add, Nat.mul_assoc, ← Nat.pow_add]; congr 2; omega
      have E1 : -400 ≤ e1 - (kQ s1 : Int) := by omega
      have E2 : -400 ≤ e2 - (kQ s2 : Int) := by omega
      have down : ∀ (n : Bool) (W : Nat), gD f mode n (-400) (W * 2 ^ 102) false = gD f mode n (-298) W false ∧ lW f mode n (-400) (W * 2 ^ 102) false = lW f mode n (-298) W false := fun n W => lM f mode n (-400) W 102
      clear one k1 k2 a1 a2 b1 b2
      have X0 := pos e1 s1 z1
      have Y0 := pos e2 s2 z2
      generalize s1 * 2 ^ (e1 + 298).toNat = X at *
      generalize s2 * 2 ^ (e2 + 298).toNat = Y at *
      generalize e1 - (kQ s1 : Int) = F at *
      generalize e2 - (kQ s2 : Int) = G at *
      generalize s1 * 2 ^ kQ s1 = A at *
      generalize s2 * 2 ^ kQ s2 = B at *
      have p102 : 0 < 2 ^ 102 := Nat.two_pow_pos _
      -- two that stand in their order
      have main : ∀ (n n' : Bool) (F G : Int) (A B X Y : Nat), G ≤ F → (F = G → B ≤ A) → -400 ≤ G → 2305843009213693952 ≤ A → B < 4611686018427387904 → B % 4 = 0 → A * 2 ^ (F - (-400)).toNat = X * 2 ^ 102 → B * 2 ^ (G - (-400)).toNat = Y * 2 ^ 102 → X ≠ 0 →
          ∀ (w : Bool × Nat), w = (if n = n' then (n, X + Y) else (n, X - Y)) → ∀ (a b : Bool),
          (if (iJ n F A n' G B).2.2 = (0, false) then l9 f mode a b else gD f mode (iJ n F A n' G B).1 (iJ n F A n' G B).2.1 (iJ n F A n' G B).2.2.1 (iJ n F A n' G B).2.2.2) = (if w.2 = 0 then l9 f mode a b else gD f mode w.1 (-298) w.2 false) ∧
          (if (iJ n F A n' G B).2.2 = (0, false) then (false, false, false) else lW f mode (iJ n F A n' G B).1 (iJ n F A n' G B).2.1 (iJ n F A n' G B).2.2.1 (iJ n F A n' G B).2.2.2) = (if w.2 = 0 then (false, false, false) else lW f mode w.1 (-298) w.2 false) := by
        intro n n' F G A B X Y hGF h0 hG hA hB hB4 hX hY hX0 w hw a b
        by_cases c : n = n'
        · subst c
          rw [if_pos rfl] at hw
          subst hw
          obtain ⟨r1, r2, r3, r4, r5⟩ := meet_add f mode n F G (-400) A B hG hGF hA
          rw [hX, hY, ← Nat.add_mul] at r4 r5
          rw [(down n (X + Y)).1] at r4
          rw [(down n (X + Y)).2] at r5
          rw [if_neg r2, if_neg r2, r3, r4, r5]
          dsimp only
          rw [if_neg (show ¬ X + Y = 0 by omega), if_neg (show ¬ X + Y = 0 by omega)]
          exact ⟨rfl, rfl⟩
        · rw [if_neg c] at hw
          subst hw
          obtain ⟨r1, r2, r3⟩ := aBq f mode n n' c F G (-400) A B hG hGF h0 hA hB hB4
          rw [hX, hY, ← Nat.sub_mul] at r1 r3
          dsimp only
          by_cases z : X - Y = 0
          · rw [if_pos (r1.mp (by rw [z, Nat.zero_mul])), if_pos (r1.mp (by rw [z, Nat.zero_mul])), if_pos z, if_pos z]
            exact ⟨rfl, rfl⟩
          · have z' : (X - Y) * 2 ^ 102 ≠ 0 := Nat.mul_ne_zero z (by omega)
            obtain ⟨r4, r5⟩ := r3 z'
            rw [(down n (X - Y)).1] at r4
            rw [(down n (X - Y)).2] at r5
            rw [if_neg (fun e => z' (r1.mpr e)), if_neg (fun e => z' (r1.mpr e)), if_neg z, if_neg z, r2, r4, r5]
            exact ⟨rfl, rfl⟩
      have ord : ∀ (F G : Int) (A B X Y : Nat), 2305843009213693952 ≤ B → A < 4611686018427387904 → -400 ≤ F → A * 2 ^ (F - (-400)).toNat = X * 2 ^ 102 → B * 2 ^ (G - (-400)).toNat = Y * 2 ^ 102 → (F < G ∨ F = G ∧ A < B) → X < Y := by
        intro F G A B X Y hB hA hF hX hY c
        refine Nat.lt_of_mul_lt_mul_right (a := 2 ^ 102) ?_
        rw [← hX, ← hY]
        rcases c with c | ⟨rfl, c⟩
        · have hs : 2 ^ (G - (-400)).toNat = 2 ^ (G - F).toNat * 2 ^ (F - (-400)).toNat := sG (-400) F G hF (by omega)
          have h2 : 2 ^ 1 ≤ 2 ^ (G - F).toNat := Nat.pow_le_pow_right (by decide) (by omega)
          rw [hs, ← Nat.mul_assoc]
          refine Nat.mul_lt_mul_of_pos_right ?_ (Nat.two_pow_pos _)
          have := Nat.mul_le_mul hB h2
          omega
        · exact Nat.mul_lt_mul_of_pos_right c (Nat.two_pow_pos _)
      by_cases c : F < G ∨ F = G ∧ A < B
      · rw [if_pos c]
        have hlt := ord F G A B X Y b3 a4 E1 up1 up2 c
        have hw : jD n1 X n2 Y = (if n2 = n1 then (n2, Y + X) else (n2, Y - X)) := by
          unfold jD
          by_cases n : n1 = n2
          · rw [if_pos n, if_pos n.symm, n, Nat.add_comm]
          · rw [if_neg n, if_pos hlt, if_neg (show ¬ n2 = n1 from fun e => n e.symm)]
        exact main n2 n1 G F B A Y X (by omega) (by omega) E1 b3 a4 m1 up2 up1 Y0 _ hw n1 n2
      · rw [if_neg c]
        have hle : ¬ X < Y := by
          intro hlt
          by_cases c' : G < F ∨ G = F ∧ B < A
          · have := ord G F B A Y X a3 b4 E2 up2 up1 c'; omega
          · obtain rfl : F = G := by omega
            obtain rfl : A = B := by omega
            have h5 := up1.symm.trans up2
            have := Nat.eq_of_mul_eq_mul_right p102 h5
            omega
        have hw : jD n1 X n2 Y = (if n1 = n2 then (n1, X + Y) else (n1, X - Y)) := by
          unfold jD
          by_cases n : n1 = n2
          · rw [if_pos n, if_pos n]
          · rw [if_neg n, if_neg n, if_neg hle]
        exact main n1 n2 F G A B X Y (by omega) (by omega) E2 a3 b4 m2 up1 up2 X0 _ hw n1 n2
end Go.Proofs.YtjlgmfgjleajfaaGreat.Round
