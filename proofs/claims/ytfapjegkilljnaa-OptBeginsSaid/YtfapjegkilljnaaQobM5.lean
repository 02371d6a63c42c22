import Derived.Test.YtfapjegkilljnaaQobZ
import Derived.Test.YtfapjegkilljnaaQobM4
import Derived.Test.YtfapjegkilljnaaQobM3
-- Printed by a program of this session's out of Lean's print of the translation; Lean checks it.
set_option linter.unusedVariables false
set_option linter.unusedSimpArgs false
set_option maxRecDepth 100000
set_option maxHeartbeats 8000000
namespace Go.Proofs.Ytfapjegkilljnaa.P
open Go.RowKit Go.Proofs.YtfapjegkilljnaaW.PrintWords Go.Proofs.YtfapjegkilljnaaW.PrintLast Go.Proofs.YtfapjegkilljnaaW.PrintMore
attribute [local go_sem] max2_int min2_int max_two min_two max_three min_three max_four min_four

-- NEED 0
/-! ### aH: function 98 -/
def aH.j0 : Nat → Int → Int → Bool → Option (Int × Bool)
 |0, _, _, _ => none
 |k + 1, x0, x1, x8 => if x8 = true then (some (0, (x0 != 0))) else (if x1 ≥ 0 then (if 0 ≤ (IntKind.u64.wrap (x1)) then (some (shr .u64 x0 (IntKind.u64.wrap (x1)), ((shl .u64 (shr .u64 x0 (IntKind.u64.wrap (x1))) (IntKind.u64.wrap (x1))) != x0))) else (none)) else (if 0 ≤ (IntKind.u64.wrap (wrap64 (-x1))) then (some (shl .u64 x0 (IntKind.u64.wrap (wrap64 (-x1))), ((shr .u64 (shl .u64 x0 (IntKind.u64.wrap (wrap64 (-x1)))) (IntKind.u64.wrap (wrap64 (-x1)))) != x0))) else (none)))
def aH.f (k : Nat) (a0 a1 : Int) : Option (Int × Bool) := if a1 ≥ 64 then (aH.j0 k a0 a1 true) else (aH.j0 k a0 a1 (decide (a1 ≤ (-64))))
theorem aH.fU : ∀ k, (∀ y0 y1 y2, LeO (aH.j0 k y0 y1 y2) (aH.j0 (k + 1) y0 y1 y2))
 |0 => fun _ _ _ r h => by simp [aH.j0] at h
 |k + 1 => by
  have ih0 := aH.fU k
  ·intro y0 y1 y2
   unfold aH.j0
   repeat' first
   |(with_reducible first|exact ih0 _ _ _|exact LeO.refl _|exact LeO.none _|refine LeO.ite ?_ ?_|refine LeO.bind ?_ (fun _ => ?_))
   |exact ih0 _ _ _
   |exact LeO.none _
   |refine LeO.ite ?_ ?_
   |refine LeO.bind ?_ (fun _ => ?_)
theorem aH.mono : ∀ a0 a1 k, LeO (aH.f k a0 a1) (aH.f (k + 1) a0 a1) := by
 intro a0 a1 k
 have ih0 := aH.fU k
 unfold aH.f
 repeat' first
   |(with_reducible first|exact ih0 _ _ _|exact LeO.refl _|exact LeO.none _|refine LeO.ite ?_ ?_|refine LeO.bind ?_ (fun _ => ?_))
   |exact ih0 _ _ _
   |exact LeO.none _
   |refine LeO.ite ?_ ?_
   |refine LeO.bind ?_ (fun _ => ?_)
theorem aH.calls (k : Nat) (a0 a1 r1 : Int) (r2 : Bool) (w : World) (h : aH.f k a0 a1 = some (r1, r2)) :
  Calls Try.prog 98 #[.int .u64 a0, .int .i64 a1] w fun e w' => e = .returned (.tuple #[.int .u64 r1, .bool r2]) ∧ Drawn0 w w' := by
 have H : (if a1 ≥ 64 then (aH.j0 k a0 a1 true) else (aH.j0 k a0 a1 (decide (a1 ≤ (-64))))) = some (r1, r2) := h
 clear h
 have HC3 := Aside0.mk H
 clear H
 go_enter Try.func98, Try.ntmps98
 go_upto_region 1 with (fail)
 go_cut [8] (fun v8 wc => ∃ (kq : Nat) (x8_2 : Bool), v8 = .bool x8_2 ∧ Aside0 (aH.j0 kq a0 a1 x8_2 = some (r1, r2)) ∧ Aside0 (kq ≤ k) ∧ Drawn0 w wc)
 case first =>
  have H := HC3.out
  clear HC3
  by_cases c4 : a1 ≥ 64
  ·rw [if_pos c4] at H
   have c4b0 : decide (64 ≤ a1) = true := decide_eq_true c4
   clear c4
   (first | rw [c4b0] | (simp only [i64_w, i32_w]; rw [c4b0]) | skip)
   have H' := Aside0.mk H
   clear H
   go_wp2
   go_meet
   case rel => exact ⟨_, (true), (gr_), H', ⟨by first | omega | exact Nat.le_refl _⟩, gd_⟩
  ·rw [if_neg c4] at H
   have c4b0 : decide (64 ≤ a1) = false := decide_eq_false c4
   clear c4
   (first | rw [c4b0] | (simp only [i64_w, i32_w]; rw [c4b0]) | skip)
   have H' := Aside0.mk H
   clear H
   go_wp2
   go_meet
   case rel => exact ⟨_, (decide (a1 ≤ (-64))), (gr_), H', ⟨by first | omega | exact Nat.le_refl _⟩, gd_⟩
 case rest =>
  clear HC3
  try clear p2 c4 c4b0
  obtain ⟨kq, x8_2, rfl, HA, HJ2, ⟨mc2, rfl⟩⟩ := hcut
  cases kq with
  |zero => exact absurd HA.out (by simp [aH.j0])
  |succ kj2 =>
   have H := HA.out
   clear HA
   simp only [aH.j0] at H
   by_cases c5 : x8_2 = true
   ·subst c5
    have H1 : (some (0, (a0 != 0))) = some (r1, r2) := by rw [if_pos rfl] at H; exact H
    clear H
    have H := H1
    clear H1
    simp only [Option.some.injEq, Prod.mk.injEq] at H
    obtain ⟨rfl, rfl⟩ := H
    go_wp2
    go_ret2
    exact ⟨gr_, gd_⟩
   ·replace c5 := Bool.eq_false_iff.mpr c5
    subst c5
    have H1 : (if a1 ≥ 0 then (if 0 ≤ (IntKind.u64.wrap (a1)) then (some (shr .u64 a0 (IntKind.u64.wrap (a1)), ((shl .u64 (shr .u64 a0 (IntKind.u64.wrap (a1))) (IntKind.u64.wrap (a1))) != a0))) else (none)) else (if 0 ≤ (IntKind.u64.wrap (wrap64 (-a1))) then (some (shl .u64 a0 (IntKind.u64.wrap (wrap64 (-a1))), ((shr .u64 (shl .u64 a0 (IntKind.u64.wrap (wrap64 (-a1)))) (IntKind.u64.wrap (wrap64 (-a1)))) != a0))) else (none))) = some (r1, r2) := by rw [if_neg (show ¬ (false = true) by decide)] at H; exact H
    clear H
    have H := H1
    clear H1
    by_cases c6 : a1 ≥ 0
    ·rw [if_pos c6] at H
     have c6b0 : decide (0 ≤ a1) = true := decide_eq_true c6
     clear c6
     obtain ⟨ji7, hji7⟩ : ∃ j_ : Int, (IntKind.u64.wrap (a1)) = j_ := ⟨_, rfl⟩
     replace H : (if 0 ≤ (ji7) then (some (shr .u64 a0 (ji7), ((shl .u64 (shr .u64 a0 (ji7)) (ji7)) != a0))) else (none)) = some (r1, r2) := by first | (rw [hji7] at H; exact H) | (simp only [hji7] at H ⊢; exact H)
     by_cases c8 : 0 ≤ (ji7)
     ·rw [if_pos c8] at H
      have c8b0 := eq_true c8
      have c8b1 : decide (0 ≤ (ji7)) = true := decide_eq_true c8
      clear c8
      obtain ⟨ji9, hji9⟩ : ∃ j_ : Int, (shr .u64 a0 (ji7)) = j_ := ⟨_, rfl⟩
      replace H : (some (ji9, ((shl .u64 (ji9) (ji7)) != a0))) = some (r1, r2) := by first | (rw [hji9] at H; exact H) | (simp only [hji9] at H ⊢; exact H)
      have hji9_ : (a0 / 2 ^ min (ji7).toNat 64) = ji9 := hji9
      have hji9z : (ji7) ≤ 64 → (a0 / 2 ^ (ji7).toNat) = ji9 := shr_small hji9
      have c10b0 := eq_true (of_decide_eq_true (by first | (with_reducible assumption) | assumption) : 0 ≤ (ji7))
      obtain ⟨ji11, hji11⟩ : ∃ j_ : Int, (shl .u64 (ji9) (ji7)) = j_ := ⟨_, rfl⟩
      replace H : (some (ji9, ((ji11) != a0))) = some (r1, r2) := by first | (rw [hji11] at H; exact H) | (simp only [hji11] at H ⊢; exact H)
      have hji11_ : (IntKind.u64.wrap ((ji9) * 2 ^ min (ji7).toNat 64)) = ji11 := hji11
      have hji11z : (ji7) ≤ 64 → (IntKind.u64.wrap ((ji9) * 2 ^ (ji7).toNat)) = ji11 := shl_small hji11
      simp only [Option.some.injEq, Prod.mk.injEq] at H
      obtain ⟨rfl, rfl⟩ := H
      go_wp2
      go_ret2
      exact ⟨by first | rfl | (simp; done) | (simp only [← hji7, ← hji9, ← hji11] <;> (first | rfl | (simp; done))) | (simp [*]; done) | (congr 1; (try unfold wrap64); omega) | (congr 1; rw [IntKind.wrap_u64]; omega), gd_⟩
     ·rw [if_neg c8] at H
      exact absurd H (by simp)
    ·rw [if_neg c6] at H
     have c6b0 : decide (0 ≤ a1) = false := decide_eq_false c6
     clear c6
     obtain ⟨ji12, hji12⟩ : ∃ j_ : Int, (IntKind.u64.wrap (wrap64 (-a1))) = j_ := ⟨_, rfl⟩
     replace H : (if 0 ≤ (ji12) then (some (shl .u64 a0 (ji12), ((shr .u64 (shl .u64 a0 (ji12)) (ji12)) != a0))) else (none)) = some (r1, r2) := by first | (rw [hji12] at H; exact H) | (simp only [hji12] at H ⊢; exact H)
     by_cases c13 : 0 ≤ (ji12)
     ·rw [if_pos c13] at H
      have c13b0 := eq_true c13
      have c13b1 : decide (0 ≤ (ji12)) = true := decide_eq_true c13
      clear c13
      obtain ⟨ji14, hji14⟩ : ∃ j_ : Int, (shl .u64 a0 (ji12)) = j_ := ⟨_, rfl⟩
      replace H : (some (ji14, ((shr .u64 (ji14) (ji12)) != a0))) = some (r1, r2) := by first | (rw [hji14] at H; exact H) | (simp only [hji14] at H ⊢; exact H)
      have hji14_ : (IntKind.u64.wrap (a0 * 2 ^ min (ji12).toNat 64)) = ji14 := hji14
      have hji14z : (ji12) ≤ 64 → (IntKind.u64.wrap (a0 * 2 ^ (ji12).toNat)) = ji14 := shl_small hji14
      have c15b0 := eq_true (of_decide_eq_true (by first | (with_reducible assumption) | assumption) : 0 ≤ (ji12))
      obtain ⟨ji16, hji16⟩ : ∃ j_ : Int, (shr .u64 (ji14) (ji12)) = j_ := ⟨_, rfl⟩
      replace H : (some (ji14, ((ji16) != a0))) = some (r1, r2) := by first | (rw [hji16] at H; exact H) | (simp only [hji16] at H ⊢; exact H)
      have hji16_ : ((ji14) / 2 ^ min (ji12).toNat 64) = ji16 := hji16
      have hji16z : (ji12) ≤ 64 → ((ji14) / 2 ^ (ji12).toNat) = ji16 := shr_small hji16
      simp only [Option.some.injEq, Prod.mk.injEq] at H
      obtain ⟨rfl, rfl⟩ := H
      go_wp2
      go_ret2
      exact ⟨by first | rfl | (simp; done) | (simp only [← hji12, ← hji14, ← hji16] <;> (first | rfl | (simp; done))) | (simp [*]; done) | (congr 1; (try unfold wrap64); omega) | (congr 1; rw [IntKind.wrap_u64]; omega), gd_⟩
     ·rw [if_neg c13] at H
      exact absurd H (by simp)

-- NEED 0
/-! ### bC: function 80 -/
def bC.f (k : Nat) (a0 a1 : Int) (a2 : Bool) : Option (Int × Int) := if a1 ≤ 0 then ((aH.f k a0 a1).bind fun bt223 => (if a2 = true then (some (bt223.1, 1)) else (some (bt223.1, 0)))) else ((aH.f k a0 a1).bind fun bt225 => (if bt225.2 = true then ((aH.f k a0 (wrap64 (a1 - 1))).bind fun bt227 => (if (Go.bits .and .u64 bt227.1 1) = 0 then (some (bt225.1, 1)) else (if bt227.2 = true then (some (bt225.1, 3)) else (if a2 = true then (some (bt225.1, 3)) else (some (bt225.1, 2)))))) else (if a2 = true then (some (bt225.1, 1)) else (some (bt225.1, 0)))))
theorem bC.mono : ∀ a0 a1 a2 k, LeO (bC.f k a0 a1 a2) (bC.f (k + 1) a0 a1 a2) := by
 intro a0 a1 a2 k
 unfold bC.f
 repeat' first
   |(with_reducible first|exact aH.mono _ _ _|exact LeO.refl _|exact LeO.none _|refine LeO.ite ?_ ?_|refine LeO.bind ?_ (fun _ => ?_))
   |exact aH.mono _ _ _
   |exact LeO.none _
   |refine LeO.ite ?_ ?_
   |refine LeO.bind ?_ (fun _ => ?_)
theorem bC.calls (k : Nat) (a0 a1 : Int) (a2 : Bool) (r1 r2 : Int) (w : World) (h : bC.f k a0 a1 a2 = some (r1, r2)) :
  Calls Try.prog 80 #[.int .u64 a0, .int .i64 a1, .bool a2] w fun e w' => e = .returned (.tuple #[.int .u64 r1, .int .i64 r2]) ∧ Drawn0 w w' := by
 have H : (if a1 ≤ 0 then ((aH.f k a0 a1).bind fun bt223 => (if a2 = true then (some (bt223.1, 1)) else (some (bt223.1, 0)))) else ((aH.f k a0 a1).bind fun bt225 => (if bt225.2 = true then ((aH.f k a0 (wrap64 (a1 - 1))).bind fun bt227 => (if (Go.bits .and .u64 bt227.1 1) = 0 then (some (bt225.1, 1)) else (if bt227.2 = true then (some (bt225.1, 3)) else (if a2 = true then (some (bt225.1, 3)) else (some (bt225.1, 2)))))) else (if a2 = true then (some (bt225.1, 1)) else (some (bt225.1, 0)))))) = some (r1, r2) := h
 clear h
 by_cases c4 : a1 ≤ 0
 ·rw [if_pos c4] at H
  have c4b0 : decide (a1 ≤ 0) = true := decide_eq_true c4
  clear c4
  replace H := bq_ H
  obtain ⟨⟨t223, t224⟩, A50, H⟩ := H
  replace H : (if a2 = true then (some (t223, 1)) else (some (t223, 0))) = some (r1, r2) := H
  have A5 := Aside0.mk A50
  clear A50
  by_cases c6 : a2 = true
  ·subst c6
   have H1 : (some (t223, 1)) = some (r1, r2) := by rw [if_pos rfl] at H; exact H
   clear H
   have H := H1
   clear H1
   simp only [Option.some.injEq, Prod.mk.injEq] at H
   obtain ⟨rfl, rfl⟩ := H
   go_enter Try.func80, Try.ntmps80
   go_wp2_with (first | ((with_reducible refine gate_callee (f := 98) rfl ?_); refine goesL_ (some 19) rfl rfl Try.func98 (by kernel_rfl) rfl #[.int .u64 a0, .int .i64 a1] rfl gl ?_; (with_reducible refine (aH.calls k a0 a1 t223 t224 _ A5.out).mono ?_); rintro e w' ⟨rfl, ⟨nd, rfl⟩⟩; refine ⟨_, rfl, ?_⟩))
   go_ret2
   exact ⟨gr_, gd_⟩
  ·replace c6 := Bool.eq_false_iff.mpr c6
   subst c6
   have H1 : (some (t223, 0)) = some (r1, r2) := by rw [if_neg (show ¬ (false = true) by decide)] at H; exact H
   clear H
   have H := H1
   clear H1
   simp only [Option.some.injEq, Prod.mk.injEq] at H
   obtain ⟨rfl, rfl⟩ := H
   go_enter Try.func80, Try.ntmps80
   go_wp2_with (first | ((with_reducible refine gate_callee (f := 98) rfl ?_); refine goesL_ (some 19) rfl rfl Try.func98 (by kernel_rfl) rfl #[.int .u64 a0, .int .i64 a1] rfl gl ?_; (with_reducible refine (aH.calls k a0 a1 t223 t224 _ A5.out).mono ?_); rintro e w' ⟨rfl, ⟨nd, rfl⟩⟩; refine ⟨_, rfl, ?_⟩))
   go_ret2
   exact ⟨gr_, gd_⟩
 ·rw [if_neg c4] at H
  have c4b0 : decide (a1 ≤ 0) = false := decide_eq_false c4
  clear c4
  replace H := bq_ H
  obtain ⟨⟨t225, t226⟩, A70, H⟩ := H
  replace H : (if t226 = true then ((aH.f k a0 (wrap64 (a1 - 1))).bind fun bt227 => (if (Go.bits .and .u64 bt227.1 1) = 0 then (some (t225, 1)) else (if bt227.2 = true then (some (t225, 3)) else (if a2 = true then (some (t225, 3)) else (some (t225, 2)))))) else (if a2 = true then (some (t225, 1)) else (some (t225, 0)))) = some (r1, r2) := H
  have A7 := Aside0.mk A70
  clear A70
  by_cases c8 : t226 = true
  ·subst c8
   have H1 : ((aH.f k a0 (wrap64 (a1 - 1))).bind fun bt227 => (if (Go.bits .and .u64 bt227.1 1) = 0 then (some (t225, 1)) else (if bt227.2 = true then (some (t225, 3)) else (if a2 = true then (some (t225, 3)) else (some (t225, 2)))))) = some (r1, r2) := by rw [if_pos rfl] at H; exact H
   clear H
   have H := H1
   clear H1
   replace H := bq_ H
   obtain ⟨⟨t227, t228⟩, A90, H⟩ := H
   replace H : (if (Go.bits .and .u64 t227 1) = 0 then (some (t225, 1)) else (if t228 = true then (some (t225, 3)) else (if a2 = true then (some (t225, 3)) else (some (t225, 2))))) = some (r1, r2) := H
   have A9 := Aside0.mk A90
   clear A90
   by_cases c10 : (Go.bits .and .u64 t227 1) = 0
   ·rw [if_pos c10] at H
    have c10b0 : ((Go.bits .and .u64 t227 1) == 0) = true := beq_iff_eq.mpr c10
    have c10b1 : ((Go.bits .and .u64 t227 1) != 0) = false := bne_eq_false_iff_eq.mpr c10
    clear c10
    simp only [Option.some.injEq, Prod.mk.injEq] at H
    obtain ⟨rfl, rfl⟩ := H
    go_enter Try.func80, Try.ntmps80
    go_wp2_with (first | ((with_reducible refine gate_callee (f := 98) rfl ?_); refine goesL_ (some 28) rfl rfl Try.func98 (by kernel_rfl) rfl #[.int .u64 a0, .int .i64 a1] rfl gl ?_; (with_reducible refine (aH.calls k a0 a1 t225 true _ A7.out).mono ?_); rintro e w' ⟨rfl, ⟨nd, rfl⟩⟩; refine ⟨_, rfl, ?_⟩) | ((with_reducible refine gate_callee (f := 98) rfl ?_); refine goesL_ (some 40) rfl rfl Try.func98 (by kernel_rfl) rfl #[.int .u64 a0, .int .i64 (wrap64 (a1 - 1))] rfl gl ?_; (with_reducible refine (aH.calls k a0 (wrap64 (a1 - 1)) t227 t228 _ A9.out).mono ?_); rintro e w' ⟨rfl, ⟨nd, rfl⟩⟩; refine ⟨_, rfl, ?_⟩))
    go_ret2
    exact ⟨gr_, gd_⟩
   ·rw [if_neg c10] at H
    have c10b0 : ((Go.bits .and .u64 t227 1) == 0) = false := beq_eq_false_iff_ne.mpr c10
    have c10b1 : ((Go.bits .and .u64 t227 1) != 0) = true := bne_iff_ne.mpr c10
    by_cases c11 : t228 = true
    ·subst c11
     have H1 : (some (t225, 3)) = some (r1, r2) := by rw [if_pos rfl] at H; exact H
     clear H
     have H := H1
     clear H1
     simp only [Option.some.injEq, Prod.mk.injEq] at H
     obtain ⟨rfl, rfl⟩ := H
     go_enter Try.func80, Try.ntmps80
     go_wp2_with (first | ((with_reducible refine gate_callee (f := 98) rfl ?_); refine goesL_ (some 28) rfl rfl Try.func98 (by kernel_rfl) rfl #[.int .u64 a0, .int .i64 a1] rfl gl ?_; (with_reducible refine (aH.calls k a0 a1 t225 true _ A7.out).mono ?_); rintro e w' ⟨rfl, ⟨nd, rfl⟩⟩; refine ⟨_, rfl, ?_⟩) | ((with_reducible refine gate_callee (f := 98) rfl ?_); refine goesL_ (some 40) rfl rfl Try.func98 (by kernel_rfl) rfl #[.int .u64 a0, .int .i64 (wrap64 (a1 - 1))] rfl gl ?_; (with_reducible refine (aH.calls k a0 (wrap64 (a1 - 1)) t227 true _ A9.out).mono ?_); rintro e w' ⟨rfl, ⟨nd, rfl⟩⟩; refine ⟨_, rfl, ?_⟩))
     go_ret2
     exact ⟨gr_, gd_⟩
    ·replace c11 := Bool.eq_false_iff.mpr c11
     subst c11
     have H1 : (if a2 = true then (some (t225, 3)) else (some (t225, 2))) = some (r1, r2) := by rw [if_neg (show ¬ (false = true) by decide)] at H; exact H
     clear H
     have H := H1
     clear H1
     by_cases c12 : a2 = true
     ·subst c12
      have H1 : (some (t225, 3)) = some (r1, r2) := by rw [if_pos rfl] at H; exact H
      clear H
      have H := H1
      clear H1
      simp only [Option.some.injEq, Prod.mk.injEq] at H
      obtain ⟨rfl, rfl⟩ := H
      go_enter Try.func80, Try.ntmps80
      go_wp2_with (first | ((with_reducible refine gate_callee (f := 98) rfl ?_); refine goesL_ (some 28) rfl rfl Try.func98 (by kernel_rfl) rfl #[.int .u64 a0, .int .i64 a1] rfl gl ?_; (with_reducible refine (aH.calls k a0 a1 t225 true _ A7.out).mono ?_); rintro e w' ⟨rfl, ⟨nd, rfl⟩⟩; refine ⟨_, rfl, ?_⟩) | ((with_reducible refine gate_callee (f := 98) rfl ?_); refine goesL_ (some 40) rfl rfl Try.func98 (by kernel_rfl) rfl #[.int .u64 a0, .int .i64 (wrap64 (a1 - 1))] rfl gl ?_; (with_reducible refine (aH.calls k a0 (wrap64 (a1 - 1)) t227 false _ A9.out).mono ?_); rintro e w' ⟨rfl, ⟨nd, rfl⟩⟩; refine ⟨_, rfl, ?_⟩))
      go_ret2
      exact ⟨gr_, gd_⟩
     ·replace c12 := Bool.eq_false_iff.mpr c12
      subst c12
      have H1 : (some (t225, 2)) = some (r1, r2) := by rw [if_neg (show ¬ (false = true) by decide)] at H; exact H
      clear H
      have H := H1
      clear H1
      simp only [Option.some.injEq, Prod.mk.injEq] at H
      obtain ⟨rfl, rfl⟩ := H
      go_enter Try.func80, Try.ntmps80
      go_wp2_with (first | ((with_reducible refine gate_callee (f := 98) rfl ?_); refine goesL_ (some 28) rfl rfl Try.func98 (by kernel_rfl) rfl #[.int .u64 a0, .int .i64 a1] rfl gl ?_; (with_reducible refine (aH.calls k a0 a1 t225 true _ A7.out).mono ?_); rintro e w' ⟨rfl, ⟨nd, rfl⟩⟩; refine ⟨_, rfl, ?_⟩) | ((with_reducible refine gate_callee (f := 98) rfl ?_); refine goesL_ (some 40) rfl rfl Try.func98 (by kernel_rfl) rfl #[.int .u64 a0, .int .i64 (wrap64 (a1 - 1))] rfl gl ?_; (with_reducible refine (aH.calls k a0 (wrap64 (a1 - 1)) t227 false _ A9.out).mono ?_); rintro e w' ⟨rfl, ⟨nd, rfl⟩⟩; refine ⟨_, rfl, ?_⟩))
      go_ret2
      exact ⟨gr_, gd_⟩
  ·replace c8 := Bool.eq_false_iff.mpr c8
   subst c8
   have H1 : (if a2 = true then (some (t225, 1)) else (some (t225, 0))) = some (r1, r2) := by rw [if_neg (show ¬ (false = true) by decide)] at H; exact H
   clear H
   have H := H1
   clear H1
   by_cases c13 : a2 = true
   ·subst c13
    have H1 : (some (t225, 1)) = some (r1, r2) := by rw [if_pos rfl] at H; exact H
    clear H
    have H := H1
    clear H1
    simp only [Option.some.injEq, Prod.mk.injEq] at H
    obtain ⟨rfl, rfl⟩ := H
    go_enter Try.func80, Try.ntmps80
    go_wp2_with (first | ((with_reducible refine gate_callee (f := 98) rfl ?_); refine goesL_ (some 28) rfl rfl Try.func98 (by kernel_rfl) rfl #[.int .u64 a0, .int .i64 a1] rfl gl ?_; (with_reducible refine (aH.calls k a0 a1 t225 false _ A7.out).mono ?_); rintro e w' ⟨rfl, ⟨nd, rfl⟩⟩; refine ⟨_, rfl, ?_⟩))
    go_ret2
    exact ⟨gr_, gd_⟩
   ·replace c13 := Bool.eq_false_iff.mpr c13
    subst c13
    have H1 : (some (t225, 0)) = some (r1, r2) := by rw [if_neg (show ¬ (false = true) by decide)] at H; exact H
    clear H
    have H := H1
    clear H1
    simp only [Option.some.injEq, Prod.mk.injEq] at H
    obtain ⟨rfl, rfl⟩ := H
    go_enter Try.func80, Try.ntmps80
    go_wp2_with (first | ((with_reducible refine gate_callee (f := 98) rfl ?_); refine goesL_ (some 28) rfl rfl Try.func98 (by kernel_rfl) rfl #[.int .u64 a0, .int .i64 a1] rfl gl ?_; (with_reducible refine (aH.calls k a0 a1 t225 false _ A7.out).mono ?_); rintro e w' ⟨rfl, ⟨nd, rfl⟩⟩; refine ⟨_, rfl, ?_⟩))
    go_ret2
    exact ⟨gr_, gd_⟩


-- NEED 0
/-! ### eX: function 81 -/
def eX.f (a0 : Int) (a1 : Bool) (a2 a3 : Int) : Option (Bool) := if a0 = 1 then (some false) else (if a0 = 2 then (if a1 = true then (some false) else (some (a3 != 0))) else (if a0 = 3 then (if a1 = true then (some (a3 != 0)) else (some false)) else (if a0 = 4 then (some (decide (a3 ≥ 2))) else (if a3 = 3 then (some true) else (if a3 = 2 then (some ((Go.bits .and .u64 a2 1) == 1)) else (some false))))))
theorem eX.calls (a0 : Int) (a1 : Bool) (a2 a3 : Int) (r : Bool) (w : World) (h : eX.f a0 a1 a2 a3 = some r) :
  Calls Try.prog 81 #[.int .i64 a0, .bool a1, .int .u64 a2, .int .i64 a3] w fun e w' => e = .returned (.bool r) ∧ Drawn0 w w' := by
 have H : (if a0 = 1 then (some false) else (if a0 = 2 then (if a1 = true then (some false) else (some (a3 != 0))) else (if a0 = 3 then (if a1 = true then (some (a3 != 0)) else (some false)) else (if a0 = 4 then (some (decide (a3 ≥ 2))) else (if a3 = 3 then (some true) else (if a3 = 2 then (some ((Go.bits .and .u64 a2 1) == 1)) else (some false))))))) = some r := h
 clear h
 by_cases c5 : a0 = 1
 ·rw [if_pos c5] at H
  have c5b0 : (a0 == 1) = true := beq_iff_eq.mpr c5
  have c5b1 : (a0 != 1) = false := bne_eq_false_iff_eq.mpr c5
  clear c5
  obtain rfl := Option.some.inj H
  go_enter Try.func81, Try.ntmps81
  go_wp2
  go_ret
  exact ⟨gr_, gd_⟩
 ·rw [if_neg c5] at H
  have c5b0 : (a0 == 1) = false := beq_eq_false_iff_ne.mpr c5
  have c5b1 : (a0 != 1) = true := bne_iff_ne.mpr c5
  by_cases c6 : a0 = 2
  ·rw [if_pos c6] at H
   have c6b0 : (a0 == 2) = true := beq_iff_eq.mpr c6
   have c6b1 : (a0 != 2) = false := bne_eq_false_iff_eq.mpr c6
   clear c6
   by_cases c7 : a1 = true
   ·subst c7
    have H1 : (some false) = some r := by rw [if_pos rfl] at H; exact H
    clear H
    have H := H1
    clear H1
    obtain rfl := Option.some.inj H
    go_enter Try.func81, Try.ntmps81
    go_wp2
    go_ret
    exact ⟨gr_, gd_⟩
   ·replace c7 := Bool.eq_false_iff.mpr c7
    subst c7
    have H1 : (some (a3 != 0)) = some r := by rw [if_neg (show ¬ (false = true) by decide)] at H; exact H
    clear H
    have H := H1
    clear H1
    obtain rfl := Option.some.inj H
    go_enter Try.func81, Try.ntmps81
    go_wp2
    go_ret
    exact ⟨gr_, gd_⟩
  ·rw [if_neg c6] at H
   have c6b0 : (a0 == 2) = false := beq_eq_false_iff_ne.mpr c6
   have c6b1 : (a0 != 2) = true := bne_iff_ne.mpr c6
   by_cases c8 : a0 = 3
   ·rw [if_pos c8] at H
    have c8b0 : (a0 == 3) = true := beq_iff_eq.mpr c8
    have c8b1 : (a0 != 3) = false := bne_eq_false_iff_eq.mpr c8
    clear c8
    by_cases c9 : a1 = true
    ·subst c9
     have H1 : (some (a3 != 0)) = some r := by rw [if_pos rfl] at H; exact H
     clear H
     have H := H1
     clear H1
     obtain rfl := Option.some.inj H
     go_enter Try.func81, Try.ntmps81
     go_wp2
     go_ret
     exact ⟨gr_, gd_⟩
    ·replace c9 := Bool.eq_false_iff.mpr c9
     subst c9
     have H1 : (some false) = some r := by rw [if_neg (show ¬ (false = true) by decide)] at H; exact H
     clear H
     have H := H1
     clear H1
     obtain rfl := Option.some.inj H
     go_enter Try.func81, Try.ntmps81
     go_wp2
     go_ret
     exact ⟨gr_, gd_⟩
   ·rw [if_neg c8] at H
    have c8b0 : (a0 == 3) = false := beq_eq_false_iff_ne.mpr c8
    have c8b1 : (a0 != 3) = true := bne_iff_ne.mpr c8
    by_cases c10 : a0 = 4
    ·rw [if_pos c10] at H
     have c10b0 : (a0 == 4) = true := beq_iff_eq.mpr c10
     have c10b1 : (a0 != 4) = false := bne_eq_false_iff_eq.mpr c10
     clear c10
     obtain rfl := Option.some.inj H
     go_enter Try.func81, Try.ntmps81
     go_wp2
     go_ret
     exact ⟨gr_, gd_⟩
    ·rw [if_neg c10] at H
     have c10b0 : (a0 == 4) = false := beq_eq_false_iff_ne.mpr c10
     have c10b1 : (a0 != 4) = true := bne_iff_ne.mpr c10
     by_cases c11 : a3 = 3
     ·rw [if_pos c11] at H
      have c11b0 : (a3 == 3) = true := beq_iff_eq.mpr c11
      have c11b1 : (a3 != 3) = false := bne_eq_false_iff_eq.mpr c11
      clear c11
      obtain rfl := Option.some.inj H
      go_enter Try.func81, Try.ntmps81
      go_wp2
      go_ret
      exact ⟨gr_, gd_⟩
     ·rw [if_neg c11] at H
      have c11b0 : (a3 == 3) = false := beq_eq_false_iff_ne.mpr c11
      have c11b1 : (a3 != 3) = true := bne_iff_ne.mpr c11
      by_cases c12 : a3 = 2
      ·rw [if_pos c12] at H
       have c12b0 : (a3 == 2) = true := beq_iff_eq.mpr c12
       have c12b1 : (a3 != 2) = false := bne_eq_false_iff_eq.mpr c12
       clear c12
       obtain rfl := Option.some.inj H
       go_enter Try.func81, Try.ntmps81
       go_wp2
       go_ret
       exact ⟨gr_, gd_⟩
      ·rw [if_neg c12] at H
       have c12b0 : (a3 == 2) = false := beq_eq_false_iff_ne.mpr c12
       have c12b1 : (a3 != 2) = true := bne_iff_ne.mpr c12
       obtain rfl := Option.some.inj H
       go_enter Try.func81, Try.ntmps81
       go_wp2
       go_ret
       exact ⟨gr_, gd_⟩

-- NEED 0
/-! ### bS: function 99 -/
def bS.f (a0 : Int) (a1 : Bool) : Option (Int) := (aR.f a0).bind fun bt229 => ((bP.f a0).bind fun t231 => (if 0 ≤ (IntKind.u64.wrap (bt229.2)) then ((aZ.f a0 a1 (wrap64 (t231 - 1)) (((shl .u32 1 (IntKind.u64.wrap (bt229.2))) - 1) % 4294967296)).bind fun t232 => (some t232)) else (none)))
theorem bS.calls (a0 : Int) (a1 : Bool) (r : Int) (w : World) (h : bS.f a0 a1 = some r) :
  Calls Try.prog 99 #[.int .i64 a0, .bool a1] w fun e w' => e = .returned (.int .u32 r) ∧ Drawn0 w w' := by
 have H : ((aR.f a0).bind fun bt229 => ((bP.f a0).bind fun t231 => (if 0 ≤ (IntKind.u64.wrap (bt229.2)) then ((aZ.f a0 a1 (wrap64 (t231 - 1)) (((shl .u32 1 (IntKind.u64.wrap (bt229.2))) - 1) % 4294967296)).bind fun t232 => (some t232)) else (none)))) = some r := h
 clear h
 replace H := bq_ H
 obtain ⟨⟨t229, t230⟩, A30, H⟩ := H
 replace H : ((bP.f a0).bind fun t231 => (if 0 ≤ (IntKind.u64.wrap (t230)) then ((aZ.f a0 a1 (wrap64 (t231 - 1)) (((shl .u32 1 (IntKind.u64.wrap (t230))) - 1) % 4294967296)).bind fun t232 => (some t232)) else (none))) = some r := H
 have A3 := Aside0.mk A30
 clear A30
 replace H := bq_ H
 obtain ⟨t231, A40, H⟩ := H
 replace H : (if 0 ≤ (IntKind.u64.wrap (t230)) then ((aZ.f a0 a1 (wrap64 (t231 - 1)) (((shl .u32 1 (IntKind.u64.wrap (t230))) - 1) % 4294967296)).bind fun t232 => (some t232)) else (none)) = some r := H
 have A4 := Aside0.mk A40
 clear A40
 obtain ⟨ji5, hji5⟩ : ∃ j_ : Int, (IntKind.u64.wrap (t230)) = j_ := ⟨_, rfl⟩
 replace H : (if 0 ≤ (ji5) then ((aZ.f a0 a1 (wrap64 (t231 - 1)) (((shl .u32 1 (ji5)) - 1) % 4294967296)).bind fun t232 => (some t232)) else (none)) = some r := by first | (rw [hji5] at H; exact H) | (simp only [hji5] at H ⊢; exact H)
 (try rw [hji5] at A3)
 (try rw [hji5] at A4)
 by_cases c6 : 0 ≤ (ji5)
 ·rw [if_pos c6] at H
  have c6b0 := eq_true c6
  have c6b1 : decide (0 ≤ (ji5)) = true := decide_eq_true c6
  clear c6
  obtain ⟨ji7, hji7⟩ : ∃ j_ : Int, (shl .u32 1 (ji5)) = j_ := ⟨_, rfl⟩
  replace H : ((aZ.f a0 a1 (wrap64 (t231 - 1)) (((ji7) - 1) % 4294967296)).bind fun t232 => (some t232)) = some r := by first | (rw [hji7] at H; exact H) | (simp only [hji7] at H ⊢; exact H)
  (try rw [hji7] at A3)
  (try rw [hji7] at A4)
  have hji7_ : (IntKind.u32.wrap (1 * 2 ^ min (ji5).toNat 32)) = ji7 := hji7
  have hji7z : (ji5) ≤ 32 → (IntKind.u32.wrap (1 * 2 ^ (ji5).toNat)) = ji7 := shl_small hji7
  have hji7u : (IntKind.u32.wrap (2 ^ min (ji5).toNat 32)) = ji7 := by have h_ := hji7_; rw [Int.one_mul] at h_; exact h_
  have hji7v : (ji5) ≤ 32 → (IntKind.u32.wrap (2 ^ (ji5).toNat)) = ji7 := fun hle_ => by have h_ := hji7z hle_; rw [Int.one_mul] at h_; exact h_
  obtain ⟨ji8, hji8⟩ : ∃ j_ : Int, (((ji7) - 1) % 4294967296) = j_ := ⟨_, rfl⟩
  replace H : ((aZ.f a0 a1 (wrap64 (t231 - 1)) (ji8)).bind fun t232 => (some t232)) = some r := by first | (rw [hji8] at H; exact H) | (simp only [hji8] at H ⊢; exact H)
  (try rw [hji8] at A3)
  (try rw [hji8] at A4)
  have hji8l : 0 ≤ ji8 := by rw [← hji8]; exact Int.emod_nonneg _ (by decide)
  have hji8h : ji8 ≤ 4294967295 := by have := Int.emod_lt_of_pos (((ji7) - 1)) (show (0 : Int) < 4294967296 by decide); omega
  have hji8w : (IntKind.u32.wrap ((ji7) - 1)) = ji8 := (lL _).trans hji8
  (try (have hji8_ := hji8; simp only [Int.add_emod_emod, Int.emod_add_emod, Int.sub_emod_emod, Int.emod_sub_emod] at hji8_))
  replace H := bq_ H
  obtain ⟨t232, A90, H⟩ := H
  replace H : (some t232) = some r := H
  have A9 := Aside0.mk A90
  clear A90
  obtain rfl := Option.some.inj H
  go_enter Try.func99, Try.ntmps99
  go_wp2_with (first | ((with_reducible refine gate_callee (f := 78) rfl ?_); refine goesL_ (some 9) rfl rfl Try.func78 (by kernel_rfl) rfl #[.int .i64 a0] rfl gl ?_; (with_reducible refine (aR.calls a0 t229 t230 _ A3.out).mono ?_); rintro e w' ⟨rfl, ⟨nd, rfl⟩⟩; refine ⟨_, rfl, ?_⟩) | ((with_reducible refine gate_callee (f := 75) rfl ?_); refine goesL_ (some 15) rfl rfl Try.func75 (by kernel_rfl) rfl #[.int .i64 a0] rfl gl ?_; (with_reducible refine (bP.calls a0 t231 _ A4.out).mono ?_); rintro e w' ⟨rfl, ⟨nd, rfl⟩⟩; refine ⟨_, rfl, ?_⟩) | ((with_reducible refine gate_callee (f := 74) rfl ?_); refine goesL_ (some 21) rfl rfl Try.func74 (by kernel_rfl) rfl #[.int .i64 a0, .bool a1, .int .i64 (wrap64 (t231 - 1)), .int .u32 ji8] rfl (by (try simp only [List.map_toArray, List.map_cons, List.map_nil]); first | done | (simp only [hji8]; rfl) | rfl | (simp only [List.length_drop, List.length_take]; rfl)) ?_; (with_reducible refine (aZ.calls a0 a1 (wrap64 (t231 - 1)) ji8 t232 _ A9.out).mono ?_); rintro e w' ⟨rfl, ⟨nd, rfl⟩⟩; refine ⟨_, rfl, ?_⟩))
  go_ret
  exact ⟨by first | rfl | (simp; done) | (simp only [← hji5, ← hji7, ← hji8] <;> (first | rfl | (simp; done))) | (simp [*]; done) | (congr 1; (try unfold wrap64); omega) | (congr 1; rw [IntKind.wrap_u64]; omega), gd_⟩
 ·rw [if_neg c6] at H
  exact absurd H (by simp)

-- NEED 0
/-! ### aX: function 83 -/
def aX.f (a0 a1 : Int) (a2 : Bool) : Option (Int × Bool × Bool × Bool × Bool × Bool) := if a1 = 1 then ((bS.f a0 a2).bind fun t235 => (some (t235, false, false, true, false, true))) else (if a1 = 2 then (if a2 = true then ((bS.f a0 a2).bind fun t236 => (some (t236, false, false, true, false, true))) else ((bH.f a0 a2).bind fun t237 => (some (t237, false, false, true, false, true)))) else (if a1 = 3 then (if a2 = true then ((bH.f a0 a2).bind fun t238 => (some (t238, false, false, true, false, true))) else ((bS.f a0 a2).bind fun t239 => (some (t239, false, false, true, false, true)))) else ((bH.f a0 a2).bind fun t240 => (some (t240, false, false, true, false, true)))))

-- NEED 0
/-! ### dX: function 85 -/
def dX.f (a0 a1 : Int) : Option (Int) := if a1 < 1 then (some 0) else (if a1 ≥ 64 then (some a0) else (if 0 ≤ (IntKind.u64.wrap (a1)) then (some (Go.bits .and .u64 a0 (IntKind.u64.wrap ((shl .u64 1 (IntKind.u64.wrap (a1))) - 1)))) else (none)))
theorem dX.calls (a0 a1 r : Int) (w : World) (h : dX.f a0 a1 = some r) :
  Calls Try.prog 85 #[.int .u64 a0, .int .i64 a1] w fun e w' => e = .returned (.int .u64 r) ∧ Drawn0 w w' := by
 have H : (if a1 < 1 then (some 0) else (if a1 ≥ 64 then (some a0) else (if 0 ≤ (IntKind.u64.wrap (a1)) then (some (Go.bits .and .u64 a0 (IntKind.u64.wrap ((shl .u64 1 (IntKind.u64.wrap (a1))) - 1)))) else (none)))) = some r := h
 clear h
 by_cases c3 : a1 < 1
 ·rw [if_pos c3] at H
  have c3b0 : decide (a1 < 1) = true := decide_eq_true c3
  clear c3
  obtain rfl := Option.some.inj H
  go_enter Try.func85, Try.ntmps85
  go_wp2
  go_ret
  exact ⟨gr_, gd_⟩
 ·rw [if_neg c3] at H
  have c3b0 : decide (a1 < 1) = false := decide_eq_false c3
  clear c3
  by_cases c4 : a1 ≥ 64
  ·rw [if_pos c4] at H
   have c4b0 : decide (64 ≤ a1) = true := decide_eq_true c4
   clear c4
   obtain rfl := Option.some.inj H
   go_enter Try.func85, Try.ntmps85
   go_wp2
   go_ret
   exact ⟨gr_, gd_⟩
  ·rw [if_neg c4] at H
   have c4b0 : decide (64 ≤ a1) = false := decide_eq_false c4
   clear c4
   obtain ⟨ji5, hji5⟩ : ∃ j_ : Int, (IntKind.u64.wrap (a1)) = j_ := ⟨_, rfl⟩
   replace H : (if 0 ≤ (ji5) then (some (Go.bits .and .u64 a0 (IntKind.u64.wrap ((shl .u64 1 (ji5)) - 1)))) else (none)) = some r := by first | (rw [hji5] at H; exact H) | (simp only [hji5] at H ⊢; exact H)
   by_cases c6 : 0 ≤ (ji5)
   ·rw [if_pos c6] at H
    have c6b0 := eq_true c6
    have c6b1 : decide (0 ≤ (ji5)) = true := decide_eq_true c6
    clear c6
    obtain ⟨ji7, hji7⟩ : ∃ j_ : Int, (shl .u64 1 (ji5)) = j_ := ⟨_, rfl⟩
    replace H : (some (Go.bits .and .u64 a0 (IntKind.u64.wrap ((ji7) - 1)))) = some r := by first | (rw [hji7] at H; exact H) | (simp only [hji7] at H ⊢; exact H)
    have hji7_ : (IntKind.u64.wrap (1 * 2 ^ min (ji5).toNat 64)) = ji7 := hji7
    have hji7z : (ji5) ≤ 64 → (IntKind.u64.wrap (1 * 2 ^ (ji5).toNat)) = ji7 := shl_small hji7
    have hji7u : (IntKind.u64.wrap (2 ^ min (ji5).toNat 64)) = ji7 := by have h_ := hji7_; rw [Int.one_mul] at h_; exact h_
    have hji7v : (ji5) ≤ 64 → (IntKind.u64.wrap (2 ^ (ji5).toNat)) = ji7 := fun hle_ => by have h_ := hji7z hle_; rw [Int.one_mul] at h_; exact h_
    obtain rfl := Option.some.inj H
    go_enter Try.func85, Try.ntmps85
    go_wp2
    go_ret
    exact ⟨by first | rfl | (simp; done) | (simp only [← hji5, ← hji7] <;> (first | rfl | (simp; done))) | (simp [*]; done) | (congr 1; (try unfold wrap64); omega) | (congr 1; rw [IntKind.wrap_u64]; omega), gd_⟩
   ·rw [if_neg c6] at H
    exact absurd H (by simp)

end Go.Proofs.Ytfapjegkilljnaa.P

/- What the functions of layer 1 compute, as plain numbers. -/
namespace Go.Proofs.Ytfapjegkilljnaa.BitsF
open Go.RowKit Go.Proofs.Ytfapjegkilljnaa.P Go.Proofs.Ytfapjegkilljnaa.Num Go.Proofs.YtfapjegkilljnaaW.PrintWords Go.Proofs.YtfapjegkilljnaaW.PrintLast Go.Proofs.YtfapjegkilljnaaW.PrintMore

def jF (v : Nat) (n : Int) : Nat × Bool :=
 if 0 ≤ n then (v / 2 ^ n.toNat, decide (v % 2 ^ n.toNat ≠ 0)) else (v * 2 ^ (-n).toNat % 18446744073709551616, decide (18446744073709551616 ≤ v * 2 ^ (-n).toNat))
theorem iJ (v n : Nat) : jF v (n : Int) = (v / 2 ^ n, decide (v % 2 ^ n ≠ 0)) := by
 unfold jF; rw [if_pos (by omega)]; simp
theorem jJ (v n : Nat) (hv : v < 18446744073709551616) : jF v (-(n : Int)) = (v * 2 ^ n % 18446744073709551616, decide (18446744073709551616 ≤ v * 2 ^ n)) := by
 unfold jF
 by_cases h : n = 0
 ·subst h; simp [Nat.mod_one]; omega
 ·rw [if_neg (by omega)]; simp

theorem tF {n : Nat} (h : 64 ≤ n) : 18446744073709551616 ≤ 2 ^ n := by
 have : 2 ^ 64 ≤ 2 ^ n := Nat.pow_le_pow_right (by decide) h
 omega
theorem xO {n : Nat} (h : n ≤ 64) : 2 ^ n * 2 ^ (64 - n) = 18446744073709551616 := by
 rw [← Nat.pow_add, show n + (64 - n) = 64 by omega]
theorem back_ne (v n : Nat) : decide (v / 2 ^ n * 2 ^ n ≠ v) = decide (v % 2 ^ n ≠ 0) := by
 have := Nat.div_add_mod v (2 ^ n)
 rw [Nat.mul_comm] at this
 congr 1
 apply propext
 constructor <;> intro h <;> omega
theorem xB (v n : Nat) (hn : n ≤ 64) : decide ((v * 2 ^ n % 18446744073709551616) / 2 ^ n ≠ v) = decide (18446744073709551616 ≤ v * 2 ^ n) := by
 have hp : 0 < 2 ^ n := Nat.two_pow_pos n
 have e : v * 2 ^ n % 18446744073709551616 = (v % 2 ^ (64 - n)) * 2 ^ n := by
  rw [← xO hn, Nat.mul_comm (2 ^ n), Nat.mul_mod_mul_right]
 rw [e, Nat.mul_div_cancel _ hp]
 congr 1
 apply propext
 have hq : 0 < 2 ^ (64 - n) := Nat.two_pow_pos _
 have d := xO hn
 constructor
 ·intro h
  have : 2 ^ (64 - n) ≤ v := by
   apply Nat.le_of_not_lt; intro hlt; exact h (Nat.mod_eq_of_lt hlt)
  calc 18446744073709551616 = 2 ^ (64 - n) * 2 ^ n := by rw [Nat.mul_comm]; exact d.symm
   _ ≤ v * 2 ^ n := Nat.mul_le_mul_right _ this
 ·intro h h'
  have hlt : v < 2 ^ (64 - n) := by rw [← h']; exact Nat.mod_lt _ hq
  have : v * 2 ^ n < 2 ^ (64 - n) * 2 ^ n := Nat.mul_lt_mul_of_pos_right hlt hp
  rw [Nat.mul_comm (2 ^ (64 - n)), d] at this
  omega
theorem bne_cast (a b : Nat) : (((a : Int) != (b : Int)) : Bool) = decide (a ≠ b) := by
 by_cases h : a = b
 ·subst h; simp
 ·rw [bne_iff_ne.mpr (by omega)]; simp [h]

theorem qM (v : Nat) (hv : v < 18446744073709551616) (n : Int) (h1 : -9223372036854775808 ≤ n) (h2 : n ≤ 9223372036854775807) (k : Nat) :
  aH.f (k + 1) (v : Int) n = some ((((jF v n).1 : Nat) : Int), (jF v n).2) := by
 unfold aH.f
 by_cases c : n ≥ 64
 ·rw [if_pos c]
  simp only [aH.j0, if_true]
  obtain ⟨m, rfl⟩ := kX (show 0 ≤ n by omega)
  rw [iJ]
  have := tF (show 64 ≤ m by omega)
  rw [Nat.div_eq_of_lt (by omega), Nat.mod_eq_of_lt (by omega), ← bne_cast]; rfl
 ·rw [if_neg c]
  by_cases c' : n ≤ -64
  ·rw [decide_eq_true c']
   simp only [aH.j0, if_true]
   obtain ⟨m, hm⟩ := kX (show 0 ≤ -n by omega)
   obtain rfl : n = -(m : Int) := by omega
   rw [jJ _ _ hv]
   have hb := tF (show 64 ≤ m by omega)
   have e : (2 : Nat) ^ m = 18446744073709551616 * 2 ^ (m - 64) := by rw [show 18446744073709551616 = 2 ^ 64 from rfl, ← Nat.pow_add]; congr 1; omega
   have e1 : v * 2 ^ m % 18446744073709551616 = 0 := by rw [e, ← Nat.mul_assoc, Nat.mul_comm v, Nat.mul_assoc, Nat.mul_mod_right]
   have e2 : decide (18446744073709551616 ≤ v * 2 ^ m) = decide (v ≠ 0) := by
    congr 1; apply propext
    constructor
    ·intro h h0; subst h0; omega
    ·intro h
     calc 18446744073709551616 ≤ 2 ^ m := hb
      _ = 1 * 2 ^ m := (Nat.one_mul _).symm
      _ ≤ v * 2 ^ m := Nat.mul_le_mul_right _ (by omega)
   simp only [e1, e2]
   rw [← bne_cast]; rfl
  ·rw [decide_eq_false c']
   simp only [aH.j0, Bool.false_eq_true, if_false]
   by_cases c0 : n ≥ 0
   ·rw [if_pos c0]
    obtain ⟨m, rfl⟩ := kX c0
    rw [fB _ (by omega), if_pos (by omega), oG _ _ hv, nV, bne_cast, iJ]
    have hle : v / 2 ^ m * 2 ^ m ≤ v := Nat.div_mul_le_self _ _
    rw [Nat.mod_eq_of_lt (by omega), back_ne]
   ·rw [if_neg c0]
    obtain ⟨m, hm⟩ := kX (show 0 ≤ -n by omega)
    obtain rfl : n = -(m : Int) := by omega
    rw [Int.neg_neg, bT _ (by omega) (by omega), fB _ (by omega), if_pos (by omega), nV, oG _ _ (Nat.mod_lt _ (by decide)), bne_cast, jJ _ _ hv, xB _ _ (by omega)]
theorem nP (v : Nat) (hv : v < 18446744073709551616) (n : Int) (h1 : -9223372036854775808 ≤ n) (h2 : n ≤ 9223372036854775807) :
  Ev (fun k => aH.f k (v : Int) n) ((((jF v n).1 : Nat) : Int), (jF v n).2) := Ev.of (aH.mono _ _) (qM v hv n h1 h2 0)

def iG (v : Nat) : Nat := if v = 0 then 0 else v.log2 + 1
theorem qC (v : Nat) : v < 2 ^ iG v := by
 unfold iG
 by_cases h : v = 0
 ·subst h; decide
 ·rw [if_neg h]; exact (Nat.log2_lt h).mp (Nat.lt_succ_self _)
theorem qZ (v : Nat) (h : v ≠ 0) : 2 ^ (iG v - 1) ≤ v := by
 unfold iG
 rw [if_neg h, Nat.add_sub_cancel]
 exact (Nat.le_log2 h).mp (Nat.le_refl _)
theorem nM (v : Nat) (h : v ≠ 0) : 1 ≤ iG v := by unfold iG; rw [if_neg h]; omega
theorem lenN_of (v n : Nat) (h : v < 2 ^ n) (h' : n = 0 ∨ 2 ^ (n - 1) ≤ v) : iG v = n := by
 by_cases hv : v = 0
 ·subst hv
  rcases h' with h' | h'
  ·subst h'; rfl
  ·have := Nat.two_pow_pos (n - 1); omega
 ·have hn : n ≠ 0 := by intro e; subst e; simp at h; omega
  have h' := h'.resolve_left hn
  unfold iG; rw [if_neg hv]
  have a := (Nat.log2_lt hv).mpr h
  have b := (Nat.le_log2 hv).mpr h'
  omega
theorem gJ (v n : Nat) (h : v < 2 ^ n) : iG v ≤ n := by
 by_cases hv : v = 0
 ·subst hv; exact Nat.zero_le _
 ·unfold iG; rw [if_neg hv]; exact (Nat.log2_lt hv).mpr h
theorem nJ (v n : Nat) (h : 2 ^ n ≤ v) : iG (v / 2 ^ n) + n = iG v := by
 have hp := Nat.two_pow_pos n
 have hq : v / 2 ^ n ≠ 0 := by have := Nat.div_pos h hp; omega
 symm
 apply lenN_of
 ·rw [Nat.pow_add, Nat.mul_comm]
  exact Nat.lt_mul_of_div_lt (qC _) hp |> fun z => by rw [Nat.mul_comm] at z; exact z
 ·right
  have h1 := nM _ hq
  rw [show iG (v / 2 ^ n) + n - 1 = iG (v / 2 ^ n) - 1 + n by omega, Nat.pow_add]
  exact (Nat.le_div_iff_mul_le hp).mp (qZ _ hq)
theorem tab_all : ∀ i : Fin 256, bt (⟨#[0, 1, 2, 2, 3, 3, 3, 3, 4, 4, 4, 4, 4, 4, 4, 4, 5, 5, 5, 5, 5, 5, 5, 5, 5, 5, 5, 5, 5, 5, 5, 5, 6, 6, 6, 6, 6, 6, 6, 6, 6, 6, 6, 6, 6, 6, 6, 6, 6, 6, 6, 6, 6, 6, 6, 6, 6, 6, 6, 6, 6, 6, 6, 6, 7, 7, 7, 7, 7, 7, 7, 7, 7, 7, 7, 7, 7, 7, 7, 7, 7, 7, 7, 7, 7, 7, 7, 7, 7, 7, 7, 7, 7, 7, 7, 7, 7, 7, 7, 7, 7, 7, 7, 7, 7, 7, 7, 7, 7, 7, 7, 7, 7, 7, 7, 7, 7, 7, 7, 7, 7, 7, 7, 7, 7, 7, 7, 7, 8, 8, 8, 8, 8, 8, 8, 8, 8, 8, 8, 8, 8, 8, 8, 8, 8, 8, 8, 8, 8, 8, 8, 8, 8, 8, 8, 8, 8, 8, 8, 8, 8, 8, 8, 8, 8, 8, 8, 8, 8, 8, 8, 8, 8, 8, 8, 8, 8, 8, 8, 8, 8, 8, 8, 8, 8, 8, 8, 8, 8, 8, 8, 8, 8, 8, 8, 8, 8, 8, 8, 8, 8, 8, 8, 8, 8, 8, 8, 8, 8, 8, 8, 8, 8, 8, 8, 8, 8, 8, 8, 8, 8, 8, 8, 8, 8, 8, 8, 8, 8, 8, 8, 8, 8, 8, 8, 8, 8, 8, 8, 8, 8, 8, 8, 8, 8, 8, 8, 8, 8, 8, 8, 8, 8, 8, 8, 8]⟩ : ByteArray) ((i.val : Nat) : Int) = (iG i.val : Int) := by decide +kernel
theorem rC (i : Nat) (h : i < 256) : bt (⟨#[0, 1, 2, 2, 3, 3, 3, 3, 4, 4, 4, 4, 4, 4, 4, 4, 5, 5, 5, 5, 5, 5, 5, 5, 5, 5, 5, 5, 5, 5, 5, 5, 6, 6, 6, 6, 6, 6, 6, 6, 6, 6, 6, 6, 6, 6, 6, 6, 6, 6, 6, 6, 6, 6, 6, 6, 6, 6, 6, 6, 6, 6, 6, 6, 7, 7, 7, 7, 7, 7, 7, 7, 7, 7, 7, 7, 7, 7, 7, 7, 7, 7, 7, 7, 7, 7, 7, 7, 7, 7, 7, 7, 7, 7, 7, 7, 7, 7, 7, 7, 7, 7, 7, 7, 7, 7, 7, 7, 7, 7, 7, 7, 7, 7, 7, 7, 7, 7, 7, 7, 7, 7, 7, 7, 7, 7, 7, 7, 8, 8, 8, 8, 8, 8, 8, 8, 8, 8, 8, 8, 8, 8, 8, 8, 8, 8, 8, 8, 8, 8, 8, 8, 8, 8, 8, 8, 8, 8, 8, 8, 8, 8, 8, 8, 8, 8, 8, 8, 8, 8, 8, 8, 8, 8, 8, 8, 8, 8, 8, 8, 8, 8, 8, 8, 8, 8, 8, 8, 8, 8, 8, 8, 8, 8, 8, 8, 8, 8, 8, 8, 8, 8, 8, 8, 8, 8, 8, 8, 8, 8, 8, 8, 8, 8, 8, 8, 8, 8, 8, 8, 8, 8, 8, 8, 8, 8, 8, 8, 8, 8, 8, 8, 8, 8, 8, 8, 8, 8, 8, 8, 8, 8, 8, 8, 8, 8, 8, 8, 8, 8, 8, 8, 8, 8, 8, 8]⟩ : ByteArray) (i : Int) = (iG i : Int) := tab_all ⟨i, h⟩
theorem l6 (v : Nat) (h : v < 18446744073709551616) : iG v ≤ 64 := gJ v 64 h
theorem len_j0 (k x c : Nat) (hx : x < 4294967296) (hc : c ≤ 64) : bits_Len64.j0 (k + 1) (x : Int) (c : Int) = some ((c + iG x : Nat) : Int) := by
 rw [bits_Len64.j0]
 have e1 : (x : Int) / 65536 = ((x / 65536 : Nat) : Int) := by omega
 have e2 : (x : Int) / 65536 / 256 = ((x / 65536 / 256 : Nat) : Int) := by omega
 have e3 : (x : Int) / 256 = ((x / 256 : Nat) : Int) := by omega
 by_cases c1 : (x : Int) ≥ 65536
 ·rw [if_pos c1]
  by_cases c2 : (x : Int) / 65536 ≥ 256
  ·rw [if_pos c2, e2, show ((x / 65536 / 256 : Nat) : Int) % 256 = ((x / 65536 / 256 : Nat) : Int) by omega, if_pos (by omega), if_pos (by omega), rC _ (by omega)]
   have h := nJ x 24 (by omega)
   rw [show x / 2 ^ 24 = x / 65536 / 256 by omega] at h
   have b := gJ (x / 65536 / 256) 8 (by omega)
   rw [bT (c + 16) (by omega) (by omega), bT (c + 16 + 8) (by omega) (by omega), bT (iG _) (by omega) (by omega), bT _ (by omega) (by omega)]
   congr 1; omega
  ·rw [if_neg c2, e1, show ((x / 65536 : Nat) : Int) % 256 = ((x / 65536 : Nat) : Int) by omega, if_pos (by omega), if_pos (by omega), rC _ (by omega)]
   have h := nJ x 16 (by omega)
   rw [show x / 2 ^ 16 = x / 65536 by omega] at h
   have b := gJ (x / 65536) 8 (by omega)
   rw [bT (c + 16) (by omega) (by omega), bT (iG _) (by omega) (by omega), bT _ (by omega) (by omega)]
   congr 1; omega
 ·rw [if_neg c1]
  by_cases c2 : (x : Int) ≥ 256
  ·rw [if_pos c2, e3, show ((x / 256 : Nat) : Int) % 256 = ((x / 256 : Nat) : Int) by omega, if_pos (by omega), if_pos (by omega), rC _ (by omega)]
   have h := nJ x 8 (by omega)
   rw [show x / 2 ^ 8 = x / 256 by omega] at h
   have b := gJ (x / 256) 8 (by omega)
   rw [bT (c + 8) (by omega) (by omega), bT (iG _) (by omega) (by omega), bT _ (by omega) (by omega)]
   congr 1; omega
  ·rw [if_neg c2, show (x : Int) % 256 = (x : Int) by omega, if_pos (by omega), if_pos (by omega), rC _ (by omega)]
   have b := gJ x 8 (by omega)
   rw [bT (iG _) (by omega) (by omega), bT _ (by omega) (by omega)]
   congr 1
theorem len64_f (k v : Nat) (hv : v < 18446744073709551616) : bits_Len64.f (k + 1) (v : Int) = some (iG v : Int) := by
 unfold bits_Len64.f
 by_cases c : (v : Int) ≥ 4294967296
 ·rw [if_pos c, show (v : Int) / 4294967296 = ((v / 4294967296 : Nat) : Int) by omega]
  have h := len_j0 k (v / 4294967296) 32 (by omega) (by decide)
  have e := nJ v 32 (by omega)
  rw [show v / 2 ^ 32 = v / 4294967296 by omega] at e
  rw [show ((32 : Nat) : Int) = 32 from rfl] at h
  rw [h]; congr 1; omega
 ·rw [if_neg c]
  have h := len_j0 k v 0 (by omega) (by decide)
  rw [show ((0 : Nat) : Int) = 0 from rfl] at h
  rw [h, Nat.zero_add]
theorem len_f (k v : Nat) (hv : v < 18446744073709551616) : bits_Len.f (k + 1) (v : Int) = some (iG v : Int) := by
 unfold bits_Len.f; rw [len64_f k v hv]; rfl
theorem pJ (v : Nat) (hv : v < 18446744073709551616) : Ev (fun k => bits_Len.f k (v : Int)) (iG v : Int) := Ev.of (bits_Len.mono _) (len_f 0 v hv)

def cutN (v : Nat) (n : Int) : Nat := if n < 1 then 0 else v % 2 ^ n.toNat
theorem cut_mask (v n : Nat) (hv : v < 18446744073709551616) (hn : n < 64) : Go.bits .and .u64 (v : Int) (IntKind.u64.wrap (shl .u64 1 (n : Int) - 1)) = ((v % 2 ^ n : Nat) : Int) := by
 have hp : 2 ^ n ≤ 2 ^ 63 := Nat.pow_le_pow_right (by decide) (by omega)
 have h0 := Nat.two_pow_pos n
 rw [show (1 : Int) = ((1 : Nat) : Int) from rfl, nV, Nat.one_mul, Nat.mod_eq_of_lt (by omega), show ((2 ^ n : Nat) : Int) - ((1 : Nat) : Int) = ((2 ^ n - 1 : Nat) : Int) by omega, fB _ (by omega), uT _ _ hv (by omega)]
theorem cut_f (v : Nat) (hv : v < 18446744073709551616) (n : Int) (h2 : n ≤ 9223372036854775807) : dX.f (v : Int) n = some (cutN v n : Int) := by
 unfold dX.f cutN
 by_cases c : n < 1
 ·rw [if_pos c, if_pos c]; rfl
 ·rw [if_neg c, if_neg c]
  obtain ⟨m, rfl⟩ := kX (show 0 ≤ n by omega)
  by_cases c' : (m : Int) ≥ 64
  ·rw [if_pos c', Int.toNat_natCast, Nat.mod_eq_of_lt (by have := tF (show 64 ≤ m by omega); omega)]
  ·rw [if_neg c', fB _ (by omega), if_pos (by omega), cut_mask _ _ hv (by omega), Int.toNat_natCast]
end Go.Proofs.Ytfapjegkilljnaa.BitsF

/- What the program's package format computes, as plain numbers: widths, parts, classes, whole numbers and exponents. -/
namespace Go.Proofs.Ytfapjegkilljnaa.Fmt
open Go.RowKit Go.Proofs.Ytfapjegkilljnaa.P Go.Proofs.Ytfapjegkilljnaa.Num Go.Proofs.Ytfapjegkilljnaa.BitsF Go.Proofs.YtfapjegkilljnaaW.PrintWords Go.Proofs.YtfapjegkilljnaaW.PrintLast Go.Proofs.YtfapjegkilljnaaW.PrintMore

def fe (f : Int) : Nat := if f = 0 then 5 else 8
def fm (f : Int) : Nat := if f = 0 then 10 else if f = 1 then 7 else 23
theorem pU (f : Int) : (fe f = 5 ∧ fm f = 10) ∨ (fe f = 8 ∧ fm f = 7) ∨ (fe f = 8 ∧ fm f = 23) := by
 unfold fe fm
 split
 ·exact .inl ⟨rfl, rfl⟩
 ·split
  ·exact .inr (.inl ⟨rfl, rfl⟩)
  ·exact .inr (.inr ⟨rfl, rfl⟩)
theorem dC (f : Int) : 5 ≤ fe f ∧ fe f ≤ 8 ∧ 7 ≤ fm f ∧ fm f ≤ 23 ∧ fe f + fm f ≤ 31 := by
 rcases pU f with ⟨h1, h2⟩ | ⟨h1, h2⟩ | ⟨h1, h2⟩ <;> rw [h1, h2] <;> decide
def gW (f : Int) : Nat := 2 ^ fe f - 1
def dH (f : Int) : Int := 2 - 2 ^ (fe f - 1)
theorem iH (f : Int) : dH f = -14 ∨ dH f = -126 := by
 unfold dH
 rcases pU f with ⟨h1, _⟩ | ⟨h1, _⟩ | ⟨h1, _⟩ <;> rw [h1] <;> simp
theorem gD (f : Int) : gW f = 31 ∨ gW f = 255 := by
 unfold gW
 rcases pU f with ⟨h1, _⟩ | ⟨h1, _⟩ | ⟨h1, _⟩ <;> rw [h1] <;> simp
def d9 (f : Int) (neg : Bool) : Nat := if neg then 2 ^ (fe f + fm f) else 0
def cZ (f : Int) (v : Nat) : Bool := decide (v / 2 ^ (fe f + fm f) % 2 = 1)
def oW (f : Int) (v : Nat) : Nat := v / 2 ^ fm f % 2 ^ fe f
def lW (f : Int) (v : Nat) : Nat := v % 2 ^ fm f
theorem xQ (f : Int) (v : Nat) : oW f v ≤ gW f := by
 unfold oW gW
 have := Nat.mod_lt (v / 2 ^ fm f) (Nat.two_pow_pos (fe f))
 omega
theorem tH (f : Int) (v : Nat) : lW f v < 2 ^ fm f := Nat.mod_lt _ (Nat.two_pow_pos _)

theorem wu (n : Nat) (h : n < 9223372036854775808) : IntKind.u64.wrap (wrap64 (n : Int)) = (n : Int) := by rw [bT _ (by omega) (by omega), fB _ (by omega)]
theorem dM {n : Nat} (h : n ≤ 31) : 2 ^ n ≤ 2147483648 := Nat.pow_le_pow_right (show 0 < 2 by decide) h
theorem kZ {n : Nat} (h : n ≤ 32) : 2 ^ n ≤ 4294967296 := Nat.pow_le_pow_right (show 0 < 2 by decide) h
theorem mD (n : Nat) (h : n ≤ 31) : shl .u32 1 (n : Int) = ((2 ^ n : Nat) : Int) := by
 have := dM h
 rw [show (1 : Int) = ((1 : Nat) : Int) from rfl, tX, Nat.one_mul, Nat.mod_eq_of_lt (by omega)]
theorem vK (a n : Nat) (ha : a < 4294967296) (hn : n ≤ 31) : Go.bits .and .u32 (a : Int) ((shl .u32 1 (n : Int) - 1) % 4294967296) = ((a % 2 ^ n : Nat) : Int) := by
 have h1 := dM hn
 have h0 := Nat.two_pow_pos n
 rw [mD n hn, show (((2 ^ n : Nat) : Int) - 1) % 4294967296 = ((2 ^ n - 1 : Nat) : Int) by omega, tC _ _ ha (by omega), Nat.and_two_pow_sub_one_eq_mod]
theorem and1_u32 (a : Nat) (ha : a < 4294967296) : Go.bits .and .u32 (a : Int) 1 = ((a % 2 : Nat) : Int) := by
 rw [show (1 : Int) = ((2 ^ 1 - 1 : Nat) : Int) from rfl, tC _ _ ha (by decide), Nat.and_two_pow_sub_one_eq_mod]
theorem oK (n : Nat) (h : n ≤ 31) : shl .i64 1 (n : Int) = ((2 ^ n : Nat) : Int) := by
 have := dM h
 have := Nat.two_pow_pos n
 unfold shl
 rw [Int.toNat_natCast, Nat.min_eq_left (show n ≤ IntKind.i64.bits by show n ≤ 64; omega), i64_wrap, Int.one_mul, ← vS, bT _ (by omega) (by omega)]

theorem fC (f : Int) : aR.f f = some ((fe f : Int), (fm f : Int)) := by
 unfold aR.f fe fm
 by_cases h : f = 0
 ·subst h; rfl
 ·rw [if_neg h, if_neg h, if_neg h]
  by_cases h1 : f = 1
  ·subst h1; rfl
  ·rw [if_neg h1, if_neg h1]; rfl
def wC (f : Int) (neg : Bool) (at_ frac : Nat) : Nat := at_ * 2 ^ fm f + frac + d9 f neg
theorem rZ (f : Int) (neg : Bool) (a c : Nat) (ha : a ≤ gW f) (hc : c < 2 ^ fm f) : aZ.f f neg (a : Int) (c : Int) = some (wC f neg a c : Int) := by
 unfold aZ.f wC d9
 rw [fC]
 obtain ⟨b1, b2, b3, b4, b5⟩ := dC f
 have hp := Nat.two_pow_pos (fm f)
 have hle : a * 2 ^ fm f + 2 ^ fm f ≤ 2 ^ (fe f + fm f) := by
  rw [Nat.pow_add, ← Nat.succ_mul]
  apply Nat.mul_le_mul_right
  unfold gW at ha
  have := Nat.two_pow_pos (fe f); omega
 have h31 := dM b5
 have e1 : shl .u32 ((a : Int) % 4294967296) (fm f : Int) = ((a * 2 ^ fm f : Nat) : Int) := by
  have : a < 4294967296 := by have := gD f; omega
  rw [show (a : Int) % 4294967296 = ((a : Nat) : Int) by omega, tX, Nat.mod_eq_of_lt (by omega)]
 have e2 : Go.bits .or .u32 ((a * 2 ^ fm f : Nat) : Int) (c : Int) = ((a * 2 ^ fm f + c : Nat) : Int) := by
  rw [zF _ _ (by omega) (by omega), pW _ _ (fm f) (Nat.mul_mod_left ..) hc]
 simp only [Option.bind_some]
 rw [fB (fm f) (by omega), if_pos (by omega), e1, e2]
 cases neg
 ·simp
 ·simp only [if_true]
  rw [show (fe f : Int) + (fm f : Int) = ((fe f + fm f : Nat) : Int) by omega, wu _ (by omega), if_pos (by omega), mD _ b5, zF _ _ (by omega) (by omega), Nat.or_comm, pW _ (a * 2 ^ fm f + c) (fe f + fm f) (by simp) (by omega)]
  congr 2; omega
theorem uJ (f : Int) : bP.f f = some (gW f : Int) := by
 unfold bP.f gW
 rw [fC]
 obtain ⟨b1, b2, b3, b4, b5⟩ := dC f
 have hp := Nat.two_pow_pos (fe f)
 have h31 := dM (show fe f ≤ 31 by omega)
 simp only [Option.bind_some]
 rw [fB (fe f) (by omega), if_pos (by omega), oK _ (by omega), bT _ (by omega) (by omega)]
 congr 1; omega
theorem mJ (f : Int) : bE.f f = some (dH f) := by
 unfold bE.f dH
 rw [fC]
 obtain ⟨b1, b2, b3, b4, b5⟩ := dC f
 have h31 := dM (show fe f - 1 ≤ 31 by omega)
 have h0 := Nat.two_pow_pos (fe f - 1)
 simp only [Option.bind_some]
 rw [show (fe f : Int) - 1 = ((fe f - 1 : Nat) : Int) by omega, wu _ (by omega), if_pos (by omega), oK _ (by omega), bT _ (by omega) (by omega), vS]
theorem rQ (f : Int) (neg : Bool) : bR.f f neg = some (d9 f neg : Int) := by
 unfold bR.f
 have h := rZ f neg 0 0 (Nat.zero_le _) (Nat.two_pow_pos _)
 rw [show ((0 : Nat) : Int) = 0 from rfl] at h
 rw [h]; unfold wC; simp
def nQ (f : Int) (neg : Bool) : Nat := gW f * 2 ^ fm f + d9 f neg
theorem sV (f : Int) (neg : Bool) : bH.f f neg = some (nQ f neg : Int) := by
 unfold bH.f nQ
 have h := rZ f neg (gW f) 0 (Nat.le_refl _) (Nat.two_pow_pos _)
 rw [show ((0 : Nat) : Int) = 0 from rfl] at h
 rw [uJ]; simp only [Option.bind_some]; rw [h]; unfold wC; simp
def vJ (f : Int) (neg : Bool) : Nat := gW f * 2 ^ fm f - 1 + d9 f neg
theorem wK (f : Int) (neg : Bool) : bS.f f neg = some (vJ f neg : Int) := by
 unfold bS.f vJ
 obtain ⟨b1, b2, b3, b4, b5⟩ := dC f
 have hp := Nat.two_pow_pos (fm f)
 have h31 := dM (show fm f ≤ 31 by omega)
 have ht := gD f
 rw [fC, uJ]
 simp only [Option.bind_some]
 rw [fB (fm f) (by omega), if_pos (by omega), bT _ (by omega) (by omega), mD _ (by omega), show (((2 ^ fm f : Nat) : Int) - 1) % 4294967296 = ((2 ^ fm f - 1 : Nat) : Int) by omega, show (gW f : Int) - 1 = ((gW f - 1 : Nat) : Int) by omega, rZ f neg _ _ (by omega) (by omega)]
 simp only [Option.bind_some]
 unfold wC
 congr 2
 have : gW f * 2 ^ fm f = (gW f - 1) * 2 ^ fm f + 2 ^ fm f := by rw [← Nat.succ_mul]; congr 1; omega
 omega
end Go.Proofs.Ytfapjegkilljnaa.Fmt

-- Printed by a program of this session's out of Lean's print of the translation; Lean checks it.
namespace Go.Proofs.Ytfapjegkilljnaa.P
open Go.RowKit Go.Proofs.YtfapjegkilljnaaW.PrintWords Go.Proofs.YtfapjegkilljnaaW.PrintLast Go.Proofs.YtfapjegkilljnaaW.PrintMore
attribute [local go_sem] max2_int min2_int max_two min_two max_three min_three max_four min_four

-- NOT PRINTED: function 21 (opt_step)

-- NOT PRINTED: function 12 (opt_Step)

-- NOT PRINTED: function 6 (anneallaw21_known)

-- NEED 0
/-! ### aV: function 23 -/
def aV.f (a0 : Int) : Option (Int × Int) := if a0 = 0 then (some (5, 10)) else (if a0 = 1 then (some (8, 7)) else (some (8, 23)))
theorem aV.calls (a0 r1 r2 : Int) (w : World) (h : aV.f a0 = some (r1, r2)) :
  Calls Try.prog 23 #[.int .i64 a0] w fun e w' => e = .returned (.tuple #[.int .i64 r1, .int .i64 r2]) ∧ Drawn0 w w' := by
 have H : (if a0 = 0 then (some (5, 10)) else (if a0 = 1 then (some (8, 7)) else (some (8, 23)))) = some (r1, r2) := h
 clear h
 by_cases c2 : a0 = 0
 ·rw [if_pos c2] at H
  have c2b0 : (a0 == 0) = true := beq_iff_eq.mpr c2
  have c2b1 : (a0 != 0) = false := bne_eq_false_iff_eq.mpr c2
  clear c2
  simp only [Option.some.injEq, Prod.mk.injEq] at H
  obtain ⟨rfl, rfl⟩ := H
  go_enter Try.func23, Try.ntmps23
  go_wp2
  go_ret2
  exact ⟨gr_, gd_⟩
 ·rw [if_neg c2] at H
  have c2b0 : (a0 == 0) = false := beq_eq_false_iff_ne.mpr c2
  have c2b1 : (a0 != 0) = true := bne_iff_ne.mpr c2
  by_cases c3 : a0 = 1
  ·rw [if_pos c3] at H
   have c3b0 : (a0 == 1) = true := beq_iff_eq.mpr c3
   have c3b1 : (a0 != 1) = false := bne_eq_false_iff_eq.mpr c3
   clear c3
   simp only [Option.some.injEq, Prod.mk.injEq] at H
   obtain ⟨rfl, rfl⟩ := H
   go_enter Try.func23, Try.ntmps23
   go_wp2
   go_ret2
   exact ⟨gr_, gd_⟩
  ·rw [if_neg c3] at H
   have c3b0 : (a0 == 1) = false := beq_eq_false_iff_ne.mpr c3
   have c3b1 : (a0 != 1) = true := bne_iff_ne.mpr c3
   simp only [Option.some.injEq, Prod.mk.injEq] at H
   obtain ⟨rfl, rfl⟩ := H
   go_enter Try.func23, Try.ntmps23
   go_wp2
   go_ret2
   exact ⟨gr_, gd_⟩

-- NEED 0
/-! ### dS: function 39 -/
def dS.f (a0 : Int) (a1 : Bool) : Option (Int) := (aV.f a0).bind fun bt719 => (if a1 = true then (if 0 ≤ (wrap64 (bt719.1 + bt719.2)) then (some (shl .u32 1 (wrap64 (bt719.1 + bt719.2)))) else (none)) else (some 0))
theorem dS.calls (a0 : Int) (a1 : Bool) (r : Int) (w : World) (h : dS.f a0 a1 = some r) :
  Calls Try.prog 39 #[.int .i64 a0, .bool a1] w fun e w' => e = .returned (.int .u32 r) ∧ Drawn0 w w' := by
 have H : ((aV.f a0).bind fun bt719 => (if a1 = true then (if 0 ≤ (wrap64 (bt719.1 + bt719.2)) then (some (shl .u32 1 (wrap64 (bt719.1 + bt719.2)))) else (none)) else (some 0))) = some r := h
 clear h
 replace H := bq_ H
 obtain ⟨⟨t719, t720⟩, A30, H⟩ := H
 replace H : (if a1 = true then (if 0 ≤ (wrap64 (t719 + t720)) then (some (shl .u32 1 (wrap64 (t719 + t720)))) else (none)) else (some 0)) = some r := H
 have A3 := Aside0.mk A30
 clear A30
 by_cases c4 : a1 = true
 ·subst c4
  have H1 : (if 0 ≤ (wrap64 (t719 + t720)) then (some (shl .u32 1 (wrap64 (t719 + t720)))) else (none)) = some r := by rw [if_pos rfl] at H; exact H
  clear H
  have H := H1
  clear H1
  obtain ⟨ji5, hji5⟩ : ∃ j_ : Int, (wrap64 (t719 + t720)) = j_ := ⟨_, rfl⟩
  replace H : (if 0 ≤ (ji5) then (some (shl .u32 1 (ji5))) else (none)) = some r := by first | (rw [hji5] at H; exact H) | (simp only [hji5] at H ⊢; exact H)
  (try rw [hji5] at A3)
  have hji5w : (IntKind.i64.wrap (t719 + t720)) = ji5 := (i64_w _).trans hji5
  by_cases c6 : 0 ≤ (ji5)
  ·rw [if_pos c6] at H
   have c6b0 := eq_true c6
   have c6b1 : decide (0 ≤ (ji5)) = true := decide_eq_true c6
   clear c6
   obtain ⟨ji7, hji7⟩ : ∃ j_ : Int, (shl .u32 1 (ji5)) = j_ := ⟨_, rfl⟩
   replace H : (some ji7) = some r := by first | (rw [hji7] at H; exact H) | (simp only [hji7] at H ⊢; exact H)
   (try rw [hji7] at A3)
   have hji7_ : (IntKind.u32.wrap (1 * 2 ^ min (ji5).toNat 32)) = ji7 := hji7
   have hji7z : (ji5) ≤ 32 → (IntKind.u32.wrap (1 * 2 ^ (ji5).toNat)) = ji7 := shl_small hji7
   have hji7u : (IntKind.u32.wrap (2 ^ min (ji5).toNat 32)) = ji7 := by have h_ := hji7_; rw [Int.one_mul] at h_; exact h_
   have hji7v : (ji5) ≤ 32 → (IntKind.u32.wrap (2 ^ (ji5).toNat)) = ji7 := fun hle_ => by have h_ := hji7z hle_; rw [Int.one_mul] at h_; exact h_
   obtain rfl := Option.some.inj H
   go_enter Try.func39, Try.ntmps39
   go_wp2_with (first | ((with_reducible refine gate_callee (f := 23) rfl ?_); refine goesL_ (some 9) rfl rfl Try.func23 (by kernel_rfl) rfl #[.int .i64 a0] rfl gl ?_; (with_reducible refine (aV.calls a0 t719 t720 _ A3.out).mono ?_); rintro e w' ⟨rfl, ⟨nd, rfl⟩⟩; refine ⟨_, rfl, ?_⟩))
   go_ret
   exact ⟨by first | rfl | (simp; done) | (simp only [← hji5, ← hji7] <;> (first | rfl | (simp; done))) | (simp [*]; done) | (congr 1; (try unfold wrap64); omega) | (congr 1; rw [IntKind.wrap_u64]; omega), gd_⟩
  ·rw [if_neg c6] at H
   exact absurd H (by simp)
 ·replace c4 := Bool.eq_false_iff.mpr c4
  subst c4
  have H1 : (some 0) = some r := by rw [if_neg (show ¬ (false = true) by decide)] at H; exact H
  clear H
  have H := H1
  clear H1
  obtain rfl := Option.some.inj H
  go_enter Try.func39, Try.ntmps39
  go_wp2_with (first | ((with_reducible refine gate_callee (f := 23) rfl ?_); refine goesL_ (some 9) rfl rfl Try.func23 (by kernel_rfl) rfl #[.int .i64 a0] rfl gl ?_; (with_reducible refine (aV.calls a0 t719 t720 _ A3.out).mono ?_); rintro e w' ⟨rfl, ⟨nd, rfl⟩⟩; refine ⟨_, rfl, ?_⟩))
  go_ret
  exact ⟨gr_, gd_⟩

-- NEED 0
/-! ### aY: function 24 -/
def aY.f (a0 : Int) (a1 : Bool) : Option (Int) := (dS.f a0 a1).bind fun t721 => (some t721)
theorem aY.calls (a0 : Int) (a1 : Bool) (r : Int) (w : World) (h : aY.f a0 a1 = some r) :
  Calls Try.prog 24 #[.int .i64 a0, .bool a1] w fun e w' => e = .returned (.int .u32 r) ∧ Drawn0 w w' := by
 have H : ((dS.f a0 a1).bind fun t721 => (some t721)) = some r := h
 clear h
 replace H := bq_ H
 obtain ⟨t721, A30, H⟩ := H
 replace H : (some t721) = some r := H
 have A3 := Aside0.mk A30
 clear A30
 obtain rfl := Option.some.inj H
 go_enter Try.func24, Try.ntmps24
 go_wp2_with (first | ((with_reducible refine gate_callee (f := 39) rfl ?_); refine goesL_ (some 7) rfl rfl Try.func39 (by kernel_rfl) rfl #[.int .i64 a0, .bool a1] rfl gl ?_; (with_reducible refine (dS.calls a0 a1 t721 _ A3.out).mono ?_); rintro e w' ⟨rfl, ⟨nd, rfl⟩⟩; refine ⟨_, rfl, ?_⟩))
 go_ret
 exact ⟨gr_, gd_⟩

-- NEED 0
/-! ### dD: function 14 -/
def dD.f (a0 a1 : Int) : Option (Int) := if (Int.tmod a1 7) = 0 then (some 0) else ((aV.f a0).bind fun bt722 => (if 0 ≤ bt722.1 then (if 0 ≤ bt722.2 then (if (shl .u32 4 bt722.2) = 0 then (none) else (if (Go.bits .and .u32 a1 1) = 1 then ((aY.f a0 true).bind fun t724 => (some (Go.bits .or .u32 (((((shl .u32 ((((shl .u32 1 bt722.1) - 1) % 4294967296) / 2) bt722.2) - (shl .u32 2 bt722.2)) % 4294967296) + (Int.tmod (a1 / 8) (shl .u32 4 bt722.2))) % 4294967296) t724))) else (some (((((shl .u32 ((((shl .u32 1 bt722.1) - 1) % 4294967296) / 2) bt722.2) - (shl .u32 2 bt722.2)) % 4294967296) + (Int.tmod (a1 / 8) (shl .u32 4 bt722.2))) % 4294967296)))) else (none)) else (none)))
theorem dD.calls (a0 a1 r : Int) (w : World) (h : dD.f a0 a1 = some r) :
  Calls Try.prog 14 #[.int .i64 a0, .int .u32 a1] w fun e w' => e = .returned (.int .u32 r) ∧ Drawn0 w w' := by
 have H : (if (Int.tmod a1 7) = 0 then (some 0) else ((aV.f a0).bind fun bt722 => (if 0 ≤ bt722.1 then (if 0 ≤ bt722.2 then (if (shl .u32 4 bt722.2) = 0 then (none) else (if (Go.bits .and .u32 a1 1) = 1 then ((aY.f a0 true).bind fun t724 => (some (Go.bits .or .u32 (((((shl .u32 ((((shl .u32 1 bt722.1) - 1) % 4294967296) / 2) bt722.2) - (shl .u32 2 bt722.2)) % 4294967296) + (Int.tmod (a1 / 8) (shl .u32 4 bt722.2))) % 4294967296) t724))) else (some (((((shl .u32 ((((shl .u32 1 bt722.1) - 1) % 4294967296) / 2) bt722.2) - (shl .u32 2 bt722.2)) % 4294967296) + (Int.tmod (a1 / 8) (shl .u32 4 bt722.2))) % 4294967296)))) else (none)) else (none)))) = some r := h
 clear h
 by_cases c3 : (Int.tmod a1 7) = 0
 ·rw [if_pos c3] at H
  have c3b0 : ((Int.tmod a1 7) == 0) = true := beq_iff_eq.mpr c3
  have c3b1 : ((Int.tmod a1 7) != 0) = false := bne_eq_false_iff_eq.mpr c3
  clear c3
  obtain rfl := Option.some.inj H
  go_enter Try.func14, Try.ntmps14
  go_wp2
  repeat (go_quiet (fail); try go_wp2)
  go_ret
  exact ⟨gr_, gd_⟩
 ·rw [if_neg c3] at H
  have c3b0 : ((Int.tmod a1 7) == 0) = false := beq_eq_false_iff_ne.mpr c3
  have c3b1 : ((Int.tmod a1 7) != 0) = true := bne_iff_ne.mpr c3
  replace H := bq_ H
  obtain ⟨⟨t722, t723⟩, A40, H⟩ := H
  replace H : (if 0 ≤ t722 then (if 0 ≤ t723 then (if (shl .u32 4 t723) = 0 then (none) else (if (Go.bits .and .u32 a1 1) = 1 then ((aY.f a0 true).bind fun t724 => (some (Go.bits .or .u32 (((((shl .u32 ((((shl .u32 1 t722) - 1) % 4294967296) / 2) t723) - (shl .u32 2 t723)) % 4294967296) + (Int.tmod (a1 / 8) (shl .u32 4 t723))) % 4294967296) t724))) else (some (((((shl .u32 ((((shl .u32 1 t722) - 1) % 4294967296) / 2) t723) - (shl .u32 2 t723)) % 4294967296) + (Int.tmod (a1 / 8) (shl .u32 4 t723))) % 4294967296)))) else (none)) else (none)) = some r := H
  have A4 := Aside0.mk A40
  clear A40
  by_cases c5 : 0 ≤ t722
  ·rw [if_pos c5] at H
   have c5b0 := eq_true c5
   have c5b1 : decide (0 ≤ t722) = true := decide_eq_true c5
   clear c5
   obtain ⟨ji6, hji6⟩ : ∃ j_ : Int, (shl .u32 1 t722) = j_ := ⟨_, rfl⟩
   replace H : (if 0 ≤ t723 then (if (shl .u32 4 t723) = 0 then (none) else (if (Go.bits .and .u32 a1 1) = 1 then ((aY.f a0 true).bind fun t724 => (some (Go.bits .or .u32 (((((shl .u32 ((((ji6) - 1) % 4294967296) / 2) t723) - (shl .u32 2 t723)) % 4294967296) + (Int.tmod (a1 / 8) (shl .u32 4 t723))) % 4294967296) t724))) else (some (((((shl .u32 ((((ji6) - 1) % 4294967296) / 2) t723) - (shl .u32 2 t723)) % 4294967296) + (Int.tmod (a1 / 8) (shl .u32 4 t723))) % 4294967296)))) else (none)) = some r := by first | (rw [hji6] at H; exact H) | (simp only [hji6] at H ⊢; exact H)
   (try rw [hji6] at A4)
   have hji6_ : (IntKind.u32.wrap (1 * 2 ^ min t722.toNat 32)) = ji6 := hji6
   have hji6z : t722 ≤ 32 → (IntKind.u32.wrap (1 * 2 ^ t722.toNat)) = ji6 := shl_small hji6
   have hji6u : (IntKind.u32.wrap (2 ^ min t722.toNat 32)) = ji6 := by have h_ := hji6_; rw [Int.one_mul] at h_; exact h_
   have hji6v : t722 ≤ 32 → (IntKind.u32.wrap (2 ^ t722.toNat)) = ji6 := fun hle_ => by have h_ := hji6z hle_; rw [Int.one_mul] at h_; exact h_
   obtain ⟨ji7, hji7⟩ : ∃ j_ : Int, (((ji6) - 1) % 4294967296) = j_ := ⟨_, rfl⟩
   replace H : (if 0 ≤ t723 then (if (shl .u32 4 t723) = 0 then (none) else (if (Go.bits .and .u32 a1 1) = 1 then ((aY.f a0 true).bind fun t724 => (some (Go.bits .or .u32 (((((shl .u32 ((ji7) / 2) t723) - (shl .u32 2 t723)) % 4294967296) + (Int.tmod (a1 / 8) (shl .u32 4 t723))) % 4294967296) t724))) else (some (((((shl .u32 ((ji7) / 2) t723) - (shl .u32 2 t723)) % 4294967296) + (Int.tmod (a1 / 8) (shl .u32 4 t723))) % 4294967296)))) else (none)) = some r := by first | (rw [hji7] at H; exact H) | (simp only [hji7] at H ⊢; exact H)
   (try rw [hji7] at A4)
   have hji7l : 0 ≤ ji7 := by rw [← hji7]; exact Int.emod_nonneg _ (by decide)
   have hji7h : ji7 ≤ 4294967295 := by have := Int.emod_lt_of_pos (((ji6) - 1)) (show (0 : Int) < 4294967296 by decide); omega
   have hji7w : (IntKind.u32.wrap ((ji6) - 1)) = ji7 := (lL _).trans hji7
   (try (have hji7_ := hji7; simp only [Int.add_emod_emod, Int.emod_add_emod, Int.sub_emod_emod, Int.emod_sub_emod] at hji7_))
   by_cases c8 : 0 ≤ t723
   ·rw [if_pos c8] at H
    have c8b0 := eq_true c8
    have c8b1 : decide (0 ≤ t723) = true := decide_eq_true c8
    clear c8
    obtain ⟨ji9, hji9⟩ : ∃ j_ : Int, (shl .u32 ((ji7) / 2) t723) = j_ := ⟨_, rfl⟩
    replace H : (if (shl .u32 4 t723) = 0 then (none) else (if (Go.bits .and .u32 a1 1) = 1 then ((aY.f a0 true).bind fun t724 => (some (Go.bits .or .u32 (((((ji9) - (shl .u32 2 t723)) % 4294967296) + (Int.tmod (a1 / 8) (shl .u32 4 t723))) % 4294967296) t724))) else (some (((((ji9) - (shl .u32 2 t723)) % 4294967296) + (Int.tmod (a1 / 8) (shl .u32 4 t723))) % 4294967296)))) = some r := by first | (rw [hji9] at H; exact H) | (simp only [hji9] at H ⊢; exact H)
    (try rw [hji9] at A4)
    have hji9_ : (IntKind.u32.wrap (((ji7) / 2) * 2 ^ min t723.toNat 32)) = ji9 := hji9
    have hji9z : t723 ≤ 32 → (IntKind.u32.wrap (((ji7) / 2) * 2 ^ t723.toNat)) = ji9 := shl_small hji9
    have c10b0 := eq_true (of_decide_eq_true (by first | (with_reducible assumption) | assumption) : 0 ≤ t723)
    obtain ⟨ji11, hji11⟩ : ∃ j_ : Int, (shl .u32 2 t723) = j_ := ⟨_, rfl⟩
    replace H : (if (shl .u32 4 t723) = 0 then (none) else (if (Go.bits .and .u32 a1 1) = 1 then ((aY.f a0 true).bind fun t724 => (some (Go.bits .or .u32 (((((ji9) - (ji11)) % 4294967296) + (Int.tmod (a1 / 8) (shl .u32 4 t723))) % 4294967296) t724))) else (some (((((ji9) - (ji11)) % 4294967296) + (Int.tmod (a1 / 8) (shl .u32 4 t723))) % 4294967296)))) = some r := by first | (rw [hji11] at H; exact H) | (simp only [hji11] at H ⊢; exact H)
    (try rw [hji11] at A4)
    have hji11_ : (IntKind.u32.wrap (2 * 2 ^ min t723.toNat 32)) = ji11 := hji11
    have hji11z : t723 ≤ 32 → (IntKind.u32.wrap (2 * 2 ^ t723.toNat)) = ji11 := shl_small hji11
    obtain ⟨ji12, hji12⟩ : ∃ j_ : Int, (((ji9) - (ji11)) % 4294967296) = j_ := ⟨_, rfl⟩
    replace H : (if (shl .u32 4 t723) = 0 then (none) else (if (Go.bits .and .u32 a1 1) = 1 then ((aY.f a0 true).bind fun t724 => (some (Go.bits .or .u32 (((ji12) + (Int.tmod (a1 / 8) (shl .u32 4 t723))) % 4294967296) t724))) else (some (((ji12) + (Int.tmod (a1 / 8) (shl .u32 4 t723))) % 4294967296)))) = some r := by first | (rw [hji12] at H; exact H) | (simp only [hji12] at H ⊢; exact H)
    (try rw [hji12] at A4)
    have hji12l : 0 ≤ ji12 := by rw [← hji12]; exact Int.emod_nonneg _ (by decide)
    have hji12h : ji12 ≤ 4294967295 := by have := Int.emod_lt_of_pos (((ji9) - (ji11))) (show (0 : Int) < 4294967296 by decide); omega
    have hji12w : (IntKind.u32.wrap ((ji9) - (ji11))) = ji12 := (lL _).trans hji12
    (try (have hji12_ := hji12; simp only [Int.add_emod_emod, Int.emod_add_emod, Int.sub_emod_emod, Int.emod_sub_emod] at hji12_))
    have c13b0 := eq_true (of_decide_eq_true (by first | (with_reducible assumption) | assumption) : 0 ≤ t723)
    obtain ⟨ji14, hji14⟩ : ∃ j_ : Int, (shl .u32 4 t723) = j_ := ⟨_, rfl⟩
    replace H : (if (ji14) = 0 then (none) else (if (Go.bits .and .u32 a1 1) = 1 then ((aY.f a0 true).bind fun t724 => (some (Go.bits .or .u32 (((ji12) + (Int.tmod (a1 / 8) (ji14))) % 4294967296) t724))) else (some (((ji12) + (Int.tmod (a1 / 8) (ji14))) % 4294967296)))) = some r := by first | (rw [hji14] at H; exact H) | (simp only [hji14] at H ⊢; exact H)
    (try rw [hji14] at A4)
    have hji14_ : (IntKind.u32.wrap (4 * 2 ^ min t723.toNat 32)) = ji14 := hji14
    have hji14z : t723 ≤ 32 → (IntKind.u32.wrap (4 * 2 ^ t723.toNat)) = ji14 := shl_small hji14
    by_cases c15 : (ji14) = 0
    ·rw [if_pos c15] at H
     exact absurd H (by simp)
    ·rw [if_neg c15] at H
     have c15b0 : ((ji14) == 0) = false := beq_eq_false_iff_ne.mpr c15
     have c15b1 : ((ji14) != 0) = true := bne_iff_ne.mpr c15
     obtain ⟨ji16, hji16⟩ : ∃ j_ : Int, (((ji12) + (Int.tmod (a1 / 8) (ji14))) % 4294967296) = j_ := ⟨_, rfl⟩
     replace H : (if (Go.bits .and .u32 a1 1) = 1 then ((aY.f a0 true).bind fun t724 => (some (Go.bits .or .u32 (ji16) t724))) else (some ji16)) = some r := by first | (rw [hji16] at H; exact H) | (simp only [hji16] at H ⊢; exact H)
     (try rw [hji16] at A4)
     have hji16l : 0 ≤ ji16 := by rw [← hji16]; exact Int.emod_nonneg _ (by decide)
     have hji16h : ji16 ≤ 4294967295 := by have := Int.emod_lt_of_pos (((ji12) + (Int.tmod (a1 / 8) (ji14)))) (show (0 : Int) < 4294967296 by decide); omega
     have hji16w : (IntKind.u32.wrap ((ji12) + (Int.tmod (a1 / 8) (ji14)))) = ji16 := (lL _).trans hji16
     (try (have hji16_ := hji16; simp only [Int.add_emod_emod, Int.emod_add_emod, Int.sub_emod_emod, Int.emod_sub_emod] at hji16_))
     by_cases c17 : (Go.bits .and .u32 a1 1) = 1
     ·rw [if_pos c17] at H
      have c17b0 : ((Go.bits .and .u32 a1 1) == 1) = true := beq_iff_eq.mpr c17
      have c17b1 : ((Go.bits .and .u32 a1 1) != 1) = false := bne_eq_false_iff_eq.mpr c17
      clear c17
      replace H := bq_ H
      obtain ⟨t724, A180, H⟩ := H
      replace H : (some (Go.bits .or .u32 (ji16) t724)) = some r := H
      have A18 := Aside0.mk A180
      clear A180
      obtain rfl := Option.some.inj H
      go_enter Try.func14, Try.ntmps14
      go_wp2_with (first | (go_at_call 23; (with_reducible refine (aV.calls a0 t722 t723 _ A4.out).mono ?_); rintro e w' ⟨rfl, ⟨nd, rfl⟩⟩; (try first | exact ⟨rfl, _, World.drewN_drewN _ _ _⟩ | exact ⟨rfl, _, Eq.trans (World.drewN_drewN _ _ _) (congrArg (World.drewN _) (Nat.add_assoc _ _ _))⟩)) | (go_at_call 24; (with_reducible refine (aY.calls a0 true t724 _ A18.out).mono ?_); rintro e w' ⟨rfl, ⟨nd, rfl⟩⟩; (try first | exact ⟨rfl, _, World.drewN_drewN _ _ _⟩ | exact ⟨rfl, _, Eq.trans (World.drewN_drewN _ _ _) (congrArg (World.drewN _) (Nat.add_assoc _ _ _))⟩)))
      repeat (go_quiet (first | (go_at_call 23; (with_reducible refine (aV.calls a0 t722 t723 _ A4.out).mono ?_); rintro e w' ⟨rfl, ⟨nd, rfl⟩⟩; (try first | exact ⟨rfl, _, World.drewN_drewN _ _ _⟩ | exact ⟨rfl, _, Eq.trans (World.drewN_drewN _ _ _) (congrArg (World.drewN _) (Nat.add_assoc _ _ _))⟩)) | (go_at_call 24; (with_reducible refine (aY.calls a0 true t724 _ A18.out).mono ?_); rintro e w' ⟨rfl, ⟨nd, rfl⟩⟩; (try first | exact ⟨rfl, _, World.drewN_drewN _ _ _⟩ | exact ⟨rfl, _, Eq.trans (World.drewN_drewN _ _ _) (congrArg (World.drewN _) (Nat.add_assoc _ _ _))⟩))); try go_wp2_with (first | (go_at_call 23; (with_reducible refine (aV.calls a0 t722 t723 _ A4.out).mono ?_); rintro e w' ⟨rfl, ⟨nd, rfl⟩⟩; (try first | exact ⟨rfl, _, World.drewN_drewN _ _ _⟩ | exact ⟨rfl, _, Eq.trans (World.drewN_drewN _ _ _) (congrArg (World.drewN _) (Nat.add_assoc _ _ _))⟩)) | (go_at_call 24; (with_reducible refine (aY.calls a0 true t724 _ A18.out).mono ?_); rintro e w' ⟨rfl, ⟨nd, rfl⟩⟩; (try first | exact ⟨rfl, _, World.drewN_drewN _ _ _⟩ | exact ⟨rfl, _, Eq.trans (World.drewN_drewN _ _ _) (congrArg (World.drewN _) (Nat.add_assoc _ _ _))⟩))))
      go_ret
      exact ⟨by first | rfl | (simp; done) | (simp only [← hji6, ← hji7, ← hji9, ← hji11, ← hji12, ← hji14, ← hji16] <;> (first | rfl | (simp; done))) | (simp [*]; done) | (congr 1; (try unfold wrap64); omega) | (congr 1; rw [IntKind.wrap_u64]; omega), gd_⟩
     ·rw [if_neg c17] at H
      have c17b0 : ((Go.bits .and .u32 a1 1) == 1) = false := beq_eq_false_iff_ne.mpr c17
      have c17b1 : ((Go.bits .and .u32 a1 1) != 1) = true := bne_iff_ne.mpr c17
      obtain rfl := Option.some.inj H
      go_enter Try.func14, Try.ntmps14
      go_wp2_with (first | (go_at_call 23; (with_reducible refine (aV.calls a0 t722 t723 _ A4.out).mono ?_); rintro e w' ⟨rfl, ⟨nd, rfl⟩⟩; (try first | exact ⟨rfl, _, World.drewN_drewN _ _ _⟩ | exact ⟨rfl, _, Eq.trans (World.drewN_drewN _ _ _) (congrArg (World.drewN _) (Nat.add_assoc _ _ _))⟩)))
      repeat (go_quiet (first | (go_at_call 23; (with_reducible refine (aV.calls a0 t722 t723 _ A4.out).mono ?_); rintro e w' ⟨rfl, ⟨nd, rfl⟩⟩; (try first | exact ⟨rfl, _, World.drewN_drewN _ _ _⟩ | exact ⟨rfl, _, Eq.trans (World.drewN_drewN _ _ _) (congrArg (World.drewN _) (Nat.add_assoc _ _ _))⟩))); try go_wp2_with (first | (go_at_call 23; (with_reducible refine (aV.calls a0 t722 t723 _ A4.out).mono ?_); rintro e w' ⟨rfl, ⟨nd, rfl⟩⟩; (try first | exact ⟨rfl, _, World.drewN_drewN _ _ _⟩ | exact ⟨rfl, _, Eq.trans (World.drewN_drewN _ _ _) (congrArg (World.drewN _) (Nat.add_assoc _ _ _))⟩))))
      go_ret
      exact ⟨by first | rfl | (simp; done) | (simp only [← hji6, ← hji7, ← hji9, ← hji11, ← hji12, ← hji14, ← hji16] <;> (first | rfl | (simp; done))) | (simp [*]; done) | (congr 1; (try unfold wrap64); omega) | (congr 1; rw [IntKind.wrap_u64]; omega), gd_⟩
   ·rw [if_neg c8] at H
    exact absurd H (by simp)
  ·rw [if_neg c5] at H
   exact absurd H (by simp)

-- NEED 0
/-! ### bZ: function 48 -/
def bZ.f (a0 : Int) : Option (Int) := (aV.f a0).bind fun bt725 => (if 0 ≤ (wrap64 ((wrap64 (1 + bt725.1)) + bt725.2)) then (some ((IntKind.u64.wrap ((shl .u64 1 (wrap64 ((wrap64 (1 + bt725.1)) + bt725.2))) - 1)) % 4294967296)) else (none))
theorem bZ.calls (a0 r : Int) (w : World) (h : bZ.f a0 = some r) :
  Calls Try.prog 48 #[.int .i64 a0] w fun e w' => e = .returned (.int .u32 r) ∧ Drawn0 w w' := by
 have H : ((aV.f a0).bind fun bt725 => (if 0 ≤ (wrap64 ((wrap64 (1 + bt725.1)) + bt725.2)) then (some ((IntKind.u64.wrap ((shl .u64 1 (wrap64 ((wrap64 (1 + bt725.1)) + bt725.2))) - 1)) % 4294967296)) else (none))) = some r := h
 clear h
 replace H := bq_ H
 obtain ⟨⟨t725, t726⟩, A20, H⟩ := H
 replace H : (if 0 ≤ (wrap64 ((wrap64 (1 + t725)) + t726)) then (some ((IntKind.u64.wrap ((shl .u64 1 (wrap64 ((wrap64 (1 + t725)) + t726))) - 1)) % 4294967296)) else (none)) = some r := H
 have A2 := Aside0.mk A20
 clear A20
 obtain ⟨ji3, hji3⟩ : ∃ j_ : Int, (wrap64 ((wrap64 (1 + t725)) + t726)) = j_ := ⟨_, rfl⟩
 replace H : (if 0 ≤ (ji3) then (some ((IntKind.u64.wrap ((shl .u64 1 (ji3)) - 1)) % 4294967296)) else (none)) = some r := by first | (rw [hji3] at H; exact H) | (simp only [hji3] at H ⊢; exact H)
 (try rw [hji3] at A2)
 have hji3w : (IntKind.i64.wrap ((wrap64 (1 + t725)) + t726)) = ji3 := (i64_w _).trans hji3
 by_cases c4 : 0 ≤ (ji3)
 ·rw [if_pos c4] at H
  have c4b0 := eq_true c4
  have c4b1 : decide (0 ≤ (ji3)) = true := decide_eq_true c4
  clear c4
  obtain ⟨ji5, hji5⟩ : ∃ j_ : Int, (shl .u64 1 (ji3)) = j_ := ⟨_, rfl⟩
  replace H : (some ((IntKind.u64.wrap ((ji5) - 1)) % 4294967296)) = some r := by first | (rw [hji5] at H; exact H) | (simp only [hji5] at H ⊢; exact H)
  (try rw [hji5] at A2)
  have hji5_ : (IntKind.u64.wrap (1 * 2 ^ min (ji3).toNat 64)) = ji5 := hji5
  have hji5z : (ji3) ≤ 64 → (IntKind.u64.wrap (1 * 2 ^ (ji3).toNat)) = ji5 := shl_small hji5
  have hji5u : (IntKind.u64.wrap (2 ^ min (ji3).toNat 64)) = ji5 := by have h_ := hji5_; rw [Int.one_mul] at h_; exact h_
  have hji5v : (ji3) ≤ 64 → (IntKind.u64.wrap (2 ^ (ji3).toNat)) = ji5 := fun hle_ => by have h_ := hji5z hle_; rw [Int.one_mul] at h_; exact h_
  obtain rfl := Option.some.inj H
  go_enter Try.func48, Try.ntmps48
  go_wp2_with (first | ((with_reducible refine gate_callee (f := 23) rfl ?_); refine goesL_ (some 7) rfl rfl Try.func23 (by kernel_rfl) rfl #[.int .i64 a0] rfl gl ?_; (with_reducible refine (aV.calls a0 t725 t726 _ A2.out).mono ?_); rintro e w' ⟨rfl, ⟨nd, rfl⟩⟩; refine ⟨_, rfl, ?_⟩))
  go_ret
  exact ⟨by first | rfl | (simp; done) | (simp only [← hji3, ← hji5] <;> (first | rfl | (simp; done))) | (simp [*]; done) | (congr 1; (try unfold wrap64); omega) | (congr 1; rw [IntKind.wrap_u64]; omega), gd_⟩
 ·rw [if_neg c4] at H
  exact absurd H (by simp)

-- NEED 0
/-! ### aW: function 26 -/
def aW.f (a0 a1 : Int) : Option (Int) := (aV.f a0).bind fun bt727 => (if 0 ≤ bt727.1 then (if 0 ≤ bt727.2 then (if (shl .u32 3 bt727.2) = 0 then (none) else (if 0 ≤ (wrap64 (bt727.2 - 1)) then (if (shl .u32 9 bt727.2) = 0 then (none) else ((some (([0, 1, ((shl .u32 1 bt727.2) - 1) % 4294967296, shl .u32 1 bt727.2, shl .u32 ((((shl .u32 1 bt727.1) - 1) % 4294967296) / 2) bt727.2, ((shl .u32 ((((shl .u32 1 bt727.1) - 1) % 4294967296) / 2) bt727.2) + 1) % 4294967296, ((shl .u32 ((((shl .u32 1 bt727.1) - 1) % 4294967296) / 2) bt727.2) - 1) % 4294967296, ((shl .u32 ((((shl .u32 1 bt727.1) - 1) % 4294967296) / 2) bt727.2) + (shl .u32 1 bt727.2)) % 4294967296, ((shl .u32 ((((shl .u32 1 bt727.1) - 1) % 4294967296) / 2) bt727.2) + (Int.tmod (a1 / 16) (shl .u32 3 bt727.2))) % 4294967296, ((shl .u32 (((shl .u32 1 bt727.1) - 1) % 4294967296) bt727.2) - 1) % 4294967296, shl .u32 (((shl .u32 1 bt727.1) - 1) % 4294967296) bt727.2, Go.bits .or .u32 (shl .u32 (((shl .u32 1 bt727.1) - 1) % 4294967296) bt727.2) 1, Go.bits .or .u32 (shl .u32 (((shl .u32 1 bt727.1) - 1) % 4294967296) bt727.2) (shl .u32 1 (wrap64 (bt727.2 - 1))), ((shl .u32 ((((shl .u32 1 bt727.1) - 1) % 4294967296) / 2) bt727.2) - (Int.tmod (a1 / 16) (shl .u32 9 bt727.2))) % 4294967296, a1 / 16] : List Int) : List Int)).bind fun y729 => (if 0 ≤ (Int.tmod a1 15) then (if (Int.tmod a1 15) < (y729.length : Int) then ((bZ.f a0).bind fun t733 => (if (a1 / 2147483648) = 1 then ((aY.f a0 true).bind fun t734 => (some (Go.bits .or .u32 (Go.bits .and .u32 (rd y729 (Int.tmod a1 15)) t733) t734))) else (some (Go.bits .and .u32 (rd y729 (Int.tmod a1 15)) t733)))) else (none)) else (none)))) else (none))) else (none)) else (none))


-- NOT PRINTED: function 3 (anneallaw21_OptBegins)

-- NOT PRINTED: function 4 (anneallaw21_OptStill)

-- NEED 0
/-! ### annealref1_parts: function 64 -/
-- NEED 0
/-! ### annealref1_Class: function 63 -/

-- NEED 0
/-! ### annealref1_nans: function 40 -/
-- NEED 0
/-! ### annealref1_Inf: function 45 -/
-- NEED 0
/-! ### annealref1_Nan: function 41 -/
-- NEED 0
/-! ### annealref1_neg: function 42 -/
-- NEED 0
/-! ### annealref1_zero: function 43 -/

-- NEED 0
/-! ### annealref1_inf: function 44 -/
-- NEED 0
/-! ### annealref1_bias: function 65 -/
-- NEED 0
/-! ### annealref1_Unpack: function 46 -/
-- NEED 0
/-! ### annealref1_Len: function 66 -/
end Go.Proofs.Ytfapjegkilljnaa.P

/- What the reference's formats are: the same plain numbers. -/
namespace Go.Proofs.Ytfapjegkilljnaa.Round
open Go.RowKit Go.Proofs.Ytfapjegkilljnaa.P Go.Proofs.Ytfapjegkilljnaa.Num Go.Proofs.Ytfapjegkilljnaa.BitsF Go.Proofs.Ytfapjegkilljnaa.Fmt Go.Proofs.YtfapjegkilljnaaW.PrintWords Go.Proofs.YtfapjegkilljnaaW.PrintLast Go.Proofs.YtfapjegkilljnaaW.PrintMore

theorem pK (a b : Nat) : (((a : Int) == (b : Int)) : Bool) = decide (a = b) := by
 by_cases h : a = b
 ·subst h; simp
 ·rw [beq_eq_false_iff_ne.mpr (by omega)]; simp [h]
theorem iM (f : Int) : aV.f f = some ((fe f : Int), (fm f : Int)) := by
 unfold aV.f fe fm
 by_cases h : f = 0
 ·subst h; rfl
 ·rw [if_neg h, if_neg h, if_neg h]
  by_cases h1 : f = 1
  ·subst h1; rfl
  ·rw [if_neg h1, if_neg h1]; rfl
theorem wH (f : Int) (neg : Bool) : dS.f f neg = some (d9 f neg : Int) := by
 unfold dS.f d9
 obtain ⟨b1, b2, b3, b4, b5⟩ := dC f
 rw [iM]; simp only [Option.bind_some]
 cases neg
 ·rfl
 ·simp only [if_true]
  rw [show (fe f : Int) + (fm f : Int) = ((fe f + fm f : Nat) : Int) by omega, bT _ (by omega) (by omega), if_pos (by omega), mD _ b5]
theorem kH (f : Int) (neg : Bool) : aY.f f neg = some (d9 f neg : Int) := by
 unfold aY.f; rw [wH]; rfl
theorem kP (f : Int) (neg : Bool) : nQ f neg < 4294967296 ∧ gW f * 2 ^ fm f + 2 ^ fm f = 2 ^ (fe f + fm f) := by
 obtain ⟨b1, b2, b3, b4, b5⟩ := dC f
 have h31 := dM b5
 have hp := Nat.two_pow_pos (fm f)
 have e : gW f * 2 ^ fm f + 2 ^ fm f = 2 ^ (fe f + fm f) := by
  rw [Nat.pow_add, ← Nat.succ_mul]; congr 1
  unfold gW; have := Nat.two_pow_pos (fe f); omega
 refine ⟨?_, e⟩
 unfold nQ d9; split <;> omega
/- The reference's parts of a number, its class, its whole number and exponent, its place in the order: as plain numbers. -/

def nH (f : Int) (v : Nat) : Nat := v % 2 ^ (fe f + fm f + 1)
theorem low_lt (f : Int) (v : Nat) : nH f v < 2 ^ (fe f + fm f + 1) := Nat.mod_lt _ (Nat.two_pow_pos _)
def maskN (f : Int) : Nat := 2 ^ (fe f + fm f + 1) - 1
theorem mask_lit (n : Nat) (hn : n ≤ 32) : (IntKind.u64.wrap (shl .u64 1 (n : Int) - 1)) % 4294967296 = ((2 ^ n - 1 : Nat) : Int) := by
 have h32 := kZ hn
 have h0 := Nat.two_pow_pos n
 rw [show shl .u64 1 (n : Int) = _ from nV 1 n, Nat.one_mul]
 generalize 2 ^ n = P at *
 rw [Nat.mod_eq_of_lt (by omega), kJ]
 omega
theorem width_f (f : Int) : wrap64 ((wrap64 (1 + (fe f : Int))) + (fm f : Int)) = ((fe f + fm f + 1 : Nat) : Int) := by
 obtain ⟨b1, b2, b3, b4, b5⟩ := dC f
 rw [bT (1 + (fe f : Int)) (by omega) (by omega), bT _ (by omega) (by omega)]; omega
theorem lZ (f : Int) : bZ.f f = some (maskN f : Int) := by
 unfold bZ.f
 have h := dC f
 rw [iM, Option.bind_some]
 dsimp only
 rw [width_f, mask_lit _ (by omega)]
 exact if_pos (Int.natCast_nonneg _)
theorem vI (f : Int) (v : Nat) (hv : v < 4294967296) : Go.bits .and .u32 (v : Int) (maskN f : Int) = (nH f v : Int) := by
 unfold maskN nH
 have h := dC f
 have h32 := kZ (show fe f + fm f + 1 ≤ 32 by omega)
 generalize fe f + fm f + 1 = n at *
 have h0 := Nat.two_pow_pos n
 rw [tC _ _ hv (by omega), Nat.and_two_pow_sub_one_eq_mod]
theorem yY (a n : Nat) (hn : n ≤ 31) : wrap64 ((a % 2 ^ n : Nat) : Int) = ((a % 2 ^ n : Nat) : Int) := by
 have h1 := dM hn
 have h2 := Nat.mod_lt a (Nat.two_pow_pos n)
 generalize a % 2 ^ n = q at *
 exact bT _ (by omega) (by omega)
def bJ (f : Int) (v : Nat) : Nat :=
 if oW f v = 0 then (if lW f v = 0 then 0 else 1) else if oW f v < gW f then 2 else if lW f v = 0 then 3 else if lW f v / 2 ^ (fm f - 1) = 1 then 4 else 5
theorem pR (f : Int) (v : Nat) : bJ f v < 3 ↔ oW f v < gW f := by
 have := gD f
 unfold bJ
 split
 ·split <;> omega
 ·split
  ·omega
  ·split
   ·omega
   ·split <;> omega
def bM (f : Int) (v : Nat) : Nat := if oW f v = 0 then lW f v else lW f v + 2 ^ fm f
def bF (f : Int) (v : Nat) : Int := dH f - fm f + (oW f v - 1 : Nat)
theorem or_top (m n : Nat) (h : m < 2 ^ n) (hn : n ≤ 31) : Go.bits .or .u64 (m : Int) (shl .u64 1 (n : Int)) = ((m + 2 ^ n : Nat) : Int) := by
 have h31 := dM hn
 rw [show (1 : Int) = ((1 : Nat) : Int) from rfl, nV, Nat.one_mul, Nat.mod_eq_of_lt (by omega), or_u64 _ _ (by omega) (by omega), Nat.or_comm, pW _ _ n (by simp) h, Nat.add_comm]
def gZ (f : Int) (v : Nat) : Int := if cZ f v then -1 - ((v % 2 ^ (fe f + fm f) : Nat) : Int) else ((v % 2 ^ (fe f + fm f) : Nat) : Int)
/- The reference's classes and order of any numbers: plain numbers. -/

theorem mod_part (v a b c : Nat) (h : b + c ≤ a) : v % 2 ^ a / 2 ^ b % 2 ^ c = v / 2 ^ b % 2 ^ c := by
 apply Nat.eq_of_testBit_eq
 intro i
 rw [Nat.testBit_mod_two_pow, Nat.testBit_mod_two_pow, Nat.testBit_div_two_pow, Nat.testBit_div_two_pow, Nat.testBit_mod_two_pow]
 by_cases h1 : i < c
 ·have : i + b < a := by omega
  simp [h1, this]
 ·simp [h1]
theorem yM (f : Int) (v : Nat) : cZ f (nH f v) = cZ f v := by
 unfold cZ nH
 have := mod_part v (fe f + fm f + 1) (fe f + fm f) 1 (Nat.le_refl _)
 rw [Nat.pow_one] at this
 rw [this]
def dO (f : Int) (v : Nat) : Bool := decide (4 ≤ bJ f v)
def eZ (f : Int) (v : Nat) : Bool := decide (bJ f v = 5)
theorem pI (f : Int) (v : Nat) : bJ f v ≤ 5 := by
 unfold bJ
 repeat' split
 all_goals omega
def cmpN (f : Int) (a b : Nat) : Int × Bool :=
 if (dO f a || dO f b) = true then (0, false) else if bJ f a = 0 ∧ bJ f b = 0 then (0, true)
 else if gZ f (nH f a) < gZ f (nH f b) then (-1, true) else if gZ f (nH f a) > gZ f (nH f b) then (1, true) else (0, true)
/- The reference's finite numbers: their whole numbers and exponents. -/

/- The program's parts of a number, its class, its whole number and exponent: as plain numbers; the reference's are the same. -/

theorem sum_w (f : Int) : IntKind.u64.wrap (wrap64 ((fe f : Int) + (fm f : Int))) = ((fe f + fm f : Nat) : Int) := by
 have h := dC f
 rw [show (fe f : Int) + (fm f : Int) = ((fe f + fm f : Nat) : Int) by omega, wu _ (by omega)]
theorem qP (f : Int) (v : Nat) (hv : v < 4294967296) : cB.f f (v : Int) = some (cZ f v, (oW f v : Int), (lW f v : Int)) := by
 unfold cB.f
 have h := dC f
 have hd : v / 2 ^ (fe f + fm f) < 4294967296 := Nat.lt_of_le_of_lt (Nat.div_le_self _ _) hv
 have hd' : v / 2 ^ fm f < 4294967296 := Nat.lt_of_le_of_lt (Nat.div_le_self _ _) hv
 rw [fC, Option.bind_some]
 dsimp only
 rw [sum_w, fB (fm f) (by omega), fB (fe f) (by omega), if_pos (Int.natCast_nonneg _), if_pos (Int.natCast_nonneg _), if_pos (Int.natCast_nonneg _), sO _ _ hv, sO _ _ hv, and1_u32 _ hd, vK _ _ hd' (by omega), vK _ _ hv (by omega), yY _ _ (by omega)]
 rw [show (1 : Int) = ((1 : Nat) : Int) from rfl, pK]
 unfold cZ oW lW
 exact Eq.refl _
theorem vQ (k : Nat) (f : Int) (e m : Nat) (he : e ≤ gW f) (hm : m < 2 ^ fm f) (hz : ¬ (e = 0 ∧ m = 0)) :
  aI.j0 (k + 1) f (fm f : Int) (e : Int) (m : Int) false = some (((if e = 0 then (if m = 0 then 0 else 1) else if e < gW f then 2 else if m = 0 then 3 else if m / 2 ^ (fm f - 1) = 1 then 4 else 5 : Nat)) : Int) := by
 have h := dC f
 have h31 := dM (show fm f ≤ 31 by omega)
 rw [aI.j0, if_neg (by decide)]
 by_cases c : e = 0
 ·subst c
  rw [if_pos (by rfl), if_pos rfl, if_neg (fun h => hz ⟨rfl, h⟩)]; rfl
 ·rw [if_neg (by omega), if_neg c, uJ, Option.bind_some]
  by_cases c2 : e < gW f
  ·rw [if_pos (by omega), if_pos c2]; rfl
  ·rw [if_neg (by omega), if_neg c2]
   by_cases c3 : m = 0
   ·rw [if_pos (by omega), if_pos c3]; rfl
   ·rw [if_neg (by omega), if_neg c3, show (fm f : Int) - 1 = ((fm f - 1 : Nat) : Int) by omega, wu _ (by omega), if_pos (Int.natCast_nonneg _), sO _ _ (by omega)]
    by_cases c4 : m / 2 ^ (fm f - 1) = 1
    ·rw [if_pos (by rw [c4]; rfl), if_pos c4]; rfl
    ·rw [if_neg (by omega), if_neg c4]; rfl
theorem kK (f : Int) (v : Nat) (hv : v < 4294967296) : Ev (fun k => aI.f k f (v : Int)) (bJ f v : Int) := by
 have he := xQ f v
 have hm := tH f v
 refine ⟨1, fun k hk => ?_⟩
 obtain ⟨k, rfl⟩ : ∃ j, k = j + 1 := ⟨k - 1, by omega⟩
 show aI.f (k + 1) f (v : Int) = _
 unfold aI.f bJ
 rw [fC, Option.bind_some, qP f v hv, Option.bind_some]
 dsimp only
 generalize oW f v = e at *
 generalize lW f v = m at *
 by_cases c : e = 0 ∧ m = 0
 ·obtain ⟨rfl, rfl⟩ := c
  rw [if_pos (by rfl), aI.j0, if_pos (by rfl), if_pos rfl, if_pos rfl]; rfl
 ·by_cases c2 : e = 0
  ·have e2 : (((m : Int) == 0) : Bool) = false := by simp; omega
   rw [if_pos (by omega), e2, vQ k f e m he hm c]
  ·rw [if_neg (by omega), vQ k f e m he hm c]
theorem mZ (f : Int) (v : Nat) (hv : v < 4294967296) : bG.f f (v : Int) = some (cZ f v) := by
 unfold bG.f; rw [qP f v hv]; rfl
def nO (f : Int) : Nat := gW f * 2 ^ fm f + 2 ^ (fm f - 1)
theorem zZ (f : Int) : 2 ^ (fm f - 1) < 2 ^ fm f := by
 have h := dC f
 exact Nat.pow_lt_pow_right (by decide) (by omega)
theorem nan_f (f : Int) : eU.f f = some (nO f : Int) := by
 unfold eU.f
 have h := dC f
 rw [fC, Option.bind_some, uJ, Option.bind_some]
 dsimp only
 rw [show (fm f : Int) - 1 = ((fm f - 1 : Nat) : Int) by omega, wu _ (by omega), if_pos (Int.natCast_nonneg _), mD _ (by omega), rZ f false _ _ (Nat.le_refl _) (zZ f), Option.bind_some]
 unfold wC nO
 simp [d9]
theorem wV (f : Int) : dJ.f f = some ((nO f : Int), true, false, false, false, false) := by
 unfold dJ.f; rw [nan_f]; rfl
theorem unpack_f (f : Int) (v : Nat) (hv : v < 4294967296) (h : oW f v < gW f) : dW.f f (v : Int) = some (cZ f v, bF f v, (bM f v : Int)) := by
 unfold dW.f bF bM
 obtain ⟨b1, b2, b3, b4, b5⟩ := dC f
 have hm := tH f v
 have h31 := dM (show fm f ≤ 31 by omega)
 have hl := iH f
 have ht := gD f
 rw [fC, Option.bind_some, qP f v hv, Option.bind_some]
 dsimp only
 generalize oW f v = e at *
 generalize lW f v = m at *
 by_cases c : e = 0
 ·subst c
  rw [if_pos (by rfl), mJ, Option.bind_some, if_pos rfl, bT (dH f - fm f) (by omega) (by omega), fB m (by omega)]
  simp
 ·rw [if_neg (by omega), uJ, Option.bind_some, if_neg (by omega), mJ, Option.bind_some, if_neg c, fB (fm f) (by omega), if_pos (Int.natCast_nonneg _), fB m (by omega), or_top m _ hm (by omega), bT (dH f - fm f) (by omega) (by omega), bT (dH f - fm f + e) (by omega) (by omega), bT _ (by omega) (by omega), show dH f - (fm f : Int) + (e : Int) - 1 = dH f - fm f + ((e - 1 : Nat) : Int) by omega]
theorem of_f (f : Int) (v : Nat) (hv : v < 4294967296) (h : oW f v < gW f) : dL.f f (v : Int) = some (cZ f v, bF f v, (bM f v : Int), false) := by
 unfold dL.f; rw [unpack_f f v hv h]; rfl

end Go.Proofs.Ytfapjegkilljnaa.Round

-- Printed by a program of this session's out of Lean's print of the translation; Lean checks it.
namespace Go.Proofs.Ytfapjegkilljnaa.P
open Go.RowKit Go.Proofs.YtfapjegkilljnaaW.PrintWords Go.Proofs.YtfapjegkilljnaaW.PrintLast Go.Proofs.YtfapjegkilljnaaW.PrintMore
attribute [local go_sem] max2_int min2_int max_two min_two max_three min_three max_four min_four

-- NEED 1
/-! ### aA: function 56 -/
mutual
def aA.j0 : Nat → Int → Int → Bool → Int → Int → Bool → Bool → Option (Int × Bool × Bool × Bool × Bool × Bool)
 |0, _, _, _, _, _, _, _ => none
 |k + 1, x0, x1, x2, x3, x4, x5, x29 => if x29 = true then ((bR.f x0 x2).bind fun t242 => (some (t242, false, false, false, false, false))) else ((aR.f x0).bind fun bt243 => ((bN.f k x0 x3 x4).bind fun t245 => ((bC.f k x4 (wrap64 (t245 - x3)) x5).bind fun bt246 => ((eX.f x1 x2 bt246.1 bt246.2).bind fun t248 => (if t248 = true then (aA.j1 k x0 x1 x2 x3 x4 bt243.2 t245 (IntKind.u64.wrap (bt246.1 + 1)) bt246.2) else (aA.j1 k x0 x1 x2 x3 x4 bt243.2 t245 bt246.1 bt246.2))))))
def aA.j1 : Nat → Int → Int → Bool → Int → Int → Int → Int → Int → Int → Option (Int × Bool × Bool × Bool × Bool × Bool)
 |0, _, _, _, _, _, _, _, _, _ => none
 |k + 1, x0, x1, x2, x3, x4, x15, x16, x17, x18 => if 0 ≤ (IntKind.u64.wrap (wrap64 (x15 + 1))) then (if (shr .u64 x17 (IntKind.u64.wrap (wrap64 (x15 + 1)))) = 0 then (aA.j2 k x0 x1 x2 x3 x4 x15 x16 x17 x18) else (aA.j2 k x0 x1 x2 x3 x4 x15 (wrap64 (x16 + 1)) (x17 / 2) x18)) else (none)
def aA.j2 : Nat → Int → Int → Bool → Int → Int → Int → Int → Int → Int → Option (Int × Bool × Bool × Bool × Bool × Bool)
 |0, _, _, _, _, _, _, _, _, _ => none
 |k + 1, x0, x1, x2, x3, x4, x15, x16, x17, x18 => (bE.f x0).bind fun t249 => (if 0 ≤ (IntKind.u64.wrap (x15)) then (if (shr .u64 x17 (IntKind.u64.wrap (x15))) = 0 then (aA.j3 k x0 x1 x2 x3 x4 x15 x17 x18 0) else (aA.j3 k x0 x1 x2 x3 x4 x15 x17 x18 (wrap64 ((wrap64 ((wrap64 (x16 + x15)) - t249)) + 1)))) else (none))
def aA.j3 : Nat → Int → Int → Bool → Int → Int → Int → Int → Int → Int → Option (Int × Bool × Bool × Bool × Bool × Bool)
 |0, _, _, _, _, _, _, _, _, _ => none
 |k + 1, x0, x1, x2, x3, x4, x15, x17, x18, x19 => (bP.f x0).bind fun t250 => (if x19 ≥ t250 then ((aX.f x0 x1 x2).bind fun bt251 => (some (bt251.1, bt251.2.1, bt251.2.2.1, bt251.2.2.2.1, bt251.2.2.2.2.1, bt251.2.2.2.2.2))) else (if x18 = 0 then ((dX.f x17 x15).bind fun t258 => ((aZ.f x0 x2 x19 ((t258) % 4294967296)).bind fun t259 => (some (t259, false, false, false, false, (x18 != 0))))) else (if x4 = 0 then ((dX.f x17 x15).bind fun t260 => ((aZ.f x0 x2 x19 ((t260) % 4294967296)).bind fun t261 => (some (t261, false, false, false, true, (x18 != 0))))) else ((bits_Len.f k x4).bind fun t262 => ((bE.f x0).bind fun t263 => ((dX.f x17 x15).bind fun t264 => ((aZ.f x0 x2 x19 ((t264) % 4294967296)).bind fun t265 => (some (t265, false, false, false, decide ((wrap64 ((wrap64 (x3 + t262)) - 1)) < t263), (x18 != 0))))))))))
end
def aA.f (k : Nat) (a0 a1 : Int) (a2 : Bool) (a3 a4 : Int) (a5 : Bool) : Option (Int × Bool × Bool × Bool × Bool × Bool) := if a4 = 0 then (aA.j0 k a0 a1 a2 (mn (mx a3 (-10000)) 10000) a4 a5 (!a5)) else (aA.j0 k a0 a1 a2 (mn (mx a3 (-10000)) 10000) a4 a5 false)
theorem aA.fU : ∀ k, (∀ y0 y1 y2 y3 y4 y5 y6, LeO (aA.j0 k y0 y1 y2 y3 y4 y5 y6) (aA.j0 (k + 1) y0 y1 y2 y3 y4 y5 y6)) ∧ (∀ y0 y1 y2 y3 y4 y5 y6 y7 y8, LeO (aA.j1 k y0 y1 y2 y3 y4 y5 y6 y7 y8) (aA.j1 (k + 1) y0 y1 y2 y3 y4 y5 y6 y7 y8)) ∧ (∀ y0 y1 y2 y3 y4 y5 y6 y7 y8, LeO (aA.j2 k y0 y1 y2 y3 y4 y5 y6 y7 y8) (aA.j2 (k + 1) y0 y1 y2 y3 y4 y5 y6 y7 y8)) ∧ (∀ y0 y1 y2 y3 y4 y5 y6 y7 y8, LeO (aA.j3 k y0 y1 y2 y3 y4 y5 y6 y7 y8) (aA.j3 (k + 1) y0 y1 y2 y3 y4 y5 y6 y7 y8))
 |0 => ⟨fun _ _ _ _ _ _ _ r h => by simp [aA.j0] at h, fun _ _ _ _ _ _ _ _ _ r h => by simp [aA.j1] at h, fun _ _ _ _ _ _ _ _ _ r h => by simp [aA.j2] at h, fun _ _ _ _ _ _ _ _ _ r h => by simp [aA.j3] at h⟩
 |k + 1 => by
  obtain ⟨ih0, ih1, ih2, ih3⟩ := aA.fU k
  refine ⟨?_, ?_, ?_, ?_⟩
  ·intro y0 y1 y2 y3 y4 y5 y6
   unfold aA.j0
   repeat' first
   |(with_reducible first|exact ih0 _ _ _ _ _ _ _|exact ih1 _ _ _ _ _ _ _ _ _|exact ih2 _ _ _ _ _ _ _ _ _|exact ih3 _ _ _ _ _ _ _ _ _|exact bits_Len.mono _ _|exact bN.mono _ _ _ _|exact bC.mono _ _ _ _|exact LeO.refl _|exact LeO.none _|refine LeO.ite ?_ ?_|refine LeO.bind ?_ (fun _ => ?_))
   |exact ih0 _ _ _ _ _ _ _
   |exact ih1 _ _ _ _ _ _ _ _ _
   |exact ih2 _ _ _ _ _ _ _ _ _
   |exact ih3 _ _ _ _ _ _ _ _ _
   |exact bits_Len.mono _ _
   |exact bN.mono _ _ _ _
   |exact bC.mono _ _ _ _
   |exact LeO.none _
   |refine LeO.ite ?_ ?_
   |refine LeO.bind ?_ (fun _ => ?_)
  ·intro y0 y1 y2 y3 y4 y5 y6 y7 y8
   unfold aA.j1
   repeat' first
   |(with_reducible first|exact ih0 _ _ _ _ _ _ _|exact ih1 _ _ _ _ _ _ _ _ _|exact ih2 _ _ _ _ _ _ _ _ _|exact ih3 _ _ _ _ _ _ _ _ _|exact bits_Len.mono _ _|exact bN.mono _ _ _ _|exact bC.mono _ _ _ _|exact LeO.refl _|exact LeO.none _|refine LeO.ite ?_ ?_|refine LeO.bind ?_ (fun _ => ?_))
   |exact ih0 _ _ _ _ _ _ _
   |exact ih1 _ _ _ _ _ _ _ _ _
   |exact ih2 _ _ _ _ _ _ _ _ _
   |exact ih3 _ _ _ _ _ _ _ _ _
   |exact bits_Len.mono _ _
   |exact bN.mono _ _ _ _
   |exact bC.mono _ _ _ _
   |exact LeO.none _
   |refine LeO.ite ?_ ?_
   |refine LeO.bind ?_ (fun _ => ?_)
  ·intro y0 y1 y2 y3 y4 y5 y6 y7 y8
   unfold aA.j2
   repeat' first
   |(with_reducible first|exact ih0 _ _ _ _ _ _ _|exact ih1 _ _ _ _ _ _ _ _ _|exact ih2 _ _ _ _ _ _ _ _ _|exact ih3 _ _ _ _ _ _ _ _ _|exact bits_Len.mono _ _|exact bN.mono _ _ _ _|exact bC.mono _ _ _ _|exact LeO.refl _|exact LeO.none _|refine LeO.ite ?_ ?_|refine LeO.bind ?_ (fun _ => ?_))
   |exact ih0 _ _ _ _ _ _ _
   |exact ih1 _ _ _ _ _ _ _ _ _
   |exact ih2 _ _ _ _ _ _ _ _ _
   |exact ih3 _ _ _ _ _ _ _ _ _
   |exact bits_Len.mono _ _
   |exact bN.mono _ _ _ _
   |exact bC.mono _ _ _ _
   |exact LeO.none _
   |refine LeO.ite ?_ ?_
   |refine LeO.bind ?_ (fun _ => ?_)
  ·intro y0 y1 y2 y3 y4 y5 y6 y7 y8
   unfold aA.j3
   repeat' first
   |(with_reducible first|exact ih0 _ _ _ _ _ _ _|exact ih1 _ _ _ _ _ _ _ _ _|exact ih2 _ _ _ _ _ _ _ _ _|exact ih3 _ _ _ _ _ _ _ _ _|exact bits_Len.mono _ _|exact bN.mono _ _ _ _|exact bC.mono _ _ _ _|exact LeO.refl _|exact LeO.none _|refine LeO.ite ?_ ?_|refine LeO.bind ?_ (fun _ => ?_))
   |exact ih0 _ _ _ _ _ _ _
   |exact ih1 _ _ _ _ _ _ _ _ _
   |exact ih2 _ _ _ _ _ _ _ _ _
   |exact ih3 _ _ _ _ _ _ _ _ _
   |exact bits_Len.mono _ _
   |exact bN.mono _ _ _ _
   |exact bC.mono _ _ _ _
   |exact LeO.none _
   |refine LeO.ite ?_ ?_
   |refine LeO.bind ?_ (fun _ => ?_)
theorem aA.mono : ∀ a0 a1 a2 a3 a4 a5 k, LeO (aA.f k a0 a1 a2 a3 a4 a5) (aA.f (k + 1) a0 a1 a2 a3 a4 a5) := by
 intro a0 a1 a2 a3 a4 a5 k
 obtain ⟨ih0, ih1, ih2, ih3⟩ := aA.fU k
 unfold aA.f
 repeat' first
   |(with_reducible first|exact ih0 _ _ _ _ _ _ _|exact ih1 _ _ _ _ _ _ _ _ _|exact ih2 _ _ _ _ _ _ _ _ _|exact ih3 _ _ _ _ _ _ _ _ _|exact bits_Len.mono _ _|exact bN.mono _ _ _ _|exact bC.mono _ _ _ _|exact LeO.refl _|exact LeO.none _|refine LeO.ite ?_ ?_|refine LeO.bind ?_ (fun _ => ?_))
   |exact ih0 _ _ _ _ _ _ _
   |exact ih1 _ _ _ _ _ _ _ _ _
   |exact ih2 _ _ _ _ _ _ _ _ _
   |exact ih3 _ _ _ _ _ _ _ _ _
   |exact bits_Len.mono _ _
   |exact bN.mono _ _ _ _
   |exact bC.mono _ _ _ _
   |exact LeO.none _
   |refine LeO.ite ?_ ?_
   |refine LeO.bind ?_ (fun _ => ?_)

end Go.Proofs.Ytfapjegkilljnaa.P

/- What the program's rounding computes, as plain numbers. -/
namespace Go.Proofs.Ytfapjegkilljnaa.Round
open Go.RowKit Go.Proofs.Ytfapjegkilljnaa.P Go.Proofs.Ytfapjegkilljnaa.Num Go.Proofs.Ytfapjegkilljnaa.BitsF Go.Proofs.Ytfapjegkilljnaa.Fmt Go.Proofs.YtfapjegkilljnaaW.PrintWords Go.Proofs.YtfapjegkilljnaaW.PrintLast Go.Proofs.YtfapjegkilljnaaW.PrintMore

def nG (s : Nat) (d : Int) : Nat := if d ≤ 0 then s * 2 ^ (-d).toNat else s / 2 ^ d.toNat
def jR (s : Nat) (d : Int) (more : Bool) : Nat :=
 if d ≤ 0 ∨ s % 2 ^ d.toNat = 0 then (if more then 1 else 0)
 else if s / 2 ^ (d.toNat - 1) % 2 = 0 then 1 else if s % 2 ^ (d.toNat - 1) ≠ 0 ∨ more = true then 3 else 2
def upN (mode : Int) (neg : Bool) (q left : Nat) : Bool :=
 if mode = 1 then false else if mode = 2 then (!neg && decide (left ≠ 0)) else if mode = 3 then (neg && decide (left ≠ 0))
 else if mode = 4 then decide (2 ≤ left) else (decide (left = 3) || (decide (left = 2) && decide (q % 2 = 1)))
def jD (f x : Int) (s : Nat) : Nat := if s = 0 then 0 else (x + iG s - 1 - dH f).toNat
def eY (f x : Int) (s : Nat) : Int := dH f - fm f + jD f x s
def keyN (f mode : Int) (neg : Bool) (x : Int) (s : Nat) (more : Bool) : Nat :=
 jD f x s * 2 ^ fm f + nG s (eY f x s - x) + (if upN mode neg (nG s (eY f x s - x)) (jR s (eY f x s - x) more) then 1 else 0)
def kD (f : Int) (k : Nat) : Bool := decide (gW f * 2 ^ fm f ≤ k)
def l7 (mode : Int) (neg : Bool) : Bool := if mode = 1 then false else if mode = 2 then !neg else if mode = 3 then neg else true
def inexN (f x : Int) (s : Nat) (more : Bool) : Bool := decide (jR s (eY f x s - x) more ≠ 0)
def xX (f x : Int) (s : Nat) (more : Bool) : Bool := inexN f x s more && (decide (s = 0) || decide (x + iG s - 1 < dH f))
def mW (f mode : Int) (neg : Bool) (x : Int) (s : Nat) (more : Bool) : Nat :=
 (if kD f (keyN f mode neg x s more) then (if l7 mode neg then gW f * 2 ^ fm f else gW f * 2 ^ fm f - 1) else keyN f mode neg x s more) + d9 f neg
def excN (f mode : Int) (neg : Bool) (x : Int) (s : Nat) (more : Bool) : Bool × Bool × Bool :=
 if kD f (keyN f mode neg x s more) then (true, false, true) else (false, xX f x s more, inexN f x s more)
def jS (x : Int) : Int := mn (mx x (-10000)) 10000
theorem qY (x : Int) : -10000 ≤ jS x ∧ jS x ≤ 10000 := by
 unfold jS mn mx; split <;> split <;> omega
theorem jV (x : Int) (h : -10000 ≤ x) (h' : x ≤ 10000) : jS x = x := by
 unfold jS mn mx; split <;> split <;> omega

theorem unit_f (k : Nat) (f x : Int) (s : Nat) (hs : s < 18446744073709551616) (h1 : -10000 ≤ x) (h2 : x ≤ 10000) : bN.f (k + 1) f x (s : Int) = some (eY f x s) := by
 unfold bN.f eY jD
 obtain ⟨b1, b2, b3, b4, b5⟩ := dC f
 have hl := iH f
 have hn := l6 s hs
 simp only [fC, mJ, Option.bind_some]
 by_cases c : s = 0
 ·subst c
  rw [if_neg (by decide), if_pos rfl, bT _ (by omega) (by omega)]; simp
 ·rw [if_pos (by omega), if_neg c, len_f k s hs]
  simp only [Option.bind_some]
  rw [bT (x + _) (by omega) (by omega), bT (x + _ - 1) (by omega) (by omega)]
  unfold mx
  split
  ·rw [bT _ (by omega) (by omega)]; congr 1; omega
  ·rw [bT _ (by omega) (by omega)]; congr 1; omega
theorem quo_lt (s : Nat) (d : Int) (h : d ≤ 0) (h' : s * 2 ^ (-d).toNat < 18446744073709551616) : s * 2 ^ (-d).toNat % 18446744073709551616 = nG s d := by
 unfold nG; rw [if_pos h, Nat.mod_eq_of_lt h']
theorem left_le (s : Nat) (d : Int) (more : Bool) : jR s d more ≤ 3 := by
 unfold jR; split
 ·split <;> omega
 ·split
  ·omega
  ·split <;> omega
theorem wN (v : Nat) (n : Int) : (jF v n).1 = if 0 ≤ n then v / 2 ^ n.toNat else v * 2 ^ (-n).toNat % 18446744073709551616 := by
 unfold jF; split <;> rfl
theorem lG {s : Nat} {d : Int} (more : Bool) (h : d ≤ 0 ∨ s % 2 ^ d.toNat = 0) : jR s d more = if more then 1 else 0 := by
 unfold jR; rw [if_pos h]
theorem aAi {s : Nat} {d : Int} (more : Bool) (h : ¬ d ≤ 0) (h' : ¬ s % 2 ^ d.toNat = 0) :
  jR s d more = if s / 2 ^ (d.toNat - 1) % 2 = 0 then 1 else if s % 2 ^ (d.toNat - 1) ≠ 0 ∨ more = true then 3 else 2 := by
 unfold jR; rw [if_neg (not_or.mpr ⟨h, h'⟩)]
theorem units_f (k s : Nat) (hs : s < 18446744073709551616) (d : Int) (h1 : -100000 ≤ d) (h2 : d ≤ 100000) (more : Bool) (hq : d ≤ 0 → s * 2 ^ (-d).toNat < 18446744073709551616) :
  bC.f (k + 1) (s : Int) d more = some ((nG s d : Int), (jR s d more : Int)) := by
 unfold bC.f
 by_cases c : d ≤ 0
 ·rw [if_pos c, qM s hs d (by omega) (by omega)]
  have e : (jF s d).1 = nG s d := by
   rw [wN]
   by_cases c0 : 0 ≤ d
   ·obtain rfl : d = 0 := by omega
    unfold nG; simp
   ·rw [if_neg c0]; exact quo_lt s d c (hq c)
  simp only [Option.bind_some, e]
  rw [lG more (.inl c)]
  cases more <;> rfl
 ·rw [if_neg c]
  obtain ⟨m, rfl⟩ := kX (show 0 ≤ d by omega)
  have hm : (m : Int) - 1 = ((m - 1 : Nat) : Int) := by omega
  rw [qM s hs _ (by omega) (by omega), bT _ (by omega) (by omega), hm, qM s hs _ (by omega) (by omega)]
  simp only [Option.bind_some, iJ]
  have hqe : nG s (m : Int) = s / 2 ^ m := by unfold nG; rw [if_neg c, Int.toNat_natCast]
  have hd : s / 2 ^ (m - 1) < 18446744073709551616 := Nat.lt_of_le_of_lt (Nat.div_le_self _ _) hs
  rw [hqe]
  by_cases z : s % 2 ^ m = 0
  ·have hl : jR s (m : Int) more = if more then 1 else 0 := lG more (.inr (by rw [Int.toNat_natCast]; exact z))
   rw [hl, if_neg (by simp [z])]
   cases more <;> rfl
  ·have hl : jR s (m : Int) more = _ := aAi more c (by rw [Int.toNat_natCast]; exact z)
   rw [Int.toNat_natCast] at hl
   rw [hl, if_pos (by simp [z]), uZ _ hd]
   by_cases y : s / 2 ^ (m - 1) % 2 = 0
   ·simp only [y, if_true, Int.natCast_zero]; rfl
   ·simp only [y, if_false]
    rw [if_neg (by omega)]
    by_cases w : s % 2 ^ (m - 1) = 0
    ·simp only [w, ne_eq, not_true_eq_false, decide_false, Bool.false_eq_true, if_false, false_or]
     cases more <;> rfl
    ·simp only [w, ne_eq, not_false_eq_true, decide_true, if_true, true_or]; rfl
theorem up_f (mode : Int) (neg : Bool) (q left : Nat) (hq : q < 18446744073709551616) : eX.f mode neg (q : Int) (left : Int) = some (upN mode neg q left) := by
 unfold eX.f upN
 have eb : (((left : Int) != 0) : Bool) = decide (left ≠ 0) := by rw [show (0 : Int) = ((0 : Nat) : Int) from rfl, bne_cast]
 have e1 : ((Go.bits .and .u64 (q : Int) 1 == 1) : Bool) = decide (q % 2 = 1) := by
  rw [uZ q hq, show (1 : Int) = ((1 : Nat) : Int) from rfl]
  by_cases h : q % 2 = 1
  ·rw [h]; rfl
  ·rw [decide_eq_false h, beq_eq_false_iff_ne]; omega
 rw [eb, e1]
 by_cases m1 : mode = 1
 ·rw [if_pos m1, if_pos m1]
 ·rw [if_neg m1, if_neg m1]
  by_cases m2 : mode = 2
  ·rw [if_pos m2, if_pos m2]; cases neg <;> simp
  ·rw [if_neg m2, if_neg m2]
   by_cases m3 : mode = 3
   ·rw [if_pos m3, if_pos m3]; cases neg <;> simp
   ·rw [if_neg m3, if_neg m3]
    by_cases m4 : mode = 4
    ·rw [if_pos m4, if_pos m4]; congr 1; apply decide_eq_decide.mpr; omega
    ·rw [if_neg m4, if_neg m4]
     by_cases l3 : left = 3
     ·subst l3; rfl
     ·rw [if_neg (by omega), decide_eq_false l3, Bool.false_or]
      by_cases l2 : left = 2
      ·subst l2; simp
      ·rw [if_neg (by omega), decide_eq_false l2, Bool.false_and]
theorem beyond_f (f mode : Int) (neg : Bool) : aX.f f mode neg = some (((if l7 mode neg then nQ f neg else vJ f neg : Nat) : Int), false, false, true, false, true) := by
 unfold aX.f l7
 simp only [wK, sV, Option.bind_some]
 by_cases m1 : mode = 1
 ·rw [if_pos m1, if_pos m1]; rfl
 ·rw [if_neg m1, if_neg m1]
  by_cases m2 : mode = 2
  ·rw [if_pos m2, if_pos m2]; cases neg <;> rfl
  ·rw [if_neg m2, if_neg m2]
   by_cases m3 : mode = 3
   ·rw [if_pos m3, if_pos m3]; cases neg <;> rfl
   ·rw [if_neg m3, if_neg m3]; rfl

theorem wF (f x : Int) (s : Nat) : nG s (eY f x s - x) < 2 ^ (fm f + 1) ∧ (jD f x s ≠ 0 → 2 ^ fm f ≤ nG s (eY f x s - x)) := by
 obtain ⟨b1, b2, b3, b4, b5⟩ := dC f
 by_cases c : s = 0
 ·subst c
  have : jD f x 0 = 0 := by unfold jD; rw [if_pos rfl]
  refine ⟨?_, fun h => absurd this h⟩
  have h0 := Nat.two_pow_pos (fm f + 1)
  unfold nG; split <;> simp [h0]
 ·have hlt := qC s
  have hle := qZ s c
  have hpos := nM s c
  have hr : jD f x s = (x + iG s - 1 - dH f).toNat := by unfold jD; rw [if_neg c]
  unfold eY nG
  generalize iG s = L at *
  by_cases d : dH f - (fm f : Int) + (jD f x s : Int) - x ≤ 0
  ·rw [if_pos d]
   obtain ⟨j, hj⟩ := kX (show 0 ≤ -(dH f - (fm f : Int) + (jD f x s : Int) - x) by omega)
   rw [hj, Int.toNat_natCast]
   have hjL : L + j ≤ fm f + 1 := by omega
   constructor
   ·calc s * 2 ^ j < 2 ^ L * 2 ^ j := Nat.mul_lt_mul_of_pos_right hlt (Nat.two_pow_pos _)
     _ = 2 ^ (L + j) := (Nat.pow_add ..).symm
     _ ≤ 2 ^ (fm f + 1) := Nat.pow_le_pow_right (by decide) hjL
   ·intro h
    calc 2 ^ fm f = 2 ^ (L - 1) * 2 ^ j := by rw [← Nat.pow_add]; congr 1; omega
     _ ≤ s * 2 ^ j := Nat.mul_le_mul_right _ hle
  ·rw [if_neg d]
   obtain ⟨j, hj⟩ := kX (show 0 ≤ dH f - (fm f : Int) + (jD f x s : Int) - x by omega)
   rw [hj, Int.toNat_natCast]
   constructor
   ·rw [Nat.div_lt_iff_lt_mul (Nat.two_pow_pos _), ← Nat.pow_add]
    exact Nat.lt_of_lt_of_le hlt (Nat.pow_le_pow_right (by decide) (by omega))
   ·intro h
    rw [Nat.le_div_iff_mul_le (Nat.two_pow_pos _), ← Nat.pow_add]
    exact Nat.le_trans (Nat.pow_le_pow_right (by decide) (by omega)) hle
theorem uE (f x : Int) (s : Nat) (hs : s < 18446744073709551616) (h1 : -10000 ≤ x) (h2 : x ≤ 10000) : -200 ≤ eY f x s ∧ eY f x s ≤ 10100 ∧ jD f x s ≤ 10200 := by
 obtain ⟨b1, b2, b3, b4, b5⟩ := dC f
 have hl := iH f
 have hn := l6 s hs
 unfold eY
 have hr : jD f x s = 0 ∨ (jD f x s : Int) = x + iG s - 1 - dH f := by
  unfold jD; split
  ·left; rfl
  ·omega
 omega
theorem exc_cast (l : Nat) : (((l : Int) != 0) : Bool) = decide (l ≠ 0) := by rw [show (0 : Int) = ((0 : Nat) : Int) from rfl, bne_cast]

theorem sZ (k : Nat) (f mode : Int) (neg : Bool) (x : Int) (s q l a : Nat) (hs : s < 18446744073709551616) (hq : q < 18446744073709551616) (h1 : -10000 ≤ x) (h2 : x ≤ 10000) (K : Nat)
  (hK : K = a * 2 ^ fm f + q % 2 ^ fm f) :
  aA.j3 (k + 2) f mode neg x (s : Int) (fm f : Int) (q : Int) (l : Int) (a : Int) = some
   ((((if kD f K then (if l7 mode neg then gW f * 2 ^ fm f else gW f * 2 ^ fm f - 1) else K) + d9 f neg : Nat) : Int), false, false,
    kD f K, !kD f K && (decide (l ≠ 0) && (decide (s = 0) || decide (x + iG s - 1 < dH f))), kD f K || decide (l ≠ 0)) := by
 obtain ⟨b1, b2, b3, b4, b5⟩ := dC f
 have hp := Nat.two_pow_pos (fm f)
 have hm : q % 2 ^ fm f < 2 ^ fm f := Nat.mod_lt _ hp
 have h31 := dM (show fm f ≤ 31 by omega)
 have ho : (a : Int) ≥ (gW f : Int) ↔ kD f K = true := by
  unfold kD
  rw [decide_eq_true_iff, hK]
  constructor
  ·intro h
   have : gW f * 2 ^ fm f ≤ a * 2 ^ fm f := Nat.mul_le_mul_right _ (by omega)
   omega
  ·intro h
   rcases Nat.lt_or_ge a (gW f) with c | c
   ·have : (a + 1) * 2 ^ fm f ≤ gW f * 2 ^ fm f := Nat.mul_le_mul_right _ c
    rw [Nat.add_mul, Nat.one_mul] at this; omega
   ·omega
 rw [aA.j3, uJ]
 simp only [Option.bind_some]
 by_cases c : (a : Int) ≥ (gW f : Int)
 ·rw [if_pos c, beyond_f, ho.mp c]
  simp only [Option.bind_some, if_true, Bool.not_true, Bool.false_and, Bool.true_or]
  congr 2
  unfold nQ vJ
  split <;> rfl
 ·rw [if_neg c]
  have co : kD f K = false := by simpa using fun h => c (ho.mpr h)
  have ec : dX.f (q : Int) (fm f : Int) = some ((q % 2 ^ fm f : Nat) : Int) := by
   rw [cut_f q hq _ (by omega)]; unfold cutN; rw [if_neg (by omega), Int.toNat_natCast]
  have ej : aZ.f f neg (a : Int) (((q % 2 ^ fm f : Nat) : Int) % 4294967296) = some ((K + d9 f neg : Nat) : Int) := by
   rw [show ((q % 2 ^ fm f : Nat) : Int) % 4294967296 = ((q % 2 ^ fm f : Nat) : Int) by omega, rZ f neg _ _ (by omega) hm, hK]; rfl
  rw [co, ec]
  simp only [Option.bind_some, ej, Bool.false_eq_true, if_false, Bool.not_false, Bool.true_and, Bool.false_or, exc_cast]
  by_cases l0 : l = 0
  ·subst l0; simp
  ·rw [if_neg (by omega)]
   by_cases s0 : s = 0
   ·subst s0; simp [l0]
   ·have hn := l6 s hs
    rw [if_neg (by omega), len_f (k) s hs, mJ]
    simp only [Option.bind_some]
    rw [bT (x + _) (by omega) (by omega), bT _ (by omega) (by omega)]
    simp [l0, s0]
theorem pack_j1 (k : Nat) (f mode : Int) (neg : Bool) (x : Int) (s q l U : Nat) (hU : U ≤ 10200) (hs : s < 18446744073709551616) (hq : q ≤ 2 ^ (fm f + 1)) (hq' : U ≠ 0 → 2 ^ fm f ≤ q) (h1 : -10000 ≤ x) (h2 : x ≤ 10000) (K : Nat)
  (hK : K = U * 2 ^ fm f + q) :
  aA.j1 (k + 4) f mode neg x (s : Int) (fm f : Int) (dH f - fm f + U) (q : Int) (l : Int) = some
   ((((if kD f K then (if l7 mode neg then gW f * 2 ^ fm f else gW f * 2 ^ fm f - 1) else K) + d9 f neg : Nat) : Int), false, false,
    kD f K, !kD f K && (decide (l ≠ 0) && (decide (s = 0) || decide (x + iG s - 1 < dH f))), kD f K || decide (l ≠ 0)) := by
 obtain ⟨b1, b2, b3, b4, b5⟩ := dC f
 have hl := iH f
 have hp := Nat.two_pow_pos (fm f)
 have h31 := dM (show fm f + 1 ≤ 31 by omega)
 have hq64 : q < 18446744073709551616 := by omega
 have e1 : wrap64 ((fm f : Int) + 1) = ((fm f + 1 : Nat) : Int) := by rw [bT] <;> omega
 have hsucc : 2 ^ (fm f + 1) = 2 * 2 ^ fm f := by rw [Nat.pow_succ, Nat.mul_comm]
 rw [aA.j1, e1, fB _ (by omega), if_pos (by omega), oG _ _ hq64]
 by_cases c : q = 2 ^ (fm f + 1)
 ·have hd : q / 2 ^ (fm f + 1) = 1 := by rw [c, Nat.div_self (by omega)]
  rw [hd, if_neg (by decide), bT _ (by omega) (by omega), show (q : Int) / 2 = ((2 ^ fm f : Nat) : Int) by omega, aA.j2, mJ]
  simp only [Option.bind_some]
  rw [fB _ (by omega), if_pos (by omega), oG _ _ (by omega), Nat.div_self hp, if_neg (by decide)]
  rw [show dH f - (fm f : Int) + (U : Int) + 1 + (fm f : Int) = dH f + (U : Int) + 1 by omega, bT (dH f + (U : Int) + 1) (by omega) (by omega), bT (dH f + (U : Int) + 1 - dH f) (by omega) (by omega), bT _ (by omega) (by omega), show dH f + (U : Int) + 1 - dH f + 1 = ((U + 2 : Nat) : Int) by omega]
  exact sZ k f mode neg x s _ l (U + 2) hs (by omega) h1 h2 K (by rw [hK, c, hsucc, Nat.mod_self, Nat.add_mul]; omega)
 ·have hd : q / 2 ^ (fm f + 1) = 0 := Nat.div_eq_of_lt (by omega)
  rw [hd, if_pos (by decide), aA.j2, mJ]
  simp only [Option.bind_some]
  rw [fB _ (by omega), if_pos (by omega), oG _ _ hq64]
  by_cases c2 : q < 2 ^ fm f
  ·have hU0 : U = 0 := by
    rcases Nat.eq_zero_or_pos U with h | h
    ·exact h
    ·have := hq' (by omega); omega
   subst hU0
   rw [Nat.div_eq_of_lt c2, if_pos (by decide)]
   have h := sZ k f mode neg x s q l 0 hs hq64 h1 h2 K (by rw [hK, Nat.mod_eq_of_lt c2])
   rw [show ((0 : Nat) : Int) = 0 from rfl] at h
   exact h
  ·have hd1 : q / 2 ^ fm f = 1 := Nat.div_eq_of_lt_le (by omega) (by omega)
   rw [hd1, if_neg (by decide)]
   rw [show dH f - (fm f : Int) + (U : Int) + (fm f : Int) = dH f + (U : Int) by omega, bT (dH f + (U : Int)) (by omega) (by omega), bT (dH f + (U : Int) - dH f) (by omega) (by omega), bT _ (by omega) (by omega), show dH f + (U : Int) - dH f + 1 = ((U + 1 : Nat) : Int) by omega]
   have hm1 : q % 2 ^ fm f = q - 2 ^ fm f := by
    have := Nat.div_add_mod q (2 ^ fm f)
    rw [hd1, Nat.mul_one] at this; omega
   exact sZ k f mode neg x s q l (U + 1) hs hq64 h1 h2 K (by rw [hK, hm1, Nat.add_mul]; omega)
theorem pack_f (k : Nat) (f mode : Int) (neg : Bool) (x : Int) (s : Nat) (more : Bool) (hs : s < 18446744073709551616) :
  aA.f (k + 5) f mode neg x (s : Int) more = some ((mW f mode neg (jS x) s more : Int), false, false, excN f mode neg (jS x) s more) := by
 unfold aA.f
 have hc : mn (mx x (-10000)) 10000 = jS x := rfl
 obtain ⟨h1, h2⟩ := qY x
 rw [hc]
 generalize jS x = x at *
 by_cases z : s = 0 ∧ more = false
 ·obtain ⟨rfl, rfl⟩ := z
  rw [if_pos (by decide), aA.j0]
  simp only [Bool.not_false, if_true]
  rw [rQ]
  have hk : keyN f mode neg x 0 false = 0 := by
   unfold keyN
   have hr : jD f x 0 = 0 := by unfold jD; rw [if_pos rfl]
   have hq : nG 0 (eY f x 0 - x) = 0 := by unfold nG; split <;> simp
   have hl : jR 0 (eY f x 0 - x) false = 0 := by rw [lG _ (.inr (by simp))]; rfl
   rw [hr, hq, hl]
   have : upN mode neg 0 0 = false := by unfold upN; simp
   rw [this]; simp
  have hl : jR 0 (eY f x 0 - x) false = 0 := by rw [lG _ (.inr (by simp))]; rfl
  have ho : kD f 0 = false := by
   unfold kD
   have := gD f
   have := Nat.two_pow_pos (fm f)
   rw [decide_eq_false_iff_not]
   have : 0 < gW f * 2 ^ fm f := Nat.mul_pos (by omega) (by omega)
   omega
  unfold mW excN xX inexN
  rw [hk, ho, hl]; simp
 ·have hj : (if (s : Int) = 0 then aA.j0 (k + 5) f mode neg x (s : Int) more (!more) else aA.j0 (k + 5) f mode neg x (s : Int) more false) = aA.j0 (k + 5) f mode neg x (s : Int) more false := by
   by_cases c : (s : Int) = 0
   ·rw [if_pos c]
    cases more
    ·exact absurd ⟨by omega, rfl⟩ z
    ·rfl
   ·rw [if_neg c]
  rw [hj, aA.j0, if_neg (by decide), fC]
  obtain ⟨u1, u2, u3⟩ := uE f x s hs h1 h2
  obtain ⟨q1, q2⟩ := wF f x s
  obtain ⟨b1, b2, b3, b4, b5⟩ := dC f
  have h31 := dM (show fm f + 1 ≤ 31 by omega)
  have hll := left_le s (eY f x s - x) more
  have hq64 : nG s (eY f x s - x) < 18446744073709551616 := by omega
  have hd : eY f x s - x ≤ 0 → s * 2 ^ (-(eY f x s - x)).toNat < 18446744073709551616 := by
   intro h; have := hq64; unfold nG at this; rw [if_pos h] at this; exact this
  simp only [Option.bind_some]
  rw [unit_f _ f x s hs h1 h2]
  simp only [Option.bind_some]
  rw [bT _ (by omega) (by omega), units_f _ s hs _ (by omega) (by omega) more hd]
  simp only [Option.bind_some]
  rw [up_f _ _ _ _ hq64]
  simp only [Option.bind_some]
  have hun : eY f x s = dH f - fm f + (jD f x s : Nat) := rfl
  have key : ∀ up : Bool, aA.j1 (k + 4) f mode neg x (s : Int) (fm f : Int) (eY f x s) ((nG s (eY f x s - x) + (if up then 1 else 0) : Nat) : Int) (jR s (eY f x s - x) more : Int) = _ :=
   fun up => pack_j1 k f mode neg x s _ _ (jD f x s) u3 hs (by split <;> omega) (fun h => Nat.le_trans (q2 h) (Nat.le_add_right _ _)) h1 h2 _ rfl
  have res : ∀ up : Bool, up = upN mode neg (nG s (eY f x s - x)) (jR s (eY f x s - x) more) → aA.j1 (k + 4) f mode neg x (s : Int) (fm f : Int) (eY f x s) ((nG s (eY f x s - x) + (if up then 1 else 0) : Nat) : Int) (jR s (eY f x s - x) more : Int) = some ((mW f mode neg x s more : Int), false, false, excN f mode neg x s more) := by
   intro up hup
   rw [key up]
   subst hup
   unfold mW excN xX inexN keyN
   rw [← Nat.add_assoc]
   by_cases o : kD f (jD f x s * 2 ^ fm f + nG s (eY f x s - x) + if upN mode neg (nG s (eY f x s - x)) (jR s (eY f x s - x) more) = true then 1 else 0) = true
   ·rw [o]; simp
   ·rw [Bool.not_eq_true] at o; rw [o]; simp
  by_cases hu : upN mode neg (nG s (eY f x s - x)) (jR s (eY f x s - x) more) = true
  ·rw [if_pos hu]
   have h := res true hu.symm
   rw [if_pos rfl] at h
   rw [show ((nG s (eY f x s - x) : Nat) : Int) + 1 = ((nG s (eY f x s - x) + 1 : Nat) : Int) by omega, fB _ (by omega)]
   exact h
  ·rw [if_neg hu]
   rw [Bool.not_eq_true] at hu
   have h := res false hu.symm
   rw [if_neg (by decide), Nat.add_zero] at h
   exact h
/- What is a number already is rounded to it; a greater number isn't rounded to a lesser one: of the plain numbers that the rounding computes. -/

theorem jM (f : Int) (v : Nat) : bM f v < 2 ^ (fm f + 1) := by
 have hf := tH f v
 have hs : 2 ^ (fm f + 1) = 2 * 2 ^ fm f := by rw [Nat.pow_succ, Nat.mul_comm]
 unfold bM; split <;> omega

end Go.Proofs.Ytfapjegkilljnaa.Round

-- Printed by a program of this session's out of Lean's print of the translation; Lean checks it.
namespace Go.Proofs.Ytfapjegkilljnaa.P
open Go.RowKit Go.Proofs.YtfapjegkilljnaaW.PrintWords Go.Proofs.YtfapjegkilljnaaW.PrintLast Go.Proofs.YtfapjegkilljnaaW.PrintMore
attribute [local go_sem] max2_int min2_int max_two min_two max_three min_three max_four min_four

-- NEED 0
/-! ### dP: function 94 -/
def dP.f (a0 : Int) : Option (Int) := (aR.f a0).bind fun bt400 => (if 0 ≤ (IntKind.u64.wrap (wrap64 ((wrap64 (bt400.1 + bt400.2)) + 1))) then (some (((shl .u32 1 (IntKind.u64.wrap (wrap64 ((wrap64 (bt400.1 + bt400.2)) + 1)))) - 1) % 4294967296)) else (none))
theorem dP.calls (a0 r : Int) (w : World) (h : dP.f a0 = some r) :
  Calls Try.prog 94 #[.int .i64 a0] w fun e w' => e = .returned (.int .u32 r) ∧ Drawn0 w w' := by
 have H : ((aR.f a0).bind fun bt400 => (if 0 ≤ (IntKind.u64.wrap (wrap64 ((wrap64 (bt400.1 + bt400.2)) + 1))) then (some (((shl .u32 1 (IntKind.u64.wrap (wrap64 ((wrap64 (bt400.1 + bt400.2)) + 1)))) - 1) % 4294967296)) else (none))) = some r := h
 clear h
 replace H := bq_ H
 obtain ⟨⟨t400, t401⟩, A20, H⟩ := H
 replace H : (if 0 ≤ (IntKind.u64.wrap (wrap64 ((wrap64 (t400 + t401)) + 1))) then (some (((shl .u32 1 (IntKind.u64.wrap (wrap64 ((wrap64 (t400 + t401)) + 1)))) - 1) % 4294967296)) else (none)) = some r := H
 have A2 := Aside0.mk A20
 clear A20
 obtain ⟨ji3, hji3⟩ : ∃ j_ : Int, (IntKind.u64.wrap (wrap64 ((wrap64 (t400 + t401)) + 1))) = j_ := ⟨_, rfl⟩
 replace H : (if 0 ≤ (ji3) then (some (((shl .u32 1 (ji3)) - 1) % 4294967296)) else (none)) = some r := by first | (rw [hji3] at H; exact H) | (simp only [hji3] at H ⊢; exact H)
 (try rw [hji3] at A2)
 by_cases c4 : 0 ≤ (ji3)
 ·rw [if_pos c4] at H
  have c4b0 := eq_true c4
  have c4b1 : decide (0 ≤ (ji3)) = true := decide_eq_true c4
  clear c4
  obtain ⟨ji5, hji5⟩ : ∃ j_ : Int, (shl .u32 1 (ji3)) = j_ := ⟨_, rfl⟩
  replace H : (some (((ji5) - 1) % 4294967296)) = some r := by first | (rw [hji5] at H; exact H) | (simp only [hji5] at H ⊢; exact H)
  (try rw [hji5] at A2)
  have hji5_ : (IntKind.u32.wrap (1 * 2 ^ min (ji3).toNat 32)) = ji5 := hji5
  have hji5z : (ji3) ≤ 32 → (IntKind.u32.wrap (1 * 2 ^ (ji3).toNat)) = ji5 := shl_small hji5
  have hji5u : (IntKind.u32.wrap (2 ^ min (ji3).toNat 32)) = ji5 := by have h_ := hji5_; rw [Int.one_mul] at h_; exact h_
  have hji5v : (ji3) ≤ 32 → (IntKind.u32.wrap (2 ^ (ji3).toNat)) = ji5 := fun hle_ => by have h_ := hji5z hle_; rw [Int.one_mul] at h_; exact h_
  obtain ⟨ji6, hji6⟩ : ∃ j_ : Int, (((ji5) - 1) % 4294967296) = j_ := ⟨_, rfl⟩
  replace H : (some ji6) = some r := by first | (rw [hji6] at H; exact H) | (simp only [hji6] at H ⊢; exact H)
  (try rw [hji6] at A2)
  have hji6l : 0 ≤ ji6 := by rw [← hji6]; exact Int.emod_nonneg _ (by decide)
  have hji6h : ji6 ≤ 4294967295 := by have := Int.emod_lt_of_pos (((ji5) - 1)) (show (0 : Int) < 4294967296 by decide); omega
  have hji6w : (IntKind.u32.wrap ((ji5) - 1)) = ji6 := (lL _).trans hji6
  (try (have hji6_ := hji6; simp only [Int.add_emod_emod, Int.emod_add_emod, Int.sub_emod_emod, Int.emod_sub_emod] at hji6_))
  obtain rfl := Option.some.inj H
  go_enter Try.func94, Try.ntmps94
  go_wp2_with (first | ((with_reducible refine gate_callee (f := 78) rfl ?_); refine goesL_ (some 7) rfl rfl Try.func78 (by kernel_rfl) rfl #[.int .i64 a0] rfl gl ?_; (with_reducible refine (aR.calls a0 t400 t401 _ A2.out).mono ?_); rintro e w' ⟨rfl, ⟨nd, rfl⟩⟩; refine ⟨_, rfl, ?_⟩))
  go_ret
  exact ⟨by first | rfl | (simp; done) | (simp only [← hji3, ← hji5, ← hji6] <;> (first | rfl | (simp; done))) | (simp [*]; done) | (congr 1; (try unfold wrap64); omega) | (congr 1; rw [IntKind.wrap_u64]; omega), gd_⟩
 ·rw [if_neg c4] at H
  exact absurd H (by simp)

-- NEED 0
/-! ### bX: function 62 -/
def bX.f (a0 a1 : Int) : Option (Int) := (aR.f a0).bind fun bt402 => ((dP.f a0).bind fun t404 => (if 0 ≤ (IntKind.u64.wrap (wrap64 (bt402.1 + bt402.2))) then (some (Go.bits .xor .u32 (Go.bits .and .u32 a1 t404) (shl .u32 1 (IntKind.u64.wrap (wrap64 (bt402.1 + bt402.2)))))) else (none)))
theorem bX.calls (a0 a1 r : Int) (w : World) (h : bX.f a0 a1 = some r) :
  Calls Try.prog 62 #[.int .i64 a0, .int .u32 a1] w fun e w' => e = .returned (.int .u32 r) ∧ Drawn0 w w' := by
 have H : ((aR.f a0).bind fun bt402 => ((dP.f a0).bind fun t404 => (if 0 ≤ (IntKind.u64.wrap (wrap64 (bt402.1 + bt402.2))) then (some (Go.bits .xor .u32 (Go.bits .and .u32 a1 t404) (shl .u32 1 (IntKind.u64.wrap (wrap64 (bt402.1 + bt402.2)))))) else (none)))) = some r := h
 clear h
 replace H := bq_ H
 obtain ⟨⟨t402, t403⟩, A30, H⟩ := H
 replace H : ((dP.f a0).bind fun t404 => (if 0 ≤ (IntKind.u64.wrap (wrap64 (t402 + t403))) then (some (Go.bits .xor .u32 (Go.bits .and .u32 a1 t404) (shl .u32 1 (IntKind.u64.wrap (wrap64 (t402 + t403)))))) else (none))) = some r := H
 have A3 := Aside0.mk A30
 clear A30
 replace H := bq_ H
 obtain ⟨t404, A40, H⟩ := H
 replace H : (if 0 ≤ (IntKind.u64.wrap (wrap64 (t402 + t403))) then (some (Go.bits .xor .u32 (Go.bits .and .u32 a1 t404) (shl .u32 1 (IntKind.u64.wrap (wrap64 (t402 + t403)))))) else (none)) = some r := H
 have A4 := Aside0.mk A40
 clear A40
 obtain ⟨ji5, hji5⟩ : ∃ j_ : Int, (IntKind.u64.wrap (wrap64 (t402 + t403))) = j_ := ⟨_, rfl⟩
 replace H : (if 0 ≤ (ji5) then (some (Go.bits .xor .u32 (Go.bits .and .u32 a1 t404) (shl .u32 1 (ji5)))) else (none)) = some r := by first | (rw [hji5] at H; exact H) | (simp only [hji5] at H ⊢; exact H)
 (try rw [hji5] at A3)
 (try rw [hji5] at A4)
 by_cases c6 : 0 ≤ (ji5)
 ·rw [if_pos c6] at H
  have c6b0 := eq_true c6
  have c6b1 : decide (0 ≤ (ji5)) = true := decide_eq_true c6
  clear c6
  obtain ⟨ji7, hji7⟩ : ∃ j_ : Int, (shl .u32 1 (ji5)) = j_ := ⟨_, rfl⟩
  replace H : (some (Go.bits .xor .u32 (Go.bits .and .u32 a1 t404) (ji7))) = some r := by first | (rw [hji7] at H; exact H) | (simp only [hji7] at H ⊢; exact H)
  (try rw [hji7] at A3)
  (try rw [hji7] at A4)
  have hji7_ : (IntKind.u32.wrap (1 * 2 ^ min (ji5).toNat 32)) = ji7 := hji7
  have hji7z : (ji5) ≤ 32 → (IntKind.u32.wrap (1 * 2 ^ (ji5).toNat)) = ji7 := shl_small hji7
  have hji7u : (IntKind.u32.wrap (2 ^ min (ji5).toNat 32)) = ji7 := by have h_ := hji7_; rw [Int.one_mul] at h_; exact h_
  have hji7v : (ji5) ≤ 32 → (IntKind.u32.wrap (2 ^ (ji5).toNat)) = ji7 := fun hle_ => by have h_ := hji7z hle_; rw [Int.one_mul] at h_; exact h_
  obtain rfl := Option.some.inj H
  go_enter Try.func62, Try.ntmps62
  go_wp2_with (first | ((with_reducible refine gate_callee (f := 78) rfl ?_); refine goesL_ (some 9) rfl rfl Try.func78 (by kernel_rfl) rfl #[.int .i64 a0] rfl gl ?_; (with_reducible refine (aR.calls a0 t402 t403 _ A3.out).mono ?_); rintro e w' ⟨rfl, ⟨nd, rfl⟩⟩; refine ⟨_, rfl, ?_⟩) | ((with_reducible refine gate_callee (f := 94) rfl ?_); refine goesL_ (some 14) rfl rfl Try.func94 (by kernel_rfl) rfl #[.int .i64 a0] rfl gl ?_; (with_reducible refine (dP.calls a0 t404 _ A4.out).mono ?_); rintro e w' ⟨rfl, ⟨nd, rfl⟩⟩; refine ⟨_, rfl, ?_⟩))
  go_ret
  exact ⟨by first | rfl | (simp; done) | (simp only [← hji5, ← hji7] <;> (first | rfl | (simp; done))) | (simp [*]; done) | (congr 1; (try unfold wrap64); omega) | (congr 1; rw [IntKind.wrap_u64]; omega), gd_⟩
 ·rw [if_neg c6] at H
  exact absurd H (by simp)

-- NEED 0
/-! ### gM: function 37 -/
def gM.f (a0 : Int) : Option (Int) := (bX.f 2 a0).bind fun t405 => (some t405)
theorem gM.calls (a0 r : Int) (w : World) (h : gM.f a0 = some r) :
  Calls Try.prog 37 #[.int .u32 a0] w fun e w' => e = .returned (.int .u32 r) ∧ Drawn0 w w' := by
 have H : ((bX.f 2 a0).bind fun t405 => (some t405)) = some r := h
 clear h
 replace H := bq_ H
 obtain ⟨t405, A20, H⟩ := H
 replace H : (some t405) = some r := H
 have A2 := Aside0.mk A20
 clear A20
 obtain rfl := Option.some.inj H
 go_enter Try.func37, Try.ntmps37
 go_wp2_with (first | ((with_reducible refine gate_callee (f := 62) rfl ?_); refine goesL_ (some 4) rfl rfl Try.func62 (by kernel_rfl) rfl #[.int .i64 2, .int .u32 a0] rfl gl ?_; (with_reducible refine (bX.calls 2 a0 t405 _ A2.out).mono ?_); rintro e w' ⟨rfl, ⟨nd, rfl⟩⟩; refine ⟨_, rfl, ?_⟩))
 go_ret
 exact ⟨gr_, gd_⟩

end Go.Proofs.Ytfapjegkilljnaa.P

/- Which numbers are none, infinite, nought; bits of a format alone: the program's, as plain numbers. -/
namespace Go.Proofs.Ytfapjegkilljnaa.Round
open Go.RowKit Go.Proofs.Ytfapjegkilljnaa.P Go.Proofs.Ytfapjegkilljnaa.Num Go.Proofs.Ytfapjegkilljnaa.BitsF Go.Proofs.Ytfapjegkilljnaa.Fmt Go.Proofs.YtfapjegkilljnaaW.PrintWords Go.Proofs.YtfapjegkilljnaaW.PrintLast Go.Proofs.YtfapjegkilljnaaW.PrintMore

theorem kG (f : Int) (v : Nat) (hv : v < 4294967296) : Ev (fun k => aK.f k f (v : Int)) (decide (bJ f v = 0)) := by
 refine Ev.congr (fun k => by unfold aK.f; rfl) (Ev.bind (kK f v hv) (Ev.congr (fun k => ?_) (Ev.now _)))
 rw [show (0 : Int) = ((0 : Nat) : Int) from rfl, pK]
theorem fH (f : Int) (v : Nat) (hv : v < 4294967296) : Ev (fun k => aD.f k f (v : Int)) (decide (bJ f v = 3)) := by
 refine Ev.congr (fun k => by unfold aD.f; rfl) (Ev.bind (kK f v hv) (Ev.congr (fun k => ?_) (Ev.now _)))
 rw [show (3 : Int) = ((3 : Nat) : Int) from rfl, pK]
theorem xR (f : Int) : dP.f f = some (maskN f : Int) := by
 unfold dP.f maskN
 have h := dC f
 rw [fC, Option.bind_some]
 dsimp only
 rw [show (fe f : Int) + (fm f : Int) = ((fe f + fm f : Nat) : Int) by omega, bT ((fe f + fm f : Nat) : Int) (by omega) (by omega), show ((fe f + fm f : Nat) : Int) + 1 = ((fe f + fm f + 1 : Nat) : Int) by omega, wu _ (by omega), if_pos (Int.natCast_nonneg _)]
 have e := tX 1 (fe f + fm f + 1)
 rw [Nat.one_mul] at e
 rw [show (1 : Int) = ((1 : Nat) : Int) from rfl, e]
 have h32 := kZ (show fe f + fm f + 1 ≤ 32 by omega)
 have h0 := Nat.two_pow_pos (fe f + fm f + 1)
 generalize 2 ^ (fe f + fm f + 1) = P at *
 congr 1; omega
theorem iF (f : Int) (L : List Int) (i v : Nat) (b c : Bool) (r : Int × Bool × Bool × Bool × Bool × Bool × Bool) (hi : i < L.length) (hn : L.length ≤ 100) (hv : v < 4294967296) (hr : rd L (i : Int) = (v : Int))
  (h : Ev (fun k => aQ.l0 k f (b || dO f v) L (L.length : Int) ((i + 1 : Nat) : Int) (c || eZ f v) false false false false) r) : Ev (fun k => aQ.l0 k f b L (L.length : Int) (i : Int) c false false false false) r := by
 have hw : wrap64 ((i : Int) + 1) = ((i + 1 : Nat) : Int) := by rw [bT _ (by omega) (by omega)]; omega
 refine Ev.step (fun k => by rw [aQ.l0, if_pos (by omega), if_pos (Int.natCast_nonneg _), if_pos (by omega), hr, hw]) (Ev.bind (kK f v hv) (Ev.congr (fun k => ?_) h))
 have e5 : (((bJ f v : Nat) : Int) == 5) = eZ f v := by rw [show (5 : Int) = ((5 : Nat) : Int) from rfl, pK]; rfl
 have e4 : decide (((bJ f v : Nat) : Int) ≥ 4) = dO f v := by unfold dO; apply decide_eq_decide.mpr; omega
 rw [e5, e4]
 cases b <;> cases c <;> simp
theorem nY (f : Int) (L : List Int) (b c : Bool) : Ev (fun k => aQ.l0 k f b L (L.length : Int) (L.length : Int) c false false false false) ((nO f : Int), c, false, false, false, false, b) :=
 Ev.step (fun k => by rw [aQ.l0, if_neg (by omega), nan_f]; rfl) (Ev.now _)
theorem aAb (f : Int) (v : Nat) (hv : v < 4294967296) : Ev (fun k => aQ.f k f [(v : Int)]) ((nO f : Int), eZ f v, false, false, false, false, dO f v) := by
 refine Ev.congr (fun k => by unfold aQ.f; rfl) (iF f _ 0 v false false _ (by simp) (by simp) hv rfl ?_)
 rw [Bool.false_or, Bool.false_or]
 exact nY f [(v : Int)] _ _
theorem lV (f : Int) (a b : Nat) (ha : a < 4294967296) (hb : b < 4294967296) : Ev (fun k => aQ.f k f [(a : Int), (b : Int)]) ((nO f : Int), eZ f a || eZ f b, false, false, false, false, dO f a || dO f b) := by
 refine Ev.congr (fun k => by unfold aQ.f; rfl) (iF f _ 0 a false false _ (by simp) (by simp) ha rfl (iF f _ 1 b _ _ _ (by simp) (by simp) hb rfl ?_))
 rw [Bool.false_or, Bool.false_or]
 exact nY f [(a : Int), (b : Int)] _ _
theorem qQ (f : Int) (v : Nat) : bM f v < 18446744073709551616 := by
 have h := dC f
 have h1 := jM f v
 have h2 := dM (show fm f + 1 ≤ 31 by omega)
 omega
theorem dQ (f : Int) (v : Nat) : -200 ≤ bF f v ∧ bF f v ≤ 300 := by
 have := iH f; have := gD f; have := dC f; have := xQ f v
 unfold bF; omega
theorem iN (f : Int) (v : Nat) (h : bJ f v < 3) : oW f v < gW f := (pR f v).mp h
/- Sums to all bits that rounding asks for: plain numbers alone. -/

def jQ (s : Nat) : Nat := 62 - iG s
def oQ (na : Bool) (Ea : Int) (A : Nat) (nb : Bool) (Eb : Int) (B : Nat) : Bool × Int × Nat × Bool :=
 if na = nb then (na, Ea, A + B / 2 ^ (Ea - Eb).toNat, decide (B % 2 ^ (Ea - Eb).toNat ≠ 0))
 else (na, Ea, A - B / 2 ^ (Ea - Eb).toNat - (if B % 2 ^ (Ea - Eb).toNat ≠ 0 then 1 else 0), decide (B % 2 ^ (Ea - Eb).toNat ≠ 0))
def kQ (n1 : Bool) (e1 : Int) (s1 : Nat) (n2 : Bool) (e2 : Int) (s2 : Nat) : Bool × Int × Nat × Bool :=
 if s1 = 0 then (n2, e2, s2, false) else if s2 = 0 then (n1, e1, s1, false)
 else if e1 - (jQ s1 : Int) < e2 - (jQ s2 : Int) ∨ e1 - (jQ s1 : Int) = e2 - (jQ s2 : Int) ∧ s1 * 2 ^ jQ s1 < s2 * 2 ^ jQ s2 then oQ n2 (e2 - (jQ s2 : Int)) (s2 * 2 ^ jQ s2) n1 (e1 - (jQ s1 : Int)) (s1 * 2 ^ jQ s1)
 else oQ n1 (e1 - (jQ s1 : Int)) (s1 * 2 ^ jQ s1) n2 (e2 - (jQ s2 : Int)) (s2 * 2 ^ jQ s2)
theorem jC (s : Nat) (h : s ≠ 0) (h' : s < 4611686018427387904) : jQ s ≤ 61 ∧ iG s + jQ s = 62 ∧ 2305843009213693952 ≤ s * 2 ^ jQ s ∧ s * 2 ^ jQ s < 4611686018427387904 := by
 have h1 := gJ s 62 h'
 have h2 := nM s h
 have e : iG s + jQ s = 62 := by unfold jQ; omega
 have hp := Nat.two_pow_pos (jQ s)
 have l1 := Nat.mul_le_mul_right (2 ^ jQ s) (qZ s h)
 have l2 := Nat.mul_lt_mul_of_pos_right (qC s) hp
 rw [← Nat.pow_add, show iG s - 1 + jQ s = 61 by omega] at l1
 rw [← Nat.pow_add, e] at l2
 exact ⟨by omega, e, l1, l2⟩
/- Sums, rounded: plain numbers alone. -/

def qU (f mode : Int) (a b : Bool) : Nat := if a = b then d9 f a else d9 f (decide (mode = 3))
def fD (f mode : Int) (a b : Bool) (r : Bool × Int × Nat × Bool) : Nat := if r.2.2 = (0, false) then qU f mode a b else mW f mode r.1 r.2.1 r.2.2.1 r.2.2.2
def gF (f mode : Int) (r : Bool × Int × Nat × Bool) : Bool × Bool × Bool := if r.2.2 = (0, false) then (false, false, false) else excN f mode r.1 r.2.1 r.2.2.1 r.2.2.2
def xE (f : Int) (a b : Nat) : Bool × Int × Nat × Bool := kQ (cZ f a) (bF f a) (bM f a) (cZ f b) (bF f b) (bM f b)
def sumN (f mode : Int) (a b : Nat) : Nat :=
 if 4 ≤ bJ f a ∨ 4 ≤ bJ f b then nO f else if bJ f a = 3 ∧ bJ f b = 3 ∧ cZ f a ≠ cZ f b then nO f else if bJ f a = 3 then nQ f (cZ f a) else if bJ f b = 3 then nQ f (cZ f b)
 else fD f mode (cZ f a) (cZ f b) (xE f a b)
def sumX (f mode : Int) (a b : Nat) : Bool × Bool × Bool × Bool × Bool :=
 if 4 ≤ bJ f a ∨ 4 ≤ bJ f b then (eZ f a || eZ f b, false, false, false, false) else if bJ f a = 3 ∧ bJ f b = 3 ∧ cZ f a ≠ cZ f b then (true, false, false, false, false) else if bJ f a = 3 ∨ bJ f b = 3 then (false, false, false, false, false)
 else (false, false, gF f mode (xE f a b))
end Go.Proofs.Ytfapjegkilljnaa.Round
