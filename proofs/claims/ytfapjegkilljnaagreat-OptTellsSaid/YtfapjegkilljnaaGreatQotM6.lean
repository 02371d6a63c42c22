import Derived.Test.YtfapjegkilljnaaGreatQotZ
import Derived.Test.YtfapjegkilljnaaGreatQotM5
-- Printed by a program of this session's out of Lean's print of the translation; Lean checks it.
set_option linter.unusedVariables false
set_option linter.unusedSimpArgs false
set_option maxRecDepth 100000
set_option maxHeartbeats 8000000
namespace Go.Proofs.YtfapjegkilljnaaGreat.P
open Go.RowKit Go.Proofs.YtfapjegkilljnaaGreatW.PrintWords Go.Proofs.YtfapjegkilljnaaGreatW.PrintLast Go.Proofs.YtfapjegkilljnaaGreatW.PrintMore
attribute [local go_sem] max2_int min2_int max_two min_two max_three min_three max_four min_four

-- NEED 0
/-! ### dG: function 90 -/
def dG.f (k : Nat) (a0 a1 a2 : Int) : Option (Int) := (bD.f a0).bind fun bt215 => ((dC.f a0).bind fun t217 => (if a2 > 0 then ((bits_Len.f k a2).bind fun t218 => (some (wrap64 ((mx t217 (wrap64 ((wrap64 (a1 + t218)) - 1))) - bt215.2)))) else (some (wrap64 (t217 - bt215.2)))))
theorem dG.mono : ∀ a0 a1 a2 k, LeO (dG.f k a0 a1 a2) (dG.f (k + 1) a0 a1 a2) := by
 intro a0 a1 a2 k
 unfold dG.f
 repeat' first
   |(with_reducible first|exact bits_Len.mono _ _|exact LeO.refl _|exact LeO.none _|refine LeO.ite ?_ ?_|refine LeO.bind ?_ (fun _ => ?_))
   |exact bits_Len.mono _ _
   |exact LeO.none _
   |refine LeO.ite ?_ ?_
   |refine LeO.bind ?_ (fun _ => ?_)
theorem dG.calls (k : Nat) (a0 a1 : Int) (a2 r : Int) (w : World) (h : dG.f k a0 a1 a2 = some r) :
  Calls Tryz.prog 90 #[.int .i64 a0, .int .i64 a1, .int .u64 a2] w fun e w' => e = .returned (.int .i64 r) ∧ Below w.heap.size w w' := by
 have HB := Aside0.mk (Below.refl w.heap.size w)
 have H : ((bD.f a0).bind fun bt215 => ((dC.f a0).bind fun t217 => (if a2 > 0 then ((bits_Len.f k a2).bind fun t218 => (some (wrap64 ((mx t217 (wrap64 ((wrap64 (a1 + t218)) - 1))) - bt215.2)))) else (some (wrap64 (t217 - bt215.2)))))) = some r := h
 clear h
 replace H := bq_ H
 obtain ⟨⟨t215, t216⟩, A40, H⟩ := H
 replace H : ((dC.f a0).bind fun t217 => (if a2 > 0 then ((bits_Len.f k a2).bind fun t218 => (some (wrap64 ((mx t217 (wrap64 ((wrap64 (a1 + t218)) - 1))) - t216)))) else (some (wrap64 (t217 - t216))))) = some r := H
 have A4 := Aside0.mk A40
 clear A40
 replace H := bq_ H
 obtain ⟨t217, A50, H⟩ := H
 replace H : (if a2 > 0 then ((bits_Len.f k a2).bind fun t218 => (some (wrap64 ((mx t217 (wrap64 ((wrap64 (a1 + t218)) - 1))) - t216)))) else (some (wrap64 (t217 - t216)))) = some r := H
 have A5 := Aside0.mk A50
 clear A50
 by_cases c6 : a2 > 0
 ·rw [if_pos c6] at H
  have c6b0 : decide (0 < a2) = true := decide_eq_true c6
  clear c6
  replace H := bq_ H
  obtain ⟨t218, A70, H⟩ := H
  replace H : (some (wrap64 ((mx t217 (wrap64 ((wrap64 (a1 + t218)) - 1))) - t216))) = some r := H
  have A7 := Aside0.mk A70
  clear A70
  obtain ⟨ji8, hji8⟩ : ∃ j_ : Int, (mx t217 (wrap64 ((wrap64 (a1 + t218)) - 1))) = j_ := ⟨_, rfl⟩
  replace H : (some (wrap64 ((ji8) - t216))) = some r := by first | (rw [hji8] at H; exact H) | (simp only [hji8] at H ⊢; exact H)
  (try rw [hji8] at A4)
  (try rw [hji8] at A5)
  (try rw [hji8] at A7)
  have hji8_ : (if t217 < (wrap64 ((wrap64 (a1 + t218)) - 1)) then (wrap64 ((wrap64 (a1 + t218)) - 1)) else t217) = ji8 := hji8
  obtain rfl := Option.some.inj H
  go_enter Tryz.func90, Tryz.ntmps90
  go_wp2_with (first | ((with_reducible refine gate_callee (f := 51) rfl ?_); refine goesL_ (some 12) rfl rfl Tryz.func51 (by kernel_rfl) rfl #[.int .i64 a0] rfl gl ?_; (with_reducible refine (bD.calls a0 t215 t216 _ A4.out).mono ?_); rintro e w' ⟨rfl, ⟨nd, rfl⟩⟩; refine ⟨_, rfl, ?_⟩) | ((with_reducible refine gate_callee (f := 93) rfl ?_); refine goesL_ (some 16) rfl rfl Tryz.func93 (by kernel_rfl) rfl #[.int .i64 a0] rfl gl ?_; (with_reducible refine (dC.calls a0 t217 _ A5.out).mono ?_); rintro e w' ⟨rfl, ⟨nd, rfl⟩⟩; refine ⟨_, rfl, ?_⟩) | ((with_reducible refine gate_callee (f := 96) rfl ?_); refine goesL_ (some 22) rfl rfl Tryz.func96 (by kernel_rfl) rfl #[.int .u64 a2] rfl gl ?_; (with_reducible refine (bits_Len.calls k a2 t218 _ A7.out).mono ?_); rintro e w' ⟨rfl, ⟨nd, rfl⟩⟩; refine ⟨_, rfl, ?_⟩))
  go_ret
  exact ⟨by first | rfl | (simp [bT, bU] <;> rfl) | (simp only [← hji8]; first | rfl | (simp [bT, bU] <;> rfl)) | (simp [*, bT, bU] <;> rfl), bl0 HB.out⟩
 ·rw [if_neg c6] at H
  have c6b0 : decide (0 < a2) = false := decide_eq_false c6
  clear c6
  obtain rfl := Option.some.inj H
  go_enter Tryz.func90, Tryz.ntmps90
  go_wp2_with (first | ((with_reducible refine gate_callee (f := 51) rfl ?_); refine goesL_ (some 12) rfl rfl Tryz.func51 (by kernel_rfl) rfl #[.int .i64 a0] rfl gl ?_; (with_reducible refine (bD.calls a0 t215 t216 _ A4.out).mono ?_); rintro e w' ⟨rfl, ⟨nd, rfl⟩⟩; refine ⟨_, rfl, ?_⟩) | ((with_reducible refine gate_callee (f := 93) rfl ?_); refine goesL_ (some 16) rfl rfl Tryz.func93 (by kernel_rfl) rfl #[.int .i64 a0] rfl gl ?_; (with_reducible refine (dC.calls a0 t217 _ A5.out).mono ?_); rintro e w' ⟨rfl, ⟨nd, rfl⟩⟩; refine ⟨_, rfl, ?_⟩))
  go_ret
  exact ⟨by first | rfl | (simp [bT, bU] <;> rfl) | (simp [*, bT, bU] <;> rfl), bl0 HB.out⟩

-- NEED 0
/-! ### aT: function 88 -/
def aT.j0 : Nat → Int → Int → Bool → Option (Int × Bool)
 |0, _, _, _ => none
 |k + 1, x0, x1, x8 => if x8 = true then (some (0, (x0 != 0))) else (if x1 ≥ 0 then (if 0 ≤ (IntKind.u64.wrap (x1)) then (some (shr .u64 x0 (IntKind.u64.wrap (x1)), ((shl .u64 (shr .u64 x0 (IntKind.u64.wrap (x1))) (IntKind.u64.wrap (x1))) != x0))) else (none)) else (if 0 ≤ (IntKind.u64.wrap (wrap64 (-x1))) then (some (shl .u64 x0 (IntKind.u64.wrap (wrap64 (-x1))), ((shr .u64 (shl .u64 x0 (IntKind.u64.wrap (wrap64 (-x1)))) (IntKind.u64.wrap (wrap64 (-x1)))) != x0))) else (none)))
def aT.f (k : Nat) (a0 a1 : Int) : Option (Int × Bool) := if a1 ≥ 64 then (aT.j0 k a0 a1 true) else (aT.j0 k a0 a1 (decide (a1 ≤ (-64))))
theorem aT.fB : ∀ k, (∀ y0 y1 y2, LeO (aT.j0 k y0 y1 y2) (aT.j0 (k + 1) y0 y1 y2))
 |0 => fun _ _ _ r h => by simp [aT.j0] at h
 |k + 1 => by
  have ih0 := aT.fB k
  ·intro y0 y1 y2
   unfold aT.j0
   repeat' first
   |(with_reducible first|exact ih0 _ _ _|exact LeO.refl _|exact LeO.none _|refine LeO.ite ?_ ?_|refine LeO.bind ?_ (fun _ => ?_))
   |exact ih0 _ _ _
   |exact LeO.none _
   |refine LeO.ite ?_ ?_
   |refine LeO.bind ?_ (fun _ => ?_)
theorem aT.mono : ∀ a0 a1 k, LeO (aT.f k a0 a1) (aT.f (k + 1) a0 a1) := by
 intro a0 a1 k
 have ih0 := aT.fB k
 unfold aT.f
 repeat' first
   |(with_reducible first|exact ih0 _ _ _|exact LeO.refl _|exact LeO.none _|refine LeO.ite ?_ ?_|refine LeO.bind ?_ (fun _ => ?_))
   |exact ih0 _ _ _
   |exact LeO.none _
   |refine LeO.ite ?_ ?_
   |refine LeO.bind ?_ (fun _ => ?_)
theorem aT.calls (k : Nat) (a0 a1 r1 : Int) (r2 : Bool) (w : World) (h : aT.f k a0 a1 = some (r1, r2)) :
  Calls Tryz.prog 88 #[.int .u64 a0, .int .i64 a1] w fun e w' => e = .returned (.tuple #[.int .u64 r1, .bool r2]) ∧ Drawn0 w w' := by
 have H : (if a1 ≥ 64 then (aT.j0 k a0 a1 true) else (aT.j0 k a0 a1 (decide (a1 ≤ (-64))))) = some (r1, r2) := h
 clear h
 have HC3 := Aside0.mk H
 clear H
 go_enter Tryz.func88, Tryz.ntmps88
 go_upto_region 1 with (fail)
 go_cut [8] (fun v8 wc => ∃ (kq : Nat) (x8_2 : Bool), v8 = .bool x8_2 ∧ Aside0 (aT.j0 kq a0 a1 x8_2 = some (r1, r2)) ∧ Aside0 (kq ≤ k) ∧ Drawn0 w wc)
 case first =>
  have H := HC3.out
  clear HC3
  by_cases c4 : a1 ≥ 64
  ·rw [if_pos c4] at H
   have c4b0 : decide (64 ≤ a1) = true := decide_eq_true c4
   clear c4
   (first | rw [c4b0] | (simp only [i64_w, i32_w]; rw [c4b0]) | skip)
   have H' := Aside0.mk H
   clear H
   go_wp2
   go_meet
   case rel => exact ⟨_, (true), (gr_), H', ⟨by first | omega | exact Nat.le_refl _⟩, gd_⟩
  ·rw [if_neg c4] at H
   have c4b0 : decide (64 ≤ a1) = false := decide_eq_false c4
   clear c4
   (first | rw [c4b0] | (simp only [i64_w, i32_w]; rw [c4b0]) | skip)
   have H' := Aside0.mk H
   clear H
   go_wp2
   go_meet
   case rel => exact ⟨_, (decide (a1 ≤ (-64))), (gr_), H', ⟨by first | omega | exact Nat.le_refl _⟩, gd_⟩
 case rest =>
  clear HC3
  try clear p2 c4 c4b0
  obtain ⟨kq, x8_2, rfl, HA, HJ2, ⟨mc2, rfl⟩⟩ := hcut
  cases kq with
  |zero => exact absurd HA.out (by simp [aT.j0])
  |succ kj2 =>
   have H := HA.out
   clear HA
   simp only [aT.j0] at H
   by_cases c5 : x8_2 = true
   ·subst c5
    have H1 : (some (0, (a0 != 0))) = some (r1, r2) := by rw [if_pos rfl] at H; exact H
    clear H
    have H := H1
    clear H1
    simp only [Option.some.injEq, Prod.mk.injEq] at H
    obtain ⟨rfl, rfl⟩ := H
    go_wp2
    go_ret2
    exact ⟨gr_, gd_⟩
   ·replace c5 := Bool.eq_false_iff.mpr c5
    subst c5
    have H1 : (if a1 ≥ 0 then (if 0 ≤ (IntKind.u64.wrap (a1)) then (some (shr .u64 a0 (IntKind.u64.wrap (a1)), ((shl .u64 (shr .u64 a0 (IntKind.u64.wrap (a1))) (IntKind.u64.wrap (a1))) != a0))) else (none)) else (if 0 ≤ (IntKind.u64.wrap (wrap64 (-a1))) then (some (shl .u64 a0 (IntKind.u64.wrap (wrap64 (-a1))), ((shr .u64 (shl .u64 a0 (IntKind.u64.wrap (wrap64 (-a1)))) (IntKind.u64.wrap (wrap64 (-a1)))) != a0))) else (none))) = some (r1, r2) := by rw [if_neg (show ¬ (false = true) by decide)] at H; exact H
    clear H
    have H := H1
    clear H1
    by_cases c6 : a1 ≥ 0
    ·rw [if_pos c6] at H
     have c6b0 : decide (0 ≤ a1) = true := decide_eq_true c6
     clear c6
     obtain ⟨ji7, hji7⟩ : ∃ j_ : Int, (IntKind.u64.wrap (a1)) = j_ := ⟨_, rfl⟩
     replace H : (if 0 ≤ (ji7) then (some (shr .u64 a0 (ji7), ((shl .u64 (shr .u64 a0 (ji7)) (ji7)) != a0))) else (none)) = some (r1, r2) := by first | (rw [hji7] at H; exact H) | (simp only [hji7] at H ⊢; exact H)
     by_cases c8 : 0 ≤ (ji7)
     ·rw [if_pos c8] at H
      have c8b0 := eq_true c8
      have c8b1 : decide (0 ≤ (ji7)) = true := decide_eq_true c8
      clear c8
      obtain ⟨ji9, hji9⟩ : ∃ j_ : Int, (shr .u64 a0 (ji7)) = j_ := ⟨_, rfl⟩
      replace H : (some (ji9, ((shl .u64 (ji9) (ji7)) != a0))) = some (r1, r2) := by first | (rw [hji9] at H; exact H) | (simp only [hji9] at H ⊢; exact H)
      have hji9_ : (a0 / 2 ^ min (ji7).toNat 64) = ji9 := hji9
      have hji9z : (ji7) ≤ 64 → (a0 / 2 ^ (ji7).toNat) = ji9 := shr_small hji9
      have c10b0 := eq_true (of_decide_eq_true (by first | (with_reducible assumption) | assumption) : 0 ≤ (ji7))
      obtain ⟨ji11, hji11⟩ : ∃ j_ : Int, (shl .u64 (ji9) (ji7)) = j_ := ⟨_, rfl⟩
      replace H : (some (ji9, ((ji11) != a0))) = some (r1, r2) := by first | (rw [hji11] at H; exact H) | (simp only [hji11] at H ⊢; exact H)
      have hji11_ : (IntKind.u64.wrap ((ji9) * 2 ^ min (ji7).toNat 64)) = ji11 := hji11
      have hji11z : (ji7) ≤ 64 → (IntKind.u64.wrap ((ji9) * 2 ^ (ji7).toNat)) = ji11 := shl_small hji11
      simp only [Option.some.injEq, Prod.mk.injEq] at H
      obtain ⟨rfl, rfl⟩ := H
      go_wp2
      go_ret2
      exact ⟨by first | rfl | (simp; done) | (simp only [← hji7, ← hji9, ← hji11] <;> (first | rfl | (simp; done))) | (simp [*]; done) | (congr 1; (try unfold wrap64); omega) | (congr 1; rw [IntKind.wrap_u64]; omega), gd_⟩
     ·rw [if_neg c8] at H
      exact absurd H (by simp)
    ·rw [if_neg c6] at H
     have c6b0 : decide (0 ≤ a1) = false := decide_eq_false c6
     clear c6
     obtain ⟨ji12, hji12⟩ : ∃ j_ : Int, (IntKind.u64.wrap (wrap64 (-a1))) = j_ := ⟨_, rfl⟩
     replace H : (if 0 ≤ (ji12) then (some (shl .u64 a0 (ji12), ((shr .u64 (shl .u64 a0 (ji12)) (ji12)) != a0))) else (none)) = some (r1, r2) := by first | (rw [hji12] at H; exact H) | (simp only [hji12] at H ⊢; exact H)
     by_cases c13 : 0 ≤ (ji12)
     ·rw [if_pos c13] at H
      have c13b0 := eq_true c13
      have c13b1 : decide (0 ≤ (ji12)) = true := decide_eq_true c13
      clear c13
      obtain ⟨ji14, hji14⟩ : ∃ j_ : Int, (shl .u64 a0 (ji12)) = j_ := ⟨_, rfl⟩
      replace H : (some (ji14, ((shr .u64 (ji14) (ji12)) != a0))) = some (r1, r2) := by first | (rw [hji14] at H; exact H) | (simp only [hji14] at H ⊢; exact H)
      have hji14_ : (IntKind.u64.wrap (a0 * 2 ^ min (ji12).toNat 64)) = ji14 := hji14
      have hji14z : (ji12) ≤ 64 → (IntKind.u64.wrap (a0 * 2 ^ (ji12).toNat)) = ji14 := shl_small hji14
      have c15b0 := eq_true (of_decide_eq_true (by first | (with_reducible assumption) | assumption) : 0 ≤ (ji12))
      obtain ⟨ji16, hji16⟩ : ∃ j_ : Int, (shr .u64 (ji14) (ji12)) = j_ := ⟨_, rfl⟩
      replace H : (some (ji14, ((ji16) != a0))) = some (r1, r2) := by first | (rw [hji16] at H; exact H) | (simp only [hji16] at H ⊢; exact H)
      have hji16_ : ((ji14) / 2 ^ min (ji12).toNat 64) = ji16 := hji16
      have hji16z : (ji12) ≤ 64 → ((ji14) / 2 ^ (ji12).toNat) = ji16 := shr_small hji16
      simp only [Option.some.injEq, Prod.mk.injEq] at H
      obtain ⟨rfl, rfl⟩ := H
      go_wp2
      go_ret2
      exact ⟨by first | rfl | (simp; done) | (simp only [← hji12, ← hji14, ← hji16] <;> (first | rfl | (simp; done))) | (simp [*]; done) | (congr 1; (try unfold wrap64); omega) | (congr 1; rw [IntKind.wrap_u64]; omega), gd_⟩
     ·rw [if_neg c13] at H
      exact absurd H (by simp)

-- NEED 0
/-! ### cZ: function 91 -/
def cZ.f (k : Nat) (a0 a1 : Int) (a2 : Bool) : Option (Int × Int) := if a1 ≤ 0 then ((aT.f k a0 a1).bind fun bt219 => (if a2 = true then (some (bt219.1, 1)) else (some (bt219.1, 0)))) else ((aT.f k a0 a1).bind fun bt221 => (if bt221.2 = true then ((aT.f k a0 (wrap64 (a1 - 1))).bind fun bt223 => (if (Go.bits .and .u64 bt223.1 1) = 0 then (some (bt221.1, 1)) else (if bt223.2 = true then (some (bt221.1, 3)) else (if a2 = true then (some (bt221.1, 3)) else (some (bt221.1, 2)))))) else (if a2 = true then (some (bt221.1, 1)) else (some (bt221.1, 0)))))
theorem cZ.mono : ∀ a0 a1 a2 k, LeO (cZ.f k a0 a1 a2) (cZ.f (k + 1) a0 a1 a2) := by
 intro a0 a1 a2 k
 unfold cZ.f
 repeat' first
   |(with_reducible first|exact aT.mono _ _ _|exact LeO.refl _|exact LeO.none _|refine LeO.ite ?_ ?_|refine LeO.bind ?_ (fun _ => ?_))
   |exact aT.mono _ _ _
   |exact LeO.none _
   |refine LeO.ite ?_ ?_
   |refine LeO.bind ?_ (fun _ => ?_)
theorem cZ.calls (k : Nat) (a0 a1 : Int) (a2 : Bool) (r1 r2 : Int) (w : World) (h : cZ.f k a0 a1 a2 = some (r1, r2)) :
  Calls Tryz.prog 91 #[.int .u64 a0, .int .i64 a1, .bool a2] w fun e w' => e = .returned (.tuple #[.int .u64 r1, .int .i64 r2]) ∧ Drawn0 w w' := by
 have H : (if a1 ≤ 0 then ((aT.f k a0 a1).bind fun bt219 => (if a2 = true then (some (bt219.1, 1)) else (some (bt219.1, 0)))) else ((aT.f k a0 a1).bind fun bt221 => (if bt221.2 = true then ((aT.f k a0 (wrap64 (a1 - 1))).bind fun bt223 => (if (Go.bits .and .u64 bt223.1 1) = 0 then (some (bt221.1, 1)) else (if bt223.2 = true then (some (bt221.1, 3)) else (if a2 = true then (some (bt221.1, 3)) else (some (bt221.1, 2)))))) else (if a2 = true then (some (bt221.1, 1)) else (some (bt221.1, 0)))))) = some (r1, r2) := h
 clear h
 by_cases c4 : a1 ≤ 0
 ·rw [if_pos c4] at H
  have c4b0 : decide (a1 ≤ 0) = true := decide_eq_true c4
  clear c4
  replace H := bq_ H
  obtain ⟨⟨t219, t220⟩, A50, H⟩ := H
  replace H : (if a2 = true then (some (t219, 1)) else (some (t219, 0))) = some (r1, r2) := H
  have A5 := Aside0.mk A50
  clear A50
  by_cases c6 : a2 = true
  ·subst c6
   have H1 : (some (t219, 1)) = some (r1, r2) := by rw [if_pos rfl] at H; exact H
   clear H
   have H := H1
   clear H1
   simp only [Option.some.injEq, Prod.mk.injEq] at H
   obtain ⟨rfl, rfl⟩ := H
   go_enter Tryz.func91, Tryz.ntmps91
   go_wp2_with (first | ((with_reducible refine gate_callee (f := 88) rfl ?_); refine goesL_ (some 19) rfl rfl Tryz.func88 (by kernel_rfl) rfl #[.int .u64 a0, .int .i64 a1] rfl gl ?_; (with_reducible refine (aT.calls k a0 a1 t219 t220 _ A5.out).mono ?_); rintro e w' ⟨rfl, ⟨nd, rfl⟩⟩; refine ⟨_, rfl, ?_⟩))
   go_ret2
   exact ⟨gr_, gd_⟩
  ·replace c6 := Bool.eq_false_iff.mpr c6
   subst c6
   have H1 : (some (t219, 0)) = some (r1, r2) := by rw [if_neg (show ¬ (false = true) by decide)] at H; exact H
   clear H
   have H := H1
   clear H1
   simp only [Option.some.injEq, Prod.mk.injEq] at H
   obtain ⟨rfl, rfl⟩ := H
   go_enter Tryz.func91, Tryz.ntmps91
   go_wp2_with (first | ((with_reducible refine gate_callee (f := 88) rfl ?_); refine goesL_ (some 19) rfl rfl Tryz.func88 (by kernel_rfl) rfl #[.int .u64 a0, .int .i64 a1] rfl gl ?_; (with_reducible refine (aT.calls k a0 a1 t219 t220 _ A5.out).mono ?_); rintro e w' ⟨rfl, ⟨nd, rfl⟩⟩; refine ⟨_, rfl, ?_⟩))
   go_ret2
   exact ⟨gr_, gd_⟩
 ·rw [if_neg c4] at H
  have c4b0 : decide (a1 ≤ 0) = false := decide_eq_false c4
  clear c4
  replace H := bq_ H
  obtain ⟨⟨t221, t222⟩, A70, H⟩ := H
  replace H : (if t222 = true then ((aT.f k a0 (wrap64 (a1 - 1))).bind fun bt223 => (if (Go.bits .and .u64 bt223.1 1) = 0 then (some (t221, 1)) else (if bt223.2 = true then (some (t221, 3)) else (if a2 = true then (some (t221, 3)) else (some (t221, 2)))))) else (if a2 = true then (some (t221, 1)) else (some (t221, 0)))) = some (r1, r2) := H
  have A7 := Aside0.mk A70
  clear A70
  by_cases c8 : t222 = true
  ·subst c8
   have H1 : ((aT.f k a0 (wrap64 (a1 - 1))).bind fun bt223 => (if (Go.bits .and .u64 bt223.1 1) = 0 then (some (t221, 1)) else (if bt223.2 = true then (some (t221, 3)) else (if a2 = true then (some (t221, 3)) else (some (t221, 2)))))) = some (r1, r2) := by rw [if_pos rfl] at H; exact H
   clear H
   have H := H1
   clear H1
   replace H := bq_ H
   obtain ⟨⟨t223, t224⟩, A90, H⟩ := H
   replace H : (if (Go.bits .and .u64 t223 1) = 0 then (some (t221, 1)) else (if t224 = true then (some (t221, 3)) else (if a2 = true then (some (t221, 3)) else (some (t221, 2))))) = some (r1, r2) := H
   have A9 := Aside0.mk A90
   clear A90
   by_cases c10 : (Go.bits .and .u64 t223 1) = 0
   ·rw [if_pos c10] at H
    have c10b0 : ((Go.bits .and .u64 t223 1) == 0) = true := beq_iff_eq.mpr c10
    have c10b1 : ((Go.bits .and .u64 t223 1) != 0) = false := bne_eq_false_iff_eq.mpr c10
    clear c10
    simp only [Option.some.injEq, Prod.mk.injEq] at H
    obtain ⟨rfl, rfl⟩ := H
    go_enter Tryz.func91, Tryz.ntmps91
    go_wp2_with (first | ((with_reducible refine gate_callee (f := 88) rfl ?_); refine goesL_ (some 28) rfl rfl Tryz.func88 (by kernel_rfl) rfl #[.int .u64 a0, .int .i64 a1] rfl gl ?_; (with_reducible refine (aT.calls k a0 a1 t221 true _ A7.out).mono ?_); rintro e w' ⟨rfl, ⟨nd, rfl⟩⟩; refine ⟨_, rfl, ?_⟩) | ((with_reducible refine gate_callee (f := 88) rfl ?_); refine goesL_ (some 40) rfl rfl Tryz.func88 (by kernel_rfl) rfl #[.int .u64 a0, .int .i64 (wrap64 (a1 - 1))] rfl gl ?_; (with_reducible refine (aT.calls k a0 (wrap64 (a1 - 1)) t223 t224 _ A9.out).mono ?_); rintro e w' ⟨rfl, ⟨nd, rfl⟩⟩; refine ⟨_, rfl, ?_⟩))
    go_ret2
    exact ⟨gr_, gd_⟩
   ·rw [if_neg c10] at H
    have c10b0 : ((Go.bits .and .u64 t223 1) == 0) = false := beq_eq_false_iff_ne.mpr c10
    have c10b1 : ((Go.bits .and .u64 t223 1) != 0) = true := bne_iff_ne.mpr c10
    by_cases c11 : t224 = true
    ·subst c11
     have H1 : (some (t221, 3)) = some (r1, r2) := by rw [if_pos rfl] at H; exact H
     clear H
     have H := H1
     clear H1
     simp only [Option.some.injEq, Prod.mk.injEq] at H
     obtain ⟨rfl, rfl⟩ := H
     go_enter Tryz.func91, Tryz.ntmps91
     go_wp2_with (first | ((with_reducible refine gate_callee (f := 88) rfl ?_); refine goesL_ (some 28) rfl rfl Tryz.func88 (by kernel_rfl) rfl #[.int .u64 a0, .int .i64 a1] rfl gl ?_; (with_reducible refine (aT.calls k a0 a1 t221 true _ A7.out).mono ?_); rintro e w' ⟨rfl, ⟨nd, rfl⟩⟩; refine ⟨_, rfl, ?_⟩) | ((with_reducible refine gate_callee (f := 88) rfl ?_); refine goesL_ (some 40) rfl rfl Tryz.func88 (by kernel_rfl) rfl #[.int .u64 a0, .int .i64 (wrap64 (a1 - 1))] rfl gl ?_; (with_reducible refine (aT.calls k a0 (wrap64 (a1 - 1)) t223 true _ A9.out).mono ?_); rintro e w' ⟨rfl, ⟨nd, rfl⟩⟩; refine ⟨_, rfl, ?_⟩))
     go_ret2
     exact ⟨gr_, gd_⟩
    ·replace c11 := Bool.eq_false_iff.mpr c11
     subst c11
     have H1 : (if a2 = true then (some (t221, 3)) else (some (t221, 2))) = some (r1, r2) := by rw [if_neg (show ¬ (false = true) by decide)] at H; exact H
     clear H
     have H := H1
     clear H1
     by_cases c12 : a2 = true
     ·subst c12
      have H1 : (some (t221, 3)) = some (r1, r2) := by rw [if_pos rfl] at H; exact H
      clear H
      have H := H1
      clear H1
      simp only [Option.some.injEq, Prod.mk.injEq] at H
      obtain ⟨rfl, rfl⟩ := H
      go_enter Tryz.func91, Tryz.ntmps91
      go_wp2_with (first | ((with_reducible refine gate_callee (f := 88) rfl ?_); refine goesL_ (some 28) rfl rfl Tryz.func88 (by kernel_rfl) rfl #[.int .u64 a0, .int .i64 a1] rfl gl ?_; (with_reducible refine (aT.calls k a0 a1 t221 true _ A7.out).mono ?_); rintro e w' ⟨rfl, ⟨nd, rfl⟩⟩; refine ⟨_, rfl, ?_⟩) | ((with_reducible refine gate_callee (f := 88) rfl ?_); refine goesL_ (some 40) rfl rfl Tryz.func88 (by kernel_rfl) rfl #[.int .u64 a0, .int .i64 (wrap64 (a1 - 1))] rfl gl ?_; (with_reducible refine (aT.calls k a0 (wrap64 (a1 - 1)) t223 false _ A9.out).mono ?_); rintro e w' ⟨rfl, ⟨nd, rfl⟩⟩; refine ⟨_, rfl, ?_⟩))
      go_ret2
      exact ⟨gr_, gd_⟩
     ·replace c12 := Bool.eq_false_iff.mpr c12
      subst c12
      have H1 : (some (t221, 2)) = some (r1, r2) := by rw [if_neg (show ¬ (false = true) by decide)] at H; exact H
      clear H
      have H := H1
      clear H1
      simp only [Option.some.injEq, Prod.mk.injEq] at H
      obtain ⟨rfl, rfl⟩ := H
      go_enter Tryz.func91, Tryz.ntmps91
      go_wp2_with (first | ((with_reducible refine gate_callee (f := 88) rfl ?_); refine goesL_ (some 28) rfl rfl Tryz.func88 (by kernel_rfl) rfl #[.int .u64 a0, .int .i64 a1] rfl gl ?_; (with_reducible refine (aT.calls k a0 a1 t221 true _ A7.out).mono ?_); rintro e w' ⟨rfl, ⟨nd, rfl⟩⟩; refine ⟨_, rfl, ?_⟩) | ((with_reducible refine gate_callee (f := 88) rfl ?_); refine goesL_ (some 40) rfl rfl Tryz.func88 (by kernel_rfl) rfl #[.int .u64 a0, .int .i64 (wrap64 (a1 - 1))] rfl gl ?_; (with_reducible refine (aT.calls k a0 (wrap64 (a1 - 1)) t223 false _ A9.out).mono ?_); rintro e w' ⟨rfl, ⟨nd, rfl⟩⟩; refine ⟨_, rfl, ?_⟩))
      go_ret2
      exact ⟨gr_, gd_⟩
  ·replace c8 := Bool.eq_false_iff.mpr c8
   subst c8
   have H1 : (if a2 = true then (some (t221, 1)) else (some (t221, 0))) = some (r1, r2) := by rw [if_neg (show ¬ (false = true) by decide)] at H; exact H
   clear H
   have H := H1
   clear H1
   by_cases c13 : a2 = true
   ·subst c13
    have H1 : (some (t221, 1)) = some (r1, r2) := by rw [if_pos rfl] at H; exact H
    clear H
    have H := H1
    clear H1
    simp only [Option.some.injEq, Prod.mk.injEq] at H
    obtain ⟨rfl, rfl⟩ := H
    go_enter Tryz.func91, Tryz.ntmps91
    go_wp2_with (first | ((with_reducible refine gate_callee (f := 88) rfl ?_); refine goesL_ (some 28) rfl rfl Tryz.func88 (by kernel_rfl) rfl #[.int .u64 a0, .int .i64 a1] rfl gl ?_; (with_reducible refine (aT.calls k a0 a1 t221 false _ A7.out).mono ?_); rintro e w' ⟨rfl, ⟨nd, rfl⟩⟩; refine ⟨_, rfl, ?_⟩))
    go_ret2
    exact ⟨gr_, gd_⟩
   ·replace c13 := Bool.eq_false_iff.mpr c13
    subst c13
    have H1 : (some (t221, 0)) = some (r1, r2) := by rw [if_neg (show ¬ (false = true) by decide)] at H; exact H
    clear H
    have H := H1
    clear H1
    simp only [Option.some.injEq, Prod.mk.injEq] at H
    obtain ⟨rfl, rfl⟩ := H
    go_enter Tryz.func91, Tryz.ntmps91
    go_wp2_with (first | ((with_reducible refine gate_callee (f := 88) rfl ?_); refine goesL_ (some 28) rfl rfl Tryz.func88 (by kernel_rfl) rfl #[.int .u64 a0, .int .i64 a1] rfl gl ?_; (with_reducible refine (aT.calls k a0 a1 t221 false _ A7.out).mono ?_); rintro e w' ⟨rfl, ⟨nd, rfl⟩⟩; refine ⟨_, rfl, ?_⟩))
    go_ret2
    exact ⟨gr_, gd_⟩


-- NEED 0
/-! ### iL: function 92 -/
def iL.f (a0 : Int) (a1 : Bool) (a2 a3 : Int) : Option (Bool) := if a0 = 1 then (some false) else (if a0 = 2 then (if a1 = true then (some false) else (some (a3 != 0))) else (if a0 = 3 then (if a1 = true then (some (a3 != 0)) else (some false)) else (if a0 = 4 then (some (decide (a3 ≥ 2))) else (if a3 = 3 then (some true) else (if a3 = 2 then (some ((Go.bits .and .u64 a2 1) == 1)) else (some false))))))
theorem iL.calls (a0 : Int) (a1 : Bool) (a2 a3 : Int) (r : Bool) (w : World) (h : iL.f a0 a1 a2 a3 = some r) :
  Calls Tryz.prog 92 #[.int .i64 a0, .bool a1, .int .u64 a2, .int .i64 a3] w fun e w' => e = .returned (.bool r) ∧ Drawn0 w w' := by
 have H : (if a0 = 1 then (some false) else (if a0 = 2 then (if a1 = true then (some false) else (some (a3 != 0))) else (if a0 = 3 then (if a1 = true then (some (a3 != 0)) else (some false)) else (if a0 = 4 then (some (decide (a3 ≥ 2))) else (if a3 = 3 then (some true) else (if a3 = 2 then (some ((Go.bits .and .u64 a2 1) == 1)) else (some false))))))) = some r := h
 clear h
 by_cases c5 : a0 = 1
 ·rw [if_pos c5] at H
  have c5b0 : (a0 == 1) = true := beq_iff_eq.mpr c5
  have c5b1 : (a0 != 1) = false := bne_eq_false_iff_eq.mpr c5
  clear c5
  obtain rfl := Option.some.inj H
  go_enter Tryz.func92, Tryz.ntmps92
  go_wp2
  go_ret
  exact ⟨gr_, gd_⟩
 ·rw [if_neg c5] at H
  have c5b0 : (a0 == 1) = false := beq_eq_false_iff_ne.mpr c5
  have c5b1 : (a0 != 1) = true := bne_iff_ne.mpr c5
  by_cases c6 : a0 = 2
  ·rw [if_pos c6] at H
   have c6b0 : (a0 == 2) = true := beq_iff_eq.mpr c6
   have c6b1 : (a0 != 2) = false := bne_eq_false_iff_eq.mpr c6
   clear c6
   by_cases c7 : a1 = true
   ·subst c7
    have H1 : (some false) = some r := by rw [if_pos rfl] at H; exact H
    clear H
    have H := H1
    clear H1
    obtain rfl := Option.some.inj H
    go_enter Tryz.func92, Tryz.ntmps92
    go_wp2
    go_ret
    exact ⟨gr_, gd_⟩
   ·replace c7 := Bool.eq_false_iff.mpr c7
    subst c7
    have H1 : (some (a3 != 0)) = some r := by rw [if_neg (show ¬ (false = true) by decide)] at H; exact H
    clear H
    have H := H1
    clear H1
    obtain rfl := Option.some.inj H
    go_enter Tryz.func92, Tryz.ntmps92
    go_wp2
    go_ret
    exact ⟨gr_, gd_⟩
  ·rw [if_neg c6] at H
   have c6b0 : (a0 == 2) = false := beq_eq_false_iff_ne.mpr c6
   have c6b1 : (a0 != 2) = true := bne_iff_ne.mpr c6
   by_cases c8 : a0 = 3
   ·rw [if_pos c8] at H
    have c8b0 : (a0 == 3) = true := beq_iff_eq.mpr c8
    have c8b1 : (a0 != 3) = false := bne_eq_false_iff_eq.mpr c8
    clear c8
    by_cases c9 : a1 = true
    ·subst c9
     have H1 : (some (a3 != 0)) = some r := by rw [if_pos rfl] at H; exact H
     clear H
     have H := H1
     clear H1
     obtain rfl := Option.some.inj H
     go_enter Tryz.func92, Tryz.ntmps92
     go_wp2
     go_ret
     exact ⟨gr_, gd_⟩
    ·replace c9 := Bool.eq_false_iff.mpr c9
     subst c9
     have H1 : (some false) = some r := by rw [if_neg (show ¬ (false = true) by decide)] at H; exact H
     clear H
     have H := H1
     clear H1
     obtain rfl := Option.some.inj H
     go_enter Tryz.func92, Tryz.ntmps92
     go_wp2
     go_ret
     exact ⟨gr_, gd_⟩
   ·rw [if_neg c8] at H
    have c8b0 : (a0 == 3) = false := beq_eq_false_iff_ne.mpr c8
    have c8b1 : (a0 != 3) = true := bne_iff_ne.mpr c8
    by_cases c10 : a0 = 4
    ·rw [if_pos c10] at H
     have c10b0 : (a0 == 4) = true := beq_iff_eq.mpr c10
     have c10b1 : (a0 != 4) = false := bne_eq_false_iff_eq.mpr c10
     clear c10
     obtain rfl := Option.some.inj H
     go_enter Tryz.func92, Tryz.ntmps92
     go_wp2
     go_ret
     exact ⟨gr_, gd_⟩
    ·rw [if_neg c10] at H
     have c10b0 : (a0 == 4) = false := beq_eq_false_iff_ne.mpr c10
     have c10b1 : (a0 != 4) = true := bne_iff_ne.mpr c10
     by_cases c11 : a3 = 3
     ·rw [if_pos c11] at H
      have c11b0 : (a3 == 3) = true := beq_iff_eq.mpr c11
      have c11b1 : (a3 != 3) = false := bne_eq_false_iff_eq.mpr c11
      clear c11
      obtain rfl := Option.some.inj H
      go_enter Tryz.func92, Tryz.ntmps92
      go_wp2
      go_ret
      exact ⟨gr_, gd_⟩
     ·rw [if_neg c11] at H
      have c11b0 : (a3 == 3) = false := beq_eq_false_iff_ne.mpr c11
      have c11b1 : (a3 != 3) = true := bne_iff_ne.mpr c11
      by_cases c12 : a3 = 2
      ·rw [if_pos c12] at H
       have c12b0 : (a3 == 2) = true := beq_iff_eq.mpr c12
       have c12b1 : (a3 != 2) = false := bne_eq_false_iff_eq.mpr c12
       clear c12
       obtain rfl := Option.some.inj H
       go_enter Tryz.func92, Tryz.ntmps92
       go_wp2
       go_ret
       exact ⟨gr_, gd_⟩
      ·rw [if_neg c12] at H
       have c12b0 : (a3 == 2) = false := beq_eq_false_iff_ne.mpr c12
       have c12b1 : (a3 != 2) = true := bne_iff_ne.mpr c12
       obtain rfl := Option.some.inj H
       go_enter Tryz.func92, Tryz.ntmps92
       go_wp2
       go_ret
       exact ⟨gr_, gd_⟩

-- NEED 0
/-! ### dE: function 79 -/
def dE.f (a0 : Int) (a1 : Bool) : Option (Int) := (dI.f a0).bind fun t225 => ((cB.f a0 a1 t225 0).bind fun t226 => (some t226))
theorem dE.calls (a0 : Int) (a1 : Bool) (r : Int) (w : World) (h : dE.f a0 a1 = some r) :
  Calls Tryz.prog 79 #[.int .i64 a0, .bool a1] w fun e w' => e = .returned (.int .u32 r) ∧ Drawn0 w w' := by
 have H : ((dI.f a0).bind fun t225 => ((cB.f a0 a1 t225 0).bind fun t226 => (some t226))) = some r := h
 clear h
 replace H := bq_ H
 obtain ⟨t225, A30, H⟩ := H
 replace H : ((cB.f a0 a1 t225 0).bind fun t226 => (some t226)) = some r := H
 have A3 := Aside0.mk A30
 clear A30
 replace H := bq_ H
 obtain ⟨t226, A40, H⟩ := H
 replace H : (some t226) = some r := H
 have A4 := Aside0.mk A40
 clear A40
 obtain rfl := Option.some.inj H
 go_enter Tryz.func79, Tryz.ntmps79
 go_wp2_with (first | ((with_reducible refine gate_callee (f := 94) rfl ?_); refine goesL_ (some 8) rfl rfl Tryz.func94 (by kernel_rfl) rfl #[.int .i64 a0] rfl gl ?_; (with_reducible refine (dI.calls a0 t225 _ A3.out).mono ?_); rintro e w' ⟨rfl, ⟨nd, rfl⟩⟩; refine ⟨_, rfl, ?_⟩) | ((with_reducible refine gate_callee (f := 97) rfl ?_); refine goesL_ (some 9) rfl rfl Tryz.func97 (by kernel_rfl) rfl #[.int .i64 a0, .bool a1, .int .i64 t225, .int .u32 0] rfl gl ?_; (with_reducible refine (cB.calls a0 a1 t225 0 t226 _ A4.out).mono ?_); rintro e w' ⟨rfl, ⟨nd, rfl⟩⟩; refine ⟨_, rfl, ?_⟩))
 go_ret
 exact ⟨gr_, gd_⟩

-- NEED 0
/-! ### dO: function 111 -/
def dO.f (a0 : Int) (a1 : Bool) : Option (Int) := (bD.f a0).bind fun bt227 => ((dI.f a0).bind fun t229 => (if 0 ≤ (IntKind.u64.wrap (bt227.2)) then ((cB.f a0 a1 (wrap64 (t229 - 1)) (((shl .u32 1 (IntKind.u64.wrap (bt227.2))) - 1) % 4294967296)).bind fun t230 => (some t230)) else (none)))
theorem dO.calls (a0 : Int) (a1 : Bool) (r : Int) (w : World) (h : dO.f a0 a1 = some r) :
  Calls Tryz.prog 111 #[.int .i64 a0, .bool a1] w fun e w' => e = .returned (.int .u32 r) ∧ Drawn0 w w' := by
 have H : ((bD.f a0).bind fun bt227 => ((dI.f a0).bind fun t229 => (if 0 ≤ (IntKind.u64.wrap (bt227.2)) then ((cB.f a0 a1 (wrap64 (t229 - 1)) (((shl .u32 1 (IntKind.u64.wrap (bt227.2))) - 1) % 4294967296)).bind fun t230 => (some t230)) else (none)))) = some r := h
 clear h
 replace H := bq_ H
 obtain ⟨⟨t227, t228⟩, A30, H⟩ := H
 replace H : ((dI.f a0).bind fun t229 => (if 0 ≤ (IntKind.u64.wrap (t228)) then ((cB.f a0 a1 (wrap64 (t229 - 1)) (((shl .u32 1 (IntKind.u64.wrap (t228))) - 1) % 4294967296)).bind fun t230 => (some t230)) else (none))) = some r := H
 have A3 := Aside0.mk A30
 clear A30
 replace H := bq_ H
 obtain ⟨t229, A40, H⟩ := H
 replace H : (if 0 ≤ (IntKind.u64.wrap (t228)) then ((cB.f a0 a1 (wrap64 (t229 - 1)) (((shl .u32 1 (IntKind.u64.wrap (t228))) - 1) % 4294967296)).bind fun t230 => (some t230)) else (none)) = some r := H
 have A4 := Aside0.mk A40
 clear A40
 obtain ⟨ji5, hji5⟩ : ∃ j_ : Int, (IntKind.u64.wrap (t228)) = j_ := ⟨_, rfl⟩
 replace H : (if 0 ≤ (ji5) then ((cB.f a0 a1 (wrap64 (t229 - 1)) (((shl .u32 1 (ji5)) - 1) % 4294967296)).bind fun t230 => (some t230)) else (none)) = some r := by first | (rw [hji5] at H; exact H) | (simp only [hji5] at H ⊢; exact H)
 (try rw [hji5] at A3)
 (try rw [hji5] at A4)
 by_cases c6 : 0 ≤ (ji5)
 ·rw [if_pos c6] at H
  have c6b0 := eq_true c6
  have c6b1 : decide (0 ≤ (ji5)) = true := decide_eq_true c6
  clear c6
  obtain ⟨ji7, hji7⟩ : ∃ j_ : Int, (shl .u32 1 (ji5)) = j_ := ⟨_, rfl⟩
  replace H : ((cB.f a0 a1 (wrap64 (t229 - 1)) (((ji7) - 1) % 4294967296)).bind fun t230 => (some t230)) = some r := by first | (rw [hji7] at H; exact H) | (simp only [hji7] at H ⊢; exact H)
  (try rw [hji7] at A3)
  (try rw [hji7] at A4)
  have hji7_ : (IntKind.u32.wrap (1 * 2 ^ min (ji5).toNat 32)) = ji7 := hji7
  have hji7z : (ji5) ≤ 32 → (IntKind.u32.wrap (1 * 2 ^ (ji5).toNat)) = ji7 := shl_small hji7
  have hji7u : (IntKind.u32.wrap (2 ^ min (ji5).toNat 32)) = ji7 := by have h_ := hji7_; rw [Int.one_mul] at h_; exact h_
  have hji7v : (ji5) ≤ 32 → (IntKind.u32.wrap (2 ^ (ji5).toNat)) = ji7 := fun hle_ => by have h_ := hji7z hle_; rw [Int.one_mul] at h_; exact h_
  obtain ⟨ji8, hji8⟩ : ∃ j_ : Int, (((ji7) - 1) % 4294967296) = j_ := ⟨_, rfl⟩
  replace H : ((cB.f a0 a1 (wrap64 (t229 - 1)) (ji8)).bind fun t230 => (some t230)) = some r := by first | (rw [hji8] at H; exact H) | (simp only [hji8] at H ⊢; exact H)
  (try rw [hji8] at A3)
  (try rw [hji8] at A4)
  have hji8l : 0 ≤ ji8 := by rw [← hji8]; exact Int.emod_nonneg _ (by decide)
  have hji8h : ji8 ≤ 4294967295 := by have := Int.emod_lt_of_pos (((ji7) - 1)) (show (0 : Int) < 4294967296 by decide); omega
  have hji8w : (IntKind.u32.wrap ((ji7) - 1)) = ji8 := (sH _).trans hji8
  (try (have hji8_ := hji8; simp only [Int.add_emod_emod, Int.emod_add_emod, Int.sub_emod_emod, Int.emod_sub_emod] at hji8_))
  replace H := bq_ H
  obtain ⟨t230, A90, H⟩ := H
  replace H : (some t230) = some r := H
  have A9 := Aside0.mk A90
  clear A90
  obtain rfl := Option.some.inj H
  go_enter Tryz.func111, Tryz.ntmps111
  go_wp2_with (first | ((with_reducible refine gate_callee (f := 51) rfl ?_); refine goesL_ (some 9) rfl rfl Tryz.func51 (by kernel_rfl) rfl #[.int .i64 a0] rfl gl ?_; (with_reducible refine (bD.calls a0 t227 t228 _ A3.out).mono ?_); rintro e w' ⟨rfl, ⟨nd, rfl⟩⟩; refine ⟨_, rfl, ?_⟩) | ((with_reducible refine gate_callee (f := 94) rfl ?_); refine goesL_ (some 15) rfl rfl Tryz.func94 (by kernel_rfl) rfl #[.int .i64 a0] rfl gl ?_; (with_reducible refine (dI.calls a0 t229 _ A4.out).mono ?_); rintro e w' ⟨rfl, ⟨nd, rfl⟩⟩; refine ⟨_, rfl, ?_⟩) | ((with_reducible refine gate_callee (f := 97) rfl ?_); refine goesL_ (some 21) rfl rfl Tryz.func97 (by kernel_rfl) rfl #[.int .i64 a0, .bool a1, .int .i64 (wrap64 (t229 - 1)), .int .u32 ji8] rfl (by (try simp only [List.map_toArray, List.map_cons, List.map_nil]); first | done | (simp only [hji8]; rfl) | rfl | (simp only [List.length_drop, List.length_take]; rfl)) ?_; (with_reducible refine (cB.calls a0 a1 (wrap64 (t229 - 1)) ji8 t230 _ A9.out).mono ?_); rintro e w' ⟨rfl, ⟨nd, rfl⟩⟩; refine ⟨_, rfl, ?_⟩))
  go_ret
  exact ⟨by first | rfl | (simp; done) | (simp only [← hji5, ← hji7, ← hji8] <;> (first | rfl | (simp; done))) | (simp [*]; done) | (congr 1; (try unfold wrap64); omega) | (congr 1; rw [IntKind.wrap_u64]; omega), gd_⟩
 ·rw [if_neg c6] at H
  exact absurd H (by simp)

-- NEED 0
/-! ### bY: function 95 -/
def bY.f (a0 a1 : Int) (a2 : Bool) : Option (Int × Bool × Bool × Bool × Bool × Bool) := if a1 = 1 then ((dO.f a0 a2).bind fun t233 => (some (t233, false, false, true, false, true))) else (if a1 = 2 then (if a2 = true then ((dO.f a0 a2).bind fun t234 => (some (t234, false, false, true, false, true))) else ((dE.f a0 a2).bind fun t235 => (some (t235, false, false, true, false, true)))) else (if a1 = 3 then (if a2 = true then ((dE.f a0 a2).bind fun t236 => (some (t236, false, false, true, false, true))) else ((dO.f a0 a2).bind fun t237 => (some (t237, false, false, true, false, true)))) else ((dE.f a0 a2).bind fun t238 => (some (t238, false, false, true, false, true)))))

-- NEED 0
/-! ### fJ: function 98 -/
def fJ.f (a0 a1 : Int) : Option (Int) := if a1 < 1 then (some 0) else (if a1 ≥ 64 then (some a0) else (if 0 ≤ (IntKind.u64.wrap (a1)) then (some (Go.bits .and .u64 a0 (IntKind.u64.wrap ((shl .u64 1 (IntKind.u64.wrap (a1))) - 1)))) else (none)))
theorem fJ.calls (a0 a1 r : Int) (w : World) (h : fJ.f a0 a1 = some r) :
  Calls Tryz.prog 98 #[.int .u64 a0, .int .i64 a1] w fun e w' => e = .returned (.int .u64 r) ∧ Drawn0 w w' := by
 have H : (if a1 < 1 then (some 0) else (if a1 ≥ 64 then (some a0) else (if 0 ≤ (IntKind.u64.wrap (a1)) then (some (Go.bits .and .u64 a0 (IntKind.u64.wrap ((shl .u64 1 (IntKind.u64.wrap (a1))) - 1)))) else (none)))) = some r := h
 clear h
 by_cases c3 : a1 < 1
 ·rw [if_pos c3] at H
  have c3b0 : decide (a1 < 1) = true := decide_eq_true c3
  clear c3
  obtain rfl := Option.some.inj H
  go_enter Tryz.func98, Tryz.ntmps98
  go_wp2
  go_ret
  exact ⟨gr_, gd_⟩
 ·rw [if_neg c3] at H
  have c3b0 : decide (a1 < 1) = false := decide_eq_false c3
  clear c3
  by_cases c4 : a1 ≥ 64
  ·rw [if_pos c4] at H
   have c4b0 : decide (64 ≤ a1) = true := decide_eq_true c4
   clear c4
   obtain rfl := Option.some.inj H
   go_enter Tryz.func98, Tryz.ntmps98
   go_wp2
   go_ret
   exact ⟨gr_, gd_⟩
  ·rw [if_neg c4] at H
   have c4b0 : decide (64 ≤ a1) = false := decide_eq_false c4
   clear c4
   obtain ⟨ji5, hji5⟩ : ∃ j_ : Int, (IntKind.u64.wrap (a1)) = j_ := ⟨_, rfl⟩
   replace H : (if 0 ≤ (ji5) then (some (Go.bits .and .u64 a0 (IntKind.u64.wrap ((shl .u64 1 (ji5)) - 1)))) else (none)) = some r := by first | (rw [hji5] at H; exact H) | (simp only [hji5] at H ⊢; exact H)
   by_cases c6 : 0 ≤ (ji5)
   ·rw [if_pos c6] at H
    have c6b0 := eq_true c6
    have c6b1 : decide (0 ≤ (ji5)) = true := decide_eq_true c6
    clear c6
    obtain ⟨ji7, hji7⟩ : ∃ j_ : Int, (shl .u64 1 (ji5)) = j_ := ⟨_, rfl⟩
    replace H : (some (Go.bits .and .u64 a0 (IntKind.u64.wrap ((ji7) - 1)))) = some r := by first | (rw [hji7] at H; exact H) | (simp only [hji7] at H ⊢; exact H)
    have hji7_ : (IntKind.u64.wrap (1 * 2 ^ min (ji5).toNat 64)) = ji7 := hji7
    have hji7z : (ji5) ≤ 64 → (IntKind.u64.wrap (1 * 2 ^ (ji5).toNat)) = ji7 := shl_small hji7
    have hji7u : (IntKind.u64.wrap (2 ^ min (ji5).toNat 64)) = ji7 := by have h_ := hji7_; rw [Int.one_mul] at h_; exact h_
    have hji7v : (ji5) ≤ 64 → (IntKind.u64.wrap (2 ^ (ji5).toNat)) = ji7 := fun hle_ => by have h_ := hji7z hle_; rw [Int.one_mul] at h_; exact h_
    obtain rfl := Option.some.inj H
    go_enter Tryz.func98, Tryz.ntmps98
    go_wp2
    go_ret
    exact ⟨by first | rfl | (simp; done) | (simp only [← hji5, ← hji7] <;> (first | rfl | (simp; done))) | (simp [*]; done) | (congr 1; (try unfold wrap64); omega) | (congr 1; rw [IntKind.wrap_u64]; omega), gd_⟩
   ·rw [if_neg c6] at H
    exact absurd H (by simp)


-- NEED 0
/-! ### iA: function 52 -/
def iA.f (a0 : Int) : Option (Int) := (bD.f a0).bind fun bt306 => (if 0 ≤ (IntKind.u64.wrap (wrap64 ((wrap64 (bt306.1 + bt306.2)) + 1))) then (some (((shl .u32 1 (IntKind.u64.wrap (wrap64 ((wrap64 (bt306.1 + bt306.2)) + 1)))) - 1) % 4294967296)) else (none))
theorem iA.calls (a0 r : Int) (w : World) (h : iA.f a0 = some r) :
  Calls Tryz.prog 52 #[.int .i64 a0] w fun e w' => e = .returned (.int .u32 r) ∧ Drawn0 w w' := by
 have H : ((bD.f a0).bind fun bt306 => (if 0 ≤ (IntKind.u64.wrap (wrap64 ((wrap64 (bt306.1 + bt306.2)) + 1))) then (some (((shl .u32 1 (IntKind.u64.wrap (wrap64 ((wrap64 (bt306.1 + bt306.2)) + 1)))) - 1) % 4294967296)) else (none))) = some r := h
 clear h
 replace H := bq_ H
 obtain ⟨⟨t306, t307⟩, A20, H⟩ := H
 replace H : (if 0 ≤ (IntKind.u64.wrap (wrap64 ((wrap64 (t306 + t307)) + 1))) then (some (((shl .u32 1 (IntKind.u64.wrap (wrap64 ((wrap64 (t306 + t307)) + 1)))) - 1) % 4294967296)) else (none)) = some r := H
 have A2 := Aside0.mk A20
 clear A20
 obtain ⟨ji3, hji3⟩ : ∃ j_ : Int, (IntKind.u64.wrap (wrap64 ((wrap64 (t306 + t307)) + 1))) = j_ := ⟨_, rfl⟩
 replace H : (if 0 ≤ (ji3) then (some (((shl .u32 1 (ji3)) - 1) % 4294967296)) else (none)) = some r := by first | (rw [hji3] at H; exact H) | (simp only [hji3] at H ⊢; exact H)
 (try rw [hji3] at A2)
 by_cases c4 : 0 ≤ (ji3)
 ·rw [if_pos c4] at H
  have c4b0 := eq_true c4
  have c4b1 : decide (0 ≤ (ji3)) = true := decide_eq_true c4
  clear c4
  obtain ⟨ji5, hji5⟩ : ∃ j_ : Int, (shl .u32 1 (ji3)) = j_ := ⟨_, rfl⟩
  replace H : (some (((ji5) - 1) % 4294967296)) = some r := by first | (rw [hji5] at H; exact H) | (simp only [hji5] at H ⊢; exact H)
  (try rw [hji5] at A2)
  have hji5_ : (IntKind.u32.wrap (1 * 2 ^ min (ji3).toNat 32)) = ji5 := hji5
  have hji5z : (ji3) ≤ 32 → (IntKind.u32.wrap (1 * 2 ^ (ji3).toNat)) = ji5 := shl_small hji5
  have hji5u : (IntKind.u32.wrap (2 ^ min (ji3).toNat 32)) = ji5 := by have h_ := hji5_; rw [Int.one_mul] at h_; exact h_
  have hji5v : (ji3) ≤ 32 → (IntKind.u32.wrap (2 ^ (ji3).toNat)) = ji5 := fun hle_ => by have h_ := hji5z hle_; rw [Int.one_mul] at h_; exact h_
  obtain ⟨ji6, hji6⟩ : ∃ j_ : Int, (((ji5) - 1) % 4294967296) = j_ := ⟨_, rfl⟩
  replace H : (some ji6) = some r := by first | (rw [hji6] at H; exact H) | (simp only [hji6] at H ⊢; exact H)
  (try rw [hji6] at A2)
  have hji6l : 0 ≤ ji6 := by rw [← hji6]; exact Int.emod_nonneg _ (by decide)
  have hji6h : ji6 ≤ 4294967295 := by have := Int.emod_lt_of_pos (((ji5) - 1)) (show (0 : Int) < 4294967296 by decide); omega
  have hji6w : (IntKind.u32.wrap ((ji5) - 1)) = ji6 := (sH _).trans hji6
  (try (have hji6_ := hji6; simp only [Int.add_emod_emod, Int.emod_add_emod, Int.sub_emod_emod, Int.emod_sub_emod] at hji6_))
  obtain rfl := Option.some.inj H
  go_enter Tryz.func52, Tryz.ntmps52
  go_wp2_with (first | ((with_reducible refine gate_callee (f := 51) rfl ?_); refine goesL_ (some 7) rfl rfl Tryz.func51 (by kernel_rfl) rfl #[.int .i64 a0] rfl gl ?_; (with_reducible refine (bD.calls a0 t306 t307 _ A2.out).mono ?_); rintro e w' ⟨rfl, ⟨nd, rfl⟩⟩; refine ⟨_, rfl, ?_⟩))
  go_ret
  exact ⟨by first | rfl | (simp; done) | (simp only [← hji3, ← hji5, ← hji6] <;> (first | rfl | (simp; done))) | (simp [*]; done) | (congr 1; (try unfold wrap64); omega) | (congr 1; rw [IntKind.wrap_u64]; omega), gd_⟩
 ·rw [if_neg c4] at H
  exact absurd H (by simp)

-- NEED 0
/-! ### eO: function 30 -/
def eO.f (a0 a1 : Int) : Option (Int) := (bD.f a0).bind fun bt308 => ((iA.f a0).bind fun t310 => (if 0 ≤ (IntKind.u64.wrap (wrap64 (bt308.1 + bt308.2))) then (some (Go.bits .xor .u32 (Go.bits .and .u32 a1 t310) (shl .u32 1 (IntKind.u64.wrap (wrap64 (bt308.1 + bt308.2)))))) else (none)))
theorem eO.calls (a0 a1 r : Int) (w : World) (h : eO.f a0 a1 = some r) :
  Calls Tryz.prog 30 #[.int .i64 a0, .int .u32 a1] w fun e w' => e = .returned (.int .u32 r) ∧ Drawn0 w w' := by
 have H : ((bD.f a0).bind fun bt308 => ((iA.f a0).bind fun t310 => (if 0 ≤ (IntKind.u64.wrap (wrap64 (bt308.1 + bt308.2))) then (some (Go.bits .xor .u32 (Go.bits .and .u32 a1 t310) (shl .u32 1 (IntKind.u64.wrap (wrap64 (bt308.1 + bt308.2)))))) else (none)))) = some r := h
 clear h
 replace H := bq_ H
 obtain ⟨⟨t308, t309⟩, A30, H⟩ := H
 replace H : ((iA.f a0).bind fun t310 => (if 0 ≤ (IntKind.u64.wrap (wrap64 (t308 + t309))) then (some (Go.bits .xor .u32 (Go.bits .and .u32 a1 t310) (shl .u32 1 (IntKind.u64.wrap (wrap64 (t308 + t309)))))) else (none))) = some r := H
 have A3 := Aside0.mk A30
 clear A30
 replace H := bq_ H
 obtain ⟨t310, A40, H⟩ := H
 replace H : (if 0 ≤ (IntKind.u64.wrap (wrap64 (t308 + t309))) then (some (Go.bits .xor .u32 (Go.bits .and .u32 a1 t310) (shl .u32 1 (IntKind.u64.wrap (wrap64 (t308 + t309)))))) else (none)) = some r := H
 have A4 := Aside0.mk A40
 clear A40
 obtain ⟨ji5, hji5⟩ : ∃ j_ : Int, (IntKind.u64.wrap (wrap64 (t308 + t309))) = j_ := ⟨_, rfl⟩
 replace H : (if 0 ≤ (ji5) then (some (Go.bits .xor .u32 (Go.bits .and .u32 a1 t310) (shl .u32 1 (ji5)))) else (none)) = some r := by first | (rw [hji5] at H; exact H) | (simp only [hji5] at H ⊢; exact H)
 (try rw [hji5] at A3)
 (try rw [hji5] at A4)
 by_cases c6 : 0 ≤ (ji5)
 ·rw [if_pos c6] at H
  have c6b0 := eq_true c6
  have c6b1 : decide (0 ≤ (ji5)) = true := decide_eq_true c6
  clear c6
  obtain ⟨ji7, hji7⟩ : ∃ j_ : Int, (shl .u32 1 (ji5)) = j_ := ⟨_, rfl⟩
  replace H : (some (Go.bits .xor .u32 (Go.bits .and .u32 a1 t310) (ji7))) = some r := by first | (rw [hji7] at H; exact H) | (simp only [hji7] at H ⊢; exact H)
  (try rw [hji7] at A3)
  (try rw [hji7] at A4)
  have hji7_ : (IntKind.u32.wrap (1 * 2 ^ min (ji5).toNat 32)) = ji7 := hji7
  have hji7z : (ji5) ≤ 32 → (IntKind.u32.wrap (1 * 2 ^ (ji5).toNat)) = ji7 := shl_small hji7
  have hji7u : (IntKind.u32.wrap (2 ^ min (ji5).toNat 32)) = ji7 := by have h_ := hji7_; rw [Int.one_mul] at h_; exact h_
  have hji7v : (ji5) ≤ 32 → (IntKind.u32.wrap (2 ^ (ji5).toNat)) = ji7 := fun hle_ => by have h_ := hji7z hle_; rw [Int.one_mul] at h_; exact h_
  obtain rfl := Option.some.inj H
  go_enter Tryz.func30, Tryz.ntmps30
  go_wp2_with (first | ((with_reducible refine gate_callee (f := 51) rfl ?_); refine goesL_ (some 9) rfl rfl Tryz.func51 (by kernel_rfl) rfl #[.int .i64 a0] rfl gl ?_; (with_reducible refine (bD.calls a0 t308 t309 _ A3.out).mono ?_); rintro e w' ⟨rfl, ⟨nd, rfl⟩⟩; refine ⟨_, rfl, ?_⟩) | ((with_reducible refine gate_callee (f := 52) rfl ?_); refine goesL_ (some 14) rfl rfl Tryz.func52 (by kernel_rfl) rfl #[.int .i64 a0] rfl gl ?_; (with_reducible refine (iA.calls a0 t310 _ A4.out).mono ?_); rintro e w' ⟨rfl, ⟨nd, rfl⟩⟩; refine ⟨_, rfl, ?_⟩))
  go_ret
  exact ⟨by first | rfl | (simp; done) | (simp only [← hji5, ← hji7] <;> (first | rfl | (simp; done))) | (simp [*]; done) | (congr 1; (try unfold wrap64); omega) | (congr 1; rw [IntKind.wrap_u64]; omega), gd_⟩
 ·rw [if_neg c6] at H
  exact absurd H (by simp)

-- NEED 0
/-! ### jQ: function 15 -/
def jQ.f (a0 : Int) : Option (Int) := (eO.f 2 a0).bind fun t311 => (some t311)
theorem jQ.calls (a0 r : Int) (w : World) (h : jQ.f a0 = some r) :
  Calls Tryz.prog 15 #[.int .u32 a0] w fun e w' => e = .returned (.int .u32 r) ∧ Drawn0 w w' := by
 have H : ((eO.f 2 a0).bind fun t311 => (some t311)) = some r := h
 clear h
 replace H := bq_ H
 obtain ⟨t311, A20, H⟩ := H
 replace H : (some t311) = some r := H
 have A2 := Aside0.mk A20
 clear A20
 obtain rfl := Option.some.inj H
 go_enter Tryz.func15, Tryz.ntmps15
 go_wp2_with (first | ((with_reducible refine gate_callee (f := 30) rfl ?_); refine goesL_ (some 4) rfl rfl Tryz.func30 (by kernel_rfl) rfl #[.int .i64 2, .int .u32 a0] rfl gl ?_; (with_reducible refine (eO.calls 2 a0 t311 _ A2.out).mono ?_); rintro e w' ⟨rfl, ⟨nd, rfl⟩⟩; refine ⟨_, rfl, ?_⟩))
 go_ret
 exact ⟨gr_, gd_⟩

-- NEED 0
/-! ### aX: function 58 -/
def aX.j0 : Nat → Int → Bool → Bool → Bool → Bool → Option (Int × Bool × Bool × Bool × Bool × Bool)
 |0, _, _, _, _, _ => none
 |k + 1, x0, x1, x2, x3, x12 => if x12 = true then ((eY.f x0).bind fun bt313 => (some (bt313.1, bt313.2.1, bt313.2.2.1, bt313.2.2.2.1, bt313.2.2.2.2.1, bt313.2.2.2.2.2))) else (if x3 = true then ((dE.f x0 x1).bind fun t319 => (some (t319, false, false, false, false, false))) else ((dE.f x0 x2).bind fun t320 => (some (t320, false, false, false, false, false))))
def aX.f (k : Nat) (a0 : Int) (a1 a2 : Bool) (a3 a4 : Bool) : Option (Int × Bool × Bool × Bool × Bool × Bool) := if a3 = true then (if a4 = true then (aX.j0 k a0 a1 a2 a3 (a1 != a2)) else (aX.j0 k a0 a1 a2 a3 false)) else (aX.j0 k a0 a1 a2 a3 false)
theorem aX.fB : ∀ k, (∀ y0 y1 y2 y3 y4, LeO (aX.j0 k y0 y1 y2 y3 y4) (aX.j0 (k + 1) y0 y1 y2 y3 y4))
 |0 => fun _ _ _ _ _ r h => by simp [aX.j0] at h
 |k + 1 => by
  have ih0 := aX.fB k
  ·intro y0 y1 y2 y3 y4
   unfold aX.j0
   repeat' first
   |(with_reducible first|exact ih0 _ _ _ _ _|exact LeO.refl _|exact LeO.none _|refine LeO.ite ?_ ?_|refine LeO.bind ?_ (fun _ => ?_))
   |exact ih0 _ _ _ _ _
   |exact LeO.none _
   |refine LeO.ite ?_ ?_
   |refine LeO.bind ?_ (fun _ => ?_)
theorem aX.mono : ∀ a0 a1 a2 a3 a4 k, LeO (aX.f k a0 a1 a2 a3 a4) (aX.f (k + 1) a0 a1 a2 a3 a4) := by
 intro a0 a1 a2 a3 a4 k
 have ih0 := aX.fB k
 unfold aX.f
 repeat' first
   |(with_reducible first|exact ih0 _ _ _ _ _|exact LeO.refl _|exact LeO.none _|refine LeO.ite ?_ ?_|refine LeO.bind ?_ (fun _ => ?_))
   |exact ih0 _ _ _ _ _
   |exact LeO.none _
   |refine LeO.ite ?_ ?_
   |refine LeO.bind ?_ (fun _ => ?_)
theorem aX.calls (k : Nat) (a0 : Int) (a1 a2 : Bool) (a3 a4 : Bool) (r1 : Int) (r2 r3 : Bool) (r4 r5 r6 : Bool) (w : World) (h : aX.f k a0 a1 a2 a3 a4 = some (r1, r2, r3, r4, r5, r6)) :
  Calls Tryz.prog 58 #[.int .i64 a0, .bool a1, .bool a2, .bool a3, .bool a4] w fun e w' => e = .returned (.tuple #[.int .u32 r1, .agg #[.bool r2, .bool r3, .bool r4, .bool r5, .bool r6]]) ∧ Below w.heap.size w w' := by
 have hu60 := Tryz.underlying60
 have HB := Aside0.mk (Below.refl w.heap.size w)
 have H : (if a3 = true then (if a4 = true then (aX.j0 k a0 a1 a2 a3 (a1 != a2)) else (aX.j0 k a0 a1 a2 a3 false)) else (aX.j0 k a0 a1 a2 a3 false)) = some (r1, r2, r3, r4, r5, r6) := h
 clear h
 have HC6 := Aside0.mk H
 clear H
 go_enter Tryz.func58, Tryz.ntmps58
 go_upto_region 1 with (first | ((with_reducible refine gate_dst (N := 11) rfl ?_); refine box_event ?hg (N := 11) ?hd (cs := F5) (t := 60) ?hr ?_; (case hd => rfl); (case hg => rfl); (case hr => first | (go_simp; done) | (go_simp; rfl)); intro gb312 hg w7 hbox hb; have n0_ := Aside0.mk (below_step (bl0 HB.out) hb); have n1_ := Aside0.mk (hbox); have n2_ := Aside0.mk ((by rw [hg]; exact (below_size (bl0 HB.out)) : w.heap.size ≤ gb312)); have n3_ := n2_; clear HB; have HB := n0_; have BK312 := n1_; have GW312 := n2_; have GE312 := n3_; clear n0_ n1_ n2_ n3_; clear hb hbox hg))
 (try simp only [Act.put, sb, sz, ss])
 go_cut [12] (fun v12 wc => ∃ (kq : Nat) (x12_5 : Bool), v12 = .bool x12_5 ∧ Aside0 (aX.j0 kq a0 a1 a2 a3 x12_5 = some (r1, r2, r3, r4, r5, r6)) ∧ Aside0 (kq ≤ k) ∧ Aside0 (wc.heap[gb312]? = some (o5_ false false false false false 60)) ∧ Aside0 (Below w.heap.size w wc))
 case first =>
  have H := HC6.out
  clear HC6
  by_cases c8 : a3 = true
  ·subst c8
   have H1 : (if a4 = true then (aX.j0 k a0 a1 a2 true (a1 != a2)) else (aX.j0 k a0 a1 a2 true false)) = some (r1, r2, r3, r4, r5, r6) := by rw [if_pos rfl] at H; exact H
   clear H
   have H := H1
   clear H1
   by_cases c9 : a4 = true
   ·subst c9
    have H1 : (aX.j0 k a0 a1 a2 true (a1 != a2)) = some (r1, r2, r3, r4, r5, r6) := by rw [if_pos rfl] at H; exact H
    clear H
    have H := H1
    clear H1
    have H' := Aside0.mk H
    clear H
    go_wp2
    go_meet
    case rel => exact ⟨_, ((a1 != a2)), (gr_), H', ⟨by first | omega | exact Nat.le_refl _⟩, ⟨by (with_reducible repeat first | apply bd | apply be | apply ba); exact BK312.out⟩, ⟨bl1 HB.out GE312.out⟩⟩
   ·replace c9 := Bool.eq_false_iff.mpr c9
    subst c9
    have H1 : (aX.j0 k a0 a1 a2 true false) = some (r1, r2, r3, r4, r5, r6) := by rw [if_neg (show ¬ (false = true) by decide)] at H; exact H
    clear H
    have H := H1
    clear H1
    have H' := Aside0.mk H
    clear H
    go_wp2
    go_meet
    case rel => exact ⟨_, (false), (gr_), H', ⟨by first | omega | exact Nat.le_refl _⟩, ⟨by (with_reducible repeat first | apply bd | apply be | apply ba); exact BK312.out⟩, ⟨bl1 HB.out GE312.out⟩⟩
  ·replace c8 := Bool.eq_false_iff.mpr c8
   subst c8
   have H1 : (aX.j0 k a0 a1 a2 false false) = some (r1, r2, r3, r4, r5, r6) := by rw [if_neg (show ¬ (false = true) by decide)] at H; exact H
   clear H
   have H := H1
   clear H1
   have H' := Aside0.mk H
   clear H
   go_wp2
   go_meet
   case rel => exact ⟨_, (false), (gr_), H', ⟨by first | omega | exact Nat.le_refl _⟩, ⟨by (with_reducible repeat first | apply bd | apply be | apply ba); exact BK312.out⟩, ⟨bl1 HB.out GE312.out⟩⟩
 case rest =>
  clear HC6
  try clear p2 c5 p6 c8 c9
  obtain ⟨kq, x12_5, rfl, HA, HJ5, BK312, HB⟩ := hcut
  cases kq with
  |zero => exact absurd HA.out (by simp [aX.j0])
  |succ kj5 =>
   have H := HA.out
   clear HA
   simp only [aX.j0] at H
   by_cases c10 : x12_5 = true
   ·subst c10
    have H1 : ((eY.f a0).bind fun bt313 => (some (bt313.1, bt313.2.1, bt313.2.2.1, bt313.2.2.2.1, bt313.2.2.2.2.1, bt313.2.2.2.2.2))) = some (r1, r2, r3, r4, r5, r6) := by rw [if_pos rfl] at H; exact H
    clear H
    have H := H1
    clear H1
    replace H := bq_ H
    obtain ⟨⟨t313, t314, t315, t316, t317, t318⟩, A110, H⟩ := H
    replace H : (some (t313, t314, t315, t316, t317, t318)) = some (r1, r2, r3, r4, r5, r6) := H
    have A11 := Aside0.mk A110
    clear A110
    simp only [Option.some.injEq, Prod.mk.injEq] at H
    obtain ⟨rfl, rfl, rfl, rfl, rfl, rfl⟩ := H
    go_wp2_with (first | ((with_reducible refine gate_callee (f := 55) rfl ?_); refine goesL_ (some 23) rfl rfl Tryz.func55 (by kernel_rfl) rfl #[.int .i64 a0] rfl gl ?_; (with_reducible refine (eY.calls a0 t313 t314 t315 t316 t317 t318 _ A11.out).mono ?_); rintro e w12 ⟨rfl, hb⟩; refine ⟨_, rfl, ?_⟩; have n0_ := Aside0.mk (blk_below (g := gb312) (o := o5_ false false false false false 60) (bv BK312.out) hb); have n1_ := Aside0.mk (below_step (bl1 HB.out GE312.out) hb); clear BK312; clear HB; have BK312 := n0_; have HB := n1_; clear n0_ n1_; obtain ⟨hcz13_0, hcz13_1, hcz13_2, hcz13_3, hcz13_4⟩ := bc5 BK312.out; obtain ⟨hfz13_0, hfz13_1, hfz13_2, hfz13_3, hfz13_4⟩ := bf5 BK312.out))
    refine bodyPost_ret (results_tc rfl _ _ gb312 60 #[.bool t314, .bool t315, .bool t316, .bool t317, .bool t318] (0, 0) _ rfl (by (with_reducible repeat first | apply bd | apply be | apply ba); refine blk_put (cs := q5_ t314 t315 t316 t317 false) ?_ 4 _ rfl; (with_reducible repeat first | apply bd | apply be | apply ba); refine blk_put (cs := q5_ t314 t315 t316 false false) ?_ 3 _ rfl; (with_reducible repeat first | apply bd | apply be | apply ba); refine blk_put (cs := q5_ t314 t315 false false false) ?_ 2 _ rfl; (with_reducible repeat first | apply bd | apply be | apply ba); refine blk_put (cs := q5_ t314 false false false false) ?_ 1 _ rfl; (with_reducible repeat first | apply bd | apply be | apply ba); refine blk_put (cs := F5) ?_ 0 _ rfl; (with_reducible repeat first | apply bd | apply be | apply ba); exact BK312.out) Tryz.underlying60 rfl (by kernel_rfl)) rfl ?_
    exact ⟨by first | rfl | (simp [bT, bU] <;> rfl) | (simp [*, bT, bU] <;> rfl), bl1 HB.out GE312.out⟩
   ·replace c10 := Bool.eq_false_iff.mpr c10
    subst c10
    have H1 : (if a3 = true then ((dE.f a0 a1).bind fun t319 => (some (t319, false, false, false, false, false))) else ((dE.f a0 a2).bind fun t320 => (some (t320, false, false, false, false, false)))) = some (r1, r2, r3, r4, r5, r6) := by rw [if_neg (show ¬ (false = true) by decide)] at H; exact H
    clear H
    have H := H1
    clear H1
    by_cases c14 : a3 = true
    ·subst c14
     have H1 : ((dE.f a0 a1).bind fun t319 => (some (t319, false, false, false, false, false))) = some (r1, r2, r3, r4, r5, r6) := by rw [if_pos rfl] at H; exact H
     clear H
     have H := H1
     clear H1
     replace H := bq_ H
     obtain ⟨t319, A150, H⟩ := H
     replace H : (some (t319, false, false, false, false, false)) = some (r1, r2, r3, r4, r5, r6) := H
     have A15 := Aside0.mk A150
     clear A150
     simp only [Option.some.injEq, Prod.mk.injEq] at H
     obtain ⟨rfl, rfl, rfl, rfl, rfl, rfl⟩ := H
     go_wp2_with (first | ((with_reducible refine gate_callee (f := 79) rfl ?_); refine goesL_ (some 30) rfl rfl Tryz.func79 (by kernel_rfl) rfl #[.int .i64 a0, .bool a1] rfl gl ?_; (with_reducible refine (dE.calls a0 a1 t319 _ A15.out).mono ?_); rintro e w' ⟨rfl, ⟨nd, rfl⟩⟩; refine ⟨_, rfl, ?_⟩; (try (rw [drewN_self wc]; generalize hq_ : World.drewN wc _ = wc; have n0_ : Aside0 (wc.heap[gb312]? = some (o5_ false false false false false 60)) := ⟨by rw [← hq_]; exact (bv BK312.out)⟩; have n1_ : Aside0 (Below w.heap.size w wc) := ⟨by rw [← hq_]; exact (bl1 HB.out GE312.out)⟩; clear BK312 HB hq_; have BK312 := n0_; have HB := n1_; clear n0_ n1_)); obtain ⟨hcz16_0, hcz16_1, hcz16_2, hcz16_3, hcz16_4⟩ := bc5 BK312.out; obtain ⟨hfz16_0, hfz16_1, hfz16_2, hfz16_3, hfz16_4⟩ := bf5 BK312.out))
     refine bodyPost_ret (results_tc rfl _ _ gb312 60 #[.bool false, .bool false, .bool false, .bool false, .bool false] (0, 0) _ rfl (by (with_reducible repeat first | apply bd | apply be | apply ba); refine blk_put (cs := F5) ?_ 4 _ rfl; (with_reducible repeat first | apply bd | apply be | apply ba); refine blk_put (cs := F5) ?_ 3 _ rfl; (with_reducible repeat first | apply bd | apply be | apply ba); refine blk_put (cs := F5) ?_ 2 _ rfl; (with_reducible repeat first | apply bd | apply be | apply ba); refine blk_put (cs := F5) ?_ 1 _ rfl; (with_reducible repeat first | apply bd | apply be | apply ba); refine blk_put (cs := F5) ?_ 0 _ rfl; (with_reducible repeat first | apply bd | apply be | apply ba); exact BK312.out) Tryz.underlying60 rfl (by kernel_rfl)) rfl ?_
     exact ⟨by first | rfl | (simp [bT, bU] <;> rfl) | (simp [*, bT, bU] <;> rfl), bl1 HB.out GE312.out⟩
    ·replace c14 := Bool.eq_false_iff.mpr c14
     subst c14
     have H1 : ((dE.f a0 a2).bind fun t320 => (some (t320, false, false, false, false, false))) = some (r1, r2, r3, r4, r5, r6) := by rw [if_neg (show ¬ (false = true) by decide)] at H; exact H
     clear H
     have H := H1
     clear H1
     replace H := bq_ H
     obtain ⟨t320, A170, H⟩ := H
     replace H : (some (t320, false, false, false, false, false)) = some (r1, r2, r3, r4, r5, r6) := H
     have A17 := Aside0.mk A170
     clear A170
     simp only [Option.some.injEq, Prod.mk.injEq] at H
     obtain ⟨rfl, rfl, rfl, rfl, rfl, rfl⟩ := H
     go_wp2_with (first | ((with_reducible refine gate_callee (f := 79) rfl ?_); refine goesL_ (some 34) rfl rfl Tryz.func79 (by kernel_rfl) rfl #[.int .i64 a0, .bool a2] rfl gl ?_; (with_reducible refine (dE.calls a0 a2 t320 _ A17.out).mono ?_); rintro e w' ⟨rfl, ⟨nd, rfl⟩⟩; refine ⟨_, rfl, ?_⟩; (try (rw [drewN_self wc]; generalize hq_ : World.drewN wc _ = wc; have n0_ : Aside0 (wc.heap[gb312]? = some (o5_ false false false false false 60)) := ⟨by rw [← hq_]; exact (bv BK312.out)⟩; have n1_ : Aside0 (Below w.heap.size w wc) := ⟨by rw [← hq_]; exact (bl1 HB.out GE312.out)⟩; clear BK312 HB hq_; have BK312 := n0_; have HB := n1_; clear n0_ n1_)); obtain ⟨hcz18_0, hcz18_1, hcz18_2, hcz18_3, hcz18_4⟩ := bc5 BK312.out; obtain ⟨hfz18_0, hfz18_1, hfz18_2, hfz18_3, hfz18_4⟩ := bf5 BK312.out))
     refine bodyPost_ret (results_tc rfl _ _ gb312 60 #[.bool false, .bool false, .bool false, .bool false, .bool false] (0, 0) _ rfl (by (with_reducible repeat first | apply bd | apply be | apply ba); refine blk_put (cs := F5) ?_ 4 _ rfl; (with_reducible repeat first | apply bd | apply be | apply ba); refine blk_put (cs := F5) ?_ 3 _ rfl; (with_reducible repeat first | apply bd | apply be | apply ba); refine blk_put (cs := F5) ?_ 2 _ rfl; (with_reducible repeat first | apply bd | apply be | apply ba); refine blk_put (cs := F5) ?_ 1 _ rfl; (with_reducible repeat first | apply bd | apply be | apply ba); refine blk_put (cs := F5) ?_ 0 _ rfl; (with_reducible repeat first | apply bd | apply be | apply ba); exact BK312.out) Tryz.underlying60 rfl (by kernel_rfl)) rfl ?_
     exact ⟨by first | rfl | (simp [bT, bU] <;> rfl) | (simp [*, bT, bU] <;> rfl), bl1 HB.out GE312.out⟩

-- NEED 0
/-! ### eF: function 87 -/
def eF.f (k : Nat) (a0_0 : Bool) (a0_1 a0_2 : Int) (a0_3 : Bool) : Option (Bool × Int × Int × Bool) := (bits_Len.f k a0_2).bind fun t323 => ((aT.f k a0_2 (wrap64 (-(wrap64 (62 - t323))))).bind fun bt324 => (some (a0_0, wrap64 (a0_1 - (wrap64 (62 - t323))), bt324.1, a0_3)))
theorem eF.mono : ∀ a0 a1 a2 a3 k, LeO (eF.f k a0 a1 a2 a3) (eF.f (k + 1) a0 a1 a2 a3) := by
 intro a0 a1 a2 a3 k
 unfold eF.f
 repeat' first
   |(with_reducible first|exact bits_Len.mono _ _|exact aT.mono _ _ _|exact LeO.refl _|exact LeO.none _|refine LeO.ite ?_ ?_|refine LeO.bind ?_ (fun _ => ?_))
   |exact bits_Len.mono _ _
   |exact aT.mono _ _ _
   |exact LeO.none _
   |refine LeO.ite ?_ ?_
   |refine LeO.bind ?_ (fun _ => ?_)
theorem eF.calls (k : Nat) (a0_0 : Bool) (a0_1 a0_2 : Int) (a0_3 r1 : Bool) (r2 r3 : Int) (r4 : Bool) (w : World) (h : eF.f k a0_0 a0_1 a0_2 a0_3 = some (r1, r2, r3, r4)) :
  Calls Tryz.prog 87 #[.agg #[.bool a0_0, .int .i64 a0_1, .int .u64 a0_2, .bool a0_3]] w fun e w' => e = .returned (.agg #[.bool r1, .int .i64 r2, .int .u64 r3, .bool r4]) ∧ Below w.heap.size w w' := by
 have hu78 := Tryz.underlying78
 have HB := Aside0.mk (Below.refl w.heap.size w)
 have H : ((bits_Len.f k a0_2).bind fun t323 => ((aT.f k a0_2 (wrap64 (-(wrap64 (62 - t323))))).bind fun bt324 => (some (a0_0, wrap64 (a0_1 - (wrap64 (62 - t323))), bt324.1, a0_3)))) = some (r1, r2, r3, r4) := h
 clear h
 replace H := bq_ H
 obtain ⟨t323, A20, H⟩ := H
 replace H : ((aT.f k a0_2 (wrap64 (-(wrap64 (62 - t323))))).bind fun bt324 => (some (a0_0, wrap64 (a0_1 - (wrap64 (62 - t323))), bt324.1, a0_3))) = some (r1, r2, r3, r4) := H
 have A2 := Aside0.mk A20
 clear A20
 replace H := bq_ H
 obtain ⟨⟨t324, t325⟩, A30, H⟩ := H
 replace H : (some (a0_0, wrap64 (a0_1 - (wrap64 (62 - t323))), t324, a0_3)) = some (r1, r2, r3, r4) := H
 have A3 := Aside0.mk A30
 clear A30
 simp only [Option.some.injEq, Prod.mk.injEq] at H
 obtain ⟨rfl, rfl, rfl, rfl⟩ := H
 go_enter Tryz.func87, Tryz.ntmps87
 go_wp2_with (first | ((with_reducible refine gate_dst (N := 1) rfl ?_); refine box_event ?hg (N := 1) ?hd (cs := #[.bool a0_0, .int .i64 a0_1, .int .u64 a0_2, .bool a0_3]) (t := 78) ?hr ?_; (case hd => rfl); (case hg => rfl); (case hr => first | (go_simp; done) | (go_simp; rfl)); intro gb321 hg w4 hbox hb; have n0_ := Aside0.mk (below_step (bl0 HB.out) hb); have n1_ := Aside0.mk (hbox); have n2_ := Aside0.mk ((by rw [hg]; exact (below_size (bl0 HB.out)) : w.heap.size ≤ gb321)); have n3_ := n2_; clear HB; have HB := n0_; have BK321 := n1_; have GW321 := n2_; have GE321 := n3_; clear n0_ n1_ n2_ n3_; clear hb hbox hg) | ((with_reducible refine gate_dst (N := 2) rfl ?_); refine box_event ?hg (N := 2) ?hd (cs := #[.bool false, .int .i64 0, .int .u64 0, .bool false]) (t := 78) ?hr ?_; (case hd => rfl); (case hg => rfl); (case hr => first | (go_simp; done) | (go_simp; rfl)); intro gb322 hg w5 hbox hb; have n0_ := Aside0.mk (blk_below (g := gb321) (o := .cells #[.bool a0_0, .int .i64 a0_1, .int .u64 a0_2, .bool a0_3] 78 (0, 0)) (bv BK321.out) hb); have n1_ := Aside0.mk (below_step (bl1 HB.out GE321.out) hb); have n2_ := Aside0.mk (hbox); have n3_ := Aside0.mk ((by rw [hg]; exact (below_size (bl1 HB.out GE321.out)) : w.heap.size ≤ gb322)); have n4_ := n3_; have n5_ := Aside0.mk ((by rw [hg]; exact Nat.ne_of_lt (blk_lt (g := gb321) (o := .cells #[.bool a0_0, .int .i64 a0_1, .int .u64 a0_2, .bool a0_3] 78 (0, 0)) (bv BK321.out)) : gb321 ≠ gb322)); have n6_ := Aside0.mk (Ne.symm n5_.out); clear BK321; clear HB; have BK321 := n0_; have HB := n1_; have BK322 := n2_; have GW322 := n3_; have GE322 := n4_; have NB321_322 := n5_; have NB322_321 := n6_; clear n0_ n1_ n2_ n3_ n4_ n5_ n6_; clear hb hbox hg; have hnb6 := NB321_322.out; have hnc6 := NB322_321.out; obtain ⟨hcz7_0, hcz7_1, hcz7_2, hcz7_3⟩ := bc4 BK321.out; obtain ⟨hfz7_0, hfz7_1, hfz7_2, hfz7_3⟩ := bf4 BK321.out) | ((with_reducible refine gate_callee (f := 96) rfl ?_); refine goesL_ (some 6) rfl rfl Tryz.func96 (by kernel_rfl) rfl #[.int .u64 a0_2] rfl gl ?_; (with_reducible refine (bits_Len.calls k a0_2 t323 _ A2.out).mono ?_); rintro e w' ⟨rfl, ⟨nd, rfl⟩⟩; refine ⟨_, rfl, ?_⟩; (try (rw [drewN_self w5]; generalize hq_ : World.drewN w5 _ = w5; have n0_ : Aside0 (w5.heap[gb321]? = some (.cells #[.bool a0_0, .int .i64 a0_1, .int .u64 a0_2, .bool a0_3] 78 (0, 0))) := ⟨by rw [← hq_]; exact (bv BK321.out)⟩; have n1_ : Aside0 (w5.heap[gb322]? = some (.cells #[.bool false, .int .i64 0, .int .u64 0, .bool false] 78 (0, 0))) := ⟨by rw [← hq_]; exact (bv BK322.out)⟩; have n2_ : Aside0 (Below w.heap.size w w5) := ⟨by rw [← hq_]; exact (bl2 HB.out GE321.out GE322.out)⟩; clear BK321 BK322 HB hq_; have BK321 := n0_; have BK322 := n1_; have HB := n2_; clear n0_ n1_ n2_)); obtain ⟨hcz8_0, hcz8_1, hcz8_2, hcz8_3⟩ := bc4 BK321.out; obtain ⟨hfz8_0, hfz8_1, hfz8_2, hfz8_3⟩ := bf4 BK321.out) | ((with_reducible refine gate_callee (f := 88) rfl ?_); refine goesL_ (some 13) rfl rfl Tryz.func88 (by kernel_rfl) rfl #[.int .u64 a0_2, .int .i64 (wrap64 (-(wrap64 (62 - t323))))] rfl gl ?_; (with_reducible refine (aT.calls k a0_2 (wrap64 (-(wrap64 (62 - t323)))) t324 t325 _ A3.out).mono ?_); rintro e w' ⟨rfl, ⟨nd, rfl⟩⟩; refine ⟨_, rfl, ?_⟩; (try (rw [drewN_self w5]; generalize hq_ : World.drewN w5 _ = w5; have n0_ : Aside0 (w5.heap[gb321]? = some (.cells #[.bool a0_0, .int .i64 a0_1, .int .u64 a0_2, .bool a0_3] 78 (0, 0))) := ⟨by rw [← hq_]; exact (bv BK321.out)⟩; have n1_ : Aside0 (w5.heap[gb322]? = some (.cells #[.bool false, .int .i64 0, .int .u64 0, .bool false] 78 (0, 0))) := ⟨by rw [← hq_]; exact (bv BK322.out)⟩; have n2_ : Aside0 (Below w.heap.size w w5) := ⟨by rw [← hq_]; exact (bl2 HB.out GE321.out GE322.out)⟩; clear BK321 BK322 HB hq_; have BK321 := n0_; have BK322 := n1_; have HB := n2_; clear n0_ n1_ n2_)); obtain ⟨hcz9_0, hcz9_1, hcz9_2, hcz9_3⟩ := bc4 BK321.out; obtain ⟨hfz9_0, hfz9_1, hfz9_2, hfz9_3⟩ := bf4 BK321.out; obtain ⟨hcz10_0, hcz10_1, hcz10_2, hcz10_3⟩ := bc4 BK322.out; obtain ⟨hfz10_0, hfz10_1, hfz10_2, hfz10_3⟩ := bf4 BK322.out))
 refine bodyPost_ret (results_cell_row rfl _ _ gb322 78 #[.bool a0_0, .int .i64 (wrap64 (a0_1 - (wrap64 (62 - t323)))), .int .u64 t324, .bool a0_3] (0, 0) _ rfl (by (with_reducible repeat first | apply bd | apply be | apply ba); refine blk_put (cs := #[.bool a0_0, .int .i64 (wrap64 (a0_1 - (wrap64 (62 - t323)))), .int .u64 t324, .bool false]) ?_ 3 _ rfl; (with_reducible repeat first | apply bd | apply be | apply ba); refine blk_put (cs := #[.bool a0_0, .int .i64 (wrap64 (a0_1 - (wrap64 (62 - t323)))), .int .u64 0, .bool false]) ?_ 2 _ rfl; (with_reducible repeat first | apply bd | apply be | apply ba); refine blk_put (cs := #[.bool a0_0, .int .i64 0, .int .u64 0, .bool false]) ?_ 1 _ rfl; (with_reducible repeat first | apply bd | apply be | apply ba); refine blk_put (cs := #[.bool false, .int .i64 0, .int .u64 0, .bool false]) ?_ 0 _ rfl; (with_reducible repeat first | apply bd | apply be | apply ba); refine blk_far ?_ NB322_321.out _; (with_reducible repeat first | apply bd | apply be | apply ba); refine blk_far ?_ NB322_321.out _; (with_reducible repeat first | apply bd | apply be | apply ba); exact BK322.out) Tryz.underlying78 rfl (by kernel_rfl)) rfl ?_
 exact ⟨by first | rfl | (simp [bT, bU] <;> rfl) | (simp [*, bT, bU] <;> rfl), bl2 HB.out GE321.out GE322.out⟩


-- NOT PRINTED: function 28 (opt_step)

-- NOT PRINTED: function 11 (opt_Step)

-- NOT PRINTED: function 4 (anneallaw21_known)

-- NEED 0
/-! ### aF: function 12 -/
def aF.f (a0 : Int) : Option (Int × Int) := if a0 = 0 then (some (5, 10)) else (if a0 = 1 then (some (8, 7)) else (some (8, 23)))
theorem aF.calls (a0 r1 r2 : Int) (w : World) (h : aF.f a0 = some (r1, r2)) :
  Calls Tryz.prog 12 #[.int .i64 a0] w fun e w' => e = .returned (.tuple #[.int .i64 r1, .int .i64 r2]) ∧ Drawn0 w w' := by
 have H : (if a0 = 0 then (some (5, 10)) else (if a0 = 1 then (some (8, 7)) else (some (8, 23)))) = some (r1, r2) := h
 clear h
 by_cases c2 : a0 = 0
 ·rw [if_pos c2] at H
  have c2b0 : (a0 == 0) = true := beq_iff_eq.mpr c2
  have c2b1 : (a0 != 0) = false := bne_eq_false_iff_eq.mpr c2
  clear c2
  simp only [Option.some.injEq, Prod.mk.injEq] at H
  obtain ⟨rfl, rfl⟩ := H
  go_enter Tryz.func12, Tryz.ntmps12
  go_wp2
  go_ret2
  exact ⟨gr_, gd_⟩
 ·rw [if_neg c2] at H
  have c2b0 : (a0 == 0) = false := beq_eq_false_iff_ne.mpr c2
  have c2b1 : (a0 != 0) = true := bne_iff_ne.mpr c2
  by_cases c3 : a0 = 1
  ·rw [if_pos c3] at H
   have c3b0 : (a0 == 1) = true := beq_iff_eq.mpr c3
   have c3b1 : (a0 != 1) = false := bne_eq_false_iff_eq.mpr c3
   clear c3
   simp only [Option.some.injEq, Prod.mk.injEq] at H
   obtain ⟨rfl, rfl⟩ := H
   go_enter Tryz.func12, Tryz.ntmps12
   go_wp2
   go_ret2
   exact ⟨gr_, gd_⟩
  ·rw [if_neg c3] at H
   have c3b0 : (a0 == 1) = false := beq_eq_false_iff_ne.mpr c3
   have c3b1 : (a0 != 1) = true := bne_iff_ne.mpr c3
   simp only [Option.some.injEq, Prod.mk.injEq] at H
   obtain ⟨rfl, rfl⟩ := H
   go_enter Tryz.func12, Tryz.ntmps12
   go_wp2
   go_ret2
   exact ⟨gr_, gd_⟩

-- NEED 0
/-! ### bQ: function 29 -/
def bQ.f (a0 : Int) (a1 : Bool) : Option (Int) := (aF.f a0).bind fun bt717 => (if a1 = true then (if 0 ≤ (wrap64 (bt717.1 + bt717.2)) then (some (shl .u32 1 (wrap64 (bt717.1 + bt717.2)))) else (none)) else (some 0))
theorem bQ.calls (a0 : Int) (a1 : Bool) (r : Int) (w : World) (h : bQ.f a0 a1 = some r) :
  Calls Tryz.prog 29 #[.int .i64 a0, .bool a1] w fun e w' => e = .returned (.int .u32 r) ∧ Drawn0 w w' := by
 have H : ((aF.f a0).bind fun bt717 => (if a1 = true then (if 0 ≤ (wrap64 (bt717.1 + bt717.2)) then (some (shl .u32 1 (wrap64 (bt717.1 + bt717.2)))) else (none)) else (some 0))) = some r := h
 clear h
 replace H := bq_ H
 obtain ⟨⟨t717, t718⟩, A30, H⟩ := H
 replace H : (if a1 = true then (if 0 ≤ (wrap64 (t717 + t718)) then (some (shl .u32 1 (wrap64 (t717 + t718)))) else (none)) else (some 0)) = some r := H
 have A3 := Aside0.mk A30
 clear A30
 by_cases c4 : a1 = true
 ·subst c4
  have H1 : (if 0 ≤ (wrap64 (t717 + t718)) then (some (shl .u32 1 (wrap64 (t717 + t718)))) else (none)) = some r := by rw [if_pos rfl] at H; exact H
  clear H
  have H := H1
  clear H1
  obtain ⟨ji5, hji5⟩ : ∃ j_ : Int, (wrap64 (t717 + t718)) = j_ := ⟨_, rfl⟩
  replace H : (if 0 ≤ (ji5) then (some (shl .u32 1 (ji5))) else (none)) = some r := by first | (rw [hji5] at H; exact H) | (simp only [hji5] at H ⊢; exact H)
  (try rw [hji5] at A3)
  have hji5w : (IntKind.i64.wrap (t717 + t718)) = ji5 := (i64_w _).trans hji5
  by_cases c6 : 0 ≤ (ji5)
  ·rw [if_pos c6] at H
   have c6b0 := eq_true c6
   have c6b1 : decide (0 ≤ (ji5)) = true := decide_eq_true c6
   clear c6
   obtain ⟨ji7, hji7⟩ : ∃ j_ : Int, (shl .u32 1 (ji5)) = j_ := ⟨_, rfl⟩
   replace H : (some ji7) = some r := by first | (rw [hji7] at H; exact H) | (simp only [hji7] at H ⊢; exact H)
   (try rw [hji7] at A3)
   have hji7_ : (IntKind.u32.wrap (1 * 2 ^ min (ji5).toNat 32)) = ji7 := hji7
   have hji7z : (ji5) ≤ 32 → (IntKind.u32.wrap (1 * 2 ^ (ji5).toNat)) = ji7 := shl_small hji7
   have hji7u : (IntKind.u32.wrap (2 ^ min (ji5).toNat 32)) = ji7 := by have h_ := hji7_; rw [Int.one_mul] at h_; exact h_
   have hji7v : (ji5) ≤ 32 → (IntKind.u32.wrap (2 ^ (ji5).toNat)) = ji7 := fun hle_ => by have h_ := hji7z hle_; rw [Int.one_mul] at h_; exact h_
   obtain rfl := Option.some.inj H
   go_enter Tryz.func29, Tryz.ntmps29
   go_wp2_with (first | ((with_reducible refine gate_callee (f := 12) rfl ?_); refine goesL_ (some 9) rfl rfl Tryz.func12 (by kernel_rfl) rfl #[.int .i64 a0] rfl gl ?_; (with_reducible refine (aF.calls a0 t717 t718 _ A3.out).mono ?_); rintro e w' ⟨rfl, ⟨nd, rfl⟩⟩; refine ⟨_, rfl, ?_⟩))
   go_ret
   exact ⟨by first | rfl | (simp; done) | (simp only [← hji5, ← hji7] <;> (first | rfl | (simp; done))) | (simp [*]; done) | (congr 1; (try unfold wrap64); omega) | (congr 1; rw [IntKind.wrap_u64]; omega), gd_⟩
  ·rw [if_neg c6] at H
   exact absurd H (by simp)
 ·replace c4 := Bool.eq_false_iff.mpr c4
  subst c4
  have H1 : (some 0) = some r := by rw [if_neg (show ¬ (false = true) by decide)] at H; exact H
  clear H
  have H := H1
  clear H1
  obtain rfl := Option.some.inj H
  go_enter Tryz.func29, Tryz.ntmps29
  go_wp2_with (first | ((with_reducible refine gate_callee (f := 12) rfl ?_); refine goesL_ (some 9) rfl rfl Tryz.func12 (by kernel_rfl) rfl #[.int .i64 a0] rfl gl ?_; (with_reducible refine (aF.calls a0 t717 t718 _ A3.out).mono ?_); rintro e w' ⟨rfl, ⟨nd, rfl⟩⟩; refine ⟨_, rfl, ?_⟩))
  go_ret
  exact ⟨gr_, gd_⟩

-- NEED 0
/-! ### aW: function 13 -/
def aW.f (a0 : Int) (a1 : Bool) : Option (Int) := (bQ.f a0 a1).bind fun t719 => (some t719)
theorem aW.calls (a0 : Int) (a1 : Bool) (r : Int) (w : World) (h : aW.f a0 a1 = some r) :
  Calls Tryz.prog 13 #[.int .i64 a0, .bool a1] w fun e w' => e = .returned (.int .u32 r) ∧ Drawn0 w w' := by
 have H : ((bQ.f a0 a1).bind fun t719 => (some t719)) = some r := h
 clear h
 replace H := bq_ H
 obtain ⟨t719, A30, H⟩ := H
 replace H : (some t719) = some r := H
 have A3 := Aside0.mk A30
 clear A30
 obtain rfl := Option.some.inj H
 go_enter Tryz.func13, Tryz.ntmps13
 go_wp2_with (first | ((with_reducible refine gate_callee (f := 29) rfl ?_); refine goesL_ (some 7) rfl rfl Tryz.func29 (by kernel_rfl) rfl #[.int .i64 a0, .bool a1] rfl gl ?_; (with_reducible refine (bQ.calls a0 a1 t719 _ A3.out).mono ?_); rintro e w' ⟨rfl, ⟨nd, rfl⟩⟩; refine ⟨_, rfl, ?_⟩))
 go_ret
 exact ⟨gr_, gd_⟩

-- NEED 0
/-! ### fF: function 6 -/
def fF.f (a0 a1 : Int) : Option (Int) := if (Int.tmod a1 7) = 0 then (some 0) else ((aF.f a0).bind fun bt720 => (if 0 ≤ bt720.1 then (if 0 ≤ bt720.2 then (if (shl .u32 4 bt720.2) = 0 then (none) else (if (Go.bits .and .u32 a1 1) = 1 then ((aW.f a0 true).bind fun t722 => (some (Go.bits .or .u32 (((((shl .u32 ((((shl .u32 1 bt720.1) - 1) % 4294967296) / 2) bt720.2) - (shl .u32 2 bt720.2)) % 4294967296) + (Int.tmod (a1 / 8) (shl .u32 4 bt720.2))) % 4294967296) t722))) else (some (((((shl .u32 ((((shl .u32 1 bt720.1) - 1) % 4294967296) / 2) bt720.2) - (shl .u32 2 bt720.2)) % 4294967296) + (Int.tmod (a1 / 8) (shl .u32 4 bt720.2))) % 4294967296)))) else (none)) else (none)))
theorem fF.calls (a0 a1 r : Int) (w : World) (h : fF.f a0 a1 = some r) :
  Calls Tryz.prog 6 #[.int .i64 a0, .int .u32 a1] w fun e w' => e = .returned (.int .u32 r) ∧ Drawn0 w w' := by
 have H : (if (Int.tmod a1 7) = 0 then (some 0) else ((aF.f a0).bind fun bt720 => (if 0 ≤ bt720.1 then (if 0 ≤ bt720.2 then (if (shl .u32 4 bt720.2) = 0 then (none) else (if (Go.bits .and .u32 a1 1) = 1 then ((aW.f a0 true).bind fun t722 => (some (Go.bits .or .u32 (((((shl .u32 ((((shl .u32 1 bt720.1) - 1) % 4294967296) / 2) bt720.2) - (shl .u32 2 bt720.2)) % 4294967296) + (Int.tmod (a1 / 8) (shl .u32 4 bt720.2))) % 4294967296) t722))) else (some (((((shl .u32 ((((shl .u32 1 bt720.1) - 1) % 4294967296) / 2) bt720.2) - (shl .u32 2 bt720.2)) % 4294967296) + (Int.tmod (a1 / 8) (shl .u32 4 bt720.2))) % 4294967296)))) else (none)) else (none)))) = some r := h
 clear h
 by_cases c3 : (Int.tmod a1 7) = 0
 ·rw [if_pos c3] at H
  have c3b0 : ((Int.tmod a1 7) == 0) = true := beq_iff_eq.mpr c3
  have c3b1 : ((Int.tmod a1 7) != 0) = false := bne_eq_false_iff_eq.mpr c3
  clear c3
  obtain rfl := Option.some.inj H
  go_enter Tryz.func6, Tryz.ntmps6
  go_wp2
  repeat (go_quiet (fail); try go_wp2)
  go_ret
  exact ⟨gr_, gd_⟩
 ·rw [if_neg c3] at H
  have c3b0 : ((Int.tmod a1 7) == 0) = false := beq_eq_false_iff_ne.mpr c3
  have c3b1 : ((Int.tmod a1 7) != 0) = true := bne_iff_ne.mpr c3
  replace H := bq_ H
  obtain ⟨⟨t720, t721⟩, A40, H⟩ := H
  replace H : (if 0 ≤ t720 then (if 0 ≤ t721 then (if (shl .u32 4 t721) = 0 then (none) else (if (Go.bits .and .u32 a1 1) = 1 then ((aW.f a0 true).bind fun t722 => (some (Go.bits .or .u32 (((((shl .u32 ((((shl .u32 1 t720) - 1) % 4294967296) / 2) t721) - (shl .u32 2 t721)) % 4294967296) + (Int.tmod (a1 / 8) (shl .u32 4 t721))) % 4294967296) t722))) else (some (((((shl .u32 ((((shl .u32 1 t720) - 1) % 4294967296) / 2) t721) - (shl .u32 2 t721)) % 4294967296) + (Int.tmod (a1 / 8) (shl .u32 4 t721))) % 4294967296)))) else (none)) else (none)) = some r := H
  have A4 := Aside0.mk A40
  clear A40
  by_cases c5 : 0 ≤ t720
  ·rw [if_pos c5] at H
   have c5b0 := eq_true c5
   have c5b1 : decide (0 ≤ t720) = true := decide_eq_true c5
   clear c5
   obtain ⟨ji6, hji6⟩ : ∃ j_ : Int, (shl .u32 1 t720) = j_ := ⟨_, rfl⟩
   replace H : (if 0 ≤ t721 then (if (shl .u32 4 t721) = 0 then (none) else (if (Go.bits .and .u32 a1 1) = 1 then ((aW.f a0 true).bind fun t722 => (some (Go.bits .or .u32 (((((shl .u32 ((((ji6) - 1) % 4294967296) / 2) t721) - (shl .u32 2 t721)) % 4294967296) + (Int.tmod (a1 / 8) (shl .u32 4 t721))) % 4294967296) t722))) else (some (((((shl .u32 ((((ji6) - 1) % 4294967296) / 2) t721) - (shl .u32 2 t721)) % 4294967296) + (Int.tmod (a1 / 8) (shl .u32 4 t721))) % 4294967296)))) else (none)) = some r := by first | (rw [hji6] at H; exact H) | (simp only [hji6] at H ⊢; exact H)
   (try rw [hji6] at A4)
   have hji6_ : (IntKind.u32.wrap (1 * 2 ^ min t720.toNat 32)) = ji6 := hji6
   have hji6z : t720 ≤ 32 → (IntKind.u32.wrap (1 * 2 ^ t720.toNat)) = ji6 := shl_small hji6
   have hji6u : (IntKind.u32.wrap (2 ^ min t720.toNat 32)) = ji6 := by have h_ := hji6_; rw [Int.one_mul] at h_; exact h_
   have hji6v : t720 ≤ 32 → (IntKind.u32.wrap (2 ^ t720.toNat)) = ji6 := fun hle_ => by have h_ := hji6z hle_; rw [Int.one_mul] at h_; exact h_
   obtain ⟨ji7, hji7⟩ : ∃ j_ : Int, (((ji6) - 1) % 4294967296) = j_ := ⟨_, rfl⟩
   replace H : (if 0 ≤ t721 then (if (shl .u32 4 t721) = 0 then (none) else (if (Go.bits .and .u32 a1 1) = 1 then ((aW.f a0 true).bind fun t722 => (some (Go.bits .or .u32 (((((shl .u32 ((ji7) / 2) t721) - (shl .u32 2 t721)) % 4294967296) + (Int.tmod (a1 / 8) (shl .u32 4 t721))) % 4294967296) t722))) else (some (((((shl .u32 ((ji7) / 2) t721) - (shl .u32 2 t721)) % 4294967296) + (Int.tmod (a1 / 8) (shl .u32 4 t721))) % 4294967296)))) else (none)) = some r := by first | (rw [hji7] at H; exact H) | (simp only [hji7] at H ⊢; exact H)
   (try rw [hji7] at A4)
   have hji7l : 0 ≤ ji7 := by rw [← hji7]; exact Int.emod_nonneg _ (by decide)
   have hji7h : ji7 ≤ 4294967295 := by have := Int.emod_lt_of_pos (((ji6) - 1)) (show (0 : Int) < 4294967296 by decide); omega
   have hji7w : (IntKind.u32.wrap ((ji6) - 1)) = ji7 := (sH _).trans hji7
   (try (have hji7_ := hji7; simp only [Int.add_emod_emod, Int.emod_add_emod, Int.sub_emod_emod, Int.emod_sub_emod] at hji7_))
   by_cases c8 : 0 ≤ t721
   ·rw [if_pos c8] at H
    have c8b0 := eq_true c8
    have c8b1 : decide (0 ≤ t721) = true := decide_eq_true c8
    clear c8
    obtain ⟨ji9, hji9⟩ : ∃ j_ : Int, (shl .u32 ((ji7) / 2) t721) = j_ := ⟨_, rfl⟩
    replace H : (if (shl .u32 4 t721) = 0 then (none) else (if (Go.bits .and .u32 a1 1) = 1 then ((aW.f a0 true).bind fun t722 => (some (Go.bits .or .u32 (((((ji9) - (shl .u32 2 t721)) % 4294967296) + (Int.tmod (a1 / 8) (shl .u32 4 t721))) % 4294967296) t722))) else (some (((((ji9) - (shl .u32 2 t721)) % 4294967296) + (Int.tmod (a1 / 8) (shl .u32 4 t721))) % 4294967296)))) = some r := by first | (rw [hji9] at H; exact H) | (simp only [hji9] at H ⊢; exact H)
    (try rw [hji9] at A4)
    have hji9_ : (IntKind.u32.wrap (((ji7) / 2) * 2 ^ min t721.toNat 32)) = ji9 := hji9
    have hji9z : t721 ≤ 32 → (IntKind.u32.wrap (((ji7) / 2) * 2 ^ t721.toNat)) = ji9 := shl_small hji9
    have c10b0 := eq_true (of_decide_eq_true (by first | (with_reducible assumption) | assumption) : 0 ≤ t721)
    obtain ⟨ji11, hji11⟩ : ∃ j_ : Int, (shl .u32 2 t721) = j_ := ⟨_, rfl⟩
    replace H : (if (shl .u32 4 t721) = 0 then (none) else (if (Go.bits .and .u32 a1 1) = 1 then ((aW.f a0 true).bind fun t722 => (some (Go.bits .or .u32 (((((ji9) - (ji11)) % 4294967296) + (Int.tmod (a1 / 8) (shl .u32 4 t721))) % 4294967296) t722))) else (some (((((ji9) - (ji11)) % 4294967296) + (Int.tmod (a1 / 8) (shl .u32 4 t721))) % 4294967296)))) = some r := by first | (rw [hji11] at H; exact H) | (simp only [hji11] at H ⊢; exact H)
    (try rw [hji11] at A4)
    have hji11_ : (IntKind.u32.wrap (2 * 2 ^ min t721.toNat 32)) = ji11 := hji11
    have hji11z : t721 ≤ 32 → (IntKind.u32.wrap (2 * 2 ^ t721.toNat)) = ji11 := shl_small hji11
    obtain ⟨ji12, hji12⟩ : ∃ j_ : Int, (((ji9) - (ji11)) % 4294967296) = j_ := ⟨_, rfl⟩
    replace H : (if (shl .u32 4 t721) = 0 then (none) else (if (Go.bits .and .u32 a1 1) = 1 then ((aW.f a0 true).bind fun t722 => (some (Go.bits .or .u32 (((ji12) + (Int.tmod (a1 / 8) (shl .u32 4 t721))) % 4294967296) t722))) else (some (((ji12) + (Int.tmod (a1 / 8) (shl .u32 4 t721))) % 4294967296)))) = some r := by first | (rw [hji12] at H; exact H) | (simp only [hji12] at H ⊢; exact H)
    (try rw [hji12] at A4)
    have hji12l : 0 ≤ ji12 := by rw [← hji12]; exact Int.emod_nonneg _ (by decide)
    have hji12h : ji12 ≤ 4294967295 := by have := Int.emod_lt_of_pos (((ji9) - (ji11))) (show (0 : Int) < 4294967296 by decide); omega
    have hji12w : (IntKind.u32.wrap ((ji9) - (ji11))) = ji12 := (sH _).trans hji12
    (try (have hji12_ := hji12; simp only [Int.add_emod_emod, Int.emod_add_emod, Int.sub_emod_emod, Int.emod_sub_emod] at hji12_))
    have c13b0 := eq_true (of_decide_eq_true (by first | (with_reducible assumption) | assumption) : 0 ≤ t721)
    obtain ⟨ji14, hji14⟩ : ∃ j_ : Int, (shl .u32 4 t721) = j_ := ⟨_, rfl⟩
    replace H : (if (ji14) = 0 then (none) else (if (Go.bits .and .u32 a1 1) = 1 then ((aW.f a0 true).bind fun t722 => (some (Go.bits .or .u32 (((ji12) + (Int.tmod (a1 / 8) (ji14))) % 4294967296) t722))) else (some (((ji12) + (Int.tmod (a1 / 8) (ji14))) % 4294967296)))) = some r := by first | (rw [hji14] at H; exact H) | (simp only [hji14] at H ⊢; exact H)
    (try rw [hji14] at A4)
    have hji14_ : (IntKind.u32.wrap (4 * 2 ^ min t721.toNat 32)) = ji14 := hji14
    have hji14z : t721 ≤ 32 → (IntKind.u32.wrap (4 * 2 ^ t721.toNat)) = ji14 := shl_small hji14
    by_cases c15 : (ji14) = 0
    ·rw [if_pos c15] at H
     exact absurd H (by simp)
    ·rw [if_neg c15] at H
     have c15b0 : ((ji14) == 0) = false := beq_eq_false_iff_ne.mpr c15
     have c15b1 : ((ji14) != 0) = true := bne_iff_ne.mpr c15
     obtain ⟨ji16, hji16⟩ : ∃ j_ : Int, (((ji12) + (Int.tmod (a1 / 8) (ji14))) % 4294967296) = j_ := ⟨_, rfl⟩
     replace H : (if (Go.bits .and .u32 a1 1) = 1 then ((aW.f a0 true).bind fun t722 => (some (Go.bits .or .u32 (ji16) t722))) else (some ji16)) = some r := by first | (rw [hji16] at H; exact H) | (simp only [hji16] at H ⊢; exact H)
     (try rw [hji16] at A4)
     have hji16l : 0 ≤ ji16 := by rw [← hji16]; exact Int.emod_nonneg _ (by decide)
     have hji16h : ji16 ≤ 4294967295 := by have := Int.emod_lt_of_pos (((ji12) + (Int.tmod (a1 / 8) (ji14)))) (show (0 : Int) < 4294967296 by decide); omega
     have hji16w : (IntKind.u32.wrap ((ji12) + (Int.tmod (a1 / 8) (ji14)))) = ji16 := (sH _).trans hji16
     (try (have hji16_ := hji16; simp only [Int.add_emod_emod, Int.emod_add_emod, Int.sub_emod_emod, Int.emod_sub_emod] at hji16_))
     by_cases c17 : (Go.bits .and .u32 a1 1) = 1
     ·rw [if_pos c17] at H
      have c17b0 : ((Go.bits .and .u32 a1 1) == 1) = true := beq_iff_eq.mpr c17
      have c17b1 : ((Go.bits .and .u32 a1 1) != 1) = false := bne_eq_false_iff_eq.mpr c17
      clear c17
      replace H := bq_ H
      obtain ⟨t722, A180, H⟩ := H
      replace H : (some (Go.bits .or .u32 (ji16) t722)) = some r := H
      have A18 := Aside0.mk A180
      clear A180
      obtain rfl := Option.some.inj H
      go_enter Tryz.func6, Tryz.ntmps6
      go_wp2_with (first | (go_at_call 12; (with_reducible refine (aF.calls a0 t720 t721 _ A4.out).mono ?_); rintro e w' ⟨rfl, ⟨nd, rfl⟩⟩; (try first | exact ⟨rfl, _, World.drewN_drewN _ _ _⟩ | exact ⟨rfl, _, Eq.trans (World.drewN_drewN _ _ _) (congrArg (World.drewN _) (Nat.add_assoc _ _ _))⟩)) | (go_at_call 13; (with_reducible refine (aW.calls a0 true t722 _ A18.out).mono ?_); rintro e w' ⟨rfl, ⟨nd, rfl⟩⟩; (try first | exact ⟨rfl, _, World.drewN_drewN _ _ _⟩ | exact ⟨rfl, _, Eq.trans (World.drewN_drewN _ _ _) (congrArg (World.drewN _) (Nat.add_assoc _ _ _))⟩)))
      repeat (go_quiet (first | (go_at_call 12; (with_reducible refine (aF.calls a0 t720 t721 _ A4.out).mono ?_); rintro e w' ⟨rfl, ⟨nd, rfl⟩⟩; (try first | exact ⟨rfl, _, World.drewN_drewN _ _ _⟩ | exact ⟨rfl, _, Eq.trans (World.drewN_drewN _ _ _) (congrArg (World.drewN _) (Nat.add_assoc _ _ _))⟩)) | (go_at_call 13; (with_reducible refine (aW.calls a0 true t722 _ A18.out).mono ?_); rintro e w' ⟨rfl, ⟨nd, rfl⟩⟩; (try first | exact ⟨rfl, _, World.drewN_drewN _ _ _⟩ | exact ⟨rfl, _, Eq.trans (World.drewN_drewN _ _ _) (congrArg (World.drewN _) (Nat.add_assoc _ _ _))⟩))); try go_wp2_with (first | (go_at_call 12; (with_reducible refine (aF.calls a0 t720 t721 _ A4.out).mono ?_); rintro e w' ⟨rfl, ⟨nd, rfl⟩⟩; (try first | exact ⟨rfl, _, World.drewN_drewN _ _ _⟩ | exact ⟨rfl, _, Eq.trans (World.drewN_drewN _ _ _) (congrArg (World.drewN _) (Nat.add_assoc _ _ _))⟩)) | (go_at_call 13; (with_reducible refine (aW.calls a0 true t722 _ A18.out).mono ?_); rintro e w' ⟨rfl, ⟨nd, rfl⟩⟩; (try first | exact ⟨rfl, _, World.drewN_drewN _ _ _⟩ | exact ⟨rfl, _, Eq.trans (World.drewN_drewN _ _ _) (congrArg (World.drewN _) (Nat.add_assoc _ _ _))⟩))))
      go_ret
      exact ⟨by first | rfl | (simp; done) | (simp only [← hji6, ← hji7, ← hji9, ← hji11, ← hji12, ← hji14, ← hji16] <;> (first | rfl | (simp; done))) | (simp [*]; done) | (congr 1; (try unfold wrap64); omega) | (congr 1; rw [IntKind.wrap_u64]; omega), gd_⟩
     ·rw [if_neg c17] at H
      have c17b0 : ((Go.bits .and .u32 a1 1) == 1) = false := beq_eq_false_iff_ne.mpr c17
      have c17b1 : ((Go.bits .and .u32 a1 1) != 1) = true := bne_iff_ne.mpr c17
      obtain rfl := Option.some.inj H
      go_enter Tryz.func6, Tryz.ntmps6
      go_wp2_with (first | (go_at_call 12; (with_reducible refine (aF.calls a0 t720 t721 _ A4.out).mono ?_); rintro e w' ⟨rfl, ⟨nd, rfl⟩⟩; (try first | exact ⟨rfl, _, World.drewN_drewN _ _ _⟩ | exact ⟨rfl, _, Eq.trans (World.drewN_drewN _ _ _) (congrArg (World.drewN _) (Nat.add_assoc _ _ _))⟩)))
      repeat (go_quiet (first | (go_at_call 12; (with_reducible refine (aF.calls a0 t720 t721 _ A4.out).mono ?_); rintro e w' ⟨rfl, ⟨nd, rfl⟩⟩; (try first | exact ⟨rfl, _, World.drewN_drewN _ _ _⟩ | exact ⟨rfl, _, Eq.trans (World.drewN_drewN _ _ _) (congrArg (World.drewN _) (Nat.add_assoc _ _ _))⟩))); try go_wp2_with (first | (go_at_call 12; (with_reducible refine (aF.calls a0 t720 t721 _ A4.out).mono ?_); rintro e w' ⟨rfl, ⟨nd, rfl⟩⟩; (try first | exact ⟨rfl, _, World.drewN_drewN _ _ _⟩ | exact ⟨rfl, _, Eq.trans (World.drewN_drewN _ _ _) (congrArg (World.drewN _) (Nat.add_assoc _ _ _))⟩))))
      go_ret
      exact ⟨by first | rfl | (simp; done) | (simp only [← hji6, ← hji7, ← hji9, ← hji11, ← hji12, ← hji14, ← hji16] <;> (first | rfl | (simp; done))) | (simp [*]; done) | (congr 1; (try unfold wrap64); omega) | (congr 1; rw [IntKind.wrap_u64]; omega), gd_⟩
   ·rw [if_neg c8] at H
    exact absurd H (by simp)
  ·rw [if_neg c5] at H
   exact absurd H (by simp)

-- NEED 0
/-! ### aU: function 14 -/
def aU.f (a0 : Int) : Option (Int) := (aF.f a0).bind fun bt723 => (if 0 ≤ (wrap64 ((wrap64 (1 + bt723.1)) + bt723.2)) then (some ((IntKind.u64.wrap ((shl .u64 1 (wrap64 ((wrap64 (1 + bt723.1)) + bt723.2))) - 1)) % 4294967296)) else (none))
theorem aU.calls (a0 r : Int) (w : World) (h : aU.f a0 = some r) :
  Calls Tryz.prog 14 #[.int .i64 a0] w fun e w' => e = .returned (.int .u32 r) ∧ Drawn0 w w' := by
 have H : ((aF.f a0).bind fun bt723 => (if 0 ≤ (wrap64 ((wrap64 (1 + bt723.1)) + bt723.2)) then (some ((IntKind.u64.wrap ((shl .u64 1 (wrap64 ((wrap64 (1 + bt723.1)) + bt723.2))) - 1)) % 4294967296)) else (none))) = some r := h
 clear h
 replace H := bq_ H
 obtain ⟨⟨t723, t724⟩, A20, H⟩ := H
 replace H : (if 0 ≤ (wrap64 ((wrap64 (1 + t723)) + t724)) then (some ((IntKind.u64.wrap ((shl .u64 1 (wrap64 ((wrap64 (1 + t723)) + t724))) - 1)) % 4294967296)) else (none)) = some r := H
 have A2 := Aside0.mk A20
 clear A20
 obtain ⟨ji3, hji3⟩ : ∃ j_ : Int, (wrap64 ((wrap64 (1 + t723)) + t724)) = j_ := ⟨_, rfl⟩
 replace H : (if 0 ≤ (ji3) then (some ((IntKind.u64.wrap ((shl .u64 1 (ji3)) - 1)) % 4294967296)) else (none)) = some r := by first | (rw [hji3] at H; exact H) | (simp only [hji3] at H ⊢; exact H)
 (try rw [hji3] at A2)
 have hji3w : (IntKind.i64.wrap ((wrap64 (1 + t723)) + t724)) = ji3 := (i64_w _).trans hji3
 by_cases c4 : 0 ≤ (ji3)
 ·rw [if_pos c4] at H
  have c4b0 := eq_true c4
  have c4b1 : decide (0 ≤ (ji3)) = true := decide_eq_true c4
  clear c4
  obtain ⟨ji5, hji5⟩ : ∃ j_ : Int, (shl .u64 1 (ji3)) = j_ := ⟨_, rfl⟩
  replace H : (some ((IntKind.u64.wrap ((ji5) - 1)) % 4294967296)) = some r := by first | (rw [hji5] at H; exact H) | (simp only [hji5] at H ⊢; exact H)
  (try rw [hji5] at A2)
  have hji5_ : (IntKind.u64.wrap (1 * 2 ^ min (ji3).toNat 64)) = ji5 := hji5
  have hji5z : (ji3) ≤ 64 → (IntKind.u64.wrap (1 * 2 ^ (ji3).toNat)) = ji5 := shl_small hji5
  have hji5u : (IntKind.u64.wrap (2 ^ min (ji3).toNat 64)) = ji5 := by have h_ := hji5_; rw [Int.one_mul] at h_; exact h_
  have hji5v : (ji3) ≤ 64 → (IntKind.u64.wrap (2 ^ (ji3).toNat)) = ji5 := fun hle_ => by have h_ := hji5z hle_; rw [Int.one_mul] at h_; exact h_
  obtain rfl := Option.some.inj H
  go_enter Tryz.func14, Tryz.ntmps14
  go_wp2_with (first | ((with_reducible refine gate_callee (f := 12) rfl ?_); refine goesL_ (some 7) rfl rfl Tryz.func12 (by kernel_rfl) rfl #[.int .i64 a0] rfl gl ?_; (with_reducible refine (aF.calls a0 t723 t724 _ A2.out).mono ?_); rintro e w' ⟨rfl, ⟨nd, rfl⟩⟩; refine ⟨_, rfl, ?_⟩))
  go_ret
  exact ⟨by first | rfl | (simp; done) | (simp only [← hji3, ← hji5] <;> (first | rfl | (simp; done))) | (simp [*]; done) | (congr 1; (try unfold wrap64); omega) | (congr 1; rw [IntKind.wrap_u64]; omega), gd_⟩
 ·rw [if_neg c4] at H
  exact absurd H (by simp)

-- NEED 0
/-! ### bX: function 7 -/
def bX.f (a0 a1 : Int) : Option (Int) := (aF.f a0).bind fun bt725 => (if 0 ≤ bt725.1 then (if 0 ≤ bt725.2 then (if (shl .u32 3 bt725.2) = 0 then (none) else (if 0 ≤ (wrap64 (bt725.2 - 1)) then (if (shl .u32 9 bt725.2) = 0 then (none) else ((some (([0, 1, ((shl .u32 1 bt725.2) - 1) % 4294967296, shl .u32 1 bt725.2, shl .u32 ((((shl .u32 1 bt725.1) - 1) % 4294967296) / 2) bt725.2, ((shl .u32 ((((shl .u32 1 bt725.1) - 1) % 4294967296) / 2) bt725.2) + 1) % 4294967296, ((shl .u32 ((((shl .u32 1 bt725.1) - 1) % 4294967296) / 2) bt725.2) - 1) % 4294967296, ((shl .u32 ((((shl .u32 1 bt725.1) - 1) % 4294967296) / 2) bt725.2) + (shl .u32 1 bt725.2)) % 4294967296, ((shl .u32 ((((shl .u32 1 bt725.1) - 1) % 4294967296) / 2) bt725.2) + (Int.tmod (a1 / 16) (shl .u32 3 bt725.2))) % 4294967296, ((shl .u32 (((shl .u32 1 bt725.1) - 1) % 4294967296) bt725.2) - 1) % 4294967296, shl .u32 (((shl .u32 1 bt725.1) - 1) % 4294967296) bt725.2, Go.bits .or .u32 (shl .u32 (((shl .u32 1 bt725.1) - 1) % 4294967296) bt725.2) 1, Go.bits .or .u32 (shl .u32 (((shl .u32 1 bt725.1) - 1) % 4294967296) bt725.2) (shl .u32 1 (wrap64 (bt725.2 - 1))), ((shl .u32 ((((shl .u32 1 bt725.1) - 1) % 4294967296) / 2) bt725.2) - (Int.tmod (a1 / 16) (shl .u32 9 bt725.2))) % 4294967296, a1 / 16] : List Int) : List Int)).bind fun y727 => (if 0 ≤ (Int.tmod a1 15) then (if (Int.tmod a1 15) < (y727.length : Int) then ((aU.f a0).bind fun t731 => (if (a1 / 2147483648) = 1 then ((aW.f a0 true).bind fun t732 => (some (Go.bits .or .u32 (Go.bits .and .u32 (rd y727 (Int.tmod a1 15)) t731) t732))) else (some (Go.bits .and .u32 (rd y727 (Int.tmod a1 15)) t731)))) else (none)) else (none)))) else (none))) else (none)) else (none))

-- NEED 0
/-! ### bV: function 101 -/
def bV.f (a0 a1 : Int) : Option (Bool × Int × Int) := (aF.f a0).bind fun bt733 => ((aU.f a0).bind fun t735 => (if 0 ≤ (wrap64 (bt733.1 + bt733.2)) then (if 0 ≤ bt733.2 then (if 0 ≤ bt733.1 then (some (((shr .u32 (Go.bits .and .u32 a1 t735) (wrap64 (bt733.1 + bt733.2))) == 1), wrap64 (Go.bits .and .u32 (shr .u32 (Go.bits .and .u32 a1 t735) bt733.2) (((shl .u32 1 bt733.1) - 1) % 4294967296)), IntKind.u64.wrap (Go.bits .and .u32 (Go.bits .and .u32 a1 t735) (((shl .u32 1 bt733.2) - 1) % 4294967296)))) else (none)) else (none)) else (none)))
theorem bV.calls (a0 a1 : Int) (r1 : Bool) (r2 r3 : Int) (w : World) (h : bV.f a0 a1 = some (r1, r2, r3)) :
  Calls Tryz.prog 101 #[.int .i64 a0, .int .u32 a1] w fun e w' => e = .returned (.tuple #[.bool r1, .int .i64 r2, .int .u64 r3]) ∧ Drawn0 w w' := by
 have H : ((aF.f a0).bind fun bt733 => ((aU.f a0).bind fun t735 => (if 0 ≤ (wrap64 (bt733.1 + bt733.2)) then (if 0 ≤ bt733.2 then (if 0 ≤ bt733.1 then (some (((shr .u32 (Go.bits .and .u32 a1 t735) (wrap64 (bt733.1 + bt733.2))) == 1), wrap64 (Go.bits .and .u32 (shr .u32 (Go.bits .and .u32 a1 t735) bt733.2) (((shl .u32 1 bt733.1) - 1) % 4294967296)), IntKind.u64.wrap (Go.bits .and .u32 (Go.bits .and .u32 a1 t735) (((shl .u32 1 bt733.2) - 1) % 4294967296)))) else (none)) else (none)) else (none)))) = some (r1, r2, r3) := h
 clear h
 replace H := bq_ H
 obtain ⟨⟨t733, t734⟩, A30, H⟩ := H
 replace H : ((aU.f a0).bind fun t735 => (if 0 ≤ (wrap64 (t733 + t734)) then (if 0 ≤ t734 then (if 0 ≤ t733 then (some (((shr .u32 (Go.bits .and .u32 a1 t735) (wrap64 (t733 + t734))) == 1), wrap64 (Go.bits .and .u32 (shr .u32 (Go.bits .and .u32 a1 t735) t734) (((shl .u32 1 t733) - 1) % 4294967296)), IntKind.u64.wrap (Go.bits .and .u32 (Go.bits .and .u32 a1 t735) (((shl .u32 1 t734) - 1) % 4294967296)))) else (none)) else (none)) else (none))) = some (r1, r2, r3) := H
 have A3 := Aside0.mk A30
 clear A30
 replace H := bq_ H
 obtain ⟨t735, A40, H⟩ := H
 replace H : (if 0 ≤ (wrap64 (t733 + t734)) then (if 0 ≤ t734 then (if 0 ≤ t733 then (some (((shr .u32 (Go.bits .and .u32 a1 t735) (wrap64 (t733 + t734))) == 1), wrap64 (Go.bits .and .u32 (shr .u32 (Go.bits .and .u32 a1 t735) t734) (((shl .u32 1 t733) - 1) % 4294967296)), IntKind.u64.wrap (Go.bits .and .u32 (Go.bits .and .u32 a1 t735) (((shl .u32 1 t734) - 1) % 4294967296)))) else (none)) else (none)) else (none)) = some (r1, r2, r3) := H
 have A4 := Aside0.mk A40
 clear A40
 obtain ⟨ji5, hji5⟩ : ∃ j_ : Int, (wrap64 (t733 + t734)) = j_ := ⟨_, rfl⟩
 replace H : (if 0 ≤ (ji5) then (if 0 ≤ t734 then (if 0 ≤ t733 then (some (((shr .u32 (Go.bits .and .u32 a1 t735) (ji5)) == 1), wrap64 (Go.bits .and .u32 (shr .u32 (Go.bits .and .u32 a1 t735) t734) (((shl .u32 1 t733) - 1) % 4294967296)), IntKind.u64.wrap (Go.bits .and .u32 (Go.bits .and .u32 a1 t735) (((shl .u32 1 t734) - 1) % 4294967296)))) else (none)) else (none)) else (none)) = some (r1, r2, r3) := by first | (rw [hji5] at H; exact H) | (simp only [hji5] at H ⊢; exact H)
 (try rw [hji5] at A3)
 (try rw [hji5] at A4)
 have hji5w : (IntKind.i64.wrap (t733 + t734)) = ji5 := (i64_w _).trans hji5
 by_cases c6 : 0 ≤ (ji5)
 ·rw [if_pos c6] at H
  have c6b0 := eq_true c6
  have c6b1 : decide (0 ≤ (ji5)) = true := decide_eq_true c6
  clear c6
  obtain ⟨ji7, hji7⟩ : ∃ j_ : Int, (shr .u32 (Go.bits .and .u32 a1 t735) (ji5)) = j_ := ⟨_, rfl⟩
  replace H : (if 0 ≤ t734 then (if 0 ≤ t733 then (some (((ji7) == 1), wrap64 (Go.bits .and .u32 (shr .u32 (Go.bits .and .u32 a1 t735) t734) (((shl .u32 1 t733) - 1) % 4294967296)), IntKind.u64.wrap (Go.bits .and .u32 (Go.bits .and .u32 a1 t735) (((shl .u32 1 t734) - 1) % 4294967296)))) else (none)) else (none)) = some (r1, r2, r3) := by first | (rw [hji7] at H; exact H) | (simp only [hji7] at H ⊢; exact H)
  (try rw [hji7] at A3)
  (try rw [hji7] at A4)
  have hji7_ : ((Go.bits .and .u32 a1 t735) / 2 ^ min (ji5).toNat 32) = ji7 := hji7
  have hji7z : (ji5) ≤ 32 → ((Go.bits .and .u32 a1 t735) / 2 ^ (ji5).toNat) = ji7 := shr_small hji7
  by_cases c8 : 0 ≤ t734
  ·rw [if_pos c8] at H
   have c8b0 := eq_true c8
   have c8b1 : decide (0 ≤ t734) = true := decide_eq_true c8
   clear c8
   obtain ⟨ji9, hji9⟩ : ∃ j_ : Int, (shr .u32 (Go.bits .and .u32 a1 t735) t734) = j_ := ⟨_, rfl⟩
   replace H : (if 0 ≤ t733 then (some (((ji7) == 1), wrap64 (Go.bits .and .u32 (ji9) (((shl .u32 1 t733) - 1) % 4294967296)), IntKind.u64.wrap (Go.bits .and .u32 (Go.bits .and .u32 a1 t735) (((shl .u32 1 t734) - 1) % 4294967296)))) else (none)) = some (r1, r2, r3) := by first | (rw [hji9] at H; exact H) | (simp only [hji9] at H ⊢; exact H)
   (try rw [hji9] at A3)
   (try rw [hji9] at A4)
   have hji9_ : ((Go.bits .and .u32 a1 t735) / 2 ^ min t734.toNat 32) = ji9 := hji9
   have hji9z : t734 ≤ 32 → ((Go.bits .and .u32 a1 t735) / 2 ^ t734.toNat) = ji9 := shr_small hji9
   by_cases c10 : 0 ≤ t733
   ·rw [if_pos c10] at H
    have c10b0 := eq_true c10
    have c10b1 : decide (0 ≤ t733) = true := decide_eq_true c10
    clear c10
    obtain ⟨ji11, hji11⟩ : ∃ j_ : Int, (shl .u32 1 t733) = j_ := ⟨_, rfl⟩
    replace H : (some (((ji7) == 1), wrap64 (Go.bits .and .u32 (ji9) (((ji11) - 1) % 4294967296)), IntKind.u64.wrap (Go.bits .and .u32 (Go.bits .and .u32 a1 t735) (((shl .u32 1 t734) - 1) % 4294967296)))) = some (r1, r2, r3) := by first | (rw [hji11] at H; exact H) | (simp only [hji11] at H ⊢; exact H)
    (try rw [hji11] at A3)
    (try rw [hji11] at A4)
    have hji11_ : (IntKind.u32.wrap (1 * 2 ^ min t733.toNat 32)) = ji11 := hji11
    have hji11z : t733 ≤ 32 → (IntKind.u32.wrap (1 * 2 ^ t733.toNat)) = ji11 := shl_small hji11
    have hji11u : (IntKind.u32.wrap (2 ^ min t733.toNat 32)) = ji11 := by have h_ := hji11_; rw [Int.one_mul] at h_; exact h_
    have hji11v : t733 ≤ 32 → (IntKind.u32.wrap (2 ^ t733.toNat)) = ji11 := fun hle_ => by have h_ := hji11z hle_; rw [Int.one_mul] at h_; exact h_
    obtain ⟨ji12, hji12⟩ : ∃ j_ : Int, (((ji11) - 1) % 4294967296) = j_ := ⟨_, rfl⟩
    replace H : (some (((ji7) == 1), wrap64 (Go.bits .and .u32 (ji9) (ji12)), IntKind.u64.wrap (Go.bits .and .u32 (Go.bits .and .u32 a1 t735) (((shl .u32 1 t734) - 1) % 4294967296)))) = some (r1, r2, r3) := by first | (rw [hji12] at H; exact H) | (simp only [hji12] at H ⊢; exact H)
    (try rw [hji12] at A3)
    (try rw [hji12] at A4)
    have hji12l : 0 ≤ ji12 := by rw [← hji12]; exact Int.emod_nonneg _ (by decide)
    have hji12h : ji12 ≤ 4294967295 := by have := Int.emod_lt_of_pos (((ji11) - 1)) (show (0 : Int) < 4294967296 by decide); omega
    have hji12w : (IntKind.u32.wrap ((ji11) - 1)) = ji12 := (sH _).trans hji12
    (try (have hji12_ := hji12; simp only [Int.add_emod_emod, Int.emod_add_emod, Int.sub_emod_emod, Int.emod_sub_emod] at hji12_))
    have c13b0 := eq_true (of_decide_eq_true (by first | (with_reducible assumption) | assumption) : 0 ≤ t734)
    obtain ⟨ji14, hji14⟩ : ∃ j_ : Int, (shl .u32 1 t734) = j_ := ⟨_, rfl⟩
    replace H : (some (((ji7) == 1), wrap64 (Go.bits .and .u32 (ji9) (ji12)), IntKind.u64.wrap (Go.bits .and .u32 (Go.bits .and .u32 a1 t735) (((ji14) - 1) % 4294967296)))) = some (r1, r2, r3) := by first | (rw [hji14] at H; exact H) | (simp only [hji14] at H ⊢; exact H)
    (try rw [hji14] at A3)
    (try rw [hji14] at A4)
    have hji14_ : (IntKind.u32.wrap (1 * 2 ^ min t734.toNat 32)) = ji14 := hji14
    have hji14z : t734 ≤ 32 → (IntKind.u32.wrap (1 * 2 ^ t734.toNat)) = ji14 := shl_small hji14
    have hji14u : (IntKind.u32.wrap (2 ^ min t734.toNat 32)) = ji14 := by have h_ := hji14_; rw [Int.one_mul] at h_; exact h_
    have hji14v : t734 ≤ 32 → (IntKind.u32.wrap (2 ^ t734.toNat)) = ji14 := fun hle_ => by have h_ := hji14z hle_; rw [Int.one_mul] at h_; exact h_
    obtain ⟨ji15, hji15⟩ : ∃ j_ : Int, (((ji14) - 1) % 4294967296) = j_ := ⟨_, rfl⟩
    replace H : (some (((ji7) == 1), wrap64 (Go.bits .and .u32 (ji9) (ji12)), IntKind.u64.wrap (Go.bits .and .u32 (Go.bits .and .u32 a1 t735) (ji15)))) = some (r1, r2, r3) := by first | (rw [hji15] at H; exact H) | (simp only [hji15] at H ⊢; exact H)
    (try rw [hji15] at A3)
    (try rw [hji15] at A4)
    have hji15l : 0 ≤ ji15 := by rw [← hji15]; exact Int.emod_nonneg _ (by decide)
    have hji15h : ji15 ≤ 4294967295 := by have := Int.emod_lt_of_pos (((ji14) - 1)) (show (0 : Int) < 4294967296 by decide); omega
    have hji15w : (IntKind.u32.wrap ((ji14) - 1)) = ji15 := (sH _).trans hji15
    (try (have hji15_ := hji15; simp only [Int.add_emod_emod, Int.emod_add_emod, Int.sub_emod_emod, Int.emod_sub_emod] at hji15_))
    simp only [Option.some.injEq, Prod.mk.injEq] at H
    obtain ⟨rfl, rfl, rfl⟩ := H
    go_enter Tryz.func101, Tryz.ntmps101
    go_wp2_with (first | (go_at_call 12; (with_reducible refine (aF.calls a0 t733 t734 _ A3.out).mono ?_); rintro e w' ⟨rfl, ⟨nd, rfl⟩⟩; (try first | exact ⟨rfl, _, World.drewN_drewN _ _ _⟩ | exact ⟨rfl, _, Eq.trans (World.drewN_drewN _ _ _) (congrArg (World.drewN _) (Nat.add_assoc _ _ _))⟩)) | (go_at_call 14; (with_reducible refine (aU.calls a0 t735 _ A4.out).mono ?_); rintro e w' ⟨rfl, ⟨nd, rfl⟩⟩; (try first | exact ⟨rfl, _, World.drewN_drewN _ _ _⟩ | exact ⟨rfl, _, Eq.trans (World.drewN_drewN _ _ _) (congrArg (World.drewN _) (Nat.add_assoc _ _ _))⟩)))
    repeat (go_quiet (first | (go_at_call 12; (with_reducible refine (aF.calls a0 t733 t734 _ A3.out).mono ?_); rintro e w' ⟨rfl, ⟨nd, rfl⟩⟩; (try first | exact ⟨rfl, _, World.drewN_drewN _ _ _⟩ | exact ⟨rfl, _, Eq.trans (World.drewN_drewN _ _ _) (congrArg (World.drewN _) (Nat.add_assoc _ _ _))⟩)) | (go_at_call 14; (with_reducible refine (aU.calls a0 t735 _ A4.out).mono ?_); rintro e w' ⟨rfl, ⟨nd, rfl⟩⟩; (try first | exact ⟨rfl, _, World.drewN_drewN _ _ _⟩ | exact ⟨rfl, _, Eq.trans (World.drewN_drewN _ _ _) (congrArg (World.drewN _) (Nat.add_assoc _ _ _))⟩))); try go_wp2_with (first | (go_at_call 12; (with_reducible refine (aF.calls a0 t733 t734 _ A3.out).mono ?_); rintro e w' ⟨rfl, ⟨nd, rfl⟩⟩; (try first | exact ⟨rfl, _, World.drewN_drewN _ _ _⟩ | exact ⟨rfl, _, Eq.trans (World.drewN_drewN _ _ _) (congrArg (World.drewN _) (Nat.add_assoc _ _ _))⟩)) | (go_at_call 14; (with_reducible refine (aU.calls a0 t735 _ A4.out).mono ?_); rintro e w' ⟨rfl, ⟨nd, rfl⟩⟩; (try first | exact ⟨rfl, _, World.drewN_drewN _ _ _⟩ | exact ⟨rfl, _, Eq.trans (World.drewN_drewN _ _ _) (congrArg (World.drewN _) (Nat.add_assoc _ _ _))⟩))))
    go_ret3
    exact ⟨by first | rfl | (simp; done) | (simp only [← hji5, ← hji7, ← hji9, ← hji11, ← hji12, ← hji14, ← hji15] <;> (first | rfl | (simp; done))) | (simp [*]; done) | (congr 1; (try unfold wrap64); omega) | (congr 1; rw [IntKind.wrap_u64]; omega), gd_⟩
   ·rw [if_neg c10] at H
    exact absurd H (by simp)
  ·rw [if_neg c8] at H
   exact absurd H (by simp)
 ·rw [if_neg c6] at H
  exact absurd H (by simp)


-- NEED 0
/-! ### aI: function 100 -/
def aI.j0 : Nat → Int → Int → Int → Int → Bool → Option (Int)
 |0, _, _, _, _, _ => none
 |k + 1, x5, x6, x8, x9, x22 => if x22 = true then (some 0) else (if x8 = 0 then (some 1) else (if 0 ≤ x5 then (if x8 < (wrap64 ((shl .i64 1 x5) - 1)) then (some 2) else (if x9 = 0 then (some 3) else (if 0 ≤ (wrap64 (x6 - 1)) then (if (shr .u64 x9 (wrap64 (x6 - 1))) = 1 then (some 4) else (some 5)) else (none)))) else (none)))
def aI.f (k : Nat) (a0 a1 : Int) : Option (Int) := (aF.f a0).bind fun bt736 => ((bV.f a0 a1).bind fun bt738 => (if bt738.2.1 = 0 then (aI.j0 k bt736.1 bt736.2 bt738.2.1 bt738.2.2 (bt738.2.2 == 0)) else (aI.j0 k bt736.1 bt736.2 bt738.2.1 bt738.2.2 false)))
theorem aI.fB : ∀ k, (∀ y0 y1 y2 y3 y4, LeO (aI.j0 k y0 y1 y2 y3 y4) (aI.j0 (k + 1) y0 y1 y2 y3 y4))
 |0 => fun _ _ _ _ _ r h => by simp [aI.j0] at h
 |k + 1 => by
  have ih0 := aI.fB k
  ·intro y0 y1 y2 y3 y4
   unfold aI.j0
   repeat' first
   |(with_reducible first|exact ih0 _ _ _ _ _|exact LeO.refl _|exact LeO.none _|refine LeO.ite ?_ ?_|refine LeO.bind ?_ (fun _ => ?_))
   |exact ih0 _ _ _ _ _
   |exact LeO.none _
   |refine LeO.ite ?_ ?_
   |refine LeO.bind ?_ (fun _ => ?_)
theorem aI.mono : ∀ a0 a1 k, LeO (aI.f k a0 a1) (aI.f (k + 1) a0 a1) := by
 intro a0 a1 k
 have ih0 := aI.fB k
 unfold aI.f
 repeat' first
   |(with_reducible first|exact ih0 _ _ _ _ _|exact LeO.refl _|exact LeO.none _|refine LeO.ite ?_ ?_|refine LeO.bind ?_ (fun _ => ?_))
   |exact ih0 _ _ _ _ _
   |exact LeO.none _
   |refine LeO.ite ?_ ?_
   |refine LeO.bind ?_ (fun _ => ?_)
theorem aI.calls (k : Nat) (a0 a1 r : Int) (w : World) (h : aI.f k a0 a1 = some r) :
  Calls Tryz.prog 100 #[.int .i64 a0, .int .u32 a1] w fun e w' => e = .returned (.int .i64 r) ∧ Drawn0 w w' := by
 have H : ((aF.f a0).bind fun bt736 => ((bV.f a0 a1).bind fun bt738 => (if bt738.2.1 = 0 then (aI.j0 k bt736.1 bt736.2 bt738.2.1 bt738.2.2 (bt738.2.2 == 0)) else (aI.j0 k bt736.1 bt736.2 bt738.2.1 bt738.2.2 false)))) = some r := h
 clear h
 replace H := bq_ H
 obtain ⟨⟨t736, t737⟩, A30, H⟩ := H
 replace H : ((bV.f a0 a1).bind fun bt738 => (if bt738.2.1 = 0 then (aI.j0 k t736 t737 bt738.2.1 bt738.2.2 (bt738.2.2 == 0)) else (aI.j0 k t736 t737 bt738.2.1 bt738.2.2 false))) = some r := H
 have A3 := Aside0.mk A30
 clear A30
 replace H := bq_ H
 obtain ⟨⟨t738, t739, t740⟩, A40, H⟩ := H
 replace H : (if t739 = 0 then (aI.j0 k t736 t737 t739 t740 (t740 == 0)) else (aI.j0 k t736 t737 t739 t740 false)) = some r := H
 have A4 := Aside0.mk A40
 clear A40
 have HC5 := Aside0.mk H
 clear H
 go_enter Tryz.func100, Tryz.ntmps100
 go_upto_region 3 with (first | ((with_reducible refine gate_callee (f := 12) rfl ?_); refine goesL_ (some 12) rfl rfl Tryz.func12 (by kernel_rfl) rfl #[.int .i64 a0] rfl gl ?_; (with_reducible refine (aF.calls a0 t736 t737 _ A3.out).mono ?_); rintro e w' ⟨rfl, ⟨nd, rfl⟩⟩; refine ⟨_, rfl, ?_⟩) | ((with_reducible refine gate_callee (f := 101) rfl ?_); refine goesL_ (some 18) rfl rfl Tryz.func101 (by kernel_rfl) rfl #[.int .i64 a0, .int .u32 a1] rfl gl ?_; (with_reducible refine (bV.calls a0 a1 t738 t739 t740 _ A4.out).mono ?_); rintro e w' ⟨rfl, ⟨nd, rfl⟩⟩; refine ⟨_, rfl, ?_⟩))
 (try simp only [Act.put, sb, sz, ss])
 go_cut [22] (fun v22 wc => ∃ (kq : Nat) (x22_4 : Bool), v22 = .bool x22_4 ∧ Aside0 (aI.j0 kq t736 t737 t739 t740 x22_4 = some r) ∧ Aside0 (kq ≤ k) ∧ Drawn0 w wc)
 case first =>
  have H := HC5.out
  clear HC5
  by_cases c6 : t739 = 0
  ·rw [if_pos c6] at H
   have c6b0 : (t739 == 0) = true := beq_iff_eq.mpr c6
   have c6b1 : (t739 != 0) = false := bne_eq_false_iff_eq.mpr c6
   clear c6
   (first | rw [c6b0] | (simp only [i64_w, i32_w]; rw [c6b0]) | skip)
   have H' := Aside0.mk H
   clear H
   go_wp2
   go_meet
   case rel => exact ⟨_, ((t740 == 0)), (gr_), H', ⟨by first | omega | exact Nat.le_refl _⟩, gd_⟩
  ·rw [if_neg c6] at H
   have c6b0 : (t739 == 0) = false := beq_eq_false_iff_ne.mpr c6
   have c6b1 : (t739 != 0) = true := bne_iff_ne.mpr c6
   (first | rw [c6b0] | (simp only [i64_w, i32_w]; rw [c6b0]) | skip)
   have H' := Aside0.mk H
   clear H
   go_wp2
   go_meet
   case rel => exact ⟨_, (false), (gr_), H', ⟨by first | omega | exact Nat.le_refl _⟩, gd_⟩
 case rest =>
  clear HC5
  try clear c1 p2 c6 c6b0 c6b1 p6
  obtain ⟨kq, x22_4, rfl, HA, HJ4, ⟨mc4, rfl⟩⟩ := hcut
  cases kq with
  |zero => exact absurd HA.out (by simp [aI.j0])
  |succ kj4 =>
   have H := HA.out
   clear HA
   simp only [aI.j0] at H
   by_cases c7 : x22_4 = true
   ·subst c7
    have H1 : (some 0) = some r := by rw [if_pos rfl] at H; exact H
    clear H
    have H := H1
    clear H1
    obtain rfl := Option.some.inj H
    go_wp2
    go_ret
    exact ⟨gr_, gd_⟩
   ·replace c7 := Bool.eq_false_iff.mpr c7
    subst c7
    have H1 : (if t739 = 0 then (some 1) else (if 0 ≤ t736 then (if t739 < (wrap64 ((shl .i64 1 t736) - 1)) then (some 2) else (if t740 = 0 then (some 3) else (if 0 ≤ (wrap64 (t737 - 1)) then (if (shr .u64 t740 (wrap64 (t737 - 1))) = 1 then (some 4) else (some 5)) else (none)))) else (none))) = some r := by rw [if_neg (show ¬ (false = true) by decide)] at H; exact H
    clear H
    have H := H1
    clear H1
    by_cases c8 : t739 = 0
    ·rw [if_pos c8] at H
     have c8b0 : (t739 == 0) = true := beq_iff_eq.mpr c8
     have c8b1 : (t739 != 0) = false := bne_eq_false_iff_eq.mpr c8
     clear c8
     obtain rfl := Option.some.inj H
     go_wp2
     go_ret
     exact ⟨gr_, gd_⟩
    ·rw [if_neg c8] at H
     have c8b0 : (t739 == 0) = false := beq_eq_false_iff_ne.mpr c8
     have c8b1 : (t739 != 0) = true := bne_iff_ne.mpr c8
     by_cases c9 : 0 ≤ t736
     ·rw [if_pos c9] at H
      have c9b0 := eq_true c9
      have c9b1 : decide (0 ≤ t736) = true := decide_eq_true c9
      clear c9
      obtain ⟨ji10, hji10⟩ : ∃ j_ : Int, (shl .i64 1 t736) = j_ := ⟨_, rfl⟩
      replace H : (if t739 < (wrap64 ((ji10) - 1)) then (some 2) else (if t740 = 0 then (some 3) else (if 0 ≤ (wrap64 (t737 - 1)) then (if (shr .u64 t740 (wrap64 (t737 - 1))) = 1 then (some 4) else (some 5)) else (none)))) = some r := by first | (rw [hji10] at H; exact H) | (simp only [hji10] at H ⊢; exact H)
      have hji10_ : (IntKind.i64.wrap (1 * 2 ^ min t736.toNat 64)) = ji10 := hji10
      have hji10z : t736 ≤ 64 → (IntKind.i64.wrap (1 * 2 ^ t736.toNat)) = ji10 := shl_small hji10
      have hji10u : (IntKind.i64.wrap (2 ^ min t736.toNat 64)) = ji10 := by have h_ := hji10_; rw [Int.one_mul] at h_; exact h_
      have hji10v : t736 ≤ 64 → (IntKind.i64.wrap (2 ^ t736.toNat)) = ji10 := fun hle_ => by have h_ := hji10z hle_; rw [Int.one_mul] at h_; exact h_
      have hji10y : (wrap64 (1 * 2 ^ min t736.toNat 64)) = ji10 := (i64_w _).symm.trans hji10_
      have hji10x : t736 ≤ 64 → (wrap64 (1 * 2 ^ t736.toNat)) = ji10 := fun h_ => (i64_w _).symm.trans (hji10z h_)
      by_cases c11 : t739 < (wrap64 ((ji10) - 1))
      ·rw [if_pos c11] at H
       have c11b0 : decide (t739 < (wrap64 ((ji10) - 1))) = true := decide_eq_true c11
       clear c11
       obtain rfl := Option.some.inj H
       go_wp2
       go_ret
       exact ⟨by first | rfl | (simp; done) | (simp only [← hji10] <;> (first | rfl | (simp; done))) | (simp [*]; done) | (congr 1; (try unfold wrap64); omega) | (congr 1; rw [IntKind.wrap_u64]; omega), gd_⟩
      ·rw [if_neg c11] at H
       have c11b0 : decide (t739 < (wrap64 ((ji10) - 1))) = false := decide_eq_false c11
       clear c11
       by_cases c12 : t740 = 0
       ·rw [if_pos c12] at H
        have c12b0 : (t740 == 0) = true := beq_iff_eq.mpr c12
        have c12b1 : (t740 != 0) = false := bne_eq_false_iff_eq.mpr c12
        clear c12
        obtain rfl := Option.some.inj H
        go_wp2
        go_ret
        exact ⟨by first | rfl | (simp; done) | (simp only [← hji10] <;> (first | rfl | (simp; done))) | (simp [*]; done) | (congr 1; (try unfold wrap64); omega) | (congr 1; rw [IntKind.wrap_u64]; omega), gd_⟩
       ·rw [if_neg c12] at H
        have c12b0 : (t740 == 0) = false := beq_eq_false_iff_ne.mpr c12
        have c12b1 : (t740 != 0) = true := bne_iff_ne.mpr c12
        obtain ⟨ji13, hji13⟩ : ∃ j_ : Int, (wrap64 (t737 - 1)) = j_ := ⟨_, rfl⟩
        replace H : (if 0 ≤ (ji13) then (if (shr .u64 t740 (ji13)) = 1 then (some 4) else (some 5)) else (none)) = some r := by first | (rw [hji13] at H; exact H) | (simp only [hji13] at H ⊢; exact H)
        have hji13w : (IntKind.i64.wrap (t737 - 1)) = ji13 := (i64_w _).trans hji13
        by_cases c14 : 0 ≤ (ji13)
        ·rw [if_pos c14] at H
         have c14b0 := eq_true c14
         have c14b1 : decide (0 ≤ (ji13)) = true := decide_eq_true c14
         clear c14
         obtain ⟨ji15, hji15⟩ : ∃ j_ : Int, (shr .u64 t740 (ji13)) = j_ := ⟨_, rfl⟩
         replace H : (if (ji15) = 1 then (some 4) else (some 5)) = some r := by first | (rw [hji15] at H; exact H) | (simp only [hji15] at H ⊢; exact H)
         have hji15_ : (t740 / 2 ^ min (ji13).toNat 64) = ji15 := hji15
         have hji15z : (ji13) ≤ 64 → (t740 / 2 ^ (ji13).toNat) = ji15 := shr_small hji15
         by_cases c16 : (ji15) = 1
         ·rw [if_pos c16] at H
          have c16b0 : ((ji15) == 1) = true := beq_iff_eq.mpr c16
          have c16b1 : ((ji15) != 1) = false := bne_eq_false_iff_eq.mpr c16
          clear c16
          obtain rfl := Option.some.inj H
          go_wp2
          go_ret
          exact ⟨by first | rfl | (simp; done) | (simp only [← hji10, ← hji13, ← hji15] <;> (first | rfl | (simp; done))) | (simp [*]; done) | (congr 1; (try unfold wrap64); omega) | (congr 1; rw [IntKind.wrap_u64]; omega), gd_⟩
         ·rw [if_neg c16] at H
          have c16b0 : ((ji15) == 1) = false := beq_eq_false_iff_ne.mpr c16
          have c16b1 : ((ji15) != 1) = true := bne_iff_ne.mpr c16
          obtain rfl := Option.some.inj H
          go_wp2
          go_ret
          exact ⟨by first | rfl | (simp; done) | (simp only [← hji10, ← hji13, ← hji15] <;> (first | rfl | (simp; done))) | (simp [*]; done) | (congr 1; (try unfold wrap64); omega) | (congr 1; rw [IntKind.wrap_u64]; omega), gd_⟩
        ·rw [if_neg c14] at H
         exact absurd H (by simp)
     ·rw [if_neg c9] at H
      exact absurd H (by simp)

end Go.Proofs.YtfapjegkilljnaaGreat.P
