import Derived.Test.YtolpdiifmacdbaaQcsZ
import Derived.Test.YtolpdiifmacdbaaQcsM4
-- Printed by a program of this session's out of Lean's print of the translation; Lean checks it.
set_option linter.unusedVariables false
set_option linter.unusedSimpArgs false
set_option maxRecDepth 100000
set_option maxHeartbeats 8000000
namespace Go.Proofs.Ytolpdiifmacdbaa.P
open Go.RowKit Go.Proofs.YtolpdiifmacdbaaW.PrintWords Go.Proofs.YtolpdiifmacdbaaW.PrintLast Go.Proofs.YtolpdiifmacdbaaW.PrintMore
attribute [local go_sem] max2_int min2_int max_two min_two max_three min_three max_four min_four

-- NEED 0
/-! ### bX: function 67 -/
def bX.f (a0 a1 : Int) : Option (Bool × Int × Int) := (aR.f a0).bind fun bt221 => (if 0 ≤ (IntKind.u64.wrap (wrap64 (bt221.1 + bt221.2))) then (if 0 ≤ (IntKind.u64.wrap (bt221.2)) then (if 0 ≤ (IntKind.u64.wrap (bt221.1)) then (some (((Go.bits .and .u32 (shr .u32 a1 (IntKind.u64.wrap (wrap64 (bt221.1 + bt221.2)))) 1) == 1), wrap64 (Go.bits .and .u32 (shr .u32 a1 (IntKind.u64.wrap (bt221.2))) (((shl .u32 1 (IntKind.u64.wrap (bt221.1))) - 1) % 4294967296)), Go.bits .and .u32 a1 (((shl .u32 1 (IntKind.u64.wrap (bt221.2))) - 1) % 4294967296))) else (none)) else (none)) else (none))
theorem bX.calls (a0 a1 : Int) (r1 : Bool) (r2 r3 : Int) (w : World) (h : bX.f a0 a1 = some (r1, r2, r3)) :
  Calls Try.prog 67 #[.int .i64 a0, .int .u32 a1] w fun e w' => e = .returned (.tuple #[.bool r1, .int .i64 r2, .int .u32 r3]) ∧ Drawn0 w w' := by
 have H : ((aR.f a0).bind fun bt221 => (if 0 ≤ (IntKind.u64.wrap (wrap64 (bt221.1 + bt221.2))) then (if 0 ≤ (IntKind.u64.wrap (bt221.2)) then (if 0 ≤ (IntKind.u64.wrap (bt221.1)) then (some (((Go.bits .and .u32 (shr .u32 a1 (IntKind.u64.wrap (wrap64 (bt221.1 + bt221.2)))) 1) == 1), wrap64 (Go.bits .and .u32 (shr .u32 a1 (IntKind.u64.wrap (bt221.2))) (((shl .u32 1 (IntKind.u64.wrap (bt221.1))) - 1) % 4294967296)), Go.bits .and .u32 a1 (((shl .u32 1 (IntKind.u64.wrap (bt221.2))) - 1) % 4294967296))) else (none)) else (none)) else (none))) = some (r1, r2, r3) := h
 clear h
 replace H := bq_ H
 obtain ⟨⟨t221, t222⟩, A30, H⟩ := H
 replace H : (if 0 ≤ (IntKind.u64.wrap (wrap64 (t221 + t222))) then (if 0 ≤ (IntKind.u64.wrap (t222)) then (if 0 ≤ (IntKind.u64.wrap (t221)) then (some (((Go.bits .and .u32 (shr .u32 a1 (IntKind.u64.wrap (wrap64 (t221 + t222)))) 1) == 1), wrap64 (Go.bits .and .u32 (shr .u32 a1 (IntKind.u64.wrap (t222))) (((shl .u32 1 (IntKind.u64.wrap (t221))) - 1) % 4294967296)), Go.bits .and .u32 a1 (((shl .u32 1 (IntKind.u64.wrap (t222))) - 1) % 4294967296))) else (none)) else (none)) else (none)) = some (r1, r2, r3) := H
 have A3 := Aside0.mk A30
 clear A30
 obtain ⟨ji4, hji4⟩ : ∃ j_ : Int, (IntKind.u64.wrap (wrap64 (t221 + t222))) = j_ := ⟨_, rfl⟩
 replace H : (if 0 ≤ (ji4) then (if 0 ≤ (IntKind.u64.wrap (t222)) then (if 0 ≤ (IntKind.u64.wrap (t221)) then (some (((Go.bits .and .u32 (shr .u32 a1 (ji4)) 1) == 1), wrap64 (Go.bits .and .u32 (shr .u32 a1 (IntKind.u64.wrap (t222))) (((shl .u32 1 (IntKind.u64.wrap (t221))) - 1) % 4294967296)), Go.bits .and .u32 a1 (((shl .u32 1 (IntKind.u64.wrap (t222))) - 1) % 4294967296))) else (none)) else (none)) else (none)) = some (r1, r2, r3) := by first | (rw [hji4] at H; exact H) | (simp only [hji4] at H ⊢; exact H)
 (try rw [hji4] at A3)
 by_cases c5 : 0 ≤ (ji4)
 ·rw [if_pos c5] at H
  have c5b0 := eq_true c5
  have c5b1 : decide (0 ≤ (ji4)) = true := decide_eq_true c5
  clear c5
  obtain ⟨ji6, hji6⟩ : ∃ j_ : Int, (shr .u32 a1 (ji4)) = j_ := ⟨_, rfl⟩
  replace H : (if 0 ≤ (IntKind.u64.wrap (t222)) then (if 0 ≤ (IntKind.u64.wrap (t221)) then (some (((Go.bits .and .u32 (ji6) 1) == 1), wrap64 (Go.bits .and .u32 (shr .u32 a1 (IntKind.u64.wrap (t222))) (((shl .u32 1 (IntKind.u64.wrap (t221))) - 1) % 4294967296)), Go.bits .and .u32 a1 (((shl .u32 1 (IntKind.u64.wrap (t222))) - 1) % 4294967296))) else (none)) else (none)) = some (r1, r2, r3) := by first | (rw [hji6] at H; exact H) | (simp only [hji6] at H ⊢; exact H)
  (try rw [hji6] at A3)
  have hji6_ : (a1 / 2 ^ min (ji4).toNat 32) = ji6 := hji6
  have hji6z : (ji4) ≤ 32 → (a1 / 2 ^ (ji4).toNat) = ji6 := shr_small hji6
  obtain ⟨ji7, hji7⟩ : ∃ j_ : Int, (IntKind.u64.wrap (t222)) = j_ := ⟨_, rfl⟩
  replace H : (if 0 ≤ (ji7) then (if 0 ≤ (IntKind.u64.wrap (t221)) then (some (((Go.bits .and .u32 (ji6) 1) == 1), wrap64 (Go.bits .and .u32 (shr .u32 a1 (ji7)) (((shl .u32 1 (IntKind.u64.wrap (t221))) - 1) % 4294967296)), Go.bits .and .u32 a1 (((shl .u32 1 (ji7)) - 1) % 4294967296))) else (none)) else (none)) = some (r1, r2, r3) := by first | (rw [hji7] at H; exact H) | (simp only [hji7] at H ⊢; exact H)
  (try rw [hji7] at A3)
  by_cases c8 : 0 ≤ (ji7)
  ·rw [if_pos c8] at H
   have c8b0 := eq_true c8
   have c8b1 : decide (0 ≤ (ji7)) = true := decide_eq_true c8
   clear c8
   obtain ⟨ji9, hji9⟩ : ∃ j_ : Int, (shr .u32 a1 (ji7)) = j_ := ⟨_, rfl⟩
   replace H : (if 0 ≤ (IntKind.u64.wrap (t221)) then (some (((Go.bits .and .u32 (ji6) 1) == 1), wrap64 (Go.bits .and .u32 (ji9) (((shl .u32 1 (IntKind.u64.wrap (t221))) - 1) % 4294967296)), Go.bits .and .u32 a1 (((shl .u32 1 (ji7)) - 1) % 4294967296))) else (none)) = some (r1, r2, r3) := by first | (rw [hji9] at H; exact H) | (simp only [hji9] at H ⊢; exact H)
   (try rw [hji9] at A3)
   have hji9_ : (a1 / 2 ^ min (ji7).toNat 32) = ji9 := hji9
   have hji9z : (ji7) ≤ 32 → (a1 / 2 ^ (ji7).toNat) = ji9 := shr_small hji9
   obtain ⟨ji10, hji10⟩ : ∃ j_ : Int, (IntKind.u64.wrap (t221)) = j_ := ⟨_, rfl⟩
   replace H : (if 0 ≤ (ji10) then (some (((Go.bits .and .u32 (ji6) 1) == 1), wrap64 (Go.bits .and .u32 (ji9) (((shl .u32 1 (ji10)) - 1) % 4294967296)), Go.bits .and .u32 a1 (((shl .u32 1 (ji7)) - 1) % 4294967296))) else (none)) = some (r1, r2, r3) := by first | (rw [hji10] at H; exact H) | (simp only [hji10] at H ⊢; exact H)
   (try rw [hji10] at A3)
   by_cases c11 : 0 ≤ (ji10)
   ·rw [if_pos c11] at H
    have c11b0 := eq_true c11
    have c11b1 : decide (0 ≤ (ji10)) = true := decide_eq_true c11
    clear c11
    obtain ⟨ji12, hji12⟩ : ∃ j_ : Int, (shl .u32 1 (ji10)) = j_ := ⟨_, rfl⟩
    replace H : (some (((Go.bits .and .u32 (ji6) 1) == 1), wrap64 (Go.bits .and .u32 (ji9) (((ji12) - 1) % 4294967296)), Go.bits .and .u32 a1 (((shl .u32 1 (ji7)) - 1) % 4294967296))) = some (r1, r2, r3) := by first | (rw [hji12] at H; exact H) | (simp only [hji12] at H ⊢; exact H)
    (try rw [hji12] at A3)
    have hji12_ : (IntKind.u32.wrap (1 * 2 ^ min (ji10).toNat 32)) = ji12 := hji12
    have hji12z : (ji10) ≤ 32 → (IntKind.u32.wrap (1 * 2 ^ (ji10).toNat)) = ji12 := shl_small hji12
    have hji12u : (IntKind.u32.wrap (2 ^ min (ji10).toNat 32)) = ji12 := by have h_ := hji12_; rw [Int.one_mul] at h_; exact h_
    have hji12v : (ji10) ≤ 32 → (IntKind.u32.wrap (2 ^ (ji10).toNat)) = ji12 := fun hle_ => by have h_ := hji12z hle_; rw [Int.one_mul] at h_; exact h_
    obtain ⟨ji13, hji13⟩ : ∃ j_ : Int, (((ji12) - 1) % 4294967296) = j_ := ⟨_, rfl⟩
    replace H : (some (((Go.bits .and .u32 (ji6) 1) == 1), wrap64 (Go.bits .and .u32 (ji9) (ji13)), Go.bits .and .u32 a1 (((shl .u32 1 (ji7)) - 1) % 4294967296))) = some (r1, r2, r3) := by first | (rw [hji13] at H; exact H) | (simp only [hji13] at H ⊢; exact H)
    (try rw [hji13] at A3)
    have hji13l : 0 ≤ ji13 := by rw [← hji13]; exact Int.emod_nonneg _ (by decide)
    have hji13h : ji13 ≤ 4294967295 := by have := Int.emod_lt_of_pos (((ji12) - 1)) (show (0 : Int) < 4294967296 by decide); omega
    have hji13w : (IntKind.u32.wrap ((ji12) - 1)) = ji13 := (jY _).trans hji13
    (try (have hji13_ := hji13; simp only [Int.add_emod_emod, Int.emod_add_emod, Int.sub_emod_emod, Int.emod_sub_emod] at hji13_))
    have c14b0 := eq_true (of_decide_eq_true (by first | (with_reducible assumption) | assumption) : 0 ≤ (ji7))
    obtain ⟨ji15, hji15⟩ : ∃ j_ : Int, (shl .u32 1 (ji7)) = j_ := ⟨_, rfl⟩
    replace H : (some (((Go.bits .and .u32 (ji6) 1) == 1), wrap64 (Go.bits .and .u32 (ji9) (ji13)), Go.bits .and .u32 a1 (((ji15) - 1) % 4294967296))) = some (r1, r2, r3) := by first | (rw [hji15] at H; exact H) | (simp only [hji15] at H ⊢; exact H)
    (try rw [hji15] at A3)
    have hji15_ : (IntKind.u32.wrap (1 * 2 ^ min (ji7).toNat 32)) = ji15 := hji15
    have hji15z : (ji7) ≤ 32 → (IntKind.u32.wrap (1 * 2 ^ (ji7).toNat)) = ji15 := shl_small hji15
    have hji15u : (IntKind.u32.wrap (2 ^ min (ji7).toNat 32)) = ji15 := by have h_ := hji15_; rw [Int.one_mul] at h_; exact h_
    have hji15v : (ji7) ≤ 32 → (IntKind.u32.wrap (2 ^ (ji7).toNat)) = ji15 := fun hle_ => by have h_ := hji15z hle_; rw [Int.one_mul] at h_; exact h_
    obtain ⟨ji16, hji16⟩ : ∃ j_ : Int, (((ji15) - 1) % 4294967296) = j_ := ⟨_, rfl⟩
    replace H : (some (((Go.bits .and .u32 (ji6) 1) == 1), wrap64 (Go.bits .and .u32 (ji9) (ji13)), Go.bits .and .u32 a1 (ji16))) = some (r1, r2, r3) := by first | (rw [hji16] at H; exact H) | (simp only [hji16] at H ⊢; exact H)
    (try rw [hji16] at A3)
    have hji16l : 0 ≤ ji16 := by rw [← hji16]; exact Int.emod_nonneg _ (by decide)
    have hji16h : ji16 ≤ 4294967295 := by have := Int.emod_lt_of_pos (((ji15) - 1)) (show (0 : Int) < 4294967296 by decide); omega
    have hji16w : (IntKind.u32.wrap ((ji15) - 1)) = ji16 := (jY _).trans hji16
    (try (have hji16_ := hji16; simp only [Int.add_emod_emod, Int.emod_add_emod, Int.sub_emod_emod, Int.emod_sub_emod] at hji16_))
    simp only [Option.some.injEq, Prod.mk.injEq] at H
    obtain ⟨rfl, rfl, rfl⟩ := H
    go_enter Try.func67, Try.ntmps67
    go_wp2_with (first | ((with_reducible refine gate_callee (f := 83) rfl ?_); refine goesL_ (some 11) rfl rfl Try.func83 (by kernel_rfl) rfl #[.int .i64 a0] rfl gl ?_; (with_reducible refine (aR.calls a0 t221 t222 _ A3.out).mono ?_); rintro e w' ⟨rfl, ⟨nd, rfl⟩⟩; refine ⟨_, rfl, ?_⟩))
    go_ret3
    exact ⟨by first | rfl | (simp; done) | (simp only [← hji4, ← hji6, ← hji7, ← hji9, ← hji10, ← hji12, ← hji13, ← hji15, ← hji16] <;> (first | rfl | (simp; done))) | (simp [*]; done) | (congr 1; (try unfold wrap64); omega) | (congr 1; rw [IntKind.wrap_u64]; omega), gd_⟩
   ·rw [if_neg c11] at H
    exact absurd H (by simp)
  ·rw [if_neg c8] at H
   exact absurd H (by simp)
 ·rw [if_neg c5] at H
  exact absurd H (by simp)

-- NEED 0
/-! ### aI: function 86 -/
def aI.j0 : Nat → Int → Int → Int → Int → Bool → Option (Int)
 |0, _, _, _, _, _ => none
 |k + 1, x0, x6, x8, x9, x22 => if x22 = true then (some 0) else (if x8 = 0 then (some 1) else ((bK.f x0).bind fun t228 => (if x8 < t228 then (some 2) else (if x9 = 0 then (some 3) else (if 0 ≤ (IntKind.u64.wrap (wrap64 (x6 - 1))) then (if (shr .u32 x9 (IntKind.u64.wrap (wrap64 (x6 - 1)))) = 1 then (some 4) else (some 5)) else (none))))))
def aI.f (k : Nat) (a0 a1 : Int) : Option (Int) := (aR.f a0).bind fun bt223 => ((bX.f a0 a1).bind fun bt225 => (if bt225.2.1 = 0 then (aI.j0 k a0 bt223.2 bt225.2.1 bt225.2.2 (bt225.2.2 == 0)) else (aI.j0 k a0 bt223.2 bt225.2.1 bt225.2.2 false)))
theorem aI.fB : ∀ k, (∀ y0 y1 y2 y3 y4, LeO (aI.j0 k y0 y1 y2 y3 y4) (aI.j0 (k + 1) y0 y1 y2 y3 y4))
 |0 => fun _ _ _ _ _ r h => by simp [aI.j0] at h
 |k + 1 => by
  have ih0 := aI.fB k
  ·intro y0 y1 y2 y3 y4
   unfold aI.j0
   repeat' first
   |(with_reducible first|exact ih0 _ _ _ _ _|exact LeO.refl _|exact LeO.none _|refine LeO.ite ?_ ?_|refine LeO.bind ?_ (fun _ => ?_))
   |exact ih0 _ _ _ _ _
   |exact LeO.none _
   |refine LeO.ite ?_ ?_
   |refine LeO.bind ?_ (fun _ => ?_)
theorem aI.mono : ∀ a0 a1 k, LeO (aI.f k a0 a1) (aI.f (k + 1) a0 a1) := by
 intro a0 a1 k
 have ih0 := aI.fB k
 unfold aI.f
 repeat' first
   |(with_reducible first|exact ih0 _ _ _ _ _|exact LeO.refl _|exact LeO.none _|refine LeO.ite ?_ ?_|refine LeO.bind ?_ (fun _ => ?_))
   |exact ih0 _ _ _ _ _
   |exact LeO.none _
   |refine LeO.ite ?_ ?_
   |refine LeO.bind ?_ (fun _ => ?_)
theorem aI.calls (k : Nat) (a0 a1 r : Int) (w : World) (h : aI.f k a0 a1 = some r) :
  Calls Try.prog 86 #[.int .i64 a0, .int .u32 a1] w fun e w' => e = .returned (.int .i64 r) ∧ Drawn0 w w' := by
 have H : ((aR.f a0).bind fun bt223 => ((bX.f a0 a1).bind fun bt225 => (if bt225.2.1 = 0 then (aI.j0 k a0 bt223.2 bt225.2.1 bt225.2.2 (bt225.2.2 == 0)) else (aI.j0 k a0 bt223.2 bt225.2.1 bt225.2.2 false)))) = some r := h
 clear h
 replace H := bq_ H
 obtain ⟨⟨t223, t224⟩, A30, H⟩ := H
 replace H : ((bX.f a0 a1).bind fun bt225 => (if bt225.2.1 = 0 then (aI.j0 k a0 t224 bt225.2.1 bt225.2.2 (bt225.2.2 == 0)) else (aI.j0 k a0 t224 bt225.2.1 bt225.2.2 false))) = some r := H
 have A3 := Aside0.mk A30
 clear A30
 replace H := bq_ H
 obtain ⟨⟨t225, t226, t227⟩, A40, H⟩ := H
 replace H : (if t226 = 0 then (aI.j0 k a0 t224 t226 t227 (t227 == 0)) else (aI.j0 k a0 t224 t226 t227 false)) = some r := H
 have A4 := Aside0.mk A40
 clear A40
 have HC5 := Aside0.mk H
 clear H
 go_enter Try.func86, Try.ntmps86
 go_upto_region 3 with (first | ((with_reducible refine gate_callee (f := 83) rfl ?_); refine goesL_ (some 12) rfl rfl Try.func83 (by kernel_rfl) rfl #[.int .i64 a0] rfl gl ?_; (with_reducible refine (aR.calls a0 t223 t224 _ A3.out).mono ?_); rintro e w' ⟨rfl, ⟨nd, rfl⟩⟩; refine ⟨_, rfl, ?_⟩) | ((with_reducible refine gate_callee (f := 67) rfl ?_); refine goesL_ (some 18) rfl rfl Try.func67 (by kernel_rfl) rfl #[.int .i64 a0, .int .u32 a1] rfl gl ?_; (with_reducible refine (bX.calls a0 a1 t225 t226 t227 _ A4.out).mono ?_); rintro e w' ⟨rfl, ⟨nd, rfl⟩⟩; refine ⟨_, rfl, ?_⟩))
 (try simp only [Act.put, sb, sz, ss])
 go_cut [22] (fun v22 wc => ∃ (kq : Nat) (x22_4 : Bool), v22 = .bool x22_4 ∧ Aside0 (aI.j0 kq a0 t224 t226 t227 x22_4 = some r) ∧ Aside0 (kq ≤ k) ∧ Drawn0 w wc)
 case first =>
  have H := HC5.out
  clear HC5
  by_cases c6 : t226 = 0
  ·rw [if_pos c6] at H
   have c6b0 : (t226 == 0) = true := beq_iff_eq.mpr c6
   have c6b1 : (t226 != 0) = false := bne_eq_false_iff_eq.mpr c6
   clear c6
   (first | rw [c6b0] | (simp only [i64_w, i32_w]; rw [c6b0]) | skip)
   have H' := Aside0.mk H
   clear H
   go_wp2
   go_meet
   case rel => exact ⟨_, ((t227 == 0)), (gr_), H', ⟨by first | omega | exact Nat.le_refl _⟩, gd_⟩
  ·rw [if_neg c6] at H
   have c6b0 : (t226 == 0) = false := beq_eq_false_iff_ne.mpr c6
   have c6b1 : (t226 != 0) = true := bne_iff_ne.mpr c6
   (first | rw [c6b0] | (simp only [i64_w, i32_w]; rw [c6b0]) | skip)
   have H' := Aside0.mk H
   clear H
   go_wp2
   go_meet
   case rel => exact ⟨_, (false), (gr_), H', ⟨by first | omega | exact Nat.le_refl _⟩, gd_⟩
 case rest =>
  clear HC5
  try clear p2 c6 c6b0 c6b1 p6
  obtain ⟨kq, x22_4, rfl, HA, HJ4, ⟨mc4, rfl⟩⟩ := hcut
  cases kq with
  |zero => exact absurd HA.out (by simp [aI.j0])
  |succ kj4 =>
   have H := HA.out
   clear HA
   simp only [aI.j0] at H
   by_cases c7 : x22_4 = true
   ·subst c7
    have H1 : (some 0) = some r := by rw [if_pos rfl] at H; exact H
    clear H
    have H := H1
    clear H1
    obtain rfl := Option.some.inj H
    go_wp2
    go_ret
    exact ⟨gr_, gd_⟩
   ·replace c7 := Bool.eq_false_iff.mpr c7
    subst c7
    have H1 : (if t226 = 0 then (some 1) else ((bK.f a0).bind fun t228 => (if t226 < t228 then (some 2) else (if t227 = 0 then (some 3) else (if 0 ≤ (IntKind.u64.wrap (wrap64 (t224 - 1))) then (if (shr .u32 t227 (IntKind.u64.wrap (wrap64 (t224 - 1)))) = 1 then (some 4) else (some 5)) else (none)))))) = some r := by rw [if_neg (show ¬ (false = true) by decide)] at H; exact H
    clear H
    have H := H1
    clear H1
    by_cases c8 : t226 = 0
    ·rw [if_pos c8] at H
     have c8b0 : (t226 == 0) = true := beq_iff_eq.mpr c8
     have c8b1 : (t226 != 0) = false := bne_eq_false_iff_eq.mpr c8
     clear c8
     obtain rfl := Option.some.inj H
     go_wp2
     go_ret
     exact ⟨gr_, gd_⟩
    ·rw [if_neg c8] at H
     have c8b0 : (t226 == 0) = false := beq_eq_false_iff_ne.mpr c8
     have c8b1 : (t226 != 0) = true := bne_iff_ne.mpr c8
     replace H := bq_ H
     obtain ⟨t228, A90, H⟩ := H
     replace H : (if t226 < t228 then (some 2) else (if t227 = 0 then (some 3) else (if 0 ≤ (IntKind.u64.wrap (wrap64 (t224 - 1))) then (if (shr .u32 t227 (IntKind.u64.wrap (wrap64 (t224 - 1)))) = 1 then (some 4) else (some 5)) else (none)))) = some r := H
     have A9 := Aside0.mk A90
     clear A90
     by_cases c10 : t226 < t228
     ·rw [if_pos c10] at H
      have c10b0 : decide (t226 < t228) = true := decide_eq_true c10
      clear c10
      obtain rfl := Option.some.inj H
      go_wp2_with (first | ((with_reducible refine gate_callee (f := 68) rfl ?_); refine goesL_ (some 35) rfl rfl Try.func68 (by kernel_rfl) rfl #[.int .i64 a0] rfl gl ?_; (with_reducible refine (bK.calls a0 t228 _ A9.out).mono ?_); rintro e w' ⟨rfl, ⟨nd, rfl⟩⟩; refine ⟨_, rfl, ?_⟩))
      go_ret
      exact ⟨gr_, gd_⟩
     ·rw [if_neg c10] at H
      have c10b0 : decide (t226 < t228) = false := decide_eq_false c10
      clear c10
      by_cases c11 : t227 = 0
      ·rw [if_pos c11] at H
       have c11b0 : (t227 == 0) = true := beq_iff_eq.mpr c11
       have c11b1 : (t227 != 0) = false := bne_eq_false_iff_eq.mpr c11
       clear c11
       obtain rfl := Option.some.inj H
       go_wp2_with (first | ((with_reducible refine gate_callee (f := 68) rfl ?_); refine goesL_ (some 35) rfl rfl Try.func68 (by kernel_rfl) rfl #[.int .i64 a0] rfl gl ?_; (with_reducible refine (bK.calls a0 t228 _ A9.out).mono ?_); rintro e w' ⟨rfl, ⟨nd, rfl⟩⟩; refine ⟨_, rfl, ?_⟩))
       go_ret
       exact ⟨gr_, gd_⟩
      ·rw [if_neg c11] at H
       have c11b0 : (t227 == 0) = false := beq_eq_false_iff_ne.mpr c11
       have c11b1 : (t227 != 0) = true := bne_iff_ne.mpr c11
       obtain ⟨ji12, hji12⟩ : ∃ j_ : Int, (IntKind.u64.wrap (wrap64 (t224 - 1))) = j_ := ⟨_, rfl⟩
       replace H : (if 0 ≤ (ji12) then (if (shr .u32 t227 (ji12)) = 1 then (some 4) else (some 5)) else (none)) = some r := by first | (rw [hji12] at H; exact H) | (simp only [hji12] at H ⊢; exact H)
       (try rw [hji12] at A9)
       by_cases c13 : 0 ≤ (ji12)
       ·rw [if_pos c13] at H
        have c13b0 := eq_true c13
        have c13b1 : decide (0 ≤ (ji12)) = true := decide_eq_true c13
        clear c13
        obtain ⟨ji14, hji14⟩ : ∃ j_ : Int, (shr .u32 t227 (ji12)) = j_ := ⟨_, rfl⟩
        replace H : (if (ji14) = 1 then (some 4) else (some 5)) = some r := by first | (rw [hji14] at H; exact H) | (simp only [hji14] at H ⊢; exact H)
        (try rw [hji14] at A9)
        have hji14_ : (t227 / 2 ^ min (ji12).toNat 32) = ji14 := hji14
        have hji14z : (ji12) ≤ 32 → (t227 / 2 ^ (ji12).toNat) = ji14 := shr_small hji14
        by_cases c15 : (ji14) = 1
        ·rw [if_pos c15] at H
         have c15b0 : ((ji14) == 1) = true := beq_iff_eq.mpr c15
         have c15b1 : ((ji14) != 1) = false := bne_eq_false_iff_eq.mpr c15
         clear c15
         obtain rfl := Option.some.inj H
         go_wp2_with (first | ((with_reducible refine gate_callee (f := 68) rfl ?_); refine goesL_ (some 35) rfl rfl Try.func68 (by kernel_rfl) rfl #[.int .i64 a0] rfl gl ?_; (with_reducible refine (bK.calls a0 t228 _ A9.out).mono ?_); rintro e w' ⟨rfl, ⟨nd, rfl⟩⟩; refine ⟨_, rfl, ?_⟩))
         go_ret
         exact ⟨by first | rfl | (simp; done) | (simp only [← hji12, ← hji14] <;> (first | rfl | (simp; done))) | (simp [*]; done) | (congr 1; (try unfold wrap64); omega) | (congr 1; rw [IntKind.wrap_u64]; omega), gd_⟩
        ·rw [if_neg c15] at H
         have c15b0 : ((ji14) == 1) = false := beq_eq_false_iff_ne.mpr c15
         have c15b1 : ((ji14) != 1) = true := bne_iff_ne.mpr c15
         obtain rfl := Option.some.inj H
         go_wp2_with (first | ((with_reducible refine gate_callee (f := 68) rfl ?_); refine goesL_ (some 35) rfl rfl Try.func68 (by kernel_rfl) rfl #[.int .i64 a0] rfl gl ?_; (with_reducible refine (bK.calls a0 t228 _ A9.out).mono ?_); rintro e w' ⟨rfl, ⟨nd, rfl⟩⟩; refine ⟨_, rfl, ?_⟩))
         go_ret
         exact ⟨by first | rfl | (simp; done) | (simp only [← hji12, ← hji14] <;> (first | rfl | (simp; done))) | (simp [*]; done) | (congr 1; (try unfold wrap64); omega) | (congr 1; rw [IntKind.wrap_u64]; omega), gd_⟩
       ·rw [if_neg c13] at H
        exact absurd H (by simp)

-- NEED 0
/-! ### eB: function 114 -/
def eB.f (a0 : Int) : Option (Int) := (aR.f a0).bind fun bt229 => ((bK.f a0).bind fun t231 => (if 0 ≤ (IntKind.u64.wrap (wrap64 (bt229.2 - 1))) then ((aX.f a0 false t231 (shl .u32 1 (IntKind.u64.wrap (wrap64 (bt229.2 - 1))))).bind fun t232 => (some t232)) else (none)))
theorem eB.calls (a0 r : Int) (w : World) (h : eB.f a0 = some r) :
  Calls Try.prog 114 #[.int .i64 a0] w fun e w' => e = .returned (.int .u32 r) ∧ Drawn0 w w' := by
 have H : ((aR.f a0).bind fun bt229 => ((bK.f a0).bind fun t231 => (if 0 ≤ (IntKind.u64.wrap (wrap64 (bt229.2 - 1))) then ((aX.f a0 false t231 (shl .u32 1 (IntKind.u64.wrap (wrap64 (bt229.2 - 1))))).bind fun t232 => (some t232)) else (none)))) = some r := h
 clear h
 replace H := bq_ H
 obtain ⟨⟨t229, t230⟩, A20, H⟩ := H
 replace H : ((bK.f a0).bind fun t231 => (if 0 ≤ (IntKind.u64.wrap (wrap64 (t230 - 1))) then ((aX.f a0 false t231 (shl .u32 1 (IntKind.u64.wrap (wrap64 (t230 - 1))))).bind fun t232 => (some t232)) else (none))) = some r := H
 have A2 := Aside0.mk A20
 clear A20
 replace H := bq_ H
 obtain ⟨t231, A30, H⟩ := H
 replace H : (if 0 ≤ (IntKind.u64.wrap (wrap64 (t230 - 1))) then ((aX.f a0 false t231 (shl .u32 1 (IntKind.u64.wrap (wrap64 (t230 - 1))))).bind fun t232 => (some t232)) else (none)) = some r := H
 have A3 := Aside0.mk A30
 clear A30
 obtain ⟨ji4, hji4⟩ : ∃ j_ : Int, (IntKind.u64.wrap (wrap64 (t230 - 1))) = j_ := ⟨_, rfl⟩
 replace H : (if 0 ≤ (ji4) then ((aX.f a0 false t231 (shl .u32 1 (ji4))).bind fun t232 => (some t232)) else (none)) = some r := by first | (rw [hji4] at H; exact H) | (simp only [hji4] at H ⊢; exact H)
 (try rw [hji4] at A2)
 (try rw [hji4] at A3)
 by_cases c5 : 0 ≤ (ji4)
 ·rw [if_pos c5] at H
  have c5b0 := eq_true c5
  have c5b1 : decide (0 ≤ (ji4)) = true := decide_eq_true c5
  clear c5
  obtain ⟨ji6, hji6⟩ : ∃ j_ : Int, (shl .u32 1 (ji4)) = j_ := ⟨_, rfl⟩
  replace H : ((aX.f a0 false t231 (ji6)).bind fun t232 => (some t232)) = some r := by first | (rw [hji6] at H; exact H) | (simp only [hji6] at H ⊢; exact H)
  (try rw [hji6] at A2)
  (try rw [hji6] at A3)
  have hji6_ : (IntKind.u32.wrap (1 * 2 ^ min (ji4).toNat 32)) = ji6 := hji6
  have hji6z : (ji4) ≤ 32 → (IntKind.u32.wrap (1 * 2 ^ (ji4).toNat)) = ji6 := shl_small hji6
  have hji6u : (IntKind.u32.wrap (2 ^ min (ji4).toNat 32)) = ji6 := by have h_ := hji6_; rw [Int.one_mul] at h_; exact h_
  have hji6v : (ji4) ≤ 32 → (IntKind.u32.wrap (2 ^ (ji4).toNat)) = ji6 := fun hle_ => by have h_ := hji6z hle_; rw [Int.one_mul] at h_; exact h_
  replace H := bq_ H
  obtain ⟨t232, A70, H⟩ := H
  replace H : (some t232) = some r := H
  have A7 := Aside0.mk A70
  clear A70
  obtain rfl := Option.some.inj H
  go_enter Try.func114, Try.ntmps114
  go_wp2_with (first | ((with_reducible refine gate_callee (f := 83) rfl ?_); refine goesL_ (some 7) rfl rfl Try.func83 (by kernel_rfl) rfl #[.int .i64 a0] rfl gl ?_; (with_reducible refine (aR.calls a0 t229 t230 _ A2.out).mono ?_); rintro e w' ⟨rfl, ⟨nd, rfl⟩⟩; refine ⟨_, rfl, ?_⟩) | ((with_reducible refine gate_callee (f := 68) rfl ?_); refine goesL_ (some 12) rfl rfl Try.func68 (by kernel_rfl) rfl #[.int .i64 a0] rfl gl ?_; (with_reducible refine (bK.calls a0 t231 _ A3.out).mono ?_); rintro e w' ⟨rfl, ⟨nd, rfl⟩⟩; refine ⟨_, rfl, ?_⟩) | ((with_reducible refine gate_callee (f := 108) rfl ?_); refine goesL_ (some 17) rfl rfl Try.func108 (by kernel_rfl) rfl #[.int .i64 a0, .bool false, .int .i64 t231, .int .u32 ji6] rfl (by (try simp only [List.map_toArray, List.map_cons, List.map_nil]); first | done | (simp only [hji6]; rfl) | rfl | (simp only [List.length_drop, List.length_take]; rfl)) ?_; (with_reducible refine (aX.calls a0 false t231 ji6 t232 _ A7.out).mono ?_); rintro e w' ⟨rfl, ⟨nd, rfl⟩⟩; refine ⟨_, rfl, ?_⟩))
  go_ret
  exact ⟨by first | rfl | (simp; done) | (simp only [← hji4, ← hji6] <;> (first | rfl | (simp; done))) | (simp [*]; done) | (congr 1; (try unfold wrap64); omega) | (congr 1; rw [IntKind.wrap_u64]; omega), gd_⟩
 ·rw [if_neg c5] at H
  exact absurd H (by simp)


-- NEED 0
/-! ### aN: function 84 -/
def aN.l0 : Nat → Int → Bool → List Int → Int → Int → Bool → Bool → Bool → Bool → Bool → Option (Int × Bool × Bool × Bool × Bool × Bool × Bool)
 |0, _, _, _, _, _, _, _, _, _, _ => none
 |k + 1, x0, x7, x12, x13, x14, x235000, x235001, x235002, x235003, x235004 => if x14 < x13 then (if 0 ≤ x14 then (if x14 < (x12.length : Int) then ((aI.f k x0 (rd x12 x14)).bind fun t236 => (if x7 = true then (if x235000 = true then (aN.l0 k x0 true x12 x13 (wrap64 (x14 + 1)) true x235001 x235002 x235003 x235004) else (aN.l0 k x0 true x12 x13 (wrap64 (x14 + 1)) (t236 == 5) x235001 x235002 x235003 x235004)) else (if x235000 = true then (aN.l0 k x0 (decide (t236 ≥ 4)) x12 x13 (wrap64 (x14 + 1)) true x235001 x235002 x235003 x235004) else (aN.l0 k x0 (decide (t236 ≥ 4)) x12 x13 (wrap64 (x14 + 1)) (t236 == 5) x235001 x235002 x235003 x235004)))) else (none)) else (none)) else ((eB.f x0).bind fun t237 => (some (t237, x235000, x235001, x235002, x235003, x235004, x7)))
def aN.f (k : Nat) (a0 : Int) (l1 : List Int) : Option (Int × Bool × Bool × Bool × Bool × Bool × Bool) := aN.l0 k a0 false l1 (l1.length : Int) 0 false false false false false
theorem aN.fB : ∀ k, (∀ y0 y1 y2 y3 y4 y5 y6 y7 y8 y9, LeO (aN.l0 k y0 y1 y2 y3 y4 y5 y6 y7 y8 y9) (aN.l0 (k + 1) y0 y1 y2 y3 y4 y5 y6 y7 y8 y9))
 |0 => fun _ _ _ _ _ _ _ _ _ _ r h => by simp [aN.l0] at h
 |k + 1 => by
  have ih0 := aN.fB k
  ·intro y0 y1 y2 y3 y4 y5 y6 y7 y8 y9
   unfold aN.l0
   repeat' first
   |(with_reducible first|exact ih0 _ _ _ _ _ _ _ _ _ _|exact aI.mono _ _ _|exact LeO.refl _|exact LeO.none _|refine LeO.ite ?_ ?_|refine LeO.bind ?_ (fun _ => ?_))
   |exact ih0 _ _ _ _ _ _ _ _ _ _
   |exact aI.mono _ _ _
   |exact LeO.none _
   |refine LeO.ite ?_ ?_
   |refine LeO.bind ?_ (fun _ => ?_)
theorem aN.mono : ∀ a0 a1 k, LeO (aN.f k a0 a1) (aN.f (k + 1) a0 a1) := by
 intro a0 a1 k
 have ih0 := aN.fB k
 unfold aN.f
 repeat' first
   |(with_reducible first|exact ih0 _ _ _ _ _ _ _ _ _ _|exact aI.mono _ _ _|exact LeO.refl _|exact LeO.none _|refine LeO.ite ?_ ?_|refine LeO.bind ?_ (fun _ => ?_))
   |exact ih0 _ _ _ _ _ _ _ _ _ _
   |exact aI.mono _ _ _
   |exact LeO.none _
   |refine LeO.ite ?_ ?_
   |refine LeO.bind ?_ (fun _ => ?_)
theorem aN.calls (k : Nat) (a0 : Int) (A1 : Option Addr) (c1 : Nat) (l1 : List Int) (r1 : Int) (r2 r3 : Bool) (r4 r5 : Bool) (r6 r7 : Bool) (w : World) (hr1 : Kd.C (Kd.int .u32) w A1 l1.length l1) (hc1 : l1.length ≤ c1) (h : aN.f k a0 l1 = some (r1, r2, r3, r4, r5, r6, r7)) :
  Calls Try.prog 84 #[.int .i64 a0, .slice A1 l1.length c1] w fun e w' => e = .returned (.tuple #[.int .u32 r1, .agg #[.bool r2, .bool r3, .bool r4, .bool r5, .bool r6], .bool r7]) ∧ Below w.heap.size w w' := by
 have hu82 := Try.underlying82
 have HR1 := Aside0.mk hr1
 have HC1 := Aside0.mk hc1
 clear hr1 hc1
 have HB := Aside0.mk (Below.refl w.heap.size w)
 have H : (aN.l0 k a0 false l1 (l1.length : Int) 0 false false false false false) = some (r1, r2, r3, r4, r5, r6, r7) := h
 clear h
 have H' := Aside0.mk H
 clear H
 go_enter Try.func84, Try.ntmps84
 go_wp2_with (first | ((with_reducible refine gate_dst (N := 5) rfl ?_); refine box_event ?hg (N := 5) ?hd (cs := F5) (t := 82) ?hr ?_; (case hd => rfl); (case hg => rfl); (case hr => first | (go_simp; done) | (go_simp; rfl)); intro gb233 hg w3 hbox hb; have n0_ := Aside0.mk (below_step (bl0 HB.out) hb); have n1_ := Aside0.mk (hbox); have n2_ := Aside0.mk ((by rw [hg]; exact (below_size (bl0 HB.out)) : w.heap.size ≤ gb233)); have n3_ := n2_; clear HB; have HB := n0_; have BK233 := n1_; have GW233 := n2_; have GE233 := n3_; clear n0_ n1_ n2_ n3_; clear hb hbox hg) | ((with_reducible refine gate_dst (N := 8) rfl ?_); refine box_event ?hg (N := 8) ?hd (cs := F5) (t := 82) ?hr ?_; (case hd => rfl); (case hg => rfl); (case hr => first | (go_simp; done) | (go_simp; rfl)); intro gb234 hg w4 hbox hb; have n0_ := Aside0.mk (blk_below (g := gb233) (o := o5_ false false false false false 82) (bv BK233.out) hb); have n1_ := Aside0.mk (below_step (bl1 HB.out GE233.out) hb); have n2_ := Aside0.mk (hbox); have n3_ := Aside0.mk ((by rw [hg]; exact (below_size (bl1 HB.out GE233.out)) : w.heap.size ≤ gb234)); have n4_ := n3_; have n5_ := Aside0.mk ((by rw [hg]; exact Nat.ne_of_lt (blk_lt (g := gb233) (o := .cells F5 82 (0, 0)) (bv BK233.out)) : gb233 ≠ gb234)); have n6_ := Aside0.mk (Ne.symm n5_.out); clear BK233; clear HB; have BK233 := n0_; have HB := n1_; have BK234 := n2_; have GW234 := n3_; have GE234 := n4_; have NB233_234 := n5_; have NB234_233 := n6_; clear n0_ n1_ n2_ n3_ n4_ n5_ n6_; clear hb hbox hg))
 go_loopg [7, 14] k (fun kq v7 v14 w' => ∃ (x7_1 : Bool) (x14_1 : Int) (x235000_1 : Bool), v7 = .bool x7_1 ∧ v14 = .int .i64 x14_1 ∧ Aside0 (aN.l0 kq a0 x7_1 l1 (l1.length : Int) x14_1 x235000_1 false false false false = some (r1, r2, r3, r4, r5, r6, r7)) ∧ Aside0 (kq ≤ k) ∧ Aside0 (w'.heap[gb233]? = some (o5_ false false false false false 82)) ∧ Aside0 (w'.heap[gb234]? = some (o5_ x235000_1 false false false false 82)) ∧ Aside0 (Below w.heap.size w w'))
 case atStart => exact ⟨(false), (0), (false), (gr_), (gr_), H', ⟨Nat.le_refl _⟩, ⟨by (with_reducible repeat first | apply bd | apply be | apply ba); exact BK233.out⟩, ⟨by (with_reducible repeat first | apply bd | apply be | apply ba); exact BK234.out⟩, ⟨bl2 HB.out GE233.out GE234.out⟩⟩
 case round =>
  clear H'
  try clear c1 p2
  obtain ⟨x7_1, x14_1, x235000_1, rfl, rfl, HA, HK1, BK233, BK234, HB⟩ := hrel
  cases gk with
  |zero => exact absurd HA.out (by simp [aN.l0])
  |succ k1 =>
   have H := HA.out
   clear HA
   simp only [aN.l0] at H
   by_cases c5 : x14_1 < (l1.length : Int)
   ·rw [if_pos c5] at H
    have c5b0 : decide (x14_1 < (l1.length : Int)) = true := decide_eq_true c5
    clear c5
    by_cases c6 : 0 ≤ x14_1
    ·rw [if_pos c6] at H
     have c6b0 : decide (0 ≤ x14_1) = true := decide_eq_true c6
     clear c6
     by_cases c7 : x14_1 < (l1.length : Int)
     ·rw [if_pos c7] at H
      have c7b0 : decide (x14_1 < (l1.length : Int)) = true := decide_eq_true c7
      clear c7
      replace H := bq_ H
      obtain ⟨t236, A80, H⟩ := H
      replace H : (if x7_1 = true then (if x235000_1 = true then (aN.l0 k1 a0 true l1 (l1.length : Int) (wrap64 (x14_1 + 1)) true false false false false) else (aN.l0 k1 a0 true l1 (l1.length : Int) (wrap64 (x14_1 + 1)) (t236 == 5) false false false false)) else (if x235000_1 = true then (aN.l0 k1 a0 (decide (t236 ≥ 4)) l1 (l1.length : Int) (wrap64 (x14_1 + 1)) true false false false false) else (aN.l0 k1 a0 (decide (t236 ≥ 4)) l1 (l1.length : Int) (wrap64 (x14_1 + 1)) (t236 == 5) false false false false))) = some (r1, r2, r3, r4, r5, r6, r7) := H
      have A8 := Aside0.mk A80
      clear A80
      by_cases c9 : x7_1 = true
      ·subst c9
       have H1 : (if x235000_1 = true then (aN.l0 k1 a0 true l1 (l1.length : Int) (wrap64 (x14_1 + 1)) true false false false false) else (aN.l0 k1 a0 true l1 (l1.length : Int) (wrap64 (x14_1 + 1)) (t236 == 5) false false false false)) = some (r1, r2, r3, r4, r5, r6, r7) := by rw [if_pos rfl] at H; exact H
       clear H
       have H := H1
       clear H1
       by_cases c10 : x235000_1 = true
       ·subst c10
        have H1 : (aN.l0 k1 a0 true l1 (l1.length : Int) (wrap64 (x14_1 + 1)) true false false false false) = some (r1, r2, r3, r4, r5, r6, r7) := by rw [if_pos rfl] at H; exact H
        clear H
        have H := H1
        clear H1
        have H' := Aside0.mk H
        clear H
        have p235 : 0 ≤ (x14_1 : Int) := of_decide_eq_true (by first | (with_reducible assumption) | assumption)
        have q235 : x14_1 < (l1.length : Int) := of_decide_eq_true (by first | (with_reducible assumption) | assumption)
        obtain ⟨ad235, e235, hx235_0⟩ := Kd.at_int HR1.out x14_1 p235 q235
        cases e235
        replace hx235_0 := (HB.out.cell (World.block_lt_of_cell? w _ hx235_0)).trans hx235_0
        replace p235 := eq_true p235
        replace q235 := eq_true q235
        go_wp2_with (first | ((with_reducible refine gate_callee (f := 86) rfl ?_); refine goesL_ (some 20) rfl rfl Try.func86 (by kernel_rfl) rfl #[.int .i64 a0, .int .u32 (rd l1 x14_1)] rfl gl ?_; (with_reducible refine (aI.calls k1 a0 (rd l1 x14_1) t236 _ A8.out).mono ?_); rintro e w' ⟨rfl, ⟨nd, rfl⟩⟩; refine ⟨_, rfl, ?_⟩; (try (rw [drewN_self wr]; generalize hq_ : World.drewN wr _ = wr; have n0_ : Aside0 (wr.heap[gb233]? = some (o5_ false false false false false 82)) := ⟨by rw [← hq_]; exact (bv BK233.out)⟩; have n1_ : Aside0 (wr.heap[gb234]? = some (o5_ true false false false false 82)) := ⟨by rw [← hq_]; exact (bv BK234.out)⟩; have n2_ : Aside0 (Below w.heap.size w wr) := ⟨by rw [← hq_]; exact (bl2 HB.out GE233.out GE234.out)⟩; clear BK233 BK234 HB hq_; have BK233 := n0_; have BK234 := n1_; have HB := n2_; clear n0_ n1_ n2_)); have hnb11 := NB234_233.out; have hnc11 := NB233_234.out; obtain ⟨hcz12_0, hcz12_1, hcz12_2, hcz12_3, hcz12_4⟩ := bc5 BK234.out; obtain ⟨hfz12_0, hfz12_1, hfz12_2, hfz12_3, hfz12_4⟩ := bf5 BK234.out))
        go_roundg k1
        case measure => have := HK1.out; omega
        case rel => exact ⟨(true), (wrap64 (x14_1 + 1)), (true), (gr_), (gr_), H', ⟨by have := HK1.out; omega⟩, ⟨by (with_reducible repeat first | apply bd | apply be | apply ba); refine blk_far ?_ NB233_234.out _; (with_reducible repeat first | apply bd | apply be | apply ba); exact BK233.out⟩, ⟨by (with_reducible repeat first | apply bd | apply be | apply ba); refine blk_put (cs := q5_ true false false false false) ?_ 0 _ rfl; (with_reducible repeat first | apply bd | apply be | apply ba); exact BK234.out⟩, ⟨bl2 HB.out GE233.out GE234.out⟩⟩
       ·replace c10 := Bool.eq_false_iff.mpr c10
        subst c10
        have H1 : (aN.l0 k1 a0 true l1 (l1.length : Int) (wrap64 (x14_1 + 1)) (t236 == 5) false false false false) = some (r1, r2, r3, r4, r5, r6, r7) := by rw [if_neg (show ¬ (false = true) by decide)] at H; exact H
        clear H
        have H := H1
        clear H1
        have H' := Aside0.mk H
        clear H
        have p235 : 0 ≤ (x14_1 : Int) := of_decide_eq_true (by first | (with_reducible assumption) | assumption)
        have q235 : x14_1 < (l1.length : Int) := of_decide_eq_true (by first | (with_reducible assumption) | assumption)
        obtain ⟨ad235, e235, hx235_0⟩ := Kd.at_int HR1.out x14_1 p235 q235
        cases e235
        replace hx235_0 := (HB.out.cell (World.block_lt_of_cell? w _ hx235_0)).trans hx235_0
        replace p235 := eq_true p235
        replace q235 := eq_true q235
        go_wp2_with (first | ((with_reducible refine gate_callee (f := 86) rfl ?_); refine goesL_ (some 20) rfl rfl Try.func86 (by kernel_rfl) rfl #[.int .i64 a0, .int .u32 (rd l1 x14_1)] rfl gl ?_; (with_reducible refine (aI.calls k1 a0 (rd l1 x14_1) t236 _ A8.out).mono ?_); rintro e w' ⟨rfl, ⟨nd, rfl⟩⟩; refine ⟨_, rfl, ?_⟩; (try (rw [drewN_self wr]; generalize hq_ : World.drewN wr _ = wr; have n0_ : Aside0 (wr.heap[gb233]? = some (o5_ false false false false false 82)) := ⟨by rw [← hq_]; exact (bv BK233.out)⟩; have n1_ : Aside0 (wr.heap[gb234]? = some (o5_ false false false false false 82)) := ⟨by rw [← hq_]; exact (bv BK234.out)⟩; have n2_ : Aside0 (Below w.heap.size w wr) := ⟨by rw [← hq_]; exact (bl2 HB.out GE233.out GE234.out)⟩; clear BK233 BK234 HB hq_; have BK233 := n0_; have BK234 := n1_; have HB := n2_; clear n0_ n1_ n2_)); have hnb13 := NB234_233.out; have hnc13 := NB233_234.out; obtain ⟨hcz14_0, hcz14_1, hcz14_2, hcz14_3, hcz14_4⟩ := bc5 BK234.out; obtain ⟨hfz14_0, hfz14_1, hfz14_2, hfz14_3, hfz14_4⟩ := bf5 BK234.out))
        go_roundg k1
        case measure => have := HK1.out; omega
        case rel => exact ⟨(true), (wrap64 (x14_1 + 1)), ((t236 == 5)), (gr_), (gr_), H', ⟨by have := HK1.out; omega⟩, ⟨by (with_reducible repeat first | apply bd | apply be | apply ba); refine blk_far ?_ NB233_234.out _; (with_reducible repeat first | apply bd | apply be | apply ba); exact BK233.out⟩, ⟨by (with_reducible repeat first | apply bd | apply be | apply ba); refine blk_put (cs := F5) ?_ 0 _ rfl; (with_reducible repeat first | apply bd | apply be | apply ba); exact BK234.out⟩, ⟨bl2 HB.out GE233.out GE234.out⟩⟩
      ·replace c9 := Bool.eq_false_iff.mpr c9
       subst c9
       have H1 : (if x235000_1 = true then (aN.l0 k1 a0 (decide (t236 ≥ 4)) l1 (l1.length : Int) (wrap64 (x14_1 + 1)) true false false false false) else (aN.l0 k1 a0 (decide (t236 ≥ 4)) l1 (l1.length : Int) (wrap64 (x14_1 + 1)) (t236 == 5) false false false false)) = some (r1, r2, r3, r4, r5, r6, r7) := by rw [if_neg (show ¬ (false = true) by decide)] at H; exact H
       clear H
       have H := H1
       clear H1
       by_cases c15 : x235000_1 = true
       ·subst c15
        have H1 : (aN.l0 k1 a0 (decide (t236 ≥ 4)) l1 (l1.length : Int) (wrap64 (x14_1 + 1)) true false false false false) = some (r1, r2, r3, r4, r5, r6, r7) := by rw [if_pos rfl] at H; exact H
        clear H
        have H := H1
        clear H1
        have H' := Aside0.mk H
        clear H
        have p235 : 0 ≤ (x14_1 : Int) := of_decide_eq_true (by first | (with_reducible assumption) | assumption)
        have q235 : x14_1 < (l1.length : Int) := of_decide_eq_true (by first | (with_reducible assumption) | assumption)
        obtain ⟨ad235, e235, hx235_0⟩ := Kd.at_int HR1.out x14_1 p235 q235
        cases e235
        replace hx235_0 := (HB.out.cell (World.block_lt_of_cell? w _ hx235_0)).trans hx235_0
        replace p235 := eq_true p235
        replace q235 := eq_true q235
        go_wp2_with (first | ((with_reducible refine gate_callee (f := 86) rfl ?_); refine goesL_ (some 20) rfl rfl Try.func86 (by kernel_rfl) rfl #[.int .i64 a0, .int .u32 (rd l1 x14_1)] rfl gl ?_; (with_reducible refine (aI.calls k1 a0 (rd l1 x14_1) t236 _ A8.out).mono ?_); rintro e w' ⟨rfl, ⟨nd, rfl⟩⟩; refine ⟨_, rfl, ?_⟩; (try (rw [drewN_self wr]; generalize hq_ : World.drewN wr _ = wr; have n0_ : Aside0 (wr.heap[gb233]? = some (o5_ false false false false false 82)) := ⟨by rw [← hq_]; exact (bv BK233.out)⟩; have n1_ : Aside0 (wr.heap[gb234]? = some (o5_ true false false false false 82)) := ⟨by rw [← hq_]; exact (bv BK234.out)⟩; have n2_ : Aside0 (Below w.heap.size w wr) := ⟨by rw [← hq_]; exact (bl2 HB.out GE233.out GE234.out)⟩; clear BK233 BK234 HB hq_; have BK233 := n0_; have BK234 := n1_; have HB := n2_; clear n0_ n1_ n2_)); have hnb16 := NB234_233.out; have hnc16 := NB233_234.out; obtain ⟨hcz17_0, hcz17_1, hcz17_2, hcz17_3, hcz17_4⟩ := bc5 BK234.out; obtain ⟨hfz17_0, hfz17_1, hfz17_2, hfz17_3, hfz17_4⟩ := bf5 BK234.out))
        go_roundg k1
        case measure => have := HK1.out; omega
        case rel => exact ⟨(decide (t236 ≥ 4)), (wrap64 (x14_1 + 1)), (true), (gr_), (gr_), H', ⟨by have := HK1.out; omega⟩, ⟨by (with_reducible repeat first | apply bd | apply be | apply ba); refine blk_far ?_ NB233_234.out _; (with_reducible repeat first | apply bd | apply be | apply ba); exact BK233.out⟩, ⟨by (with_reducible repeat first | apply bd | apply be | apply ba); refine blk_put (cs := q5_ true false false false false) ?_ 0 _ rfl; (with_reducible repeat first | apply bd | apply be | apply ba); exact BK234.out⟩, ⟨bl2 HB.out GE233.out GE234.out⟩⟩
       ·replace c15 := Bool.eq_false_iff.mpr c15
        subst c15
        have H1 : (aN.l0 k1 a0 (decide (t236 ≥ 4)) l1 (l1.length : Int) (wrap64 (x14_1 + 1)) (t236 == 5) false false false false) = some (r1, r2, r3, r4, r5, r6, r7) := by rw [if_neg (show ¬ (false = true) by decide)] at H; exact H
        clear H
        have H := H1
        clear H1
        have H' := Aside0.mk H
        clear H
        have p235 : 0 ≤ (x14_1 : Int) := of_decide_eq_true (by first | (with_reducible assumption) | assumption)
        have q235 : x14_1 < (l1.length : Int) := of_decide_eq_true (by first | (with_reducible assumption) | assumption)
        obtain ⟨ad235, e235, hx235_0⟩ := Kd.at_int HR1.out x14_1 p235 q235
        cases e235
        replace hx235_0 := (HB.out.cell (World.block_lt_of_cell? w _ hx235_0)).trans hx235_0
        replace p235 := eq_true p235
        replace q235 := eq_true q235
        go_wp2_with (first | ((with_reducible refine gate_callee (f := 86) rfl ?_); refine goesL_ (some 20) rfl rfl Try.func86 (by kernel_rfl) rfl #[.int .i64 a0, .int .u32 (rd l1 x14_1)] rfl gl ?_; (with_reducible refine (aI.calls k1 a0 (rd l1 x14_1) t236 _ A8.out).mono ?_); rintro e w' ⟨rfl, ⟨nd, rfl⟩⟩; refine ⟨_, rfl, ?_⟩; (try (rw [drewN_self wr]; generalize hq_ : World.drewN wr _ = wr; have n0_ : Aside0 (wr.heap[gb233]? = some (o5_ false false false false false 82)) := ⟨by rw [← hq_]; exact (bv BK233.out)⟩; have n1_ : Aside0 (wr.heap[gb234]? = some (o5_ false false false false false 82)) := ⟨by rw [← hq_]; exact (bv BK234.out)⟩; have n2_ : Aside0 (Below w.heap.size w wr) := ⟨by rw [← hq_]; exact (bl2 HB.out GE233.out GE234.out)⟩; clear BK233 BK234 HB hq_; have BK233 := n0_; have BK234 := n1_; have HB := n2_; clear n0_ n1_ n2_)); have hnb18 := NB234_233.out; have hnc18 := NB233_234.out; obtain ⟨hcz19_0, hcz19_1, hcz19_2, hcz19_3, hcz19_4⟩ := bc5 BK234.out; obtain ⟨hfz19_0, hfz19_1, hfz19_2, hfz19_3, hfz19_4⟩ := bf5 BK234.out))
        go_roundg k1
        case measure => have := HK1.out; omega
        case rel => exact ⟨(decide (t236 ≥ 4)), (wrap64 (x14_1 + 1)), ((t236 == 5)), (gr_), (gr_), H', ⟨by have := HK1.out; omega⟩, ⟨by (with_reducible repeat first | apply bd | apply be | apply ba); refine blk_far ?_ NB233_234.out _; (with_reducible repeat first | apply bd | apply be | apply ba); exact BK233.out⟩, ⟨by (with_reducible repeat first | apply bd | apply be | apply ba); refine blk_put (cs := F5) ?_ 0 _ rfl; (with_reducible repeat first | apply bd | apply be | apply ba); exact BK234.out⟩, ⟨bl2 HB.out GE233.out GE234.out⟩⟩
     ·rw [if_neg c7] at H
      exact absurd H (by simp)
    ·rw [if_neg c6] at H
     exact absurd H (by simp)
   ·rw [if_neg c5] at H
    have c5b0 : decide (x14_1 < (l1.length : Int)) = false := decide_eq_false c5
    clear c5
    replace H := bq_ H
    obtain ⟨t237, A200, H⟩ := H
    replace H : (some (t237, x235000_1, false, false, false, false, x7_1)) = some (r1, r2, r3, r4, r5, r6, r7) := H
    have A20 := Aside0.mk A200
    clear A200
    simp only [Option.some.injEq, Prod.mk.injEq] at H
    obtain ⟨rfl, rfl, rfl, rfl, rfl, rfl, rfl⟩ := H
    try go_wp2
    have n0_ := Aside0.mk (blk_drew BK233.out)
    have n1_ := Aside0.mk (blk_drew BK234.out)
    have n2_ := Aside0.mk (below_drew1 HB.out)
    clear BK233
    clear BK234
    clear HB
    have BK233 := n0_
    have BK234 := n1_
    have HB := n2_
    clear n0_ n1_ n2_
    refine start_ (n := 7) (S := fun w' => w'.cell? ⟨gb234, 0, none⟩ = some (.bool x235000_1) ∧ w'.cell? ⟨gb234, 1, none⟩ = some (.bool false) ∧ w'.cell? ⟨gb234, 2, none⟩ = some (.bool false) ∧ w'.cell? ⟨gb234, 3, none⟩ = some (.bool false) ∧ w'.cell? ⟨gb234, 4, none⟩ = some (.bool false)) (ds := []) (tf 0 7) (by kernel_rfl) rfl rfl ⟨(blk_cell BK234.out 0).trans rfl, (blk_cell BK234.out 1).trans rfl, (blk_cell BK234.out 2).trans rfl, (blk_cell BK234.out 3).trans rfl, (blk_cell BK234.out 4).trans rfl⟩ (fun hHeld => ?_)
    generalize wr.drew = w21 at BK233 BK234 HB hHeld ⊢
    refine pure_ (i := 0) (N := some 34) (v := ?_) (a' := ?_) (tf 1 6) rfl rfl (by kernel_rfl) (fun _ _ _ h => h) (Or.inl ⟨by rfl, ?_⟩) ?_ ?_
    rotate_left
    ·intro w'
     go_simp
     with_reducible rfl
    rotate_left
    ·simp only [Act.put, sb, sz, ss, i64_w, i32_w]
     rfl
    refine pure_ (i := 3) (N := some 37) (v := ?_) (a' := ?_) #[true, false, false, true, false, false, false] rfl rfl (by kernel_rfl) (fun _ _ _ h => h) (Or.inl ⟨by rfl, ?_⟩) ?_ ?_
    rotate_left
    ·intro w'
     go_simp
     with_reducible rfl
    rotate_left
    ·simp only [Act.put, sb, sz, ss, i64_w, i32_w]
     rfl
    refine take_ (i := 2) (N := some 36) (v := ?_) (a' := ?_) #[true, false, true, true, false, false, false] rfl rfl (by kernel_rfl) (fun _ _ _ h => h) (Or.inl ⟨by rfl, ?_⟩) hHeld ?_ ?_
    rotate_left
    ·rintro w' ⟨s0, s1, s2, s3, s4⟩
     go_simp
     with_reducible rfl
    rotate_left
    ·simp only [Act.put, sb, sz, ss, i64_w, i32_w]
     rfl
    refine one_ (i := 1) (N := some 35) (tf 4 3) rfl rfl (by kernel_rfl) (by decide) (fun K hK => ?_)
    refine goes_ Try.func114 (by kernel_rfl) rfl #[.int .i64 a0] (by rfl) rfl rfl gl ?_
    with_reducible refine (eB.calls a0 t237 _ A20.out).mono ?_
    rintro e w' ⟨rfl, ⟨nd, rfl⟩⟩
    refine ⟨_, rfl, ?_⟩
    refine hK.out _ _ ⟨(blk_cell BK234.out 0).trans rfl, (blk_cell BK234.out 1).trans rfl, (blk_cell BK234.out 2).trans rfl, (blk_cell BK234.out 3).trans rfl, (blk_cell BK234.out 4).trans rfl⟩ (fun hHeld => ?_)
    clear hK K
    refine norm_ (a' := ?_) ?_ ?_
    rotate_left
    ·show Act.put _ (some 35) _ = _
     simp only [Act.put, sb, sz, ss, i64_w, i32_w]
     rfl
    refine pure_ (i := 4) (N := some 4) (v := ?_) (a' := ?_) (tf 5 2) rfl rfl (by kernel_rfl) (fun _ _ _ h => h) (Or.inl ⟨by rfl, ?_⟩) ?_ ?_
    rotate_left
    ·intro w'
     go_simp
     with_reducible rfl
    rotate_left
    ·simp only [Act.put, sb, sz, ss, i64_w, i32_w]
     rfl
    refine one_ (i := 5) (N := none) (tf 6 1) rfl rfl (by kernel_rfl) (by decide) (fun K hK => ?_)
    have hs22 : w21.cell? ⟨gb233, 0, none⟩ = some (.bool false) := (blk_cell BK233.out 0).trans rfl
    have hfs22 := blk_frozen BK233.out 0
    have hns22_1 := NB234_233.out
    have hms22_1 := NB233_234.out
    have hs23 : w21.cell? ⟨gb233, 1, none⟩ = some (.bool false) := (blk_cell BK233.out 1).trans rfl
    have hfs23 := blk_frozen BK233.out 1
    have hns23_1 := NB234_233.out
    have hms23_1 := NB233_234.out
    have hs24 : w21.cell? ⟨gb233, 2, none⟩ = some (.bool false) := (blk_cell BK233.out 2).trans rfl
    have hfs24 := blk_frozen BK233.out 2
    have hns24_1 := NB234_233.out
    have hms24_1 := NB233_234.out
    have hs25 : w21.cell? ⟨gb233, 3, none⟩ = some (.bool false) := (blk_cell BK233.out 3).trans rfl
    have hfs25 := blk_frozen BK233.out 3
    have hns25_1 := NB234_233.out
    have hms25_1 := NB233_234.out
    have hs26 : w21.cell? ⟨gb233, 4, none⟩ = some (.bool false) := (blk_cell BK233.out 4).trans rfl
    have hfs26 := blk_frozen BK233.out 4
    have hns26_1 := NB234_233.out
    have hms26_1 := NB233_234.out
    refine skip_ (w1 := ?_) (by rfl) rfl ?_ ?_
    rotate_left
    ·go_simp
     rfl
    refine hK.out _ _ ⟨(cf5 NB234_233.out (hHeld.1)), (cf5 NB234_233.out (hHeld.2.1)), (cf5 NB234_233.out (hHeld.2.2.1)), (cf5 NB234_233.out (hHeld.2.2.2.1)), (cf5 NB234_233.out (hHeld.2.2.2.2))⟩ (fun hHeld => ?_)
    clear hK K
    refine pure_ (i := 6) (N := some 6) (v := ?_) (a' := ?_) (tf 7 0) rfl rfl (by kernel_rfl) (fun _ _ _ h => h) (Or.inl ⟨by rfl, ?_⟩) ?_ ?_
    rotate_left
    ·intro w'
     go_simp
     with_reducible rfl
    rotate_left
    ·simp only [Act.put, sb, sz, ss, i64_w, i32_w]
     rfl
    refine done_ (by kernel_rfl) ?_
    try go_wp2
    refine bodyPost_ret (results_list (rs := [.tmp 4, .cell 5 82, .tmp 6]) rfl (by simp) (.tmp (.cell gb233 82 #[.bool x235000_1, .bool false, .bool false, .bool false, .bool false] (0, 0) _ rfl (by (with_reducible repeat first | apply bd | apply be | apply ba); refine blk_put (cs := q5_ x235000_1 false false false false) ?_ 4 _ rfl; (with_reducible repeat first | apply bd | apply be | apply ba); refine blk_put (cs := q5_ x235000_1 false false false false) ?_ 3 _ rfl; (with_reducible repeat first | apply bd | apply be | apply ba); refine blk_put (cs := q5_ x235000_1 false false false false) ?_ 2 _ rfl; (with_reducible repeat first | apply bd | apply be | apply ba); refine blk_put (cs := q5_ x235000_1 false false false false) ?_ 1 _ rfl; (with_reducible repeat first | apply bd | apply be | apply ba); refine blk_put (cs := F5) ?_ 0 _ rfl; (with_reducible repeat first | apply bd | apply be | apply ba); exact BK233.out) Try.underlying82 rfl (by kernel_rfl) (.tmp .nil)))) rfl ?_
    exact ⟨by first | rfl | (simp [bQ, bP] <;> rfl) | (simp [*, bQ, bP] <;> rfl), bl2 HB.out GE233.out GE234.out⟩

-- NEED 0
/-! ### dD: function 87 -/
def dD.f (a0 : Int) : Option (Int × Bool × Bool × Bool × Bool × Bool) := (eB.f a0).bind fun t239 => (some (t239, true, false, false, false, false))
theorem dD.calls (a0 r1 : Int) (r2 r3 : Bool) (r4 r5 r6 : Bool) (w : World) (h : dD.f a0 = some (r1, r2, r3, r4, r5, r6)) :
  Calls Try.prog 87 #[.int .i64 a0] w fun e w' => e = .returned (.tuple #[.int .u32 r1, .agg #[.bool r2, .bool r3, .bool r4, .bool r5, .bool r6]]) ∧ Below w.heap.size w w' := by
 have hu82 := Try.underlying82
 have HB := Aside0.mk (Below.refl w.heap.size w)
 have H : ((eB.f a0).bind fun t239 => (some (t239, true, false, false, false, false))) = some (r1, r2, r3, r4, r5, r6) := h
 clear h
 replace H := bq_ H
 obtain ⟨t239, A20, H⟩ := H
 replace H : (some (t239, true, false, false, false, false)) = some (r1, r2, r3, r4, r5, r6) := H
 have A2 := Aside0.mk A20
 clear A20
 simp only [Option.some.injEq, Prod.mk.injEq] at H
 obtain ⟨rfl, rfl, rfl, rfl, rfl, rfl⟩ := H
 go_enter Try.func87, Try.ntmps87
 go_wp2_with (first | ((with_reducible refine gate_dst (N := 3) rfl ?_); refine box_event ?hg (N := 3) ?hd (cs := F5) (t := 82) ?hr ?_; (case hd => rfl); (case hg => rfl); (case hr => first | (go_simp; done) | (go_simp; rfl)); intro gb238 hg w3 hbox hb; have n0_ := Aside0.mk (below_step (bl0 HB.out) hb); have n1_ := Aside0.mk (hbox); have n2_ := Aside0.mk ((by rw [hg]; exact (below_size (bl0 HB.out)) : w.heap.size ≤ gb238)); have n3_ := n2_; clear HB; have HB := n0_; have BK238 := n1_; have GW238 := n2_; have GE238 := n3_; clear n0_ n1_ n2_ n3_; clear hb hbox hg) | ((with_reducible refine gate_callee (f := 114) rfl ?_); refine goesL_ (some 5) rfl rfl Try.func114 (by kernel_rfl) rfl #[.int .i64 a0] rfl gl ?_; (with_reducible refine (eB.calls a0 t239 _ A2.out).mono ?_); rintro e w' ⟨rfl, ⟨nd, rfl⟩⟩; refine ⟨_, rfl, ?_⟩; (try (rw [drewN_self w3]; generalize hq_ : World.drewN w3 _ = w3; have n0_ : Aside0 (w3.heap[gb238]? = some (o5_ false false false false false 82)) := ⟨by rw [← hq_]; exact (bv BK238.out)⟩; have n1_ : Aside0 (Below w.heap.size w w3) := ⟨by rw [← hq_]; exact (bl1 HB.out GE238.out)⟩; clear BK238 HB hq_; have BK238 := n0_; have HB := n1_; clear n0_ n1_)); obtain ⟨hcz4_0, hcz4_1, hcz4_2, hcz4_3, hcz4_4⟩ := bc5 BK238.out; obtain ⟨hfz4_0, hfz4_1, hfz4_2, hfz4_3, hfz4_4⟩ := bf5 BK238.out))
 refine bodyPost_ret (results_tc rfl _ _ gb238 82 #[.bool true, .bool false, .bool false, .bool false, .bool false] (0, 0) _ rfl (by (with_reducible repeat first | apply bd | apply be | apply ba); refine blk_put (cs := q5_ true false false false false) ?_ 4 _ rfl; (with_reducible repeat first | apply bd | apply be | apply ba); refine blk_put (cs := q5_ true false false false false) ?_ 3 _ rfl; (with_reducible repeat first | apply bd | apply be | apply ba); refine blk_put (cs := q5_ true false false false false) ?_ 2 _ rfl; (with_reducible repeat first | apply bd | apply be | apply ba); refine blk_put (cs := q5_ true false false false false) ?_ 1 _ rfl; (with_reducible repeat first | apply bd | apply be | apply ba); refine blk_put (cs := F5) ?_ 0 _ rfl; (with_reducible repeat first | apply bd | apply be | apply ba); exact BK238.out) Try.underlying82 rfl (by kernel_rfl)) rfl ?_
 exact ⟨by first | rfl | (simp [bQ, bP] <;> rfl) | (simp [*, bQ, bP] <;> rfl), bl1 HB.out GE238.out⟩

-- NEED 0
/-! ### dP: function 115 -/
def dP.f (a0 a1 : Int) : Option (Bool × Int × Int) := (aR.f a0).bind fun bt240 => ((bX.f a0 a1).bind fun bt242 => (if bt242.2.1 = 0 then ((bD.f a0).bind fun t245 => (some (bt242.1, wrap64 (t245 - bt240.2), IntKind.u64.wrap (bt242.2.2)))) else ((bK.f a0).bind fun t246 => (if bt242.2.1 = t246 then (some (bt242.1, 0, 0)) else ((bD.f a0).bind fun t247 => (if 0 ≤ (IntKind.u64.wrap (bt240.2)) then (some (bt242.1, wrap64 ((wrap64 ((wrap64 (t247 - bt240.2)) + bt242.2.1)) - 1), Go.bits .or .u64 (IntKind.u64.wrap (bt242.2.2)) (shl .u64 1 (IntKind.u64.wrap (bt240.2))))) else (none)))))))
theorem dP.calls (a0 a1 : Int) (r1 : Bool) (r2 r3 : Int) (w : World) (h : dP.f a0 a1 = some (r1, r2, r3)) :
  Calls Try.prog 115 #[.int .i64 a0, .int .u32 a1] w fun e w' => e = .returned (.tuple #[.bool r1, .int .i64 r2, .int .u64 r3]) ∧ Drawn0 w w' := by
 have H : ((aR.f a0).bind fun bt240 => ((bX.f a0 a1).bind fun bt242 => (if bt242.2.1 = 0 then ((bD.f a0).bind fun t245 => (some (bt242.1, wrap64 (t245 - bt240.2), IntKind.u64.wrap (bt242.2.2)))) else ((bK.f a0).bind fun t246 => (if bt242.2.1 = t246 then (some (bt242.1, 0, 0)) else ((bD.f a0).bind fun t247 => (if 0 ≤ (IntKind.u64.wrap (bt240.2)) then (some (bt242.1, wrap64 ((wrap64 ((wrap64 (t247 - bt240.2)) + bt242.2.1)) - 1), Go.bits .or .u64 (IntKind.u64.wrap (bt242.2.2)) (shl .u64 1 (IntKind.u64.wrap (bt240.2))))) else (none)))))))) = some (r1, r2, r3) := h
 clear h
 replace H := bq_ H
 obtain ⟨⟨t240, t241⟩, A30, H⟩ := H
 replace H : ((bX.f a0 a1).bind fun bt242 => (if bt242.2.1 = 0 then ((bD.f a0).bind fun t245 => (some (bt242.1, wrap64 (t245 - t241), IntKind.u64.wrap (bt242.2.2)))) else ((bK.f a0).bind fun t246 => (if bt242.2.1 = t246 then (some (bt242.1, 0, 0)) else ((bD.f a0).bind fun t247 => (if 0 ≤ (IntKind.u64.wrap (t241)) then (some (bt242.1, wrap64 ((wrap64 ((wrap64 (t247 - t241)) + bt242.2.1)) - 1), Go.bits .or .u64 (IntKind.u64.wrap (bt242.2.2)) (shl .u64 1 (IntKind.u64.wrap (t241))))) else (none))))))) = some (r1, r2, r3) := H
 have A3 := Aside0.mk A30
 clear A30
 replace H := bq_ H
 obtain ⟨⟨t242, t243, t244⟩, A40, H⟩ := H
 replace H : (if t243 = 0 then ((bD.f a0).bind fun t245 => (some (t242, wrap64 (t245 - t241), IntKind.u64.wrap (t244)))) else ((bK.f a0).bind fun t246 => (if t243 = t246 then (some (t242, 0, 0)) else ((bD.f a0).bind fun t247 => (if 0 ≤ (IntKind.u64.wrap (t241)) then (some (t242, wrap64 ((wrap64 ((wrap64 (t247 - t241)) + t243)) - 1), Go.bits .or .u64 (IntKind.u64.wrap (t244)) (shl .u64 1 (IntKind.u64.wrap (t241))))) else (none)))))) = some (r1, r2, r3) := H
 have A4 := Aside0.mk A40
 clear A40
 by_cases c5 : t243 = 0
 ·rw [if_pos c5] at H
  have c5b0 : (t243 == 0) = true := beq_iff_eq.mpr c5
  have c5b1 : (t243 != 0) = false := bne_eq_false_iff_eq.mpr c5
  clear c5
  replace H := bq_ H
  obtain ⟨t245, A60, H⟩ := H
  replace H : (some (t242, wrap64 (t245 - t241), IntKind.u64.wrap (t244))) = some (r1, r2, r3) := H
  have A6 := Aside0.mk A60
  clear A60
  simp only [Option.some.injEq, Prod.mk.injEq] at H
  obtain ⟨rfl, rfl, rfl⟩ := H
  go_enter Try.func115, Try.ntmps115
  go_wp2_with (first | ((with_reducible refine gate_callee (f := 83) rfl ?_); refine goesL_ (some 14) rfl rfl Try.func83 (by kernel_rfl) rfl #[.int .i64 a0] rfl gl ?_; (with_reducible refine (aR.calls a0 t240 t241 _ A3.out).mono ?_); rintro e w' ⟨rfl, ⟨nd, rfl⟩⟩; refine ⟨_, rfl, ?_⟩) | ((with_reducible refine gate_callee (f := 67) rfl ?_); refine goesL_ (some 20) rfl rfl Try.func67 (by kernel_rfl) rfl #[.int .i64 a0, .int .u32 a1] rfl gl ?_; (with_reducible refine (bX.calls a0 a1 t242 t243 t244 _ A4.out).mono ?_); rintro e w' ⟨rfl, ⟨nd, rfl⟩⟩; refine ⟨_, rfl, ?_⟩) | ((with_reducible refine gate_callee (f := 106) rfl ?_); refine goesL_ (some 29) rfl rfl Try.func106 (by kernel_rfl) rfl #[.int .i64 a0] rfl gl ?_; (with_reducible refine (bD.calls a0 t245 _ A6.out).mono ?_); rintro e w' ⟨rfl, ⟨nd, rfl⟩⟩; refine ⟨_, rfl, ?_⟩))
  go_ret3
  exact ⟨gr_, gd_⟩
 ·rw [if_neg c5] at H
  have c5b0 : (t243 == 0) = false := beq_eq_false_iff_ne.mpr c5
  have c5b1 : (t243 != 0) = true := bne_iff_ne.mpr c5
  replace H := bq_ H
  obtain ⟨t246, A70, H⟩ := H
  replace H : (if t243 = t246 then (some (t242, 0, 0)) else ((bD.f a0).bind fun t247 => (if 0 ≤ (IntKind.u64.wrap (t241)) then (some (t242, wrap64 ((wrap64 ((wrap64 (t247 - t241)) + t243)) - 1), Go.bits .or .u64 (IntKind.u64.wrap (t244)) (shl .u64 1 (IntKind.u64.wrap (t241))))) else (none)))) = some (r1, r2, r3) := H
  have A7 := Aside0.mk A70
  clear A70
  by_cases c8 : t243 = t246
  ·rw [if_pos c8] at H
   have c8b0 : (t243 == t246) = true := beq_iff_eq.mpr c8
   have c8b1 : (t243 != t246) = false := bne_eq_false_iff_eq.mpr c8
   clear c8
   simp only [Option.some.injEq, Prod.mk.injEq] at H
   obtain ⟨rfl, rfl, rfl⟩ := H
   go_enter Try.func115, Try.ntmps115
   go_wp2_with (first | ((with_reducible refine gate_callee (f := 83) rfl ?_); refine goesL_ (some 14) rfl rfl Try.func83 (by kernel_rfl) rfl #[.int .i64 a0] rfl gl ?_; (with_reducible refine (aR.calls a0 t240 t241 _ A3.out).mono ?_); rintro e w' ⟨rfl, ⟨nd, rfl⟩⟩; refine ⟨_, rfl, ?_⟩) | ((with_reducible refine gate_callee (f := 67) rfl ?_); refine goesL_ (some 20) rfl rfl Try.func67 (by kernel_rfl) rfl #[.int .i64 a0, .int .u32 a1] rfl gl ?_; (with_reducible refine (bX.calls a0 a1 t242 t243 t244 _ A4.out).mono ?_); rintro e w' ⟨rfl, ⟨nd, rfl⟩⟩; refine ⟨_, rfl, ?_⟩) | ((with_reducible refine gate_callee (f := 68) rfl ?_); refine goesL_ (some 36) rfl rfl Try.func68 (by kernel_rfl) rfl #[.int .i64 a0] rfl gl ?_; (with_reducible refine (bK.calls a0 t246 _ A7.out).mono ?_); rintro e w' ⟨rfl, ⟨nd, rfl⟩⟩; refine ⟨_, rfl, ?_⟩))
   go_ret3
   exact ⟨gr_, gd_⟩
  ·rw [if_neg c8] at H
   have c8b0 : (t243 == t246) = false := beq_eq_false_iff_ne.mpr c8
   have c8b1 : (t243 != t246) = true := bne_iff_ne.mpr c8
   replace H := bq_ H
   obtain ⟨t247, A90, H⟩ := H
   replace H : (if 0 ≤ (IntKind.u64.wrap (t241)) then (some (t242, wrap64 ((wrap64 ((wrap64 (t247 - t241)) + t243)) - 1), Go.bits .or .u64 (IntKind.u64.wrap (t244)) (shl .u64 1 (IntKind.u64.wrap (t241))))) else (none)) = some (r1, r2, r3) := H
   have A9 := Aside0.mk A90
   clear A90
   obtain ⟨ji10, hji10⟩ : ∃ j_ : Int, (IntKind.u64.wrap (t241)) = j_ := ⟨_, rfl⟩
   replace H : (if 0 ≤ (ji10) then (some (t242, wrap64 ((wrap64 ((wrap64 (t247 - t241)) + t243)) - 1), Go.bits .or .u64 (IntKind.u64.wrap (t244)) (shl .u64 1 (ji10)))) else (none)) = some (r1, r2, r3) := by first | (rw [hji10] at H; exact H) | (simp only [hji10] at H ⊢; exact H)
   (try rw [hji10] at A3)
   (try rw [hji10] at A4)
   (try rw [hji10] at A7)
   (try rw [hji10] at A9)
   by_cases c11 : 0 ≤ (ji10)
   ·rw [if_pos c11] at H
    have c11b0 := eq_true c11
    have c11b1 : decide (0 ≤ (ji10)) = true := decide_eq_true c11
    clear c11
    obtain ⟨ji12, hji12⟩ : ∃ j_ : Int, (shl .u64 1 (ji10)) = j_ := ⟨_, rfl⟩
    replace H : (some (t242, wrap64 ((wrap64 ((wrap64 (t247 - t241)) + t243)) - 1), Go.bits .or .u64 (IntKind.u64.wrap (t244)) (ji12))) = some (r1, r2, r3) := by first | (rw [hji12] at H; exact H) | (simp only [hji12] at H ⊢; exact H)
    (try rw [hji12] at A3)
    (try rw [hji12] at A4)
    (try rw [hji12] at A7)
    (try rw [hji12] at A9)
    have hji12_ : (IntKind.u64.wrap (1 * 2 ^ min (ji10).toNat 64)) = ji12 := hji12
    have hji12z : (ji10) ≤ 64 → (IntKind.u64.wrap (1 * 2 ^ (ji10).toNat)) = ji12 := shl_small hji12
    have hji12u : (IntKind.u64.wrap (2 ^ min (ji10).toNat 64)) = ji12 := by have h_ := hji12_; rw [Int.one_mul] at h_; exact h_
    have hji12v : (ji10) ≤ 64 → (IntKind.u64.wrap (2 ^ (ji10).toNat)) = ji12 := fun hle_ => by have h_ := hji12z hle_; rw [Int.one_mul] at h_; exact h_
    simp only [Option.some.injEq, Prod.mk.injEq] at H
    obtain ⟨rfl, rfl, rfl⟩ := H
    go_enter Try.func115, Try.ntmps115
    go_wp2_with (first | ((with_reducible refine gate_callee (f := 83) rfl ?_); refine goesL_ (some 14) rfl rfl Try.func83 (by kernel_rfl) rfl #[.int .i64 a0] rfl gl ?_; (with_reducible refine (aR.calls a0 t240 t241 _ A3.out).mono ?_); rintro e w' ⟨rfl, ⟨nd, rfl⟩⟩; refine ⟨_, rfl, ?_⟩) | ((with_reducible refine gate_callee (f := 67) rfl ?_); refine goesL_ (some 20) rfl rfl Try.func67 (by kernel_rfl) rfl #[.int .i64 a0, .int .u32 a1] rfl gl ?_; (with_reducible refine (bX.calls a0 a1 t242 t243 t244 _ A4.out).mono ?_); rintro e w' ⟨rfl, ⟨nd, rfl⟩⟩; refine ⟨_, rfl, ?_⟩) | ((with_reducible refine gate_callee (f := 68) rfl ?_); refine goesL_ (some 36) rfl rfl Try.func68 (by kernel_rfl) rfl #[.int .i64 a0] rfl gl ?_; (with_reducible refine (bK.calls a0 t246 _ A7.out).mono ?_); rintro e w' ⟨rfl, ⟨nd, rfl⟩⟩; refine ⟨_, rfl, ?_⟩) | ((with_reducible refine gate_callee (f := 106) rfl ?_); refine goesL_ (some 41) rfl rfl Try.func106 (by kernel_rfl) rfl #[.int .i64 a0] rfl gl ?_; (with_reducible refine (bD.calls a0 t247 _ A9.out).mono ?_); rintro e w' ⟨rfl, ⟨nd, rfl⟩⟩; refine ⟨_, rfl, ?_⟩))
    go_ret3
    exact ⟨by first | rfl | (simp; done) | (simp only [← hji10, ← hji12] <;> (first | rfl | (simp; done))) | (simp [*]; done) | (congr 1; (try unfold wrap64); omega) | (congr 1; rw [IntKind.wrap_u64]; omega), gd_⟩
   ·rw [if_neg c11] at H
    exact absurd H (by simp)


-- NEED 0
/-! ### dE: function 90 -/
def dE.f (a0 a1 : Int) : Option (Bool × Int × Int × Bool) := (dP.f a0 a1).bind fun bt249 => (some (bt249.1, bt249.2.1, bt249.2.2, false))
theorem dE.calls (a0 a1 : Int) (r1 : Bool) (r2 r3 : Int) (r4 : Bool) (w : World) (h : dE.f a0 a1 = some (r1, r2, r3, r4)) :
  Calls Try.prog 90 #[.int .i64 a0, .int .u32 a1] w fun e w' => e = .returned (.agg #[.bool r1, .int .i64 r2, .int .u64 r3, .bool r4]) ∧ Below w.heap.size w w' := by
 have hu101 := Try.underlying101
 have HB := Aside0.mk (Below.refl w.heap.size w)
 have H : ((dP.f a0 a1).bind fun bt249 => (some (bt249.1, bt249.2.1, bt249.2.2, false))) = some (r1, r2, r3, r4) := h
 clear h
 replace H := bq_ H
 obtain ⟨⟨t249, t250, t251⟩, A30, H⟩ := H
 replace H : (some (t249, t250, t251, false)) = some (r1, r2, r3, r4) := H
 have A3 := Aside0.mk A30
 clear A30
 simp only [Option.some.injEq, Prod.mk.injEq] at H
 obtain ⟨rfl, rfl, rfl, rfl⟩ := H
 go_enter Try.func90, Try.ntmps90
 go_wp2_with (first | ((with_reducible refine gate_dst (N := 4) rfl ?_); refine box_event ?hg (N := 4) ?hd (cs := #[.bool false, .int .i64 0, .int .u64 0, .bool false]) (t := 101) ?hr ?_; (case hd => rfl); (case hg => rfl); (case hr => first | (go_simp; done) | (go_simp; rfl)); intro gb248 hg w4 hbox hb; have n0_ := Aside0.mk (below_step (bl0 HB.out) hb); have n1_ := Aside0.mk (hbox); have n2_ := Aside0.mk ((by rw [hg]; exact (below_size (bl0 HB.out)) : w.heap.size ≤ gb248)); have n3_ := n2_; clear HB; have HB := n0_; have BK248 := n1_; have GW248 := n2_; have GE248 := n3_; clear n0_ n1_ n2_ n3_; clear hb hbox hg) | ((with_reducible refine gate_callee (f := 115) rfl ?_); refine goesL_ (some 11) rfl rfl Try.func115 (by kernel_rfl) rfl #[.int .i64 a0, .int .u32 a1] rfl gl ?_; (with_reducible refine (dP.calls a0 a1 t249 t250 t251 _ A3.out).mono ?_); rintro e w' ⟨rfl, ⟨nd, rfl⟩⟩; refine ⟨_, rfl, ?_⟩; (try (rw [drewN_self w4]; generalize hq_ : World.drewN w4 _ = w4; have n0_ : Aside0 (w4.heap[gb248]? = some (.cells #[.bool false, .int .i64 0, .int .u64 0, .bool false] 101 (0, 0))) := ⟨by rw [← hq_]; exact (bv BK248.out)⟩; have n1_ : Aside0 (Below w.heap.size w w4) := ⟨by rw [← hq_]; exact (bl1 HB.out GE248.out)⟩; clear BK248 HB hq_; have BK248 := n0_; have HB := n1_; clear n0_ n1_)); obtain ⟨hcz5_0, hcz5_1, hcz5_2, hcz5_3⟩ := bc4 BK248.out; obtain ⟨hfz5_0, hfz5_1, hfz5_2, hfz5_3⟩ := bf4 BK248.out))
 refine bodyPost_ret (results_cell_row rfl _ _ gb248 101 #[.bool t249, .int .i64 t250, .int .u64 t251, .bool false] (0, 0) _ rfl (by (with_reducible repeat first | apply bd | apply be | apply ba); refine blk_put (cs := #[.bool t249, .int .i64 t250, .int .u64 t251, .bool false]) ?_ 3 _ rfl; (with_reducible repeat first | apply bd | apply be | apply ba); refine blk_put (cs := #[.bool t249, .int .i64 t250, .int .u64 0, .bool false]) ?_ 2 _ rfl; (with_reducible repeat first | apply bd | apply be | apply ba); refine blk_put (cs := #[.bool t249, .int .i64 0, .int .u64 0, .bool false]) ?_ 1 _ rfl; (with_reducible repeat first | apply bd | apply be | apply ba); refine blk_put (cs := #[.bool false, .int .i64 0, .int .u64 0, .bool false]) ?_ 0 _ rfl; (with_reducible repeat first | apply bd | apply be | apply ba); exact BK248.out) Try.underlying101 rfl (by kernel_rfl)) rfl ?_
 exact ⟨by first | rfl | (simp [bQ, bP] <;> rfl) | (simp [*, bQ, bP] <;> rfl), bl1 HB.out GE248.out⟩

-- NEED 0
/-! ### aD: function 94 -/
def aD.f (k : Nat) (a0 a1 : Int) : Option (Bool) := (aI.f k a0 a1).bind fun t252 => (some (t252 == 3))
theorem aD.mono : ∀ a0 a1 k, LeO (aD.f k a0 a1) (aD.f (k + 1) a0 a1) := by
 intro a0 a1 k
 unfold aD.f
 repeat' first
   |(with_reducible first|exact aI.mono _ _ _|exact LeO.refl _|exact LeO.none _|refine LeO.ite ?_ ?_|refine LeO.bind ?_ (fun _ => ?_))
   |exact aI.mono _ _ _
   |exact LeO.none _
   |refine LeO.ite ?_ ?_
   |refine LeO.bind ?_ (fun _ => ?_)
theorem aD.calls (k : Nat) (a0 a1 : Int) (r : Bool) (w : World) (h : aD.f k a0 a1 = some r) :
  Calls Try.prog 94 #[.int .i64 a0, .int .u32 a1] w fun e w' => e = .returned (.bool r) ∧ Drawn0 w w' := by
 have H : ((aI.f k a0 a1).bind fun t252 => (some (t252 == 3))) = some r := h
 clear h
 replace H := bq_ H
 obtain ⟨t252, A30, H⟩ := H
 replace H : (some (t252 == 3)) = some r := H
 have A3 := Aside0.mk A30
 clear A30
 obtain rfl := Option.some.inj H
 go_enter Try.func94, Try.ntmps94
 go_wp2_with (first | ((with_reducible refine gate_callee (f := 86) rfl ?_); refine goesL_ (some 7) rfl rfl Try.func86 (by kernel_rfl) rfl #[.int .i64 a0, .int .u32 a1] rfl gl ?_; (with_reducible refine (aI.calls k a0 a1 t252 _ A3.out).mono ?_); rintro e w' ⟨rfl, ⟨nd, rfl⟩⟩; refine ⟨_, rfl, ?_⟩))
 go_ret
 exact ⟨gr_, gd_⟩

-- NEED 0
/-! ### aQ: function 100 -/
def aQ.f (k : Nat) (a0 a1 : Int) : Option (Bool) := (aI.f k a0 a1).bind fun t253 => (some (t253 == 0))
theorem aQ.mono : ∀ a0 a1 k, LeO (aQ.f k a0 a1) (aQ.f (k + 1) a0 a1) := by
 intro a0 a1 k
 unfold aQ.f
 repeat' first
   |(with_reducible first|exact aI.mono _ _ _|exact LeO.refl _|exact LeO.none _|refine LeO.ite ?_ ?_|refine LeO.bind ?_ (fun _ => ?_))
   |exact aI.mono _ _ _
   |exact LeO.none _
   |refine LeO.ite ?_ ?_
   |refine LeO.bind ?_ (fun _ => ?_)
theorem aQ.calls (k : Nat) (a0 a1 : Int) (r : Bool) (w : World) (h : aQ.f k a0 a1 = some r) :
  Calls Try.prog 100 #[.int .i64 a0, .int .u32 a1] w fun e w' => e = .returned (.bool r) ∧ Drawn0 w w' := by
 have H : ((aI.f k a0 a1).bind fun t253 => (some (t253 == 0))) = some r := h
 clear h
 replace H := bq_ H
 obtain ⟨t253, A30, H⟩ := H
 replace H : (some (t253 == 0)) = some r := H
 have A3 := Aside0.mk A30
 clear A30
 obtain rfl := Option.some.inj H
 go_enter Try.func100, Try.ntmps100
 go_wp2_with (first | ((with_reducible refine gate_callee (f := 86) rfl ?_); refine goesL_ (some 7) rfl rfl Try.func86 (by kernel_rfl) rfl #[.int .i64 a0, .int .u32 a1] rfl gl ?_; (with_reducible refine (aI.calls k a0 a1 t253 _ A3.out).mono ?_); rintro e w' ⟨rfl, ⟨nd, rfl⟩⟩; refine ⟨_, rfl, ?_⟩))
 go_ret
 exact ⟨gr_, gd_⟩

-- NEED 0
/-! ### bM: function 101 -/
def bM.l0 : Nat → Int → Int → Int → Option (Int × Bool)
 |0, _, _, _ => none
 |k + 1, x0, x4, x5 => if x5 > 0 then (if (IntKind.u64.wrap ((Go.bits .or .u64 x4 x5) * (Go.bits .or .u64 x4 x5))) ≤ x0 then (bM.l0 k x0 (Go.bits .or .u64 x4 x5) (x5 / 2)) else (bM.l0 k x0 x4 (x5 / 2))) else (some ((x4) % 4294967296, ((IntKind.u64.wrap (x4 * x4)) == x0)))
def bM.f (k : Nat) (a0 : Int) : Option (Int × Bool) := bM.l0 k a0 0 2147483648
theorem bM.fB : ∀ k, (∀ y0 y1 y2, LeO (bM.l0 k y0 y1 y2) (bM.l0 (k + 1) y0 y1 y2))
 |0 => fun _ _ _ r h => by simp [bM.l0] at h
 |k + 1 => by
  have ih0 := bM.fB k
  ·intro y0 y1 y2
   unfold bM.l0
   repeat' first
   |(with_reducible first|exact ih0 _ _ _|exact LeO.refl _|exact LeO.none _|refine LeO.ite ?_ ?_|refine LeO.bind ?_ (fun _ => ?_))
   |exact ih0 _ _ _
   |exact LeO.none _
   |refine LeO.ite ?_ ?_
   |refine LeO.bind ?_ (fun _ => ?_)
theorem bM.mono : ∀ a0 k, LeO (bM.f k a0) (bM.f (k + 1) a0) := by
 intro a0 k
 have ih0 := bM.fB k
 unfold bM.f
 repeat' first
   |(with_reducible first|exact ih0 _ _ _|exact LeO.refl _|exact LeO.none _|refine LeO.ite ?_ ?_|refine LeO.bind ?_ (fun _ => ?_))
   |exact ih0 _ _ _
   |exact LeO.none _
   |refine LeO.ite ?_ ?_
   |refine LeO.bind ?_ (fun _ => ?_)
theorem bM.calls (k : Nat) (a0 r1 : Int) (r2 : Bool) (w : World) (h : bM.f k a0 = some (r1, r2)) :
  Calls Try.prog 101 #[.int .u64 a0] w fun e w' => e = .returned (.tuple #[.int .u32 r1, .bool r2]) ∧ Drawn0 w w' := by
 have H : (bM.l0 k a0 0 2147483648) = some (r1, r2) := h
 clear h
 have H' := Aside0.mk H
 clear H
 go_enter Try.func101, Try.ntmps101
 go_wp2
 go_loopg [4, 5] k (fun kq v4 v5 w' => ∃ (x4_1 : Int) (x5_1 : Int), v4 = .int .u64 x4_1 ∧ v5 = .int .u64 x5_1 ∧ Aside0 (bM.l0 kq a0 x4_1 x5_1 = some (r1, r2)) ∧ Aside0 (kq ≤ k) ∧ Drawn0 w w')
 case atStart => exact ⟨(0), (2147483648), (gr_), (gr_), H', ⟨Nat.le_refl _⟩, gd_⟩
 case round =>
  clear H'
  try clear c1
  obtain ⟨x4_1, x5_1, rfl, rfl, HA, HK1, ⟨m1, rfl⟩⟩ := hrel
  cases gk with
  |zero => exact absurd HA.out (by simp [bM.l0])
  |succ k1 =>
   have H := HA.out
   clear HA
   simp only [bM.l0] at H
   by_cases c2 : x5_1 > 0
   ·rw [if_pos c2] at H
    have c2b0 : decide (0 < x5_1) = true := decide_eq_true c2
    clear c2
    by_cases c3 : (IntKind.u64.wrap ((Go.bits .or .u64 x4_1 x5_1) * (Go.bits .or .u64 x4_1 x5_1))) ≤ a0
    ·rw [if_pos c3] at H
     have c3b0 : decide ((IntKind.u64.wrap ((Go.bits .or .u64 x4_1 x5_1) * (Go.bits .or .u64 x4_1 x5_1))) ≤ a0) = true := decide_eq_true c3
     clear c3
     have H' := Aside0.mk H
     clear H
     go_wp2
     go_roundg k1
     case measure => have := HK1.out; omega
     case rel => exact ⟨(Go.bits .or .u64 x4_1 x5_1), (x5_1 / 2), (gr_), (gr_), H', ⟨by have := HK1.out; omega⟩, gd_⟩
    ·rw [if_neg c3] at H
     have c3b0 : decide ((IntKind.u64.wrap ((Go.bits .or .u64 x4_1 x5_1) * (Go.bits .or .u64 x4_1 x5_1))) ≤ a0) = false := decide_eq_false c3
     clear c3
     have H' := Aside0.mk H
     clear H
     go_wp2
     go_roundg k1
     case measure => have := HK1.out; omega
     case rel => exact ⟨(x4_1), (x5_1 / 2), (gr_), (gr_), H', ⟨by have := HK1.out; omega⟩, gd_⟩
   ·rw [if_neg c2] at H
    have c2b0 : decide (0 < x5_1) = false := decide_eq_false c2
    clear c2
    simp only [Option.some.injEq, Prod.mk.injEq] at H
    obtain ⟨rfl, rfl⟩ := H
    go_wp2
    go_ret2
    exact ⟨gr_, gd_⟩


-- NEED 0
/-! ### bL: function 85 -/
def bL.f (a0 a1 : Int) : Option (Bool) := (bX.f a0 a1).bind fun bt309 => (some bt309.1)
theorem bL.calls (a0 a1 : Int) (r : Bool) (w : World) (h : bL.f a0 a1 = some r) :
  Calls Try.prog 85 #[.int .i64 a0, .int .u32 a1] w fun e w' => e = .returned (.bool r) ∧ Drawn0 w w' := by
 have H : ((bX.f a0 a1).bind fun bt309 => (some bt309.1)) = some r := h
 clear h
 replace H := bq_ H
 obtain ⟨⟨t309, t310, t311⟩, A30, H⟩ := H
 replace H : (some t309) = some r := H
 have A3 := Aside0.mk A30
 clear A30
 obtain rfl := Option.some.inj H
 go_enter Try.func85, Try.ntmps85
 go_wp2_with (first | ((with_reducible refine gate_callee (f := 67) rfl ?_); refine goesL_ (some 11) rfl rfl Try.func67 (by kernel_rfl) rfl #[.int .i64 a0, .int .u32 a1] rfl gl ?_; (with_reducible refine (bX.calls a0 a1 t309 t310 t311 _ A3.out).mono ?_); rintro e w' ⟨rfl, ⟨nd, rfl⟩⟩; refine ⟨_, rfl, ?_⟩))
 go_ret
 exact ⟨gr_, gd_⟩

-- NEED 0
/-! ### bR: function 93 -/
def bR.f (k : Nat) (a0 a1 a2 : Int) : Option (Bool) := (aQ.f k a0 a1).bind fun t312 => (if t312 = true then ((aD.f k a0 a2).bind fun t313 => (if t313 = true then (some true) else ((aD.f k a0 a1).bind fun t314 => (if t314 = true then ((aQ.f k a0 a2).bind fun t315 => (some t315)) else (some false))))) else ((aD.f k a0 a1).bind fun t316 => (if t316 = true then ((aQ.f k a0 a2).bind fun t317 => (some t317)) else (some false))))
theorem bR.mono : ∀ a0 a1 a2 k, LeO (bR.f k a0 a1 a2) (bR.f (k + 1) a0 a1 a2) := by
 intro a0 a1 a2 k
 unfold bR.f
 repeat' first
   |(with_reducible first|exact aD.mono _ _ _|exact aQ.mono _ _ _|exact LeO.refl _|exact LeO.none _|refine LeO.ite ?_ ?_|refine LeO.bind ?_ (fun _ => ?_))
   |exact aD.mono _ _ _
   |exact aQ.mono _ _ _
   |exact LeO.none _
   |refine LeO.ite ?_ ?_
   |refine LeO.bind ?_ (fun _ => ?_)
theorem bR.calls (k : Nat) (a0 a1 a2 : Int) (r : Bool) (w : World) (h : bR.f k a0 a1 a2 = some r) :
  Calls Try.prog 93 #[.int .i64 a0, .int .u32 a1, .int .u32 a2] w fun e w' => e = .returned (.bool r) ∧ Drawn0 w w' := by
 have H : ((aQ.f k a0 a1).bind fun t312 => (if t312 = true then ((aD.f k a0 a2).bind fun t313 => (if t313 = true then (some true) else ((aD.f k a0 a1).bind fun t314 => (if t314 = true then ((aQ.f k a0 a2).bind fun t315 => (some t315)) else (some false))))) else ((aD.f k a0 a1).bind fun t316 => (if t316 = true then ((aQ.f k a0 a2).bind fun t317 => (some t317)) else (some false))))) = some r := h
 clear h
 replace H := bq_ H
 obtain ⟨t312, A40, H⟩ := H
 replace H : (if t312 = true then ((aD.f k a0 a2).bind fun t313 => (if t313 = true then (some true) else ((aD.f k a0 a1).bind fun t314 => (if t314 = true then ((aQ.f k a0 a2).bind fun t315 => (some t315)) else (some false))))) else ((aD.f k a0 a1).bind fun t316 => (if t316 = true then ((aQ.f k a0 a2).bind fun t317 => (some t317)) else (some false)))) = some r := H
 have A4 := Aside0.mk A40
 clear A40
 by_cases c5 : t312 = true
 ·subst c5
  have H1 : ((aD.f k a0 a2).bind fun t313 => (if t313 = true then (some true) else ((aD.f k a0 a1).bind fun t314 => (if t314 = true then ((aQ.f k a0 a2).bind fun t315 => (some t315)) else (some false))))) = some r := by rw [if_pos rfl] at H; exact H
  clear H
  have H := H1
  clear H1
  replace H := bq_ H
  obtain ⟨t313, A60, H⟩ := H
  replace H : (if t313 = true then (some true) else ((aD.f k a0 a1).bind fun t314 => (if t314 = true then ((aQ.f k a0 a2).bind fun t315 => (some t315)) else (some false)))) = some r := H
  have A6 := Aside0.mk A60
  clear A60
  by_cases c7 : t313 = true
  ·subst c7
   have H1 : (some true) = some r := by rw [if_pos rfl] at H; exact H
   clear H
   have H := H1
   clear H1
   obtain rfl := Option.some.inj H
   go_enter Try.func93, Try.ntmps93
   go_wp2_with (first | ((with_reducible refine gate_callee (f := 100) rfl ?_); refine goesL_ (some 9) rfl rfl Try.func100 (by kernel_rfl) rfl #[.int .i64 a0, .int .u32 a1] rfl gl ?_; (with_reducible refine (aQ.calls k a0 a1 true _ A4.out).mono ?_); rintro e w' ⟨rfl, ⟨nd, rfl⟩⟩; refine ⟨_, rfl, ?_⟩) | (go_at_call 94; (with_reducible refine (aD.calls k a0 a2 true _ A6.out).mono ?_); rintro e w' ⟨rfl, ⟨nd, rfl⟩⟩))
   go_ret
   exact ⟨gr_, gd_⟩
  ·replace c7 := Bool.eq_false_iff.mpr c7
   subst c7
   have H1 : ((aD.f k a0 a1).bind fun t314 => (if t314 = true then ((aQ.f k a0 a2).bind fun t315 => (some t315)) else (some false))) = some r := by rw [if_neg (show ¬ (false = true) by decide)] at H; exact H
   clear H
   have H := H1
   clear H1
   replace H := bq_ H
   obtain ⟨t314, A80, H⟩ := H
   replace H : (if t314 = true then ((aQ.f k a0 a2).bind fun t315 => (some t315)) else (some false)) = some r := H
   have A8 := Aside0.mk A80
   clear A80
   by_cases c9 : t314 = true
   ·subst c9
    have H1 : ((aQ.f k a0 a2).bind fun t315 => (some t315)) = some r := by rw [if_pos rfl] at H; exact H
    clear H
    have H := H1
    clear H1
    replace H := bq_ H
    obtain ⟨t315, A100, H⟩ := H
    replace H : (some t315) = some r := H
    have A10 := Aside0.mk A100
    clear A100
    obtain rfl := Option.some.inj H
    go_enter Try.func93, Try.ntmps93
    go_wp2_with (first | ((with_reducible refine gate_callee (f := 100) rfl ?_); refine goesL_ (some 9) rfl rfl Try.func100 (by kernel_rfl) rfl #[.int .i64 a0, .int .u32 a1] rfl gl ?_; (with_reducible refine (aQ.calls k a0 a1 true _ A4.out).mono ?_); rintro e w' ⟨rfl, ⟨nd, rfl⟩⟩; refine ⟨_, rfl, ?_⟩) | (go_at_call 94; (with_reducible refine (aD.calls k a0 a2 false _ A6.out).mono ?_); rintro e w' ⟨rfl, ⟨nd, rfl⟩⟩) | (go_at_call 94; (with_reducible refine (aD.calls k a0 a1 true _ A8.out).mono ?_); rintro e w' ⟨rfl, ⟨nd, rfl⟩⟩) | (go_at_call 100; (with_reducible refine (aQ.calls k a0 a2 t315 _ A10.out).mono ?_); rintro e w' ⟨rfl, ⟨nd, rfl⟩⟩))
    go_ret
    exact ⟨gr_, gd_⟩
   ·replace c9 := Bool.eq_false_iff.mpr c9
    subst c9
    have H1 : (some false) = some r := by rw [if_neg (show ¬ (false = true) by decide)] at H; exact H
    clear H
    have H := H1
    clear H1
    obtain rfl := Option.some.inj H
    go_enter Try.func93, Try.ntmps93
    go_wp2_with (first | ((with_reducible refine gate_callee (f := 100) rfl ?_); refine goesL_ (some 9) rfl rfl Try.func100 (by kernel_rfl) rfl #[.int .i64 a0, .int .u32 a1] rfl gl ?_; (with_reducible refine (aQ.calls k a0 a1 true _ A4.out).mono ?_); rintro e w' ⟨rfl, ⟨nd, rfl⟩⟩; refine ⟨_, rfl, ?_⟩) | (go_at_call 94; (with_reducible refine (aD.calls k a0 a2 false _ A6.out).mono ?_); rintro e w' ⟨rfl, ⟨nd, rfl⟩⟩) | (go_at_call 94; (with_reducible refine (aD.calls k a0 a1 false _ A8.out).mono ?_); rintro e w' ⟨rfl, ⟨nd, rfl⟩⟩))
    go_ret
    exact ⟨gr_, gd_⟩
 ·replace c5 := Bool.eq_false_iff.mpr c5
  subst c5
  have H1 : ((aD.f k a0 a1).bind fun t316 => (if t316 = true then ((aQ.f k a0 a2).bind fun t317 => (some t317)) else (some false))) = some r := by rw [if_neg (show ¬ (false = true) by decide)] at H; exact H
  clear H
  have H := H1
  clear H1
  replace H := bq_ H
  obtain ⟨t316, A110, H⟩ := H
  replace H : (if t316 = true then ((aQ.f k a0 a2).bind fun t317 => (some t317)) else (some false)) = some r := H
  have A11 := Aside0.mk A110
  clear A110
  by_cases c12 : t316 = true
  ·subst c12
   have H1 : ((aQ.f k a0 a2).bind fun t317 => (some t317)) = some r := by rw [if_pos rfl] at H; exact H
   clear H
   have H := H1
   clear H1
   replace H := bq_ H
   obtain ⟨t317, A130, H⟩ := H
   replace H : (some t317) = some r := H
   have A13 := Aside0.mk A130
   clear A130
   obtain rfl := Option.some.inj H
   go_enter Try.func93, Try.ntmps93
   go_wp2_with (first | ((with_reducible refine gate_callee (f := 100) rfl ?_); refine goesL_ (some 9) rfl rfl Try.func100 (by kernel_rfl) rfl #[.int .i64 a0, .int .u32 a1] rfl gl ?_; (with_reducible refine (aQ.calls k a0 a1 false _ A4.out).mono ?_); rintro e w' ⟨rfl, ⟨nd, rfl⟩⟩; refine ⟨_, rfl, ?_⟩) | (go_at_call 94; (with_reducible refine (aD.calls k a0 a1 true _ A11.out).mono ?_); rintro e w' ⟨rfl, ⟨nd, rfl⟩⟩) | (go_at_call 100; (with_reducible refine (aQ.calls k a0 a2 t317 _ A13.out).mono ?_); rintro e w' ⟨rfl, ⟨nd, rfl⟩⟩))
   go_ret
   exact ⟨gr_, gd_⟩
  ·replace c12 := Bool.eq_false_iff.mpr c12
   subst c12
   have H1 : (some false) = some r := by rw [if_neg (show ¬ (false = true) by decide)] at H; exact H
   clear H
   have H := H1
   clear H1
   obtain rfl := Option.some.inj H
   go_enter Try.func93, Try.ntmps93
   go_wp2_with (first | ((with_reducible refine gate_callee (f := 100) rfl ?_); refine goesL_ (some 9) rfl rfl Try.func100 (by kernel_rfl) rfl #[.int .i64 a0, .int .u32 a1] rfl gl ?_; (with_reducible refine (aQ.calls k a0 a1 false _ A4.out).mono ?_); rintro e w' ⟨rfl, ⟨nd, rfl⟩⟩; refine ⟨_, rfl, ?_⟩) | (go_at_call 94; (with_reducible refine (aD.calls k a0 a1 false _ A11.out).mono ?_); rintro e w' ⟨rfl, ⟨nd, rfl⟩⟩))
   go_ret
   exact ⟨gr_, gd_⟩

-- NEED 0
/-! ### bY: function 95 -/
def bY.f (a0 a1 a2 : Int) : Option (Bool × Int × Int × Bool) := (dE.f a0 a1).bind fun bt319 => ((dE.f a0 a2).bind fun bt323 => (some ((bt319.1 != bt323.1), wrap64 (bt319.2.1 + bt323.2.1), IntKind.u64.wrap (bt319.2.2.1 * bt323.2.2.1), false)))
theorem bY.calls (a0 a1 a2 : Int) (r1 : Bool) (r2 r3 : Int) (r4 : Bool) (w : World) (h : bY.f a0 a1 a2 = some (r1, r2, r3, r4)) :
  Calls Try.prog 95 #[.int .i64 a0, .int .u32 a1, .int .u32 a2] w fun e w' => e = .returned (.agg #[.bool r1, .int .i64 r2, .int .u64 r3, .bool r4]) ∧ Below w.heap.size w w' := by
 have hu101 := Try.underlying101
 have HB := Aside0.mk (Below.refl w.heap.size w)
 have H : ((dE.f a0 a1).bind fun bt319 => ((dE.f a0 a2).bind fun bt323 => (some ((bt319.1 != bt323.1), wrap64 (bt319.2.1 + bt323.2.1), IntKind.u64.wrap (bt319.2.2.1 * bt323.2.2.1), false)))) = some (r1, r2, r3, r4) := h
 clear h
 replace H := bq_ H
 obtain ⟨⟨t319, t320, t321, t322⟩, A40, H⟩ := H
 replace H : ((dE.f a0 a2).bind fun bt323 => (some ((t319 != bt323.1), wrap64 (t320 + bt323.2.1), IntKind.u64.wrap (t321 * bt323.2.2.1), false))) = some (r1, r2, r3, r4) := H
 have A4 := Aside0.mk A40
 clear A40
 replace H := bq_ H
 obtain ⟨⟨t323, t324, t325, t326⟩, A50, H⟩ := H
 replace H : (some ((t319 != t323), wrap64 (t320 + t324), IntKind.u64.wrap (t321 * t325), false)) = some (r1, r2, r3, r4) := H
 have A5 := Aside0.mk A50
 clear A50
 simp only [Option.some.injEq, Prod.mk.injEq] at H
 obtain ⟨rfl, rfl, rfl, rfl⟩ := H
 go_enter Try.func95, Try.ntmps95
 go_wp2_with (first | ((with_reducible refine gate_dst (N := 6) rfl ?_); refine box_event ?hg (N := 6) ?hd (cs := #[.bool false, .int .i64 0, .int .u64 0, .bool false]) (t := 101) ?hr ?_; (case hd => rfl); (case hg => rfl); (case hr => first | (go_simp; done) | (go_simp; rfl)); intro gb318 hg w6 hbox hb; have n0_ := Aside0.mk (below_step (bl0 HB.out) hb); have n1_ := Aside0.mk (hbox); have n2_ := Aside0.mk ((by rw [hg]; exact (below_size (bl0 HB.out)) : w.heap.size ≤ gb318)); have n3_ := n2_; clear HB; have HB := n0_; have BK318 := n1_; have GW318 := n2_; have GE318 := n3_; clear n0_ n1_ n2_ n3_; clear hb hbox hg) | ((with_reducible refine gate_callee (f := 90) rfl ?_); refine goesL_ (some 11) rfl rfl Try.func90 (by kernel_rfl) rfl #[.int .i64 a0, .int .u32 a1] rfl gl ?_; (with_reducible refine (dE.calls a0 a1 t319 t320 t321 t322 _ A4.out).mono ?_); rintro e w7 ⟨rfl, hb⟩; refine ⟨_, rfl, ?_⟩; have n0_ := Aside0.mk (blk_below (g := gb318) (o := .cells #[.bool false, .int .i64 0, .int .u64 0, .bool false] 101 (0, 0)) (bv BK318.out) hb); have n1_ := Aside0.mk (below_step (bl1 HB.out GE318.out) hb); clear BK318; clear HB; have BK318 := n0_; have HB := n1_; clear n0_ n1_) | ((with_reducible refine gate_callee (f := 90) rfl ?_); refine goesL_ (some 14) rfl rfl Try.func90 (by kernel_rfl) rfl #[.int .i64 a0, .int .u32 a2] rfl gl ?_; (with_reducible refine (dE.calls a0 a2 t323 t324 t325 t326 _ A5.out).mono ?_); rintro e w8 ⟨rfl, hb⟩; refine ⟨_, rfl, ?_⟩; have n0_ := Aside0.mk (blk_below (g := gb318) (o := .cells #[.bool false, .int .i64 0, .int .u64 0, .bool false] 101 (0, 0)) (bv BK318.out) hb); have n1_ := Aside0.mk (below_step (bl1 HB.out GE318.out) hb); clear BK318; clear HB; have BK318 := n0_; have HB := n1_; clear n0_ n1_) | ((with_reducible refine gate_dst (N := 7) rfl ?_); refine box_event ?hg (N := 7) ?hd (cs := #[.bool false, .int .i64 0, .int .u64 0, .bool false]) (t := 101) ?hr ?_; (case hd => rfl); (case hg => rfl); (case hr => first | (go_simp; done) | (go_simp; rfl)); intro gb327 hg w9 hbox hb; have n0_ := Aside0.mk (blk_below (g := gb318) (o := .cells #[.bool false, .int .i64 0, .int .u64 0, .bool false] 101 (0, 0)) (bv BK318.out) hb); have n1_ := Aside0.mk (below_step (bl1 HB.out GE318.out) hb); have n2_ := Aside0.mk (hbox); have n3_ := Aside0.mk ((by rw [hg]; exact (below_size (bl1 HB.out GE318.out)) : w.heap.size ≤ gb327)); have n4_ := n3_; have n5_ := Aside0.mk ((by rw [hg]; exact Nat.ne_of_lt (blk_lt (g := gb318) (o := .cells #[.bool false, .int .i64 0, .int .u64 0, .bool false] 101 (0, 0)) (bv BK318.out)) : gb318 ≠ gb327)); have n6_ := Aside0.mk (Ne.symm n5_.out); clear BK318; clear HB; have BK318 := n0_; have HB := n1_; have BK327 := n2_; have GW327 := n3_; have GE327 := n4_; have NB318_327 := n5_; have NB327_318 := n6_; clear n0_ n1_ n2_ n3_ n4_ n5_ n6_; clear hb hbox hg) | ((with_reducible refine gate_dst (N := 8) rfl ?_); refine box_event ?hg (N := 8) ?hd (cs := #[.bool false, .int .i64 0, .int .u64 0, .bool false]) (t := 101) ?hr ?_; (case hd => rfl); (case hg => rfl); (case hr => first | (go_simp; done) | (go_simp; rfl)); intro gb328 hg w10 hbox hb; have n0_ := Aside0.mk (blk_below (g := gb318) (o := .cells #[.bool false, .int .i64 0, .int .u64 0, .bool false] 101 (0, 0)) (bv BK318.out) hb); have n1_ := Aside0.mk (blk_below (g := gb327) (o := .cells #[.bool false, .int .i64 0, .int .u64 0, .bool false] 101 (0, 0)) (bv BK327.out) hb); have n2_ := Aside0.mk (below_step (bl2 HB.out GE318.out GE327.out) hb); have n3_ := Aside0.mk (hbox); have n4_ := Aside0.mk ((by rw [hg]; exact (below_size (bl2 HB.out GE318.out GE327.out)) : w.heap.size ≤ gb328)); have n5_ := n4_; have n6_ := Aside0.mk ((by rw [hg]; exact Nat.ne_of_lt (blk_lt (g := gb318) (o := .cells #[.bool false, .int .i64 0, .int .u64 0, .bool false] 101 (0, 0)) (bv BK318.out)) : gb318 ≠ gb328)); have n7_ := Aside0.mk (Ne.symm n6_.out); have n8_ := Aside0.mk ((by rw [hg]; exact Nat.ne_of_lt (blk_lt (g := gb327) (o := .cells #[.bool false, .int .i64 0, .int .u64 0, .bool false] 101 (0, 0)) (bv BK327.out)) : gb327 ≠ gb328)); have n9_ := Aside0.mk (Ne.symm n8_.out); clear BK318; clear BK327; clear HB; have BK318 := n0_; have BK327 := n1_; have HB := n2_; have BK328 := n3_; have GW328 := n4_; have GE328 := n5_; have NB318_328 := n6_; have NB328_318 := n7_; have NB327_328 := n8_; have NB328_327 := n9_; clear n0_ n1_ n2_ n3_ n4_ n5_ n6_ n7_ n8_ n9_; clear hb hbox hg; have hnb11 := NB327_318.out; have hnc11 := NB318_327.out; have hnb12 := NB327_328.out; have hnc12 := NB328_327.out; obtain ⟨hcz13_0, hcz13_1, hcz13_2, hcz13_3⟩ := bc4 BK327.out; obtain ⟨hfz13_0, hfz13_1, hfz13_2, hfz13_3⟩ := bf4 BK327.out; have hnb14 := NB328_318.out; have hnc14 := NB318_328.out; obtain ⟨hcz15_0, hcz15_1, hcz15_2, hcz15_3⟩ := bc4 BK328.out; obtain ⟨hfz15_0, hfz15_1, hfz15_2, hfz15_3⟩ := bf4 BK328.out; obtain ⟨hcz16_0, hcz16_1, hcz16_2, hcz16_3⟩ := bc4 BK318.out; obtain ⟨hfz16_0, hfz16_1, hfz16_2, hfz16_3⟩ := bf4 BK318.out))
 refine bodyPost_ret (results_cell_row rfl _ _ gb318 101 #[.bool (t319 != t323), .int .i64 (wrap64 (t320 + t324)), .int .u64 (IntKind.u64.wrap (t321 * t325)), .bool false] (0, 0) _ rfl (by (with_reducible repeat first | apply bd | apply be | apply ba); refine blk_put (cs := #[.bool (t319 != t323), .int .i64 (wrap64 (t320 + t324)), .int .u64 (IntKind.u64.wrap (t321 * t325)), .bool false]) ?_ 3 _ rfl; (with_reducible repeat first | apply bd | apply be | apply ba); refine blk_put (cs := #[.bool (t319 != t323), .int .i64 (wrap64 (t320 + t324)), .int .u64 0, .bool false]) ?_ 2 _ rfl; (with_reducible repeat first | apply bd | apply be | apply ba); refine blk_put (cs := #[.bool (t319 != t323), .int .i64 0, .int .u64 0, .bool false]) ?_ 1 _ rfl; (with_reducible repeat first | apply bd | apply be | apply ba); refine blk_put (cs := #[.bool false, .int .i64 0, .int .u64 0, .bool false]) ?_ 0 _ rfl; (with_reducible repeat first | apply bd | apply be | apply ba); refine blk_far ?_ NB318_328.out _; (with_reducible repeat first | apply bd | apply be | apply ba); refine blk_far ?_ NB318_328.out _; (with_reducible repeat first | apply bd | apply be | apply ba); refine blk_far ?_ NB318_328.out _; (with_reducible repeat first | apply bd | apply be | apply ba); refine blk_far ?_ NB318_328.out _; (with_reducible repeat first | apply bd | apply be | apply ba); refine blk_far ?_ NB318_327.out _; (with_reducible repeat first | apply bd | apply be | apply ba); refine blk_far ?_ NB318_327.out _; (with_reducible repeat first | apply bd | apply be | apply ba); refine blk_far ?_ NB318_327.out _; (with_reducible repeat first | apply bd | apply be | apply ba); refine blk_far ?_ NB318_327.out _; (with_reducible repeat first | apply bd | apply be | apply ba); exact BK318.out) Try.underlying101 rfl (by kernel_rfl)) rfl ?_
 exact ⟨by first | rfl | (simp [bQ, bP] <;> rfl) | (simp [*, bQ, bP] <;> rfl), bl3 HB.out GE318.out GE327.out GE328.out⟩

-- NEED 0
/-! ### aK: function 97 -/
def aK.j0 : Nat → Int → Bool → Bool → Bool → Bool → Option (Int × Bool × Bool × Bool × Bool × Bool)
 |0, _, _, _, _, _ => none
 |k + 1, x0, x1, x2, x3, x12 => if x12 = true then ((dD.f x0).bind fun bt330 => (some (bt330.1, bt330.2.1, bt330.2.2.1, bt330.2.2.2.1, bt330.2.2.2.2.1, bt330.2.2.2.2.2))) else (if x3 = true then ((bF.f x0 x1).bind fun t336 => (some (t336, false, false, false, false, false))) else ((bF.f x0 x2).bind fun t337 => (some (t337, false, false, false, false, false))))
def aK.f (k : Nat) (a0 : Int) (a1 a2 : Bool) (a3 a4 : Bool) : Option (Int × Bool × Bool × Bool × Bool × Bool) := if a3 = true then (if a4 = true then (aK.j0 k a0 a1 a2 a3 (a1 != a2)) else (aK.j0 k a0 a1 a2 a3 false)) else (aK.j0 k a0 a1 a2 a3 false)
theorem aK.fB : ∀ k, (∀ y0 y1 y2 y3 y4, LeO (aK.j0 k y0 y1 y2 y3 y4) (aK.j0 (k + 1) y0 y1 y2 y3 y4))
 |0 => fun _ _ _ _ _ r h => by simp [aK.j0] at h
 |k + 1 => by
  have ih0 := aK.fB k
  ·intro y0 y1 y2 y3 y4
   unfold aK.j0
   repeat' first
   |(with_reducible first|exact ih0 _ _ _ _ _|exact LeO.refl _|exact LeO.none _|refine LeO.ite ?_ ?_|refine LeO.bind ?_ (fun _ => ?_))
   |exact ih0 _ _ _ _ _
   |exact LeO.none _
   |refine LeO.ite ?_ ?_
   |refine LeO.bind ?_ (fun _ => ?_)
theorem aK.mono : ∀ a0 a1 a2 a3 a4 k, LeO (aK.f k a0 a1 a2 a3 a4) (aK.f (k + 1) a0 a1 a2 a3 a4) := by
 intro a0 a1 a2 a3 a4 k
 have ih0 := aK.fB k
 unfold aK.f
 repeat' first
   |(with_reducible first|exact ih0 _ _ _ _ _|exact LeO.refl _|exact LeO.none _|refine LeO.ite ?_ ?_|refine LeO.bind ?_ (fun _ => ?_))
   |exact ih0 _ _ _ _ _
   |exact LeO.none _
   |refine LeO.ite ?_ ?_
   |refine LeO.bind ?_ (fun _ => ?_)
theorem aK.calls (k : Nat) (a0 : Int) (a1 a2 : Bool) (a3 a4 : Bool) (r1 : Int) (r2 r3 : Bool) (r4 r5 r6 : Bool) (w : World) (h : aK.f k a0 a1 a2 a3 a4 = some (r1, r2, r3, r4, r5, r6)) :
  Calls Try.prog 97 #[.int .i64 a0, .bool a1, .bool a2, .bool a3, .bool a4] w fun e w' => e = .returned (.tuple #[.int .u32 r1, .agg #[.bool r2, .bool r3, .bool r4, .bool r5, .bool r6]]) ∧ Below w.heap.size w w' := by
 have hu82 := Try.underlying82
 have HB := Aside0.mk (Below.refl w.heap.size w)
 have H : (if a3 = true then (if a4 = true then (aK.j0 k a0 a1 a2 a3 (a1 != a2)) else (aK.j0 k a0 a1 a2 a3 false)) else (aK.j0 k a0 a1 a2 a3 false)) = some (r1, r2, r3, r4, r5, r6) := h
 clear h
 have HC6 := Aside0.mk H
 clear H
 go_enter Try.func97, Try.ntmps97
 go_upto_region 1 with (first | ((with_reducible refine gate_dst (N := 11) rfl ?_); refine box_event ?hg (N := 11) ?hd (cs := F5) (t := 82) ?hr ?_; (case hd => rfl); (case hg => rfl); (case hr => first | (go_simp; done) | (go_simp; rfl)); intro gb329 hg w7 hbox hb; have n0_ := Aside0.mk (below_step (bl0 HB.out) hb); have n1_ := Aside0.mk (hbox); have n2_ := Aside0.mk ((by rw [hg]; exact (below_size (bl0 HB.out)) : w.heap.size ≤ gb329)); have n3_ := n2_; clear HB; have HB := n0_; have BK329 := n1_; have GW329 := n2_; have GE329 := n3_; clear n0_ n1_ n2_ n3_; clear hb hbox hg))
 (try simp only [Act.put, sb, sz, ss])
 go_cut [12] (fun v12 wc => ∃ (kq : Nat) (x12_5 : Bool), v12 = .bool x12_5 ∧ Aside0 (aK.j0 kq a0 a1 a2 a3 x12_5 = some (r1, r2, r3, r4, r5, r6)) ∧ Aside0 (kq ≤ k) ∧ Aside0 (wc.heap[gb329]? = some (o5_ false false false false false 82)) ∧ Aside0 (Below w.heap.size w wc))
 case first =>
  have H := HC6.out
  clear HC6
  by_cases c8 : a3 = true
  ·subst c8
   have H1 : (if a4 = true then (aK.j0 k a0 a1 a2 true (a1 != a2)) else (aK.j0 k a0 a1 a2 true false)) = some (r1, r2, r3, r4, r5, r6) := by rw [if_pos rfl] at H; exact H
   clear H
   have H := H1
   clear H1
   by_cases c9 : a4 = true
   ·subst c9
    have H1 : (aK.j0 k a0 a1 a2 true (a1 != a2)) = some (r1, r2, r3, r4, r5, r6) := by rw [if_pos rfl] at H; exact H
    clear H
    have H := H1
    clear H1
    have H' := Aside0.mk H
    clear H
    go_wp2
    go_meet
    case rel => exact ⟨_, ((a1 != a2)), (gr_), H', ⟨by first | omega | exact Nat.le_refl _⟩, ⟨by (with_reducible repeat first | apply bd | apply be | apply ba); exact BK329.out⟩, ⟨bl1 HB.out GE329.out⟩⟩
   ·replace c9 := Bool.eq_false_iff.mpr c9
    subst c9
    have H1 : (aK.j0 k a0 a1 a2 true false) = some (r1, r2, r3, r4, r5, r6) := by rw [if_neg (show ¬ (false = true) by decide)] at H; exact H
    clear H
    have H := H1
    clear H1
    have H' := Aside0.mk H
    clear H
    go_wp2
    go_meet
    case rel => exact ⟨_, (false), (gr_), H', ⟨by first | omega | exact Nat.le_refl _⟩, ⟨by (with_reducible repeat first | apply bd | apply be | apply ba); exact BK329.out⟩, ⟨bl1 HB.out GE329.out⟩⟩
  ·replace c8 := Bool.eq_false_iff.mpr c8
   subst c8
   have H1 : (aK.j0 k a0 a1 a2 false false) = some (r1, r2, r3, r4, r5, r6) := by rw [if_neg (show ¬ (false = true) by decide)] at H; exact H
   clear H
   have H := H1
   clear H1
   have H' := Aside0.mk H
   clear H
   go_wp2
   go_meet
   case rel => exact ⟨_, (false), (gr_), H', ⟨by first | omega | exact Nat.le_refl _⟩, ⟨by (with_reducible repeat first | apply bd | apply be | apply ba); exact BK329.out⟩, ⟨bl1 HB.out GE329.out⟩⟩
 case rest =>
  clear HC6
  try clear p2 p6 c8 c9
  obtain ⟨kq, x12_5, rfl, HA, HJ5, BK329, HB⟩ := hcut
  cases kq with
  |zero => exact absurd HA.out (by simp [aK.j0])
  |succ kj5 =>
   have H := HA.out
   clear HA
   simp only [aK.j0] at H
   by_cases c10 : x12_5 = true
   ·subst c10
    have H1 : ((dD.f a0).bind fun bt330 => (some (bt330.1, bt330.2.1, bt330.2.2.1, bt330.2.2.2.1, bt330.2.2.2.2.1, bt330.2.2.2.2.2))) = some (r1, r2, r3, r4, r5, r6) := by rw [if_pos rfl] at H; exact H
    clear H
    have H := H1
    clear H1
    replace H := bq_ H
    obtain ⟨⟨t330, t331, t332, t333, t334, t335⟩, A110, H⟩ := H
    replace H : (some (t330, t331, t332, t333, t334, t335)) = some (r1, r2, r3, r4, r5, r6) := H
    have A11 := Aside0.mk A110
    clear A110
    simp only [Option.some.injEq, Prod.mk.injEq] at H
    obtain ⟨rfl, rfl, rfl, rfl, rfl, rfl⟩ := H
    go_wp2_with (first | ((with_reducible refine gate_callee (f := 87) rfl ?_); refine goesL_ (some 23) rfl rfl Try.func87 (by kernel_rfl) rfl #[.int .i64 a0] rfl gl ?_; (with_reducible refine (dD.calls a0 t330 t331 t332 t333 t334 t335 _ A11.out).mono ?_); rintro e w12 ⟨rfl, hb⟩; refine ⟨_, rfl, ?_⟩; have n0_ := Aside0.mk (blk_below (g := gb329) (o := o5_ false false false false false 82) (bv BK329.out) hb); have n1_ := Aside0.mk (below_step (bl1 HB.out GE329.out) hb); clear BK329; clear HB; have BK329 := n0_; have HB := n1_; clear n0_ n1_; obtain ⟨hcz13_0, hcz13_1, hcz13_2, hcz13_3, hcz13_4⟩ := bc5 BK329.out; obtain ⟨hfz13_0, hfz13_1, hfz13_2, hfz13_3, hfz13_4⟩ := bf5 BK329.out))
    refine bodyPost_ret (results_tc rfl _ _ gb329 82 #[.bool t331, .bool t332, .bool t333, .bool t334, .bool t335] (0, 0) _ rfl (by (with_reducible repeat first | apply bd | apply be | apply ba); refine blk_put (cs := q5_ t331 t332 t333 t334 false) ?_ 4 _ rfl; (with_reducible repeat first | apply bd | apply be | apply ba); refine blk_put (cs := q5_ t331 t332 t333 false false) ?_ 3 _ rfl; (with_reducible repeat first | apply bd | apply be | apply ba); refine blk_put (cs := q5_ t331 t332 false false false) ?_ 2 _ rfl; (with_reducible repeat first | apply bd | apply be | apply ba); refine blk_put (cs := q5_ t331 false false false false) ?_ 1 _ rfl; (with_reducible repeat first | apply bd | apply be | apply ba); refine blk_put (cs := F5) ?_ 0 _ rfl; (with_reducible repeat first | apply bd | apply be | apply ba); exact BK329.out) Try.underlying82 rfl (by kernel_rfl)) rfl ?_
    exact ⟨by first | rfl | (simp [bQ, bP] <;> rfl) | (simp [*, bQ, bP] <;> rfl), bl1 HB.out GE329.out⟩
   ·replace c10 := Bool.eq_false_iff.mpr c10
    subst c10
    have H1 : (if a3 = true then ((bF.f a0 a1).bind fun t336 => (some (t336, false, false, false, false, false))) else ((bF.f a0 a2).bind fun t337 => (some (t337, false, false, false, false, false)))) = some (r1, r2, r3, r4, r5, r6) := by rw [if_neg (show ¬ (false = true) by decide)] at H; exact H
    clear H
    have H := H1
    clear H1
    by_cases c14 : a3 = true
    ·subst c14
     have H1 : ((bF.f a0 a1).bind fun t336 => (some (t336, false, false, false, false, false))) = some (r1, r2, r3, r4, r5, r6) := by rw [if_pos rfl] at H; exact H
     clear H
     have H := H1
     clear H1
     replace H := bq_ H
     obtain ⟨t336, A150, H⟩ := H
     replace H : (some (t336, false, false, false, false, false)) = some (r1, r2, r3, r4, r5, r6) := H
     have A15 := Aside0.mk A150
     clear A150
     simp only [Option.some.injEq, Prod.mk.injEq] at H
     obtain ⟨rfl, rfl, rfl, rfl, rfl, rfl⟩ := H
     go_wp2_with (first | ((with_reducible refine gate_callee (f := 88) rfl ?_); refine goesL_ (some 30) rfl rfl Try.func88 (by kernel_rfl) rfl #[.int .i64 a0, .bool a1] rfl gl ?_; (with_reducible refine (bF.calls a0 a1 t336 _ A15.out).mono ?_); rintro e w' ⟨rfl, ⟨nd, rfl⟩⟩; refine ⟨_, rfl, ?_⟩; (try (rw [drewN_self wc]; generalize hq_ : World.drewN wc _ = wc; have n0_ : Aside0 (wc.heap[gb329]? = some (o5_ false false false false false 82)) := ⟨by rw [← hq_]; exact (bv BK329.out)⟩; have n1_ : Aside0 (Below w.heap.size w wc) := ⟨by rw [← hq_]; exact (bl1 HB.out GE329.out)⟩; clear BK329 HB hq_; have BK329 := n0_; have HB := n1_; clear n0_ n1_)); obtain ⟨hcz16_0, hcz16_1, hcz16_2, hcz16_3, hcz16_4⟩ := bc5 BK329.out; obtain ⟨hfz16_0, hfz16_1, hfz16_2, hfz16_3, hfz16_4⟩ := bf5 BK329.out))
     refine bodyPost_ret (results_tc rfl _ _ gb329 82 #[.bool false, .bool false, .bool false, .bool false, .bool false] (0, 0) _ rfl (by (with_reducible repeat first | apply bd | apply be | apply ba); refine blk_put (cs := F5) ?_ 4 _ rfl; (with_reducible repeat first | apply bd | apply be | apply ba); refine blk_put (cs := F5) ?_ 3 _ rfl; (with_reducible repeat first | apply bd | apply be | apply ba); refine blk_put (cs := F5) ?_ 2 _ rfl; (with_reducible repeat first | apply bd | apply be | apply ba); refine blk_put (cs := F5) ?_ 1 _ rfl; (with_reducible repeat first | apply bd | apply be | apply ba); refine blk_put (cs := F5) ?_ 0 _ rfl; (with_reducible repeat first | apply bd | apply be | apply ba); exact BK329.out) Try.underlying82 rfl (by kernel_rfl)) rfl ?_
     exact ⟨by first | rfl | (simp [bQ, bP] <;> rfl) | (simp [*, bQ, bP] <;> rfl), bl1 HB.out GE329.out⟩
    ·replace c14 := Bool.eq_false_iff.mpr c14
     subst c14
     have H1 : ((bF.f a0 a2).bind fun t337 => (some (t337, false, false, false, false, false))) = some (r1, r2, r3, r4, r5, r6) := by rw [if_neg (show ¬ (false = true) by decide)] at H; exact H
     clear H
     have H := H1
     clear H1
     replace H := bq_ H
     obtain ⟨t337, A170, H⟩ := H
     replace H : (some (t337, false, false, false, false, false)) = some (r1, r2, r3, r4, r5, r6) := H
     have A17 := Aside0.mk A170
     clear A170
     simp only [Option.some.injEq, Prod.mk.injEq] at H
     obtain ⟨rfl, rfl, rfl, rfl, rfl, rfl⟩ := H
     go_wp2_with (first | ((with_reducible refine gate_callee (f := 88) rfl ?_); refine goesL_ (some 34) rfl rfl Try.func88 (by kernel_rfl) rfl #[.int .i64 a0, .bool a2] rfl gl ?_; (with_reducible refine (bF.calls a0 a2 t337 _ A17.out).mono ?_); rintro e w' ⟨rfl, ⟨nd, rfl⟩⟩; refine ⟨_, rfl, ?_⟩; (try (rw [drewN_self wc]; generalize hq_ : World.drewN wc _ = wc; have n0_ : Aside0 (wc.heap[gb329]? = some (o5_ false false false false false 82)) := ⟨by rw [← hq_]; exact (bv BK329.out)⟩; have n1_ : Aside0 (Below w.heap.size w wc) := ⟨by rw [← hq_]; exact (bl1 HB.out GE329.out)⟩; clear BK329 HB hq_; have BK329 := n0_; have HB := n1_; clear n0_ n1_)); obtain ⟨hcz18_0, hcz18_1, hcz18_2, hcz18_3, hcz18_4⟩ := bc5 BK329.out; obtain ⟨hfz18_0, hfz18_1, hfz18_2, hfz18_3, hfz18_4⟩ := bf5 BK329.out))
     refine bodyPost_ret (results_tc rfl _ _ gb329 82 #[.bool false, .bool false, .bool false, .bool false, .bool false] (0, 0) _ rfl (by (with_reducible repeat first | apply bd | apply be | apply ba); refine blk_put (cs := F5) ?_ 4 _ rfl; (with_reducible repeat first | apply bd | apply be | apply ba); refine blk_put (cs := F5) ?_ 3 _ rfl; (with_reducible repeat first | apply bd | apply be | apply ba); refine blk_put (cs := F5) ?_ 2 _ rfl; (with_reducible repeat first | apply bd | apply be | apply ba); refine blk_put (cs := F5) ?_ 1 _ rfl; (with_reducible repeat first | apply bd | apply be | apply ba); refine blk_put (cs := F5) ?_ 0 _ rfl; (with_reducible repeat first | apply bd | apply be | apply ba); exact BK329.out) Try.underlying82 rfl (by kernel_rfl)) rfl ?_
     exact ⟨by first | rfl | (simp [bQ, bP] <;> rfl) | (simp [*, bQ, bP] <;> rfl), bl1 HB.out GE329.out⟩

-- NEED 0
/-! ### cO: function 117 -/
def cO.f (k : Nat) (a0_0 : Bool) (a0_1 a0_2 : Int) (a0_3 : Bool) : Option (Bool × Int × Int × Bool) := (bits_Len.f k a0_2).bind fun t340 => ((aH.f k a0_2 (wrap64 (-(wrap64 (62 - t340))))).bind fun bt341 => (some (a0_0, wrap64 (a0_1 - (wrap64 (62 - t340))), bt341.1, a0_3)))
theorem cO.mono : ∀ a0 a1 a2 a3 k, LeO (cO.f k a0 a1 a2 a3) (cO.f (k + 1) a0 a1 a2 a3) := by
 intro a0 a1 a2 a3 k
 unfold cO.f
 repeat' first
   |(with_reducible first|exact bits_Len.mono _ _|exact aH.mono _ _ _|exact LeO.refl _|exact LeO.none _|refine LeO.ite ?_ ?_|refine LeO.bind ?_ (fun _ => ?_))
   |exact bits_Len.mono _ _
   |exact aH.mono _ _ _
   |exact LeO.none _
   |refine LeO.ite ?_ ?_
   |refine LeO.bind ?_ (fun _ => ?_)
theorem cO.calls (k : Nat) (a0_0 : Bool) (a0_1 a0_2 : Int) (a0_3 r1 : Bool) (r2 r3 : Int) (r4 : Bool) (w : World) (h : cO.f k a0_0 a0_1 a0_2 a0_3 = some (r1, r2, r3, r4)) :
  Calls Try.prog 117 #[.agg #[.bool a0_0, .int .i64 a0_1, .int .u64 a0_2, .bool a0_3]] w fun e w' => e = .returned (.agg #[.bool r1, .int .i64 r2, .int .u64 r3, .bool r4]) ∧ Below w.heap.size w w' := by
 have hu101 := Try.underlying101
 have HB := Aside0.mk (Below.refl w.heap.size w)
 have H : ((bits_Len.f k a0_2).bind fun t340 => ((aH.f k a0_2 (wrap64 (-(wrap64 (62 - t340))))).bind fun bt341 => (some (a0_0, wrap64 (a0_1 - (wrap64 (62 - t340))), bt341.1, a0_3)))) = some (r1, r2, r3, r4) := h
 clear h
 replace H := bq_ H
 obtain ⟨t340, A20, H⟩ := H
 replace H : ((aH.f k a0_2 (wrap64 (-(wrap64 (62 - t340))))).bind fun bt341 => (some (a0_0, wrap64 (a0_1 - (wrap64 (62 - t340))), bt341.1, a0_3))) = some (r1, r2, r3, r4) := H
 have A2 := Aside0.mk A20
 clear A20
 replace H := bq_ H
 obtain ⟨⟨t341, t342⟩, A30, H⟩ := H
 replace H : (some (a0_0, wrap64 (a0_1 - (wrap64 (62 - t340))), t341, a0_3)) = some (r1, r2, r3, r4) := H
 have A3 := Aside0.mk A30
 clear A30
 simp only [Option.some.injEq, Prod.mk.injEq] at H
 obtain ⟨rfl, rfl, rfl, rfl⟩ := H
 go_enter Try.func117, Try.ntmps117
 go_wp2_with (first | ((with_reducible refine gate_dst (N := 1) rfl ?_); refine box_event ?hg (N := 1) ?hd (cs := #[.bool a0_0, .int .i64 a0_1, .int .u64 a0_2, .bool a0_3]) (t := 101) ?hr ?_; (case hd => rfl); (case hg => rfl); (case hr => first | (go_simp; done) | (go_simp; rfl)); intro gb338 hg w4 hbox hb; have n0_ := Aside0.mk (below_step (bl0 HB.out) hb); have n1_ := Aside0.mk (hbox); have n2_ := Aside0.mk ((by rw [hg]; exact (below_size (bl0 HB.out)) : w.heap.size ≤ gb338)); have n3_ := n2_; clear HB; have HB := n0_; have BK338 := n1_; have GW338 := n2_; have GE338 := n3_; clear n0_ n1_ n2_ n3_; clear hb hbox hg) | ((with_reducible refine gate_dst (N := 2) rfl ?_); refine box_event ?hg (N := 2) ?hd (cs := #[.bool false, .int .i64 0, .int .u64 0, .bool false]) (t := 101) ?hr ?_; (case hd => rfl); (case hg => rfl); (case hr => first | (go_simp; done) | (go_simp; rfl)); intro gb339 hg w5 hbox hb; have n0_ := Aside0.mk (blk_below (g := gb338) (o := .cells #[.bool a0_0, .int .i64 a0_1, .int .u64 a0_2, .bool a0_3] 101 (0, 0)) (bv BK338.out) hb); have n1_ := Aside0.mk (below_step (bl1 HB.out GE338.out) hb); have n2_ := Aside0.mk (hbox); have n3_ := Aside0.mk ((by rw [hg]; exact (below_size (bl1 HB.out GE338.out)) : w.heap.size ≤ gb339)); have n4_ := n3_; have n5_ := Aside0.mk ((by rw [hg]; exact Nat.ne_of_lt (blk_lt (g := gb338) (o := .cells #[.bool a0_0, .int .i64 a0_1, .int .u64 a0_2, .bool a0_3] 101 (0, 0)) (bv BK338.out)) : gb338 ≠ gb339)); have n6_ := Aside0.mk (Ne.symm n5_.out); clear BK338; clear HB; have BK338 := n0_; have HB := n1_; have BK339 := n2_; have GW339 := n3_; have GE339 := n4_; have NB338_339 := n5_; have NB339_338 := n6_; clear n0_ n1_ n2_ n3_ n4_ n5_ n6_; clear hb hbox hg; have hnb6 := NB338_339.out; have hnc6 := NB339_338.out; obtain ⟨hcz7_0, hcz7_1, hcz7_2, hcz7_3⟩ := bc4 BK338.out; obtain ⟨hfz7_0, hfz7_1, hfz7_2, hfz7_3⟩ := bf4 BK338.out) | ((with_reducible refine gate_callee (f := 91) rfl ?_); refine goesL_ (some 6) rfl rfl Try.func91 (by kernel_rfl) rfl #[.int .u64 a0_2] rfl gl ?_; (with_reducible refine (bits_Len.calls k a0_2 t340 _ A2.out).mono ?_); rintro e w' ⟨rfl, ⟨nd, rfl⟩⟩; refine ⟨_, rfl, ?_⟩; (try (rw [drewN_self w5]; generalize hq_ : World.drewN w5 _ = w5; have n0_ : Aside0 (w5.heap[gb338]? = some (.cells #[.bool a0_0, .int .i64 a0_1, .int .u64 a0_2, .bool a0_3] 101 (0, 0))) := ⟨by rw [← hq_]; exact (bv BK338.out)⟩; have n1_ : Aside0 (w5.heap[gb339]? = some (.cells #[.bool false, .int .i64 0, .int .u64 0, .bool false] 101 (0, 0))) := ⟨by rw [← hq_]; exact (bv BK339.out)⟩; have n2_ : Aside0 (Below w.heap.size w w5) := ⟨by rw [← hq_]; exact (bl2 HB.out GE338.out GE339.out)⟩; clear BK338 BK339 HB hq_; have BK338 := n0_; have BK339 := n1_; have HB := n2_; clear n0_ n1_ n2_)); obtain ⟨hcz8_0, hcz8_1, hcz8_2, hcz8_3⟩ := bc4 BK338.out; obtain ⟨hfz8_0, hfz8_1, hfz8_2, hfz8_3⟩ := bf4 BK338.out) | ((with_reducible refine gate_callee (f := 92) rfl ?_); refine goesL_ (some 13) rfl rfl Try.func92 (by kernel_rfl) rfl #[.int .u64 a0_2, .int .i64 (wrap64 (-(wrap64 (62 - t340))))] rfl gl ?_; (with_reducible refine (aH.calls k a0_2 (wrap64 (-(wrap64 (62 - t340)))) t341 t342 _ A3.out).mono ?_); rintro e w' ⟨rfl, ⟨nd, rfl⟩⟩; refine ⟨_, rfl, ?_⟩; (try (rw [drewN_self w5]; generalize hq_ : World.drewN w5 _ = w5; have n0_ : Aside0 (w5.heap[gb338]? = some (.cells #[.bool a0_0, .int .i64 a0_1, .int .u64 a0_2, .bool a0_3] 101 (0, 0))) := ⟨by rw [← hq_]; exact (bv BK338.out)⟩; have n1_ : Aside0 (w5.heap[gb339]? = some (.cells #[.bool false, .int .i64 0, .int .u64 0, .bool false] 101 (0, 0))) := ⟨by rw [← hq_]; exact (bv BK339.out)⟩; have n2_ : Aside0 (Below w.heap.size w w5) := ⟨by rw [← hq_]; exact (bl2 HB.out GE338.out GE339.out)⟩; clear BK338 BK339 HB hq_; have BK338 := n0_; have BK339 := n1_; have HB := n2_; clear n0_ n1_ n2_)); obtain ⟨hcz9_0, hcz9_1, hcz9_2, hcz9_3⟩ := bc4 BK338.out; obtain ⟨hfz9_0, hfz9_1, hfz9_2, hfz9_3⟩ := bf4 BK338.out; obtain ⟨hcz10_0, hcz10_1, hcz10_2, hcz10_3⟩ := bc4 BK339.out; obtain ⟨hfz10_0, hfz10_1, hfz10_2, hfz10_3⟩ := bf4 BK339.out))
 refine bodyPost_ret (results_cell_row rfl _ _ gb339 101 #[.bool a0_0, .int .i64 (wrap64 (a0_1 - (wrap64 (62 - t340)))), .int .u64 t341, .bool a0_3] (0, 0) _ rfl (by (with_reducible repeat first | apply bd | apply be | apply ba); refine blk_put (cs := #[.bool a0_0, .int .i64 (wrap64 (a0_1 - (wrap64 (62 - t340)))), .int .u64 t341, .bool false]) ?_ 3 _ rfl; (with_reducible repeat first | apply bd | apply be | apply ba); refine blk_put (cs := #[.bool a0_0, .int .i64 (wrap64 (a0_1 - (wrap64 (62 - t340)))), .int .u64 0, .bool false]) ?_ 2 _ rfl; (with_reducible repeat first | apply bd | apply be | apply ba); refine blk_put (cs := #[.bool a0_0, .int .i64 0, .int .u64 0, .bool false]) ?_ 1 _ rfl; (with_reducible repeat first | apply bd | apply be | apply ba); refine blk_put (cs := #[.bool false, .int .i64 0, .int .u64 0, .bool false]) ?_ 0 _ rfl; (with_reducible repeat first | apply bd | apply be | apply ba); refine blk_far ?_ NB339_338.out _; (with_reducible repeat first | apply bd | apply be | apply ba); refine blk_far ?_ NB339_338.out _; (with_reducible repeat first | apply bd | apply be | apply ba); exact BK339.out) Try.underlying101 rfl (by kernel_rfl)) rfl ?_
 exact ⟨by first | rfl | (simp [bQ, bP] <;> rfl) | (simp [*, bQ, bP] <;> rfl), bl2 HB.out GE338.out GE339.out⟩

end Go.Proofs.Ytolpdiifmacdbaa.P

/- The program's parts of a number, its class, its whole number and exponent: as plain numbers; the reference's are the same. -/
namespace Go.Proofs.Ytolpdiifmacdbaa.Round
open Go.RowKit Go.Proofs.Ytolpdiifmacdbaa.P Go.Proofs.Ytolpdiifmacdbaa.Num Go.Proofs.Ytolpdiifmacdbaa.BitsF Go.Proofs.Ytolpdiifmacdbaa.Fmt Go.Proofs.YtolpdiifmacdbaaW.PrintWords Go.Proofs.YtolpdiifmacdbaaW.PrintLast Go.Proofs.YtolpdiifmacdbaaW.PrintMore

theorem sum_w (f : Int) : IntKind.u64.wrap (wrap64 ((fe f : Int) + (fm f : Int))) = ((fe f + fm f : Nat) : Int) := by
 have h := dC f
 rw [show (fe f : Int) + (fm f : Int) = ((fe f + fm f : Nat) : Int) by omega, wu _ (by omega)]
theorem pW (f : Int) (v : Nat) (hv : v < 4294967296) : bX.f f (v : Int) = some (bZ f v, (lK f v : Int), (iX f v : Int)) := by
 unfold bX.f
 have h := dC f
 have hd : v / 2 ^ (fe f + fm f) < 4294967296 := Nat.lt_of_le_of_lt (Nat.div_le_self _ _) hv
 have hd' : v / 2 ^ fm f < 4294967296 := Nat.lt_of_le_of_lt (Nat.div_le_self _ _) hv
 rw [fF, Option.bind_some]
 dsimp only
 rw [sum_w, eG (fm f) (by omega), eG (fe f) (by omega), if_pos (Int.natCast_nonneg _), if_pos (Int.natCast_nonneg _), if_pos (Int.natCast_nonneg _), sU _ _ hv, sU _ _ hv, and1_u32 _ hd, uF _ _ hd' (by omega), uF _ _ hv (by omega), yS _ _ (by omega)]
 rw [show (1 : Int) = ((1 : Nat) : Int) from rfl, oP]
 unfold bZ lK iX
 exact Eq.refl _
theorem uO (k : Nat) (f : Int) (e m : Nat) (he : e ≤ fC f) (hm : m < 2 ^ fm f) (hz : ¬ (e = 0 ∧ m = 0)) :
  aI.j0 (k + 1) f (fm f : Int) (e : Int) (m : Int) false = some (((if e = 0 then (if m = 0 then 0 else 1) else if e < fC f then 2 else if m = 0 then 3 else if m / 2 ^ (fm f - 1) = 1 then 4 else 5 : Nat)) : Int) := by
 have h := dC f
 have h31 := dL (show fm f ≤ 31 by omega)
 rw [aI.j0, if_neg (by decide)]
 by_cases c : e = 0
 ·subst c
  rw [if_pos (by rfl), if_pos rfl, if_neg (fun h => hz ⟨rfl, h⟩)]; rfl
 ·rw [if_neg (by omega), if_neg c, rZ, Option.bind_some]
  by_cases c2 : e < fC f
  ·rw [if_pos (by omega), if_pos c2]; rfl
  ·rw [if_neg (by omega), if_neg c2]
   by_cases c3 : m = 0
   ·rw [if_pos (by omega), if_pos c3]; rfl
   ·rw [if_neg (by omega), if_neg c3, show (fm f : Int) - 1 = ((fm f - 1 : Nat) : Int) by omega, wu _ (by omega), if_pos (Int.natCast_nonneg _), sU _ _ (by omega)]
    by_cases c4 : m / 2 ^ (fm f - 1) = 1
    ·rw [if_pos (by rw [c4]; rfl), if_pos c4]; rfl
    ·rw [if_neg (by omega), if_neg c4]; rfl
theorem kR (f : Int) (v : Nat) (hv : v < 4294967296) : Ev (fun k => aI.f k f (v : Int)) (bE f v : Int) := by
 have he := wM f v
 have hm := sD f v
 refine ⟨1, fun k hk => ?_⟩
 obtain ⟨k, rfl⟩ : ∃ j, k = j + 1 := ⟨k - 1, by omega⟩
 show aI.f (k + 1) f (v : Int) = _
 unfold aI.f bE
 rw [fF, Option.bind_some, pW f v hv, Option.bind_some]
 dsimp only
 generalize lK f v = e at *
 generalize iX f v = m at *
 by_cases c : e = 0 ∧ m = 0
 ·obtain ⟨rfl, rfl⟩ := c
  rw [if_pos (by rfl), aI.j0, if_pos (by rfl), if_pos rfl, if_pos rfl]; rfl
 ·by_cases c2 : e = 0
  ·have e2 : (((m : Int) == 0) : Bool) = false := by simp; omega
   rw [if_pos (by omega), e2, uO k f e m he hm c]
  ·rw [if_neg (by omega), uO k f e m he hm c]
theorem nQ (f : Int) (v : Nat) (hv : v < 4294967296) : bL.f f (v : Int) = some (bZ f v) := by
 unfold bL.f; rw [pW f v hv]; rfl
def nP (f : Int) : Nat := fC f * 2 ^ fm f + 2 ^ (fm f - 1)
theorem yG (f : Int) : 2 ^ (fm f - 1) < 2 ^ fm f := by
 have h := dC f
 exact Nat.pow_lt_pow_right (by decide) (by omega)
theorem nan_f (f : Int) : eB.f f = some (nP f : Int) := by
 unfold eB.f
 have h := dC f
 rw [fF, Option.bind_some, rZ, Option.bind_some]
 dsimp only
 rw [show (fm f : Int) - 1 = ((fm f - 1 : Nat) : Int) by omega, wu _ (by omega), if_pos (Int.natCast_nonneg _), mY _ (by omega), qZ f false _ _ (Nat.le_refl _) (yG f), Option.bind_some]
 unfold uU nP
 simp [cK]
theorem vD (f : Int) : dD.f f = some ((nP f : Int), true, false, false, false, false) := by
 unfold dD.f; rw [nan_f]; rfl
theorem unpack_f (f : Int) (v : Nat) (hv : v < 4294967296) (h : lK f v < fC f) : dP.f f (v : Int) = some (bZ f v, bC f v, (bG f v : Int)) := by
 unfold dP.f bC bG
 obtain ⟨b1, b2, b3, b4, b5⟩ := dC f
 have hm := sD f v
 have h31 := dL (show fm f ≤ 31 by omega)
 have hl := gT f
 have ht := fG f
 rw [fF, Option.bind_some, pW f v hv, Option.bind_some]
 dsimp only
 generalize lK f v = e at *
 generalize iX f v = m at *
 by_cases c : e = 0
 ·subst c
  rw [if_pos (by rfl), lQ, Option.bind_some, if_pos rfl, bS (bW f - fm f) (by omega) (by omega), eG m (by omega)]
  simp
 ·rw [if_neg (by omega), rZ, Option.bind_some, if_neg (by omega), lQ, Option.bind_some, if_neg c, eG (fm f) (by omega), if_pos (Int.natCast_nonneg _), eG m (by omega), or_top m _ hm (by omega), bS (bW f - fm f) (by omega) (by omega), bS (bW f - fm f + e) (by omega) (by omega), bS _ (by omega) (by omega), show bW f - (fm f : Int) + (e : Int) - 1 = bW f - fm f + ((e - 1 : Nat) : Int) by omega]
theorem of_f (f : Int) (v : Nat) (hv : v < 4294967296) (h : lK f v < fC f) : dE.f f (v : Int) = some (bZ f v, bC f v, (bG f v : Int), false) := by
 unfold dE.f; rw [unpack_f f v hv h]; rfl

end Go.Proofs.Ytolpdiifmacdbaa.Round

-- Printed by a program of this session's out of Lean's print of the translation; Lean checks it.
namespace Go.Proofs.Ytolpdiifmacdbaa.P
open Go.RowKit Go.Proofs.YtolpdiifmacdbaaW.PrintWords Go.Proofs.YtolpdiifmacdbaaW.PrintLast Go.Proofs.YtolpdiifmacdbaaW.PrintMore
attribute [local go_sem] max2_int min2_int max_two min_two max_three min_three max_four min_four

-- NEED 1
/-! ### aA: function 78 -/
mutual
def aA.j0 : Nat → Int → Int → Bool → Int → Int → Bool → Bool → Option (Int × Bool × Bool × Bool × Bool × Bool)
 |0, _, _, _, _, _, _, _ => none
 |k + 1, x0, x1, x2, x3, x4, x5, x29 => if x29 = true then ((bN.f x0 x2).bind fun t197 => (some (t197, false, false, false, false, false))) else ((aR.f x0).bind fun bt198 => ((bI.f k x0 x3 x4).bind fun t200 => ((aZ.f k x4 (wrap64 (t200 - x3)) x5).bind fun bt201 => ((eF.f x1 x2 bt201.1 bt201.2).bind fun t203 => (if t203 = true then (aA.j1 k x0 x1 x2 x3 x4 bt198.2 t200 (IntKind.u64.wrap (bt201.1 + 1)) bt201.2) else (aA.j1 k x0 x1 x2 x3 x4 bt198.2 t200 bt201.1 bt201.2))))))
def aA.j1 : Nat → Int → Int → Bool → Int → Int → Int → Int → Int → Int → Option (Int × Bool × Bool × Bool × Bool × Bool)
 |0, _, _, _, _, _, _, _, _, _ => none
 |k + 1, x0, x1, x2, x3, x4, x15, x16, x17, x18 => if 0 ≤ (IntKind.u64.wrap (wrap64 (x15 + 1))) then (if (shr .u64 x17 (IntKind.u64.wrap (wrap64 (x15 + 1)))) = 0 then (aA.j2 k x0 x1 x2 x3 x4 x15 x16 x17 x18) else (aA.j2 k x0 x1 x2 x3 x4 x15 (wrap64 (x16 + 1)) (x17 / 2) x18)) else (none)
def aA.j2 : Nat → Int → Int → Bool → Int → Int → Int → Int → Int → Int → Option (Int × Bool × Bool × Bool × Bool × Bool)
 |0, _, _, _, _, _, _, _, _, _ => none
 |k + 1, x0, x1, x2, x3, x4, x15, x16, x17, x18 => (bD.f x0).bind fun t204 => (if 0 ≤ (IntKind.u64.wrap (x15)) then (if (shr .u64 x17 (IntKind.u64.wrap (x15))) = 0 then (aA.j3 k x0 x1 x2 x3 x4 x15 x17 x18 0) else (aA.j3 k x0 x1 x2 x3 x4 x15 x17 x18 (wrap64 ((wrap64 ((wrap64 (x16 + x15)) - t204)) + 1)))) else (none))
def aA.j3 : Nat → Int → Int → Bool → Int → Int → Int → Int → Int → Int → Option (Int × Bool × Bool × Bool × Bool × Bool)
 |0, _, _, _, _, _, _, _, _, _ => none
 |k + 1, x0, x1, x2, x3, x4, x15, x17, x18, x19 => (bK.f x0).bind fun t205 => (if x19 ≥ t205 then ((aW.f x0 x1 x2).bind fun bt206 => (some (bt206.1, bt206.2.1, bt206.2.2.1, bt206.2.2.2.1, bt206.2.2.2.2.1, bt206.2.2.2.2.2))) else (if x18 = 0 then ((dQ.f x17 x15).bind fun t213 => ((aX.f x0 x2 x19 ((t213) % 4294967296)).bind fun t214 => (some (t214, false, false, false, false, (x18 != 0))))) else (if x4 = 0 then ((dQ.f x17 x15).bind fun t215 => ((aX.f x0 x2 x19 ((t215) % 4294967296)).bind fun t216 => (some (t216, false, false, false, true, (x18 != 0))))) else ((bits_Len.f k x4).bind fun t217 => ((bD.f x0).bind fun t218 => ((dQ.f x17 x15).bind fun t219 => ((aX.f x0 x2 x19 ((t219) % 4294967296)).bind fun t220 => (some (t220, false, false, false, decide ((wrap64 ((wrap64 (x3 + t217)) - 1)) < t218), (x18 != 0))))))))))
end
def aA.f (k : Nat) (a0 a1 : Int) (a2 : Bool) (a3 a4 : Int) (a5 : Bool) : Option (Int × Bool × Bool × Bool × Bool × Bool) := if a4 = 0 then (aA.j0 k a0 a1 a2 (mn (mx a3 (-10000)) 10000) a4 a5 (!a5)) else (aA.j0 k a0 a1 a2 (mn (mx a3 (-10000)) 10000) a4 a5 false)
theorem aA.fB : ∀ k, (∀ y0 y1 y2 y3 y4 y5 y6, LeO (aA.j0 k y0 y1 y2 y3 y4 y5 y6) (aA.j0 (k + 1) y0 y1 y2 y3 y4 y5 y6)) ∧ (∀ y0 y1 y2 y3 y4 y5 y6 y7 y8, LeO (aA.j1 k y0 y1 y2 y3 y4 y5 y6 y7 y8) (aA.j1 (k + 1) y0 y1 y2 y3 y4 y5 y6 y7 y8)) ∧ (∀ y0 y1 y2 y3 y4 y5 y6 y7 y8, LeO (aA.j2 k y0 y1 y2 y3 y4 y5 y6 y7 y8) (aA.j2 (k + 1) y0 y1 y2 y3 y4 y5 y6 y7 y8)) ∧ (∀ y0 y1 y2 y3 y4 y5 y6 y7 y8, LeO (aA.j3 k y0 y1 y2 y3 y4 y5 y6 y7 y8) (aA.j3 (k + 1) y0 y1 y2 y3 y4 y5 y6 y7 y8))
 |0 => ⟨fun _ _ _ _ _ _ _ r h => by simp [aA.j0] at h, fun _ _ _ _ _ _ _ _ _ r h => by simp [aA.j1] at h, fun _ _ _ _ _ _ _ _ _ r h => by simp [aA.j2] at h, fun _ _ _ _ _ _ _ _ _ r h => by simp [aA.j3] at h⟩
 |k + 1 => by
  obtain ⟨ih0, ih1, ih2, ih3⟩ := aA.fB k
  refine ⟨?_, ?_, ?_, ?_⟩
  ·intro y0 y1 y2 y3 y4 y5 y6
   unfold aA.j0
   repeat' first
   |(with_reducible first|exact ih0 _ _ _ _ _ _ _|exact ih1 _ _ _ _ _ _ _ _ _|exact ih2 _ _ _ _ _ _ _ _ _|exact ih3 _ _ _ _ _ _ _ _ _|exact bits_Len.mono _ _|exact bI.mono _ _ _ _|exact aZ.mono _ _ _ _|exact LeO.refl _|exact LeO.none _|refine LeO.ite ?_ ?_|refine LeO.bind ?_ (fun _ => ?_))
   |exact ih0 _ _ _ _ _ _ _
   |exact ih1 _ _ _ _ _ _ _ _ _
   |exact ih2 _ _ _ _ _ _ _ _ _
   |exact ih3 _ _ _ _ _ _ _ _ _
   |exact bits_Len.mono _ _
   |exact bI.mono _ _ _ _
   |exact aZ.mono _ _ _ _
   |exact LeO.none _
   |refine LeO.ite ?_ ?_
   |refine LeO.bind ?_ (fun _ => ?_)
  ·intro y0 y1 y2 y3 y4 y5 y6 y7 y8
   unfold aA.j1
   repeat' first
   |(with_reducible first|exact ih0 _ _ _ _ _ _ _|exact ih1 _ _ _ _ _ _ _ _ _|exact ih2 _ _ _ _ _ _ _ _ _|exact ih3 _ _ _ _ _ _ _ _ _|exact bits_Len.mono _ _|exact bI.mono _ _ _ _|exact aZ.mono _ _ _ _|exact LeO.refl _|exact LeO.none _|refine LeO.ite ?_ ?_|refine LeO.bind ?_ (fun _ => ?_))
   |exact ih0 _ _ _ _ _ _ _
   |exact ih1 _ _ _ _ _ _ _ _ _
   |exact ih2 _ _ _ _ _ _ _ _ _
   |exact ih3 _ _ _ _ _ _ _ _ _
   |exact bits_Len.mono _ _
   |exact bI.mono _ _ _ _
   |exact aZ.mono _ _ _ _
   |exact LeO.none _
   |refine LeO.ite ?_ ?_
   |refine LeO.bind ?_ (fun _ => ?_)
  ·intro y0 y1 y2 y3 y4 y5 y6 y7 y8
   unfold aA.j2
   repeat' first
   |(with_reducible first|exact ih0 _ _ _ _ _ _ _|exact ih1 _ _ _ _ _ _ _ _ _|exact ih2 _ _ _ _ _ _ _ _ _|exact ih3 _ _ _ _ _ _ _ _ _|exact bits_Len.mono _ _|exact bI.mono _ _ _ _|exact aZ.mono _ _ _ _|exact LeO.refl _|exact LeO.none _|refine LeO.ite ?_ ?_|refine LeO.bind ?_ (fun _ => ?_))
   |exact ih0 _ _ _ _ _ _ _
   |exact ih1 _ _ _ _ _ _ _ _ _
   |exact ih2 _ _ _ _ _ _ _ _ _
   |exact ih3 _ _ _ _ _ _ _ _ _
   |exact bits_Len.mono _ _
   |exact bI.mono _ _ _ _
   |exact aZ.mono _ _ _ _
   |exact LeO.none _
   |refine LeO.ite ?_ ?_
   |refine LeO.bind ?_ (fun _ => ?_)
  ·intro y0 y1 y2 y3 y4 y5 y6 y7 y8
   unfold aA.j3
   repeat' first
   |(with_reducible first|exact ih0 _ _ _ _ _ _ _|exact ih1 _ _ _ _ _ _ _ _ _|exact ih2 _ _ _ _ _ _ _ _ _|exact ih3 _ _ _ _ _ _ _ _ _|exact bits_Len.mono _ _|exact bI.mono _ _ _ _|exact aZ.mono _ _ _ _|exact LeO.refl _|exact LeO.none _|refine LeO.ite ?_ ?_|refine LeO.bind ?_ (fun _ => ?_))
   |exact ih0 _ _ _ _ _ _ _
   |exact ih1 _ _ _ _ _ _ _ _ _
   |exact ih2 _ _ _ _ _ _ _ _ _
   |exact ih3 _ _ _ _ _ _ _ _ _
   |exact bits_Len.mono _ _
   |exact bI.mono _ _ _ _
   |exact aZ.mono _ _ _ _
   |exact LeO.none _
   |refine LeO.ite ?_ ?_
   |refine LeO.bind ?_ (fun _ => ?_)
theorem aA.mono : ∀ a0 a1 a2 a3 a4 a5 k, LeO (aA.f k a0 a1 a2 a3 a4 a5) (aA.f (k + 1) a0 a1 a2 a3 a4 a5) := by
 intro a0 a1 a2 a3 a4 a5 k
 obtain ⟨ih0, ih1, ih2, ih3⟩ := aA.fB k
 unfold aA.f
 repeat' first
   |(with_reducible first|exact ih0 _ _ _ _ _ _ _|exact ih1 _ _ _ _ _ _ _ _ _|exact ih2 _ _ _ _ _ _ _ _ _|exact ih3 _ _ _ _ _ _ _ _ _|exact bits_Len.mono _ _|exact bI.mono _ _ _ _|exact aZ.mono _ _ _ _|exact LeO.refl _|exact LeO.none _|refine LeO.ite ?_ ?_|refine LeO.bind ?_ (fun _ => ?_))
   |exact ih0 _ _ _ _ _ _ _
   |exact ih1 _ _ _ _ _ _ _ _ _
   |exact ih2 _ _ _ _ _ _ _ _ _
   |exact ih3 _ _ _ _ _ _ _ _ _
   |exact bits_Len.mono _ _
   |exact bI.mono _ _ _ _
   |exact aZ.mono _ _ _ _
   |exact LeO.none _
   |refine LeO.ite ?_ ?_
   |refine LeO.bind ?_ (fun _ => ?_)

end Go.Proofs.Ytolpdiifmacdbaa.P

/- What the program's rounding computes, as plain numbers. -/
namespace Go.Proofs.Ytolpdiifmacdbaa.Round
open Go.RowKit Go.Proofs.Ytolpdiifmacdbaa.P Go.Proofs.Ytolpdiifmacdbaa.Num Go.Proofs.Ytolpdiifmacdbaa.BitsF Go.Proofs.Ytolpdiifmacdbaa.Fmt Go.Proofs.YtolpdiifmacdbaaW.PrintWords Go.Proofs.YtolpdiifmacdbaaW.PrintLast Go.Proofs.YtolpdiifmacdbaaW.PrintMore

def lG (s : Nat) (d : Int) : Nat := if d ≤ 0 then s * 2 ^ (-d).toNat else s / 2 ^ d.toNat
def iR (s : Nat) (d : Int) (more : Bool) : Nat :=
 if d ≤ 0 ∨ s % 2 ^ d.toNat = 0 then (if more then 1 else 0)
 else if s / 2 ^ (d.toNat - 1) % 2 = 0 then 1 else if s % 2 ^ (d.toNat - 1) ≠ 0 ∨ more = true then 3 else 2
def upN (mode : Int) (neg : Bool) (q left : Nat) : Bool :=
 if mode = 1 then false else if mode = 2 then (!neg && decide (left ≠ 0)) else if mode = 3 then (neg && decide (left ≠ 0))
 else if mode = 4 then decide (2 ≤ left) else (decide (left = 3) || (decide (left = 2) && decide (q % 2 = 1)))
def gU (f x : Int) (s : Nat) : Nat := if s = 0 then 0 else (x + gD s - 1 - bW f).toNat
def dZ (f x : Int) (s : Nat) : Int := bW f - fm f + gU f x s
def keyN (f mode : Int) (neg : Bool) (x : Int) (s : Nat) (more : Bool) : Nat :=
 gU f x s * 2 ^ fm f + lG s (dZ f x s - x) + (if upN mode neg (lG s (dZ f x s - x)) (iR s (dZ f x s - x) more) then 1 else 0)
def iQ (f : Int) (k : Nat) : Bool := decide (fC f * 2 ^ fm f ≤ k)
def lF (mode : Int) (neg : Bool) : Bool := if mode = 1 then false else if mode = 2 then !neg else if mode = 3 then neg else true
def vZ (f x : Int) (s : Nat) (more : Bool) : Bool := decide (iR s (dZ f x s - x) more ≠ 0)
def tN (f x : Int) (s : Nat) (more : Bool) : Bool := vZ f x s more && (decide (s = 0) || decide (x + gD s - 1 < bW f))
def j4 (f mode : Int) (neg : Bool) (x : Int) (s : Nat) (more : Bool) : Nat :=
 (if iQ f (keyN f mode neg x s more) then (if lF mode neg then fC f * 2 ^ fm f else fC f * 2 ^ fm f - 1) else keyN f mode neg x s more) + cK f neg
def vB (f mode : Int) (neg : Bool) (x : Int) (s : Nat) (more : Bool) : Bool × Bool × Bool :=
 if iQ f (keyN f mode neg x s more) then (true, false, true) else (false, tN f x s more, vZ f x s more)
def jO (x : Int) : Int := mn (mx x (-10000)) 10000
theorem qA (x : Int) : -10000 ≤ jO x ∧ jO x ≤ 10000 := by
 unfold jO mn mx; split <;> split <;> omega
theorem jE (x : Int) (h : -10000 ≤ x) (h' : x ≤ 10000) : jO x = x := by
 unfold jO mn mx; split <;> split <;> omega

theorem unit_f (k : Nat) (f x : Int) (s : Nat) (hs : s < 18446744073709551616) (h1 : -10000 ≤ x) (h2 : x ≤ 10000) : bI.f (k + 1) f x (s : Int) = some (dZ f x s) := by
 unfold bI.f dZ gU
 obtain ⟨b1, b2, b3, b4, b5⟩ := dC f
 have hl := gT f
 have hn := lD s hs
 simp only [fF, lQ, Option.bind_some]
 by_cases c : s = 0
 ·subst c
  rw [if_neg (by decide), if_pos rfl, bS _ (by omega) (by omega)]; simp
 ·rw [if_pos (by omega), if_neg c, len_f k s hs]
  simp only [Option.bind_some]
  rw [bS (x + _) (by omega) (by omega), bS (x + _ - 1) (by omega) (by omega)]
  unfold mx
  split
  ·rw [bS _ (by omega) (by omega)]; congr 1; omega
  ·rw [bS _ (by omega) (by omega)]; congr 1; omega
theorem quo_lt (s : Nat) (d : Int) (h : d ≤ 0) (h' : s * 2 ^ (-d).toNat < 18446744073709551616) : s * 2 ^ (-d).toNat % 18446744073709551616 = lG s d := by
 unfold lG; rw [if_pos h, Nat.mod_eq_of_lt h']
theorem left_le (s : Nat) (d : Int) (more : Bool) : iR s d more ≤ 3 := by
 unfold iR; split
 ·split <;> omega
 ·split
  ·omega
  ·split <;> omega
theorem vS (v : Nat) (n : Int) : (iL v n).1 = if 0 ≤ n then v / 2 ^ n.toNat else v * 2 ^ (-n).toNat % 18446744073709551616 := by
 unfold iL; split <;> rfl
theorem jQ {s : Nat} {d : Int} (more : Bool) (h : d ≤ 0 ∨ s % 2 ^ d.toNat = 0) : iR s d more = if more then 1 else 0 := by
 unfold iR; rw [if_pos h]
theorem wL {s : Nat} {d : Int} (more : Bool) (h : ¬ d ≤ 0) (h' : ¬ s % 2 ^ d.toNat = 0) :
  iR s d more = if s / 2 ^ (d.toNat - 1) % 2 = 0 then 1 else if s % 2 ^ (d.toNat - 1) ≠ 0 ∨ more = true then 3 else 2 := by
 unfold iR; rw [if_neg (not_or.mpr ⟨h, h'⟩)]
theorem units_f (k s : Nat) (hs : s < 18446744073709551616) (d : Int) (h1 : -100000 ≤ d) (h2 : d ≤ 100000) (more : Bool) (hq : d ≤ 0 → s * 2 ^ (-d).toNat < 18446744073709551616) :
  aZ.f (k + 1) (s : Int) d more = some ((lG s d : Int), (iR s d more : Int)) := by
 unfold aZ.f
 by_cases c : d ≤ 0
 ·rw [if_pos c, o8 s hs d (by omega) (by omega)]
  have e : (iL s d).1 = lG s d := by
   rw [vS]
   by_cases c0 : 0 ≤ d
   ·obtain rfl : d = 0 := by omega
    unfold lG; simp
   ·rw [if_neg c0]; exact quo_lt s d c (hq c)
  simp only [Option.bind_some, e]
  rw [jQ more (.inl c)]
  cases more <;> rfl
 ·rw [if_neg c]
  obtain ⟨m, rfl⟩ := lU (show 0 ≤ d by omega)
  have hm : (m : Int) - 1 = ((m - 1 : Nat) : Int) := by omega
  rw [o8 s hs _ (by omega) (by omega), bS _ (by omega) (by omega), hm, o8 s hs _ (by omega) (by omega)]
  simp only [Option.bind_some, gV]
  have hqe : lG s (m : Int) = s / 2 ^ m := by unfold lG; rw [if_neg c, Int.toNat_natCast]
  have hd : s / 2 ^ (m - 1) < 18446744073709551616 := Nat.lt_of_le_of_lt (Nat.div_le_self _ _) hs
  rw [hqe]
  by_cases z : s % 2 ^ m = 0
  ·have hl : iR s (m : Int) more = if more then 1 else 0 := jQ more (.inr (by rw [Int.toNat_natCast]; exact z))
   rw [hl, if_neg (by simp [z])]
   cases more <;> rfl
  ·have hl : iR s (m : Int) more = _ := wL more c (by rw [Int.toNat_natCast]; exact z)
   rw [Int.toNat_natCast] at hl
   rw [hl, if_pos (by simp [z]), uP _ hd]
   by_cases y : s / 2 ^ (m - 1) % 2 = 0
   ·simp only [y, if_true, Int.natCast_zero]; rfl
   ·simp only [y, if_false]
    rw [if_neg (by omega)]
    by_cases w : s % 2 ^ (m - 1) = 0
    ·simp only [w, ne_eq, not_true_eq_false, decide_false, Bool.false_eq_true, if_false, false_or]
     cases more <;> rfl
    ·simp only [w, ne_eq, not_false_eq_true, decide_true, if_true, true_or]; rfl
theorem up_f (mode : Int) (neg : Bool) (q left : Nat) (hq : q < 18446744073709551616) : eF.f mode neg (q : Int) (left : Int) = some (upN mode neg q left) := by
 unfold eF.f upN
 have eb : (((left : Int) != 0) : Bool) = decide (left ≠ 0) := by rw [show (0 : Int) = ((0 : Nat) : Int) from rfl, bne_cast]
 have e1 : ((Go.bits .and .u64 (q : Int) 1 == 1) : Bool) = decide (q % 2 = 1) := by
  rw [uP q hq, show (1 : Int) = ((1 : Nat) : Int) from rfl]
  by_cases h : q % 2 = 1
  ·rw [h]; rfl
  ·rw [decide_eq_false h, beq_eq_false_iff_ne]; omega
 rw [eb, e1]
 by_cases m1 : mode = 1
 ·rw [if_pos m1, if_pos m1]
 ·rw [if_neg m1, if_neg m1]
  by_cases m2 : mode = 2
  ·rw [if_pos m2, if_pos m2]; cases neg <;> simp
  ·rw [if_neg m2, if_neg m2]
   by_cases m3 : mode = 3
   ·rw [if_pos m3, if_pos m3]; cases neg <;> simp
   ·rw [if_neg m3, if_neg m3]
    by_cases m4 : mode = 4
    ·rw [if_pos m4, if_pos m4]; congr 1; apply decide_eq_decide.mpr; omega
    ·rw [if_neg m4, if_neg m4]
     by_cases l3 : left = 3
     ·subst l3; rfl
     ·rw [if_neg (by omega), decide_eq_false l3, Bool.false_or]
      by_cases l2 : left = 2
      ·subst l2; simp
      ·rw [if_neg (by omega), decide_eq_false l2, Bool.false_and]
theorem beyond_f (f mode : Int) (neg : Bool) : aW.f f mode neg = some (((if lF mode neg then mO f neg else uK f neg : Nat) : Int), false, false, true, false, true) := by
 unfold aW.f lF
 simp only [vM, sJ, Option.bind_some]
 by_cases m1 : mode = 1
 ·rw [if_pos m1, if_pos m1]; rfl
 ·rw [if_neg m1, if_neg m1]
  by_cases m2 : mode = 2
  ·rw [if_pos m2, if_pos m2]; cases neg <;> rfl
  ·rw [if_neg m2, if_neg m2]
   by_cases m3 : mode = 3
   ·rw [if_pos m3, if_pos m3]; cases neg <;> rfl
   ·rw [if_neg m3, if_neg m3]; rfl

theorem vG (f x : Int) (s : Nat) : lG s (dZ f x s - x) < 2 ^ (fm f + 1) ∧ (gU f x s ≠ 0 → 2 ^ fm f ≤ lG s (dZ f x s - x)) := by
 obtain ⟨b1, b2, b3, b4, b5⟩ := dC f
 by_cases c : s = 0
 ·subst c
  have : gU f x 0 = 0 := by unfold gU; rw [if_pos rfl]
  refine ⟨?_, fun h => absurd this h⟩
  have h0 := Nat.two_pow_pos (fm f + 1)
  unfold lG; split <;> simp [h0]
 ·have hlt := pJ s
  have hle := p8 s c
  have hpos := kH s c
  have hr : gU f x s = (x + gD s - 1 - bW f).toNat := by unfold gU; rw [if_neg c]
  unfold dZ lG
  generalize gD s = L at *
  by_cases d : bW f - (fm f : Int) + (gU f x s : Int) - x ≤ 0
  ·rw [if_pos d]
   obtain ⟨j, hj⟩ := lU (show 0 ≤ -(bW f - (fm f : Int) + (gU f x s : Int) - x) by omega)
   rw [hj, Int.toNat_natCast]
   have hjL : L + j ≤ fm f + 1 := by omega
   constructor
   ·calc s * 2 ^ j < 2 ^ L * 2 ^ j := Nat.mul_lt_mul_of_pos_right hlt (Nat.two_pow_pos _)
     _ = 2 ^ (L + j) := (Nat.pow_add ..).symm
     _ ≤ 2 ^ (fm f + 1) := Nat.pow_le_pow_right (by decide) hjL
   ·intro h
    calc 2 ^ fm f = 2 ^ (L - 1) * 2 ^ j := by rw [← Nat.pow_add]; congr 1; omega
     _ ≤ s * 2 ^ j := Nat.mul_le_mul_right _ hle
  ·rw [if_neg d]
   obtain ⟨j, hj⟩ := lU (show 0 ≤ bW f - (fm f : Int) + (gU f x s : Int) - x by omega)
   rw [hj, Int.toNat_natCast]
   constructor
   ·rw [Nat.div_lt_iff_lt_mul (Nat.two_pow_pos _), ← Nat.pow_add]
    exact Nat.lt_of_lt_of_le hlt (Nat.pow_le_pow_right (by decide) (by omega))
   ·intro h
    rw [Nat.le_div_iff_mul_le (Nat.two_pow_pos _), ← Nat.pow_add]
    exact Nat.le_trans (Nat.pow_le_pow_right (by decide) (by omega)) hle
theorem sZ (f x : Int) (s : Nat) (hs : s < 18446744073709551616) (h1 : -10000 ≤ x) (h2 : x ≤ 10000) : -200 ≤ dZ f x s ∧ dZ f x s ≤ 10100 ∧ gU f x s ≤ 10200 := by
 obtain ⟨b1, b2, b3, b4, b5⟩ := dC f
 have hl := gT f
 have hn := lD s hs
 unfold dZ
 have hr : gU f x s = 0 ∨ (gU f x s : Int) = x + gD s - 1 - bW f := by
  unfold gU; split
  ·left; rfl
  ·omega
 omega
theorem exc_cast (l : Nat) : (((l : Int) != 0) : Bool) = decide (l ≠ 0) := by rw [show (0 : Int) = ((0 : Nat) : Int) from rfl, bne_cast]

theorem sP (k : Nat) (f mode : Int) (neg : Bool) (x : Int) (s q l a : Nat) (hs : s < 18446744073709551616) (hq : q < 18446744073709551616) (h1 : -10000 ≤ x) (h2 : x ≤ 10000) (K : Nat)
  (hK : K = a * 2 ^ fm f + q % 2 ^ fm f) :
  aA.j3 (k + 2) f mode neg x (s : Int) (fm f : Int) (q : Int) (l : Int) (a : Int) = some
   ((((if iQ f K then (if lF mode neg then fC f * 2 ^ fm f else fC f * 2 ^ fm f - 1) else K) + cK f neg : Nat) : Int), false, false,
    iQ f K, !iQ f K && (decide (l ≠ 0) && (decide (s = 0) || decide (x + gD s - 1 < bW f))), iQ f K || decide (l ≠ 0)) := by
 obtain ⟨b1, b2, b3, b4, b5⟩ := dC f
 have hp := Nat.two_pow_pos (fm f)
 have hm : q % 2 ^ fm f < 2 ^ fm f := Nat.mod_lt _ hp
 have h31 := dL (show fm f ≤ 31 by omega)
 have ho : (a : Int) ≥ (fC f : Int) ↔ iQ f K = true := by
  unfold iQ
  rw [decide_eq_true_iff, hK]
  constructor
  ·intro h
   have : fC f * 2 ^ fm f ≤ a * 2 ^ fm f := Nat.mul_le_mul_right _ (by omega)
   omega
  ·intro h
   rcases Nat.lt_or_ge a (fC f) with c | c
   ·have : (a + 1) * 2 ^ fm f ≤ fC f * 2 ^ fm f := Nat.mul_le_mul_right _ c
    rw [Nat.add_mul, Nat.one_mul] at this; omega
   ·omega
 rw [aA.j3, rZ]
 simp only [Option.bind_some]
 by_cases c : (a : Int) ≥ (fC f : Int)
 ·rw [if_pos c, beyond_f, ho.mp c]
  simp only [Option.bind_some, if_true, Bool.not_true, Bool.false_and, Bool.true_or]
  congr 2
  unfold mO uK
  split <;> rfl
 ·rw [if_neg c]
  have co : iQ f K = false := by simpa using fun h => c (ho.mpr h)
  have ec : dQ.f (q : Int) (fm f : Int) = some ((q % 2 ^ fm f : Nat) : Int) := by
   rw [cut_f q hq _ (by omega)]; unfold cutN; rw [if_neg (by omega), Int.toNat_natCast]
  have ej : aX.f f neg (a : Int) (((q % 2 ^ fm f : Nat) : Int) % 4294967296) = some ((K + cK f neg : Nat) : Int) := by
   rw [show ((q % 2 ^ fm f : Nat) : Int) % 4294967296 = ((q % 2 ^ fm f : Nat) : Int) by omega, qZ f neg _ _ (by omega) hm, hK]; rfl
  rw [co, ec]
  simp only [Option.bind_some, ej, Bool.false_eq_true, if_false, Bool.not_false, Bool.true_and, Bool.false_or, exc_cast]
  by_cases l0 : l = 0
  ·subst l0; simp
  ·rw [if_neg (by omega)]
   by_cases s0 : s = 0
   ·subst s0; simp [l0]
   ·have hn := lD s hs
    rw [if_neg (by omega), len_f (k) s hs, lQ]
    simp only [Option.bind_some]
    rw [bS (x + _) (by omega) (by omega), bS _ (by omega) (by omega)]
    simp [l0, s0]
theorem pack_j1 (k : Nat) (f mode : Int) (neg : Bool) (x : Int) (s q l U : Nat) (hU : U ≤ 10200) (hs : s < 18446744073709551616) (hq : q ≤ 2 ^ (fm f + 1)) (hq' : U ≠ 0 → 2 ^ fm f ≤ q) (h1 : -10000 ≤ x) (h2 : x ≤ 10000) (K : Nat)
  (hK : K = U * 2 ^ fm f + q) :
  aA.j1 (k + 4) f mode neg x (s : Int) (fm f : Int) (bW f - fm f + U) (q : Int) (l : Int) = some
   ((((if iQ f K then (if lF mode neg then fC f * 2 ^ fm f else fC f * 2 ^ fm f - 1) else K) + cK f neg : Nat) : Int), false, false,
    iQ f K, !iQ f K && (decide (l ≠ 0) && (decide (s = 0) || decide (x + gD s - 1 < bW f))), iQ f K || decide (l ≠ 0)) := by
 obtain ⟨b1, b2, b3, b4, b5⟩ := dC f
 have hl := gT f
 have hp := Nat.two_pow_pos (fm f)
 have h31 := dL (show fm f + 1 ≤ 31 by omega)
 have hq64 : q < 18446744073709551616 := by omega
 have e1 : wrap64 ((fm f : Int) + 1) = ((fm f + 1 : Nat) : Int) := by rw [bS] <;> omega
 have hsucc : 2 ^ (fm f + 1) = 2 * 2 ^ fm f := by rw [Nat.pow_succ, Nat.mul_comm]
 rw [aA.j1, e1, eG _ (by omega), if_pos (by omega), nJ _ _ hq64]
 by_cases c : q = 2 ^ (fm f + 1)
 ·have hd : q / 2 ^ (fm f + 1) = 1 := by rw [c, Nat.div_self (by omega)]
  rw [hd, if_neg (by decide), bS _ (by omega) (by omega), show (q : Int) / 2 = ((2 ^ fm f : Nat) : Int) by omega, aA.j2, lQ]
  simp only [Option.bind_some]
  rw [eG _ (by omega), if_pos (by omega), nJ _ _ (by omega), Nat.div_self hp, if_neg (by decide)]
  rw [show bW f - (fm f : Int) + (U : Int) + 1 + (fm f : Int) = bW f + (U : Int) + 1 by omega, bS (bW f + (U : Int) + 1) (by omega) (by omega), bS (bW f + (U : Int) + 1 - bW f) (by omega) (by omega), bS _ (by omega) (by omega), show bW f + (U : Int) + 1 - bW f + 1 = ((U + 2 : Nat) : Int) by omega]
  exact sP k f mode neg x s _ l (U + 2) hs (by omega) h1 h2 K (by rw [hK, c, hsucc, Nat.mod_self, Nat.add_mul]; omega)
 ·have hd : q / 2 ^ (fm f + 1) = 0 := Nat.div_eq_of_lt (by omega)
  rw [hd, if_pos (by decide), aA.j2, lQ]
  simp only [Option.bind_some]
  rw [eG _ (by omega), if_pos (by omega), nJ _ _ hq64]
  by_cases c2 : q < 2 ^ fm f
  ·have hU0 : U = 0 := by
    rcases Nat.eq_zero_or_pos U with h | h
    ·exact h
    ·have := hq' (by omega); omega
   subst hU0
   rw [Nat.div_eq_of_lt c2, if_pos (by decide)]
   have h := sP k f mode neg x s q l 0 hs hq64 h1 h2 K (by rw [hK, Nat.mod_eq_of_lt c2])
   rw [show ((0 : Nat) : Int) = 0 from rfl] at h
   exact h
  ·have hd1 : q / 2 ^ fm f = 1 := Nat.div_eq_of_lt_le (by omega) (by omega)
   rw [hd1, if_neg (by decide)]
   rw [show bW f - (fm f : Int) + (U : Int) + (fm f : Int) = bW f + (U : Int) by omega, bS (bW f + (U : Int)) (by omega) (by omega), bS (bW f + (U : Int) - bW f) (by omega) (by omega), bS _ (by omega) (by omega), show bW f + (U : Int) - bW f + 1 = ((U + 1 : Nat) : Int) by omega]
   have hm1 : q % 2 ^ fm f = q - 2 ^ fm f := by
    have := Nat.div_add_mod q (2 ^ fm f)
    rw [hd1, Nat.mul_one] at this; omega
   exact sP k f mode neg x s q l (U + 1) hs hq64 h1 h2 K (by rw [hK, hm1, Nat.add_mul]; omega)
theorem pack_f (k : Nat) (f mode : Int) (neg : Bool) (x : Int) (s : Nat) (more : Bool) (hs : s < 18446744073709551616) :
  aA.f (k + 5) f mode neg x (s : Int) more = some ((j4 f mode neg (jO x) s more : Int), false, false, vB f mode neg (jO x) s more) := by
 unfold aA.f
 have hc : mn (mx x (-10000)) 10000 = jO x := rfl
 obtain ⟨h1, h2⟩ := qA x
 rw [hc]
 generalize jO x = x at *
 by_cases z : s = 0 ∧ more = false
 ·obtain ⟨rfl, rfl⟩ := z
  rw [if_pos (by decide), aA.j0]
  simp only [Bool.not_false, if_true]
  rw [qP]
  have hk : keyN f mode neg x 0 false = 0 := by
   unfold keyN
   have hr : gU f x 0 = 0 := by unfold gU; rw [if_pos rfl]
   have hq : lG 0 (dZ f x 0 - x) = 0 := by unfold lG; split <;> simp
   have hl : iR 0 (dZ f x 0 - x) false = 0 := by rw [jQ _ (.inr (by simp))]; rfl
   rw [hr, hq, hl]
   have : upN mode neg 0 0 = false := by unfold upN; simp
   rw [this]; simp
  have hl : iR 0 (dZ f x 0 - x) false = 0 := by rw [jQ _ (.inr (by simp))]; rfl
  have ho : iQ f 0 = false := by
   unfold iQ
   have := fG f
   have := Nat.two_pow_pos (fm f)
   rw [decide_eq_false_iff_not]
   have : 0 < fC f * 2 ^ fm f := Nat.mul_pos (by omega) (by omega)
   omega
  unfold j4 vB tN vZ
  rw [hk, ho, hl]; simp
 ·have hj : (if (s : Int) = 0 then aA.j0 (k + 5) f mode neg x (s : Int) more (!more) else aA.j0 (k + 5) f mode neg x (s : Int) more false) = aA.j0 (k + 5) f mode neg x (s : Int) more false := by
   by_cases c : (s : Int) = 0
   ·rw [if_pos c]
    cases more
    ·exact absurd ⟨by omega, rfl⟩ z
    ·rfl
   ·rw [if_neg c]
  rw [hj, aA.j0, if_neg (by decide), fF]
  obtain ⟨u1, u2, u3⟩ := sZ f x s hs h1 h2
  obtain ⟨q1, q2⟩ := vG f x s
  obtain ⟨b1, b2, b3, b4, b5⟩ := dC f
  have h31 := dL (show fm f + 1 ≤ 31 by omega)
  have hll := left_le s (dZ f x s - x) more
  have hq64 : lG s (dZ f x s - x) < 18446744073709551616 := by omega
  have hd : dZ f x s - x ≤ 0 → s * 2 ^ (-(dZ f x s - x)).toNat < 18446744073709551616 := by
   intro h; have := hq64; unfold lG at this; rw [if_pos h] at this; exact this
  simp only [Option.bind_some]
  rw [unit_f _ f x s hs h1 h2]
  simp only [Option.bind_some]
  rw [bS _ (by omega) (by omega), units_f _ s hs _ (by omega) (by omega) more hd]
  simp only [Option.bind_some]
  rw [up_f _ _ _ _ hq64]
  simp only [Option.bind_some]
  have hun : dZ f x s = bW f - fm f + (gU f x s : Nat) := rfl
  have key : ∀ up : Bool, aA.j1 (k + 4) f mode neg x (s : Int) (fm f : Int) (dZ f x s) ((lG s (dZ f x s - x) + (if up then 1 else 0) : Nat) : Int) (iR s (dZ f x s - x) more : Int) = _ :=
   fun up => pack_j1 k f mode neg x s _ _ (gU f x s) u3 hs (by split <;> omega) (fun h => Nat.le_trans (q2 h) (Nat.le_add_right _ _)) h1 h2 _ rfl
  have res : ∀ up : Bool, up = upN mode neg (lG s (dZ f x s - x)) (iR s (dZ f x s - x) more) → aA.j1 (k + 4) f mode neg x (s : Int) (fm f : Int) (dZ f x s) ((lG s (dZ f x s - x) + (if up then 1 else 0) : Nat) : Int) (iR s (dZ f x s - x) more : Int) = some ((j4 f mode neg x s more : Int), false, false, vB f mode neg x s more) := by
   intro up hup
   rw [key up]
   subst hup
   unfold j4 vB tN vZ keyN
   rw [← Nat.add_assoc]
   by_cases o : iQ f (gU f x s * 2 ^ fm f + lG s (dZ f x s - x) + if upN mode neg (lG s (dZ f x s - x)) (iR s (dZ f x s - x) more) = true then 1 else 0) = true
   ·rw [o]; simp
   ·rw [Bool.not_eq_true] at o; rw [o]; simp
  by_cases hu : upN mode neg (lG s (dZ f x s - x)) (iR s (dZ f x s - x) more) = true
  ·rw [if_pos hu]
   have h := res true hu.symm
   rw [if_pos rfl] at h
   rw [show ((lG s (dZ f x s - x) : Nat) : Int) + 1 = ((lG s (dZ f x s - x) + 1 : Nat) : Int) by omega, eG _ (by omega)]
   exact h
  ·rw [if_neg hu]
   rw [Bool.not_eq_true] at hu
   have h := res false hu.symm
   rw [if_neg (by decide), Nat.add_zero] at h
   exact h
end Go.Proofs.Ytolpdiifmacdbaa.Round
