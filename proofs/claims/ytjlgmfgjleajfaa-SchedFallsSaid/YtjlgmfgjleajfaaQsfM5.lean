import Derived.Test.YtjlgmfgjleajfaaQsfZ
import Derived.Test.YtjlgmfgjleajfaaQsfM1
import Derived.Test.YtjlgmfgjleajfaaQsfM4
import Derived.Test.YtjlgmfgjleajfaaQsfWMore
import Derived.Test.YtjlgmfgjleajfaaQsfM2
-- Printed by a program of this session's out of Lean's print of the translation; Lean checks it.
set_option linter.unusedVariables false
set_option linter.unusedSimpArgs false
namespace Go.Proofs.Ytjlgmfgjleajfaa.P
open Go.RowKit Go.Proofs.YtjlgmfgjleajfaaW.PrintWords Go.Proofs.YtjlgmfgjleajfaaW.PrintLast Go.Proofs.YtjlgmfgjleajfaaW.PrintMore
attribute [local go_sem] max2_int min2_int max_two min_two max_three min_three max_four min_four

-- NEED 0
/-! ### annealref1_Widths: function 66 -/
def annealref1_Widths.f (a0 : Int) : Option (Int × Int) := if a0 = 0 then (some (5, 10)) else (if a0 = 1 then (some (8, 7)) else (some (8, 23)))
set_option maxHeartbeats 8000000 in
set_option maxRecDepth 100000 in
theorem annealref1_Widths.calls (a0 : Int) (r1 : Int) (r2 : Int) (w : World) (h : annealref1_Widths.f a0 = some (r1, r2)) :
  Calls Try.prog 66 #[.int .i64 a0] w fun e w' => e = .returned (.tuple #[.int .i64 r1, .int .i64 r2]) ∧ Drawn0 w w' := by
 have H : (if a0 = 0 then (some (5, 10)) else (if a0 = 1 then (some (8, 7)) else (some (8, 23)))) = some (r1, r2) := h
 clear h
 by_cases c2 : a0 = 0
 ·rw [if_pos c2] at H
  have c2b0 : (a0 == 0) = true := beq_iff_eq.mpr c2
  have c2b1 : (a0 != 0) = false := bne_eq_false_iff_eq.mpr c2
  clear c2
  simp only [Option.some.injEq, Prod.mk.injEq] at H
  obtain ⟨rfl, rfl⟩ := H
  go_enter Try.func66, Try.ntmps66
  go_wp2
  go_ret2
  exact ⟨by first | rfl | (simp; done) | (simp [*]; done) | (congr 1; (try unfold wrap64); omega) | (congr 1; rw [IntKind.wrap_u64]; omega), by repeat (first | exact Drawn0.refl _ | apply Drawn0.step)⟩
 ·rw [if_neg c2] at H
  have c2b0 : (a0 == 0) = false := beq_eq_false_iff_ne.mpr c2
  have c2b1 : (a0 != 0) = true := bne_iff_ne.mpr c2
  by_cases c3 : a0 = 1
  ·rw [if_pos c3] at H
   have c3b0 : (a0 == 1) = true := beq_iff_eq.mpr c3
   have c3b1 : (a0 != 1) = false := bne_eq_false_iff_eq.mpr c3
   clear c3
   simp only [Option.some.injEq, Prod.mk.injEq] at H
   obtain ⟨rfl, rfl⟩ := H
   go_enter Try.func66, Try.ntmps66
   go_wp2
   go_ret2
   exact ⟨by first | rfl | (simp; done) | (simp [*]; done) | (congr 1; (try unfold wrap64); omega) | (congr 1; rw [IntKind.wrap_u64]; omega), by repeat (first | exact Drawn0.refl _ | apply Drawn0.step)⟩
  ·rw [if_neg c3] at H
   have c3b0 : (a0 == 1) = false := beq_eq_false_iff_ne.mpr c3
   have c3b1 : (a0 != 1) = true := bne_iff_ne.mpr c3
   simp only [Option.some.injEq, Prod.mk.injEq] at H
   obtain ⟨rfl, rfl⟩ := H
   go_enter Try.func66, Try.ntmps66
   go_wp2
   go_ret2
   exact ⟨by first | rfl | (simp; done) | (simp [*]; done) | (congr 1; (try unfold wrap64); omega) | (congr 1; rw [IntKind.wrap_u64]; omega), by repeat (first | exact Drawn0.refl _ | apply Drawn0.step)⟩

-- NEED 0
/-! ### annealref1_Mask: function 40 -/
def annealref1_Mask.f (a0 : Int) : Option (Int) := (annealref1_Widths.f a0).bind fun bt521 => (if 0 ≤ (wrap64 ((wrap64 (1 + bt521.1)) + bt521.2)) then (some ((IntKind.u64.wrap ((shl .u64 1 (wrap64 ((wrap64 (1 + bt521.1)) + bt521.2))) - 1)) % 4294967296)) else (none))
set_option maxHeartbeats 8000000 in
set_option maxRecDepth 100000 in
theorem annealref1_Mask.calls (a0 : Int) (r : Int) (w : World) (h : annealref1_Mask.f a0 = some r) :
  Calls Try.prog 40 #[.int .i64 a0] w fun e w' => e = .returned (.int .u32 r) ∧ Drawn0 w w' := by
 have H : ((annealref1_Widths.f a0).bind fun bt521 => (if 0 ≤ (wrap64 ((wrap64 (1 + bt521.1)) + bt521.2)) then (some ((IntKind.u64.wrap ((shl .u64 1 (wrap64 ((wrap64 (1 + bt521.1)) + bt521.2))) - 1)) % 4294967296)) else (none))) = some r := h
 clear h
 replace H := Option.bind_eq_some_iff.mp H
 obtain ⟨⟨t521, t522⟩, A20, H⟩ := H
 replace H : (if 0 ≤ (wrap64 ((wrap64 (1 + t521)) + t522)) then (some ((IntKind.u64.wrap ((shl .u64 1 (wrap64 ((wrap64 (1 + t521)) + t522))) - 1)) % 4294967296)) else (none)) = some r := H
 have A2 := Aside0.mk A20
 clear A20
 obtain ⟨ji3, hji3⟩ : ∃ j_ : Int, (wrap64 ((wrap64 (1 + t521)) + t522)) = j_ := ⟨_, rfl⟩
 replace H : (if 0 ≤ (ji3) then (some ((IntKind.u64.wrap ((shl .u64 1 (ji3)) - 1)) % 4294967296)) else (none)) = some r := by first | (rw [hji3] at H; exact H) | (simp only [hji3] at H ⊢; exact H)
 (try rw [hji3] at A2)
 have hji3w : (IntKind.i64.wrap ((wrap64 (1 + t521)) + t522)) = ji3 := (i64_w _).trans hji3
 by_cases c4 : 0 ≤ (ji3)
 ·rw [if_pos c4] at H
  have c4b0 := eq_true c4
  have c4b1 : decide (0 ≤ (ji3)) = true := decide_eq_true c4
  clear c4
  obtain ⟨ji5, hji5⟩ : ∃ j_ : Int, (shl .u64 1 (ji3)) = j_ := ⟨_, rfl⟩
  replace H : (some ((IntKind.u64.wrap ((ji5) - 1)) % 4294967296)) = some r := by first | (rw [hji5] at H; exact H) | (simp only [hji5] at H ⊢; exact H)
  (try rw [hji5] at A2)
  have hji5_ : (IntKind.u64.wrap (1 * 2 ^ min (ji3).toNat 64)) = ji5 := hji5
  have hji5z : (ji3) ≤ 64 → (IntKind.u64.wrap (1 * 2 ^ (ji3).toNat)) = ji5 := shl_small hji5
  have hji5u : (IntKind.u64.wrap (2 ^ min (ji3).toNat 64)) = ji5 := by have h_ := hji5_; rw [Int.one_mul] at h_; exact h_
  have hji5v : (ji3) ≤ 64 → (IntKind.u64.wrap (2 ^ (ji3).toNat)) = ji5 := fun hle_ => by have h_ := hji5z hle_; rw [Int.one_mul] at h_; exact h_
  obtain rfl := Option.some.inj H
  go_enter Try.func40, Try.ntmps40
  go_wp2_with (first | ((with_reducible refine gate_callee (f := 66) rfl ?_); refine goesL_ (some 7) rfl rfl Try.func66 (by kernel_rfl) rfl #[.int .i64 a0] rfl gl ?_; (with_reducible refine (annealref1_Widths.calls a0 t521 t522 _ A2.out).mono ?_); rintro e w' ⟨rfl, ⟨nd, rfl⟩⟩; refine ⟨_, rfl, ?_⟩))
  go_ret
  exact ⟨by first | rfl | (simp; done) | (simp only [← hji3, ← hji5] <;> (first | rfl | (simp; done))) | (simp [*]; done) | (congr 1; (try unfold wrap64); omega) | (congr 1; rw [IntKind.wrap_u64]; omega), by repeat (first | exact Drawn0.refl _ | apply Drawn0.step)⟩
 ·rw [if_neg c4] at H
  exact absurd H (by simp)

-- NEED 0
/-! ### annealref1_parts: function 67 -/
def annealref1_parts.f (a0 : Int) (a1 : Int) : Option (Bool × Int × Int) := (annealref1_Widths.f a0).bind fun bt523 => ((annealref1_Mask.f a0).bind fun t525 => (if 0 ≤ (wrap64 (bt523.1 + bt523.2)) then (if 0 ≤ bt523.2 then (if 0 ≤ bt523.1 then (some (((shr .u32 (Go.bits .and .u32 a1 t525) (wrap64 (bt523.1 + bt523.2))) == 1), wrap64 (Go.bits .and .u32 (shr .u32 (Go.bits .and .u32 a1 t525) bt523.2) (((shl .u32 1 bt523.1) - 1) % 4294967296)), IntKind.u64.wrap (Go.bits .and .u32 (Go.bits .and .u32 a1 t525) (((shl .u32 1 bt523.2) - 1) % 4294967296)))) else (none)) else (none)) else (none)))
set_option maxHeartbeats 8000000 in
set_option maxRecDepth 100000 in
theorem annealref1_parts.calls (a0 : Int) (a1 : Int) (r1 : Bool) (r2 : Int) (r3 : Int) (w : World) (h : annealref1_parts.f a0 a1 = some (r1, r2, r3)) :
  Calls Try.prog 67 #[.int .i64 a0, .int .u32 a1] w fun e w' => e = .returned (.tuple #[.bool r1, .int .i64 r2, .int .u64 r3]) ∧ Drawn0 w w' := by
 have H : ((annealref1_Widths.f a0).bind fun bt523 => ((annealref1_Mask.f a0).bind fun t525 => (if 0 ≤ (wrap64 (bt523.1 + bt523.2)) then (if 0 ≤ bt523.2 then (if 0 ≤ bt523.1 then (some (((shr .u32 (Go.bits .and .u32 a1 t525) (wrap64 (bt523.1 + bt523.2))) == 1), wrap64 (Go.bits .and .u32 (shr .u32 (Go.bits .and .u32 a1 t525) bt523.2) (((shl .u32 1 bt523.1) - 1) % 4294967296)), IntKind.u64.wrap (Go.bits .and .u32 (Go.bits .and .u32 a1 t525) (((shl .u32 1 bt523.2) - 1) % 4294967296)))) else (none)) else (none)) else (none)))) = some (r1, r2, r3) := h
 clear h
 replace H := Option.bind_eq_some_iff.mp H
 obtain ⟨⟨t523, t524⟩, A30, H⟩ := H
 replace H : ((annealref1_Mask.f a0).bind fun t525 => (if 0 ≤ (wrap64 (t523 + t524)) then (if 0 ≤ t524 then (if 0 ≤ t523 then (some (((shr .u32 (Go.bits .and .u32 a1 t525) (wrap64 (t523 + t524))) == 1), wrap64 (Go.bits .and .u32 (shr .u32 (Go.bits .and .u32 a1 t525) t524) (((shl .u32 1 t523) - 1) % 4294967296)), IntKind.u64.wrap (Go.bits .and .u32 (Go.bits .and .u32 a1 t525) (((shl .u32 1 t524) - 1) % 4294967296)))) else (none)) else (none)) else (none))) = some (r1, r2, r3) := H
 have A3 := Aside0.mk A30
 clear A30
 replace H := Option.bind_eq_some_iff.mp H
 obtain ⟨t525, A40, H⟩ := H
 replace H : (if 0 ≤ (wrap64 (t523 + t524)) then (if 0 ≤ t524 then (if 0 ≤ t523 then (some (((shr .u32 (Go.bits .and .u32 a1 t525) (wrap64 (t523 + t524))) == 1), wrap64 (Go.bits .and .u32 (shr .u32 (Go.bits .and .u32 a1 t525) t524) (((shl .u32 1 t523) - 1) % 4294967296)), IntKind.u64.wrap (Go.bits .and .u32 (Go.bits .and .u32 a1 t525) (((shl .u32 1 t524) - 1) % 4294967296)))) else (none)) else (none)) else (none)) = some (r1, r2, r3) := H
 have A4 := Aside0.mk A40
 clear A40
 obtain ⟨ji5, hji5⟩ : ∃ j_ : Int, (wrap64 (t523 + t524)) = j_ := ⟨_, rfl⟩
 replace H : (if 0 ≤ (ji5) then (if 0 ≤ t524 then (if 0 ≤ t523 then (some (((shr .u32 (Go.bits .and .u32 a1 t525) (ji5)) == 1), wrap64 (Go.bits .and .u32 (shr .u32 (Go.bits .and .u32 a1 t525) t524) (((shl .u32 1 t523) - 1) % 4294967296)), IntKind.u64.wrap (Go.bits .and .u32 (Go.bits .and .u32 a1 t525) (((shl .u32 1 t524) - 1) % 4294967296)))) else (none)) else (none)) else (none)) = some (r1, r2, r3) := by first | (rw [hji5] at H; exact H) | (simp only [hji5] at H ⊢; exact H)
 (try rw [hji5] at A3)
 (try rw [hji5] at A4)
 have hji5w : (IntKind.i64.wrap (t523 + t524)) = ji5 := (i64_w _).trans hji5
 by_cases c6 : 0 ≤ (ji5)
 ·rw [if_pos c6] at H
  have c6b0 := eq_true c6
  have c6b1 : decide (0 ≤ (ji5)) = true := decide_eq_true c6
  clear c6
  obtain ⟨ji7, hji7⟩ : ∃ j_ : Int, (shr .u32 (Go.bits .and .u32 a1 t525) (ji5)) = j_ := ⟨_, rfl⟩
  replace H : (if 0 ≤ t524 then (if 0 ≤ t523 then (some (((ji7) == 1), wrap64 (Go.bits .and .u32 (shr .u32 (Go.bits .and .u32 a1 t525) t524) (((shl .u32 1 t523) - 1) % 4294967296)), IntKind.u64.wrap (Go.bits .and .u32 (Go.bits .and .u32 a1 t525) (((shl .u32 1 t524) - 1) % 4294967296)))) else (none)) else (none)) = some (r1, r2, r3) := by first | (rw [hji7] at H; exact H) | (simp only [hji7] at H ⊢; exact H)
  (try rw [hji7] at A3)
  (try rw [hji7] at A4)
  have hji7_ : ((Go.bits .and .u32 a1 t525) / 2 ^ min (ji5).toNat 32) = ji7 := hji7
  have hji7z : (ji5) ≤ 32 → ((Go.bits .and .u32 a1 t525) / 2 ^ (ji5).toNat) = ji7 := shr_small hji7
  by_cases c8 : 0 ≤ t524
  ·rw [if_pos c8] at H
   have c8b0 := eq_true c8
   have c8b1 : decide (0 ≤ t524) = true := decide_eq_true c8
   clear c8
   obtain ⟨ji9, hji9⟩ : ∃ j_ : Int, (shr .u32 (Go.bits .and .u32 a1 t525) t524) = j_ := ⟨_, rfl⟩
   replace H : (if 0 ≤ t523 then (some (((ji7) == 1), wrap64 (Go.bits .and .u32 (ji9) (((shl .u32 1 t523) - 1) % 4294967296)), IntKind.u64.wrap (Go.bits .and .u32 (Go.bits .and .u32 a1 t525) (((shl .u32 1 t524) - 1) % 4294967296)))) else (none)) = some (r1, r2, r3) := by first | (rw [hji9] at H; exact H) | (simp only [hji9] at H ⊢; exact H)
   (try rw [hji9] at A3)
   (try rw [hji9] at A4)
   have hji9_ : ((Go.bits .and .u32 a1 t525) / 2 ^ min t524.toNat 32) = ji9 := hji9
   have hji9z : t524 ≤ 32 → ((Go.bits .and .u32 a1 t525) / 2 ^ t524.toNat) = ji9 := shr_small hji9
   by_cases c10 : 0 ≤ t523
   ·rw [if_pos c10] at H
    have c10b0 := eq_true c10
    have c10b1 : decide (0 ≤ t523) = true := decide_eq_true c10
    clear c10
    obtain ⟨ji11, hji11⟩ : ∃ j_ : Int, (shl .u32 1 t523) = j_ := ⟨_, rfl⟩
    replace H : (some (((ji7) == 1), wrap64 (Go.bits .and .u32 (ji9) (((ji11) - 1) % 4294967296)), IntKind.u64.wrap (Go.bits .and .u32 (Go.bits .and .u32 a1 t525) (((shl .u32 1 t524) - 1) % 4294967296)))) = some (r1, r2, r3) := by first | (rw [hji11] at H; exact H) | (simp only [hji11] at H ⊢; exact H)
    (try rw [hji11] at A3)
    (try rw [hji11] at A4)
    have hji11_ : (IntKind.u32.wrap (1 * 2 ^ min t523.toNat 32)) = ji11 := hji11
    have hji11z : t523 ≤ 32 → (IntKind.u32.wrap (1 * 2 ^ t523.toNat)) = ji11 := shl_small hji11
    have hji11u : (IntKind.u32.wrap (2 ^ min t523.toNat 32)) = ji11 := by have h_ := hji11_; rw [Int.one_mul] at h_; exact h_
    have hji11v : t523 ≤ 32 → (IntKind.u32.wrap (2 ^ t523.toNat)) = ji11 := fun hle_ => by have h_ := hji11z hle_; rw [Int.one_mul] at h_; exact h_
    obtain ⟨ji12, hji12⟩ : ∃ j_ : Int, (((ji11) - 1) % 4294967296) = j_ := ⟨_, rfl⟩
    replace H : (some (((ji7) == 1), wrap64 (Go.bits .and .u32 (ji9) (ji12)), IntKind.u64.wrap (Go.bits .and .u32 (Go.bits .and .u32 a1 t525) (((shl .u32 1 t524) - 1) % 4294967296)))) = some (r1, r2, r3) := by first | (rw [hji12] at H; exact H) | (simp only [hji12] at H ⊢; exact H)
    (try rw [hji12] at A3)
    (try rw [hji12] at A4)
    have hji12l : 0 ≤ ji12 := by rw [← hji12]; exact Int.emod_nonneg _ (by decide)
    have hji12h : ji12 ≤ 4294967295 := by have := Int.emod_lt_of_pos (((ji11) - 1)) (show (0 : Int) < 4294967296 by decide); omega
    have hji12w : (IntKind.u32.wrap ((ji11) - 1)) = ji12 := (u32_w _).trans hji12
    (try (have hji12_ := hji12; simp only [Int.add_emod_emod, Int.emod_add_emod, Int.sub_emod_emod, Int.emod_sub_emod] at hji12_))
    have c13b0 := eq_true (of_decide_eq_true (by first | (with_reducible assumption) | assumption) : 0 ≤ t524)
    obtain ⟨ji14, hji14⟩ : ∃ j_ : Int, (shl .u32 1 t524) = j_ := ⟨_, rfl⟩
    replace H : (some (((ji7) == 1), wrap64 (Go.bits .and .u32 (ji9) (ji12)), IntKind.u64.wrap (Go.bits .and .u32 (Go.bits .and .u32 a1 t525) (((ji14) - 1) % 4294967296)))) = some (r1, r2, r3) := by first | (rw [hji14] at H; exact H) | (simp only [hji14] at H ⊢; exact H)
    (try rw [hji14] at A3)
    (try rw [hji14] at A4)
    have hji14_ : (IntKind.u32.wrap (1 * 2 ^ min t524.toNat 32)) = ji14 := hji14
    have hji14z : t524 ≤ 32 → (IntKind.u32.wrap (1 * 2 ^ t524.toNat)) = ji14 := shl_small hji14
    have hji14u : (IntKind.u32.wrap (2 ^ min t524.toNat 32)) = ji14 := by have h_ := hji14_; rw [Int.one_mul] at h_; exact h_
    have hji14v : t524 ≤ 32 → (IntKind.u32.wrap (2 ^ t524.toNat)) = ji14 := fun hle_ => by have h_ := hji14z hle_; rw [Int.one_mul] at h_; exact h_
    obtain ⟨ji15, hji15⟩ : ∃ j_ : Int, (((ji14) - 1) % 4294967296) = j_ := ⟨_, rfl⟩
    replace H : (some (((ji7) == 1), wrap64 (Go.bits .and .u32 (ji9) (ji12)), IntKind.u64.wrap (Go.bits .and .u32 (Go.bits .and .u32 a1 t525) (ji15)))) = some (r1, r2, r3) := by first | (rw [hji15] at H; exact H) | (simp only [hji15] at H ⊢; exact H)
    (try rw [hji15] at A3)
    (try rw [hji15] at A4)
    have hji15l : 0 ≤ ji15 := by rw [← hji15]; exact Int.emod_nonneg _ (by decide)
    have hji15h : ji15 ≤ 4294967295 := by have := Int.emod_lt_of_pos (((ji14) - 1)) (show (0 : Int) < 4294967296 by decide); omega
    have hji15w : (IntKind.u32.wrap ((ji14) - 1)) = ji15 := (u32_w _).trans hji15
    (try (have hji15_ := hji15; simp only [Int.add_emod_emod, Int.emod_add_emod, Int.sub_emod_emod, Int.emod_sub_emod] at hji15_))
    simp only [Option.some.injEq, Prod.mk.injEq] at H
    obtain ⟨rfl, rfl, rfl⟩ := H
    go_enter Try.func67, Try.ntmps67
    go_wp2_with (first | (go_at_call 66; (with_reducible refine (annealref1_Widths.calls a0 t523 t524 _ A3.out).mono ?_); rintro e w' ⟨rfl, ⟨nd, rfl⟩⟩; (try first | exact ⟨rfl, _, World.drewN_drewN _ _ _⟩ | exact ⟨rfl, _, Eq.trans (World.drewN_drewN _ _ _) (congrArg (World.drewN _) (Nat.add_assoc _ _ _))⟩)) | (go_at_call 40; (with_reducible refine (annealref1_Mask.calls a0 t525 _ A4.out).mono ?_); rintro e w' ⟨rfl, ⟨nd, rfl⟩⟩; (try first | exact ⟨rfl, _, World.drewN_drewN _ _ _⟩ | exact ⟨rfl, _, Eq.trans (World.drewN_drewN _ _ _) (congrArg (World.drewN _) (Nat.add_assoc _ _ _))⟩)))
    repeat (go_quiet (first | (go_at_call 66; (with_reducible refine (annealref1_Widths.calls a0 t523 t524 _ A3.out).mono ?_); rintro e w' ⟨rfl, ⟨nd, rfl⟩⟩; (try first | exact ⟨rfl, _, World.drewN_drewN _ _ _⟩ | exact ⟨rfl, _, Eq.trans (World.drewN_drewN _ _ _) (congrArg (World.drewN _) (Nat.add_assoc _ _ _))⟩)) | (go_at_call 40; (with_reducible refine (annealref1_Mask.calls a0 t525 _ A4.out).mono ?_); rintro e w' ⟨rfl, ⟨nd, rfl⟩⟩; (try first | exact ⟨rfl, _, World.drewN_drewN _ _ _⟩ | exact ⟨rfl, _, Eq.trans (World.drewN_drewN _ _ _) (congrArg (World.drewN _) (Nat.add_assoc _ _ _))⟩))); try go_wp2_with (first | (go_at_call 66; (with_reducible refine (annealref1_Widths.calls a0 t523 t524 _ A3.out).mono ?_); rintro e w' ⟨rfl, ⟨nd, rfl⟩⟩; (try first | exact ⟨rfl, _, World.drewN_drewN _ _ _⟩ | exact ⟨rfl, _, Eq.trans (World.drewN_drewN _ _ _) (congrArg (World.drewN _) (Nat.add_assoc _ _ _))⟩)) | (go_at_call 40; (with_reducible refine (annealref1_Mask.calls a0 t525 _ A4.out).mono ?_); rintro e w' ⟨rfl, ⟨nd, rfl⟩⟩; (try first | exact ⟨rfl, _, World.drewN_drewN _ _ _⟩ | exact ⟨rfl, _, Eq.trans (World.drewN_drewN _ _ _) (congrArg (World.drewN _) (Nat.add_assoc _ _ _))⟩))))
    go_ret3
    exact ⟨by first | rfl | (simp; done) | (simp only [← hji5, ← hji7, ← hji9, ← hji11, ← hji12, ← hji14, ← hji15] <;> (first | rfl | (simp; done))) | (simp [*]; done) | (congr 1; (try unfold wrap64); omega) | (congr 1; rw [IntKind.wrap_u64]; omega), by repeat (first | exact Drawn0.refl _ | apply Drawn0.step)⟩
   ·rw [if_neg c10] at H
    exact absurd H (by simp)
  ·rw [if_neg c8] at H
   exact absurd H (by simp)
 ·rw [if_neg c6] at H
  exact absurd H (by simp)

-- NEED 0
/-! ### annealref1_Class: function 39 -/
def annealref1_Class.j0 : Nat → Int → Int → Int → Int → Bool → Option (Int)
 |0, _, _, _, _, _ => none
 |k + 1, x5, x6, x8, x9, x22 => if x22 = true then (some 0) else (if x8 = 0 then (some 1) else (if 0 ≤ x5 then (if x8 < (wrap64 ((shl .i64 1 x5) - 1)) then (some 2) else (if x9 = 0 then (some 3) else (if 0 ≤ (wrap64 (x6 - 1)) then (if (shr .u64 x9 (wrap64 (x6 - 1))) = 1 then (some 4) else (some 5)) else (none)))) else (none)))
def annealref1_Class.f (k : Nat) (a0 : Int) (a1 : Int) : Option (Int) := (annealref1_Widths.f a0).bind fun bt526 => ((annealref1_parts.f a0 a1).bind fun bt528 => (if bt528.2.1 = 0 then (annealref1_Class.j0 k bt526.1 bt526.2 bt528.2.1 bt528.2.2 (bt528.2.2 == 0)) else (annealref1_Class.j0 k bt526.1 bt526.2 bt528.2.1 bt528.2.2 false)))
theorem annealref1_Class.mono_l : ∀ k, (∀ y0 y1 y2 y3 y4, LeO (annealref1_Class.j0 k y0 y1 y2 y3 y4) (annealref1_Class.j0 (k + 1) y0 y1 y2 y3 y4))
 |0 => fun _ _ _ _ _ r h => by simp [annealref1_Class.j0] at h
 |k + 1 => by
  have ih0 := annealref1_Class.mono_l k
  ·intro y0 y1 y2 y3 y4
   unfold annealref1_Class.j0
   repeat' first
   |(with_reducible exact ih0 _ _ _ _ _)
   |(with_reducible exact LeO.refl _)
   |(with_reducible exact LeO.none _)
   |(with_reducible refine LeO.ite ?_ ?_)
   |(with_reducible refine LeO.bind ?_ (fun _ => ?_))
   |exact ih0 _ _ _ _ _
   |exact LeO.none _
   |refine LeO.ite ?_ ?_
   |refine LeO.bind ?_ (fun _ => ?_)
theorem annealref1_Class.mono : ∀ a0 a1 k, LeO (annealref1_Class.f k a0 a1) (annealref1_Class.f (k + 1) a0 a1) := by
 intro a0 a1 k
 have ih0 := annealref1_Class.mono_l k
 unfold annealref1_Class.f
 repeat' first
   |(with_reducible exact ih0 _ _ _ _ _)
   |(with_reducible exact LeO.refl _)
   |(with_reducible exact LeO.none _)
   |(with_reducible refine LeO.ite ?_ ?_)
   |(with_reducible refine LeO.bind ?_ (fun _ => ?_))
   |exact ih0 _ _ _ _ _
   |exact LeO.none _
   |refine LeO.ite ?_ ?_
   |refine LeO.bind ?_ (fun _ => ?_)
set_option maxHeartbeats 8000000 in
set_option maxRecDepth 100000 in
theorem annealref1_Class.calls (k : Nat) (a0 : Int) (a1 : Int) (r : Int) (w : World) (h : annealref1_Class.f k a0 a1 = some r) :
  Calls Try.prog 39 #[.int .i64 a0, .int .u32 a1] w fun e w' => e = .returned (.int .i64 r) ∧ Drawn0 w w' := by
 have H : ((annealref1_Widths.f a0).bind fun bt526 => ((annealref1_parts.f a0 a1).bind fun bt528 => (if bt528.2.1 = 0 then (annealref1_Class.j0 k bt526.1 bt526.2 bt528.2.1 bt528.2.2 (bt528.2.2 == 0)) else (annealref1_Class.j0 k bt526.1 bt526.2 bt528.2.1 bt528.2.2 false)))) = some r := h
 clear h
 replace H := Option.bind_eq_some_iff.mp H
 obtain ⟨⟨t526, t527⟩, A30, H⟩ := H
 replace H : ((annealref1_parts.f a0 a1).bind fun bt528 => (if bt528.2.1 = 0 then (annealref1_Class.j0 k t526 t527 bt528.2.1 bt528.2.2 (bt528.2.2 == 0)) else (annealref1_Class.j0 k t526 t527 bt528.2.1 bt528.2.2 false))) = some r := H
 have A3 := Aside0.mk A30
 clear A30
 replace H := Option.bind_eq_some_iff.mp H
 obtain ⟨⟨t528, t529, t530⟩, A40, H⟩ := H
 replace H : (if t529 = 0 then (annealref1_Class.j0 k t526 t527 t529 t530 (t530 == 0)) else (annealref1_Class.j0 k t526 t527 t529 t530 false)) = some r := H
 have A4 := Aside0.mk A40
 clear A40
 have HC5 := Aside0.mk H
 clear H
 go_enter Try.func39, Try.ntmps39
 go_upto_region 3 with (first | ((with_reducible refine gate_callee (f := 66) rfl ?_); refine goesL_ (some 12) rfl rfl Try.func66 (by kernel_rfl) rfl #[.int .i64 a0] rfl gl ?_; (with_reducible refine (annealref1_Widths.calls a0 t526 t527 _ A3.out).mono ?_); rintro e w' ⟨rfl, ⟨nd, rfl⟩⟩; refine ⟨_, rfl, ?_⟩) | ((with_reducible refine gate_callee (f := 67) rfl ?_); refine goesL_ (some 18) rfl rfl Try.func67 (by kernel_rfl) rfl #[.int .i64 a0, .int .u32 a1] rfl gl ?_; (with_reducible refine (annealref1_parts.calls a0 a1 t528 t529 t530 _ A4.out).mono ?_); rintro e w' ⟨rfl, ⟨nd, rfl⟩⟩; refine ⟨_, rfl, ?_⟩))
 (try simp only [Act.put, sb, sz, ss])
 go_cut [22] (fun v22 wc => ∃ (kq : Nat) (x22_4 : Bool), v22 = .bool x22_4 ∧ Aside0 (annealref1_Class.j0 kq t526 t527 t529 t530 x22_4 = some r) ∧ Aside0 (kq ≤ k) ∧ Drawn0 w wc)
 case first =>
  have H := HC5.out
  clear HC5
  by_cases c6 : t529 = 0
  ·rw [if_pos c6] at H
   have c6b0 : (t529 == 0) = true := beq_iff_eq.mpr c6
   have c6b1 : (t529 != 0) = false := bne_eq_false_iff_eq.mpr c6
   clear c6
   (first | rw [c6b0] | (simp only [i64_w, i32_w]; rw [c6b0]) | skip)
   have H' := Aside0.mk H
   clear H
   go_wp2
   go_meet
   case rel => exact ⟨_, ((t530 == 0)), (by first | rfl | (simp; done) | (simp [*]; done) | (congr 1; (try unfold wrap64); omega) | (congr 1; rw [IntKind.wrap_u64]; omega)), H', ⟨by first | omega | exact Nat.le_refl _⟩, by repeat (first | exact Drawn0.refl _ | apply Drawn0.step)⟩
  ·rw [if_neg c6] at H
   have c6b0 : (t529 == 0) = false := beq_eq_false_iff_ne.mpr c6
   have c6b1 : (t529 != 0) = true := bne_iff_ne.mpr c6
   (first | rw [c6b0] | (simp only [i64_w, i32_w]; rw [c6b0]) | skip)
   have H' := Aside0.mk H
   clear H
   go_wp2
   go_meet
   case rel => exact ⟨_, (false), (by first | rfl | (simp; done) | (simp [*]; done) | (congr 1; (try unfold wrap64); omega) | (congr 1; rw [IntKind.wrap_u64]; omega)), H', ⟨by first | omega | exact Nat.le_refl _⟩, by repeat (first | exact Drawn0.refl _ | apply Drawn0.step)⟩
 case rest =>
  clear HC5
  try clear p2 c3 c6 c6b0 c6b1 p6
  obtain ⟨kq, x22_4, rfl, HA, HJ4, ⟨mc4, rfl⟩⟩ := hcut
  cases kq with
  |zero => exact absurd HA.out (by simp [annealref1_Class.j0])
  |succ kj4 =>
   have H := HA.out
   clear HA
   simp only [annealref1_Class.j0] at H
   by_cases c7 : x22_4 = true
   ·subst c7
    have H1 : (some 0) = some r := by rw [if_pos rfl] at H; exact H
    clear H
    have H := H1
    clear H1
    obtain rfl := Option.some.inj H
    go_wp2
    go_ret
    exact ⟨by first | rfl | (simp; done) | (simp [*]; done) | (congr 1; (try unfold wrap64); omega) | (congr 1; rw [IntKind.wrap_u64]; omega), by repeat (first | exact Drawn0.refl _ | apply Drawn0.step)⟩
   ·replace c7 := Bool.eq_false_iff.mpr c7
    subst c7
    have H1 : (if t529 = 0 then (some 1) else (if 0 ≤ t526 then (if t529 < (wrap64 ((shl .i64 1 t526) - 1)) then (some 2) else (if t530 = 0 then (some 3) else (if 0 ≤ (wrap64 (t527 - 1)) then (if (shr .u64 t530 (wrap64 (t527 - 1))) = 1 then (some 4) else (some 5)) else (none)))) else (none))) = some r := by rw [if_neg (show ¬ (false = true) by decide)] at H; exact H
    clear H
    have H := H1
    clear H1
    by_cases c8 : t529 = 0
    ·rw [if_pos c8] at H
     have c8b0 : (t529 == 0) = true := beq_iff_eq.mpr c8
     have c8b1 : (t529 != 0) = false := bne_eq_false_iff_eq.mpr c8
     clear c8
     obtain rfl := Option.some.inj H
     go_wp2
     go_ret
     exact ⟨by first | rfl | (simp; done) | (simp [*]; done) | (congr 1; (try unfold wrap64); omega) | (congr 1; rw [IntKind.wrap_u64]; omega), by repeat (first | exact Drawn0.refl _ | apply Drawn0.step)⟩
    ·rw [if_neg c8] at H
     have c8b0 : (t529 == 0) = false := beq_eq_false_iff_ne.mpr c8
     have c8b1 : (t529 != 0) = true := bne_iff_ne.mpr c8
     by_cases c9 : 0 ≤ t526
     ·rw [if_pos c9] at H
      have c9b0 := eq_true c9
      have c9b1 : decide (0 ≤ t526) = true := decide_eq_true c9
      clear c9
      obtain ⟨ji10, hji10⟩ : ∃ j_ : Int, (shl .i64 1 t526) = j_ := ⟨_, rfl⟩
      replace H : (if t529 < (wrap64 ((ji10) - 1)) then (some 2) else (if t530 = 0 then (some 3) else (if 0 ≤ (wrap64 (t527 - 1)) then (if (shr .u64 t530 (wrap64 (t527 - 1))) = 1 then (some 4) else (some 5)) else (none)))) = some r := by first | (rw [hji10] at H; exact H) | (simp only [hji10] at H ⊢; exact H)
      have hji10_ : (IntKind.i64.wrap (1 * 2 ^ min t526.toNat 64)) = ji10 := hji10
      have hji10z : t526 ≤ 64 → (IntKind.i64.wrap (1 * 2 ^ t526.toNat)) = ji10 := shl_small hji10
      have hji10u : (IntKind.i64.wrap (2 ^ min t526.toNat 64)) = ji10 := by have h_ := hji10_; rw [Int.one_mul] at h_; exact h_
      have hji10v : t526 ≤ 64 → (IntKind.i64.wrap (2 ^ t526.toNat)) = ji10 := fun hle_ => by have h_ := hji10z hle_; rw [Int.one_mul] at h_; exact h_
      have hji10y : (wrap64 (1 * 2 ^ min t526.toNat 64)) = ji10 := (i64_w _).symm.trans hji10_
      have hji10x : t526 ≤ 64 → (wrap64 (1 * 2 ^ t526.toNat)) = ji10 := fun h_ => (i64_w _).symm.trans (hji10z h_)
      by_cases c11 : t529 < (wrap64 ((ji10) - 1))
      ·rw [if_pos c11] at H
       have c11b0 : decide (t529 < (wrap64 ((ji10) - 1))) = true := decide_eq_true c11
       clear c11
       obtain rfl := Option.some.inj H
       go_wp2
       go_ret
       exact ⟨by first | rfl | (simp; done) | (simp only [← hji10] <;> (first | rfl | (simp; done))) | (simp [*]; done) | (congr 1; (try unfold wrap64); omega) | (congr 1; rw [IntKind.wrap_u64]; omega), by repeat (first | exact Drawn0.refl _ | apply Drawn0.step)⟩
      ·rw [if_neg c11] at H
       have c11b0 : decide (t529 < (wrap64 ((ji10) - 1))) = false := decide_eq_false c11
       clear c11
       by_cases c12 : t530 = 0
       ·rw [if_pos c12] at H
        have c12b0 : (t530 == 0) = true := beq_iff_eq.mpr c12
        have c12b1 : (t530 != 0) = false := bne_eq_false_iff_eq.mpr c12
        clear c12
        obtain rfl := Option.some.inj H
        go_wp2
        go_ret
        exact ⟨by first | rfl | (simp; done) | (simp only [← hji10] <;> (first | rfl | (simp; done))) | (simp [*]; done) | (congr 1; (try unfold wrap64); omega) | (congr 1; rw [IntKind.wrap_u64]; omega), by repeat (first | exact Drawn0.refl _ | apply Drawn0.step)⟩
       ·rw [if_neg c12] at H
        have c12b0 : (t530 == 0) = false := beq_eq_false_iff_ne.mpr c12
        have c12b1 : (t530 != 0) = true := bne_iff_ne.mpr c12
        obtain ⟨ji13, hji13⟩ : ∃ j_ : Int, (wrap64 (t527 - 1)) = j_ := ⟨_, rfl⟩
        replace H : (if 0 ≤ (ji13) then (if (shr .u64 t530 (ji13)) = 1 then (some 4) else (some 5)) else (none)) = some r := by first | (rw [hji13] at H; exact H) | (simp only [hji13] at H ⊢; exact H)
        have hji13w : (IntKind.i64.wrap (t527 - 1)) = ji13 := (i64_w _).trans hji13
        by_cases c14 : 0 ≤ (ji13)
        ·rw [if_pos c14] at H
         have c14b0 := eq_true c14
         have c14b1 : decide (0 ≤ (ji13)) = true := decide_eq_true c14
         clear c14
         obtain ⟨ji15, hji15⟩ : ∃ j_ : Int, (shr .u64 t530 (ji13)) = j_ := ⟨_, rfl⟩
         replace H : (if (ji15) = 1 then (some 4) else (some 5)) = some r := by first | (rw [hji15] at H; exact H) | (simp only [hji15] at H ⊢; exact H)
         have hji15_ : (t530 / 2 ^ min (ji13).toNat 64) = ji15 := hji15
         have hji15z : (ji13) ≤ 64 → (t530 / 2 ^ (ji13).toNat) = ji15 := shr_small hji15
         by_cases c16 : (ji15) = 1
         ·rw [if_pos c16] at H
          have c16b0 : ((ji15) == 1) = true := beq_iff_eq.mpr c16
          have c16b1 : ((ji15) != 1) = false := bne_eq_false_iff_eq.mpr c16
          clear c16
          obtain rfl := Option.some.inj H
          go_wp2
          go_ret
          exact ⟨by first | rfl | (simp; done) | (simp only [← hji10, ← hji13, ← hji15] <;> (first | rfl | (simp; done))) | (simp [*]; done) | (congr 1; (try unfold wrap64); omega) | (congr 1; rw [IntKind.wrap_u64]; omega), by repeat (first | exact Drawn0.refl _ | apply Drawn0.step)⟩
         ·rw [if_neg c16] at H
          have c16b0 : ((ji15) == 1) = false := beq_eq_false_iff_ne.mpr c16
          have c16b1 : ((ji15) != 1) = true := bne_iff_ne.mpr c16
          obtain rfl := Option.some.inj H
          go_wp2
          go_ret
          exact ⟨by first | rfl | (simp; done) | (simp only [← hji10, ← hji13, ← hji15] <;> (first | rfl | (simp; done))) | (simp [*]; done) | (congr 1; (try unfold wrap64); omega) | (congr 1; rw [IntKind.wrap_u64]; omega), by repeat (first | exact Drawn0.refl _ | apply Drawn0.step)⟩
        ·rw [if_neg c14] at H
         exact absurd H (by simp)
     ·rw [if_neg c9] at H
      exact absurd H (by simp)


-- NEED 0
/-! ### annealref1_nans: function 18 -/
def annealref1_nans.l0 : Nat → Int → List Int → Bool → Bool → Int → Option (Bool × Bool)
 |0, _, _, _, _, _ => none
 |k + 1, x0, x1, x6, x7, x8 => if x8 < (x1.length : Int) then (if 0 ≤ x8 then ((annealref1_Class.f k x0 (rd x1 x8)).bind fun t532 => (if x6 = true then (if x7 = true then (annealref1_nans.l0 k x0 x1 true true (wrap64 (x8 + 1))) else (annealref1_nans.l0 k x0 x1 true (t532 == 5) (wrap64 (x8 + 1)))) else (if t532 = 4 then (if x7 = true then (annealref1_nans.l0 k x0 x1 true true (wrap64 (x8 + 1))) else (annealref1_nans.l0 k x0 x1 true (t532 == 5) (wrap64 (x8 + 1)))) else (if x7 = true then (annealref1_nans.l0 k x0 x1 (t532 == 5) true (wrap64 (x8 + 1))) else (annealref1_nans.l0 k x0 x1 (t532 == 5) (t532 == 5) (wrap64 (x8 + 1))))))) else (none)) else (some (x6, x7))
def annealref1_nans.f (k : Nat) (a0 : Int) (l1 : List Int) : Option (Bool × Bool) := annealref1_nans.l0 k a0 l1 false false 0
theorem annealref1_nans.mono_l : ∀ k, (∀ y0 y1 y2 y3 y4, LeO (annealref1_nans.l0 k y0 y1 y2 y3 y4) (annealref1_nans.l0 (k + 1) y0 y1 y2 y3 y4))
 |0 => fun _ _ _ _ _ r h => by simp [annealref1_nans.l0] at h
 |k + 1 => by
  have ih0 := annealref1_nans.mono_l k
  ·intro y0 y1 y2 y3 y4
   unfold annealref1_nans.l0
   repeat' first
   |(with_reducible exact ih0 _ _ _ _ _)
   |(with_reducible exact annealref1_Class.mono _ _ _)
   |(with_reducible exact LeO.refl _)
   |(with_reducible exact LeO.none _)
   |(with_reducible refine LeO.ite ?_ ?_)
   |(with_reducible refine LeO.bind ?_ (fun _ => ?_))
   |exact ih0 _ _ _ _ _
   |exact annealref1_Class.mono _ _ _
   |exact LeO.none _
   |refine LeO.ite ?_ ?_
   |refine LeO.bind ?_ (fun _ => ?_)
theorem annealref1_nans.mono : ∀ a0 a1 k, LeO (annealref1_nans.f k a0 a1) (annealref1_nans.f (k + 1) a0 a1) := by
 intro a0 a1 k
 have ih0 := annealref1_nans.mono_l k
 unfold annealref1_nans.f
 repeat' first
   |(with_reducible exact ih0 _ _ _ _ _)
   |(with_reducible exact annealref1_Class.mono _ _ _)
   |(with_reducible exact LeO.refl _)
   |(with_reducible exact LeO.none _)
   |(with_reducible refine LeO.ite ?_ ?_)
   |(with_reducible refine LeO.bind ?_ (fun _ => ?_))
   |exact ih0 _ _ _ _ _
   |exact annealref1_Class.mono _ _ _
   |exact LeO.none _
   |refine LeO.ite ?_ ?_
   |refine LeO.bind ?_ (fun _ => ?_)
set_option maxHeartbeats 8000000 in
set_option maxRecDepth 100000 in
theorem annealref1_nans.calls (k : Nat) (a0 : Int) (A1 : Option Addr) (c1 : Nat) (l1 : List Int) (r1 : Bool) (r2 : Bool) (w : World) (hr1 : Kd.C (Kd.int .u32) w A1 l1.length l1) (hc1 : l1.length ≤ c1) (h : annealref1_nans.f k a0 l1 = some (r1, r2)) :
  Calls Try.prog 18 #[.int .i64 a0, .slice A1 l1.length c1] w fun e w' => e = .returned (.tuple #[.bool r1, .bool r2]) ∧ Drawn0 w w' := by
 have HR1 := Aside0.mk hr1
 have HC1 := Aside0.mk hc1
 clear hr1 hc1
 have H : (annealref1_nans.l0 k a0 l1 false false 0) = some (r1, r2) := h
 clear h
 have H' := Aside0.mk H
 clear H
 go_enter Try.func18, Try.ntmps18
 go_wp2
 go_loopg [6, 7, 8] k (fun kq v6 v7 v8 w' => ∃ (x6_1 : Bool) (x7_1 : Bool) (x8_1 : Int), v6 = .bool x6_1 ∧ v7 = .bool x7_1 ∧ v8 = .int .i64 x8_1 ∧ Aside0 (annealref1_nans.l0 kq a0 l1 x6_1 x7_1 x8_1 = some (r1, r2)) ∧ Aside0 (kq ≤ k) ∧ Drawn0 w w')
 case atStart => exact ⟨(false), (false), (0), (by first | rfl | (simp; done) | (simp [*]; done) | (congr 1; (try unfold wrap64); omega) | (congr 1; rw [IntKind.wrap_u64]; omega)), (by first | rfl | (simp; done) | (simp [*]; done) | (congr 1; (try unfold wrap64); omega) | (congr 1; rw [IntKind.wrap_u64]; omega)), (by first | rfl | (simp; done) | (simp [*]; done) | (congr 1; (try unfold wrap64); omega) | (congr 1; rw [IntKind.wrap_u64]; omega)), H', ⟨Nat.le_refl _⟩, by repeat (first | exact Drawn0.refl _ | apply Drawn0.step)⟩
 case round =>
  clear H'
  try clear c1 p2
  obtain ⟨x6_1, x7_1, x8_1, rfl, rfl, rfl, HA, HK1, ⟨m1, rfl⟩⟩ := hrel
  cases gk with
  |zero => exact absurd HA.out (by simp [annealref1_nans.l0])
  |succ k1 =>
   have H := HA.out
   clear HA
   simp only [annealref1_nans.l0] at H
   by_cases c3 : x8_1 < (l1.length : Int)
   ·rw [if_pos c3] at H
    have c3b0 : decide (x8_1 < (l1.length : Int)) = true := decide_eq_true c3
    clear c3
    by_cases c4 : 0 ≤ x8_1
    ·rw [if_pos c4] at H
     have c4b0 : decide (0 ≤ x8_1) = true := decide_eq_true c4
     clear c4
     replace H := Option.bind_eq_some_iff.mp H
     obtain ⟨t532, A50, H⟩ := H
     replace H : (if x6_1 = true then (if x7_1 = true then (annealref1_nans.l0 k1 a0 l1 true true (wrap64 (x8_1 + 1))) else (annealref1_nans.l0 k1 a0 l1 true (t532 == 5) (wrap64 (x8_1 + 1)))) else (if t532 = 4 then (if x7_1 = true then (annealref1_nans.l0 k1 a0 l1 true true (wrap64 (x8_1 + 1))) else (annealref1_nans.l0 k1 a0 l1 true (t532 == 5) (wrap64 (x8_1 + 1)))) else (if x7_1 = true then (annealref1_nans.l0 k1 a0 l1 (t532 == 5) true (wrap64 (x8_1 + 1))) else (annealref1_nans.l0 k1 a0 l1 (t532 == 5) (t532 == 5) (wrap64 (x8_1 + 1)))))) = some (r1, r2) := H
     have A5 := Aside0.mk A50
     clear A50
     by_cases c6 : x6_1 = true
     ·subst c6
      have H1 : (if x7_1 = true then (annealref1_nans.l0 k1 a0 l1 true true (wrap64 (x8_1 + 1))) else (annealref1_nans.l0 k1 a0 l1 true (t532 == 5) (wrap64 (x8_1 + 1)))) = some (r1, r2) := by rw [if_pos rfl] at H; exact H
      clear H
      have H := H1
      clear H1
      by_cases c7 : x7_1 = true
      ·subst c7
       have H1 : (annealref1_nans.l0 k1 a0 l1 true true (wrap64 (x8_1 + 1))) = some (r1, r2) := by rw [if_pos rfl] at H; exact H
       clear H
       have H := H1
       clear H1
       have H' := Aside0.mk H
       clear H
       have p531 : 0 ≤ (x8_1 : Int) := of_decide_eq_true (by first | (with_reducible assumption) | assumption)
       have q531 : x8_1 < (l1.length : Int) := of_decide_eq_true (by first | (with_reducible assumption) | assumption)
       obtain ⟨ad531, e531, hx531_0⟩ := Kd.at_int HR1.out x8_1 p531 q531
       cases e531
       replace p531 := eq_true p531
       replace q531 := eq_true q531
       go_wp2_with (first | ((with_reducible refine gate_callee (f := 39) rfl ?_); refine goesL_ (some 21) rfl rfl Try.func39 (by kernel_rfl) rfl #[.int .i64 a0, .int .u32 (rd l1 x8_1)] rfl gl ?_; (with_reducible refine (annealref1_Class.calls k1 a0 (rd l1 x8_1) t532 _ A5.out).mono ?_); rintro e w' ⟨rfl, ⟨nd, rfl⟩⟩; refine ⟨_, rfl, ?_⟩))
       go_roundg k1
       case measure => have := HK1.out; omega
       case rel => exact ⟨(true), (true), (wrap64 (x8_1 + 1)), (by first | rfl | (simp; done) | (simp [*]; done) | (congr 1; (try unfold wrap64); omega) | (congr 1; rw [IntKind.wrap_u64]; omega)), (by first | rfl | (simp; done) | (simp [*]; done) | (congr 1; (try unfold wrap64); omega) | (congr 1; rw [IntKind.wrap_u64]; omega)), (by first | rfl | (simp; done) | (simp [*]; done) | (congr 1; (try unfold wrap64); omega) | (congr 1; rw [IntKind.wrap_u64]; omega)), H', ⟨by have := HK1.out; omega⟩, by repeat (first | exact Drawn0.refl _ | apply Drawn0.step)⟩
      ·replace c7 := Bool.eq_false_iff.mpr c7
       subst c7
       have H1 : (annealref1_nans.l0 k1 a0 l1 true (t532 == 5) (wrap64 (x8_1 + 1))) = some (r1, r2) := by rw [if_neg (show ¬ (false = true) by decide)] at H; exact H
       clear H
       have H := H1
       clear H1
       have H' := Aside0.mk H
       clear H
       have p531 : 0 ≤ (x8_1 : Int) := of_decide_eq_true (by first | (with_reducible assumption) | assumption)
       have q531 : x8_1 < (l1.length : Int) := of_decide_eq_true (by first | (with_reducible assumption) | assumption)
       obtain ⟨ad531, e531, hx531_0⟩ := Kd.at_int HR1.out x8_1 p531 q531
       cases e531
       replace p531 := eq_true p531
       replace q531 := eq_true q531
       go_wp2_with (first | ((with_reducible refine gate_callee (f := 39) rfl ?_); refine goesL_ (some 21) rfl rfl Try.func39 (by kernel_rfl) rfl #[.int .i64 a0, .int .u32 (rd l1 x8_1)] rfl gl ?_; (with_reducible refine (annealref1_Class.calls k1 a0 (rd l1 x8_1) t532 _ A5.out).mono ?_); rintro e w' ⟨rfl, ⟨nd, rfl⟩⟩; refine ⟨_, rfl, ?_⟩))
       go_roundg k1
       case measure => have := HK1.out; omega
       case rel => exact ⟨(true), ((t532 == 5)), (wrap64 (x8_1 + 1)), (by first | rfl | (simp; done) | (simp [*]; done) | (congr 1; (try unfold wrap64); omega) | (congr 1; rw [IntKind.wrap_u64]; omega)), (by first | rfl | (simp; done) | (simp [*]; done) | (congr 1; (try unfold wrap64); omega) | (congr 1; rw [IntKind.wrap_u64]; omega)), (by first | rfl | (simp; done) | (simp [*]; done) | (congr 1; (try unfold wrap64); omega) | (congr 1; rw [IntKind.wrap_u64]; omega)), H', ⟨by have := HK1.out; omega⟩, by repeat (first | exact Drawn0.refl _ | apply Drawn0.step)⟩
     ·replace c6 := Bool.eq_false_iff.mpr c6
      subst c6
      have H1 : (if t532 = 4 then (if x7_1 = true then (annealref1_nans.l0 k1 a0 l1 true true (wrap64 (x8_1 + 1))) else (annealref1_nans.l0 k1 a0 l1 true (t532 == 5) (wrap64 (x8_1 + 1)))) else (if x7_1 = true then (annealref1_nans.l0 k1 a0 l1 (t532 == 5) true (wrap64 (x8_1 + 1))) else (annealref1_nans.l0 k1 a0 l1 (t532 == 5) (t532 == 5) (wrap64 (x8_1 + 1))))) = some (r1, r2) := by rw [if_neg (show ¬ (false = true) by decide)] at H; exact H
      clear H
      have H := H1
      clear H1
      by_cases c8 : t532 = 4
      ·rw [if_pos c8] at H
       have c8b0 : (t532 == 4) = true := beq_iff_eq.mpr c8
       have c8b1 : (t532 != 4) = false := bne_eq_false_iff_eq.mpr c8
       clear c8
       by_cases c9 : x7_1 = true
       ·subst c9
        have H1 : (annealref1_nans.l0 k1 a0 l1 true true (wrap64 (x8_1 + 1))) = some (r1, r2) := by rw [if_pos rfl] at H; exact H
        clear H
        have H := H1
        clear H1
        have H' := Aside0.mk H
        clear H
        have p531 : 0 ≤ (x8_1 : Int) := of_decide_eq_true (by first | (with_reducible assumption) | assumption)
        have q531 : x8_1 < (l1.length : Int) := of_decide_eq_true (by first | (with_reducible assumption) | assumption)
        obtain ⟨ad531, e531, hx531_0⟩ := Kd.at_int HR1.out x8_1 p531 q531
        cases e531
        replace p531 := eq_true p531
        replace q531 := eq_true q531
        go_wp2_with (first | ((with_reducible refine gate_callee (f := 39) rfl ?_); refine goesL_ (some 21) rfl rfl Try.func39 (by kernel_rfl) rfl #[.int .i64 a0, .int .u32 (rd l1 x8_1)] rfl gl ?_; (with_reducible refine (annealref1_Class.calls k1 a0 (rd l1 x8_1) t532 _ A5.out).mono ?_); rintro e w' ⟨rfl, ⟨nd, rfl⟩⟩; refine ⟨_, rfl, ?_⟩))
        go_roundg k1
        case measure => have := HK1.out; omega
        case rel => exact ⟨(true), (true), (wrap64 (x8_1 + 1)), (by first | rfl | (simp; done) | (simp [*]; done) | (congr 1; (try unfold wrap64); omega) | (congr 1; rw [IntKind.wrap_u64]; omega)), (by first | rfl | (simp; done) | (simp [*]; done) | (congr 1; (try unfold wrap64); omega) | (congr 1; rw [IntKind.wrap_u64]; omega)), (by first | rfl | (simp; done) | (simp [*]; done) | (congr 1; (try unfold wrap64); omega) | (congr 1; rw [IntKind.wrap_u64]; omega)), H', ⟨by have := HK1.out; omega⟩, by repeat (first | exact Drawn0.refl _ | apply Drawn0.step)⟩
       ·replace c9 := Bool.eq_false_iff.mpr c9
        subst c9
        have H1 : (annealref1_nans.l0 k1 a0 l1 true (t532 == 5) (wrap64 (x8_1 + 1))) = some (r1, r2) := by rw [if_neg (show ¬ (false = true) by decide)] at H; exact H
        clear H
        have H := H1
        clear H1
        have H' := Aside0.mk H
        clear H
        have p531 : 0 ≤ (x8_1 : Int) := of_decide_eq_true (by first | (with_reducible assumption) | assumption)
        have q531 : x8_1 < (l1.length : Int) := of_decide_eq_true (by first | (with_reducible assumption) | assumption)
        obtain ⟨ad531, e531, hx531_0⟩ := Kd.at_int HR1.out x8_1 p531 q531
        cases e531
        replace p531 := eq_true p531
        replace q531 := eq_true q531
        go_wp2_with (first | ((with_reducible refine gate_callee (f := 39) rfl ?_); refine goesL_ (some 21) rfl rfl Try.func39 (by kernel_rfl) rfl #[.int .i64 a0, .int .u32 (rd l1 x8_1)] rfl gl ?_; (with_reducible refine (annealref1_Class.calls k1 a0 (rd l1 x8_1) t532 _ A5.out).mono ?_); rintro e w' ⟨rfl, ⟨nd, rfl⟩⟩; refine ⟨_, rfl, ?_⟩))
        go_roundg k1
        case measure => have := HK1.out; omega
        case rel => exact ⟨(true), ((t532 == 5)), (wrap64 (x8_1 + 1)), (by first | rfl | (simp; done) | (simp [*]; done) | (congr 1; (try unfold wrap64); omega) | (congr 1; rw [IntKind.wrap_u64]; omega)), (by first | rfl | (simp; done) | (simp [*]; done) | (congr 1; (try unfold wrap64); omega) | (congr 1; rw [IntKind.wrap_u64]; omega)), (by first | rfl | (simp; done) | (simp [*]; done) | (congr 1; (try unfold wrap64); omega) | (congr 1; rw [IntKind.wrap_u64]; omega)), H', ⟨by have := HK1.out; omega⟩, by repeat (first | exact Drawn0.refl _ | apply Drawn0.step)⟩
      ·rw [if_neg c8] at H
       have c8b0 : (t532 == 4) = false := beq_eq_false_iff_ne.mpr c8
       have c8b1 : (t532 != 4) = true := bne_iff_ne.mpr c8
       by_cases c10 : x7_1 = true
       ·subst c10
        have H1 : (annealref1_nans.l0 k1 a0 l1 (t532 == 5) true (wrap64 (x8_1 + 1))) = some (r1, r2) := by rw [if_pos rfl] at H; exact H
        clear H
        have H := H1
        clear H1
        have H' := Aside0.mk H
        clear H
        have p531 : 0 ≤ (x8_1 : Int) := of_decide_eq_true (by first | (with_reducible assumption) | assumption)
        have q531 : x8_1 < (l1.length : Int) := of_decide_eq_true (by first | (with_reducible assumption) | assumption)
        obtain ⟨ad531, e531, hx531_0⟩ := Kd.at_int HR1.out x8_1 p531 q531
        cases e531
        replace p531 := eq_true p531
        replace q531 := eq_true q531
        go_wp2_with (first | ((with_reducible refine gate_callee (f := 39) rfl ?_); refine goesL_ (some 21) rfl rfl Try.func39 (by kernel_rfl) rfl #[.int .i64 a0, .int .u32 (rd l1 x8_1)] rfl gl ?_; (with_reducible refine (annealref1_Class.calls k1 a0 (rd l1 x8_1) t532 _ A5.out).mono ?_); rintro e w' ⟨rfl, ⟨nd, rfl⟩⟩; refine ⟨_, rfl, ?_⟩))
        go_roundg k1
        case measure => have := HK1.out; omega
        case rel => exact ⟨((t532 == 5)), (true), (wrap64 (x8_1 + 1)), (by first | rfl | (simp; done) | (simp [*]; done) | (congr 1; (try unfold wrap64); omega) | (congr 1; rw [IntKind.wrap_u64]; omega)), (by first | rfl | (simp; done) | (simp [*]; done) | (congr 1; (try unfold wrap64); omega) | (congr 1; rw [IntKind.wrap_u64]; omega)), (by first | rfl | (simp; done) | (simp [*]; done) | (congr 1; (try unfold wrap64); omega) | (congr 1; rw [IntKind.wrap_u64]; omega)), H', ⟨by have := HK1.out; omega⟩, by repeat (first | exact Drawn0.refl _ | apply Drawn0.step)⟩
       ·replace c10 := Bool.eq_false_iff.mpr c10
        subst c10
        have H1 : (annealref1_nans.l0 k1 a0 l1 (t532 == 5) (t532 == 5) (wrap64 (x8_1 + 1))) = some (r1, r2) := by rw [if_neg (show ¬ (false = true) by decide)] at H; exact H
        clear H
        have H := H1
        clear H1
        have H' := Aside0.mk H
        clear H
        have p531 : 0 ≤ (x8_1 : Int) := of_decide_eq_true (by first | (with_reducible assumption) | assumption)
        have q531 : x8_1 < (l1.length : Int) := of_decide_eq_true (by first | (with_reducible assumption) | assumption)
        obtain ⟨ad531, e531, hx531_0⟩ := Kd.at_int HR1.out x8_1 p531 q531
        cases e531
        replace p531 := eq_true p531
        replace q531 := eq_true q531
        go_wp2_with (first | ((with_reducible refine gate_callee (f := 39) rfl ?_); refine goesL_ (some 21) rfl rfl Try.func39 (by kernel_rfl) rfl #[.int .i64 a0, .int .u32 (rd l1 x8_1)] rfl gl ?_; (with_reducible refine (annealref1_Class.calls k1 a0 (rd l1 x8_1) t532 _ A5.out).mono ?_); rintro e w' ⟨rfl, ⟨nd, rfl⟩⟩; refine ⟨_, rfl, ?_⟩))
        go_roundg k1
        case measure => have := HK1.out; omega
        case rel => exact ⟨((t532 == 5)), ((t532 == 5)), (wrap64 (x8_1 + 1)), (by first | rfl | (simp; done) | (simp [*]; done) | (congr 1; (try unfold wrap64); omega) | (congr 1; rw [IntKind.wrap_u64]; omega)), (by first | rfl | (simp; done) | (simp [*]; done) | (congr 1; (try unfold wrap64); omega) | (congr 1; rw [IntKind.wrap_u64]; omega)), (by first | rfl | (simp; done) | (simp [*]; done) | (congr 1; (try unfold wrap64); omega) | (congr 1; rw [IntKind.wrap_u64]; omega)), H', ⟨by have := HK1.out; omega⟩, by repeat (first | exact Drawn0.refl _ | apply Drawn0.step)⟩
    ·rw [if_neg c4] at H
     exact absurd H (by simp)
   ·rw [if_neg c3] at H
    have c3b0 : decide (x8_1 < (l1.length : Int)) = false := decide_eq_false c3
    clear c3
    simp only [Option.some.injEq, Prod.mk.injEq] at H
    obtain ⟨rfl, rfl⟩ := H
    go_wp2
    go_ret2
    exact ⟨by first | rfl | (simp; done) | (simp [*]; done) | (congr 1; (try unfold wrap64); omega) | (congr 1; rw [IntKind.wrap_u64]; omega), by repeat (first | exact Drawn0.refl _ | apply Drawn0.step)⟩

-- NEED 0
/-! ### annealref1_zero: function 19 -/
def annealref1_zero.f (k : Nat) (a0 : Int) (a1 : Int) : Option (Bool) := (annealref1_Class.f k a0 a1).bind fun t533 => (some (t533 == 0))
theorem annealref1_zero.mono : ∀ a0 a1 k, LeO (annealref1_zero.f k a0 a1) (annealref1_zero.f (k + 1) a0 a1) := by
 intro a0 a1 k
 unfold annealref1_zero.f
 repeat' first
   |(with_reducible exact annealref1_Class.mono _ _ _)
   |(with_reducible exact LeO.refl _)
   |(with_reducible exact LeO.none _)
   |(with_reducible refine LeO.ite ?_ ?_)
   |(with_reducible refine LeO.bind ?_ (fun _ => ?_))
   |exact annealref1_Class.mono _ _ _
   |exact LeO.none _
   |refine LeO.ite ?_ ?_
   |refine LeO.bind ?_ (fun _ => ?_)
set_option maxHeartbeats 8000000 in
set_option maxRecDepth 100000 in
theorem annealref1_zero.calls (k : Nat) (a0 : Int) (a1 : Int) (r : Bool) (w : World) (h : annealref1_zero.f k a0 a1 = some r) :
  Calls Try.prog 19 #[.int .i64 a0, .int .u32 a1] w fun e w' => e = .returned (.bool r) ∧ Drawn0 w w' := by
 have H : ((annealref1_Class.f k a0 a1).bind fun t533 => (some (t533 == 0))) = some r := h
 clear h
 replace H := Option.bind_eq_some_iff.mp H
 obtain ⟨t533, A30, H⟩ := H
 replace H : (some (t533 == 0)) = some r := H
 have A3 := Aside0.mk A30
 clear A30
 obtain rfl := Option.some.inj H
 go_enter Try.func19, Try.ntmps19
 go_wp2_with (first | ((with_reducible refine gate_callee (f := 39) rfl ?_); refine goesL_ (some 7) rfl rfl Try.func39 (by kernel_rfl) rfl #[.int .i64 a0, .int .u32 a1] rfl gl ?_; (with_reducible refine (annealref1_Class.calls k a0 a1 t533 _ A3.out).mono ?_); rintro e w' ⟨rfl, ⟨nd, rfl⟩⟩; refine ⟨_, rfl, ?_⟩))
 go_ret
 exact ⟨by first | rfl | (simp; done) | (simp [*]; done) | (congr 1; (try unfold wrap64); omega) | (congr 1; rw [IntKind.wrap_u64]; omega), by repeat (first | exact Drawn0.refl _ | apply Drawn0.step)⟩

-- NEED 0
/-! ### annealref1_sign: function 41 -/
def annealref1_sign.f (a0 : Int) (a1 : Bool) : Option (Int) := (annealref1_Widths.f a0).bind fun bt534 => (if a1 = true then (if 0 ≤ (wrap64 (bt534.1 + bt534.2)) then (some (shl .u32 1 (wrap64 (bt534.1 + bt534.2)))) else (none)) else (some 0))
set_option maxHeartbeats 8000000 in
set_option maxRecDepth 100000 in
theorem annealref1_sign.calls (a0 : Int) (a1 : Bool) (r : Int) (w : World) (h : annealref1_sign.f a0 a1 = some r) :
  Calls Try.prog 41 #[.int .i64 a0, .bool a1] w fun e w' => e = .returned (.int .u32 r) ∧ Drawn0 w w' := by
 have H : ((annealref1_Widths.f a0).bind fun bt534 => (if a1 = true then (if 0 ≤ (wrap64 (bt534.1 + bt534.2)) then (some (shl .u32 1 (wrap64 (bt534.1 + bt534.2)))) else (none)) else (some 0))) = some r := h
 clear h
 replace H := Option.bind_eq_some_iff.mp H
 obtain ⟨⟨t534, t535⟩, A30, H⟩ := H
 replace H : (if a1 = true then (if 0 ≤ (wrap64 (t534 + t535)) then (some (shl .u32 1 (wrap64 (t534 + t535)))) else (none)) else (some 0)) = some r := H
 have A3 := Aside0.mk A30
 clear A30
 by_cases c4 : a1 = true
 ·subst c4
  have H1 : (if 0 ≤ (wrap64 (t534 + t535)) then (some (shl .u32 1 (wrap64 (t534 + t535)))) else (none)) = some r := by rw [if_pos rfl] at H; exact H
  clear H
  have H := H1
  clear H1
  obtain ⟨ji5, hji5⟩ : ∃ j_ : Int, (wrap64 (t534 + t535)) = j_ := ⟨_, rfl⟩
  replace H : (if 0 ≤ (ji5) then (some (shl .u32 1 (ji5))) else (none)) = some r := by first | (rw [hji5] at H; exact H) | (simp only [hji5] at H ⊢; exact H)
  (try rw [hji5] at A3)
  have hji5w : (IntKind.i64.wrap (t534 + t535)) = ji5 := (i64_w _).trans hji5
  by_cases c6 : 0 ≤ (ji5)
  ·rw [if_pos c6] at H
   have c6b0 := eq_true c6
   have c6b1 : decide (0 ≤ (ji5)) = true := decide_eq_true c6
   clear c6
   obtain ⟨ji7, hji7⟩ : ∃ j_ : Int, (shl .u32 1 (ji5)) = j_ := ⟨_, rfl⟩
   replace H : (some ji7) = some r := by first | (rw [hji7] at H; exact H) | (simp only [hji7] at H ⊢; exact H)
   (try rw [hji7] at A3)
   have hji7_ : (IntKind.u32.wrap (1 * 2 ^ min (ji5).toNat 32)) = ji7 := hji7
   have hji7z : (ji5) ≤ 32 → (IntKind.u32.wrap (1 * 2 ^ (ji5).toNat)) = ji7 := shl_small hji7
   have hji7u : (IntKind.u32.wrap (2 ^ min (ji5).toNat 32)) = ji7 := by have h_ := hji7_; rw [Int.one_mul] at h_; exact h_
   have hji7v : (ji5) ≤ 32 → (IntKind.u32.wrap (2 ^ (ji5).toNat)) = ji7 := fun hle_ => by have h_ := hji7z hle_; rw [Int.one_mul] at h_; exact h_
   obtain rfl := Option.some.inj H
   go_enter Try.func41, Try.ntmps41
   go_wp2_with (first | ((with_reducible refine gate_callee (f := 66) rfl ?_); refine goesL_ (some 9) rfl rfl Try.func66 (by kernel_rfl) rfl #[.int .i64 a0] rfl gl ?_; (with_reducible refine (annealref1_Widths.calls a0 t534 t535 _ A3.out).mono ?_); rintro e w' ⟨rfl, ⟨nd, rfl⟩⟩; refine ⟨_, rfl, ?_⟩))
   go_ret
   exact ⟨by first | rfl | (simp; done) | (simp only [← hji5, ← hji7] <;> (first | rfl | (simp; done))) | (simp [*]; done) | (congr 1; (try unfold wrap64); omega) | (congr 1; rw [IntKind.wrap_u64]; omega), by repeat (first | exact Drawn0.refl _ | apply Drawn0.step)⟩
  ·rw [if_neg c6] at H
   exact absurd H (by simp)
 ·replace c4 := Bool.eq_false_iff.mpr c4
  subst c4
  have H1 : (some 0) = some r := by rw [if_neg (show ¬ (false = true) by decide)] at H; exact H
  clear H
  have H := H1
  clear H1
  obtain rfl := Option.some.inj H
  go_enter Try.func41, Try.ntmps41
  go_wp2_with (first | ((with_reducible refine gate_callee (f := 66) rfl ?_); refine goesL_ (some 9) rfl rfl Try.func66 (by kernel_rfl) rfl #[.int .i64 a0] rfl gl ?_; (with_reducible refine (annealref1_Widths.calls a0 t534 t535 _ A3.out).mono ?_); rintro e w' ⟨rfl, ⟨nd, rfl⟩⟩; refine ⟨_, rfl, ?_⟩))
  go_ret
  exact ⟨by first | rfl | (simp; done) | (simp [*]; done) | (congr 1; (try unfold wrap64); omega) | (congr 1; rw [IntKind.wrap_u64]; omega), by repeat (first | exact Drawn0.refl _ | apply Drawn0.step)⟩

-- NEED 0
/-! ### annealref1_neg: function 42 -/
def annealref1_neg.f (a0 : Int) (a1 : Int) : Option (Bool) := (annealref1_parts.f a0 a1).bind fun bt536 => (some bt536.1)
set_option maxHeartbeats 8000000 in
set_option maxRecDepth 100000 in
theorem annealref1_neg.calls (a0 : Int) (a1 : Int) (r : Bool) (w : World) (h : annealref1_neg.f a0 a1 = some r) :
  Calls Try.prog 42 #[.int .i64 a0, .int .u32 a1] w fun e w' => e = .returned (.bool r) ∧ Drawn0 w w' := by
 have H : ((annealref1_parts.f a0 a1).bind fun bt536 => (some bt536.1)) = some r := h
 clear h
 replace H := Option.bind_eq_some_iff.mp H
 obtain ⟨⟨t536, t537, t538⟩, A30, H⟩ := H
 replace H : (some t536) = some r := H
 have A3 := Aside0.mk A30
 clear A30
 obtain rfl := Option.some.inj H
 go_enter Try.func42, Try.ntmps42
 go_wp2_with (first | ((with_reducible refine gate_callee (f := 67) rfl ?_); refine goesL_ (some 11) rfl rfl Try.func67 (by kernel_rfl) rfl #[.int .i64 a0, .int .u32 a1] rfl gl ?_; (with_reducible refine (annealref1_parts.calls a0 a1 t536 t537 t538 _ A3.out).mono ?_); rintro e w' ⟨rfl, ⟨nd, rfl⟩⟩; refine ⟨_, rfl, ?_⟩))
 go_ret
 exact ⟨by first | rfl | (simp; done) | (simp [*]; done) | (congr 1; (try unfold wrap64); omega) | (congr 1; rw [IntKind.wrap_u64]; omega), by repeat (first | exact Drawn0.refl _ | apply Drawn0.step)⟩

-- NEED 0
/-! ### annealref1_Key: function 20 -/
def annealref1_Key.f (a0 : Int) (a1 : Int) : Option (Int) := (annealref1_Mask.f a0).bind fun t539 => ((annealref1_sign.f a0 true).bind fun t540 => ((annealref1_neg.f a0 a1).bind fun t541 => (if t541 = true then (some (wrap64 ((-1) - (wrap64 (Go.bits .andNot .u32 (Go.bits .and .u32 a1 t539) t540))))) else (some (wrap64 (Go.bits .andNot .u32 (Go.bits .and .u32 a1 t539) t540))))))
set_option maxHeartbeats 8000000 in
set_option maxRecDepth 100000 in
theorem annealref1_Key.calls (a0 : Int) (a1 : Int) (r : Int) (w : World) (h : annealref1_Key.f a0 a1 = some r) :
  Calls Try.prog 20 #[.int .i64 a0, .int .u32 a1] w fun e w' => e = .returned (.int .i64 r) ∧ Drawn0 w w' := by
 have H : ((annealref1_Mask.f a0).bind fun t539 => ((annealref1_sign.f a0 true).bind fun t540 => ((annealref1_neg.f a0 a1).bind fun t541 => (if t541 = true then (some (wrap64 ((-1) - (wrap64 (Go.bits .andNot .u32 (Go.bits .and .u32 a1 t539) t540))))) else (some (wrap64 (Go.bits .andNot .u32 (Go.bits .and .u32 a1 t539) t540))))))) = some r := h
 clear h
 replace H := Option.bind_eq_some_iff.mp H
 obtain ⟨t539, A30, H⟩ := H
 replace H : ((annealref1_sign.f a0 true).bind fun t540 => ((annealref1_neg.f a0 a1).bind fun t541 => (if t541 = true then (some (wrap64 ((-1) - (wrap64 (Go.bits .andNot .u32 (Go.bits .and .u32 a1 t539) t540))))) else (some (wrap64 (Go.bits .andNot .u32 (Go.bits .and .u32 a1 t539) t540)))))) = some r := H
 have A3 := Aside0.mk A30
 clear A30
 replace H := Option.bind_eq_some_iff.mp H
 obtain ⟨t540, A40, H⟩ := H
 replace H : ((annealref1_neg.f a0 a1).bind fun t541 => (if t541 = true then (some (wrap64 ((-1) - (wrap64 (Go.bits .andNot .u32 (Go.bits .and .u32 a1 t539) t540))))) else (some (wrap64 (Go.bits .andNot .u32 (Go.bits .and .u32 a1 t539) t540))))) = some r := H
 have A4 := Aside0.mk A40
 clear A40
 replace H := Option.bind_eq_some_iff.mp H
 obtain ⟨t541, A50, H⟩ := H
 replace H : (if t541 = true then (some (wrap64 ((-1) - (wrap64 (Go.bits .andNot .u32 (Go.bits .and .u32 a1 t539) t540))))) else (some (wrap64 (Go.bits .andNot .u32 (Go.bits .and .u32 a1 t539) t540)))) = some r := H
 have A5 := Aside0.mk A50
 clear A50
 by_cases c6 : t541 = true
 ·subst c6
  have H1 : (some (wrap64 ((-1) - (wrap64 (Go.bits .andNot .u32 (Go.bits .and .u32 a1 t539) t540))))) = some r := by rw [if_pos rfl] at H; exact H
  clear H
  have H := H1
  clear H1
  obtain rfl := Option.some.inj H
  go_enter Try.func20, Try.ntmps20
  go_wp2_with (first | ((with_reducible refine gate_callee (f := 40) rfl ?_); refine goesL_ (some 8) rfl rfl Try.func40 (by kernel_rfl) rfl #[.int .i64 a0] rfl gl ?_; (with_reducible refine (annealref1_Mask.calls a0 t539 _ A3.out).mono ?_); rintro e w' ⟨rfl, ⟨nd, rfl⟩⟩; refine ⟨_, rfl, ?_⟩) | ((with_reducible refine gate_callee (f := 41) rfl ?_); refine goesL_ (some 11) rfl rfl Try.func41 (by kernel_rfl) rfl #[.int .i64 a0, .bool true] rfl gl ?_; (with_reducible refine (annealref1_sign.calls a0 true t540 _ A4.out).mono ?_); rintro e w' ⟨rfl, ⟨nd, rfl⟩⟩; refine ⟨_, rfl, ?_⟩) | ((with_reducible refine gate_callee (f := 42) rfl ?_); refine goesL_ (some 16) rfl rfl Try.func42 (by kernel_rfl) rfl #[.int .i64 a0, .int .u32 a1] rfl gl ?_; (with_reducible refine (annealref1_neg.calls a0 a1 true _ A5.out).mono ?_); rintro e w' ⟨rfl, ⟨nd, rfl⟩⟩; refine ⟨_, rfl, ?_⟩))
  go_ret
  exact ⟨by first | rfl | (simp; done) | (simp [*]; done) | (congr 1; (try unfold wrap64); omega) | (congr 1; rw [IntKind.wrap_u64]; omega), by repeat (first | exact Drawn0.refl _ | apply Drawn0.step)⟩
 ·replace c6 := Bool.eq_false_iff.mpr c6
  subst c6
  have H1 : (some (wrap64 (Go.bits .andNot .u32 (Go.bits .and .u32 a1 t539) t540))) = some r := by rw [if_neg (show ¬ (false = true) by decide)] at H; exact H
  clear H
  have H := H1
  clear H1
  obtain rfl := Option.some.inj H
  go_enter Try.func20, Try.ntmps20
  go_wp2_with (first | ((with_reducible refine gate_callee (f := 40) rfl ?_); refine goesL_ (some 8) rfl rfl Try.func40 (by kernel_rfl) rfl #[.int .i64 a0] rfl gl ?_; (with_reducible refine (annealref1_Mask.calls a0 t539 _ A3.out).mono ?_); rintro e w' ⟨rfl, ⟨nd, rfl⟩⟩; refine ⟨_, rfl, ?_⟩) | ((with_reducible refine gate_callee (f := 41) rfl ?_); refine goesL_ (some 11) rfl rfl Try.func41 (by kernel_rfl) rfl #[.int .i64 a0, .bool true] rfl gl ?_; (with_reducible refine (annealref1_sign.calls a0 true t540 _ A4.out).mono ?_); rintro e w' ⟨rfl, ⟨nd, rfl⟩⟩; refine ⟨_, rfl, ?_⟩) | ((with_reducible refine gate_callee (f := 42) rfl ?_); refine goesL_ (some 16) rfl rfl Try.func42 (by kernel_rfl) rfl #[.int .i64 a0, .int .u32 a1] rfl gl ?_; (with_reducible refine (annealref1_neg.calls a0 a1 false _ A5.out).mono ?_); rintro e w' ⟨rfl, ⟨nd, rfl⟩⟩; refine ⟨_, rfl, ?_⟩))
  go_ret
  exact ⟨by first | rfl | (simp; done) | (simp [*]; done) | (congr 1; (try unfold wrap64); omega) | (congr 1; rw [IntKind.wrap_u64]; omega), by repeat (first | exact Drawn0.refl _ | apply Drawn0.step)⟩


-- NEED 0
/-! ### annealref1_Compare: function 12 -/
def annealref1_Compare.j0 : Nat → Int → Int → Int → Bool → Option (Int × Bool)
 |0, _, _, _, _ => none
 |k + 1, x0, x1, x2, x28 => if x28 = true then (some (0, true)) else ((annealref1_Key.f x0 x1).bind fun t549 => ((annealref1_Key.f x0 x2).bind fun t550 => (if t549 < t550 then (some ((-1), true)) else (if t549 > t550 then (some (1, true)) else (some (0, true))))))
def annealref1_Compare.f (k : Nat) (a0 : Int) (a1 : Int) (a2 : Int) : Option (Int × Bool) := (annealref1_nans.f k a0 (([a1, a2] : List Int))).bind fun bt545 => (if bt545.1 = true then (some (0, false)) else ((annealref1_zero.f k a0 a1).bind fun t547 => (if t547 = true then ((annealref1_zero.f k a0 a2).bind fun t548 => (annealref1_Compare.j0 k a0 a1 a2 t548)) else (annealref1_Compare.j0 k a0 a1 a2 false))))
theorem annealref1_Compare.mono_l : ∀ k, (∀ y0 y1 y2 y3, LeO (annealref1_Compare.j0 k y0 y1 y2 y3) (annealref1_Compare.j0 (k + 1) y0 y1 y2 y3))
 |0 => fun _ _ _ _ r h => by simp [annealref1_Compare.j0] at h
 |k + 1 => by
  have ih0 := annealref1_Compare.mono_l k
  ·intro y0 y1 y2 y3
   unfold annealref1_Compare.j0
   repeat' first
   |(with_reducible exact ih0 _ _ _ _)
   |(with_reducible exact annealref1_nans.mono _ _ _)
   |(with_reducible exact annealref1_zero.mono _ _ _)
   |(with_reducible exact LeO.refl _)
   |(with_reducible exact LeO.none _)
   |(with_reducible refine LeO.ite ?_ ?_)
   |(with_reducible refine LeO.bind ?_ (fun _ => ?_))
   |exact ih0 _ _ _ _
   |exact annealref1_nans.mono _ _ _
   |exact annealref1_zero.mono _ _ _
   |exact LeO.none _
   |refine LeO.ite ?_ ?_
   |refine LeO.bind ?_ (fun _ => ?_)
theorem annealref1_Compare.mono : ∀ a0 a1 a2 k, LeO (annealref1_Compare.f k a0 a1 a2) (annealref1_Compare.f (k + 1) a0 a1 a2) := by
 intro a0 a1 a2 k
 have ih0 := annealref1_Compare.mono_l k
 unfold annealref1_Compare.f
 repeat' first
   |(with_reducible exact ih0 _ _ _ _)
   |(with_reducible exact annealref1_nans.mono _ _ _)
   |(with_reducible exact annealref1_zero.mono _ _ _)
   |(with_reducible exact LeO.refl _)
   |(with_reducible exact LeO.none _)
   |(with_reducible refine LeO.ite ?_ ?_)
   |(with_reducible refine LeO.bind ?_ (fun _ => ?_))
   |exact ih0 _ _ _ _
   |exact annealref1_nans.mono _ _ _
   |exact annealref1_zero.mono _ _ _
   |exact LeO.none _
   |refine LeO.ite ?_ ?_
   |refine LeO.bind ?_ (fun _ => ?_)
set_option maxHeartbeats 8000000 in
set_option maxRecDepth 100000 in
theorem annealref1_Compare.calls (k : Nat) (a0 : Int) (a1 : Int) (a2 : Int) (r1 : Int) (r2 : Bool) (w : World) (h : annealref1_Compare.f k a0 a1 a2 = some (r1, r2)) :
  Calls Try.prog 12 #[.int .i64 a0, .int .u32 a1, .int .u32 a2] w fun e w' => e = .returned (.tuple #[.int .i64 r1, .bool r2]) ∧ Below w.heap.size w w' := by
 have HB := Aside0.mk (Below.refl w.heap.size w)
 have H : ((annealref1_nans.f k a0 (([a1, a2] : List Int))).bind fun bt545 => (if bt545.1 = true then (some (0, false)) else ((annealref1_zero.f k a0 a1).bind fun t547 => (if t547 = true then ((annealref1_zero.f k a0 a2).bind fun t548 => (annealref1_Compare.j0 k a0 a1 a2 t548)) else (annealref1_Compare.j0 k a0 a1 a2 false))))) = some (r1, r2) := h
 clear h
 obtain ⟨y542, hy542⟩ : ∃ y_ : List Int, y_ = (([a1, a2] : List Int)) := ⟨_, rfl⟩
 replace H : ((annealref1_nans.f k a0 y542).bind fun bt545 => (if bt545.1 = true then (some (0, false)) else ((annealref1_zero.f k a0 a1).bind fun t547 => (if t547 = true then ((annealref1_zero.f k a0 a2).bind fun t548 => (annealref1_Compare.j0 k a0 a1 a2 t548)) else (annealref1_Compare.j0 k a0 a1 a2 false))))) = some (r1, r2) := by first | (rw [hy542]; with_reducible exact H) | (have H2_ := (Option.bind_some _ _).symm.trans H; rw [hy542]; with_reducible exact H2_) | (have H2_ := (Option.bind_some _ _).symm.trans H; with_reducible exact H2_) | with_reducible exact H | (rw [hy542]; exact H) | exact H
 have Ny542 := Aside0.mk hy542
 clear hy542
 replace H := Option.bind_eq_some_iff.mp H
 obtain ⟨⟨t545, t546⟩, A40, H⟩ := H
 replace H : (if t545 = true then (some (0, false)) else ((annealref1_zero.f k a0 a1).bind fun t547 => (if t547 = true then ((annealref1_zero.f k a0 a2).bind fun t548 => (annealref1_Compare.j0 k a0 a1 a2 t548)) else (annealref1_Compare.j0 k a0 a1 a2 false)))) = some (r1, r2) := H
 have A4 := Aside0.mk A40
 clear A40
 by_cases c5 : t545 = true
 ·subst c5
  have H1 : (some (0, false)) = some (r1, r2) := by rw [if_pos rfl] at H; exact H
  clear H
  have H := H1
  clear H1
  simp only [Option.some.injEq, Prod.mk.injEq] at H
  obtain ⟨rfl, rfl⟩ := H
  go_enter Try.func12, Try.ntmps12
  go_wp2_with (first | ((with_reducible refine gate_dst (N := 16) rfl ?_); refine Kd.R_lit (Kd.int .u32) _ 23 ?hg (N := 16) ?hd (xs := ([a1, a2] : List Int)) (inner := [.int .u32 a1, .int .u32 a2]) (ok := fun _ => True) (okp := fun _ => True) ?hr ?hp (fun _ hk => hk) trivial (Below.refl _ _) (Nat.le_refl _) (by simp) ?_; (case hd => rfl); (case hg => rfl); (case hr => first | (go_simp; done) | (go_simp; rfl)); (case hp => exact (Reps.one (show Kd.M (Kd.int .u32) _ _ _ a1 [.int .u32 a1] from rfl) (Reps.one (show Kd.M (Kd.int .u32) _ _ _ a2 [.int .u32 a2] from rfl) (Reps.none _ _)))); intro v543 w6 ho7 hb hg_ hnew_; clear hg_ hnew_; (first | rw [← Ny542.out] at ho7 | (simp only [Int.reduceToNat] at ho7; rw [← Ny542.out] at ho7)); have n0_ := Aside0.mk (Kd.R_lower ho7 (below_size (bl0 HB.out))); have n1_ := Aside0.mk (below_step (bl0 HB.out) hb); clear HB; have HO544 := n0_; have HB := n1_; clear n0_ n1_; clear hb ho7; obtain ⟨Ao8, co8, eo8⟩ := Kd.R_slice HO544.out; subst eo8) | ((with_reducible refine gate_callee (f := 18) rfl ?_); refine goesL_ (some 17) rfl rfl Try.func18 (by kernel_rfl) rfl #[.int .i64 a0, .slice Ao8 y542.length co8] rfl gl ?_; (with_reducible refine (annealref1_nans.calls k a0 _ _ y542 true t546 _ ?side1 ?side2 A4.out).mono ?_); (case side1 => repeat (first | exact (Kd.R_reads' HO544.out).2.2 | (with_reducible refine Kd.C_alloc ?_ _) | (with_reducible refine Kd.C_drewN ?_ _) | (with_reducible refine Kd.C_drew ?_))); (case side2 => exact (Kd.R_reads' HO544.out).2.1); rintro e w' ⟨rfl, ⟨nd, rfl⟩⟩; refine ⟨_, rfl, ?_⟩))
  go_ret2
  exact ⟨by first | rfl | (simp [errW_none, errW_some] <;> rfl) | (simp [*, errW_none, errW_some] <;> rfl), bl0 HB.out⟩
 ·replace c5 := Bool.eq_false_iff.mpr c5
  subst c5
  have H1 : ((annealref1_zero.f k a0 a1).bind fun t547 => (if t547 = true then ((annealref1_zero.f k a0 a2).bind fun t548 => (annealref1_Compare.j0 k a0 a1 a2 t548)) else (annealref1_Compare.j0 k a0 a1 a2 false))) = some (r1, r2) := by rw [if_neg (show ¬ (false = true) by decide)] at H; exact H
  clear H
  have H := H1
  clear H1
  have HC9 := Aside0.mk H
  clear H
  go_enter Try.func12, Try.ntmps12
  go_upto_region 4 with (first | ((with_reducible refine gate_dst (N := 16) rfl ?_); refine Kd.R_lit (Kd.int .u32) _ 23 ?hg (N := 16) ?hd (xs := ([a1, a2] : List Int)) (inner := [.int .u32 a1, .int .u32 a2]) (ok := fun _ => True) (okp := fun _ => True) ?hr ?hp (fun _ hk => hk) trivial (Below.refl _ _) (Nat.le_refl _) (by simp) ?_; (case hd => rfl); (case hg => rfl); (case hr => first | (go_simp; done) | (go_simp; rfl)); (case hp => exact (Reps.one (show Kd.M (Kd.int .u32) _ _ _ a1 [.int .u32 a1] from rfl) (Reps.one (show Kd.M (Kd.int .u32) _ _ _ a2 [.int .u32 a2] from rfl) (Reps.none _ _)))); intro v543 w10 ho11 hb hg_ hnew_; clear hg_ hnew_; (first | rw [← Ny542.out] at ho11 | (simp only [Int.reduceToNat] at ho11; rw [← Ny542.out] at ho11)); have n0_ := Aside0.mk (Kd.R_lower ho11 (below_size (bl0 HB.out))); have n1_ := Aside0.mk (below_step (bl0 HB.out) hb); clear HB; have HO544 := n0_; have HB := n1_; clear n0_ n1_; clear hb ho11; obtain ⟨Ao12, co12, eo12⟩ := Kd.R_slice HO544.out; subst eo12) | ((with_reducible refine gate_callee (f := 18) rfl ?_); refine goesL_ (some 17) rfl rfl Try.func18 (by kernel_rfl) rfl #[.int .i64 a0, .slice Ao12 y542.length co12] rfl gl ?_; (with_reducible refine (annealref1_nans.calls k a0 _ _ y542 false t546 _ ?side1 ?side2 A4.out).mono ?_); (case side1 => repeat (first | exact (Kd.R_reads' HO544.out).2.2 | (with_reducible refine Kd.C_alloc ?_ _) | (with_reducible refine Kd.C_drewN ?_ _) | (with_reducible refine Kd.C_drew ?_))); (case side2 => exact (Kd.R_reads' HO544.out).2.1); rintro e w' ⟨rfl, ⟨nd, rfl⟩⟩; refine ⟨_, rfl, ?_⟩))
  (try simp only [Act.put, sb, sz, ss])
  go_cut [28] (fun v28 wc => ∃ (kq : Nat) (x28_8 : Bool), v28 = .bool x28_8 ∧ Aside0 (annealref1_Compare.j0 kq a0 a1 a2 x28_8 = some (r1, r2)) ∧ Aside0 (kq ≤ k) ∧ Aside0 (Below w.heap.size w wc))
  case first =>
   have H := HC9.out
   clear HC9
   replace H := Option.bind_eq_some_iff.mp H
   obtain ⟨t547, A130, H⟩ := H
   replace H : (if t547 = true then ((annealref1_zero.f k a0 a2).bind fun t548 => (annealref1_Compare.j0 k a0 a1 a2 t548)) else (annealref1_Compare.j0 k a0 a1 a2 false)) = some (r1, r2) := H
   have A13 := Aside0.mk A130
   clear A130
   by_cases c14 : t547 = true
   ·subst c14
    have H1 : ((annealref1_zero.f k a0 a2).bind fun t548 => (annealref1_Compare.j0 k a0 a1 a2 t548)) = some (r1, r2) := by rw [if_pos rfl] at H; exact H
    clear H
    have H := H1
    clear H1
    replace H := Option.bind_eq_some_iff.mp H
    obtain ⟨t548, A150, H⟩ := H
    replace H : (annealref1_Compare.j0 k a0 a1 a2 t548) = some (r1, r2) := H
    have A15 := Aside0.mk A150
    clear A150
    have H' := Aside0.mk H
    clear H
    go_wp2_with (first | ((with_reducible refine gate_callee (f := 19) rfl ?_); refine goesL_ (some 23) rfl rfl Try.func19 (by kernel_rfl) rfl #[.int .i64 a0, .int .u32 a1] rfl gl ?_; (with_reducible refine (annealref1_zero.calls k a0 a1 true _ A13.out).mono ?_); rintro e w' ⟨rfl, ⟨nd, rfl⟩⟩; refine ⟨_, rfl, ?_⟩) | (go_at_call 19; (with_reducible refine (annealref1_zero.calls k a0 a2 t548 _ A15.out).mono ?_); rintro e w' ⟨rfl, ⟨nd, rfl⟩⟩))
    go_meet
    case rel => exact ⟨_, (t548), (by first | rfl | (simp; done) | (simp [*]; done) | (congr 1; (try unfold wrap64); omega) | (congr 1; rw [IntKind.wrap_u64]; omega)), H', ⟨by first | omega | exact Nat.le_refl _⟩, ⟨bl0 HB.out⟩⟩
   ·replace c14 := Bool.eq_false_iff.mpr c14
    subst c14
    have H1 : (annealref1_Compare.j0 k a0 a1 a2 false) = some (r1, r2) := by rw [if_neg (show ¬ (false = true) by decide)] at H; exact H
    clear H
    have H := H1
    clear H1
    have H' := Aside0.mk H
    clear H
    go_wp2_with (first | ((with_reducible refine gate_callee (f := 19) rfl ?_); refine goesL_ (some 23) rfl rfl Try.func19 (by kernel_rfl) rfl #[.int .i64 a0, .int .u32 a1] rfl gl ?_; (with_reducible refine (annealref1_zero.calls k a0 a1 false _ A13.out).mono ?_); rintro e w' ⟨rfl, ⟨nd, rfl⟩⟩; refine ⟨_, rfl, ?_⟩))
    go_meet
    case rel => exact ⟨_, (false), (by first | rfl | (simp; done) | (simp [*]; done) | (congr 1; (try unfold wrap64); omega) | (congr 1; rw [IntKind.wrap_u64]; omega)), H', ⟨by first | omega | exact Nat.le_refl _⟩, ⟨bl0 HB.out⟩⟩
  case rest =>
   clear HC9
   try clear c1 p2 c5 p6 c12 c14
   obtain ⟨kq, x28_8, rfl, HA, HJ8, HB⟩ := hcut
   cases kq with
   |zero => exact absurd HA.out (by simp [annealref1_Compare.j0])
   |succ kj8 =>
    have H := HA.out
    clear HA
    simp only [annealref1_Compare.j0] at H
    by_cases c16 : x28_8 = true
    ·subst c16
     have H1 : (some (0, true)) = some (r1, r2) := by rw [if_pos rfl] at H; exact H
     clear H
     have H := H1
     clear H1
     simp only [Option.some.injEq, Prod.mk.injEq] at H
     obtain ⟨rfl, rfl⟩ := H
     go_wp2
     go_ret2
     exact ⟨by first | rfl | (simp [errW_none, errW_some] <;> rfl) | (simp [*, errW_none, errW_some] <;> rfl), bl0 HB.out⟩
    ·replace c16 := Bool.eq_false_iff.mpr c16
     subst c16
     have H1 : ((annealref1_Key.f a0 a1).bind fun t549 => ((annealref1_Key.f a0 a2).bind fun t550 => (if t549 < t550 then (some ((-1), true)) else (if t549 > t550 then (some (1, true)) else (some (0, true)))))) = some (r1, r2) := by rw [if_neg (show ¬ (false = true) by decide)] at H; exact H
     clear H
     have H := H1
     clear H1
     replace H := Option.bind_eq_some_iff.mp H
     obtain ⟨t549, A170, H⟩ := H
     replace H : ((annealref1_Key.f a0 a2).bind fun t550 => (if t549 < t550 then (some ((-1), true)) else (if t549 > t550 then (some (1, true)) else (some (0, true))))) = some (r1, r2) := H
     have A17 := Aside0.mk A170
     clear A170
     replace H := Option.bind_eq_some_iff.mp H
     obtain ⟨t550, A180, H⟩ := H
     replace H : (if t549 < t550 then (some ((-1), true)) else (if t549 > t550 then (some (1, true)) else (some (0, true)))) = some (r1, r2) := H
     have A18 := Aside0.mk A180
     clear A180
     by_cases c19 : t549 < t550
     ·rw [if_pos c19] at H
      have c19b0 : decide (t549 < t550) = true := decide_eq_true c19
      clear c19
      simp only [Option.some.injEq, Prod.mk.injEq] at H
      obtain ⟨rfl, rfl⟩ := H
      go_wp2_with (first | ((with_reducible refine gate_callee (f := 20) rfl ?_); refine goesL_ (some 31) rfl rfl Try.func20 (by kernel_rfl) rfl #[.int .i64 a0, .int .u32 a1] rfl gl ?_; (with_reducible refine (annealref1_Key.calls a0 a1 t549 _ A17.out).mono ?_); rintro e w' ⟨rfl, ⟨nd, rfl⟩⟩; refine ⟨_, rfl, ?_⟩) | ((with_reducible refine gate_callee (f := 20) rfl ?_); refine goesL_ (some 34) rfl rfl Try.func20 (by kernel_rfl) rfl #[.int .i64 a0, .int .u32 a2] rfl gl ?_; (with_reducible refine (annealref1_Key.calls a0 a2 t550 _ A18.out).mono ?_); rintro e w' ⟨rfl, ⟨nd, rfl⟩⟩; refine ⟨_, rfl, ?_⟩))
      go_ret2
      exact ⟨by first | rfl | (simp [errW_none, errW_some] <;> rfl) | (simp [*, errW_none, errW_some] <;> rfl), bl0 HB.out⟩
     ·rw [if_neg c19] at H
      have c19b0 : decide (t549 < t550) = false := decide_eq_false c19
      clear c19
      by_cases c20 : t549 > t550
      ·rw [if_pos c20] at H
       have c20b0 : decide (t550 < t549) = true := decide_eq_true c20
       clear c20
       simp only [Option.some.injEq, Prod.mk.injEq] at H
       obtain ⟨rfl, rfl⟩ := H
       go_wp2_with (first | ((with_reducible refine gate_callee (f := 20) rfl ?_); refine goesL_ (some 31) rfl rfl Try.func20 (by kernel_rfl) rfl #[.int .i64 a0, .int .u32 a1] rfl gl ?_; (with_reducible refine (annealref1_Key.calls a0 a1 t549 _ A17.out).mono ?_); rintro e w' ⟨rfl, ⟨nd, rfl⟩⟩; refine ⟨_, rfl, ?_⟩) | ((with_reducible refine gate_callee (f := 20) rfl ?_); refine goesL_ (some 34) rfl rfl Try.func20 (by kernel_rfl) rfl #[.int .i64 a0, .int .u32 a2] rfl gl ?_; (with_reducible refine (annealref1_Key.calls a0 a2 t550 _ A18.out).mono ?_); rintro e w' ⟨rfl, ⟨nd, rfl⟩⟩; refine ⟨_, rfl, ?_⟩))
       go_ret2
       exact ⟨by first | rfl | (simp [errW_none, errW_some] <;> rfl) | (simp [*, errW_none, errW_some] <;> rfl), bl0 HB.out⟩
      ·rw [if_neg c20] at H
       have c20b0 : decide (t550 < t549) = false := decide_eq_false c20
       clear c20
       simp only [Option.some.injEq, Prod.mk.injEq] at H
       obtain ⟨rfl, rfl⟩ := H
       go_wp2_with (first | ((with_reducible refine gate_callee (f := 20) rfl ?_); refine goesL_ (some 31) rfl rfl Try.func20 (by kernel_rfl) rfl #[.int .i64 a0, .int .u32 a1] rfl gl ?_; (with_reducible refine (annealref1_Key.calls a0 a1 t549 _ A17.out).mono ?_); rintro e w' ⟨rfl, ⟨nd, rfl⟩⟩; refine ⟨_, rfl, ?_⟩) | ((with_reducible refine gate_callee (f := 20) rfl ?_); refine goesL_ (some 34) rfl rfl Try.func20 (by kernel_rfl) rfl #[.int .i64 a0, .int .u32 a2] rfl gl ?_; (with_reducible refine (annealref1_Key.calls a0 a2 t550 _ A18.out).mono ?_); rintro e w' ⟨rfl, ⟨nd, rfl⟩⟩; refine ⟨_, rfl, ?_⟩))
       go_ret2
       exact ⟨by first | rfl | (simp [errW_none, errW_some] <;> rfl) | (simp [*, errW_none, errW_some] <;> rfl), bl0 HB.out⟩

-- NEED 0
/-! ### annealref1_Less: function 8 -/
def annealref1_Less.f (k : Nat) (a0 : Int) (a1 : Int) (a2 : Int) : Option (Bool) := (annealref1_Compare.f k a0 a1 a2).bind fun bt551 => (if bt551.2 = true then (some (decide (bt551.1 < 0))) else (some false))
theorem annealref1_Less.mono : ∀ a0 a1 a2 k, LeO (annealref1_Less.f k a0 a1 a2) (annealref1_Less.f (k + 1) a0 a1 a2) := by
 intro a0 a1 a2 k
 unfold annealref1_Less.f
 repeat' first
   |(with_reducible exact annealref1_Compare.mono _ _ _ _)
   |(with_reducible exact LeO.refl _)
   |(with_reducible exact LeO.none _)
   |(with_reducible refine LeO.ite ?_ ?_)
   |(with_reducible refine LeO.bind ?_ (fun _ => ?_))
   |exact annealref1_Compare.mono _ _ _ _
   |exact LeO.none _
   |refine LeO.ite ?_ ?_
   |refine LeO.bind ?_ (fun _ => ?_)
set_option maxHeartbeats 8000000 in
set_option maxRecDepth 100000 in
theorem annealref1_Less.calls (k : Nat) (a0 : Int) (a1 : Int) (a2 : Int) (r : Bool) (w : World) (h : annealref1_Less.f k a0 a1 a2 = some r) :
  Calls Try.prog 8 #[.int .i64 a0, .int .u32 a1, .int .u32 a2] w fun e w' => e = .returned (.bool r) ∧ Below w.heap.size w w' := by
 have HB := Aside0.mk (Below.refl w.heap.size w)
 have H : ((annealref1_Compare.f k a0 a1 a2).bind fun bt551 => (if bt551.2 = true then (some (decide (bt551.1 < 0))) else (some false))) = some r := h
 clear h
 replace H := Option.bind_eq_some_iff.mp H
 obtain ⟨⟨t551, t552⟩, A40, H⟩ := H
 replace H : (if t552 = true then (some (decide (t551 < 0))) else (some false)) = some r := H
 have A4 := Aside0.mk A40
 clear A40
 by_cases c5 : t552 = true
 ·subst c5
  have H1 : (some (decide (t551 < 0))) = some r := by rw [if_pos rfl] at H; exact H
  clear H
  have H := H1
  clear H1
  obtain rfl := Option.some.inj H
  go_enter Try.func8, Try.ntmps8
  go_wp2_with (first | ((with_reducible refine gate_callee (f := 12) rfl ?_); refine goesL_ (some 13) rfl rfl Try.func12 (by kernel_rfl) rfl #[.int .i64 a0, .int .u32 a1, .int .u32 a2] rfl gl ?_; (with_reducible refine (annealref1_Compare.calls k a0 a1 a2 t551 true _ A4.out).mono ?_); rintro e w6 ⟨rfl, hb⟩; refine ⟨_, rfl, ?_⟩; have n0_ := Aside0.mk (below_step (bl0 HB.out) hb); clear HB; have HB := n0_; clear n0_))
  go_ret
  exact ⟨by first | rfl | (simp [errW_none, errW_some] <;> rfl) | (simp [*, errW_none, errW_some] <;> rfl), bl0 HB.out⟩
 ·replace c5 := Bool.eq_false_iff.mpr c5
  subst c5
  have H1 : (some false) = some r := by rw [if_neg (show ¬ (false = true) by decide)] at H; exact H
  clear H
  have H := H1
  clear H1
  obtain rfl := Option.some.inj H
  go_enter Try.func8, Try.ntmps8
  go_wp2_with (first | ((with_reducible refine gate_callee (f := 12) rfl ?_); refine goesL_ (some 13) rfl rfl Try.func12 (by kernel_rfl) rfl #[.int .i64 a0, .int .u32 a1, .int .u32 a2] rfl gl ?_; (with_reducible refine (annealref1_Compare.calls k a0 a1 a2 t551 false _ A4.out).mono ?_); rintro e w7 ⟨rfl, hb⟩; refine ⟨_, rfl, ?_⟩; have n0_ := Aside0.mk (below_step (bl0 HB.out) hb); clear HB; have HB := n0_; clear n0_))
  go_ret
  exact ⟨by first | rfl | (simp [errW_none, errW_some] <;> rfl) | (simp [*, errW_none, errW_some] <;> rfl), bl0 HB.out⟩


-- NEED 4
/-! ### anneallaw20_SchedFalls: function 5 -/
def anneallaw20_SchedFalls.l0 : Nat → Int → Int → Int → Int → Option (Bool)
 |0, _, _, _, _ => none
 |k + 1, x5, x6, x7, x8 => if x8 ≤ x6 then ((sched_Factor.f k 1 x5 (wrap64 (x5 + x6)) (wrap64 (x5 + x8))).bind fun t562 => (if (t562 / 2147483648) = 1 then (some false) else ((annealref1_Less.f k 2 x7 t562).bind fun t563 => (if t563 = true then (some false) else (anneallaw20_SchedFalls.l0 k x5 x6 t562 (wrap64 (x8 + 1))))))) else (some true)
def anneallaw20_SchedFalls.f (k : Nat) (a0 : Int) (a1 : Int) : Option (Bool) := (anneallaw20_known.f k).bind fun t561 => (if t561 = true then (anneallaw20_SchedFalls.l0 k (wrap64 (Int.tmod a0 5)) (wrap64 ((wrap64 (Int.tmod a1 12)) + 1)) 1065353217 0) else (some false))
theorem anneallaw20_SchedFalls.mono_l : ∀ k, (∀ y0 y1 y2 y3, LeO (anneallaw20_SchedFalls.l0 k y0 y1 y2 y3) (anneallaw20_SchedFalls.l0 (k + 1) y0 y1 y2 y3))
 |0 => fun _ _ _ _ r h => by simp [anneallaw20_SchedFalls.l0] at h
 |k + 1 => by
  have ih0 := anneallaw20_SchedFalls.mono_l k
  ·intro y0 y1 y2 y3
   unfold anneallaw20_SchedFalls.l0
   repeat' first
   |(with_reducible exact ih0 _ _ _ _)
   |(with_reducible exact anneallaw20_known.mono _)
   |(with_reducible exact annealref1_Less.mono _ _ _ _)
   |(with_reducible exact sched_Factor.mono _ _ _ _ _)
   |(with_reducible exact LeO.refl _)
   |(with_reducible exact LeO.none _)
   |(with_reducible refine LeO.ite ?_ ?_)
   |(with_reducible refine LeO.bind ?_ (fun _ => ?_))
   |exact ih0 _ _ _ _
   |exact anneallaw20_known.mono _
   |exact annealref1_Less.mono _ _ _ _
   |exact sched_Factor.mono _ _ _ _ _
   |exact LeO.none _
   |refine LeO.ite ?_ ?_
   |refine LeO.bind ?_ (fun _ => ?_)
set_option maxHeartbeats 8000000 in
set_option maxRecDepth 100000 in
theorem anneallaw20_SchedFalls.calls (k : Nat) (a0 : Int) (a1 : Int) (r : Bool) (w : World) (h : anneallaw20_SchedFalls.f k a0 a1 = some r) :
  Calls Try.prog 5 #[.int .u8 a0, .int .u8 a1] w fun e w' => e = .returned (.bool r) ∧ Below w.heap.size w w' := by
 have HB := Aside0.mk (Below.refl w.heap.size w)
 have H : ((anneallaw20_known.f k).bind fun t561 => (if t561 = true then (anneallaw20_SchedFalls.l0 k (wrap64 (Int.tmod a0 5)) (wrap64 ((wrap64 (Int.tmod a1 12)) + 1)) 1065353217 0) else (some false))) = some r := h
 clear h
 replace H := Option.bind_eq_some_iff.mp H
 obtain ⟨t561, A30, H⟩ := H
 replace H : (if t561 = true then (anneallaw20_SchedFalls.l0 k (wrap64 (Int.tmod a0 5)) (wrap64 ((wrap64 (Int.tmod a1 12)) + 1)) 1065353217 0) else (some false)) = some r := H
 have A3 := Aside0.mk A30
 clear A30
 by_cases c4 : t561 = true
 ·subst c4
  have H1 : (anneallaw20_SchedFalls.l0 k (wrap64 (Int.tmod a0 5)) (wrap64 ((wrap64 (Int.tmod a1 12)) + 1)) 1065353217 0) = some r := by rw [if_pos rfl] at H; exact H
  clear H
  have H := H1
  clear H1
  have H' := Aside0.mk H
  clear H
  go_enter Try.func5, Try.ntmps5
  go_wp2_with (first | ((with_reducible refine gate_callee (f := 6) rfl ?_); refine goesL_ (some 10) rfl rfl Try.func6 (by kernel_rfl) rfl #[] rfl gl ?_; (with_reducible refine (anneallaw20_known.calls k  true _ A3.out).mono ?_); rintro e w5 ⟨rfl, hb⟩; refine ⟨_, rfl, ?_⟩; have n0_ := Aside0.mk (below_step (bl0 HB.out) hb); clear HB; have HB := n0_; clear n0_))
  go_loopg [7, 8] k (fun kq v7 v8 w' => ∃ (x7_1 : Int) (x8_1 : Int), v7 = .int .u32 x7_1 ∧ v8 = .int .i64 x8_1 ∧ Aside0 (anneallaw20_SchedFalls.l0 kq (wrap64 (Int.tmod a0 5)) (wrap64 ((wrap64 (Int.tmod a1 12)) + 1)) x7_1 x8_1 = some r) ∧ Aside0 (kq ≤ k) ∧ Aside0 (Below w.heap.size w w'))
  case atStart => exact ⟨(1065353217), (0), (by first | rfl | (simp; done) | (simp [*]; done) | (congr 1; (try unfold wrap64); omega) | (congr 1; rw [IntKind.wrap_u64]; omega)), (by first | rfl | (simp; done) | (simp [*]; done) | (congr 1; (try unfold wrap64); omega) | (congr 1; rw [IntKind.wrap_u64]; omega)), H', ⟨Nat.le_refl _⟩, ⟨bl0 HB.out⟩⟩
  case round =>
   clear H'
   try clear p2 c4 c5
   obtain ⟨x7_1, x8_1, rfl, rfl, HA, HK1, HB⟩ := hrel
   cases gk with
   |zero => exact absurd HA.out (by simp [anneallaw20_SchedFalls.l0])
   |succ k1 =>
    have H := HA.out
    clear HA
    simp only [anneallaw20_SchedFalls.l0] at H
    by_cases c6 : x8_1 ≤ (wrap64 ((wrap64 (Int.tmod a1 12)) + 1))
    ·rw [if_pos c6] at H
     have c6b0 : decide (x8_1 ≤ (wrap64 ((wrap64 (Int.tmod a1 12)) + 1))) = true := decide_eq_true c6
     clear c6
     replace H := Option.bind_eq_some_iff.mp H
     obtain ⟨t562, A70, H⟩ := H
     replace H : (if (t562 / 2147483648) = 1 then (some false) else ((annealref1_Less.f k1 2 x7_1 t562).bind fun t563 => (if t563 = true then (some false) else (anneallaw20_SchedFalls.l0 k1 (wrap64 (Int.tmod a0 5)) (wrap64 ((wrap64 (Int.tmod a1 12)) + 1)) t562 (wrap64 (x8_1 + 1)))))) = some r := H
     have A7 := Aside0.mk A70
     clear A70
     by_cases c8 : (t562 / 2147483648) = 1
     ·rw [if_pos c8] at H
      have c8b0 : ((t562 / 2147483648) == 1) = true := beq_iff_eq.mpr c8
      have c8b1 : ((t562 / 2147483648) != 1) = false := bne_eq_false_iff_eq.mpr c8
      clear c8
      obtain rfl := Option.some.inj H
      go_wp2_with (first | ((with_reducible refine gate_callee (f := 7) rfl ?_); refine goesL_ (some 31) rfl rfl Try.func7 (by kernel_rfl) rfl #[.int .i64 1, .int .i64 (wrap64 (Int.tmod a0 5)), .int .i64 (wrap64 ((wrap64 (Int.tmod a0 5)) + (wrap64 ((wrap64 (Int.tmod a1 12)) + 1)))), .int .i64 (wrap64 ((wrap64 (Int.tmod a0 5)) + x8_1))] rfl gl ?_; (with_reducible refine (sched_Factor.calls k1 1 (wrap64 (Int.tmod a0 5)) (wrap64 ((wrap64 (Int.tmod a0 5)) + (wrap64 ((wrap64 (Int.tmod a1 12)) + 1)))) (wrap64 ((wrap64 (Int.tmod a0 5)) + x8_1)) t562 _ A7.out).mono ?_); rintro e w9 ⟨rfl, hb⟩; refine ⟨_, rfl, ?_⟩; have n0_ := Aside0.mk (below_step (bl0 HB.out) hb); clear HB; have HB := n0_; clear n0_))
      go_ret
      exact ⟨by first | rfl | (simp [errW_none, errW_some] <;> rfl) | (simp [*, errW_none, errW_some] <;> rfl), bl0 HB.out⟩
     ·rw [if_neg c8] at H
      have c8b0 : ((t562 / 2147483648) == 1) = false := beq_eq_false_iff_ne.mpr c8
      have c8b1 : ((t562 / 2147483648) != 1) = true := bne_iff_ne.mpr c8
      replace H := Option.bind_eq_some_iff.mp H
      obtain ⟨t563, A100, H⟩ := H
      replace H : (if t563 = true then (some false) else (anneallaw20_SchedFalls.l0 k1 (wrap64 (Int.tmod a0 5)) (wrap64 ((wrap64 (Int.tmod a1 12)) + 1)) t562 (wrap64 (x8_1 + 1)))) = some r := H
      have A10 := Aside0.mk A100
      clear A100
      by_cases c11 : t563 = true
      ·subst c11
       have H1 : (some false) = some r := by rw [if_pos rfl] at H; exact H
       clear H
       have H := H1
       clear H1
       obtain rfl := Option.some.inj H
       go_wp2_with (first | ((with_reducible refine gate_callee (f := 7) rfl ?_); refine goesL_ (some 31) rfl rfl Try.func7 (by kernel_rfl) rfl #[.int .i64 1, .int .i64 (wrap64 (Int.tmod a0 5)), .int .i64 (wrap64 ((wrap64 (Int.tmod a0 5)) + (wrap64 ((wrap64 (Int.tmod a1 12)) + 1)))), .int .i64 (wrap64 ((wrap64 (Int.tmod a0 5)) + x8_1))] rfl gl ?_; (with_reducible refine (sched_Factor.calls k1 1 (wrap64 (Int.tmod a0 5)) (wrap64 ((wrap64 (Int.tmod a0 5)) + (wrap64 ((wrap64 (Int.tmod a1 12)) + 1)))) (wrap64 ((wrap64 (Int.tmod a0 5)) + x8_1)) t562 _ A7.out).mono ?_); rintro e w12 ⟨rfl, hb⟩; refine ⟨_, rfl, ?_⟩; have n0_ := Aside0.mk (below_step (bl0 HB.out) hb); clear HB; have HB := n0_; clear n0_) | (go_at_call 8; (with_reducible refine (annealref1_Less.calls k1 2 x7_1 t562 true _ A10.out).mono ?_); rintro e w13 ⟨rfl, hb⟩; have n0_ := Aside0.mk (below_step (bl0 HB.out) hb); clear HB; have HB := n0_; clear n0_))
       go_ret
       exact ⟨by first | rfl | (simp [errW_none, errW_some] <;> rfl) | (simp [*, errW_none, errW_some] <;> rfl), bl0 HB.out⟩
      ·replace c11 := Bool.eq_false_iff.mpr c11
       subst c11
       have H1 : (anneallaw20_SchedFalls.l0 k1 (wrap64 (Int.tmod a0 5)) (wrap64 ((wrap64 (Int.tmod a1 12)) + 1)) t562 (wrap64 (x8_1 + 1))) = some r := by rw [if_neg (show ¬ (false = true) by decide)] at H; exact H
       clear H
       have H := H1
       clear H1
       have H' := Aside0.mk H
       clear H
       go_wp2_with (first | ((with_reducible refine gate_callee (f := 7) rfl ?_); refine goesL_ (some 31) rfl rfl Try.func7 (by kernel_rfl) rfl #[.int .i64 1, .int .i64 (wrap64 (Int.tmod a0 5)), .int .i64 (wrap64 ((wrap64 (Int.tmod a0 5)) + (wrap64 ((wrap64 (Int.tmod a1 12)) + 1)))), .int .i64 (wrap64 ((wrap64 (Int.tmod a0 5)) + x8_1))] rfl gl ?_; (with_reducible refine (sched_Factor.calls k1 1 (wrap64 (Int.tmod a0 5)) (wrap64 ((wrap64 (Int.tmod a0 5)) + (wrap64 ((wrap64 (Int.tmod a1 12)) + 1)))) (wrap64 ((wrap64 (Int.tmod a0 5)) + x8_1)) t562 _ A7.out).mono ?_); rintro e w14 ⟨rfl, hb⟩; refine ⟨_, rfl, ?_⟩; have n0_ := Aside0.mk (below_step (bl0 HB.out) hb); clear HB; have HB := n0_; clear n0_) | (go_at_call 8; (with_reducible refine (annealref1_Less.calls k1 2 x7_1 t562 false _ A10.out).mono ?_); rintro e w15 ⟨rfl, hb⟩; have n0_ := Aside0.mk (below_step (bl0 HB.out) hb); clear HB; have HB := n0_; clear n0_))
       go_roundg k1
       case measure => have := HK1.out; omega
       case rel => exact ⟨(t562), (wrap64 (x8_1 + 1)), (by first | rfl | (simp; done) | (simp [*]; done) | (congr 1; (try unfold wrap64); omega) | (congr 1; rw [IntKind.wrap_u64]; omega)), (by first | rfl | (simp; done) | (simp [*]; done) | (congr 1; (try unfold wrap64); omega) | (congr 1; rw [IntKind.wrap_u64]; omega)), H', ⟨by have := HK1.out; omega⟩, ⟨bl0 HB.out⟩⟩
    ·rw [if_neg c6] at H
     have c6b0 : decide (x8_1 ≤ (wrap64 ((wrap64 (Int.tmod a1 12)) + 1))) = false := decide_eq_false c6
     clear c6
     obtain rfl := Option.some.inj H
     go_wp2
     go_ret
     exact ⟨by first | rfl | (simp [errW_none, errW_some] <;> rfl) | (simp [*, errW_none, errW_some] <;> rfl), bl0 HB.out⟩
 ·replace c4 := Bool.eq_false_iff.mpr c4
  subst c4
  have H1 : (some false) = some r := by rw [if_neg (show ¬ (false = true) by decide)] at H; exact H
  clear H
  have H := H1
  clear H1
  obtain rfl := Option.some.inj H
  go_enter Try.func5, Try.ntmps5
  go_wp2_with (first | ((with_reducible refine gate_callee (f := 6) rfl ?_); refine goesL_ (some 10) rfl rfl Try.func6 (by kernel_rfl) rfl #[] rfl gl ?_; (with_reducible refine (anneallaw20_known.calls k  false _ A3.out).mono ?_); rintro e w16 ⟨rfl, hb⟩; refine ⟨_, rfl, ?_⟩; have n0_ := Aside0.mk (below_step (bl0 HB.out) hb); clear HB; have HB := n0_; clear n0_))
  go_ret
  exact ⟨by first | rfl | (simp [errW_none, errW_some] <;> rfl) | (simp [*, errW_none, errW_some] <;> rfl), bl0 HB.out⟩

/-- THE ONE PURE STATEMENT of anneallaw20_SchedFalls: yours. -/
def anneallaw20_SchedFalls.Pure : Prop := ∀ (a0 : Int) (a1 : Int), (Lit.int .u8 a0).wf = true → (Lit.int .u8 a1).wf = true → ∃ k, anneallaw20_SchedFalls.f k a0 a1 = some true
theorem anneallaw20_SchedFalls.walk (P : anneallaw20_SchedFalls.Pure) (a0 : Int) (a1 : Int) (w : World) (w0 : (Lit.int .u8 a0).wf = true) (w1 : (Lit.int .u8 a1).wf = true) :
  Calls Try.prog 5 #[.int .u8 a0, .int .u8 a1] w fun e w' => e = .returned (.bool true) ∧ Below w.heap.size w w' := by
 obtain ⟨k, h⟩ := P a0 a1 w0 w1
 refine (anneallaw20_SchedFalls.calls k a0 a1 true w h).mono ?_
 rintro e w' ⟨rfl, hd⟩
 exact ⟨rfl, hd⟩

end Go.Proofs.Ytjlgmfgjleajfaa.P

/- Plain facts about whole numbers in their kinds: wraps, shifts, bits, as numbers from nought on. -/
namespace Go.Proofs.Ytjlgmfgjleajfaa.Num
open Go.RowKit Go.Proofs.YtjlgmfgjleajfaaW.PrintWords Go.Proofs.YtjlgmfgjleajfaaW.PrintLast Go.Proofs.YtjlgmfgjleajfaaW.PrintMore

theorem w64_id (n : Int) (h : -9223372036854775808 ≤ n) (h' : n ≤ 9223372036854775807) : wrap64 n = n := by unfold wrap64; omega
theorem wf_u8 {n : Int} (h : (Lit.int .u8 n).wf = true) : 0 ≤ n ∧ n < 256 := by
 simp [Lit.wf, IntKind.min, IntKind.max, IntKind.bits, IntKind.signed] at h; omega
end Go.Proofs.Ytjlgmfgjleajfaa.Num

/- What the functions of layer 1 compute, as plain numbers. -/
namespace Go.Proofs.Ytjlgmfgjleajfaa.BitsF
open Go.RowKit Go.Proofs.Ytjlgmfgjleajfaa.P Go.Proofs.Ytjlgmfgjleajfaa.Num Go.Proofs.YtjlgmfgjleajfaaW.PrintWords Go.Proofs.YtjlgmfgjleajfaaW.PrintLast Go.Proofs.YtjlgmfgjleajfaaW.PrintMore

end Go.Proofs.Ytjlgmfgjleajfaa.BitsF

/- SchedFalls: a cosine never rises behind its warming: for each warming and each length that the law knows. -/
namespace Go.Proofs.Ytjlgmfgjleajfaa.Pure
open Go.RowKit Go.Proofs.Ytjlgmfgjleajfaa.P Go.Proofs.Ytjlgmfgjleajfaa.Num Go.Proofs.Ytjlgmfgjleajfaa.BitsF Go.Proofs.YtjlgmfgjleajfaaW.PrintWords Go.Proofs.YtjlgmfgjleajfaaW.PrintLast Go.Proofs.YtjlgmfgjleajfaaW.PrintMore

theorem known20_ev : Ev (fun k => anneallaw20_known.f k) true := Ev.of anneallaw20_known.mono (k := 60) (by kernel_rfl)
theorem falls_at (w n : Int) (h : anneallaw20_SchedFalls.l0 100 w n 1065353217 0 = some true) : Ev (fun k => anneallaw20_SchedFalls.l0 k w n 1065353217 0) true :=
 Ev.of (fun k => (anneallaw20_SchedFalls.mono_l k) _ _ _ _) h
theorem falls_0_1 : anneallaw20_SchedFalls.l0 100 0 1 1065353217 0 = some true := by kernel_rfl
theorem falls_0_2 : anneallaw20_SchedFalls.l0 100 0 2 1065353217 0 = some true := by kernel_rfl
theorem falls_0_3 : anneallaw20_SchedFalls.l0 100 0 3 1065353217 0 = some true := by kernel_rfl
theorem falls_0_4 : anneallaw20_SchedFalls.l0 100 0 4 1065353217 0 = some true := by kernel_rfl
theorem falls_0_5 : anneallaw20_SchedFalls.l0 100 0 5 1065353217 0 = some true := by kernel_rfl
theorem falls_0_6 : anneallaw20_SchedFalls.l0 100 0 6 1065353217 0 = some true := by kernel_rfl
theorem falls_0_7 : anneallaw20_SchedFalls.l0 100 0 7 1065353217 0 = some true := by kernel_rfl
theorem falls_0_8 : anneallaw20_SchedFalls.l0 100 0 8 1065353217 0 = some true := by kernel_rfl
theorem falls_0_9 : anneallaw20_SchedFalls.l0 100 0 9 1065353217 0 = some true := by kernel_rfl
theorem falls_0_10 : anneallaw20_SchedFalls.l0 100 0 10 1065353217 0 = some true := by kernel_rfl
theorem falls_0_11 : anneallaw20_SchedFalls.l0 100 0 11 1065353217 0 = some true := by kernel_rfl
theorem falls_0_12 : anneallaw20_SchedFalls.l0 100 0 12 1065353217 0 = some true := by kernel_rfl
theorem falls_1_1 : anneallaw20_SchedFalls.l0 100 1 1 1065353217 0 = some true := by kernel_rfl
theorem falls_1_2 : anneallaw20_SchedFalls.l0 100 1 2 1065353217 0 = some true := by kernel_rfl
theorem falls_1_3 : anneallaw20_SchedFalls.l0 100 1 3 1065353217 0 = some true := by kernel_rfl
theorem falls_1_4 : anneallaw20_SchedFalls.l0 100 1 4 1065353217 0 = some true := by kernel_rfl
theorem falls_1_5 : anneallaw20_SchedFalls.l0 100 1 5 1065353217 0 = some true := by kernel_rfl
theorem falls_1_6 : anneallaw20_SchedFalls.l0 100 1 6 1065353217 0 = some true := by kernel_rfl
theorem falls_1_7 : anneallaw20_SchedFalls.l0 100 1 7 1065353217 0 = some true := by kernel_rfl
theorem falls_1_8 : anneallaw20_SchedFalls.l0 100 1 8 1065353217 0 = some true := by kernel_rfl
theorem falls_1_9 : anneallaw20_SchedFalls.l0 100 1 9 1065353217 0 = some true := by kernel_rfl
theorem falls_1_10 : anneallaw20_SchedFalls.l0 100 1 10 1065353217 0 = some true := by kernel_rfl
theorem falls_1_11 : anneallaw20_SchedFalls.l0 100 1 11 1065353217 0 = some true := by kernel_rfl
theorem falls_1_12 : anneallaw20_SchedFalls.l0 100 1 12 1065353217 0 = some true := by kernel_rfl
theorem falls_2_1 : anneallaw20_SchedFalls.l0 100 2 1 1065353217 0 = some true := by kernel_rfl
theorem falls_2_2 : anneallaw20_SchedFalls.l0 100 2 2 1065353217 0 = some true := by kernel_rfl
theorem falls_2_3 : anneallaw20_SchedFalls.l0 100 2 3 1065353217 0 = some true := by kernel_rfl
theorem falls_2_4 : anneallaw20_SchedFalls.l0 100 2 4 1065353217 0 = some true := by kernel_rfl
theorem falls_2_5 : anneallaw20_SchedFalls.l0 100 2 5 1065353217 0 = some true := by kernel_rfl
theorem falls_2_6 : anneallaw20_SchedFalls.l0 100 2 6 1065353217 0 = some true := by kernel_rfl
theorem falls_2_7 : anneallaw20_SchedFalls.l0 100 2 7 1065353217 0 = some true := by kernel_rfl
theorem falls_2_8 : anneallaw20_SchedFalls.l0 100 2 8 1065353217 0 = some true := by kernel_rfl
theorem falls_2_9 : anneallaw20_SchedFalls.l0 100 2 9 1065353217 0 = some true := by kernel_rfl
theorem falls_2_10 : anneallaw20_SchedFalls.l0 100 2 10 1065353217 0 = some true := by kernel_rfl
theorem falls_2_11 : anneallaw20_SchedFalls.l0 100 2 11 1065353217 0 = some true := by kernel_rfl
theorem falls_2_12 : anneallaw20_SchedFalls.l0 100 2 12 1065353217 0 = some true := by kernel_rfl
theorem falls_3_1 : anneallaw20_SchedFalls.l0 100 3 1 1065353217 0 = some true := by kernel_rfl
theorem falls_3_2 : anneallaw20_SchedFalls.l0 100 3 2 1065353217 0 = some true := by kernel_rfl
theorem falls_3_3 : anneallaw20_SchedFalls.l0 100 3 3 1065353217 0 = some true := by kernel_rfl
theorem falls_3_4 : anneallaw20_SchedFalls.l0 100 3 4 1065353217 0 = some true := by kernel_rfl
theorem falls_3_5 : anneallaw20_SchedFalls.l0 100 3 5 1065353217 0 = some true := by kernel_rfl
theorem falls_3_6 : anneallaw20_SchedFalls.l0 100 3 6 1065353217 0 = some true := by kernel_rfl
theorem falls_3_7 : anneallaw20_SchedFalls.l0 100 3 7 1065353217 0 = some true := by kernel_rfl
theorem falls_3_8 : anneallaw20_SchedFalls.l0 100 3 8 1065353217 0 = some true := by kernel_rfl
theorem falls_3_9 : anneallaw20_SchedFalls.l0 100 3 9 1065353217 0 = some true := by kernel_rfl
theorem falls_3_10 : anneallaw20_SchedFalls.l0 100 3 10 1065353217 0 = some true := by kernel_rfl
theorem falls_3_11 : anneallaw20_SchedFalls.l0 100 3 11 1065353217 0 = some true := by kernel_rfl
theorem falls_3_12 : anneallaw20_SchedFalls.l0 100 3 12 1065353217 0 = some true := by kernel_rfl
theorem falls_4_1 : anneallaw20_SchedFalls.l0 100 4 1 1065353217 0 = some true := by kernel_rfl
theorem falls_4_2 : anneallaw20_SchedFalls.l0 100 4 2 1065353217 0 = some true := by kernel_rfl
theorem falls_4_3 : anneallaw20_SchedFalls.l0 100 4 3 1065353217 0 = some true := by kernel_rfl
theorem falls_4_4 : anneallaw20_SchedFalls.l0 100 4 4 1065353217 0 = some true := by kernel_rfl
theorem falls_4_5 : anneallaw20_SchedFalls.l0 100 4 5 1065353217 0 = some true := by kernel_rfl
theorem falls_4_6 : anneallaw20_SchedFalls.l0 100 4 6 1065353217 0 = some true := by kernel_rfl
theorem falls_4_7 : anneallaw20_SchedFalls.l0 100 4 7 1065353217 0 = some true := by kernel_rfl
theorem falls_4_8 : anneallaw20_SchedFalls.l0 100 4 8 1065353217 0 = some true := by kernel_rfl
theorem falls_4_9 : anneallaw20_SchedFalls.l0 100 4 9 1065353217 0 = some true := by kernel_rfl
theorem falls_4_10 : anneallaw20_SchedFalls.l0 100 4 10 1065353217 0 = some true := by kernel_rfl
theorem falls_4_11 : anneallaw20_SchedFalls.l0 100 4 11 1065353217 0 = some true := by kernel_rfl
theorem falls_4_12 : anneallaw20_SchedFalls.l0 100 4 12 1065353217 0 = some true := by kernel_rfl
theorem falls_all (w n : Int) (h1 : 0 ≤ w) (h2 : w ≤ 4) (h3 : 1 ≤ n) (h4 : n ≤ 12) : Ev (fun k => anneallaw20_SchedFalls.l0 k w n 1065353217 0) true := by
 have hw : w = 0 ∨ w = 1 ∨ w = 2 ∨ w = 3 ∨ w = 4 := by omega
 rcases hw with rfl | rfl | rfl | rfl | rfl
 ·rcases (show n = 1 ∨ n = 2 ∨ n = 3 ∨ n = 4 ∨ n = 5 ∨ n = 6 ∨ n = 7 ∨ n = 8 ∨ n = 9 ∨ n = 10 ∨ n = 11 ∨ n = 12 by omega) with rfl | rfl | rfl | rfl | rfl | rfl | rfl | rfl | rfl | rfl | rfl | rfl
  ·exact falls_at _ _ falls_0_1
  ·exact falls_at _ _ falls_0_2
  ·exact falls_at _ _ falls_0_3
  ·exact falls_at _ _ falls_0_4
  ·exact falls_at _ _ falls_0_5
  ·exact falls_at _ _ falls_0_6
  ·exact falls_at _ _ falls_0_7
  ·exact falls_at _ _ falls_0_8
  ·exact falls_at _ _ falls_0_9
  ·exact falls_at _ _ falls_0_10
  ·exact falls_at _ _ falls_0_11
  ·exact falls_at _ _ falls_0_12
 ·rcases (show n = 1 ∨ n = 2 ∨ n = 3 ∨ n = 4 ∨ n = 5 ∨ n = 6 ∨ n = 7 ∨ n = 8 ∨ n = 9 ∨ n = 10 ∨ n = 11 ∨ n = 12 by omega) with rfl | rfl | rfl | rfl | rfl | rfl | rfl | rfl | rfl | rfl | rfl | rfl
  ·exact falls_at _ _ falls_1_1
  ·exact falls_at _ _ falls_1_2
  ·exact falls_at _ _ falls_1_3
  ·exact falls_at _ _ falls_1_4
  ·exact falls_at _ _ falls_1_5
  ·exact falls_at _ _ falls_1_6
  ·exact falls_at _ _ falls_1_7
  ·exact falls_at _ _ falls_1_8
  ·exact falls_at _ _ falls_1_9
  ·exact falls_at _ _ falls_1_10
  ·exact falls_at _ _ falls_1_11
  ·exact falls_at _ _ falls_1_12
 ·rcases (show n = 1 ∨ n = 2 ∨ n = 3 ∨ n = 4 ∨ n = 5 ∨ n = 6 ∨ n = 7 ∨ n = 8 ∨ n = 9 ∨ n = 10 ∨ n = 11 ∨ n = 12 by omega) with rfl | rfl | rfl | rfl | rfl | rfl | rfl | rfl | rfl | rfl | rfl | rfl
  ·exact falls_at _ _ falls_2_1
  ·exact falls_at _ _ falls_2_2
  ·exact falls_at _ _ falls_2_3
  ·exact falls_at _ _ falls_2_4
  ·exact falls_at _ _ falls_2_5
  ·exact falls_at _ _ falls_2_6
  ·exact falls_at _ _ falls_2_7
  ·exact falls_at _ _ falls_2_8
  ·exact falls_at _ _ falls_2_9
  ·exact falls_at _ _ falls_2_10
  ·exact falls_at _ _ falls_2_11
  ·exact falls_at _ _ falls_2_12
 ·rcases (show n = 1 ∨ n = 2 ∨ n = 3 ∨ n = 4 ∨ n = 5 ∨ n = 6 ∨ n = 7 ∨ n = 8 ∨ n = 9 ∨ n = 10 ∨ n = 11 ∨ n = 12 by omega) with rfl | rfl | rfl | rfl | rfl | rfl | rfl | rfl | rfl | rfl | rfl | rfl
  ·exact falls_at _ _ falls_3_1
  ·exact falls_at _ _ falls_3_2
  ·exact falls_at _ _ falls_3_3
  ·exact falls_at _ _ falls_3_4
  ·exact falls_at _ _ falls_3_5
  ·exact falls_at _ _ falls_3_6
  ·exact falls_at _ _ falls_3_7
  ·exact falls_at _ _ falls_3_8
  ·exact falls_at _ _ falls_3_9
  ·exact falls_at _ _ falls_3_10
  ·exact falls_at _ _ falls_3_11
  ·exact falls_at _ _ falls_3_12
 ·rcases (show n = 1 ∨ n = 2 ∨ n = 3 ∨ n = 4 ∨ n = 5 ∨ n = 6 ∨ n = 7 ∨ n = 8 ∨ n = 9 ∨ n = 10 ∨ n = 11 ∨ n = 12 by omega) with rfl | rfl | rfl | rfl | rfl | rfl | rfl | rfl | rfl | rfl | rfl | rfl
  ·exact falls_at _ _ falls_4_1
  ·exact falls_at _ _ falls_4_2
  ·exact falls_at _ _ falls_4_3
  ·exact falls_at _ _ falls_4_4
  ·exact falls_at _ _ falls_4_5
  ·exact falls_at _ _ falls_4_6
  ·exact falls_at _ _ falls_4_7
  ·exact falls_at _ _ falls_4_8
  ·exact falls_at _ _ falls_4_9
  ·exact falls_at _ _ falls_4_10
  ·exact falls_at _ _ falls_4_11
  ·exact falls_at _ _ falls_4_12
theorem SchedFalls : anneallaw20_SchedFalls.Pure := by
 intro a0 a1 h0 h1
 obtain ⟨p0, q0⟩ := wf_u8 h0
 obtain ⟨p1, q1⟩ := wf_u8 h1
 have e0 := Int.tmod_eq_emod_of_nonneg (b := 5) p0
 have e1 := Int.tmod_eq_emod_of_nonneg (b := 12) p1
 apply Ev.rounds
 unfold anneallaw20_SchedFalls.f
 refine Ev.bind known20_ev ?_
 refine Ev.congr (fun k => by rw [if_pos rfl, e0, e1, w64_id (a0 % 5) (by omega) (by omega), w64_id (a1 % 12) (by omega) (by omega), w64_id (a1 % 12 + 1) (by omega) (by omega)]) ?_
 exact falls_all _ _ (by omega) (by omega) (by omega) (by omega)
end Go.Proofs.Ytjlgmfgjleajfaa.Pure
