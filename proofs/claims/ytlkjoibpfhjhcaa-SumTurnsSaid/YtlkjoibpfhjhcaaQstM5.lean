import Derived.Test.YtlkjoibpfhjhcaaQstZ
import Derived.Test.YtlkjoibpfhjhcaaQstM1
import Derived.Test.YtlkjoibpfhjhcaaQstPx14
import Derived.Test.YtlkjoibpfhjhcaaQstM4
import Derived.Test.YtlkjoibpfhjhcaaQstPx13
import Derived.Test.YtlkjoibpfhjhcaaQstPx16
import Derived.Test.YtlkjoibpfhjhcaaQstWMore
import Derived.Test.YtlkjoibpfhjhcaaQstM3
import Derived.Test.YtlkjoibpfhjhcaaQstM2
import Derived.Test.YtlkjoibpfhjhcaaQstPx12
import Derived.Test.YtlkjoibpfhjhcaaQstPx7
import Derived.Test.YtlkjoibpfhjhcaaQstPx10
-- Printed by a program of this session's out of Lean's print of the translation; Lean checks it.
namespace Go.Proofs.Ytlkjoibpfhjhcaa.P
open Go.RowKit Go.Proofs.YtlkjoibpfhjhcaaW.PrintWords Go.Proofs.YtlkjoibpfhjhcaaW.PrintLast Go.Proofs.YtlkjoibpfhjhcaaW.PrintMore
attribute [local go_sem] max2_int min2_int max_two min_two max_three min_three max_four min_four   -- for this text's walks alone
set_option linter.unusedVariables false
set_option linter.unusedSimpArgs false

/-! ### annealref1_parts: function 53 -/
def annealref1_parts.f (a0 : Int) (a1 : Int) : Option (Bool × Int × Int) := (annealref1_Widths.f a0).bind fun bt321 => ((annealref1_Mask.f a0).bind fun t323 => (if 0 ≤ (wrap64 (bt321.1 + bt321.2)) then (if 0 ≤ bt321.2 then (if 0 ≤ bt321.1 then (some (((shr .u32 (Go.bits .and .u32 a1 t323) (wrap64 (bt321.1 + bt321.2))) == 1), wrap64 (Go.bits .and .u32 (shr .u32 (Go.bits .and .u32 a1 t323) bt321.2) (((shl .u32 1 bt321.1) - 1) % 4294967296)), IntKind.u64.wrap (Go.bits .and .u32 (Go.bits .and .u32 a1 t323) (((shl .u32 1 bt321.2) - 1) % 4294967296)))) else (none)) else (none)) else (none)))
set_option maxHeartbeats 8000000 in
set_option maxRecDepth 100000 in
theorem annealref1_parts.calls (a0 : Int) (a1 : Int) (r1 : Bool) (r2 : Int) (r3 : Int) (w : World) (h : annealref1_parts.f a0 a1 = some (r1, r2, r3)) :
  Calls Try.prog 53 #[.int .i64 a0, .int .u32 a1] w fun e w' => e = .returned (.tuple #[.bool r1, .int .i64 r2, .int .u64 r3]) ∧ Drawn0 w w' := by
 have H : ((annealref1_Widths.f a0).bind fun bt321 => ((annealref1_Mask.f a0).bind fun t323 => (if 0 ≤ (wrap64 (bt321.1 + bt321.2)) then (if 0 ≤ bt321.2 then (if 0 ≤ bt321.1 then (some (((shr .u32 (Go.bits .and .u32 a1 t323) (wrap64 (bt321.1 + bt321.2))) == 1), wrap64 (Go.bits .and .u32 (shr .u32 (Go.bits .and .u32 a1 t323) bt321.2) (((shl .u32 1 bt321.1) - 1) % 4294967296)), IntKind.u64.wrap (Go.bits .and .u32 (Go.bits .and .u32 a1 t323) (((shl .u32 1 bt321.2) - 1) % 4294967296)))) else (none)) else (none)) else (none)))) = some (r1, r2, r3) := h
 clear h
 replace H := Option.bind_eq_some_iff.mp H
 obtain ⟨⟨t321, t322⟩, A30, H⟩ := H
 replace H : ((annealref1_Mask.f a0).bind fun t323 => (if 0 ≤ (wrap64 (t321 + t322)) then (if 0 ≤ t322 then (if 0 ≤ t321 then (some (((shr .u32 (Go.bits .and .u32 a1 t323) (wrap64 (t321 + t322))) == 1), wrap64 (Go.bits .and .u32 (shr .u32 (Go.bits .and .u32 a1 t323) t322) (((shl .u32 1 t321) - 1) % 4294967296)), IntKind.u64.wrap (Go.bits .and .u32 (Go.bits .and .u32 a1 t323) (((shl .u32 1 t322) - 1) % 4294967296)))) else (none)) else (none)) else (none))) = some (r1, r2, r3) := H
 have A3 := Aside0.mk A30
 clear A30
 replace H := Option.bind_eq_some_iff.mp H
 obtain ⟨t323, A40, H⟩ := H
 replace H : (if 0 ≤ (wrap64 (t321 + t322)) then (if 0 ≤ t322 then (if 0 ≤ t321 then (some (((shr .u32 (Go.bits .and .u32 a1 t323) (wrap64 (t321 + t322))) == 1), wrap64 (Go.bits .and .u32 (shr .u32 (Go.bits .and .u32 a1 t323) t322) (((shl .u32 1 t321) - 1) % 4294967296)), IntKind.u64.wrap (Go.bits .and .u32 (Go.bits .and .u32 a1 t323) (((shl .u32 1 t322) - 1) % 4294967296)))) else (none)) else (none)) else (none)) = some (r1, r2, r3) := H
 have A4 := Aside0.mk A40
 clear A40
 obtain ⟨ji5, hji5⟩ : ∃ j_ : Int, (wrap64 (t321 + t322)) = j_ := ⟨_, rfl⟩
 replace H : (if 0 ≤ (ji5) then (if 0 ≤ t322 then (if 0 ≤ t321 then (some (((shr .u32 (Go.bits .and .u32 a1 t323) (ji5)) == 1), wrap64 (Go.bits .and .u32 (shr .u32 (Go.bits .and .u32 a1 t323) t322) (((shl .u32 1 t321) - 1) % 4294967296)), IntKind.u64.wrap (Go.bits .and .u32 (Go.bits .and .u32 a1 t323) (((shl .u32 1 t322) - 1) % 4294967296)))) else (none)) else (none)) else (none)) = some (r1, r2, r3) := by first | (rw [hji5] at H; exact H) | (simp only [hji5] at H ⊢; exact H)
 (try rw [hji5] at A3)
 (try rw [hji5] at A4)
 have hji5w : (IntKind.i64.wrap (t321 + t322)) = ji5 := (i64_w _).trans hji5
 by_cases c6 : 0 ≤ (ji5)
 ·rw [if_pos c6] at H
  have c6b0 := eq_true c6
  have c6b1 : decide (0 ≤ (ji5)) = true := decide_eq_true c6
  clear c6
  obtain ⟨ji7, hji7⟩ : ∃ j_ : Int, (shr .u32 (Go.bits .and .u32 a1 t323) (ji5)) = j_ := ⟨_, rfl⟩
  replace H : (if 0 ≤ t322 then (if 0 ≤ t321 then (some (((ji7) == 1), wrap64 (Go.bits .and .u32 (shr .u32 (Go.bits .and .u32 a1 t323) t322) (((shl .u32 1 t321) - 1) % 4294967296)), IntKind.u64.wrap (Go.bits .and .u32 (Go.bits .and .u32 a1 t323) (((shl .u32 1 t322) - 1) % 4294967296)))) else (none)) else (none)) = some (r1, r2, r3) := by first | (rw [hji7] at H; exact H) | (simp only [hji7] at H ⊢; exact H)
  (try rw [hji7] at A3)
  (try rw [hji7] at A4)
  have hji7_ : ((Go.bits .and .u32 a1 t323) / 2 ^ min (ji5).toNat 32) = ji7 := hji7
  have hji7z : (ji5) ≤ 32 → ((Go.bits .and .u32 a1 t323) / 2 ^ (ji5).toNat) = ji7 := shr_small hji7
  by_cases c8 : 0 ≤ t322
  ·rw [if_pos c8] at H
   have c8b0 := eq_true c8
   have c8b1 : decide (0 ≤ t322) = true := decide_eq_true c8
   clear c8
   obtain ⟨ji9, hji9⟩ : ∃ j_ : Int, (shr .u32 (Go.bits .and .u32 a1 t323) t322) = j_ := ⟨_, rfl⟩
   replace H : (if 0 ≤ t321 then (some (((ji7) == 1), wrap64 (Go.bits .and .u32 (ji9) (((shl .u32 1 t321) - 1) % 4294967296)), IntKind.u64.wrap (Go.bits .and .u32 (Go.bits .and .u32 a1 t323) (((shl .u32 1 t322) - 1) % 4294967296)))) else (none)) = some (r1, r2, r3) := by first | (rw [hji9] at H; exact H) | (simp only [hji9] at H ⊢; exact H)
   (try rw [hji9] at A3)
   (try rw [hji9] at A4)
   have hji9_ : ((Go.bits .and .u32 a1 t323) / 2 ^ min t322.toNat 32) = ji9 := hji9
   have hji9z : t322 ≤ 32 → ((Go.bits .and .u32 a1 t323) / 2 ^ t322.toNat) = ji9 := shr_small hji9
   by_cases c10 : 0 ≤ t321
   ·rw [if_pos c10] at H
    have c10b0 := eq_true c10
    have c10b1 : decide (0 ≤ t321) = true := decide_eq_true c10
    clear c10
    obtain ⟨ji11, hji11⟩ : ∃ j_ : Int, (shl .u32 1 t321) = j_ := ⟨_, rfl⟩
    replace H : (some (((ji7) == 1), wrap64 (Go.bits .and .u32 (ji9) (((ji11) - 1) % 4294967296)), IntKind.u64.wrap (Go.bits .and .u32 (Go.bits .and .u32 a1 t323) (((shl .u32 1 t322) - 1) % 4294967296)))) = some (r1, r2, r3) := by first | (rw [hji11] at H; exact H) | (simp only [hji11] at H ⊢; exact H)
    (try rw [hji11] at A3)
    (try rw [hji11] at A4)
    have hji11_ : (IntKind.u32.wrap (1 * 2 ^ min t321.toNat 32)) = ji11 := hji11
    have hji11z : t321 ≤ 32 → (IntKind.u32.wrap (1 * 2 ^ t321.toNat)) = ji11 := shl_small hji11
    have hji11u : (IntKind.u32.wrap (2 ^ min t321.toNat 32)) = ji11 := by have h_ := hji11_; rw [Int.one_mul] at h_; exact h_
    have hji11v : t321 ≤ 32 → (IntKind.u32.wrap (2 ^ t321.toNat)) = ji11 := fun hle_ => by have h_ := hji11z hle_; rw [Int.one_mul] at h_; exact h_
    obtain ⟨ji12, hji12⟩ : ∃ j_ : Int, (((ji11) - 1) % 4294967296) = j_ := ⟨_, rfl⟩
    replace H : (some (((ji7) == 1), wrap64 (Go.bits .and .u32 (ji9) (ji12)), IntKind.u64.wrap (Go.bits .and .u32 (Go.bits .and .u32 a1 t323) (((shl .u32 1 t322) - 1) % 4294967296)))) = some (r1, r2, r3) := by first | (rw [hji12] at H; exact H) | (simp only [hji12] at H ⊢; exact H)
    (try rw [hji12] at A3)
    (try rw [hji12] at A4)
    have hji12l : 0 ≤ ji12 := by rw [← hji12]; exact Int.emod_nonneg _ (by decide)
    have hji12h : ji12 ≤ 4294967295 := by have := Int.emod_lt_of_pos (((ji11) - 1)) (show (0 : Int) < 4294967296 by decide); omega
    have hji12w : (IntKind.u32.wrap ((ji11) - 1)) = ji12 := (u32_w _).trans hji12
    (try (have hji12_ := hji12; simp only [Int.add_emod_emod, Int.emod_add_emod, Int.sub_emod_emod, Int.emod_sub_emod] at hji12_))
    have c13b0 := eq_true (of_decide_eq_true (by first | (with_reducible assumption) | assumption) : 0 ≤ t322)
    obtain ⟨ji14, hji14⟩ : ∃ j_ : Int, (shl .u32 1 t322) = j_ := ⟨_, rfl⟩
    replace H : (some (((ji7) == 1), wrap64 (Go.bits .and .u32 (ji9) (ji12)), IntKind.u64.wrap (Go.bits .and .u32 (Go.bits .and .u32 a1 t323) (((ji14) - 1) % 4294967296)))) = some (r1, r2, r3) := by first | (rw [hji14] at H; exact H) | (simp only [hji14] at H ⊢; exact H)
    (try rw [hji14] at A3)
    (try rw [hji14] at A4)
    have hji14_ : (IntKind.u32.wrap (1 * 2 ^ min t322.toNat 32)) = ji14 := hji14
    have hji14z : t322 ≤ 32 → (IntKind.u32.wrap (1 * 2 ^ t322.toNat)) = ji14 := shl_small hji14
    have hji14u : (IntKind.u32.wrap (2 ^ min t322.toNat 32)) = ji14 := by have h_ := hji14_; rw [Int.one_mul] at h_; exact h_
    have hji14v : t322 ≤ 32 → (IntKind.u32.wrap (2 ^ t322.toNat)) = ji14 := fun hle_ => by have h_ := hji14z hle_; rw [Int.one_mul] at h_; exact h_
    obtain ⟨ji15, hji15⟩ : ∃ j_ : Int, (((ji14) - 1) % 4294967296) = j_ := ⟨_, rfl⟩
    replace H : (some (((ji7) == 1), wrap64 (Go.bits .and .u32 (ji9) (ji12)), IntKind.u64.wrap (Go.bits .and .u32 (Go.bits .and .u32 a1 t323) (ji15)))) = some (r1, r2, r3) := by first | (rw [hji15] at H; exact H) | (simp only [hji15] at H ⊢; exact H)
    (try rw [hji15] at A3)
    (try rw [hji15] at A4)
    have hji15l : 0 ≤ ji15 := by rw [← hji15]; exact Int.emod_nonneg _ (by decide)
    have hji15h : ji15 ≤ 4294967295 := by have := Int.emod_lt_of_pos (((ji14) - 1)) (show (0 : Int) < 4294967296 by decide); omega
    have hji15w : (IntKind.u32.wrap ((ji14) - 1)) = ji15 := (u32_w _).trans hji15
    (try (have hji15_ := hji15; simp only [Int.add_emod_emod, Int.emod_add_emod, Int.sub_emod_emod, Int.emod_sub_emod] at hji15_))
    simp only [Option.some.injEq, Prod.mk.injEq] at H
    obtain ⟨rfl, rfl, rfl⟩ := H
    go_enter Try.func53, Try.ntmps53
    go_wp2_with (first | (go_at_call 29; (with_reducible refine (annealref1_Widths.calls a0 t321 t322 _ A3.out).mono ?_); rintro e w' ⟨rfl, ⟨nd, rfl⟩⟩; (try first | exact ⟨rfl, _, World.drewN_drewN _ _ _⟩ | exact ⟨rfl, _, Eq.trans (World.drewN_drewN _ _ _) (congrArg (World.drewN _) (Nat.add_assoc _ _ _))⟩)) | (go_at_call 30; (with_reducible refine (annealref1_Mask.calls a0 t323 _ A4.out).mono ?_); rintro e w' ⟨rfl, ⟨nd, rfl⟩⟩; (try first | exact ⟨rfl, _, World.drewN_drewN _ _ _⟩ | exact ⟨rfl, _, Eq.trans (World.drewN_drewN _ _ _) (congrArg (World.drewN _) (Nat.add_assoc _ _ _))⟩)))
    repeat (go_quiet (first | (go_at_call 29; (with_reducible refine (annealref1_Widths.calls a0 t321 t322 _ A3.out).mono ?_); rintro e w' ⟨rfl, ⟨nd, rfl⟩⟩; (try first | exact ⟨rfl, _, World.drewN_drewN _ _ _⟩ | exact ⟨rfl, _, Eq.trans (World.drewN_drewN _ _ _) (congrArg (World.drewN _) (Nat.add_assoc _ _ _))⟩)) | (go_at_call 30; (with_reducible refine (annealref1_Mask.calls a0 t323 _ A4.out).mono ?_); rintro e w' ⟨rfl, ⟨nd, rfl⟩⟩; (try first | exact ⟨rfl, _, World.drewN_drewN _ _ _⟩ | exact ⟨rfl, _, Eq.trans (World.drewN_drewN _ _ _) (congrArg (World.drewN _) (Nat.add_assoc _ _ _))⟩))); try go_wp2_with (first | (go_at_call 29; (with_reducible refine (annealref1_Widths.calls a0 t321 t322 _ A3.out).mono ?_); rintro e w' ⟨rfl, ⟨nd, rfl⟩⟩; (try first | exact ⟨rfl, _, World.drewN_drewN _ _ _⟩ | exact ⟨rfl, _, Eq.trans (World.drewN_drewN _ _ _) (congrArg (World.drewN _) (Nat.add_assoc _ _ _))⟩)) | (go_at_call 30; (with_reducible refine (annealref1_Mask.calls a0 t323 _ A4.out).mono ?_); rintro e w' ⟨rfl, ⟨nd, rfl⟩⟩; (try first | exact ⟨rfl, _, World.drewN_drewN _ _ _⟩ | exact ⟨rfl, _, Eq.trans (World.drewN_drewN _ _ _) (congrArg (World.drewN _) (Nat.add_assoc _ _ _))⟩))))
    go_ret3
    exact ⟨by first | rfl | (simp; done) | (simp only [← hji5, ← hji7, ← hji9, ← hji11, ← hji12, ← hji14, ← hji15] <;> (first | rfl | (simp; done))) | (simp [*]; done) | (congr 1; (try unfold wrap64); omega) | (congr 1; rw [IntKind.wrap_u64]; omega), by repeat (first | exact Drawn0.refl _ | apply Drawn0.step)⟩
   ·rw [if_neg c10] at H
    exact absurd H (by simp)
  ·rw [if_neg c8] at H
   exact absurd H (by simp)
 ·rw [if_neg c6] at H
  exact absurd H (by simp)

/-! ### annealref1_Class: function 26 -/
def annealref1_Class.j0 : Nat → Int → Int → Int → Int → Bool → Option (Int)
 |0, _, _, _, _, _ => none
 |k + 1, x5, x6, x8, x9, x22 => if x22 = true then (some 0) else (if x8 = 0 then (some 1) else (if 0 ≤ x5 then (if x8 < (wrap64 ((shl .i64 1 x5) - 1)) then (some 2) else (if x9 = 0 then (some 3) else (if 0 ≤ (wrap64 (x6 - 1)) then (if (shr .u64 x9 (wrap64 (x6 - 1))) = 1 then (some 4) else (some 5)) else (none)))) else (none)))
def annealref1_Class.f (k : Nat) (a0 : Int) (a1 : Int) : Option (Int) := (annealref1_Widths.f a0).bind fun bt324 => ((annealref1_parts.f a0 a1).bind fun bt326 => (if bt326.2.1 = 0 then (annealref1_Class.j0 k bt324.1 bt324.2 bt326.2.1 bt326.2.2 (bt326.2.2 == 0)) else (annealref1_Class.j0 k bt324.1 bt324.2 bt326.2.1 bt326.2.2 false)))
set_option maxHeartbeats 8000000 in
set_option maxRecDepth 100000 in
theorem annealref1_Class.calls (k : Nat) (a0 : Int) (a1 : Int) (r : Int) (w : World) (h : annealref1_Class.f k a0 a1 = some r) :
  Calls Try.prog 26 #[.int .i64 a0, .int .u32 a1] w fun e w' => e = .returned (.int .i64 r) ∧ Drawn0 w w' := by
 have H : ((annealref1_Widths.f a0).bind fun bt324 => ((annealref1_parts.f a0 a1).bind fun bt326 => (if bt326.2.1 = 0 then (annealref1_Class.j0 k bt324.1 bt324.2 bt326.2.1 bt326.2.2 (bt326.2.2 == 0)) else (annealref1_Class.j0 k bt324.1 bt324.2 bt326.2.1 bt326.2.2 false)))) = some r := h
 clear h
 replace H := Option.bind_eq_some_iff.mp H
 obtain ⟨⟨t324, t325⟩, A30, H⟩ := H
 replace H : ((annealref1_parts.f a0 a1).bind fun bt326 => (if bt326.2.1 = 0 then (annealref1_Class.j0 k t324 t325 bt326.2.1 bt326.2.2 (bt326.2.2 == 0)) else (annealref1_Class.j0 k t324 t325 bt326.2.1 bt326.2.2 false))) = some r := H
 have A3 := Aside0.mk A30
 clear A30
 replace H := Option.bind_eq_some_iff.mp H
 obtain ⟨⟨t326, t327, t328⟩, A40, H⟩ := H
 replace H : (if t327 = 0 then (annealref1_Class.j0 k t324 t325 t327 t328 (t328 == 0)) else (annealref1_Class.j0 k t324 t325 t327 t328 false)) = some r := H
 have A4 := Aside0.mk A40
 clear A40
 have HC5 := Aside0.mk H
 clear H
 go_enter Try.func26, Try.ntmps26
 go_upto_region 3 with (first | ((with_reducible refine gate_callee (f := 29) rfl ?_); refine goesL_ (some 12) rfl rfl Try.func29 (by kernel_rfl) rfl #[.int .i64 a0] rfl gl ?_; (with_reducible refine (annealref1_Widths.calls a0 t324 t325 _ A3.out).mono ?_); rintro e w' ⟨rfl, ⟨nd, rfl⟩⟩; refine ⟨_, rfl, ?_⟩) | ((with_reducible refine gate_callee (f := 53) rfl ?_); refine goesL_ (some 18) rfl rfl Try.func53 (by kernel_rfl) rfl #[.int .i64 a0, .int .u32 a1] rfl gl ?_; (with_reducible refine (annealref1_parts.calls a0 a1 t326 t327 t328 _ A4.out).mono ?_); rintro e w' ⟨rfl, ⟨nd, rfl⟩⟩; refine ⟨_, rfl, ?_⟩))
 (try simp only [Act.put, sb, sz, ss])
 go_cut [22] (fun v22 wc => ∃ (kq : Nat) (x22_4 : Bool), v22 = .bool x22_4 ∧ Aside0 (annealref1_Class.j0 kq t324 t325 t327 t328 x22_4 = some r) ∧ Aside0 (kq ≤ k) ∧ Drawn0 w wc)
 case first =>
  have H := HC5.out
  clear HC5
  by_cases c6 : t327 = 0
  ·rw [if_pos c6] at H
   have c6b0 : (t327 == 0) = true := beq_iff_eq.mpr c6
   have c6b1 : (t327 != 0) = false := bne_eq_false_iff_eq.mpr c6
   clear c6
   (first | rw [c6b0] | (simp only [i64_w, i32_w]; rw [c6b0]) | skip)
   have H' := Aside0.mk H
   clear H
   go_wp2
   go_meet
   case rel => exact ⟨_, ((t328 == 0)), (by first | rfl | (simp; done) | (simp [*]; done) | (congr 1; (try unfold wrap64); omega) | (congr 1; rw [IntKind.wrap_u64]; omega)), H', ⟨by first | omega | exact Nat.le_refl _⟩, by repeat (first | exact Drawn0.refl _ | apply Drawn0.step)⟩
  ·rw [if_neg c6] at H
   have c6b0 : (t327 == 0) = false := beq_eq_false_iff_ne.mpr c6
   have c6b1 : (t327 != 0) = true := bne_iff_ne.mpr c6
   (first | rw [c6b0] | (simp only [i64_w, i32_w]; rw [c6b0]) | skip)
   have H' := Aside0.mk H
   clear H
   go_wp2
   go_meet
   case rel => exact ⟨_, (false), (by first | rfl | (simp; done) | (simp [*]; done) | (congr 1; (try unfold wrap64); omega) | (congr 1; rw [IntKind.wrap_u64]; omega)), H', ⟨by first | omega | exact Nat.le_refl _⟩, by repeat (first | exact Drawn0.refl _ | apply Drawn0.step)⟩
 case rest =>
  clear HC5
  try clear c2 p2 c5 c6 c6b0 c6b1 p6
  obtain ⟨kq, x22_4, rfl, HA, HJ4, ⟨mc4, rfl⟩⟩ := hcut
  cases kq with
  |zero => exact absurd HA.out (by simp [annealref1_Class.j0])
  |succ kj4 =>
   have H := HA.out
   clear HA
   simp only [annealref1_Class.j0] at H
   by_cases c7 : x22_4 = true
   ·subst c7
    have H1 : (some 0) = some r := by rw [if_pos rfl] at H; exact H
    clear H
    have H := H1
    clear H1
    obtain rfl := Option.some.inj H
    go_wp2
    go_ret
    exact ⟨by first | rfl | (simp; done) | (simp [*]; done) | (congr 1; (try unfold wrap64); omega) | (congr 1; rw [IntKind.wrap_u64]; omega), by repeat (first | exact Drawn0.refl _ | apply Drawn0.step)⟩
   ·replace c7 := Bool.eq_false_iff.mpr c7
    subst c7
    have H1 : (if t327 = 0 then (some 1) else (if 0 ≤ t324 then (if t327 < (wrap64 ((shl .i64 1 t324) - 1)) then (some 2) else (if t328 = 0 then (some 3) else (if 0 ≤ (wrap64 (t325 - 1)) then (if (shr .u64 t328 (wrap64 (t325 - 1))) = 1 then (some 4) else (some 5)) else (none)))) else (none))) = some r := by rw [if_neg (show ¬ (false = true) by decide)] at H; exact H
    clear H
    have H := H1
    clear H1
    by_cases c8 : t327 = 0
    ·rw [if_pos c8] at H
     have c8b0 : (t327 == 0) = true := beq_iff_eq.mpr c8
     have c8b1 : (t327 != 0) = false := bne_eq_false_iff_eq.mpr c8
     clear c8
     obtain rfl := Option.some.inj H
     go_wp2
     go_ret
     exact ⟨by first | rfl | (simp; done) | (simp [*]; done) | (congr 1; (try unfold wrap64); omega) | (congr 1; rw [IntKind.wrap_u64]; omega), by repeat (first | exact Drawn0.refl _ | apply Drawn0.step)⟩
    ·rw [if_neg c8] at H
     have c8b0 : (t327 == 0) = false := beq_eq_false_iff_ne.mpr c8
     have c8b1 : (t327 != 0) = true := bne_iff_ne.mpr c8
     by_cases c9 : 0 ≤ t324
     ·rw [if_pos c9] at H
      have c9b0 := eq_true c9
      have c9b1 : decide (0 ≤ t324) = true := decide_eq_true c9
      clear c9
      obtain ⟨ji10, hji10⟩ : ∃ j_ : Int, (shl .i64 1 t324) = j_ := ⟨_, rfl⟩
      replace H : (if t327 < (wrap64 ((ji10) - 1)) then (some 2) else (if t328 = 0 then (some 3) else (if 0 ≤ (wrap64 (t325 - 1)) then (if (shr .u64 t328 (wrap64 (t325 - 1))) = 1 then (some 4) else (some 5)) else (none)))) = some r := by first | (rw [hji10] at H; exact H) | (simp only [hji10] at H ⊢; exact H)
      have hji10_ : (IntKind.i64.wrap (1 * 2 ^ min t324.toNat 64)) = ji10 := hji10
      have hji10z : t324 ≤ 64 → (IntKind.i64.wrap (1 * 2 ^ t324.toNat)) = ji10 := shl_small hji10
      have hji10u : (IntKind.i64.wrap (2 ^ min t324.toNat 64)) = ji10 := by have h_ := hji10_; rw [Int.one_mul] at h_; exact h_
      have hji10v : t324 ≤ 64 → (IntKind.i64.wrap (2 ^ t324.toNat)) = ji10 := fun hle_ => by have h_ := hji10z hle_; rw [Int.one_mul] at h_; exact h_
      have hji10y : (wrap64 (1 * 2 ^ min t324.toNat 64)) = ji10 := (i64_w _).symm.trans hji10_
      have hji10x : t324 ≤ 64 → (wrap64 (1 * 2 ^ t324.toNat)) = ji10 := fun h_ => (i64_w _).symm.trans (hji10z h_)
      by_cases c11 : t327 < (wrap64 ((ji10) - 1))
      ·rw [if_pos c11] at H
       have c11b0 : decide (t327 < (wrap64 ((ji10) - 1))) = true := decide_eq_true c11
       clear c11
       obtain rfl := Option.some.inj H
       go_wp2
       go_ret
       exact ⟨by first | rfl | (simp; done) | (simp only [← hji10] <;> (first | rfl | (simp; done))) | (simp [*]; done) | (congr 1; (try unfold wrap64); omega) | (congr 1; rw [IntKind.wrap_u64]; omega), by repeat (first | exact Drawn0.refl _ | apply Drawn0.step)⟩
      ·rw [if_neg c11] at H
       have c11b0 : decide (t327 < (wrap64 ((ji10) - 1))) = false := decide_eq_false c11
       clear c11
       by_cases c12 : t328 = 0
       ·rw [if_pos c12] at H
        have c12b0 : (t328 == 0) = true := beq_iff_eq.mpr c12
        have c12b1 : (t328 != 0) = false := bne_eq_false_iff_eq.mpr c12
        clear c12
        obtain rfl := Option.some.inj H
        go_wp2
        go_ret
        exact ⟨by first | rfl | (simp; done) | (simp only [← hji10] <;> (first | rfl | (simp; done))) | (simp [*]; done) | (congr 1; (try unfold wrap64); omega) | (congr 1; rw [IntKind.wrap_u64]; omega), by repeat (first | exact Drawn0.refl _ | apply Drawn0.step)⟩
       ·rw [if_neg c12] at H
        have c12b0 : (t328 == 0) = false := beq_eq_false_iff_ne.mpr c12
        have c12b1 : (t328 != 0) = true := bne_iff_ne.mpr c12
        obtain ⟨ji13, hji13⟩ : ∃ j_ : Int, (wrap64 (t325 - 1)) = j_ := ⟨_, rfl⟩
        replace H : (if 0 ≤ (ji13) then (if (shr .u64 t328 (ji13)) = 1 then (some 4) else (some 5)) else (none)) = some r := by first | (rw [hji13] at H; exact H) | (simp only [hji13] at H ⊢; exact H)
        have hji13w : (IntKind.i64.wrap (t325 - 1)) = ji13 := (i64_w _).trans hji13
        by_cases c14 : 0 ≤ (ji13)
        ·rw [if_pos c14] at H
         have c14b0 := eq_true c14
         have c14b1 : decide (0 ≤ (ji13)) = true := decide_eq_true c14
         clear c14
         obtain ⟨ji15, hji15⟩ : ∃ j_ : Int, (shr .u64 t328 (ji13)) = j_ := ⟨_, rfl⟩
         replace H : (if (ji15) = 1 then (some 4) else (some 5)) = some r := by first | (rw [hji15] at H; exact H) | (simp only [hji15] at H ⊢; exact H)
         have hji15_ : (t328 / 2 ^ min (ji13).toNat 64) = ji15 := hji15
         have hji15z : (ji13) ≤ 64 → (t328 / 2 ^ (ji13).toNat) = ji15 := shr_small hji15
         by_cases c16 : (ji15) = 1
         ·rw [if_pos c16] at H
          have c16b0 : ((ji15) == 1) = true := beq_iff_eq.mpr c16
          have c16b1 : ((ji15) != 1) = false := bne_eq_false_iff_eq.mpr c16
          clear c16
          obtain rfl := Option.some.inj H
          go_wp2
          go_ret
          exact ⟨by first | rfl | (simp; done) | (simp only [← hji10, ← hji13, ← hji15] <;> (first | rfl | (simp; done))) | (simp [*]; done) | (congr 1; (try unfold wrap64); omega) | (congr 1; rw [IntKind.wrap_u64]; omega), by repeat (first | exact Drawn0.refl _ | apply Drawn0.step)⟩
         ·rw [if_neg c16] at H
          have c16b0 : ((ji15) == 1) = false := beq_eq_false_iff_ne.mpr c16
          have c16b1 : ((ji15) != 1) = true := bne_iff_ne.mpr c16
          obtain rfl := Option.some.inj H
          go_wp2
          go_ret
          exact ⟨by first | rfl | (simp; done) | (simp only [← hji10, ← hji13, ← hji15] <;> (first | rfl | (simp; done))) | (simp [*]; done) | (congr 1; (try unfold wrap64); omega) | (congr 1; rw [IntKind.wrap_u64]; omega), by repeat (first | exact Drawn0.refl _ | apply Drawn0.step)⟩
        ·rw [if_neg c14] at H
         exact absurd H (by simp)
     ·rw [if_neg c9] at H
      exact absurd H (by simp)

/-! ### annealref1_Finite: function 14 -/
def annealref1_Finite.f (k : Nat) (a0 : Int) (a1 : Int) : Option (Bool) := (annealref1_Class.f k a0 a1).bind fun t329 => (some (decide (t329 < 3)))
set_option maxHeartbeats 8000000 in
set_option maxRecDepth 100000 in
theorem annealref1_Finite.calls (k : Nat) (a0 : Int) (a1 : Int) (r : Bool) (w : World) (h : annealref1_Finite.f k a0 a1 = some r) :
  Calls Try.prog 14 #[.int .i64 a0, .int .u32 a1] w fun e w' => e = .returned (.bool r) ∧ Drawn0 w w' := by
 have H : ((annealref1_Class.f k a0 a1).bind fun t329 => (some (decide (t329 < 3)))) = some r := h
 clear h
 replace H := Option.bind_eq_some_iff.mp H
 obtain ⟨t329, A30, H⟩ := H
 replace H : (some (decide (t329 < 3))) = some r := H
 have A3 := Aside0.mk A30
 clear A30
 obtain rfl := Option.some.inj H
 go_enter Try.func14, Try.ntmps14
 go_wp2_with (first | ((with_reducible refine gate_callee (f := 26) rfl ?_); refine goesL_ (some 7) rfl rfl Try.func26 (by kernel_rfl) rfl #[.int .i64 a0, .int .u32 a1] rfl gl ?_; (with_reducible refine (annealref1_Class.calls k a0 a1 t329 _ A3.out).mono ?_); rintro e w' ⟨rfl, ⟨nd, rfl⟩⟩; refine ⟨_, rfl, ?_⟩))
 go_ret
 exact ⟨by first | rfl | (simp; done) | (simp [*]; done) | (congr 1; (try unfold wrap64); omega) | (congr 1; rw [IntKind.wrap_u64]; omega), by repeat (first | exact Drawn0.refl _ | apply Drawn0.step)⟩

/-! ### annealref1_Inf: function 40 -/
def annealref1_Inf.f (a0 : Int) (a1 : Bool) : Option (Int) := (annealref1_Widths.f a0).bind fun bt330 => ((annealref1_sign.f a0 a1).bind fun t332 => (if 0 ≤ bt330.1 then (if 0 ≤ bt330.2 then (some (Go.bits .or .u32 t332 (shl .u32 (((shl .u32 1 bt330.1) - 1) % 4294967296) bt330.2))) else (none)) else (none)))
set_option maxHeartbeats 8000000 in
set_option maxRecDepth 100000 in
theorem annealref1_Inf.calls (a0 : Int) (a1 : Bool) (r : Int) (w : World) (h : annealref1_Inf.f a0 a1 = some r) :
  Calls Try.prog 40 #[.int .i64 a0, .bool a1] w fun e w' => e = .returned (.int .u32 r) ∧ Drawn0 w w' := by
 have H : ((annealref1_Widths.f a0).bind fun bt330 => ((annealref1_sign.f a0 a1).bind fun t332 => (if 0 ≤ bt330.1 then (if 0 ≤ bt330.2 then (some (Go.bits .or .u32 t332 (shl .u32 (((shl .u32 1 bt330.1) - 1) % 4294967296) bt330.2))) else (none)) else (none)))) = some r := h
 clear h
 replace H := Option.bind_eq_some_iff.mp H
 obtain ⟨⟨t330, t331⟩, A30, H⟩ := H
 replace H : ((annealref1_sign.f a0 a1).bind fun t332 => (if 0 ≤ t330 then (if 0 ≤ t331 then (some (Go.bits .or .u32 t332 (shl .u32 (((shl .u32 1 t330) - 1) % 4294967296) t331))) else (none)) else (none))) = some r := H
 have A3 := Aside0.mk A30
 clear A30
 replace H := Option.bind_eq_some_iff.mp H
 obtain ⟨t332, A40, H⟩ := H
 replace H : (if 0 ≤ t330 then (if 0 ≤ t331 then (some (Go.bits .or .u32 t332 (shl .u32 (((shl .u32 1 t330) - 1) % 4294967296) t331))) else (none)) else (none)) = some r := H
 have A4 := Aside0.mk A40
 clear A40
 by_cases c5 : 0 ≤ t330
 ·rw [if_pos c5] at H
  have c5b0 := eq_true c5
  have c5b1 : decide (0 ≤ t330) = true := decide_eq_true c5
  clear c5
  obtain ⟨ji6, hji6⟩ : ∃ j_ : Int, (shl .u32 1 t330) = j_ := ⟨_, rfl⟩
  replace H : (if 0 ≤ t331 then (some (Go.bits .or .u32 t332 (shl .u32 (((ji6) - 1) % 4294967296) t331))) else (none)) = some r := by first | (rw [hji6] at H; exact H) | (simp only [hji6] at H ⊢; exact H)
  (try rw [hji6] at A3)
  (try rw [hji6] at A4)
  have hji6_ : (IntKind.u32.wrap (1 * 2 ^ min t330.toNat 32)) = ji6 := hji6
  have hji6z : t330 ≤ 32 → (IntKind.u32.wrap (1 * 2 ^ t330.toNat)) = ji6 := shl_small hji6
  have hji6u : (IntKind.u32.wrap (2 ^ min t330.toNat 32)) = ji6 := by have h_ := hji6_; rw [Int.one_mul] at h_; exact h_
  have hji6v : t330 ≤ 32 → (IntKind.u32.wrap (2 ^ t330.toNat)) = ji6 := fun hle_ => by have h_ := hji6z hle_; rw [Int.one_mul] at h_; exact h_
  obtain ⟨ji7, hji7⟩ : ∃ j_ : Int, (((ji6) - 1) % 4294967296) = j_ := ⟨_, rfl⟩
  replace H : (if 0 ≤ t331 then (some (Go.bits .or .u32 t332 (shl .u32 (ji7) t331))) else (none)) = some r := by first | (rw [hji7] at H; exact H) | (simp only [hji7] at H ⊢; exact H)
  (try rw [hji7] at A3)
  (try rw [hji7] at A4)
  have hji7l : 0 ≤ ji7 := by rw [← hji7]; exact Int.emod_nonneg _ (by decide)
  have hji7h : ji7 ≤ 4294967295 := by have := Int.emod_lt_of_pos (((ji6) - 1)) (show (0 : Int) < 4294967296 by decide); omega
  have hji7w : (IntKind.u32.wrap ((ji6) - 1)) = ji7 := (u32_w _).trans hji7
  (try (have hji7_ := hji7; simp only [Int.add_emod_emod, Int.emod_add_emod, Int.sub_emod_emod, Int.emod_sub_emod] at hji7_))
  by_cases c8 : 0 ≤ t331
  ·rw [if_pos c8] at H
   have c8b0 := eq_true c8
   have c8b1 : decide (0 ≤ t331) = true := decide_eq_true c8
   clear c8
   obtain ⟨ji9, hji9⟩ : ∃ j_ : Int, (shl .u32 (ji7) t331) = j_ := ⟨_, rfl⟩
   replace H : (some (Go.bits .or .u32 t332 (ji9))) = some r := by first | (rw [hji9] at H; exact H) | (simp only [hji9] at H ⊢; exact H)
   (try rw [hji9] at A3)
   (try rw [hji9] at A4)
   have hji9_ : (IntKind.u32.wrap ((ji7) * 2 ^ min t331.toNat 32)) = ji9 := hji9
   have hji9z : t331 ≤ 32 → (IntKind.u32.wrap ((ji7) * 2 ^ t331.toNat)) = ji9 := shl_small hji9
   obtain rfl := Option.some.inj H
   go_enter Try.func40, Try.ntmps40
   go_wp2_with (first | (go_at_call 29; (with_reducible refine (annealref1_Widths.calls a0 t330 t331 _ A3.out).mono ?_); rintro e w' ⟨rfl, ⟨nd, rfl⟩⟩; (try first | exact ⟨rfl, _, World.drewN_drewN _ _ _⟩ | exact ⟨rfl, _, Eq.trans (World.drewN_drewN _ _ _) (congrArg (World.drewN _) (Nat.add_assoc _ _ _))⟩)) | (go_at_call 41; (with_reducible refine (annealref1_sign.calls a0 a1 t332 _ A4.out).mono ?_); rintro e w' ⟨rfl, ⟨nd, rfl⟩⟩; (try first | exact ⟨rfl, _, World.drewN_drewN _ _ _⟩ | exact ⟨rfl, _, Eq.trans (World.drewN_drewN _ _ _) (congrArg (World.drewN _) (Nat.add_assoc _ _ _))⟩)))
   repeat (go_quiet (first | (go_at_call 29; (with_reducible refine (annealref1_Widths.calls a0 t330 t331 _ A3.out).mono ?_); rintro e w' ⟨rfl, ⟨nd, rfl⟩⟩; (try first | exact ⟨rfl, _, World.drewN_drewN _ _ _⟩ | exact ⟨rfl, _, Eq.trans (World.drewN_drewN _ _ _) (congrArg (World.drewN _) (Nat.add_assoc _ _ _))⟩)) | (go_at_call 41; (with_reducible refine (annealref1_sign.calls a0 a1 t332 _ A4.out).mono ?_); rintro e w' ⟨rfl, ⟨nd, rfl⟩⟩; (try first | exact ⟨rfl, _, World.drewN_drewN _ _ _⟩ | exact ⟨rfl, _, Eq.trans (World.drewN_drewN _ _ _) (congrArg (World.drewN _) (Nat.add_assoc _ _ _))⟩))); try go_wp2_with (first | (go_at_call 29; (with_reducible refine (annealref1_Widths.calls a0 t330 t331 _ A3.out).mono ?_); rintro e w' ⟨rfl, ⟨nd, rfl⟩⟩; (try first | exact ⟨rfl, _, World.drewN_drewN _ _ _⟩ | exact ⟨rfl, _, Eq.trans (World.drewN_drewN _ _ _) (congrArg (World.drewN _) (Nat.add_assoc _ _ _))⟩)) | (go_at_call 41; (with_reducible refine (annealref1_sign.calls a0 a1 t332 _ A4.out).mono ?_); rintro e w' ⟨rfl, ⟨nd, rfl⟩⟩; (try first | exact ⟨rfl, _, World.drewN_drewN _ _ _⟩ | exact ⟨rfl, _, Eq.trans (World.drewN_drewN _ _ _) (congrArg (World.drewN _) (Nat.add_assoc _ _ _))⟩))))
   go_ret
   exact ⟨by first | rfl | (simp; done) | (simp only [← hji6, ← hji7, ← hji9] <;> (first | rfl | (simp; done))) | (simp [*]; done) | (congr 1; (try unfold wrap64); omega) | (congr 1; rw [IntKind.wrap_u64]; omega), by repeat (first | exact Drawn0.refl _ | apply Drawn0.step)⟩
  ·rw [if_neg c8] at H
   exact absurd H (by simp)
 ·rw [if_neg c5] at H
  exact absurd H (by simp)

end Go.Proofs.Ytlkjoibpfhjhcaa.P

-- Printed by a program of this session's out of Lean's print of the translation; Lean checks it.
namespace Go.Proofs.Ytlkjoibpfhjhcaa.P
open Go.RowKit Go.Proofs.YtlkjoibpfhjhcaaW.PrintWords Go.Proofs.YtlkjoibpfhjhcaaW.PrintLast Go.Proofs.YtlkjoibpfhjhcaaW.PrintMore
attribute [local go_sem] max2_int min2_int max_two min_two max_three min_three max_four min_four   -- for this text's walks alone
set_option linter.unusedVariables false
set_option linter.unusedSimpArgs false

attribute [local go_sem high] eqA27
/-! ### annealref1_Nan: function 15 -/
def annealref1_Nan.f (a0 : Int) : Option (Int) := (annealref1_Widths.f a0).bind fun bt333 => ((annealref1_Inf.f a0 false).bind fun t335 => (if 0 ≤ (wrap64 (bt333.2 - 1)) then (some (Go.bits .or .u32 t335 (shl .u32 1 (wrap64 (bt333.2 - 1))))) else (none)))
set_option maxHeartbeats 8000000 in
set_option maxRecDepth 100000 in
theorem annealref1_Nan.calls (a0 : Int) (r : Int) (w : World) (h : annealref1_Nan.f a0 = some r) :
  Calls Try.prog 15 #[.int .i64 a0] w fun e w' => e = .returned (.int .u32 r) ∧ Drawn0 w w' := by
 have H : ((annealref1_Widths.f a0).bind fun bt333 => ((annealref1_Inf.f a0 false).bind fun t335 => (if 0 ≤ (wrap64 (bt333.2 - 1)) then (some (Go.bits .or .u32 t335 (shl .u32 1 (wrap64 (bt333.2 - 1))))) else (none)))) = some r := h
 clear h
 replace H := Option.bind_eq_some_iff.mp H
 obtain ⟨⟨t333, t334⟩, A20, H⟩ := H
 replace H : ((annealref1_Inf.f a0 false).bind fun t335 => (if 0 ≤ (wrap64 (t334 - 1)) then (some (Go.bits .or .u32 t335 (shl .u32 1 (wrap64 (t334 - 1))))) else (none))) = some r := H
 have A2 := Aside0.mk A20
 clear A20
 replace H := Option.bind_eq_some_iff.mp H
 obtain ⟨t335, A30, H⟩ := H
 replace H : (if 0 ≤ (wrap64 (t334 - 1)) then (some (Go.bits .or .u32 t335 (shl .u32 1 (wrap64 (t334 - 1))))) else (none)) = some r := H
 have A3 := Aside0.mk A30
 clear A30
 obtain ⟨ji4, hji4⟩ : ∃ j_ : Int, (wrap64 (t334 - 1)) = j_ := ⟨_, rfl⟩
 replace H : (if 0 ≤ (ji4) then (some (Go.bits .or .u32 t335 (shl .u32 1 (ji4)))) else (none)) = some r := by first | (rw [hji4] at H; exact H) | (simp only [hji4] at H ⊢; exact H)
 (try rw [hji4] at A2)
 (try rw [hji4] at A3)
 have hji4w : (IntKind.i64.wrap (t334 - 1)) = ji4 := (i64_w _).trans hji4
 by_cases c5 : 0 ≤ (ji4)
 ·rw [if_pos c5] at H
  have c5b0 := eq_true c5
  have c5b1 : decide (0 ≤ (ji4)) = true := decide_eq_true c5
  clear c5
  obtain ⟨ji6, hji6⟩ : ∃ j_ : Int, (shl .u32 1 (ji4)) = j_ := ⟨_, rfl⟩
  replace H : (some (Go.bits .or .u32 t335 (ji6))) = some r := by first | (rw [hji6] at H; exact H) | (simp only [hji6] at H ⊢; exact H)
  (try rw [hji6] at A2)
  (try rw [hji6] at A3)
  have hji6_ : (IntKind.u32.wrap (1 * 2 ^ min (ji4).toNat 32)) = ji6 := hji6
  have hji6z : (ji4) ≤ 32 → (IntKind.u32.wrap (1 * 2 ^ (ji4).toNat)) = ji6 := shl_small hji6
  have hji6u : (IntKind.u32.wrap (2 ^ min (ji4).toNat 32)) = ji6 := by have h_ := hji6_; rw [Int.one_mul] at h_; exact h_
  have hji6v : (ji4) ≤ 32 → (IntKind.u32.wrap (2 ^ (ji4).toNat)) = ji6 := fun hle_ => by have h_ := hji6z hle_; rw [Int.one_mul] at h_; exact h_
  obtain rfl := Option.some.inj H
  go_enter Try.func15, Try.ntmps15
  go_wp2_with (first | (go_at_call 29; (with_reducible refine (annealref1_Widths.calls a0 t333 t334 _ A2.out).mono ?_); rintro e w' ⟨rfl, ⟨nd, rfl⟩⟩; (try first | exact ⟨rfl, _, World.drewN_drewN _ _ _⟩ | exact ⟨rfl, _, Eq.trans (World.drewN_drewN _ _ _) (congrArg (World.drewN _) (Nat.add_assoc _ _ _))⟩)) | (go_at_call 40; (with_reducible refine (annealref1_Inf.calls a0 false t335 _ A3.out).mono ?_); rintro e w' ⟨rfl, ⟨nd, rfl⟩⟩; (try first | exact ⟨rfl, _, World.drewN_drewN _ _ _⟩ | exact ⟨rfl, _, Eq.trans (World.drewN_drewN _ _ _) (congrArg (World.drewN _) (Nat.add_assoc _ _ _))⟩)))
  repeat (go_quiet (first | (go_at_call 29; (with_reducible refine (annealref1_Widths.calls a0 t333 t334 _ A2.out).mono ?_); rintro e w' ⟨rfl, ⟨nd, rfl⟩⟩; (try first | exact ⟨rfl, _, World.drewN_drewN _ _ _⟩ | exact ⟨rfl, _, Eq.trans (World.drewN_drewN _ _ _) (congrArg (World.drewN _) (Nat.add_assoc _ _ _))⟩)) | (go_at_call 40; (with_reducible refine (annealref1_Inf.calls a0 false t335 _ A3.out).mono ?_); rintro e w' ⟨rfl, ⟨nd, rfl⟩⟩; (try first | exact ⟨rfl, _, World.drewN_drewN _ _ _⟩ | exact ⟨rfl, _, Eq.trans (World.drewN_drewN _ _ _) (congrArg (World.drewN _) (Nat.add_assoc _ _ _))⟩))); try go_wp2_with (first | (go_at_call 29; (with_reducible refine (annealref1_Widths.calls a0 t333 t334 _ A2.out).mono ?_); rintro e w' ⟨rfl, ⟨nd, rfl⟩⟩; (try first | exact ⟨rfl, _, World.drewN_drewN _ _ _⟩ | exact ⟨rfl, _, Eq.trans (World.drewN_drewN _ _ _) (congrArg (World.drewN _) (Nat.add_assoc _ _ _))⟩)) | (go_at_call 40; (with_reducible refine (annealref1_Inf.calls a0 false t335 _ A3.out).mono ?_); rintro e w' ⟨rfl, ⟨nd, rfl⟩⟩; (try first | exact ⟨rfl, _, World.drewN_drewN _ _ _⟩ | exact ⟨rfl, _, Eq.trans (World.drewN_drewN _ _ _) (congrArg (World.drewN _) (Nat.add_assoc _ _ _))⟩))))
  go_ret
  exact ⟨by first | rfl | (simp; done) | (simp only [← hji4, ← hji6] <;> (first | rfl | (simp; done))) | (simp [*]; done) | (congr 1; (try unfold wrap64); omega) | (congr 1; rw [IntKind.wrap_u64]; omega), by repeat (first | exact Drawn0.refl _ | apply Drawn0.step)⟩
 ·rw [if_neg c5] at H
  exact absurd H (by simp)

/-! ### anneallaw4_SumTurns: function 3 -/
def anneallaw4_SumTurns.j0 : Nat → Int → Int → Int → Int → Bool → Bool → Bool → Bool → Bool → Bool → Option (Bool)
 |0, _, _, _, _, _, _, _, _, _, _ => none
 |k + 1, x9, x10, x11, x17, x63, x361000, x361001, x361002, x361003, x361004 => if x63 = true then (some false) else ((annealref1_Finite.f k x9 x11).bind fun t361 => (if t361 = true then ((annealref1_Zero.f x9 (x10 == 3)).bind fun t362 => (if x17 = t362 then (some (!x361000 && (!x361001 && (!x361002 && (!x361003 && (!x361004)))))) else (some false))) else ((annealref1_Nan.f x9).bind fun t363 => (some (x17 == t363)))))
def anneallaw4_SumTurns.f (k : Nat) (a0 : Int) (a1 : Int) (a2 : Int) (a3 : Int) : Option (Bool) := (anneallaw4_known.f k).bind fun t336 => (if t336 = true then ((anneallaw4_form.f a0).bind fun t337 => ((annealseat_Num.f t337 a2).bind fun t338 => ((annealseat_Num.f t337 a3).bind fun t339 => ((sum_Add.f k t337 (wrap64 (Int.tmod a1 5)) t338 t339).bind fun bt340 => ((sum_Add.f k t337 (wrap64 (Int.tmod a1 5)) t339 t338).bind fun bt347 => ((sum_Sub.f k t337 (wrap64 (Int.tmod a1 5)) t338 t338).bind fun bt354 => (if bt340.1 = bt347.1 then (anneallaw4_SumTurns.j0 k t337 (wrap64 (Int.tmod a1 5)) t338 bt354.1 (!(bt340.2.1 == bt347.2.1) || (!(bt340.2.2.1 == bt347.2.2.1) || (!(bt340.2.2.2.1 == bt347.2.2.2.1) || (!(bt340.2.2.2.2.1 == bt347.2.2.2.2.1) || (!(bt340.2.2.2.2.2 == bt347.2.2.2.2.2)))))) bt354.2.1 bt354.2.2.1 bt354.2.2.2.1 bt354.2.2.2.2.1 bt354.2.2.2.2.2) else (anneallaw4_SumTurns.j0 k t337 (wrap64 (Int.tmod a1 5)) t338 bt354.1 true bt354.2.1 bt354.2.2.1 bt354.2.2.2.1 bt354.2.2.2.2.1 bt354.2.2.2.2.2)))))))) else (some false))
set_option maxHeartbeats 8000000 in
set_option maxRecDepth 100000 in
theorem anneallaw4_SumTurns.calls (k : Nat) (a0 : Int) (a1 : Int) (a2 : Int) (a3 : Int) (r : Bool) (w : World) (h : anneallaw4_SumTurns.f k a0 a1 a2 a3 = some r) :
  Calls Try.prog 3 #[.int .u8 a0, .int .u8 a1, .int .u32 a2, .int .u32 a3] w fun e w' => e = .returned (.bool r) ∧ Below w.heap.size w w' := by
 have hu27 := Try.underlying27
 have HB := Aside0.mk (Below.refl w.heap.size w)
 have H : ((anneallaw4_known.f k).bind fun t336 => (if t336 = true then ((anneallaw4_form.f a0).bind fun t337 => ((annealseat_Num.f t337 a2).bind fun t338 => ((annealseat_Num.f t337 a3).bind fun t339 => ((sum_Add.f k t337 (wrap64 (Int.tmod a1 5)) t338 t339).bind fun bt340 => ((sum_Add.f k t337 (wrap64 (Int.tmod a1 5)) t339 t338).bind fun bt347 => ((sum_Sub.f k t337 (wrap64 (Int.tmod a1 5)) t338 t338).bind fun bt354 => (if bt340.1 = bt347.1 then (anneallaw4_SumTurns.j0 k t337 (wrap64 (Int.tmod a1 5)) t338 bt354.1 (!(bt340.2.1 == bt347.2.1) || (!(bt340.2.2.1 == bt347.2.2.1) || (!(bt340.2.2.2.1 == bt347.2.2.2.1) || (!(bt340.2.2.2.2.1 == bt347.2.2.2.2.1) || (!(bt340.2.2.2.2.2 == bt347.2.2.2.2.2)))))) bt354.2.1 bt354.2.2.1 bt354.2.2.2.1 bt354.2.2.2.2.1 bt354.2.2.2.2.2) else (anneallaw4_SumTurns.j0 k t337 (wrap64 (Int.tmod a1 5)) t338 bt354.1 true bt354.2.1 bt354.2.2.1 bt354.2.2.2.1 bt354.2.2.2.2.1 bt354.2.2.2.2.2)))))))) else (some false))) = some r := h
 clear h
 replace H := Option.bind_eq_some_iff.mp H
 obtain ⟨t336, A50, H⟩ := H
 replace H : (if t336 = true then ((anneallaw4_form.f a0).bind fun t337 => ((annealseat_Num.f t337 a2).bind fun t338 => ((annealseat_Num.f t337 a3).bind fun t339 => ((sum_Add.f k t337 (wrap64 (Int.tmod a1 5)) t338 t339).bind fun bt340 => ((sum_Add.f k t337 (wrap64 (Int.tmod a1 5)) t339 t338).bind fun bt347 => ((sum_Sub.f k t337 (wrap64 (Int.tmod a1 5)) t338 t338).bind fun bt354 => (if bt340.1 = bt347.1 then (anneallaw4_SumTurns.j0 k t337 (wrap64 (Int.tmod a1 5)) t338 bt354.1 (!(bt340.2.1 == bt347.2.1) || (!(bt340.2.2.1 == bt347.2.2.1) || (!(bt340.2.2.2.1 == bt347.2.2.2.1) || (!(bt340.2.2.2.2.1 == bt347.2.2.2.2.1) || (!(bt340.2.2.2.2.2 == bt347.2.2.2.2.2)))))) bt354.2.1 bt354.2.2.1 bt354.2.2.2.1 bt354.2.2.2.2.1 bt354.2.2.2.2.2) else (anneallaw4_SumTurns.j0 k t337 (wrap64 (Int.tmod a1 5)) t338 bt354.1 true bt354.2.1 bt354.2.2.1 bt354.2.2.2.1 bt354.2.2.2.2.1 bt354.2.2.2.2.2)))))))) else (some false)) = some r := H
 have A5 := Aside0.mk A50
 clear A50
 by_cases c6 : t336 = true
 ·subst c6
  have H1 : ((anneallaw4_form.f a0).bind fun t337 => ((annealseat_Num.f t337 a2).bind fun t338 => ((annealseat_Num.f t337 a3).bind fun t339 => ((sum_Add.f k t337 (wrap64 (Int.tmod a1 5)) t338 t339).bind fun bt340 => ((sum_Add.f k t337 (wrap64 (Int.tmod a1 5)) t339 t338).bind fun bt347 => ((sum_Sub.f k t337 (wrap64 (Int.tmod a1 5)) t338 t338).bind fun bt354 => (if bt340.1 = bt347.1 then (anneallaw4_SumTurns.j0 k t337 (wrap64 (Int.tmod a1 5)) t338 bt354.1 (!(bt340.2.1 == bt347.2.1) || (!(bt340.2.2.1 == bt347.2.2.1) || (!(bt340.2.2.2.1 == bt347.2.2.2.1) || (!(bt340.2.2.2.2.1 == bt347.2.2.2.2.1) || (!(bt340.2.2.2.2.2 == bt347.2.2.2.2.2)))))) bt354.2.1 bt354.2.2.1 bt354.2.2.2.1 bt354.2.2.2.2.1 bt354.2.2.2.2.2) else (anneallaw4_SumTurns.j0 k t337 (wrap64 (Int.tmod a1 5)) t338 bt354.1 true bt354.2.1 bt354.2.2.1 bt354.2.2.2.1 bt354.2.2.2.2.1 bt354.2.2.2.2.2)))))))) = some r := by rw [if_pos rfl] at H; exact H
  clear H
  have H := H1
  clear H1
  replace H := Option.bind_eq_some_iff.mp H
  obtain ⟨t337, A70, H⟩ := H
  replace H : ((annealseat_Num.f t337 a2).bind fun t338 => ((annealseat_Num.f t337 a3).bind fun t339 => ((sum_Add.f k t337 (wrap64 (Int.tmod a1 5)) t338 t339).bind fun bt340 => ((sum_Add.f k t337 (wrap64 (Int.tmod a1 5)) t339 t338).bind fun bt347 => ((sum_Sub.f k t337 (wrap64 (Int.tmod a1 5)) t338 t338).bind fun bt354 => (if bt340.1 = bt347.1 then (anneallaw4_SumTurns.j0 k t337 (wrap64 (Int.tmod a1 5)) t338 bt354.1 (!(bt340.2.1 == bt347.2.1) || (!(bt340.2.2.1 == bt347.2.2.1) || (!(bt340.2.2.2.1 == bt347.2.2.2.1) || (!(bt340.2.2.2.2.1 == bt347.2.2.2.2.1) || (!(bt340.2.2.2.2.2 == bt347.2.2.2.2.2)))))) bt354.2.1 bt354.2.2.1 bt354.2.2.2.1 bt354.2.2.2.2.1 bt354.2.2.2.2.2) else (anneallaw4_SumTurns.j0 k t337 (wrap64 (Int.tmod a1 5)) t338 bt354.1 true bt354.2.1 bt354.2.2.1 bt354.2.2.2.1 bt354.2.2.2.2.1 bt354.2.2.2.2.2))))))) = some r := H
  have A7 := Aside0.mk A70
  clear A70
  replace H := Option.bind_eq_some_iff.mp H
  obtain ⟨t338, A80, H⟩ := H
  replace H : ((annealseat_Num.f t337 a3).bind fun t339 => ((sum_Add.f k t337 (wrap64 (Int.tmod a1 5)) t338 t339).bind fun bt340 => ((sum_Add.f k t337 (wrap64 (Int.tmod a1 5)) t339 t338).bind fun bt347 => ((sum_Sub.f k t337 (wrap64 (Int.tmod a1 5)) t338 t338).bind fun bt354 => (if bt340.1 = bt347.1 then (anneallaw4_SumTurns.j0 k t337 (wrap64 (Int.tmod a1 5)) t338 bt354.1 (!(bt340.2.1 == bt347.2.1) || (!(bt340.2.2.1 == bt347.2.2.1) || (!(bt340.2.2.2.1 == bt347.2.2.2.1) || (!(bt340.2.2.2.2.1 == bt347.2.2.2.2.1) || (!(bt340.2.2.2.2.2 == bt347.2.2.2.2.2)))))) bt354.2.1 bt354.2.2.1 bt354.2.2.2.1 bt354.2.2.2.2.1 bt354.2.2.2.2.2) else (anneallaw4_SumTurns.j0 k t337 (wrap64 (Int.tmod a1 5)) t338 bt354.1 true bt354.2.1 bt354.2.2.1 bt354.2.2.2.1 bt354.2.2.2.2.1 bt354.2.2.2.2.2)))))) = some r := H
  have A8 := Aside0.mk A80
  clear A80
  replace H := Option.bind_eq_some_iff.mp H
  obtain ⟨t339, A90, H⟩ := H
  replace H : ((sum_Add.f k t337 (wrap64 (Int.tmod a1 5)) t338 t339).bind fun bt340 => ((sum_Add.f k t337 (wrap64 (Int.tmod a1 5)) t339 t338).bind fun bt347 => ((sum_Sub.f k t337 (wrap64 (Int.tmod a1 5)) t338 t338).bind fun bt354 => (if bt340.1 = bt347.1 then (anneallaw4_SumTurns.j0 k t337 (wrap64 (Int.tmod a1 5)) t338 bt354.1 (!(bt340.2.1 == bt347.2.1) || (!(bt340.2.2.1 == bt347.2.2.1) || (!(bt340.2.2.2.1 == bt347.2.2.2.1) || (!(bt340.2.2.2.2.1 == bt347.2.2.2.2.1) || (!(bt340.2.2.2.2.2 == bt347.2.2.2.2.2)))))) bt354.2.1 bt354.2.2.1 bt354.2.2.2.1 bt354.2.2.2.2.1 bt354.2.2.2.2.2) else (anneallaw4_SumTurns.j0 k t337 (wrap64 (Int.tmod a1 5)) t338 bt354.1 true bt354.2.1 bt354.2.2.1 bt354.2.2.2.1 bt354.2.2.2.2.1 bt354.2.2.2.2.2))))) = some r := H
  have A9 := Aside0.mk A90
  clear A90
  replace H := Option.bind_eq_some_iff.mp H
  obtain ⟨⟨t340, t341, t342, t343, t344, t345⟩, A100, H⟩ := H
  replace H : ((sum_Add.f k t337 (wrap64 (Int.tmod a1 5)) t339 t338).bind fun bt347 => ((sum_Sub.f k t337 (wrap64 (Int.tmod a1 5)) t338 t338).bind fun bt354 => (if t340 = bt347.1 then (anneallaw4_SumTurns.j0 k t337 (wrap64 (Int.tmod a1 5)) t338 bt354.1 (!(t341 == bt347.2.1) || (!(t342 == bt347.2.2.1) || (!(t343 == bt347.2.2.2.1) || (!(t344 == bt347.2.2.2.2.1) || (!(t345 == bt347.2.2.2.2.2)))))) bt354.2.1 bt354.2.2.1 bt354.2.2.2.1 bt354.2.2.2.2.1 bt354.2.2.2.2.2) else (anneallaw4_SumTurns.j0 k t337 (wrap64 (Int.tmod a1 5)) t338 bt354.1 true bt354.2.1 bt354.2.2.1 bt354.2.2.2.1 bt354.2.2.2.2.1 bt354.2.2.2.2.2)))) = some r := H
  have A10 := Aside0.mk A100
  clear A100
  replace H := Option.bind_eq_some_iff.mp H
  obtain ⟨⟨t347, t348, t349, t350, t351, t352⟩, A110, H⟩ := H
  replace H : ((sum_Sub.f k t337 (wrap64 (Int.tmod a1 5)) t338 t338).bind fun bt354 => (if t340 = t347 then (anneallaw4_SumTurns.j0 k t337 (wrap64 (Int.tmod a1 5)) t338 bt354.1 (!(t341 == t348) || (!(t342 == t349) || (!(t343 == t350) || (!(t344 == t351) || (!(t345 == t352)))))) bt354.2.1 bt354.2.2.1 bt354.2.2.2.1 bt354.2.2.2.2.1 bt354.2.2.2.2.2) else (anneallaw4_SumTurns.j0 k t337 (wrap64 (Int.tmod a1 5)) t338 bt354.1 true bt354.2.1 bt354.2.2.1 bt354.2.2.2.1 bt354.2.2.2.2.1 bt354.2.2.2.2.2))) = some r := H
  have A11 := Aside0.mk A110
  clear A110
  replace H := Option.bind_eq_some_iff.mp H
  obtain ⟨⟨t354, t355, t356, t357, t358, t359⟩, A120, H⟩ := H
  replace H : (if t340 = t347 then (anneallaw4_SumTurns.j0 k t337 (wrap64 (Int.tmod a1 5)) t338 t354 (!(t341 == t348) || (!(t342 == t349) || (!(t343 == t350) || (!(t344 == t351) || (!(t345 == t352)))))) t355 t356 t357 t358 t359) else (anneallaw4_SumTurns.j0 k t337 (wrap64 (Int.tmod a1 5)) t338 t354 true t355 t356 t357 t358 t359)) = some r := H
  have A12 := Aside0.mk A120
  clear A120
  have HC13 := Aside0.mk H
  clear H
  go_enter Try.func3, Try.ntmps3
  go_upto_region 8 with (first | ((with_reducible refine gate_callee (f := 9) rfl ?_); refine goesL_ (some 19) rfl rfl Try.func9 (by kernel_rfl) rfl #[] rfl gl ?_; (with_reducible refine (anneallaw4_known.calls k  true _ A5.out).mono ?_); rintro e w14 ⟨rfl, hb⟩; refine ⟨_, rfl, ?_⟩; have n0_ := Aside0.mk (below_step (bl0 HB.out) hb); clear HB; have HB := n0_; clear n0_) | ((with_reducible refine gate_callee (f := 10) rfl ?_); refine goesL_ (some 22) rfl rfl Try.func10 (by kernel_rfl) rfl #[.int .u8 a0] rfl gl ?_; (with_reducible refine (anneallaw4_form.calls a0 t337 _ A7.out).mono ?_); rintro e w15 ⟨rfl, hb⟩; refine ⟨_, rfl, ?_⟩; have n0_ := Aside0.mk (below_step (bl0 HB.out) hb); clear HB; have HB := n0_; clear n0_) | ((with_reducible refine gate_callee (f := 11) rfl ?_); refine goesL_ (some 28) rfl rfl Try.func11 (by kernel_rfl) rfl #[.int .i64 t337, .int .u32 a2] rfl gl ?_; (with_reducible refine (annealseat_Num.calls t337 a2 t338 _ A8.out).mono ?_); rintro e w16 ⟨rfl, hb⟩; refine ⟨_, rfl, ?_⟩; have n0_ := Aside0.mk (below_step (bl0 HB.out) hb); clear HB; have HB := n0_; clear n0_) | ((with_reducible refine gate_callee (f := 11) rfl ?_); refine goesL_ (some 31) rfl rfl Try.func11 (by kernel_rfl) rfl #[.int .i64 t337, .int .u32 a3] rfl gl ?_; (with_reducible refine (annealseat_Num.calls t337 a3 t339 _ A9.out).mono ?_); rintro e w17 ⟨rfl, hb⟩; refine ⟨_, rfl, ?_⟩; have n0_ := Aside0.mk (below_step (bl0 HB.out) hb); clear HB; have HB := n0_; clear n0_) | ((with_reducible refine gate_callee (f := 12) rfl ?_); refine goesL_ (some 37) rfl rfl Try.func12 (by kernel_rfl) rfl #[.int .i64 t337, .int .i64 (wrap64 (Int.tmod a1 5)), .int .u32 t338, .int .u32 t339] rfl gl ?_; (with_reducible refine (sum_Add.calls k t337 (wrap64 (Int.tmod a1 5)) t338 t339 t340 t341 t342 t343 t344 t345 _ A10.out).mono ?_); rintro e w18 ⟨rfl, hb⟩; refine ⟨_, rfl, ?_⟩; have n0_ := Aside0.mk (below_step (bl0 HB.out) hb); clear HB; have HB := n0_; clear n0_) | ((with_reducible refine gate_dst (N := 14) rfl ?_); refine box_event ?hg (N := 14) ?hd (cs := F5) (t := 27) ?hr ?_; (case hd => rfl); (case hg => rfl); (case hr => first | (go_simp; done) | (go_simp; rfl)); intro gb346 hg w19 hbox hb; have n0_ := Aside0.mk (below_step (bl0 HB.out) hb); have n1_ := Aside0.mk (hbox); have n2_ := Aside0.mk ((by rw [hg]; exact (below_size (bl0 HB.out)) : w.heap.size ≤ gb346)); have n3_ := n2_; clear HB; have HB := n0_; have BK346 := n1_; have GW346 := n2_; have GE346 := n3_; clear n0_ n1_ n2_ n3_; clear hb hbox hg; obtain ⟨hcz20_0, hcz20_1, hcz20_2, hcz20_3, hcz20_4⟩ := bc5 BK346.out; obtain ⟨hfz20_0, hfz20_1, hfz20_2, hfz20_3, hfz20_4⟩ := bf5 BK346.out) | ((with_reducible refine gate_callee (f := 12) rfl ?_); refine goesL_ (some 45) rfl rfl Try.func12 (by kernel_rfl) rfl #[.int .i64 t337, .int .i64 (wrap64 (Int.tmod a1 5)), .int .u32 t339, .int .u32 t338] rfl gl ?_; (with_reducible refine (sum_Add.calls k t337 (wrap64 (Int.tmod a1 5)) t339 t338 t347 t348 t349 t350 t351 t352 _ A11.out).mono ?_); rintro e w21 ⟨rfl, hb⟩; refine ⟨_, rfl, ?_⟩; have n0_ := Aside0.mk (blk_below (g := gb346) (o := .cells #[.bool t341, .bool t342, .bool t343, .bool t344, .bool t345] 27 (0, 0)) (by (with_reducible repeat first | apply bd | apply be | apply ba); refine blk_put (cs := #[.bool t341, .bool t342, .bool t343, .bool t344, .bool false]) ?_ 4 _ rfl; (with_reducible repeat first | apply bd | apply be | apply ba); refine blk_put (cs := #[.bool t341, .bool t342, .bool t343, .bool false, .bool false]) ?_ 3 _ rfl; (with_reducible repeat first | apply bd | apply be | apply ba); refine blk_put (cs := #[.bool t341, .bool t342, .bool false, .bool false, .bool false]) ?_ 2 _ rfl; (with_reducible repeat first | apply bd | apply be | apply ba); refine blk_put (cs := #[.bool t341, .bool false, .bool false, .bool false, .bool false]) ?_ 1 _ rfl; (with_reducible repeat first | apply bd | apply be | apply ba); refine blk_put (cs := F5) ?_ 0 _ rfl; (with_reducible repeat first | apply bd | apply be | apply ba); exact BK346.out) hb); have n1_ := Aside0.mk (below_step (bl1 HB.out GE346.out) hb); clear BK346; clear HB; have BK346 := n0_; have HB := n1_; clear n0_ n1_) | ((with_reducible refine gate_dst (N := 16) rfl ?_); refine box_event ?hg (N := 16) ?hd (cs := F5) (t := 27) ?hr ?_; (case hd => rfl); (case hg => rfl); (case hr => first | (go_simp; done) | (go_simp; rfl)); intro gb353 hg w22 hbox hb; have n0_ := Aside0.mk (blk_below (g := gb346) (o := .cells #[.bool t341, .bool t342, .bool t343, .bool t344, .bool t345] 27 (0, 0)) (bv BK346.out) hb); have n1_ := Aside0.mk (below_step (bl1 HB.out GE346.out) hb); have n2_ := Aside0.mk (hbox); have n3_ := Aside0.mk ((by rw [hg]; exact (below_size (bl1 HB.out GE346.out)) : w.heap.size ≤ gb353)); have n4_ := n3_; have n5_ := Aside0.mk ((by rw [hg]; exact Nat.ne_of_lt (blk_lt (g := gb346) (o := .cells #[.bool t341, .bool t342, .bool t343, .bool t344, .bool t345] 27 (0, 0)) (bv BK346.out)) : gb346 ≠ gb353)); have n6_ := Aside0.mk (Ne.symm n5_.out); clear BK346; clear HB; have BK346 := n0_; have HB := n1_; have BK353 := n2_; have GW353 := n3_; have GE353 := n4_; have NB346_353 := n5_; have NB353_346 := n6_; clear n0_ n1_ n2_ n3_ n4_ n5_ n6_; clear hb hbox hg; have hnb23 := NB353_346.out; have hnc23 := NB346_353.out; obtain ⟨hcz24_0, hcz24_1, hcz24_2, hcz24_3, hcz24_4⟩ := bc5 BK353.out; obtain ⟨hfz24_0, hfz24_1, hfz24_2, hfz24_3, hfz24_4⟩ := bf5 BK353.out) | ((with_reducible refine gate_callee (f := 13) rfl ?_); refine goesL_ (some 53) rfl rfl Try.func13 (by kernel_rfl) rfl #[.int .i64 t337, .int .i64 (wrap64 (Int.tmod a1 5)), .int .u32 t338, .int .u32 t338] rfl gl ?_; (with_reducible refine (sum_Sub.calls k t337 (wrap64 (Int.tmod a1 5)) t338 t338 t354 t355 t356 t357 t358 t359 _ A12.out).mono ?_); rintro e w25 ⟨rfl, hb⟩; refine ⟨_, rfl, ?_⟩; have n0_ := Aside0.mk (blk_below (g := gb346) (o := .cells #[.bool t341, .bool t342, .bool t343, .bool t344, .bool t345] 27 (0, 0)) (by (with_reducible repeat first | apply bd | apply be | apply ba); refine blk_far ?_ NB346_353.out _; (with_reducible repeat first | apply bd | apply be | apply ba); refine blk_far ?_ NB346_353.out _; (with_reducible repeat first | apply bd | apply be | apply ba); refine blk_far ?_ NB346_353.out _; (with_reducible repeat first | apply bd | apply be | apply ba); refine blk_far ?_ NB346_353.out _; (with_reducible repeat first | apply bd | apply be | apply ba); refine blk_far ?_ NB346_353.out _; (with_reducible repeat first | apply bd | apply be | apply ba); exact BK346.out) hb); have n1_ := Aside0.mk (blk_below (g := gb353) (o := .cells #[.bool t348, .bool t349, .bool t350, .bool t351, .bool t352] 27 (0, 0)) (by (with_reducible repeat first | apply bd | apply be | apply ba); refine blk_put (cs := #[.bool t348, .bool t349, .bool t350, .bool t351, .bool false]) ?_ 4 _ rfl; (with_reducible repeat first | apply bd | apply be | apply ba); refine blk_put (cs := #[.bool t348, .bool t349, .bool t350, .bool false, .bool false]) ?_ 3 _ rfl; (with_reducible repeat first | apply bd | apply be | apply ba); refine blk_put (cs := #[.bool t348, .bool t349, .bool false, .bool false, .bool false]) ?_ 2 _ rfl; (with_reducible repeat first | apply bd | apply be | apply ba); refine blk_put (cs := #[.bool t348, .bool false, .bool false, .bool false, .bool false]) ?_ 1 _ rfl; (with_reducible repeat first | apply bd | apply be | apply ba); refine blk_put (cs := F5) ?_ 0 _ rfl; (with_reducible repeat first | apply bd | apply be | apply ba); exact BK353.out) hb); have n2_ := Aside0.mk (below_step (bl2 HB.out GE346.out GE353.out) hb); clear BK346; clear BK353; clear HB; have BK346 := n0_; have BK353 := n1_; have HB := n2_; clear n0_ n1_ n2_) | ((with_reducible refine gate_dst (N := 18) rfl ?_); refine box_event ?hg (N := 18) ?hd (cs := F5) (t := 27) ?hr ?_; (case hd => rfl); (case hg => rfl); (case hr => first | (go_simp; done) | (go_simp; rfl)); intro gb360 hg w26 hbox hb; have n0_ := Aside0.mk (blk_below (g := gb346) (o := .cells #[.bool t341, .bool t342, .bool t343, .bool t344, .bool t345] 27 (0, 0)) (bv BK346.out) hb); have n1_ := Aside0.mk (blk_below (g := gb353) (o := .cells #[.bool t348, .bool t349, .bool t350, .bool t351, .bool t352] 27 (0, 0)) (bv BK353.out) hb); have n2_ := Aside0.mk (below_step (bl2 HB.out GE346.out GE353.out) hb); have n3_ := Aside0.mk (hbox); have n4_ := Aside0.mk ((by rw [hg]; exact (below_size (bl2 HB.out GE346.out GE353.out)) : w.heap.size ≤ gb360)); have n5_ := n4_; have n6_ := Aside0.mk ((by rw [hg]; exact Nat.ne_of_lt (blk_lt (g := gb346) (o := .cells #[.bool t341, .bool t342, .bool t343, .bool t344, .bool t345] 27 (0, 0)) (bv BK346.out)) : gb346 ≠ gb360)); have n7_ := Aside0.mk (Ne.symm n6_.out); have n8_ := Aside0.mk ((by rw [hg]; exact Nat.ne_of_lt (blk_lt (g := gb353) (o := .cells #[.bool t348, .bool t349, .bool t350, .bool t351, .bool t352] 27 (0, 0)) (bv BK353.out)) : gb353 ≠ gb360)); have n9_ := Aside0.mk (Ne.symm n8_.out); clear BK346; clear BK353; clear HB; have BK346 := n0_; have BK353 := n1_; have HB := n2_; have BK360 := n3_; have GW360 := n4_; have GE360 := n5_; have NB346_360 := n6_; have NB360_346 := n7_; have NB353_360 := n8_; have NB360_353 := n9_; clear n0_ n1_ n2_ n3_ n4_ n5_ n6_ n7_ n8_ n9_; clear hb hbox hg; have hnb27 := NB360_346.out; have hnc27 := NB346_360.out; have hnb28 := NB360_353.out; have hnc28 := NB353_360.out; obtain ⟨hcz29_0, hcz29_1, hcz29_2, hcz29_3, hcz29_4⟩ := bc5 BK360.out; obtain ⟨hfz29_0, hfz29_1, hfz29_2, hfz29_3, hfz29_4⟩ := bf5 BK360.out))
  (try simp only [Act.put, sb, sz, ss])
  go_cut [63] (fun v63 wc => ∃ (kq : Nat) (x63_12 : Bool), v63 = .bool x63_12 ∧ Aside0 (anneallaw4_SumTurns.j0 kq t337 (wrap64 (Int.tmod a1 5)) t338 t354 x63_12 t355 t356 t357 t358 t359 = some r) ∧ Aside0 (kq ≤ k) ∧ Aside0 (wc.heap[gb346]? = some (.cells #[.bool t341, .bool t342, .bool t343, .bool t344, .bool t345] 27 (0, 0))) ∧ Aside0 (wc.heap[gb353]? = some (.cells #[.bool t348, .bool t349, .bool t350, .bool t351, .bool t352] 27 (0, 0))) ∧ Aside0 (wc.heap[gb360]? = some (.cells #[.bool t355, .bool t356, .bool t357, .bool t358, .bool t359] 27 (0, 0))) ∧ Aside0 (Below w.heap.size w wc))
  case first =>
   have H := HC13.out
   clear HC13
   by_cases c30 : t340 = t347
   ·rw [if_pos c30] at H
    have c30b0 : (t340 == t347) = true := beq_iff_eq.mpr c30
    have c30b1 : (t340 != t347) = false := bne_eq_false_iff_eq.mpr c30
    clear c30
    (first | rw [c30b0] | (simp only [i64_w, i32_w]; rw [c30b0]) | skip)
    have H' := Aside0.mk H
    clear H
    have hnb31 := NB346_353.out
    have hnc31 := NB353_346.out
    have hnb32 := NB346_360.out
    have hnc32 := NB360_346.out
    have hcz33_0 : w26.cell? ⟨gb346, 0, none⟩ = some (.bool t341) := (blk_cell BK346.out 0).trans rfl
    have hcz33_1 : w26.cell? ⟨gb346, 1, none⟩ = some (.bool t342) := (blk_cell BK346.out 1).trans rfl
    have hcz33_2 : w26.cell? ⟨gb346, 2, none⟩ = some (.bool t343) := (blk_cell BK346.out 2).trans rfl
    have hcz33_3 : w26.cell? ⟨gb346, 3, none⟩ = some (.bool t344) := (blk_cell BK346.out 3).trans rfl
    have hcz33_4 : w26.cell? ⟨gb346, 4, none⟩ = some (.bool t345) := (blk_cell BK346.out 4).trans rfl
    have hfz33_0 := blk_frozen BK346.out 0
    have hfz33_1 := blk_frozen BK346.out 1
    have hfz33_2 := blk_frozen BK346.out 2
    have hfz33_3 := blk_frozen BK346.out 3
    have hfz33_4 := blk_frozen BK346.out 4
    have hnb34 := NB353_360.out
    have hnc34 := NB360_353.out
    have hcz35_0 : w26.cell? ⟨gb353, 0, none⟩ = some (.bool t348) := (blk_cell BK353.out 0).trans rfl
    have hcz35_1 : w26.cell? ⟨gb353, 1, none⟩ = some (.bool t349) := (blk_cell BK353.out 1).trans rfl
    have hcz35_2 : w26.cell? ⟨gb353, 2, none⟩ = some (.bool t350) := (blk_cell BK353.out 2).trans rfl
    have hcz35_3 : w26.cell? ⟨gb353, 3, none⟩ = some (.bool t351) := (blk_cell BK353.out 3).trans rfl
    have hcz35_4 : w26.cell? ⟨gb353, 4, none⟩ = some (.bool t352) := (blk_cell BK353.out 4).trans rfl
    have hfz35_0 := blk_frozen BK353.out 0
    have hfz35_1 := blk_frozen BK353.out 1
    have hfz35_2 := blk_frozen BK353.out 2
    have hfz35_3 := blk_frozen BK353.out 3
    have hfz35_4 := blk_frozen BK353.out 4
    go_wp2
    go_meet
    case rel => exact ⟨_, ((!(t341 == t348) || (!(t342 == t349) || (!(t343 == t350) || (!(t344 == t351) || (!(t345 == t352))))))), (by first | rfl | (simp; done) | (simp [*]; done) | (congr 1; (try unfold wrap64); omega) | (congr 1; rw [IntKind.wrap_u64]; omega)), H', ⟨by first | omega | exact Nat.le_refl _⟩, ⟨by (with_reducible repeat first | apply bd | apply be | apply ba); refine blk_far ?_ NB346_360.out _; (with_reducible repeat first | apply bd | apply be | apply ba); refine blk_far ?_ NB346_360.out _; (with_reducible repeat first | apply bd | apply be | apply ba); refine blk_far ?_ NB346_360.out _; (with_reducible repeat first | apply bd | apply be | apply ba); refine blk_far ?_ NB346_360.out _; (with_reducible repeat first | apply bd | apply be | apply ba); refine blk_far ?_ NB346_360.out _; (with_reducible repeat first | apply bd | apply be | apply ba); exact BK346.out⟩, ⟨by (with_reducible repeat first | apply bd | apply be | apply ba); refine blk_far ?_ NB353_360.out _; (with_reducible repeat first | apply bd | apply be | apply ba); refine blk_far ?_ NB353_360.out _; (with_reducible repeat first | apply bd | apply be | apply ba); refine blk_far ?_ NB353_360.out _; (with_reducible repeat first | apply bd | apply be | apply ba); refine blk_far ?_ NB353_360.out _; (with_reducible repeat first | apply bd | apply be | apply ba); refine blk_far ?_ NB353_360.out _; (with_reducible repeat first | apply bd | apply be | apply ba); exact BK353.out⟩, ⟨by (with_reducible repeat first | apply bd | apply be | apply ba); refine blk_put (cs := #[.bool t355, .bool t356, .bool t357, .bool t358, .bool false]) ?_ 4 _ rfl; (with_reducible repeat first | apply bd | apply be | apply ba); refine blk_put (cs := #[.bool t355, .bool t356, .bool t357, .bool false, .bool false]) ?_ 3 _ rfl; (with_reducible repeat first | apply bd | apply be | apply ba); refine blk_put (cs := #[.bool t355, .bool t356, .bool false, .bool false, .bool false]) ?_ 2 _ rfl; (with_reducible repeat first | apply bd | apply be | apply ba); refine blk_put (cs := #[.bool t355, .bool false, .bool false, .bool false, .bool false]) ?_ 1 _ rfl; (with_reducible repeat first | apply bd | apply be | apply ba); refine blk_put (cs := F5) ?_ 0 _ rfl; (with_reducible repeat first | apply bd | apply be | apply ba); exact BK360.out⟩, ⟨bl3 HB.out GE346.out GE353.out GE360.out⟩⟩
   ·rw [if_neg c30] at H
    have c30b0 : (t340 == t347) = false := beq_eq_false_iff_ne.mpr c30
    have c30b1 : (t340 != t347) = true := bne_iff_ne.mpr c30
    (first | rw [c30b0] | (simp only [i64_w, i32_w]; rw [c30b0]) | skip)
    have H' := Aside0.mk H
    clear H
    go_wp2
    go_meet
    case rel => exact ⟨_, (true), (by first | rfl | (simp; done) | (simp [*]; done) | (congr 1; (try unfold wrap64); omega) | (congr 1; rw [IntKind.wrap_u64]; omega)), H', ⟨by first | omega | exact Nat.le_refl _⟩, ⟨by (with_reducible repeat first | apply bd | apply be | apply ba); refine blk_far ?_ NB346_360.out _; (with_reducible repeat first | apply bd | apply be | apply ba); refine blk_far ?_ NB346_360.out _; (with_reducible repeat first | apply bd | apply be | apply ba); refine blk_far ?_ NB346_360.out _; (with_reducible repeat first | apply bd | apply be | apply ba); refine blk_far ?_ NB346_360.out _; (with_reducible repeat first | apply bd | apply be | apply ba); refine blk_far ?_ NB346_360.out _; (with_reducible repeat first | apply bd | apply be | apply ba); exact BK346.out⟩, ⟨by (with_reducible repeat first | apply bd | apply be | apply ba); refine blk_far ?_ NB353_360.out _; (with_reducible repeat first | apply bd | apply be | apply ba); refine blk_far ?_ NB353_360.out _; (with_reducible repeat first | apply bd | apply be | apply ba); refine blk_far ?_ NB353_360.out _; (with_reducible repeat first | apply bd | apply be | apply ba); refine blk_far ?_ NB353_360.out _; (with_reducible repeat first | apply bd | apply be | apply ba); refine blk_far ?_ NB353_360.out _; (with_reducible repeat first | apply bd | apply be | apply ba); exact BK353.out⟩, ⟨by (with_reducible repeat first | apply bd | apply be | apply ba); refine blk_put (cs := #[.bool t355, .bool t356, .bool t357, .bool t358, .bool false]) ?_ 4 _ rfl; (with_reducible repeat first | apply bd | apply be | apply ba); refine blk_put (cs := #[.bool t355, .bool t356, .bool t357, .bool false, .bool false]) ?_ 3 _ rfl; (with_reducible repeat first | apply bd | apply be | apply ba); refine blk_put (cs := #[.bool t355, .bool t356, .bool false, .bool false, .bool false]) ?_ 2 _ rfl; (with_reducible repeat first | apply bd | apply be | apply ba); refine blk_put (cs := #[.bool t355, .bool false, .bool false, .bool false, .bool false]) ?_ 1 _ rfl; (with_reducible repeat first | apply bd | apply be | apply ba); refine blk_put (cs := F5) ?_ 0 _ rfl; (with_reducible repeat first | apply bd | apply be | apply ba); exact BK360.out⟩, ⟨bl3 HB.out GE346.out GE353.out GE360.out⟩⟩
  case rest =>
   clear HC13
   try clear c1 c2 p2 c3 c6 p6 c9 c10 c11 c12 c13 c23 c27 c28 c30 c30b0 c30b1 c31 c32 c34 hcz20_0 hcz20_1 hcz20_2 hcz20_3 hcz20_4 hcz24_0 hcz24_1 hcz24_2 hcz24_3 hcz24_4 hcz29_0 hcz29_1 hcz29_2 hcz29_3 hcz29_4 hcz33_0 hcz33_1 hcz33_2 hcz33_3 hcz33_4 hcz35_0 hcz35_1 hcz35_2 hcz35_3 hcz35_4 hfz20_0 hfz20_1 hfz20_2 hfz20_3 hfz20_4 hfz24_0 hfz24_1 hfz24_2 hfz24_3 hfz24_4 hfz29_0 hfz29_1 hfz29_2 hfz29_3 hfz29_4 hfz33_0 hfz33_1 hfz33_2 hfz33_3 hfz33_4 hfz35_0 hfz35_1 hfz35_2 hfz35_3 hfz35_4
   obtain ⟨kq, x63_12, rfl, HA, HJ12, BK346, BK353, BK360, HB⟩ := hcut
   cases kq with
   |zero => exact absurd HA.out (by simp [anneallaw4_SumTurns.j0])
   |succ kj12 =>
    have H := HA.out
    clear HA
    simp only [anneallaw4_SumTurns.j0] at H
    by_cases c36 : x63_12 = true
    ·subst c36
     have H1 : (some false) = some r := by rw [if_pos rfl] at H; exact H
     clear H
     have H := H1
     clear H1
     obtain rfl := Option.some.inj H
     go_wp2
     go_ret
     exact ⟨by first | rfl | (simp [errW_none, errW_some] <;> rfl) | (simp [*, errW_none, errW_some] <;> rfl), bl3 HB.out GE346.out GE353.out GE360.out⟩
    ·replace c36 := Bool.eq_false_iff.mpr c36
     subst c36
     have H1 : ((annealref1_Finite.f kj12 t337 t338).bind fun t361 => (if t361 = true then ((annealref1_Zero.f t337 ((wrap64 (Int.tmod a1 5)) == 3)).bind fun t362 => (if t354 = t362 then (some (!t355 && (!t356 && (!t357 && (!t358 && (!t359)))))) else (some false))) else ((annealref1_Nan.f t337).bind fun t363 => (some (t354 == t363))))) = some r := by rw [if_neg (show ¬ (false = true) by decide)] at H; exact H
     clear H
     have H := H1
     clear H1
     replace H := Option.bind_eq_some_iff.mp H
     obtain ⟨t361, A370, H⟩ := H
     replace H : (if t361 = true then ((annealref1_Zero.f t337 ((wrap64 (Int.tmod a1 5)) == 3)).bind fun t362 => (if t354 = t362 then (some (!t355 && (!t356 && (!t357 && (!t358 && (!t359)))))) else (some false))) else ((annealref1_Nan.f t337).bind fun t363 => (some (t354 == t363)))) = some r := H
     have A37 := Aside0.mk A370
     clear A370
     by_cases c38 : t361 = true
     ·subst c38
      have H1 : ((annealref1_Zero.f t337 ((wrap64 (Int.tmod a1 5)) == 3)).bind fun t362 => (if t354 = t362 then (some (!t355 && (!t356 && (!t357 && (!t358 && (!t359)))))) else (some false))) = some r := by rw [if_pos rfl] at H; exact H
      clear H
      have H := H1
      clear H1
      replace H := Option.bind_eq_some_iff.mp H
      obtain ⟨t362, A390, H⟩ := H
      replace H : (if t354 = t362 then (some (!t355 && (!t356 && (!t357 && (!t358 && (!t359)))))) else (some false)) = some r := H
      have A39 := Aside0.mk A390
      clear A390
      by_cases c40 : t354 = t362
      ·rw [if_pos c40] at H
       have c40b0 : (t354 == t362) = true := beq_iff_eq.mpr c40
       have c40b1 : (t354 != t362) = false := bne_eq_false_iff_eq.mpr c40
       clear c40
       obtain rfl := Option.some.inj H
       go_wp2_with (first | ((with_reducible refine gate_callee (f := 14) rfl ?_); refine goesL_ (some 66) rfl rfl Try.func14 (by kernel_rfl) rfl #[.int .i64 t337, .int .u32 t338] rfl gl ?_; (with_reducible refine (annealref1_Finite.calls kj12 t337 t338 true _ A37.out).mono ?_); rintro e w' ⟨rfl, ⟨nd, rfl⟩⟩; refine ⟨_, rfl, ?_⟩) | ((with_reducible refine gate_callee (f := 16) rfl ?_); refine goesL_ (some 76) rfl rfl Try.func16 (by kernel_rfl) rfl #[.int .i64 t337, .bool ((wrap64 (Int.tmod a1 5)) == 3)] rfl gl ?_; (with_reducible refine (annealref1_Zero.calls t337 ((wrap64 (Int.tmod a1 5)) == 3) t362 _ A39.out).mono ?_); rintro e w' ⟨rfl, ⟨nd, rfl⟩⟩; refine ⟨_, rfl, ?_⟩; have hnb41 := NB360_346.out; have hnc41 := NB346_360.out; have hnb42 := NB360_353.out; have hnc42 := NB353_360.out; obtain ⟨hcz43_0, hcz43_1, hcz43_2, hcz43_3, hcz43_4⟩ := bc5 BK360.out; obtain ⟨hfz43_0, hfz43_1, hfz43_2, hfz43_3, hfz43_4⟩ := bf5 BK360.out))
       go_ret
       exact ⟨by first | rfl | (simp [errW_none, errW_some] <;> rfl) | (simp [*, errW_none, errW_some] <;> rfl), bl3 HB.out GE346.out GE353.out GE360.out⟩
      ·rw [if_neg c40] at H
       have c40b0 : (t354 == t362) = false := beq_eq_false_iff_ne.mpr c40
       have c40b1 : (t354 != t362) = true := bne_iff_ne.mpr c40
       obtain rfl := Option.some.inj H
       go_wp2_with (first | ((with_reducible refine gate_callee (f := 14) rfl ?_); refine goesL_ (some 66) rfl rfl Try.func14 (by kernel_rfl) rfl #[.int .i64 t337, .int .u32 t338] rfl gl ?_; (with_reducible refine (annealref1_Finite.calls kj12 t337 t338 true _ A37.out).mono ?_); rintro e w' ⟨rfl, ⟨nd, rfl⟩⟩; refine ⟨_, rfl, ?_⟩) | ((with_reducible refine gate_callee (f := 16) rfl ?_); refine goesL_ (some 76) rfl rfl Try.func16 (by kernel_rfl) rfl #[.int .i64 t337, .bool ((wrap64 (Int.tmod a1 5)) == 3)] rfl gl ?_; (with_reducible refine (annealref1_Zero.calls t337 ((wrap64 (Int.tmod a1 5)) == 3) t362 _ A39.out).mono ?_); rintro e w' ⟨rfl, ⟨nd, rfl⟩⟩; refine ⟨_, rfl, ?_⟩))
       go_ret
       exact ⟨by first | rfl | (simp [errW_none, errW_some] <;> rfl) | (simp [*, errW_none, errW_some] <;> rfl), bl3 HB.out GE346.out GE353.out GE360.out⟩
     ·replace c38 := Bool.eq_false_iff.mpr c38
      subst c38
      have H1 : ((annealref1_Nan.f t337).bind fun t363 => (some (t354 == t363))) = some r := by rw [if_neg (show ¬ (false = true) by decide)] at H; exact H
      clear H
      have H := H1
      clear H1
      replace H := Option.bind_eq_some_iff.mp H
      obtain ⟨t363, A440, H⟩ := H
      replace H : (some (t354 == t363)) = some r := H
      have A44 := Aside0.mk A440
      clear A440
      obtain rfl := Option.some.inj H
      go_wp2_with (first | ((with_reducible refine gate_callee (f := 14) rfl ?_); refine goesL_ (some 66) rfl rfl Try.func14 (by kernel_rfl) rfl #[.int .i64 t337, .int .u32 t338] rfl gl ?_; (with_reducible refine (annealref1_Finite.calls kj12 t337 t338 false _ A37.out).mono ?_); rintro e w' ⟨rfl, ⟨nd, rfl⟩⟩; refine ⟨_, rfl, ?_⟩) | ((with_reducible refine gate_callee (f := 15) rfl ?_); refine goesL_ (some 70) rfl rfl Try.func15 (by kernel_rfl) rfl #[.int .i64 t337] rfl gl ?_; (with_reducible refine (annealref1_Nan.calls t337 t363 _ A44.out).mono ?_); rintro e w' ⟨rfl, ⟨nd, rfl⟩⟩; refine ⟨_, rfl, ?_⟩))
      go_ret
      exact ⟨by first | rfl | (simp [errW_none, errW_some] <;> rfl) | (simp [*, errW_none, errW_some] <;> rfl), bl3 HB.out GE346.out GE353.out GE360.out⟩
 ·replace c6 := Bool.eq_false_iff.mpr c6
  subst c6
  have H1 : (some false) = some r := by rw [if_neg (show ¬ (false = true) by decide)] at H; exact H
  clear H
  have H := H1
  clear H1
  obtain rfl := Option.some.inj H
  go_enter Try.func3, Try.ntmps3
  go_wp2_with (first | ((with_reducible refine gate_callee (f := 9) rfl ?_); refine goesL_ (some 19) rfl rfl Try.func9 (by kernel_rfl) rfl #[] rfl gl ?_; (with_reducible refine (anneallaw4_known.calls k  false _ A5.out).mono ?_); rintro e w45 ⟨rfl, hb⟩; refine ⟨_, rfl, ?_⟩; have n0_ := Aside0.mk (below_step (bl0 HB.out) hb); clear HB; have HB := n0_; clear n0_))
  go_ret
  exact ⟨by first | rfl | (simp [errW_none, errW_some] <;> rfl) | (simp [*, errW_none, errW_some] <;> rfl), bl0 HB.out⟩

/-- THE ONE PURE STATEMENT of anneallaw4_SumTurns: yours. -/
def anneallaw4_SumTurns.Pure : Prop := ∀ (a0 : Int) (a1 : Int) (a2 : Int) (a3 : Int), (Lit.int .u8 a0).wf = true → (Lit.int .u8 a1).wf = true → (Lit.int .u32 a2).wf = true → (Lit.int .u32 a3).wf = true → ∃ k, anneallaw4_SumTurns.f k a0 a1 a2 a3 = some true
theorem anneallaw4_SumTurns.walk (P : anneallaw4_SumTurns.Pure) (a0 : Int) (a1 : Int) (a2 : Int) (a3 : Int) (w : World) (w0 : (Lit.int .u8 a0).wf = true) (w1 : (Lit.int .u8 a1).wf = true) (w2 : (Lit.int .u32 a2).wf = true) (w3 : (Lit.int .u32 a3).wf = true) :
  Calls Try.prog 3 #[.int .u8 a0, .int .u8 a1, .int .u32 a2, .int .u32 a3] w fun e w' => e = .returned (.bool true) ∧ Below w.heap.size w w' := by
 obtain ⟨k, h⟩ := P a0 a1 a2 a3 w0 w1 w2 w3
 refine (anneallaw4_SumTurns.calls k a0 a1 a2 a3 true w h).mono ?_
 rintro e w' ⟨rfl, hd⟩
 exact ⟨rfl, hd⟩

end Go.Proofs.Ytlkjoibpfhjhcaa.P

/- Plain facts about whole numbers in their kinds: wraps, shifts, bits, as numbers from nought on. -/
namespace Go.Proofs.Ytlkjoibpfhjhcaa.Num
open Go.RowKit Go.Proofs.YtlkjoibpfhjhcaaW.PrintWords Go.Proofs.YtlkjoibpfhjhcaaW.PrintLast Go.Proofs.YtlkjoibpfhjhcaaW.PrintMore

theorem u64_wrap (n : Int) : IntKind.u64.wrap n = n % 18446744073709551616 := by simp [IntKind.wrap, IntKind.bits, IntKind.signed]
theorem u32_wrap (n : Int) : IntKind.u32.wrap n = n % 4294967296 := by simp [IntKind.wrap, IntKind.bits, IntKind.signed]
theorem i64_wrap (n : Int) : IntKind.i64.wrap n = wrap64 n := by rw [i64_w]
theorem u64_nat (n : Nat) : IntKind.u64.wrap (n : Int) = ((n % 18446744073709551616 : Nat) : Int) := by rw [u64_wrap]; omega
theorem u64_id (n : Nat) (h : n < 18446744073709551616) : IntKind.u64.wrap (n : Int) = (n : Int) := by rw [u64_wrap]; omega
theorem w64_id (n : Int) (h : -9223372036854775808 ≤ n) (h' : n ≤ 9223372036854775807) : wrap64 n = n := by unfold wrap64; omega
theorem wf_u32 {n : Int} (h : (Lit.int .u32 n).wf = true) : 0 ≤ n ∧ n < 4294967296 := by
  simp [Lit.wf, IntKind.min, IntKind.max, IntKind.bits, IntKind.signed] at h; omega
theorem wf_u8 {n : Int} (h : (Lit.int .u8 n).wf = true) : 0 ≤ n ∧ n < 256 := by
  simp [Lit.wf, IntKind.min, IntKind.max, IntKind.bits, IntKind.signed] at h; omega
/-- A number from nought on, as one. -/
theorem nat_of {n : Int} (h : 0 ≤ n) : ∃ m : Nat, n = (m : Int) := ⟨n.toNat, by omega⟩

theorem pow_cast (n : Nat) : ((2 ^ n : Nat) : Int) = (2 : Int) ^ n := by simp

theorem shr_nat (k : IntKind) (v n : Nat) (hv : v < 2 ^ k.bits) : shr k (v : Int) (n : Int) = ((v / 2 ^ n : Nat) : Int) := by
  unfold shr
  rw [Int.toNat_natCast]
  by_cases h : n ≤ k.bits
  · rw [Nat.min_eq_left h]; simp
  · rw [Nat.min_eq_right (by omega), Nat.div_eq_of_lt (show v < 2 ^ n from Nat.lt_of_lt_of_le hv (Nat.pow_le_pow_right (by decide) (by omega)))]
    have : v / 2 ^ k.bits = 0 := Nat.div_eq_of_lt hv
    have e : ((v : Int) / 2 ^ k.bits) = ((v / 2 ^ k.bits : Nat) : Int) := by simp
    rw [e, this]
theorem shr_u64 (v n : Nat) (hv : v < 18446744073709551616) : shr .u64 (v : Int) (n : Int) = ((v / 2 ^ n : Nat) : Int) := shr_nat .u64 v n hv
theorem shr_u32 (v n : Nat) (hv : v < 4294967296) : shr .u32 (v : Int) (n : Int) = ((v / 2 ^ n : Nat) : Int) := shr_nat .u32 v n hv
theorem shl_u64 (v n : Nat) : shl .u64 (v : Int) (n : Int) = ((v * 2 ^ n % 18446744073709551616 : Nat) : Int) := by
  unfold shl
  rw [Int.toNat_natCast]
  by_cases h : n ≤ 64
  · rw [show IntKind.u64.bits = 64 from rfl, Nat.min_eq_left h, show (v : Int) * 2 ^ n = ((v * 2 ^ n : Nat) : Int) by simp, u64_nat]
  · have e : (2 : Nat) ^ n = 18446744073709551616 * 2 ^ (n - 64) := by rw [show 18446744073709551616 = 2 ^ 64 from rfl, ← Nat.pow_add]; congr 1; omega
    rw [Nat.min_eq_right (show IntKind.u64.bits ≤ n by show 64 ≤ n; omega), show (v : Int) * 2 ^ IntKind.u64.bits = ((v * 18446744073709551616 : Nat) : Int) by simp [IntKind.bits], u64_nat, Nat.mul_mod_left, e, ← Nat.mul_assoc, Nat.mul_comm v, Nat.mul_assoc, Nat.mul_mod_right]
theorem shl_u32 (v n : Nat) : shl .u32 (v : Int) (n : Int) = ((v * 2 ^ n % 4294967296 : Nat) : Int) := by
  unfold shl
  rw [Int.toNat_natCast]
  by_cases h : n ≤ 32
  · rw [show IntKind.u32.bits = 32 from rfl, Nat.min_eq_left h, show (v : Int) * 2 ^ n = ((v * 2 ^ n : Nat) : Int) by simp, u32_wrap]; omega
  · have e : (2 : Nat) ^ n = 4294967296 * 2 ^ (n - 32) := by rw [show 4294967296 = 2 ^ 32 from rfl, ← Nat.pow_add]; congr 1; omega
    rw [Nat.min_eq_right (show IntKind.u32.bits ≤ n by show 32 ≤ n; omega), show (v : Int) * 2 ^ IntKind.u32.bits = ((v * 4294967296 : Nat) : Int) by simp [IntKind.bits], u32_wrap, e, ← Nat.mul_assoc, Nat.mul_comm v, Nat.mul_assoc, Nat.mul_mod_right]; omega

theorem wraps_u64 (n : Int) (h₀ : 0 ≤ n) (h₁ : n < 2 ^ 64) : IntKind.u64.wrap n = n := by rw [u64_wrap]; omega
theorem wraps_u32 (n : Int) (h₀ : 0 ≤ n) (h₁ : n < 2 ^ 32) : IntKind.u32.wrap n = n := by rw [u32_wrap]; omega
theorem and_u64 (a b : Nat) (ha : a < 18446744073709551616) (hb : b < 18446744073709551616) : Go.bits .and .u64 a b = ((a &&& b : Nat) : Int) := (bits_nat .u64 64 (by decide) wraps_u64 a b ha hb).1
theorem or_u64 (a b : Nat) (ha : a < 18446744073709551616) (hb : b < 18446744073709551616) : Go.bits .or .u64 a b = ((a ||| b : Nat) : Int) := (bits_nat .u64 64 (by decide) wraps_u64 a b ha hb).2
theorem and_u32 (a b : Nat) (ha : a < 4294967296) (hb : b < 4294967296) : Go.bits .and .u32 a b = ((a &&& b : Nat) : Int) := (bits_nat .u32 32 (by decide) wraps_u32 a b ha hb).1
theorem or_u32 (a b : Nat) (ha : a < 4294967296) (hb : b < 4294967296) : Go.bits .or .u32 a b = ((a ||| b : Nat) : Int) := (bits_nat .u32 32 (by decide) wraps_u32 a b ha hb).2
theorem xor_u32 (a b : Nat) (ha : a < 4294967296) (hb : b < 4294967296) : Go.bits .xor .u32 a b = ((a ^^^ b : Nat) : Int) := by
  have e : (BitVec.ofInt 32 (a : Int) ^^^ BitVec.ofInt 32 (b : Int)).toNat = a ^^^ b := by
    rw [BitVec.toNat_xor, BitVec.ofInt_natCast, BitVec.ofInt_natCast, BitVec.toNat_ofNat, BitVec.toNat_ofNat, Nat.mod_eq_of_lt ha, Nat.mod_eq_of_lt hb]
  show IntKind.u32.wrap (((BitVec.ofInt 32 (a : Int) ^^^ BitVec.ofInt 32 (b : Int)).toNat : Nat) : Int) = _
  rw [e]
  exact wraps_u32 _ (Int.natCast_nonneg _) (by exact_mod_cast Nat.xor_lt_two_pow (n := 32) ha hb)
/-- The lowest bits. -/
theorem mask_u64 (a n : Nat) (ha : a < 18446744073709551616) (hn : n ≤ 64) : Go.bits .and .u64 a ((2 ^ n - 1 : Nat) : Int) = ((a % 2 ^ n : Nat) : Int) := by
  have h : 2 ^ n - 1 < 18446744073709551616 := by
    have := Nat.pow_le_pow_right (show 0 < 2 by decide) hn
    have : 0 < 2 ^ n := Nat.two_pow_pos n
    omega
  rw [and_u64 a _ ha h, Nat.and_two_pow_sub_one_eq_mod]
theorem and1_u64 (a : Nat) (ha : a < 18446744073709551616) : Go.bits .and .u64 a 1 = ((a % 2 : Nat) : Int) := mask_u64 a 1 ha (by decide)
/-- Two numbers whose bits lie apart, put together. -/
theorem or_add (a b n : Nat) (ha : a % 2 ^ n = 0) (hb : b < 2 ^ n) : a ||| b = a + b := by
  have hq : a = 2 ^ n * (a / 2 ^ n) := by have := Nat.div_add_mod a (2 ^ n); omega
  have := Nat.two_pow_add_eq_or_of_lt hb (a / 2 ^ n)
  rw [← hq] at this
  exact this.symm
end Go.Proofs.Ytlkjoibpfhjhcaa.Num

/- What the functions of layer 1 compute, as plain numbers. -/
namespace Go.Proofs.Ytlkjoibpfhjhcaa.BitsF
open Go.RowKit Go.Proofs.Ytlkjoibpfhjhcaa.P Go.Proofs.Ytlkjoibpfhjhcaa.Num Go.Proofs.YtlkjoibpfhjhcaaW.PrintWords Go.Proofs.YtlkjoibpfhjhcaaW.PrintLast Go.Proofs.YtlkjoibpfhjhcaaW.PrintMore

/-- A shift, and whether ones go out. -/
def shiftN (v : Nat) (n : Int) : Nat × Bool :=
  if 0 ≤ n then (v / 2 ^ n.toNat, decide (v % 2 ^ n.toNat ≠ 0)) else (v * 2 ^ (-n).toNat % 18446744073709551616, decide (18446744073709551616 ≤ v * 2 ^ (-n).toNat))
theorem shiftN_right (v n : Nat) : shiftN v (n : Int) = (v / 2 ^ n, decide (v % 2 ^ n ≠ 0)) := by
  unfold shiftN; rw [if_pos (by omega)]; simp
theorem shiftN_left (v n : Nat) (hv : v < 18446744073709551616) : shiftN v (-(n : Int)) = (v * 2 ^ n % 18446744073709551616, decide (18446744073709551616 ≤ v * 2 ^ n)) := by
  unfold shiftN
  by_cases h : n = 0
  · subst h; simp [Nat.mod_one]; omega
  · rw [if_neg (by omega)]; simp

theorem pow_big {n : Nat} (h : 64 ≤ n) : 18446744073709551616 ≤ 2 ^ n := by
  have : 2 ^ 64 ≤ 2 ^ n := Nat.pow_le_pow_right (by decide) h
  omega
theorem pow_dvd {n : Nat} (h : n ≤ 64) : 2 ^ n * 2 ^ (64 - n) = 18446744073709551616 := by
  rw [← Nat.pow_add, show n + (64 - n) = 64 by omega]
/-- Moved back, a number is as it was just when nothing went out. -/
theorem back_ne (v n : Nat) : decide (v / 2 ^ n * 2 ^ n ≠ v) = decide (v % 2 ^ n ≠ 0) := by
  have := Nat.div_add_mod v (2 ^ n)
  rw [Nat.mul_comm] at this
  congr 1
  apply propext
  constructor <;> intro h <;> omega
theorem left_back (v n : Nat) (hn : n ≤ 64) : decide ((v * 2 ^ n % 18446744073709551616) / 2 ^ n ≠ v) = decide (18446744073709551616 ≤ v * 2 ^ n) := by
  have hp : 0 < 2 ^ n := Nat.two_pow_pos n
  have e : v * 2 ^ n % 18446744073709551616 = (v % 2 ^ (64 - n)) * 2 ^ n := by
    rw [← pow_dvd hn, Nat.mul_comm (2 ^ n), Nat.mul_mod_mul_right]
  rw [e, Nat.mul_div_cancel _ hp]
  congr 1
  apply propext
  have hq : 0 < 2 ^ (64 - n) := Nat.two_pow_pos _
  have d := pow_dvd hn
  constructor
  · intro h
    have : 2 ^ (64 - n) ≤ v := by
      apply Nat.le_of_not_lt; intro hlt; exact h (Nat.mod_eq_of_lt hlt)
    calc 18446744073709551616 = 2 ^ (64 - n) * 2 ^ n := by rw [Nat.mul_comm]; exact d.symm
      _ ≤ v * 2 ^ n := Nat.mul_le_mul_right _ this
  · intro h h'
    have hlt : v < 2 ^ (64 - n) := by rw [← h']; exact Nat.mod_lt _ hq
    have : v * 2 ^ n < 2 ^ (64 - n) * 2 ^ n := Nat.mul_lt_mul_of_pos_right hlt hp
    rw [Nat.mul_comm (2 ^ (64 - n)), d] at this
    omega
theorem bne_cast (a b : Nat) : (((a : Int) != (b : Int)) : Bool) = decide (a ≠ b) := by
  by_cases h : a = b
  · subst h; simp
  · rw [bne_iff_ne.mpr (by omega)]; simp [h]

theorem shift_f (v : Nat) (hv : v < 18446744073709551616) (n : Int) (h1 : -9223372036854775808 ≤ n) (h2 : n ≤ 9223372036854775807) (k : Nat) :
    bits_Shift.f (k + 1) (v : Int) n = some ((((shiftN v n).1 : Nat) : Int), (shiftN v n).2) := by
  unfold bits_Shift.f
  by_cases c : n ≥ 64
  · rw [if_pos c]
    simp only [bits_Shift.j0, if_true]
    obtain ⟨m, rfl⟩ := nat_of (show 0 ≤ n by omega)
    rw [shiftN_right]
    have := pow_big (show 64 ≤ m by omega)
    rw [Nat.div_eq_of_lt (by omega), Nat.mod_eq_of_lt (by omega), ← bne_cast]; rfl
  · rw [if_neg c]
    by_cases c' : n ≤ -64
    · rw [decide_eq_true c']
      simp only [bits_Shift.j0, if_true]
      obtain ⟨m, hm⟩ := nat_of (show 0 ≤ -n by omega)
      obtain rfl : n = -(m : Int) := by omega
      rw [shiftN_left _ _ hv]
      have hb := pow_big (show 64 ≤ m by omega)
      have e : (2 : Nat) ^ m = 18446744073709551616 * 2 ^ (m - 64) := by rw [show 18446744073709551616 = 2 ^ 64 from rfl, ← Nat.pow_add]; congr 1; omega
      have e1 : v * 2 ^ m % 18446744073709551616 = 0 := by rw [e, ← Nat.mul_assoc, Nat.mul_comm v, Nat.mul_assoc, Nat.mul_mod_right]
      have e2 : decide (18446744073709551616 ≤ v * 2 ^ m) = decide (v ≠ 0) := by
        congr 1; apply propext
        constructor
        · intro h h0; subst h0; omega
        · intro h
          calc 18446744073709551616 ≤ 2 ^ m := hb
            _ = 1 * 2 ^ m := (Nat.one_mul _).symm
            _ ≤ v * 2 ^ m := Nat.mul_le_mul_right _ (by omega)
      simp only [e1, e2]
      rw [← bne_cast]; rfl
    · rw [decide_eq_false c']
      simp only [bits_Shift.j0, Bool.false_eq_true, if_false]
      by_cases c0 : n ≥ 0
      · rw [if_pos c0]
        obtain ⟨m, rfl⟩ := nat_of c0
        rw [u64_id _ (by omega), if_pos (by omega), shr_u64 _ _ hv, shl_u64, bne_cast, shiftN_right]
        have hle : v / 2 ^ m * 2 ^ m ≤ v := Nat.div_mul_le_self _ _
        rw [Nat.mod_eq_of_lt (by omega), back_ne]
      · rw [if_neg c0]
        obtain ⟨m, hm⟩ := nat_of (show 0 ≤ -n by omega)
        obtain rfl : n = -(m : Int) := by omega
        rw [Int.neg_neg, w64_id _ (by omega) (by omega), u64_id _ (by omega), if_pos (by omega), shl_u64, shr_u64 _ _ (Nat.mod_lt _ (by decide)), bne_cast, shiftN_left _ _ hv, left_back _ _ (by omega)]
theorem shift_ev (v : Nat) (hv : v < 18446744073709551616) (n : Int) (h1 : -9223372036854775808 ≤ n) (h2 : n ≤ 9223372036854775807) :
    Ev (fun k => bits_Shift.f k (v : Int) n) ((((shiftN v n).1 : Nat) : Int), (shiftN v n).2) := Ev.of (bits_Shift.mono _ _) (shift_f v hv n h1 h2 0)

/-- How many bits a number has. -/
def lenN (v : Nat) : Nat := if v = 0 then 0 else v.log2 + 1
theorem lenN_lt (v : Nat) : v < 2 ^ lenN v := by
  unfold lenN
  by_cases h : v = 0
  · subst h; decide
  · rw [if_neg h]; exact (Nat.log2_lt h).mp (Nat.lt_succ_self _)
theorem lenN_le (v : Nat) (h : v ≠ 0) : 2 ^ (lenN v - 1) ≤ v := by
  unfold lenN
  rw [if_neg h, Nat.add_sub_cancel]
  exact (Nat.le_log2 h).mp (Nat.le_refl _)
theorem lenN_pos (v : Nat) (h : v ≠ 0) : 1 ≤ lenN v := by unfold lenN; rw [if_neg h]; omega
theorem lenN_of (v n : Nat) (h : v < 2 ^ n) (h' : n = 0 ∨ 2 ^ (n - 1) ≤ v) : lenN v = n := by
  by_cases hv : v = 0
  · subst hv
    rcases h' with h' | h'
    · subst h'; rfl
    · have := Nat.two_pow_pos (n - 1); omega
  · have hn : n ≠ 0 := by intro e; subst e; simp at h; omega
    have h' := h'.resolve_left hn
    unfold lenN; rw [if_neg hv]
    have a := (Nat.log2_lt hv).mpr h
    have b := (Nat.le_log2 hv).mpr h'
    omega
theorem lenN_bound (v n : Nat) (h : v < 2 ^ n) : lenN v ≤ n := by
  by_cases hv : v = 0
  · subst hv; exact Nat.zero_le _
  · unfold lenN; rw [if_neg hv]; exact (Nat.log2_lt hv).mpr h
theorem lenN_div (v n : Nat) (h : 2 ^ n ≤ v) : lenN (v / 2 ^ n) + n = lenN v := by
  have hp := Nat.two_pow_pos n
  have hq : v / 2 ^ n ≠ 0 := by have := Nat.div_pos h hp; omega
  symm
  apply lenN_of
  · rw [Nat.pow_add, Nat.mul_comm]
    exact Nat.lt_mul_of_div_lt (lenN_lt _) hp |> fun z => by rw [Nat.mul_comm] at z; exact z
  · right
    have h1 := lenN_pos _ hq
    rw [show lenN (v / 2 ^ n) + n - 1 = lenN (v / 2 ^ n) - 1 + n by omega, Nat.pow_add]
    exact (Nat.le_div_iff_mul_le hp).mp (lenN_le _ hq)
theorem tab_all : ∀ i : Fin 256, bt (⟨#[0, 1, 2, 2, 3, 3, 3, 3, 4, 4, 4, 4, 4, 4, 4, 4, 5, 5, 5, 5, 5, 5, 5, 5, 5, 5, 5, 5, 5, 5, 5, 5, 6, 6, 6, 6, 6, 6, 6, 6, 6, 6, 6, 6, 6, 6, 6, 6, 6, 6, 6, 6, 6, 6, 6, 6, 6, 6, 6, 6, 6, 6, 6, 6, 7, 7, 7, 7, 7, 7, 7, 7, 7, 7, 7, 7, 7, 7, 7, 7, 7, 7, 7, 7, 7, 7, 7, 7, 7, 7, 7, 7, 7, 7, 7, 7, 7, 7, 7, 7, 7, 7, 7, 7, 7, 7, 7, 7, 7, 7, 7, 7, 7, 7, 7, 7, 7, 7, 7, 7, 7, 7, 7, 7, 7, 7, 7, 7, 8, 8, 8, 8, 8, 8, 8, 8, 8, 8, 8, 8, 8, 8, 8, 8, 8, 8, 8, 8, 8, 8, 8, 8, 8, 8, 8, 8, 8, 8, 8, 8, 8, 8, 8, 8, 8, 8, 8, 8, 8, 8, 8, 8, 8, 8, 8, 8, 8, 8, 8, 8, 8, 8, 8, 8, 8, 8, 8, 8, 8, 8, 8, 8, 8, 8, 8, 8, 8, 8, 8, 8, 8, 8, 8, 8, 8, 8, 8, 8, 8, 8, 8, 8, 8, 8, 8, 8, 8, 8, 8, 8, 8, 8, 8, 8, 8, 8, 8, 8, 8, 8, 8, 8, 8, 8, 8, 8, 8, 8, 8, 8, 8, 8, 8, 8, 8, 8, 8, 8, 8, 8, 8, 8, 8, 8, 8, 8]⟩ : ByteArray) ((i.val : Nat) : Int) = (lenN i.val : Int) := by decide +kernel
theorem tab_len (i : Nat) (h : i < 256) : bt (⟨#[0, 1, 2, 2, 3, 3, 3, 3, 4, 4, 4, 4, 4, 4, 4, 4, 5, 5, 5, 5, 5, 5, 5, 5, 5, 5, 5, 5, 5, 5, 5, 5, 6, 6, 6, 6, 6, 6, 6, 6, 6, 6, 6, 6, 6, 6, 6, 6, 6, 6, 6, 6, 6, 6, 6, 6, 6, 6, 6, 6, 6, 6, 6, 6, 7, 7, 7, 7, 7, 7, 7, 7, 7, 7, 7, 7, 7, 7, 7, 7, 7, 7, 7, 7, 7, 7, 7, 7, 7, 7, 7, 7, 7, 7, 7, 7, 7, 7, 7, 7, 7, 7, 7, 7, 7, 7, 7, 7, 7, 7, 7, 7, 7, 7, 7, 7, 7, 7, 7, 7, 7, 7, 7, 7, 7, 7, 7, 7, 8, 8, 8, 8, 8, 8, 8, 8, 8, 8, 8, 8, 8, 8, 8, 8, 8, 8, 8, 8, 8, 8, 8, 8, 8, 8, 8, 8, 8, 8, 8, 8, 8, 8, 8, 8, 8, 8, 8, 8, 8, 8, 8, 8, 8, 8, 8, 8, 8, 8, 8, 8, 8, 8, 8, 8, 8, 8, 8, 8, 8, 8, 8, 8, 8, 8, 8, 8, 8, 8, 8, 8, 8, 8, 8, 8, 8, 8, 8, 8, 8, 8, 8, 8, 8, 8, 8, 8, 8, 8, 8, 8, 8, 8, 8, 8, 8, 8, 8, 8, 8, 8, 8, 8, 8, 8, 8, 8, 8, 8, 8, 8, 8, 8, 8, 8, 8, 8, 8, 8, 8, 8, 8, 8, 8, 8, 8, 8]⟩ : ByteArray) (i : Int) = (lenN i : Int) := tab_all ⟨i, h⟩
theorem lenN_small (v : Nat) (h : v < 18446744073709551616) : lenN v ≤ 64 := lenN_bound v 64 h
set_option maxRecDepth 100000 in
theorem len_j0 (k x c : Nat) (hx : x < 4294967296) (hc : c ≤ 64) : bits_Len64.j0 (k + 1) (x : Int) (c : Int) = some ((c + lenN x : Nat) : Int) := by
  rw [bits_Len64.j0]
  have e1 : (x : Int) / 65536 = ((x / 65536 : Nat) : Int) := by omega
  have e2 : (x : Int) / 65536 / 256 = ((x / 65536 / 256 : Nat) : Int) := by omega
  have e3 : (x : Int) / 256 = ((x / 256 : Nat) : Int) := by omega
  by_cases c1 : (x : Int) ≥ 65536
  · rw [if_pos c1]
    by_cases c2 : (x : Int) / 65536 ≥ 256
    · rw [if_pos c2, e2, show ((x / 65536 / 256 : Nat) : Int) % 256 = ((x / 65536 / 256 : Nat) : Int) by omega, if_pos (by omega), if_pos (by omega), tab_len _ (by omega)]
      have h := lenN_div x 24 (by omega)
      rw [show x / 2 ^ 24 = x / 65536 / 256 by omega] at h
      have b := lenN_bound (x / 65536 / 256) 8 (by omega)
      rw [w64_id (c + 16) (by omega) (by omega), w64_id (c + 16 + 8) (by omega) (by omega), w64_id (lenN _) (by omega) (by omega), w64_id _ (by omega) (by omega)]
      congr 1; omega
    · rw [if_neg c2, e1, show ((x / 65536 : Nat) : Int) % 256 = ((x / 65536 : Nat) : Int) by omega, if_pos (by omega), if_pos (by omega), tab_len _ (by omega)]
      have h := lenN_div x 16 (by omega)
      rw [show x / 2 ^ 16 = x / 65536 by omega] at h
      have b := lenN_bound (x / 65536) 8 (by omega)
      rw [w64_id (c + 16) (by omega) (by omega), w64_id (lenN _) (by omega) (by omega), w64_id _ (by omega) (by omega)]
      congr 1; omega
  · rw [if_neg c1]
    by_cases c2 : (x : Int) ≥ 256
    · rw [if_pos c2, e3, show ((x / 256 : Nat) : Int) % 256 = ((x / 256 : Nat) : Int) by omega, if_pos (by omega), if_pos (by omega), tab_len _ (by omega)]
      have h := lenN_div x 8 (by omega)
      rw [show x / 2 ^ 8 = x / 256 by omega] at h
      have b := lenN_bound (x / 256) 8 (by omega)
      rw [w64_id (c + 8) (by omega) (by omega), w64_id (lenN _) (by omega) (by omega), w64_id _ (by omega) (by omega)]
      congr 1; omega
    · rw [if_neg c2, show (x : Int) % 256 = (x : Int) by omega, if_pos (by omega), if_pos (by omega), tab_len _ (by omega)]
      have b := lenN_bound x 8 (by omega)
      rw [w64_id (lenN _) (by omega) (by omega), w64_id _ (by omega) (by omega)]
      congr 1
theorem len64_f (k v : Nat) (hv : v < 18446744073709551616) : bits_Len64.f (k + 1) (v : Int) = some (lenN v : Int) := by
  unfold bits_Len64.f
  by_cases c : (v : Int) ≥ 4294967296
  · rw [if_pos c, show (v : Int) / 4294967296 = ((v / 4294967296 : Nat) : Int) by omega]
    have h := len_j0 k (v / 4294967296) 32 (by omega) (by decide)
    have e := lenN_div v 32 (by omega)
    rw [show v / 2 ^ 32 = v / 4294967296 by omega] at e
    rw [show ((32 : Nat) : Int) = 32 from rfl] at h
    rw [h]; congr 1; omega
  · rw [if_neg c]
    have h := len_j0 k v 0 (by omega) (by decide)
    rw [show ((0 : Nat) : Int) = 0 from rfl] at h
    rw [h, Nat.zero_add]
theorem len_f (k v : Nat) (hv : v < 18446744073709551616) : bits_Len.f (k + 1) (v : Int) = some (lenN v : Int) := by
  unfold bits_Len.f; rw [len64_f k v hv]; rfl
theorem len_ev (v : Nat) (hv : v < 18446744073709551616) : Ev (fun k => bits_Len.f k (v : Int)) (lenN v : Int) := Ev.of (bits_Len.mono _) (len_f 0 v hv)

/-- The lowest bits, n of them. -/
def cutN (v : Nat) (n : Int) : Nat := if n < 1 then 0 else v % 2 ^ n.toNat
theorem cut_mask (v n : Nat) (hv : v < 18446744073709551616) (hn : n < 64) : Go.bits .and .u64 (v : Int) (IntKind.u64.wrap (shl .u64 1 (n : Int) - 1)) = ((v % 2 ^ n : Nat) : Int) := by
  have hp : 2 ^ n ≤ 2 ^ 63 := Nat.pow_le_pow_right (by decide) (by omega)
  have h0 := Nat.two_pow_pos n
  rw [show (1 : Int) = ((1 : Nat) : Int) from rfl, shl_u64, Nat.one_mul, Nat.mod_eq_of_lt (by omega), show ((2 ^ n : Nat) : Int) - ((1 : Nat) : Int) = ((2 ^ n - 1 : Nat) : Int) by omega, u64_id _ (by omega), mask_u64 _ _ hv (by omega)]
theorem cut_f (v : Nat) (hv : v < 18446744073709551616) (n : Int) (h2 : n ≤ 9223372036854775807) : bits_Cut.f (v : Int) n = some (cutN v n : Int) := by
  unfold bits_Cut.f cutN
  by_cases c : n < 1
  · rw [if_pos c, if_pos c]; rfl
  · rw [if_neg c, if_neg c]
    obtain ⟨m, rfl⟩ := nat_of (show 0 ≤ n by omega)
    by_cases c' : (m : Int) ≥ 64
    · rw [if_pos c', Int.toNat_natCast, Nat.mod_eq_of_lt (by have := pow_big (show 64 ≤ m by omega); omega)]
    · rw [if_neg c', u64_id _ (by omega), if_pos (by omega), cut_mask _ _ hv (by omega), Int.toNat_natCast]
end Go.Proofs.Ytlkjoibpfhjhcaa.BitsF

/- What the program's package format computes, as plain numbers: widths, parts, classes, whole numbers and exponents. -/
namespace Go.Proofs.Ytlkjoibpfhjhcaa.Fmt
open Go.RowKit Go.Proofs.Ytlkjoibpfhjhcaa.P Go.Proofs.Ytlkjoibpfhjhcaa.Num Go.Proofs.Ytlkjoibpfhjhcaa.BitsF Go.Proofs.YtlkjoibpfhjhcaaW.PrintWords Go.Proofs.YtlkjoibpfhjhcaaW.PrintLast Go.Proofs.YtlkjoibpfhjhcaaW.PrintMore

/-- A format's exponent's bits, and its fraction's. -/
def fe (f : Int) : Nat := if f = 0 then 5 else 8
def fm (f : Int) : Nat := if f = 0 then 10 else if f = 1 then 7 else 23
theorem fcases (f : Int) : (fe f = 5 ∧ fm f = 10) ∨ (fe f = 8 ∧ fm f = 7) ∨ (fe f = 8 ∧ fm f = 23) := by
  unfold fe fm
  split
  · exact .inl ⟨rfl, rfl⟩
  · split
    · exact .inr (.inl ⟨rfl, rfl⟩)
    · exact .inr (.inr ⟨rfl, rfl⟩)
theorem fbounds (f : Int) : 5 ≤ fe f ∧ fe f ≤ 8 ∧ 7 ≤ fm f ∧ fm f ≤ 23 ∧ fe f + fm f ≤ 31 := by
  rcases fcases f with ⟨h1, h2⟩ | ⟨h1, h2⟩ | ⟨h1, h2⟩ <;> rw [h1, h2] <;> decide
/-- The exponent, as it stands, of what isn't finite; the exponent of the least normal number. -/
def topN (f : Int) : Nat := 2 ^ fe f - 1
def leastN (f : Int) : Int := 2 - 2 ^ (fe f - 1)
theorem least_cases (f : Int) : leastN f = -14 ∨ leastN f = -126 := by
  unfold leastN
  rcases fcases f with ⟨h1, _⟩ | ⟨h1, _⟩ | ⟨h1, _⟩ <;> rw [h1] <;> simp
theorem top_cases (f : Int) : topN f = 31 ∨ topN f = 255 := by
  unfold topN
  rcases fcases f with ⟨h1, _⟩ | ⟨h1, _⟩ | ⟨h1, _⟩ <;> rw [h1] <;> simp
def signN (f : Int) (neg : Bool) : Nat := if neg then 2 ^ (fe f + fm f) else 0
def negN (f : Int) (v : Nat) : Bool := decide (v / 2 ^ (fe f + fm f) % 2 = 1)
def expN (f : Int) (v : Nat) : Nat := v / 2 ^ fm f % 2 ^ fe f
def fracN (f : Int) (v : Nat) : Nat := v % 2 ^ fm f
theorem exp_le (f : Int) (v : Nat) : expN f v ≤ topN f := by
  unfold expN topN
  have := Nat.mod_lt (v / 2 ^ fm f) (Nat.two_pow_pos (fe f))
  omega
theorem frac_lt (f : Int) (v : Nat) : fracN f v < 2 ^ fm f := Nat.mod_lt _ (Nat.two_pow_pos _)

theorem wu (n : Nat) (h : n < 9223372036854775808) : IntKind.u64.wrap (wrap64 (n : Int)) = (n : Int) := by rw [w64_id _ (by omega) (by omega), u64_id _ (by omega)]
theorem pow_le31 {n : Nat} (h : n ≤ 31) : 2 ^ n ≤ 2147483648 := Nat.pow_le_pow_right (show 0 < 2 by decide) h
theorem pow_le32 {n : Nat} (h : n ≤ 32) : 2 ^ n ≤ 4294967296 := Nat.pow_le_pow_right (show 0 < 2 by decide) h
theorem one_shl (n : Nat) (h : n ≤ 31) : shl .u32 1 (n : Int) = ((2 ^ n : Nat) : Int) := by
  have := pow_le31 h
  rw [show (1 : Int) = ((1 : Nat) : Int) from rfl, shl_u32, Nat.one_mul, Nat.mod_eq_of_lt (by omega)]
theorem mask_u32 (a n : Nat) (ha : a < 4294967296) (hn : n ≤ 31) : Go.bits .and .u32 (a : Int) ((shl .u32 1 (n : Int) - 1) % 4294967296) = ((a % 2 ^ n : Nat) : Int) := by
  have h1 := pow_le31 hn
  have h0 := Nat.two_pow_pos n
  rw [one_shl n hn, show (((2 ^ n : Nat) : Int) - 1) % 4294967296 = ((2 ^ n - 1 : Nat) : Int) by omega, and_u32 _ _ ha (by omega), Nat.and_two_pow_sub_one_eq_mod]
theorem and1_u32 (a : Nat) (ha : a < 4294967296) : Go.bits .and .u32 (a : Int) 1 = ((a % 2 : Nat) : Int) := by
  rw [show (1 : Int) = ((2 ^ 1 - 1 : Nat) : Int) from rfl, and_u32 _ _ ha (by decide), Nat.and_two_pow_sub_one_eq_mod]
theorem one_shl_i64 (n : Nat) (h : n ≤ 31) : shl .i64 1 (n : Int) = ((2 ^ n : Nat) : Int) := by
  have := pow_le31 h
  have := Nat.two_pow_pos n
  unfold shl
  rw [Int.toNat_natCast, Nat.min_eq_left (show n ≤ IntKind.i64.bits by show n ≤ 64; omega), i64_wrap, Int.one_mul, ← pow_cast, w64_id _ (by omega) (by omega)]

theorem widths_f (f : Int) : format_Widths.f f = some ((fe f : Int), (fm f : Int)) := by
  unfold format_Widths.f fe fm
  by_cases h : f = 0
  · subst h; rfl
  · rw [if_neg h, if_neg h, if_neg h]
    by_cases h1 : f = 1
    · subst h1; rfl
    · rw [if_neg h1, if_neg h1]; rfl
/-- A number put together of its parts. -/
def joinN (f : Int) (neg : Bool) (at_ frac : Nat) : Nat := at_ * 2 ^ fm f + frac + signN f neg
theorem join_f (f : Int) (neg : Bool) (a c : Nat) (ha : a ≤ topN f) (hc : c < 2 ^ fm f) : format_Join.f f neg (a : Int) (c : Int) = some (joinN f neg a c : Int) := by
  unfold format_Join.f joinN signN
  rw [widths_f]
  obtain ⟨b1, b2, b3, b4, b5⟩ := fbounds f
  have hp := Nat.two_pow_pos (fm f)
  have hle : a * 2 ^ fm f + 2 ^ fm f ≤ 2 ^ (fe f + fm f) := by
    rw [Nat.pow_add, ← Nat.succ_mul]
    apply Nat.mul_le_mul_right
    unfold topN at ha
    have := Nat.two_pow_pos (fe f); omega
  have h31 := pow_le31 b5
  have e1 : shl .u32 ((a : Int) % 4294967296) (fm f : Int) = ((a * 2 ^ fm f : Nat) : Int) := by
    have : a < 4294967296 := by have := top_cases f; omega
    rw [show (a : Int) % 4294967296 = ((a : Nat) : Int) by omega, shl_u32, Nat.mod_eq_of_lt (by omega)]
  have e2 : Go.bits .or .u32 ((a * 2 ^ fm f : Nat) : Int) (c : Int) = ((a * 2 ^ fm f + c : Nat) : Int) := by
    rw [or_u32 _ _ (by omega) (by omega), or_add _ _ (fm f) (Nat.mul_mod_left ..) hc]
  simp only [Option.bind_some]
  rw [u64_id (fm f) (by omega), if_pos (by omega), e1, e2]
  cases neg
  · simp
  · simp only [if_true]
    rw [show (fe f : Int) + (fm f : Int) = ((fe f + fm f : Nat) : Int) by omega, wu _ (by omega), if_pos (by omega), one_shl _ b5, or_u32 _ _ (by omega) (by omega), Nat.or_comm, or_add _ (a * 2 ^ fm f + c) (fe f + fm f) (by simp) (by omega)]
    congr 2; omega
theorem top_f (f : Int) : format_Top.f f = some (topN f : Int) := by
  unfold format_Top.f topN
  rw [widths_f]
  obtain ⟨b1, b2, b3, b4, b5⟩ := fbounds f
  have hp := Nat.two_pow_pos (fe f)
  have h31 := pow_le31 (show fe f ≤ 31 by omega)
  simp only [Option.bind_some]
  rw [u64_id (fe f) (by omega), if_pos (by omega), one_shl_i64 _ (by omega), w64_id _ (by omega) (by omega)]
  congr 1; omega
theorem least_f (f : Int) : format_Least.f f = some (leastN f) := by
  unfold format_Least.f leastN
  rw [widths_f]
  obtain ⟨b1, b2, b3, b4, b5⟩ := fbounds f
  have h31 := pow_le31 (show fe f - 1 ≤ 31 by omega)
  have h0 := Nat.two_pow_pos (fe f - 1)
  simp only [Option.bind_some]
  rw [show (fe f : Int) - 1 = ((fe f - 1 : Nat) : Int) by omega, wu _ (by omega), if_pos (by omega), one_shl_i64 _ (by omega), w64_id _ (by omega) (by omega), pow_cast]
theorem zero_f (f : Int) (neg : Bool) : format_Zero.f f neg = some (signN f neg : Int) := by
  unfold format_Zero.f
  have h := join_f f neg 0 0 (Nat.zero_le _) (Nat.two_pow_pos _)
  rw [show ((0 : Nat) : Int) = 0 from rfl] at h
  rw [h]; unfold joinN; simp
def infN (f : Int) (neg : Bool) : Nat := topN f * 2 ^ fm f + signN f neg
theorem inf_f (f : Int) (neg : Bool) : format_Inf.f f neg = some (infN f neg : Int) := by
  unfold format_Inf.f infN
  have h := join_f f neg (topN f) 0 (Nat.le_refl _) (Nat.two_pow_pos _)
  rw [show ((0 : Nat) : Int) = 0 from rfl] at h
  rw [top_f]; simp only [Option.bind_some]; rw [h]; unfold joinN; simp
def greatN (f : Int) (neg : Bool) : Nat := topN f * 2 ^ fm f - 1 + signN f neg
theorem greatest_f (f : Int) (neg : Bool) : format_Greatest.f f neg = some (greatN f neg : Int) := by
  unfold format_Greatest.f greatN
  obtain ⟨b1, b2, b3, b4, b5⟩ := fbounds f
  have hp := Nat.two_pow_pos (fm f)
  have h31 := pow_le31 (show fm f ≤ 31 by omega)
  have ht := top_cases f
  rw [widths_f, top_f]
  simp only [Option.bind_some]
  rw [u64_id (fm f) (by omega), if_pos (by omega), w64_id _ (by omega) (by omega), one_shl _ (by omega), show (((2 ^ fm f : Nat) : Int) - 1) % 4294967296 = ((2 ^ fm f - 1 : Nat) : Int) by omega, show (topN f : Int) - 1 = ((topN f - 1 : Nat) : Int) by omega, join_f f neg _ _ (by omega) (by omega)]
  simp only [Option.bind_some]
  unfold joinN
  congr 2
  have : topN f * 2 ^ fm f = (topN f - 1) * 2 ^ fm f + 2 ^ fm f := by rw [← Nat.succ_mul]; congr 1; omega
  omega
end Go.Proofs.Ytlkjoibpfhjhcaa.Fmt

-- Printed by a program of this session's out of Lean's print of the translation; Lean checks it.
namespace Go.Proofs.Ytlkjoibpfhjhcaa.P
open Go.RowKit Go.Proofs.YtlkjoibpfhjhcaaW.PrintWords Go.Proofs.YtlkjoibpfhjhcaaW.PrintLast Go.Proofs.YtlkjoibpfhjhcaaW.PrintMore
attribute [local go_sem] max2_int min2_int max_two min_two max_three min_three max_four min_four   -- for this text's walks alone
set_option linter.unusedVariables false
set_option linter.unusedSimpArgs false

/-! ### annealseat_Mild: function 17 -/
/-! ### annealref1_nans: function 42 -/
/-! ### annealref1_bias: function 72 -/
end Go.Proofs.Ytlkjoibpfhjhcaa.P

/- What the reference's formats are: the same plain numbers. -/
namespace Go.Proofs.Ytlkjoibpfhjhcaa.Round
open Go.RowKit Go.Proofs.Ytlkjoibpfhjhcaa.P Go.Proofs.Ytlkjoibpfhjhcaa.Num Go.Proofs.Ytlkjoibpfhjhcaa.BitsF Go.Proofs.Ytlkjoibpfhjhcaa.Fmt Go.Proofs.YtlkjoibpfhjhcaaW.PrintWords Go.Proofs.YtlkjoibpfhjhcaaW.PrintLast Go.Proofs.YtlkjoibpfhjhcaaW.PrintMore

theorem beq_nn (a b : Nat) : (((a : Int) == (b : Int)) : Bool) = decide (a = b) := by
  by_cases h : a = b
  · subst h; simp
  · rw [beq_eq_false_iff_ne.mpr (by omega)]; simp [h]
theorem ref_widths_f (f : Int) : annealref1_Widths.f f = some ((fe f : Int), (fm f : Int)) := by
  unfold annealref1_Widths.f fe fm
  by_cases h : f = 0
  · subst h; rfl
  · rw [if_neg h, if_neg h, if_neg h]
    by_cases h1 : f = 1
    · subst h1; rfl
    · rw [if_neg h1, if_neg h1]; rfl
theorem ref_sign_f (f : Int) (neg : Bool) : annealref1_sign.f f neg = some (signN f neg : Int) := by
  unfold annealref1_sign.f signN
  obtain ⟨b1, b2, b3, b4, b5⟩ := fbounds f
  rw [ref_widths_f]; simp only [Option.bind_some]
  cases neg
  · rfl
  · simp only [if_true]
    rw [show (fe f : Int) + (fm f : Int) = ((fe f + fm f : Nat) : Int) by omega, w64_id _ (by omega) (by omega), if_pos (by omega), one_shl _ b5]
theorem ref_zero_f (f : Int) (neg : Bool) : annealref1_Zero.f f neg = some (signN f neg : Int) := by
  unfold annealref1_Zero.f; rw [ref_sign_f]; rfl
theorem inf_lt (f : Int) (neg : Bool) : infN f neg < 4294967296 ∧ topN f * 2 ^ fm f + 2 ^ fm f = 2 ^ (fe f + fm f) := by
  obtain ⟨b1, b2, b3, b4, b5⟩ := fbounds f
  have h31 := pow_le31 b5
  have hp := Nat.two_pow_pos (fm f)
  have e : topN f * 2 ^ fm f + 2 ^ fm f = 2 ^ (fe f + fm f) := by
    rw [Nat.pow_add, ← Nat.succ_mul]; congr 1
    unfold topN; have := Nat.two_pow_pos (fe f); omega
  refine ⟨?_, e⟩
  unfold infN signN; split <;> omega
theorem ref_inf_f (f : Int) (neg : Bool) : annealref1_Inf.f f neg = some (infN f neg : Int) := by
  unfold annealref1_Inf.f infN
  obtain ⟨b1, b2, b3, b4, b5⟩ := fbounds f
  obtain ⟨_, hi⟩ := inf_lt f neg
  have h31 := pow_le31 b5
  have hp := Nat.two_pow_pos (fm f)
  have hpe := Nat.two_pow_pos (fe f)
  have h8 := pow_le31 (show fe f ≤ 31 by omega)
  rw [ref_widths_f, ref_sign_f]; simp only [Option.bind_some]
  rw [if_pos (by omega), if_pos (by omega), one_shl _ (by omega), show (((2 ^ fe f : Nat) : Int) - 1) % 4294967296 = ((topN f : Nat) : Int) by unfold topN; omega, shl_u32, Nat.mod_eq_of_lt (by omega)]
  unfold signN
  cases neg
  · simp only [Bool.false_eq_true, if_false]
    rw [or_u32 _ _ (by omega) (by omega), Nat.zero_or, Nat.add_zero]
  · simp only [if_true]
    rw [or_u32 _ _ (by omega) (by omega), or_add _ _ (fe f + fm f) (by simp) (by omega), Nat.add_comm]
end Go.Proofs.Ytlkjoibpfhjhcaa.Round

-- Printed by a program of this session's out of Lean's print of the translation; Lean checks it.
namespace Go.Proofs.Ytlkjoibpfhjhcaa.P
open Go.RowKit Go.Proofs.YtlkjoibpfhjhcaaW.PrintWords Go.Proofs.YtlkjoibpfhjhcaaW.PrintLast Go.Proofs.YtlkjoibpfhjhcaaW.PrintMore
attribute [local go_sem] max2_int min2_int max_two min_two max_three min_three max_four min_four   -- for this text's walks alone
set_option linter.unusedVariables false
set_option linter.unusedSimpArgs false

/-! ### annealref1_Unpack: function 43 -/
/-! ### annealref1_Len: function 73 -/
/-! ### annealref1_Shift: function 80 -/
end Go.Proofs.Ytlkjoibpfhjhcaa.P

-- Printed by a program of this session's out of Lean's print of the translation; Lean checks it.
namespace Go.Proofs.Ytlkjoibpfhjhcaa.P
open Go.RowKit Go.Proofs.YtlkjoibpfhjhcaaW.PrintWords Go.Proofs.YtlkjoibpfhjhcaaW.PrintLast Go.Proofs.YtlkjoibpfhjhcaaW.PrintMore
attribute [local go_sem] max2_int min2_int max_two min_two max_three min_three max_four min_four   -- for this text's walks alone
set_option linter.unusedVariables false
set_option linter.unusedSimpArgs false

/-! ### annealref1_divide: function 74 -/
/-! ### annealref1_up: function 75 -/
/-! ### annealref1_Greatest: function 81 -/
end Go.Proofs.Ytlkjoibpfhjhcaa.P

-- Printed by a program of this session's out of Lean's print of the translation; Lean checks it.
namespace Go.Proofs.Ytlkjoibpfhjhcaa.P
open Go.RowKit Go.Proofs.YtlkjoibpfhjhcaaW.PrintWords Go.Proofs.YtlkjoibpfhjhcaaW.PrintLast Go.Proofs.YtlkjoibpfhjhcaaW.PrintMore
attribute [local go_sem] max2_int min2_int max_two min_two max_three min_three max_four min_four   -- for this text's walks alone
set_option linter.unusedVariables false
set_option linter.unusedSimpArgs false

/-! ### annealref1_over: function 76 -/
end Go.Proofs.Ytlkjoibpfhjhcaa.P

-- Printed by a program of this session's out of Lean's print of the translation; Lean checks it.
namespace Go.Proofs.Ytlkjoibpfhjhcaa.P
open Go.RowKit Go.Proofs.YtlkjoibpfhjhcaaW.PrintWords Go.Proofs.YtlkjoibpfhjhcaaW.PrintLast Go.Proofs.YtlkjoibpfhjhcaaW.PrintMore
attribute [local go_sem] max2_int min2_int max_two min_two max_three min_three max_four min_four   -- for this text's walks alone
set_option linter.unusedVariables false
set_option linter.unusedSimpArgs false

/-! ### annealref1_Pack: function 44 -/
end Go.Proofs.Ytlkjoibpfhjhcaa.P

-- Printed by a program of this session's out of Lean's print of the translation; Lean checks it.
namespace Go.Proofs.Ytlkjoibpfhjhcaa.P
open Go.RowKit Go.Proofs.YtlkjoibpfhjhcaaW.PrintWords Go.Proofs.YtlkjoibpfhjhcaaW.PrintLast Go.Proofs.YtlkjoibpfhjhcaaW.PrintMore
attribute [local go_sem] max2_int min2_int max_two min_two max_three min_three max_four min_four   -- for this text's walks alone
set_option linter.unusedVariables false
set_option linter.unusedSimpArgs false

/-! ### annealref1_Scale: function 18 -/
/-! ### annealref1_neg: function 46 -/
/-! ### annealref1_Key: function 20 -/
/-! ### annealref1_zero: function 51 -/
/-! ### annealref1_Compare: function 45 -/
end Go.Proofs.Ytlkjoibpfhjhcaa.P

/- The reference's parts of a number, its class, its whole number and exponent, its place in the order: as plain numbers. -/
namespace Go.Proofs.Ytlkjoibpfhjhcaa.Round
open Go.RowKit Go.Proofs.Ytlkjoibpfhjhcaa.P Go.Proofs.Ytlkjoibpfhjhcaa.Num Go.Proofs.Ytlkjoibpfhjhcaa.BitsF Go.Proofs.Ytlkjoibpfhjhcaa.Fmt Go.Proofs.YtlkjoibpfhjhcaaW.PrintWords Go.Proofs.YtlkjoibpfhjhcaaW.PrintLast Go.Proofs.YtlkjoibpfhjhcaaW.PrintMore

/-- A number's bits: the lowest of a format's width. -/
def lowN (f : Int) (v : Nat) : Nat := v % 2 ^ (fe f + fm f + 1)
theorem low_lt (f : Int) (v : Nat) : lowN f v < 2 ^ (fe f + fm f + 1) := Nat.mod_lt _ (Nat.two_pow_pos _)
theorem low_32 (f : Int) (v : Nat) : lowN f v < 4294967296 := by
  obtain ⟨b1, b2, b3, b4, b5⟩ := fbounds f
  have := low_lt f v
  have := pow_le32 (show fe f + fm f + 1 ≤ 32 by omega)
  omega
def maskN (f : Int) : Nat := 2 ^ (fe f + fm f + 1) - 1
theorem mask_lit (n : Nat) (hn : n ≤ 32) : (IntKind.u64.wrap (shl .u64 1 (n : Int) - 1)) % 4294967296 = ((2 ^ n - 1 : Nat) : Int) := by
  have h32 := pow_le32 hn
  have h0 := Nat.two_pow_pos n
  rw [show shl .u64 1 (n : Int) = _ from shl_u64 1 n, Nat.one_mul]
  generalize 2 ^ n = P at *
  rw [Nat.mod_eq_of_lt (by omega), u64_wrap]
  omega
theorem width_f (f : Int) : wrap64 ((wrap64 (1 + (fe f : Int))) + (fm f : Int)) = ((fe f + fm f + 1 : Nat) : Int) := by
  obtain ⟨b1, b2, b3, b4, b5⟩ := fbounds f
  rw [w64_id (1 + (fe f : Int)) (by omega) (by omega), w64_id _ (by omega) (by omega)]; omega
theorem ref_mask_f (f : Int) : annealref1_Mask.f f = some (maskN f : Int) := by
  unfold annealref1_Mask.f
  have h := fbounds f
  rw [ref_widths_f, Option.bind_some]
  dsimp only
  rw [width_f, mask_lit _ (by omega)]
  exact if_pos (Int.natCast_nonneg _)
theorem and_mask (f : Int) (v : Nat) (hv : v < 4294967296) : Go.bits .and .u32 (v : Int) (maskN f : Int) = (lowN f v : Int) := by
  unfold maskN lowN
  have h := fbounds f
  have h32 := pow_le32 (show fe f + fm f + 1 ≤ 32 by omega)
  generalize fe f + fm f + 1 = n at *
  have h0 := Nat.two_pow_pos n
  rw [and_u32 _ _ hv (by omega), Nat.and_two_pow_sub_one_eq_mod]
theorem top_bit (f : Int) (v : Nat) : ((((lowN f v / 2 ^ (fe f + fm f) : Nat) : Int) == 1) : Bool) = negN f (lowN f v) := by
  rw [show (1 : Int) = ((1 : Nat) : Int) from rfl, beq_nn]
  unfold negN
  have : lowN f v / 2 ^ (fe f + fm f) < 2 := by rw [Nat.div_lt_iff_lt_mul (Nat.two_pow_pos _), Nat.mul_comm, ← Nat.pow_succ]; exact low_lt f v
  rw [Nat.mod_eq_of_lt this]
theorem small_w64 (a n : Nat) (hn : n ≤ 31) : wrap64 ((a % 2 ^ n : Nat) : Int) = ((a % 2 ^ n : Nat) : Int) := by
  have h1 := pow_le31 hn
  have h2 := Nat.mod_lt a (Nat.two_pow_pos n)
  generalize a % 2 ^ n = q at *
  exact w64_id _ (by omega) (by omega)
theorem small_u64 (a n : Nat) (hn : n ≤ 31) : IntKind.u64.wrap ((a % 2 ^ n : Nat) : Int) = ((a % 2 ^ n : Nat) : Int) := by
  have h1 := pow_le31 hn
  have h2 := Nat.mod_lt a (Nat.two_pow_pos n)
  generalize a % 2 ^ n = q at *
  exact u64_id _ (by omega)
theorem ref_parts_f (f : Int) (v : Nat) (hv : v < 4294967296) : annealref1_parts.f f (v : Int) = some (negN f (lowN f v), (expN f (lowN f v) : Int), (fracN f (lowN f v) : Int)) := by
  unfold annealref1_parts.f
  obtain ⟨b1, b2, b3, b4, b5⟩ := fbounds f
  have hl := low_32 f v
  rw [ref_widths_f, Option.bind_some, ref_mask_f, Option.bind_some]
  dsimp only
  rw [and_mask f v hv, show (fe f : Int) + (fm f : Int) = ((fe f + fm f : Nat) : Int) by omega, w64_id _ (by omega) (by omega), if_pos (by omega), if_pos (by omega), if_pos (by omega), shr_u32 _ _ hl, shr_u32 _ _ hl, mask_u32 _ _ (Nat.lt_of_le_of_lt (Nat.div_le_self _ _) hl) (by omega), mask_u32 _ _ hl (by omega), top_bit, small_w64 _ _ (by omega), small_u64 _ _ (by omega)]
  unfold expN fracN
  exact Eq.refl _
/-- The class of a number: 0 nought, 1 small, 2 normal, 3 infinite, 4 quiet, 5 signal. -/
def clsN (f : Int) (v : Nat) : Nat :=
  if expN f v = 0 then (if fracN f v = 0 then 0 else 1) else if expN f v < topN f then 2 else if fracN f v = 0 then 3 else if fracN f v / 2 ^ (fm f - 1) = 1 then 4 else 5
theorem ref_class_ev (f : Int) (v : Nat) (hv : v < 4294967296) : Ev (fun k => annealref1_Class.f k f (v : Int)) (clsN f (lowN f v) : Int) := by
  obtain ⟨b1, b2, b3, b4, b5⟩ := fbounds f
  have h31 := pow_le31 (show fe f ≤ 31 by omega)
  have h0 := Nat.two_pow_pos (fe f)
  have hfr := frac_lt f (lowN f v)
  have h31' := pow_le31 (show fm f ≤ 31 by omega)
  refine ⟨1, fun k hk => ?_⟩
  obtain ⟨k, rfl⟩ : ∃ j, k = j + 1 := ⟨k - 1, by omega⟩
  unfold annealref1_Class.f clsN
  rw [ref_widths_f, ref_parts_f f v hv]
  simp only [Option.bind_some]
  generalize expN f (lowN f v) = e
  generalize fracN f (lowN f v) = m at *
  have ht : wrap64 (((2 ^ fe f : Nat) : Int) - 1) = (topN f : Int) := by rw [w64_id _ (by omega) (by omega)]; unfold topN; omega
  by_cases c : e = 0
  · subst c
    rw [if_pos (by rfl), annealref1_Class.j0, if_pos rfl]
    by_cases c2 : m = 0
    · subst c2; rfl
    · rw [if_neg (by simp; omega), if_pos (by rfl), if_neg c2]; rfl
  · rw [if_neg (by omega), annealref1_Class.j0, if_neg (by decide), if_neg (by omega), if_pos (by omega), one_shl_i64 _ (by omega), ht, if_neg c]
    by_cases c2 : e < topN f
    · rw [if_pos (by omega), if_pos c2]; rfl
    · rw [if_neg (by omega), if_neg c2]
      by_cases c3 : m = 0
      · rw [if_pos (by omega), if_pos c3]; rfl
      · rw [if_neg (by omega), if_neg c3, w64_id _ (by omega) (by omega), if_pos (by omega), show (fm f : Int) - 1 = ((fm f - 1 : Nat) : Int) by omega, shr_u64 _ _ (by omega)]
        by_cases c4 : m / 2 ^ (fm f - 1) = 1
        · rw [if_pos (by rw [c4]; rfl), if_pos c4]; rfl
        · rw [if_neg (by omega), if_neg c4]; rfl
theorem cls_finite (f : Int) (v : Nat) : clsN f v < 3 ↔ expN f v < topN f := by
  have := top_cases f
  unfold clsN
  split
  · split <;> omega
  · split
    · omega
    · split
      · omega
      · split <;> omega
/-- A finite number's whole number, the exponent of its lowest bit. -/
def wholeN (f : Int) (v : Nat) : Nat := if expN f v = 0 then fracN f v else fracN f v + 2 ^ fm f
def lowestN (f : Int) (v : Nat) : Int := leastN f - fm f + (expN f v - 1 : Nat)
theorem or_top (m n : Nat) (h : m < 2 ^ n) (hn : n ≤ 31) : Go.bits .or .u64 (m : Int) (shl .u64 1 (n : Int)) = ((m + 2 ^ n : Nat) : Int) := by
  have h31 := pow_le31 hn
  rw [show (1 : Int) = ((1 : Nat) : Int) from rfl, shl_u64, Nat.one_mul, Nat.mod_eq_of_lt (by omega), or_u64 _ _ (by omega) (by omega), Nat.or_comm, or_add _ _ n (by simp) h, Nat.add_comm]
end Go.Proofs.Ytlkjoibpfhjhcaa.Round

/- The reference's classes and order of any numbers: plain numbers. -/
namespace Go.Proofs.Ytlkjoibpfhjhcaa.Round
open Go.RowKit Go.Proofs.Ytlkjoibpfhjhcaa.P Go.Proofs.Ytlkjoibpfhjhcaa.Num Go.Proofs.Ytlkjoibpfhjhcaa.BitsF Go.Proofs.Ytlkjoibpfhjhcaa.Fmt Go.Proofs.YtlkjoibpfhjhcaaW.PrintWords Go.Proofs.YtlkjoibpfhjhcaaW.PrintLast Go.Proofs.YtlkjoibpfhjhcaaW.PrintMore

theorem mod_part (v a b c : Nat) (h : b + c ≤ a) : v % 2 ^ a / 2 ^ b % 2 ^ c = v / 2 ^ b % 2 ^ c := by
  apply Nat.eq_of_testBit_eq
  intro i
  rw [Nat.testBit_mod_two_pow, Nat.testBit_mod_two_pow, Nat.testBit_div_two_pow, Nat.testBit_div_two_pow, Nat.testBit_mod_two_pow]
  by_cases h1 : i < c
  · have : i + b < a := by omega
    simp [h1, this]
  · simp [h1]
theorem neg_low (f : Int) (v : Nat) : negN f (lowN f v) = negN f v := by
  unfold negN lowN
  have := mod_part v (fe f + fm f + 1) (fe f + fm f) 1 (Nat.le_refl _)
  rw [Nat.pow_one] at this
  rw [this]
theorem exp_low (f : Int) (v : Nat) : expN f (lowN f v) = expN f v := mod_part v (fe f + fm f + 1) (fm f) (fe f) (by omega)
def isNan (f : Int) (v : Nat) : Bool := decide (4 ≤ clsN f v)
def isLoud (f : Int) (v : Nat) : Bool := decide (clsN f v = 5)
theorem cls_le (f : Int) (v : Nat) : clsN f v ≤ 5 := by
  unfold clsN
  repeat' split
  all_goals omega
end Go.Proofs.Ytlkjoibpfhjhcaa.Round

/- The reference's finite numbers: their whole numbers and exponents. -/
namespace Go.Proofs.Ytlkjoibpfhjhcaa.Round
open Go.RowKit Go.Proofs.Ytlkjoibpfhjhcaa.P Go.Proofs.Ytlkjoibpfhjhcaa.Num Go.Proofs.Ytlkjoibpfhjhcaa.BitsF Go.Proofs.Ytlkjoibpfhjhcaa.Fmt Go.Proofs.YtlkjoibpfhjhcaaW.PrintWords Go.Proofs.YtlkjoibpfhjhcaaW.PrintLast Go.Proofs.YtlkjoibpfhjhcaaW.PrintMore

theorem ref_finite_ev (f : Int) (v : Nat) (hv : v < 4294967296) : Ev (fun k => annealref1_Finite.f k f (v : Int)) (decide (expN f (lowN f v) < topN f)) := by
  refine Ev.congr (fun k => by unfold annealref1_Finite.f; rfl) (Ev.bind (ref_class_ev f v hv) (Ev.congr (fun k => ?_) (Ev.now _)))
  congr 1
  apply decide_eq_decide.mpr
  rw [← cls_finite]; omega
end Go.Proofs.Ytlkjoibpfhjhcaa.Round

-- Printed by a program of this session's out of Lean's print of the translation; Lean checks it.
namespace Go.Proofs.Ytlkjoibpfhjhcaa.P
open Go.RowKit Go.Proofs.YtlkjoibpfhjhcaaW.PrintWords Go.Proofs.YtlkjoibpfhjhcaaW.PrintLast Go.Proofs.YtlkjoibpfhjhcaaW.PrintMore
attribute [local go_sem] max2_int min2_int max_two min_two max_three min_three max_four min_four   -- for this text's walks alone
set_option linter.unusedVariables false
set_option linter.unusedSimpArgs false

attribute [local go_sem high] eqA27
/-! ### anneallaw4_SumNoughts: function 5 -/
/-! ### format_IsZero: function 77 -/
/-! ### prod_torn: function 47 -/
/-! ### prod_product: function 50 -/
end Go.Proofs.Ytlkjoibpfhjhcaa.P

-- Printed by a program of this session's out of Lean's print of the translation; Lean checks it.
namespace Go.Proofs.Ytlkjoibpfhjhcaa.P
open Go.RowKit Go.Proofs.YtlkjoibpfhjhcaaW.PrintWords Go.Proofs.YtlkjoibpfhjhcaaW.PrintLast Go.Proofs.YtlkjoibpfhjhcaaW.PrintMore
attribute [local go_sem] max2_int min2_int max_two min_two max_three min_three max_four min_four   -- for this text's walks alone
set_option linter.unusedVariables false
set_option linter.unusedSimpArgs false

/-! ### prod_Mul: function 23 -/
end Go.Proofs.Ytlkjoibpfhjhcaa.P

-- Printed by a program of this session's out of Lean's print of the translation; Lean checks it.
namespace Go.Proofs.Ytlkjoibpfhjhcaa.P
open Go.RowKit Go.Proofs.YtlkjoibpfhjhcaaW.PrintWords Go.Proofs.YtlkjoibpfhjhcaaW.PrintLast Go.Proofs.YtlkjoibpfhjhcaaW.PrintMore
attribute [local go_sem] max2_int min2_int max_two min_two max_three min_three max_four min_four   -- for this text's walks alone
set_option linter.unusedVariables false
set_option linter.unusedSimpArgs false

/-! ### prod_Fma: function 27 -/
end Go.Proofs.Ytlkjoibpfhjhcaa.P

-- Printed by a program of this session's out of Lean's print of the translation; Lean checks it.
namespace Go.Proofs.Ytlkjoibpfhjhcaa.P
open Go.RowKit Go.Proofs.YtlkjoibpfhjhcaaW.PrintWords Go.Proofs.YtlkjoibpfhjhcaaW.PrintLast Go.Proofs.YtlkjoibpfhjhcaaW.PrintMore
attribute [local go_sem] max2_int min2_int max_two min_two max_three min_three max_four min_four   -- for this text's walks alone
set_option linter.unusedVariables false
set_option linter.unusedSimpArgs false

attribute [local go_sem high] eqA27
/-! ### anneallaw5_known: function 21 -/
/-! ### anneallaw5_form: function 22 -/
/-! ### annealref1_inf: function 52 -/
end Go.Proofs.Ytlkjoibpfhjhcaa.P

/- The program's parts of a number, its class, its whole number and exponent: as plain numbers; the reference's are the same. -/
namespace Go.Proofs.Ytlkjoibpfhjhcaa.Round
open Go.RowKit Go.Proofs.Ytlkjoibpfhjhcaa.P Go.Proofs.Ytlkjoibpfhjhcaa.Num Go.Proofs.Ytlkjoibpfhjhcaa.BitsF Go.Proofs.Ytlkjoibpfhjhcaa.Fmt Go.Proofs.YtlkjoibpfhjhcaaW.PrintWords Go.Proofs.YtlkjoibpfhjhcaaW.PrintLast Go.Proofs.YtlkjoibpfhjhcaaW.PrintMore

theorem sum_w (f : Int) : IntKind.u64.wrap (wrap64 ((fe f : Int) + (fm f : Int))) = ((fe f + fm f : Nat) : Int) := by
  have h := fbounds f
  rw [show (fe f : Int) + (fm f : Int) = ((fe f + fm f : Nat) : Int) by omega, wu _ (by omega)]
theorem parts_f (f : Int) (v : Nat) (hv : v < 4294967296) : format_Parts.f f (v : Int) = some (negN f v, (expN f v : Int), (fracN f v : Int)) := by
  unfold format_Parts.f
  have h := fbounds f
  have hd : v / 2 ^ (fe f + fm f) < 4294967296 := Nat.lt_of_le_of_lt (Nat.div_le_self _ _) hv
  have hd' : v / 2 ^ fm f < 4294967296 := Nat.lt_of_le_of_lt (Nat.div_le_self _ _) hv
  rw [widths_f, Option.bind_some]
  dsimp only
  rw [sum_w, u64_id (fm f) (by omega), u64_id (fe f) (by omega), if_pos (Int.natCast_nonneg _), if_pos (Int.natCast_nonneg _), if_pos (Int.natCast_nonneg _), shr_u32 _ _ hv, shr_u32 _ _ hv, and1_u32 _ hd, mask_u32 _ _ hd' (by omega), mask_u32 _ _ hv (by omega), small_w64 _ _ (by omega)]
  rw [show (1 : Int) = ((1 : Nat) : Int) from rfl, beq_nn]
  unfold negN expN fracN
  exact Eq.refl _
theorem class_j0 (k : Nat) (f : Int) (e m : Nat) (he : e ≤ topN f) (hm : m < 2 ^ fm f) (hz : ¬ (e = 0 ∧ m = 0)) :
    format_Class.j0 (k + 1) f (fm f : Int) (e : Int) (m : Int) false = some (((if e = 0 then (if m = 0 then 0 else 1) else if e < topN f then 2 else if m = 0 then 3 else if m / 2 ^ (fm f - 1) = 1 then 4 else 5 : Nat)) : Int) := by
  have h := fbounds f
  have h31 := pow_le31 (show fm f ≤ 31 by omega)
  rw [format_Class.j0, if_neg (by decide)]
  by_cases c : e = 0
  · subst c
    rw [if_pos (by rfl), if_pos rfl, if_neg (fun h => hz ⟨rfl, h⟩)]; rfl
  · rw [if_neg (by omega), if_neg c, top_f, Option.bind_some]
    by_cases c2 : e < topN f
    · rw [if_pos (by omega), if_pos c2]; rfl
    · rw [if_neg (by omega), if_neg c2]
      by_cases c3 : m = 0
      · rw [if_pos (by omega), if_pos c3]; rfl
      · rw [if_neg (by omega), if_neg c3, show (fm f : Int) - 1 = ((fm f - 1 : Nat) : Int) by omega, wu _ (by omega), if_pos (Int.natCast_nonneg _), shr_u32 _ _ (by omega)]
        by_cases c4 : m / 2 ^ (fm f - 1) = 1
        · rw [if_pos (by rw [c4]; rfl), if_pos c4]; rfl
        · rw [if_neg (by omega), if_neg c4]; rfl
theorem class_ev (f : Int) (v : Nat) (hv : v < 4294967296) : Ev (fun k => format_Class.f k f (v : Int)) (clsN f v : Int) := by
  have he := exp_le f v
  have hm := frac_lt f v
  refine ⟨1, fun k hk => ?_⟩
  obtain ⟨k, rfl⟩ : ∃ j, k = j + 1 := ⟨k - 1, by omega⟩
  show format_Class.f (k + 1) f (v : Int) = _
  unfold format_Class.f clsN
  rw [widths_f, Option.bind_some, parts_f f v hv, Option.bind_some]
  dsimp only
  generalize expN f v = e at *
  generalize fracN f v = m at *
  by_cases c : e = 0 ∧ m = 0
  · obtain ⟨rfl, rfl⟩ := c
    rw [if_pos (by rfl), format_Class.j0, if_pos (by rfl), if_pos rfl, if_pos rfl]; rfl
  · by_cases c2 : e = 0
    · have e2 : (((m : Int) == 0) : Bool) = false := by simp; omega
      rw [if_pos (by omega), e2, class_j0 k f e m he hm c]
    · rw [if_neg (by omega), class_j0 k f e m he hm c]
theorem neg_f (f : Int) (v : Nat) (hv : v < 4294967296) : format_Neg.f f (v : Int) = some (negN f v) := by
  unfold format_Neg.f; rw [parts_f f v hv]; rfl
/-- The plain one that is no number. -/
def nanN (f : Int) : Nat := topN f * 2 ^ fm f + 2 ^ (fm f - 1)
theorem half_frac (f : Int) : 2 ^ (fm f - 1) < 2 ^ fm f := by
  have h := fbounds f
  exact Nat.pow_lt_pow_right (by decide) (by omega)
theorem nan_f (f : Int) : format_Nan.f f = some (nanN f : Int) := by
  unfold format_Nan.f
  have h := fbounds f
  rw [widths_f, Option.bind_some, top_f, Option.bind_some]
  dsimp only
  rw [show (fm f : Int) - 1 = ((fm f - 1 : Nat) : Int) by omega, wu _ (by omega), if_pos (Int.natCast_nonneg _), one_shl _ (by omega), join_f f false _ _ (Nat.le_refl _) (half_frac f), Option.bind_some]
  unfold joinN nanN
  simp [signN]
theorem bad_f (f : Int) : sum_Bad.f f = some ((nanN f : Int), true, false, false, false, false) := by
  unfold sum_Bad.f; rw [nan_f]; rfl
theorem ref_nan_f (f : Int) : annealref1_Nan.f f = some (nanN f : Int) := by
  unfold annealref1_Nan.f
  have h := fbounds f
  obtain ⟨hi, _⟩ := inf_lt f false
  have hh := half_frac f
  have h31 := pow_le31 (show fm f ≤ 31 by omega)
  rw [ref_widths_f, Option.bind_some, ref_inf_f, Option.bind_some]
  dsimp only
  rw [show (fm f : Int) - 1 = ((fm f - 1 : Nat) : Int) by omega, w64_id _ (by omega) (by omega), if_pos (Int.natCast_nonneg _), one_shl _ (by omega), or_u32 _ _ hi (by omega)]
  unfold infN nanN
  rw [show signN f false = 0 from rfl, Nat.add_zero, or_add _ _ (fm f) (Nat.mul_mod_left ..) hh]
theorem unpack_f (f : Int) (v : Nat) (hv : v < 4294967296) (h : expN f v < topN f) : format_Unpack.f f (v : Int) = some (negN f v, lowestN f v, (wholeN f v : Int)) := by
  unfold format_Unpack.f lowestN wholeN
  obtain ⟨b1, b2, b3, b4, b5⟩ := fbounds f
  have hm := frac_lt f v
  have h31 := pow_le31 (show fm f ≤ 31 by omega)
  have hl := least_cases f
  have ht := top_cases f
  rw [widths_f, Option.bind_some, parts_f f v hv, Option.bind_some]
  dsimp only
  generalize expN f v = e at *
  generalize fracN f v = m at *
  by_cases c : e = 0
  · subst c
    rw [if_pos (by rfl), least_f, Option.bind_some, if_pos rfl, w64_id (leastN f - fm f) (by omega) (by omega), u64_id m (by omega)]
    simp
  · rw [if_neg (by omega), top_f, Option.bind_some, if_neg (by omega), least_f, Option.bind_some, if_neg c, u64_id (fm f) (by omega), if_pos (Int.natCast_nonneg _), u64_id m (by omega), or_top m _ hm (by omega), w64_id (leastN f - fm f) (by omega) (by omega), w64_id (leastN f - fm f + e) (by omega) (by omega), w64_id _ (by omega) (by omega), show leastN f - (fm f : Int) + (e : Int) - 1 = leastN f - fm f + ((e - 1 : Nat) : Int) by omega]
theorem of_f (f : Int) (v : Nat) (hv : v < 4294967296) (h : expN f v < topN f) : sum_Of.f f (v : Int) = some (negN f v, lowestN f v, (wholeN f v : Int), false) := by
  unfold sum_Of.f; rw [unpack_f f v hv h]; rfl

theorem rfinite_ev (f : Int) (v : Nat) (hv : v < 4294967296) : Ev (fun k => annealref1_Finite.f k f (v : Int)) (decide (expN f v < topN f)) := by
  have := ref_finite_ev f v hv; rw [exp_low] at this; exact this
end Go.Proofs.Ytlkjoibpfhjhcaa.Round

/- What the program's rounding computes, as plain numbers. -/
namespace Go.Proofs.Ytlkjoibpfhjhcaa.Round
open Go.RowKit Go.Proofs.Ytlkjoibpfhjhcaa.P Go.Proofs.Ytlkjoibpfhjhcaa.Num Go.Proofs.Ytlkjoibpfhjhcaa.BitsF Go.Proofs.Ytlkjoibpfhjhcaa.Fmt Go.Proofs.YtlkjoibpfhjhcaaW.PrintWords Go.Proofs.YtlkjoibpfhjhcaaW.PrintLast Go.Proofs.YtlkjoibpfhjhcaaW.PrintMore

/-- Whole units of 2^d of a number times 1 (d below nought: more of them). -/
def quoN (s : Nat) (d : Int) : Nat := if d ≤ 0 then s * 2 ^ (-d).toNat else s / 2 ^ d.toNat
/-- What is left: 0 nothing, 1 less than a half, 2 a half, 3 more. -/
def leftN (s : Nat) (d : Int) (more : Bool) : Nat :=
  if d ≤ 0 ∨ s % 2 ^ d.toNat = 0 then (if more then 1 else 0)
  else if s / 2 ^ (d.toNat - 1) % 2 = 0 then 1 else if s % 2 ^ (d.toNat - 1) ≠ 0 ∨ more = true then 3 else 2
/-- Is the unit above taken? -/
def upN (mode : Int) (neg : Bool) (q left : Nat) : Bool :=
  if mode = 1 then false else if mode = 2 then (!neg && decide (left ≠ 0)) else if mode = 3 then (neg && decide (left ≠ 0))
  else if mode = 4 then decide (2 ≤ left) else (decide (left = 3) || (decide (left = 2) && decide (q % 2 = 1)))
/-- How many binades above the least normal one. -/
def riseN (f : Int) (x : Int) (s : Nat) : Nat := if s = 0 then 0 else (x + lenN s - 1 - leastN f).toNat
/-- The exponent of the unit. -/
def unitN (f : Int) (x : Int) (s : Nat) : Int := leastN f - fm f + riseN f x s
/-- The rounded number's bits, without its sign, as if there were exponents without end. -/
def keyN (f mode : Int) (neg : Bool) (x : Int) (s : Nat) (more : Bool) : Nat :=
  riseN f x s * 2 ^ fm f + quoN s (unitN f x s - x) + (if upN mode neg (quoN s (unitN f x s - x)) (leftN s (unitN f x s - x) more) then 1 else 0)
def overN (f : Int) (k : Nat) : Bool := decide (topN f * 2 ^ fm f ≤ k)
/-- Beyond the greatest: is it infinite? -/
def endless (mode : Int) (neg : Bool) : Bool := if mode = 1 then false else if mode = 2 then !neg else if mode = 3 then neg else true
def inexN (f : Int) (x : Int) (s : Nat) (more : Bool) : Bool := decide (leftN s (unitN f x s - x) more ≠ 0)
def underN (f : Int) (x : Int) (s : Nat) (more : Bool) : Bool := inexN f x s more && (decide (s = 0) || decide (x + lenN s - 1 < leastN f))
/-- The rounded number. -/
def packN (f mode : Int) (neg : Bool) (x : Int) (s : Nat) (more : Bool) : Nat :=
  (if overN f (keyN f mode neg x s more) then (if endless mode neg then topN f * 2 ^ fm f else topN f * 2 ^ fm f - 1) else keyN f mode neg x s more) + signN f neg
/-- What is told beside it: Over, Under, Inexact. -/
def excN (f mode : Int) (neg : Bool) (x : Int) (s : Nat) (more : Bool) : Bool × Bool × Bool :=
  if overN f (keyN f mode neg x s more) then (true, false, true) else (false, underN f x s more, inexN f x s more)
def clampE (x : Int) : Int := mn (mx x (-10000)) 10000
theorem clampE_bounds (x : Int) : -10000 ≤ clampE x ∧ clampE x ≤ 10000 := by
  unfold clampE mn mx; split <;> split <;> omega
theorem clampE_id (x : Int) (h : -10000 ≤ x) (h' : x ≤ 10000) : clampE x = x := by
  unfold clampE mn mx; split <;> split <;> omega

theorem unit_f (k : Nat) (f x : Int) (s : Nat) (hs : s < 18446744073709551616) (h1 : -10000 ≤ x) (h2 : x ≤ 10000) : round_Unit.f (k + 1) f x (s : Int) = some (unitN f x s) := by
  unfold round_Unit.f unitN riseN
  obtain ⟨b1, b2, b3, b4, b5⟩ := fbounds f
  have hl := least_cases f
  have hn := lenN_small s hs
  simp only [widths_f, least_f, Option.bind_some]
  by_cases c : s = 0
  · subst c
    rw [if_neg (by decide), if_pos rfl, w64_id _ (by omega) (by omega)]; simp
  · rw [if_pos (by omega), if_neg c, len_f k s hs]
    simp only [Option.bind_some]
    rw [w64_id (x + _) (by omega) (by omega), w64_id (x + _ - 1) (by omega) (by omega)]
    unfold mx
    split
    · rw [w64_id _ (by omega) (by omega)]; congr 1; omega
    · rw [w64_id _ (by omega) (by omega)]; congr 1; omega
theorem quo_lt (s : Nat) (d : Int) (h : d ≤ 0) (h' : s * 2 ^ (-d).toNat < 18446744073709551616) : s * 2 ^ (-d).toNat % 18446744073709551616 = quoN s d := by
  unfold quoN; rw [if_pos h, Nat.mod_eq_of_lt h']
theorem left_le (s : Nat) (d : Int) (more : Bool) : leftN s d more ≤ 3 := by
  unfold leftN; split
  · split <;> omega
  · split
    · omega
    · split <;> omega
theorem shiftN_fst (v : Nat) (n : Int) : (shiftN v n).1 = if 0 ≤ n then v / 2 ^ n.toNat else v * 2 ^ (-n).toNat % 18446744073709551616 := by
  unfold shiftN; split <;> rfl
theorem left_none {s : Nat} {d : Int} (more : Bool) (h : d ≤ 0 ∨ s % 2 ^ d.toNat = 0) : leftN s d more = if more then 1 else 0 := by
  unfold leftN; rw [if_pos h]
theorem left_some {s : Nat} {d : Int} (more : Bool) (h : ¬ d ≤ 0) (h' : ¬ s % 2 ^ d.toNat = 0) :
    leftN s d more = if s / 2 ^ (d.toNat - 1) % 2 = 0 then 1 else if s % 2 ^ (d.toNat - 1) ≠ 0 ∨ more = true then 3 else 2 := by
  unfold leftN; rw [if_neg (not_or.mpr ⟨h, h'⟩)]
theorem units_f (k : Nat) (s : Nat) (hs : s < 18446744073709551616) (d : Int) (h1 : -100000 ≤ d) (h2 : d ≤ 100000) (more : Bool) (hq : d ≤ 0 → s * 2 ^ (-d).toNat < 18446744073709551616) :
    round_Units.f (k + 1) (s : Int) d more = some ((quoN s d : Int), (leftN s d more : Int)) := by
  unfold round_Units.f
  by_cases c : d ≤ 0
  · rw [if_pos c, shift_f s hs d (by omega) (by omega)]
    have e : (shiftN s d).1 = quoN s d := by
      rw [shiftN_fst]
      by_cases c0 : 0 ≤ d
      · obtain rfl : d = 0 := by omega
        unfold quoN; simp
      · rw [if_neg c0]; exact quo_lt s d c (hq c)
    simp only [Option.bind_some, e]
    rw [left_none more (.inl c)]
    cases more <;> rfl
  · rw [if_neg c]
    obtain ⟨m, rfl⟩ := nat_of (show 0 ≤ d by omega)
    have hm : (m : Int) - 1 = ((m - 1 : Nat) : Int) := by omega
    rw [shift_f s hs _ (by omega) (by omega), w64_id _ (by omega) (by omega), hm, shift_f s hs _ (by omega) (by omega)]
    simp only [Option.bind_some, shiftN_right]
    have hqe : quoN s (m : Int) = s / 2 ^ m := by unfold quoN; rw [if_neg c, Int.toNat_natCast]
    have hd : s / 2 ^ (m - 1) < 18446744073709551616 := Nat.lt_of_le_of_lt (Nat.div_le_self _ _) hs
    rw [hqe]
    by_cases z : s % 2 ^ m = 0
    · have hl : leftN s (m : Int) more = if more then 1 else 0 := left_none more (.inr (by rw [Int.toNat_natCast]; exact z))
      rw [hl, if_neg (by simp [z])]
      cases more <;> rfl
    · have hl : leftN s (m : Int) more = _ := left_some more c (by rw [Int.toNat_natCast]; exact z)
      rw [Int.toNat_natCast] at hl
      rw [hl, if_pos (by simp [z]), and1_u64 _ hd]
      by_cases y : s / 2 ^ (m - 1) % 2 = 0
      · simp only [y, if_true, Int.natCast_zero]; rfl
      · simp only [y, if_false]
        rw [if_neg (by omega)]
        by_cases w : s % 2 ^ (m - 1) = 0
        · simp only [w, ne_eq, not_true_eq_false, decide_false, Bool.false_eq_true, if_false, false_or]
          cases more <;> rfl
        · simp only [w, ne_eq, not_false_eq_true, decide_true, if_true, true_or]; rfl
theorem up_f (mode : Int) (neg : Bool) (q left : Nat) (hq : q < 18446744073709551616) : round_Up.f mode neg (q : Int) (left : Int) = some (upN mode neg q left) := by
  unfold round_Up.f upN
  have eb : (((left : Int) != 0) : Bool) = decide (left ≠ 0) := by rw [show (0 : Int) = ((0 : Nat) : Int) from rfl, bne_cast]
  have e1 : ((Go.bits .and .u64 (q : Int) 1 == 1) : Bool) = decide (q % 2 = 1) := by
    rw [and1_u64 q hq, show (1 : Int) = ((1 : Nat) : Int) from rfl]
    by_cases h : q % 2 = 1
    · rw [h]; rfl
    · rw [decide_eq_false h, beq_eq_false_iff_ne]; omega
  rw [eb, e1]
  by_cases m1 : mode = 1
  · rw [if_pos m1, if_pos m1]
  · rw [if_neg m1, if_neg m1]
    by_cases m2 : mode = 2
    · rw [if_pos m2, if_pos m2]; cases neg <;> simp
    · rw [if_neg m2, if_neg m2]
      by_cases m3 : mode = 3
      · rw [if_pos m3, if_pos m3]; cases neg <;> simp
      · rw [if_neg m3, if_neg m3]
        by_cases m4 : mode = 4
        · rw [if_pos m4, if_pos m4]; congr 1; apply decide_eq_decide.mpr; omega
        · rw [if_neg m4, if_neg m4]
          by_cases l3 : left = 3
          · subst l3; rfl
          · rw [if_neg (by omega), decide_eq_false l3, Bool.false_or]
            by_cases l2 : left = 2
            · subst l2; simp
            · rw [if_neg (by omega), decide_eq_false l2, Bool.false_and]
theorem beyond_f (f mode : Int) (neg : Bool) : round_beyond.f f mode neg = some (((if endless mode neg then infN f neg else greatN f neg : Nat) : Int), false, false, true, false, true) := by
  unfold round_beyond.f endless
  simp only [greatest_f, inf_f, Option.bind_some]
  by_cases m1 : mode = 1
  · rw [if_pos m1, if_pos m1]; rfl
  · rw [if_neg m1, if_neg m1]
    by_cases m2 : mode = 2
    · rw [if_pos m2, if_pos m2]; cases neg <;> rfl
    · rw [if_neg m2, if_neg m2]
      by_cases m3 : mode = 3
      · rw [if_pos m3, if_pos m3]; cases neg <;> rfl
      · rw [if_neg m3, if_neg m3]; rfl

/-- Below the least normal number there are fewer units than a normal number has; above, as many. -/
theorem quo_bounds (f x : Int) (s : Nat) : quoN s (unitN f x s - x) < 2 ^ (fm f + 1) ∧ (riseN f x s ≠ 0 → 2 ^ fm f ≤ quoN s (unitN f x s - x)) := by
  obtain ⟨b1, b2, b3, b4, b5⟩ := fbounds f
  by_cases c : s = 0
  · subst c
    have : riseN f x 0 = 0 := by unfold riseN; rw [if_pos rfl]
    refine ⟨?_, fun h => absurd this h⟩
    have h0 := Nat.two_pow_pos (fm f + 1)
    unfold quoN; split <;> simp [h0]
  · have hlt := lenN_lt s
    have hle := lenN_le s c
    have hpos := lenN_pos s c
    have hr : riseN f x s = (x + lenN s - 1 - leastN f).toNat := by unfold riseN; rw [if_neg c]
    unfold unitN quoN
    generalize lenN s = L at *
    by_cases d : leastN f - (fm f : Int) + (riseN f x s : Int) - x ≤ 0
    · rw [if_pos d]
      obtain ⟨j, hj⟩ := nat_of (show 0 ≤ -(leastN f - (fm f : Int) + (riseN f x s : Int) - x) by omega)
      rw [hj, Int.toNat_natCast]
      have hjL : L + j ≤ fm f + 1 := by omega
      constructor
      · calc s * 2 ^ j < 2 ^ L * 2 ^ j := Nat.mul_lt_mul_of_pos_right hlt (Nat.two_pow_pos _)
          _ = 2 ^ (L + j) := (Nat.pow_add ..).symm
          _ ≤ 2 ^ (fm f + 1) := Nat.pow_le_pow_right (by decide) hjL
      · intro h
        calc 2 ^ fm f = 2 ^ (L - 1) * 2 ^ j := by rw [← Nat.pow_add]; congr 1; omega
          _ ≤ s * 2 ^ j := Nat.mul_le_mul_right _ hle
    · rw [if_neg d]
      obtain ⟨j, hj⟩ := nat_of (show 0 ≤ leastN f - (fm f : Int) + (riseN f x s : Int) - x by omega)
      rw [hj, Int.toNat_natCast]
      constructor
      · rw [Nat.div_lt_iff_lt_mul (Nat.two_pow_pos _), ← Nat.pow_add]
        exact Nat.lt_of_lt_of_le hlt (Nat.pow_le_pow_right (by decide) (by omega))
      · intro h
        rw [Nat.le_div_iff_mul_le (Nat.two_pow_pos _), ← Nat.pow_add]
        exact Nat.le_trans (Nat.pow_le_pow_right (by decide) (by omega)) hle
theorem unit_bounds (f x : Int) (s : Nat) (hs : s < 18446744073709551616) (h1 : -10000 ≤ x) (h2 : x ≤ 10000) : -200 ≤ unitN f x s ∧ unitN f x s ≤ 10100 ∧ riseN f x s ≤ 10200 := by
  obtain ⟨b1, b2, b3, b4, b5⟩ := fbounds f
  have hl := least_cases f
  have hn := lenN_small s hs
  unfold unitN
  have hr : riseN f x s = 0 ∨ (riseN f x s : Int) = x + lenN s - 1 - leastN f := by
    unfold riseN; split
    · left; rfl
    · omega
  omega
theorem exc_cast (l : Nat) : (((l : Int) != 0) : Bool) = decide (l ≠ 0) := by rw [show (0 : Int) = ((0 : Nat) : Int) from rfl, bne_cast]

/-- The last steps: what is made of units, of how many a normal number has. -/
theorem pack_j3 (k : Nat) (f mode : Int) (neg : Bool) (x : Int) (s q l a : Nat) (hs : s < 18446744073709551616) (hq : q < 18446744073709551616) (h1 : -10000 ≤ x) (h2 : x ≤ 10000) (K : Nat)
    (hK : K = a * 2 ^ fm f + q % 2 ^ fm f) :
    round_Pack.j3 (k + 2) f mode neg x (s : Int) (fm f : Int) (q : Int) (l : Int) (a : Int) = some
      ((((if overN f K then (if endless mode neg then topN f * 2 ^ fm f else topN f * 2 ^ fm f - 1) else K) + signN f neg : Nat) : Int), false, false,
        overN f K, !overN f K && (decide (l ≠ 0) && (decide (s = 0) || decide (x + lenN s - 1 < leastN f))), overN f K || decide (l ≠ 0)) := by
  obtain ⟨b1, b2, b3, b4, b5⟩ := fbounds f
  have hp := Nat.two_pow_pos (fm f)
  have hm : q % 2 ^ fm f < 2 ^ fm f := Nat.mod_lt _ hp
  have h31 := pow_le31 (show fm f ≤ 31 by omega)
  have ho : (a : Int) ≥ (topN f : Int) ↔ overN f K = true := by
    unfold overN
    rw [decide_eq_true_iff, hK]
    constructor
    · intro h
      have : topN f * 2 ^ fm f ≤ a * 2 ^ fm f := Nat.mul_le_mul_right _ (by omega)
      omega
    · intro h
      rcases Nat.lt_or_ge a (topN f) with c | c
      · have : (a + 1) * 2 ^ fm f ≤ topN f * 2 ^ fm f := Nat.mul_le_mul_right _ c
        rw [Nat.add_mul, Nat.one_mul] at this; omega
      · omega
  rw [round_Pack.j3, top_f]
  simp only [Option.bind_some]
  by_cases c : (a : Int) ≥ (topN f : Int)
  · rw [if_pos c, beyond_f, ho.mp c]
    simp only [Option.bind_some, if_true, Bool.not_true, Bool.false_and, Bool.true_or]
    congr 2
    unfold infN greatN
    split <;> rfl
  · rw [if_neg c]
    have co : overN f K = false := by simpa using fun h => c (ho.mpr h)
    have ec : bits_Cut.f (q : Int) (fm f : Int) = some ((q % 2 ^ fm f : Nat) : Int) := by
      rw [cut_f q hq _ (by omega)]; unfold cutN; rw [if_neg (by omega), Int.toNat_natCast]
    have ej : format_Join.f f neg (a : Int) (((q % 2 ^ fm f : Nat) : Int) % 4294967296) = some ((K + signN f neg : Nat) : Int) := by
      rw [show ((q % 2 ^ fm f : Nat) : Int) % 4294967296 = ((q % 2 ^ fm f : Nat) : Int) by omega, join_f f neg _ _ (by omega) hm, hK]; rfl
    rw [co, ec]
    simp only [Option.bind_some, ej, Bool.false_eq_true, if_false, Bool.not_false, Bool.true_and, Bool.false_or, exc_cast]
    by_cases l0 : l = 0
    · subst l0; simp
    · rw [if_neg (by omega)]
      by_cases s0 : s = 0
      · subst s0; simp [l0]
      · have hn := lenN_small s hs
        rw [if_neg (by omega), len_f (k) s hs, least_f]
        simp only [Option.bind_some]
        rw [w64_id (x + _) (by omega) (by omega), w64_id _ (by omega) (by omega)]
        simp [l0, s0]
theorem pack_j1 (k : Nat) (f mode : Int) (neg : Bool) (x : Int) (s q l : Nat) (U : Nat) (hU : U ≤ 10200) (hs : s < 18446744073709551616) (hq : q ≤ 2 ^ (fm f + 1)) (hq' : U ≠ 0 → 2 ^ fm f ≤ q) (h1 : -10000 ≤ x) (h2 : x ≤ 10000) (K : Nat)
    (hK : K = U * 2 ^ fm f + q) :
    round_Pack.j1 (k + 4) f mode neg x (s : Int) (fm f : Int) (leastN f - fm f + U) (q : Int) (l : Int) = some
      ((((if overN f K then (if endless mode neg then topN f * 2 ^ fm f else topN f * 2 ^ fm f - 1) else K) + signN f neg : Nat) : Int), false, false,
        overN f K, !overN f K && (decide (l ≠ 0) && (decide (s = 0) || decide (x + lenN s - 1 < leastN f))), overN f K || decide (l ≠ 0)) := by
  obtain ⟨b1, b2, b3, b4, b5⟩ := fbounds f
  have hl := least_cases f
  have hp := Nat.two_pow_pos (fm f)
  have h31 := pow_le31 (show fm f + 1 ≤ 31 by omega)
  have hq64 : q < 18446744073709551616 := by omega
  have e1 : wrap64 ((fm f : Int) + 1) = ((fm f + 1 : Nat) : Int) := by rw [w64_id] <;> omega
  have hsucc : 2 ^ (fm f + 1) = 2 * 2 ^ fm f := by rw [Nat.pow_succ, Nat.mul_comm]
  rw [round_Pack.j1, e1, u64_id _ (by omega), if_pos (by omega), shr_u64 _ _ hq64]
  by_cases c : q = 2 ^ (fm f + 1)
  · have hd : q / 2 ^ (fm f + 1) = 1 := by rw [c, Nat.div_self (by omega)]
    rw [hd, if_neg (by decide), w64_id _ (by omega) (by omega), show (q : Int) / 2 = ((2 ^ fm f : Nat) : Int) by omega, round_Pack.j2, least_f]
    simp only [Option.bind_some]
    rw [u64_id _ (by omega), if_pos (by omega), shr_u64 _ _ (by omega), Nat.div_self hp, if_neg (by decide)]
    rw [show leastN f - (fm f : Int) + (U : Int) + 1 + (fm f : Int) = leastN f + (U : Int) + 1 by omega, w64_id (leastN f + (U : Int) + 1) (by omega) (by omega), w64_id (leastN f + (U : Int) + 1 - leastN f) (by omega) (by omega), w64_id _ (by omega) (by omega), show leastN f + (U : Int) + 1 - leastN f + 1 = ((U + 2 : Nat) : Int) by omega]
    exact pack_j3 k f mode neg x s _ l (U + 2) hs (by omega) h1 h2 K (by rw [hK, c, hsucc, Nat.mod_self, Nat.add_mul]; omega)
  · have hd : q / 2 ^ (fm f + 1) = 0 := Nat.div_eq_of_lt (by omega)
    rw [hd, if_pos (by decide), round_Pack.j2, least_f]
    simp only [Option.bind_some]
    rw [u64_id _ (by omega), if_pos (by omega), shr_u64 _ _ hq64]
    by_cases c2 : q < 2 ^ fm f
    · have hU0 : U = 0 := by
        rcases Nat.eq_zero_or_pos U with h | h
        · exact h
        · have := hq' (by omega); omega
      subst hU0
      rw [Nat.div_eq_of_lt c2, if_pos (by decide)]
      have h := pack_j3 k f mode neg x s q l 0 hs hq64 h1 h2 K (by rw [hK, Nat.mod_eq_of_lt c2])
      rw [show ((0 : Nat) : Int) = 0 from rfl] at h
      exact h
    · have hd1 : q / 2 ^ fm f = 1 := Nat.div_eq_of_lt_le (by omega) (by omega)
      rw [hd1, if_neg (by decide)]
      rw [show leastN f - (fm f : Int) + (U : Int) + (fm f : Int) = leastN f + (U : Int) by omega, w64_id (leastN f + (U : Int)) (by omega) (by omega), w64_id (leastN f + (U : Int) - leastN f) (by omega) (by omega), w64_id _ (by omega) (by omega), show leastN f + (U : Int) - leastN f + 1 = ((U + 1 : Nat) : Int) by omega]
      have hm1 : q % 2 ^ fm f = q - 2 ^ fm f := by
        have := Nat.div_add_mod q (2 ^ fm f)
        rw [hd1, Nat.mul_one] at this; omega
      exact pack_j3 k f mode neg x s q l (U + 1) hs hq64 h1 h2 K (by rw [hK, hm1, Nat.add_mul]; omega)
/-- The whole rounding, for every argument. -/
theorem pack_f (k : Nat) (f mode : Int) (neg : Bool) (x : Int) (s : Nat) (more : Bool) (hs : s < 18446744073709551616) :
    round_Pack.f (k + 5) f mode neg x (s : Int) more = some ((packN f mode neg (clampE x) s more : Int), false, false, excN f mode neg (clampE x) s more) := by
  unfold round_Pack.f
  have hc : mn (mx x (-10000)) 10000 = clampE x := rfl
  obtain ⟨h1, h2⟩ := clampE_bounds x
  rw [hc]
  generalize clampE x = x at *
  by_cases z : s = 0 ∧ more = false
  · obtain ⟨rfl, rfl⟩ := z
    rw [if_pos (by decide), round_Pack.j0]
    simp only [Bool.not_false, if_true]
    rw [zero_f]
    have hk : keyN f mode neg x 0 false = 0 := by
      unfold keyN
      have hr : riseN f x 0 = 0 := by unfold riseN; rw [if_pos rfl]
      have hq : quoN 0 (unitN f x 0 - x) = 0 := by unfold quoN; split <;> simp
      have hl : leftN 0 (unitN f x 0 - x) false = 0 := by rw [left_none _ (.inr (by simp))]; rfl
      rw [hr, hq, hl]
      have : upN mode neg 0 0 = false := by unfold upN; simp
      rw [this]; simp
    have hl : leftN 0 (unitN f x 0 - x) false = 0 := by rw [left_none _ (.inr (by simp))]; rfl
    have ho : overN f 0 = false := by
      unfold overN
      have := top_cases f
      have := Nat.two_pow_pos (fm f)
      rw [decide_eq_false_iff_not]
      have : 0 < topN f * 2 ^ fm f := Nat.mul_pos (by omega) (by omega)
      omega
    unfold packN excN underN inexN
    rw [hk, ho, hl]; simp
  · have hj : (if (s : Int) = 0 then round_Pack.j0 (k + 5) f mode neg x (s : Int) more (!more) else round_Pack.j0 (k + 5) f mode neg x (s : Int) more false) = round_Pack.j0 (k + 5) f mode neg x (s : Int) more false := by
      by_cases c : (s : Int) = 0
      · rw [if_pos c]
        cases more
        · exact absurd ⟨by omega, rfl⟩ z
        · rfl
      · rw [if_neg c]
    rw [hj, round_Pack.j0, if_neg (by decide), widths_f]
    obtain ⟨u1, u2, u3⟩ := unit_bounds f x s hs h1 h2
    obtain ⟨q1, q2⟩ := quo_bounds f x s
    obtain ⟨b1, b2, b3, b4, b5⟩ := fbounds f
    have h31 := pow_le31 (show fm f + 1 ≤ 31 by omega)
    have hll := left_le s (unitN f x s - x) more
    have hq64 : quoN s (unitN f x s - x) < 18446744073709551616 := by omega
    have hd : unitN f x s - x ≤ 0 → s * 2 ^ (-(unitN f x s - x)).toNat < 18446744073709551616 := by
      intro h; have := hq64; unfold quoN at this; rw [if_pos h] at this; exact this
    simp only [Option.bind_some]
    rw [unit_f _ f x s hs h1 h2]
    simp only [Option.bind_some]
    rw [w64_id _ (by omega) (by omega), units_f _ s hs _ (by omega) (by omega) more hd]
    simp only [Option.bind_some]
    rw [up_f _ _ _ _ hq64]
    simp only [Option.bind_some]
    have hun : unitN f x s = leastN f - fm f + (riseN f x s : Nat) := rfl
    have key : ∀ up : Bool, round_Pack.j1 (k + 4) f mode neg x (s : Int) (fm f : Int) (unitN f x s) ((quoN s (unitN f x s - x) + (if up then 1 else 0) : Nat) : Int) (leftN s (unitN f x s - x) more : Int) = _ :=
      fun up => pack_j1 k f mode neg x s _ _ (riseN f x s) u3 hs (by split <;> omega) (fun h => Nat.le_trans (q2 h) (Nat.le_add_right _ _)) h1 h2 _ rfl
    have res : ∀ up : Bool, up = upN mode neg (quoN s (unitN f x s - x)) (leftN s (unitN f x s - x) more) → round_Pack.j1 (k + 4) f mode neg x (s : Int) (fm f : Int) (unitN f x s) ((quoN s (unitN f x s - x) + (if up then 1 else 0) : Nat) : Int) (leftN s (unitN f x s - x) more : Int) = some ((packN f mode neg x s more : Int), false, false, excN f mode neg x s more) := by
      intro up hup
      rw [key up]
      subst hup
      unfold packN excN underN inexN keyN
      rw [← Nat.add_assoc]
      by_cases o : overN f (riseN f x s * 2 ^ fm f + quoN s (unitN f x s - x) + if upN mode neg (quoN s (unitN f x s - x)) (leftN s (unitN f x s - x) more) = true then 1 else 0) = true
      · rw [o]; simp
      · rw [Bool.not_eq_true] at o; rw [o]; simp
    by_cases hu : upN mode neg (quoN s (unitN f x s - x)) (leftN s (unitN f x s - x) more) = true
    · rw [if_pos hu]
      have h := res true hu.symm
      rw [if_pos rfl] at h
      rw [show ((quoN s (unitN f x s - x) : Nat) : Int) + 1 = ((quoN s (unitN f x s - x) + 1 : Nat) : Int) by omega, u64_id _ (by omega)]
      exact h
    · rw [if_neg hu]
      rw [Bool.not_eq_true] at hu
      have h := res false hu.symm
      rw [if_neg (by decide), Nat.add_zero] at h
      exact h
end Go.Proofs.Ytlkjoibpfhjhcaa.Round

/- What is a number already is rounded to it; a greater number isn't rounded to a lesser one: of the plain numbers that the rounding computes. -/
namespace Go.Proofs.Ytlkjoibpfhjhcaa.Round
open Go.RowKit Go.Proofs.Ytlkjoibpfhjhcaa.P Go.Proofs.Ytlkjoibpfhjhcaa.Num Go.Proofs.Ytlkjoibpfhjhcaa.BitsF Go.Proofs.Ytlkjoibpfhjhcaa.Fmt Go.Proofs.YtlkjoibpfhjhcaaW.PrintWords Go.Proofs.YtlkjoibpfhjhcaaW.PrintLast Go.Proofs.YtlkjoibpfhjhcaaW.PrintMore

theorem whole_lt (f : Int) (v : Nat) : wholeN f v < 2 ^ (fm f + 1) := by
  have hf := frac_lt f v
  have hs : 2 ^ (fm f + 1) = 2 * 2 ^ fm f := by rw [Nat.pow_succ, Nat.mul_comm]
  unfold wholeN; split <;> omega

/-! ### a greater number -/
end Go.Proofs.Ytlkjoibpfhjhcaa.Round

/- Which numbers are none, infinite, nought; bits of a format alone: the program's, as plain numbers. -/
namespace Go.Proofs.Ytlkjoibpfhjhcaa.Round
open Go.RowKit Go.Proofs.Ytlkjoibpfhjhcaa.P Go.Proofs.Ytlkjoibpfhjhcaa.Num Go.Proofs.Ytlkjoibpfhjhcaa.BitsF Go.Proofs.Ytlkjoibpfhjhcaa.Fmt Go.Proofs.YtlkjoibpfhjhcaaW.PrintWords Go.Proofs.YtlkjoibpfhjhcaaW.PrintLast Go.Proofs.YtlkjoibpfhjhcaaW.PrintMore

theorem pinf_ev (f : Int) (v : Nat) (hv : v < 4294967296) : Ev (fun k => format_IsInf.f k f (v : Int)) (decide (clsN f v = 3)) := by
  refine Ev.congr (fun k => by unfold format_IsInf.f; rfl) (Ev.bind (class_ev f v hv) (Ev.congr (fun k => ?_) (Ev.now _)))
  rw [show (3 : Int) = ((3 : Nat) : Int) from rfl, beq_nn]
theorem pmask_f (f : Int) : format_Mask.f f = some (maskN f : Int) := by
  unfold format_Mask.f maskN
  have h := fbounds f
  rw [widths_f, Option.bind_some]
  dsimp only
  rw [show (fe f : Int) + (fm f : Int) = ((fe f + fm f : Nat) : Int) by omega, w64_id ((fe f + fm f : Nat) : Int) (by omega) (by omega), show ((fe f + fm f : Nat) : Int) + 1 = ((fe f + fm f + 1 : Nat) : Int) by omega, wu _ (by omega), if_pos (Int.natCast_nonneg _)]
  have e := shl_u32 1 (fe f + fm f + 1)
  rw [Nat.one_mul] at e
  rw [show (1 : Int) = ((1 : Nat) : Int) from rfl, e]
  have h32 := pow_le32 (show fe f + fm f + 1 ≤ 32 by omega)
  have h0 := Nat.two_pow_pos (fe f + fm f + 1)
  generalize 2 ^ (fe f + fm f + 1) = P at *
  congr 1; omega
theorem pnans_step (f : Int) (L : List Int) (i v : Nat) (b c : Bool) (r : Int × Bool × Bool × Bool × Bool × Bool × Bool) (hi : i < L.length) (hn : L.length ≤ 100) (hv : v < 4294967296) (hr : rd L (i : Int) = (v : Int))
    (h : Ev (fun k => sum_Nans.l0 k f (b || isNan f v) L (L.length : Int) ((i + 1 : Nat) : Int) (c || isLoud f v) false false false false) r) : Ev (fun k => sum_Nans.l0 k f b L (L.length : Int) (i : Int) c false false false false) r := by
  have hw : wrap64 ((i : Int) + 1) = ((i + 1 : Nat) : Int) := by rw [w64_id _ (by omega) (by omega)]; omega
  refine Ev.step (fun k => by rw [sum_Nans.l0, if_pos (by omega), if_pos (Int.natCast_nonneg _), if_pos (by omega), hr, hw]) (Ev.bind (class_ev f v hv) (Ev.congr (fun k => ?_) h))
  have e5 : (((clsN f v : Nat) : Int) == 5) = isLoud f v := by rw [show (5 : Int) = ((5 : Nat) : Int) from rfl, beq_nn]; rfl
  have e4 : decide (((clsN f v : Nat) : Int) ≥ 4) = isNan f v := by unfold isNan; apply decide_eq_decide.mpr; omega
  rw [e5, e4]
  cases b <;> cases c <;> simp
theorem pnans_end (f : Int) (L : List Int) (b c : Bool) : Ev (fun k => sum_Nans.l0 k f b L (L.length : Int) (L.length : Int) c false false false false) ((nanN f : Int), c, false, false, false, false, b) :=
  Ev.step (fun k => by rw [sum_Nans.l0, if_neg (by omega), nan_f]; rfl) (Ev.now _)
theorem pnans2_ev (f : Int) (a b : Nat) (ha : a < 4294967296) (hb : b < 4294967296) : Ev (fun k => sum_Nans.f k f [(a : Int), (b : Int)]) ((nanN f : Int), isLoud f a || isLoud f b, false, false, false, false, isNan f a || isNan f b) := by
  refine Ev.congr (fun k => by unfold sum_Nans.f; rfl) (pnans_step f _ 0 a false false _ (by simp) (by simp) ha rfl (pnans_step f _ 1 b _ _ _ (by simp) (by simp) hb rfl ?_))
  rw [Bool.false_or, Bool.false_or]
  exact pnans_end f [(a : Int), (b : Int)] _ _
theorem lowest_near (f : Int) (v : Nat) : -200 ≤ lowestN f v ∧ lowestN f v ≤ 300 := by
  have := least_cases f; have := top_cases f; have := fbounds f; have := exp_le f v
  unfold lowestN; omega
theorem cls_exp (f : Int) (v : Nat) (h : clsN f v < 3) : expN f v < topN f := (cls_finite f v).mp h
end Go.Proofs.Ytlkjoibpfhjhcaa.Round

/- Sums to all bits that rounding asks for: plain numbers alone. -/
namespace Go.Proofs.Ytlkjoibpfhjhcaa.Round
open Go.RowKit Go.Proofs.Ytlkjoibpfhjhcaa.P Go.Proofs.Ytlkjoibpfhjhcaa.Num Go.Proofs.Ytlkjoibpfhjhcaa.BitsF Go.Proofs.Ytlkjoibpfhjhcaa.Fmt Go.Proofs.YtlkjoibpfhjhcaaW.PrintWords Go.Proofs.YtlkjoibpfhjhcaaW.PrintLast Go.Proofs.YtlkjoibpfhjhcaaW.PrintMore

/-- How many bits a whole number lacks of 62. -/
def gapN (s : Nat) : Nat := 62 - lenN s
/-- Two numbers of 62 bits, the greater first. -/
def meetN (na : Bool) (Ea : Int) (A : Nat) (nb : Bool) (Eb : Int) (B : Nat) : Bool × Int × Nat × Bool :=
  if na = nb then (na, Ea, A + B / 2 ^ (Ea - Eb).toNat, decide (B % 2 ^ (Ea - Eb).toNat ≠ 0))
  else (na, Ea, A - B / 2 ^ (Ea - Eb).toNat - (if B % 2 ^ (Ea - Eb).toNat ≠ 0 then 1 else 0), decide (B % 2 ^ (Ea - Eb).toNat ≠ 0))
def exactN (n1 : Bool) (e1 : Int) (s1 : Nat) (n2 : Bool) (e2 : Int) (s2 : Nat) : Bool × Int × Nat × Bool :=
  if s1 = 0 then (n2, e2, s2, false) else if s2 = 0 then (n1, e1, s1, false)
  else if e1 - (gapN s1 : Int) < e2 - (gapN s2 : Int) ∨ e1 - (gapN s1 : Int) = e2 - (gapN s2 : Int) ∧ s1 * 2 ^ gapN s1 < s2 * 2 ^ gapN s2 then meetN n2 (e2 - (gapN s2 : Int)) (s2 * 2 ^ gapN s2) n1 (e1 - (gapN s1 : Int)) (s1 * 2 ^ gapN s1)
  else meetN n1 (e1 - (gapN s1 : Int)) (s1 * 2 ^ gapN s1) n2 (e2 - (gapN s2 : Int)) (s2 * 2 ^ gapN s2)
theorem gap_bounds (s : Nat) (h : s ≠ 0) (h' : s < 4611686018427387904) : gapN s ≤ 61 ∧ lenN s + gapN s = 62 ∧ 2305843009213693952 ≤ s * 2 ^ gapN s ∧ s * 2 ^ gapN s < 4611686018427387904 := by
  have h1 := lenN_bound s 62 h'
  have h2 := lenN_pos s h
  have e : lenN s + gapN s = 62 := by unfold gapN; omega
  have hp := Nat.two_pow_pos (gapN s)
  have l1 := Nat.mul_le_mul_right (2 ^ gapN s) (lenN_le s h)
  have l2 := Nat.mul_lt_mul_of_pos_right (lenN_lt s) hp
  rw [← Nat.pow_add, show lenN s - 1 + gapN s = 61 by omega] at l1
  rw [← Nat.pow_add, e] at l2
  exact ⟨by omega, e, l1, l2⟩
/-- Two may be exchanged, but for the sign of a nought. -/
theorem exact_turn (n1 : Bool) (e1 : Int) (s1 : Nat) (n2 : Bool) (e2 : Int) (s2 : Nat) :
    exactN n1 e1 s1 n2 e2 s2 = exactN n2 e2 s2 n1 e1 s1 ∨ ((exactN n1 e1 s1 n2 e2 s2).2.2 = (0, false) ∧ (exactN n2 e2 s2 n1 e1 s1).2.2 = (0, false)) := by
  unfold exactN
  by_cases h1 : s1 = 0
  · rw [if_pos h1]
    by_cases h2 : s2 = 0
    · rw [if_pos h2]; right; rw [h1, h2]; exact ⟨rfl, rfl⟩
    · rw [if_neg h2, if_pos h1]; left; rfl
  · rw [if_neg h1]
    by_cases h2 : s2 = 0
    · rw [if_pos h2, if_pos h2]; left; rfl
    · rw [if_neg h2, if_neg h2, if_neg h1]
      generalize e1 - (gapN s1 : Int) = E1
      generalize e2 - (gapN s2 : Int) = E2
      generalize s1 * 2 ^ gapN s1 = A
      generalize s2 * 2 ^ gapN s2 = B
      by_cases c : E1 < E2 ∨ E1 = E2 ∧ A < B
      · rw [if_pos c, if_neg (show ¬ (E2 < E1 ∨ E2 = E1 ∧ B < A) by omega)]; left; rfl
      · rw [if_neg c]
        by_cases d : E2 < E1 ∨ E2 = E1 ∧ B < A
        · rw [if_pos d]; left; rfl
        · rw [if_neg d]
          obtain rfl : E1 = E2 := by omega
          obtain rfl : A = B := by omega
          unfold meetN
          rw [Int.sub_self, show (0 : Int).toNat = 0 from rfl, Nat.pow_zero, Nat.div_one, Nat.mod_one]
          by_cases n : n1 = n2
          · subst n; left; rfl
          · rw [if_neg n, if_neg (show ¬ n2 = n1 from fun h => n h.symm)]; right; simp
/-- Of a difference of two numbers that are the same nothing is left. -/
theorem exact_self (n : Bool) (e : Int) (s : Nat) : (exactN n e s (!n) e s).2.2 = (0, false) := by
  unfold exactN
  by_cases h : s = 0
  · rw [if_pos h, h]
  · rw [if_neg h, if_neg h, if_neg (by omega)]
    unfold meetN
    rw [Int.sub_self, show (0 : Int).toNat = 0 from rfl, Nat.pow_zero, Nat.div_one, Nat.mod_one, if_neg (by cases n <;> decide)]
    simp
end Go.Proofs.Ytlkjoibpfhjhcaa.Round
