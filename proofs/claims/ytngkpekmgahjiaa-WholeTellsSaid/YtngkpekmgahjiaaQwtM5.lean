import Derived.Test.YtngkpekmgahjiaaQwtZ
import Derived.Test.YtngkpekmgahjiaaQwtM1
import Derived.Test.YtngkpekmgahjiaaQwtM4
import Derived.Test.YtngkpekmgahjiaaQwtPx18
-- Printed by a program of this session's out of Lean's print of the translation; Lean checks it.
namespace Go.Proofs.Ytngkpekmgahjiaa.P
open Go.RowKit Go.Proofs.YtngkpekmgahjiaaW.PrintWords Go.Proofs.YtngkpekmgahjiaaW.PrintLast Go.Proofs.YtngkpekmgahjiaaW.PrintMore
attribute [local go_sem] max2_int min2_int max_two min_two max_three min_three max_four min_four
set_option linter.unusedVariables false
set_option linter.unusedSimpArgs false

/-! ### annealref1_Mask: function 59 -/
def annealref1_Mask.f (a0 : Int) : Option (Int) := (annealref1_Widths.f a0).bind fun bt324 => (if 0 ≤ (wrap64 ((wrap64 (1 + bt324.1)) + bt324.2)) then (some ((IntKind.u64.wrap ((shl .u64 1 (wrap64 ((wrap64 (1 + bt324.1)) + bt324.2))) - 1)) % 4294967296)) else (none))
set_option maxHeartbeats 8000000 in
set_option maxRecDepth 100000 in
theorem annealref1_Mask.calls (a0 : Int) (r : Int) (w : World) (h : annealref1_Mask.f a0 = some r) :
  Calls Try.prog 59 #[.int .i64 a0] w fun e w' => e = .returned (.int .u32 r) ∧ Drawn0 w w' := by
 have H : ((annealref1_Widths.f a0).bind fun bt324 => (if 0 ≤ (wrap64 ((wrap64 (1 + bt324.1)) + bt324.2)) then (some ((IntKind.u64.wrap ((shl .u64 1 (wrap64 ((wrap64 (1 + bt324.1)) + bt324.2))) - 1)) % 4294967296)) else (none))) = some r := h
 clear h
 replace H := Option.bind_eq_some_iff.mp H
 obtain ⟨⟨t324, t325⟩, A20, H⟩ := H
 replace H : (if 0 ≤ (wrap64 ((wrap64 (1 + t324)) + t325)) then (some ((IntKind.u64.wrap ((shl .u64 1 (wrap64 ((wrap64 (1 + t324)) + t325))) - 1)) % 4294967296)) else (none)) = some r := H
 have A2 := Aside0.mk A20
 clear A20
 obtain ⟨ji3, hji3⟩ : ∃ j_ : Int, (wrap64 ((wrap64 (1 + t324)) + t325)) = j_ := ⟨_, rfl⟩
 replace H : (if 0 ≤ (ji3) then (some ((IntKind.u64.wrap ((shl .u64 1 (ji3)) - 1)) % 4294967296)) else (none)) = some r := by first | (rw [hji3] at H; exact H) | (simp only [hji3] at H ⊢; exact H)
 (try rw [hji3] at A2)
 have hji3w : (IntKind.i64.wrap ((wrap64 (1 + t324)) + t325)) = ji3 := (i64_w _).trans hji3
 by_cases c4 : 0 ≤ (ji3)
 ·rw [if_pos c4] at H
  have c4b0 := eq_true c4
  have c4b1 : decide (0 ≤ (ji3)) = true := decide_eq_true c4
  clear c4
  obtain ⟨ji5, hji5⟩ : ∃ j_ : Int, (shl .u64 1 (ji3)) = j_ := ⟨_, rfl⟩
  replace H : (some ((IntKind.u64.wrap ((ji5) - 1)) % 4294967296)) = some r := by first | (rw [hji5] at H; exact H) | (simp only [hji5] at H ⊢; exact H)
  (try rw [hji5] at A2)
  have hji5_ : (IntKind.u64.wrap (1 * 2 ^ min (ji3).toNat 64)) = ji5 := hji5
  have hji5z : (ji3) ≤ 64 → (IntKind.u64.wrap (1 * 2 ^ (ji3).toNat)) = ji5 := shl_small hji5
  have hji5u : (IntKind.u64.wrap (2 ^ min (ji3).toNat 64)) = ji5 := by have h_ := hji5_; rw [Int.one_mul] at h_; exact h_
  have hji5v : (ji3) ≤ 64 → (IntKind.u64.wrap (2 ^ (ji3).toNat)) = ji5 := fun hle_ => by have h_ := hji5z hle_; rw [Int.one_mul] at h_; exact h_
  obtain rfl := Option.some.inj H
  go_enter Try.func59, Try.ntmps59
  go_wp2_with (first | ((with_reducible refine gate_callee (f := 49) rfl ?_); refine goesL_ (some 7) rfl rfl Try.func49 (by kernel_rfl) rfl #[.int .i64 a0] rfl gl ?_; (with_reducible refine (annealref1_Widths.calls a0 t324 t325 _ A2.out).mono ?_); rintro e w' ⟨rfl, ⟨nd, rfl⟩⟩; refine ⟨_, rfl, ?_⟩))
  go_ret
  exact ⟨by first | rfl | (simp; done) | (simp only [← hji3, ← hji5] <;> (first | rfl | (simp; done))) | (simp [*]; done) | (congr 1; (try unfold wrap64); omega) | (congr 1; rw [IntKind.wrap_u64]; omega), by repeat (first | exact Drawn0.refl _ | apply Drawn0.step)⟩
 ·rw [if_neg c4] at H
  exact absurd H (by simp)

/-! ### annealref1_parts: function 97 -/
def annealref1_parts.f (a0 : Int) (a1 : Int) : Option (Bool × Int × Int) := (annealref1_Widths.f a0).bind fun bt326 => ((annealref1_Mask.f a0).bind fun t328 => (if 0 ≤ (wrap64 (bt326.1 + bt326.2)) then (if 0 ≤ bt326.2 then (if 0 ≤ bt326.1 then (some (((shr .u32 (Go.bits .and .u32 a1 t328) (wrap64 (bt326.1 + bt326.2))) == 1), wrap64 (Go.bits .and .u32 (shr .u32 (Go.bits .and .u32 a1 t328) bt326.2) (((shl .u32 1 bt326.1) - 1) % 4294967296)), IntKind.u64.wrap (Go.bits .and .u32 (Go.bits .and .u32 a1 t328) (((shl .u32 1 bt326.2) - 1) % 4294967296)))) else (none)) else (none)) else (none)))
set_option maxHeartbeats 8000000 in
set_option maxRecDepth 100000 in
theorem annealref1_parts.calls (a0 : Int) (a1 : Int) (r1 : Bool) (r2 : Int) (r3 : Int) (w : World) (h : annealref1_parts.f a0 a1 = some (r1, r2, r3)) :
  Calls Try.prog 97 #[.int .i64 a0, .int .u32 a1] w fun e w' => e = .returned (.tuple #[.bool r1, .int .i64 r2, .int .u64 r3]) ∧ Drawn0 w w' := by
 have H : ((annealref1_Widths.f a0).bind fun bt326 => ((annealref1_Mask.f a0).bind fun t328 => (if 0 ≤ (wrap64 (bt326.1 + bt326.2)) then (if 0 ≤ bt326.2 then (if 0 ≤ bt326.1 then (some (((shr .u32 (Go.bits .and .u32 a1 t328) (wrap64 (bt326.1 + bt326.2))) == 1), wrap64 (Go.bits .and .u32 (shr .u32 (Go.bits .and .u32 a1 t328) bt326.2) (((shl .u32 1 bt326.1) - 1) % 4294967296)), IntKind.u64.wrap (Go.bits .and .u32 (Go.bits .and .u32 a1 t328) (((shl .u32 1 bt326.2) - 1) % 4294967296)))) else (none)) else (none)) else (none)))) = some (r1, r2, r3) := h
 clear h
 replace H := Option.bind_eq_some_iff.mp H
 obtain ⟨⟨t326, t327⟩, A30, H⟩ := H
 replace H : ((annealref1_Mask.f a0).bind fun t328 => (if 0 ≤ (wrap64 (t326 + t327)) then (if 0 ≤ t327 then (if 0 ≤ t326 then (some (((shr .u32 (Go.bits .and .u32 a1 t328) (wrap64 (t326 + t327))) == 1), wrap64 (Go.bits .and .u32 (shr .u32 (Go.bits .and .u32 a1 t328) t327) (((shl .u32 1 t326) - 1) % 4294967296)), IntKind.u64.wrap (Go.bits .and .u32 (Go.bits .and .u32 a1 t328) (((shl .u32 1 t327) - 1) % 4294967296)))) else (none)) else (none)) else (none))) = some (r1, r2, r3) := H
 have A3 := Aside0.mk A30
 clear A30
 replace H := Option.bind_eq_some_iff.mp H
 obtain ⟨t328, A40, H⟩ := H
 replace H : (if 0 ≤ (wrap64 (t326 + t327)) then (if 0 ≤ t327 then (if 0 ≤ t326 then (some (((shr .u32 (Go.bits .and .u32 a1 t328) (wrap64 (t326 + t327))) == 1), wrap64 (Go.bits .and .u32 (shr .u32 (Go.bits .and .u32 a1 t328) t327) (((shl .u32 1 t326) - 1) % 4294967296)), IntKind.u64.wrap (Go.bits .and .u32 (Go.bits .and .u32 a1 t328) (((shl .u32 1 t327) - 1) % 4294967296)))) else (none)) else (none)) else (none)) = some (r1, r2, r3) := H
 have A4 := Aside0.mk A40
 clear A40
 obtain ⟨ji5, hji5⟩ : ∃ j_ : Int, (wrap64 (t326 + t327)) = j_ := ⟨_, rfl⟩
 replace H : (if 0 ≤ (ji5) then (if 0 ≤ t327 then (if 0 ≤ t326 then (some (((shr .u32 (Go.bits .and .u32 a1 t328) (ji5)) == 1), wrap64 (Go.bits .and .u32 (shr .u32 (Go.bits .and .u32 a1 t328) t327) (((shl .u32 1 t326) - 1) % 4294967296)), IntKind.u64.wrap (Go.bits .and .u32 (Go.bits .and .u32 a1 t328) (((shl .u32 1 t327) - 1) % 4294967296)))) else (none)) else (none)) else (none)) = some (r1, r2, r3) := by first | (rw [hji5] at H; exact H) | (simp only [hji5] at H ⊢; exact H)
 (try rw [hji5] at A3)
 (try rw [hji5] at A4)
 have hji5w : (IntKind.i64.wrap (t326 + t327)) = ji5 := (i64_w _).trans hji5
 by_cases c6 : 0 ≤ (ji5)
 ·rw [if_pos c6] at H
  have c6b0 := eq_true c6
  have c6b1 : decide (0 ≤ (ji5)) = true := decide_eq_true c6
  clear c6
  obtain ⟨ji7, hji7⟩ : ∃ j_ : Int, (shr .u32 (Go.bits .and .u32 a1 t328) (ji5)) = j_ := ⟨_, rfl⟩
  replace H : (if 0 ≤ t327 then (if 0 ≤ t326 then (some (((ji7) == 1), wrap64 (Go.bits .and .u32 (shr .u32 (Go.bits .and .u32 a1 t328) t327) (((shl .u32 1 t326) - 1) % 4294967296)), IntKind.u64.wrap (Go.bits .and .u32 (Go.bits .and .u32 a1 t328) (((shl .u32 1 t327) - 1) % 4294967296)))) else (none)) else (none)) = some (r1, r2, r3) := by first | (rw [hji7] at H; exact H) | (simp only [hji7] at H ⊢; exact H)
  (try rw [hji7] at A3)
  (try rw [hji7] at A4)
  have hji7_ : ((Go.bits .and .u32 a1 t328) / 2 ^ min (ji5).toNat 32) = ji7 := hji7
  have hji7z : (ji5) ≤ 32 → ((Go.bits .and .u32 a1 t328) / 2 ^ (ji5).toNat) = ji7 := shr_small hji7
  by_cases c8 : 0 ≤ t327
  ·rw [if_pos c8] at H
   have c8b0 := eq_true c8
   have c8b1 : decide (0 ≤ t327) = true := decide_eq_true c8
   clear c8
   obtain ⟨ji9, hji9⟩ : ∃ j_ : Int, (shr .u32 (Go.bits .and .u32 a1 t328) t327) = j_ := ⟨_, rfl⟩
   replace H : (if 0 ≤ t326 then (some (((ji7) == 1), wrap64 (Go.bits .and .u32 (ji9) (((shl .u32 1 t326) - 1) % 4294967296)), IntKind.u64.wrap (Go.bits .and .u32 (Go.bits .and .u32 a1 t328) (((shl .u32 1 t327) - 1) % 4294967296)))) else (none)) = some (r1, r2, r3) := by first | (rw [hji9] at H; exact H) | (simp only [hji9] at H ⊢; exact H)
   (try rw [hji9] at A3)
   (try rw [hji9] at A4)
   have hji9_ : ((Go.bits .and .u32 a1 t328) / 2 ^ min t327.toNat 32) = ji9 := hji9
   have hji9z : t327 ≤ 32 → ((Go.bits .and .u32 a1 t328) / 2 ^ t327.toNat) = ji9 := shr_small hji9
   by_cases c10 : 0 ≤ t326
   ·rw [if_pos c10] at H
    have c10b0 := eq_true c10
    have c10b1 : decide (0 ≤ t326) = true := decide_eq_true c10
    clear c10
    obtain ⟨ji11, hji11⟩ : ∃ j_ : Int, (shl .u32 1 t326) = j_ := ⟨_, rfl⟩
    replace H : (some (((ji7) == 1), wrap64 (Go.bits .and .u32 (ji9) (((ji11) - 1) % 4294967296)), IntKind.u64.wrap (Go.bits .and .u32 (Go.bits .and .u32 a1 t328) (((shl .u32 1 t327) - 1) % 4294967296)))) = some (r1, r2, r3) := by first | (rw [hji11] at H; exact H) | (simp only [hji11] at H ⊢; exact H)
    (try rw [hji11] at A3)
    (try rw [hji11] at A4)
    have hji11_ : (IntKind.u32.wrap (1 * 2 ^ min t326.toNat 32)) = ji11 := hji11
    have hji11z : t326 ≤ 32 → (IntKind.u32.wrap (1 * 2 ^ t326.toNat)) = ji11 := shl_small hji11
    have hji11u : (IntKind.u32.wrap (2 ^ min t326.toNat 32)) = ji11 := by have h_ := hji11_; rw [Int.one_mul] at h_; exact h_
    have hji11v : t326 ≤ 32 → (IntKind.u32.wrap (2 ^ t326.toNat)) = ji11 := fun hle_ => by have h_ := hji11z hle_; rw [Int.one_mul] at h_; exact h_
    obtain ⟨ji12, hji12⟩ : ∃ j_ : Int, (((ji11) - 1) % 4294967296) = j_ := ⟨_, rfl⟩
    replace H : (some (((ji7) == 1), wrap64 (Go.bits .and .u32 (ji9) (ji12)), IntKind.u64.wrap (Go.bits .and .u32 (Go.bits .and .u32 a1 t328) (((shl .u32 1 t327) - 1) % 4294967296)))) = some (r1, r2, r3) := by first | (rw [hji12] at H; exact H) | (simp only [hji12] at H ⊢; exact H)
    (try rw [hji12] at A3)
    (try rw [hji12] at A4)
    have hji12l : 0 ≤ ji12 := by rw [← hji12]; exact Int.emod_nonneg _ (by decide)
    have hji12h : ji12 ≤ 4294967295 := by have := Int.emod_lt_of_pos (((ji11) - 1)) (show (0 : Int) < 4294967296 by decide); omega
    have hji12w : (IntKind.u32.wrap ((ji11) - 1)) = ji12 := (u32_w _).trans hji12
    (try (have hji12_ := hji12; simp only [Int.add_emod_emod, Int.emod_add_emod, Int.sub_emod_emod, Int.emod_sub_emod] at hji12_))
    have c13b0 := eq_true (of_decide_eq_true (by first | (with_reducible assumption) | assumption) : 0 ≤ t327)
    obtain ⟨ji14, hji14⟩ : ∃ j_ : Int, (shl .u32 1 t327) = j_ := ⟨_, rfl⟩
    replace H : (some (((ji7) == 1), wrap64 (Go.bits .and .u32 (ji9) (ji12)), IntKind.u64.wrap (Go.bits .and .u32 (Go.bits .and .u32 a1 t328) (((ji14) - 1) % 4294967296)))) = some (r1, r2, r3) := by first | (rw [hji14] at H; exact H) | (simp only [hji14] at H ⊢; exact H)
    (try rw [hji14] at A3)
    (try rw [hji14] at A4)
    have hji14_ : (IntKind.u32.wrap (1 * 2 ^ min t327.toNat 32)) = ji14 := hji14
    have hji14z : t327 ≤ 32 → (IntKind.u32.wrap (1 * 2 ^ t327.toNat)) = ji14 := shl_small hji14
    have hji14u : (IntKind.u32.wrap (2 ^ min t327.toNat 32)) = ji14 := by have h_ := hji14_; rw [Int.one_mul] at h_; exact h_
    have hji14v : t327 ≤ 32 → (IntKind.u32.wrap (2 ^ t327.toNat)) = ji14 := fun hle_ => by have h_ := hji14z hle_; rw [Int.one_mul] at h_; exact h_
    obtain ⟨ji15, hji15⟩ : ∃ j_ : Int, (((ji14) - 1) % 4294967296) = j_ := ⟨_, rfl⟩
    replace H : (some (((ji7) == 1), wrap64 (Go.bits .and .u32 (ji9) (ji12)), IntKind.u64.wrap (Go.bits .and .u32 (Go.bits .and .u32 a1 t328) (ji15)))) = some (r1, r2, r3) := by first | (rw [hji15] at H; exact H) | (simp only [hji15] at H ⊢; exact H)
    (try rw [hji15] at A3)
    (try rw [hji15] at A4)
    have hji15l : 0 ≤ ji15 := by rw [← hji15]; exact Int.emod_nonneg _ (by decide)
    have hji15h : ji15 ≤ 4294967295 := by have := Int.emod_lt_of_pos (((ji14) - 1)) (show (0 : Int) < 4294967296 by decide); omega
    have hji15w : (IntKind.u32.wrap ((ji14) - 1)) = ji15 := (u32_w _).trans hji15
    (try (have hji15_ := hji15; simp only [Int.add_emod_emod, Int.emod_add_emod, Int.sub_emod_emod, Int.emod_sub_emod] at hji15_))
    simp only [Option.some.injEq, Prod.mk.injEq] at H
    obtain ⟨rfl, rfl, rfl⟩ := H
    go_enter Try.func97, Try.ntmps97
    go_wp2_with (first | (go_at_call 49; (with_reducible refine (annealref1_Widths.calls a0 t326 t327 _ A3.out).mono ?_); rintro e w' ⟨rfl, ⟨nd, rfl⟩⟩; (try first | exact ⟨rfl, _, World.drewN_drewN _ _ _⟩ | exact ⟨rfl, _, Eq.trans (World.drewN_drewN _ _ _) (congrArg (World.drewN _) (Nat.add_assoc _ _ _))⟩)) | (go_at_call 59; (with_reducible refine (annealref1_Mask.calls a0 t328 _ A4.out).mono ?_); rintro e w' ⟨rfl, ⟨nd, rfl⟩⟩; (try first | exact ⟨rfl, _, World.drewN_drewN _ _ _⟩ | exact ⟨rfl, _, Eq.trans (World.drewN_drewN _ _ _) (congrArg (World.drewN _) (Nat.add_assoc _ _ _))⟩)))
    repeat (go_quiet (first | (go_at_call 49; (with_reducible refine (annealref1_Widths.calls a0 t326 t327 _ A3.out).mono ?_); rintro e w' ⟨rfl, ⟨nd, rfl⟩⟩; (try first | exact ⟨rfl, _, World.drewN_drewN _ _ _⟩ | exact ⟨rfl, _, Eq.trans (World.drewN_drewN _ _ _) (congrArg (World.drewN _) (Nat.add_assoc _ _ _))⟩)) | (go_at_call 59; (with_reducible refine (annealref1_Mask.calls a0 t328 _ A4.out).mono ?_); rintro e w' ⟨rfl, ⟨nd, rfl⟩⟩; (try first | exact ⟨rfl, _, World.drewN_drewN _ _ _⟩ | exact ⟨rfl, _, Eq.trans (World.drewN_drewN _ _ _) (congrArg (World.drewN _) (Nat.add_assoc _ _ _))⟩))); try go_wp2_with (first | (go_at_call 49; (with_reducible refine (annealref1_Widths.calls a0 t326 t327 _ A3.out).mono ?_); rintro e w' ⟨rfl, ⟨nd, rfl⟩⟩; (try first | exact ⟨rfl, _, World.drewN_drewN _ _ _⟩ | exact ⟨rfl, _, Eq.trans (World.drewN_drewN _ _ _) (congrArg (World.drewN _) (Nat.add_assoc _ _ _))⟩)) | (go_at_call 59; (with_reducible refine (annealref1_Mask.calls a0 t328 _ A4.out).mono ?_); rintro e w' ⟨rfl, ⟨nd, rfl⟩⟩; (try first | exact ⟨rfl, _, World.drewN_drewN _ _ _⟩ | exact ⟨rfl, _, Eq.trans (World.drewN_drewN _ _ _) (congrArg (World.drewN _) (Nat.add_assoc _ _ _))⟩))))
    go_ret3
    exact ⟨by first | rfl | (simp; done) | (simp only [← hji5, ← hji7, ← hji9, ← hji11, ← hji12, ← hji14, ← hji15] <;> (first | rfl | (simp; done))) | (simp [*]; done) | (congr 1; (try unfold wrap64); omega) | (congr 1; rw [IntKind.wrap_u64]; omega), by repeat (first | exact Drawn0.refl _ | apply Drawn0.step)⟩
   ·rw [if_neg c10] at H
    exact absurd H (by simp)
  ·rw [if_neg c8] at H
   exact absurd H (by simp)
 ·rw [if_neg c6] at H
  exact absurd H (by simp)

/-! ### annealref1_Class: function 96 -/
def annealref1_Class.j0 : Nat → Int → Int → Int → Int → Bool → Option (Int)
 |0, _, _, _, _, _ => none
 |k + 1, x5, x6, x8, x9, x22 => if x22 = true then (some 0) else (if x8 = 0 then (some 1) else (if 0 ≤ x5 then (if x8 < (wrap64 ((shl .i64 1 x5) - 1)) then (some 2) else (if x9 = 0 then (some 3) else (if 0 ≤ (wrap64 (x6 - 1)) then (if (shr .u64 x9 (wrap64 (x6 - 1))) = 1 then (some 4) else (some 5)) else (none)))) else (none)))
def annealref1_Class.f (k : Nat) (a0 : Int) (a1 : Int) : Option (Int) := (annealref1_Widths.f a0).bind fun bt329 => ((annealref1_parts.f a0 a1).bind fun bt331 => (if bt331.2.1 = 0 then (annealref1_Class.j0 k bt329.1 bt329.2 bt331.2.1 bt331.2.2 (bt331.2.2 == 0)) else (annealref1_Class.j0 k bt329.1 bt329.2 bt331.2.1 bt331.2.2 false)))
set_option maxHeartbeats 8000000 in
set_option maxRecDepth 100000 in
theorem annealref1_Class.calls (k : Nat) (a0 : Int) (a1 : Int) (r : Int) (w : World) (h : annealref1_Class.f k a0 a1 = some r) :
  Calls Try.prog 96 #[.int .i64 a0, .int .u32 a1] w fun e w' => e = .returned (.int .i64 r) ∧ Drawn0 w w' := by
 have H : ((annealref1_Widths.f a0).bind fun bt329 => ((annealref1_parts.f a0 a1).bind fun bt331 => (if bt331.2.1 = 0 then (annealref1_Class.j0 k bt329.1 bt329.2 bt331.2.1 bt331.2.2 (bt331.2.2 == 0)) else (annealref1_Class.j0 k bt329.1 bt329.2 bt331.2.1 bt331.2.2 false)))) = some r := h
 clear h
 replace H := Option.bind_eq_some_iff.mp H
 obtain ⟨⟨t329, t330⟩, A30, H⟩ := H
 replace H : ((annealref1_parts.f a0 a1).bind fun bt331 => (if bt331.2.1 = 0 then (annealref1_Class.j0 k t329 t330 bt331.2.1 bt331.2.2 (bt331.2.2 == 0)) else (annealref1_Class.j0 k t329 t330 bt331.2.1 bt331.2.2 false))) = some r := H
 have A3 := Aside0.mk A30
 clear A30
 replace H := Option.bind_eq_some_iff.mp H
 obtain ⟨⟨t331, t332, t333⟩, A40, H⟩ := H
 replace H : (if t332 = 0 then (annealref1_Class.j0 k t329 t330 t332 t333 (t333 == 0)) else (annealref1_Class.j0 k t329 t330 t332 t333 false)) = some r := H
 have A4 := Aside0.mk A40
 clear A40
 have HC5 := Aside0.mk H
 clear H
 go_enter Try.func96, Try.ntmps96
 go_upto_region 3 with (first | ((with_reducible refine gate_callee (f := 49) rfl ?_); refine goesL_ (some 12) rfl rfl Try.func49 (by kernel_rfl) rfl #[.int .i64 a0] rfl gl ?_; (with_reducible refine (annealref1_Widths.calls a0 t329 t330 _ A3.out).mono ?_); rintro e w' ⟨rfl, ⟨nd, rfl⟩⟩; refine ⟨_, rfl, ?_⟩) | ((with_reducible refine gate_callee (f := 97) rfl ?_); refine goesL_ (some 18) rfl rfl Try.func97 (by kernel_rfl) rfl #[.int .i64 a0, .int .u32 a1] rfl gl ?_; (with_reducible refine (annealref1_parts.calls a0 a1 t331 t332 t333 _ A4.out).mono ?_); rintro e w' ⟨rfl, ⟨nd, rfl⟩⟩; refine ⟨_, rfl, ?_⟩))
 (try simp only [Act.put, sb, sz, ss])
 go_cut [22] (fun v22 wc => ∃ (kq : Nat) (x22_4 : Bool), v22 = .bool x22_4 ∧ Aside0 (annealref1_Class.j0 kq t329 t330 t332 t333 x22_4 = some r) ∧ Aside0 (kq ≤ k) ∧ Drawn0 w wc)
 case first =>
  have H := HC5.out
  clear HC5
  by_cases c6 : t332 = 0
  ·rw [if_pos c6] at H
   have c6b0 : (t332 == 0) = true := beq_iff_eq.mpr c6
   have c6b1 : (t332 != 0) = false := bne_eq_false_iff_eq.mpr c6
   clear c6
   (first | rw [c6b0] | (simp only [i64_w, i32_w]; rw [c6b0]) | skip)
   have H' := Aside0.mk H
   clear H
   go_wp2
   go_meet
   case rel => exact ⟨_, ((t333 == 0)), (by first | rfl | (simp; done) | (simp [*]; done) | (congr 1; (try unfold wrap64); omega) | (congr 1; rw [IntKind.wrap_u64]; omega)), H', ⟨by first | omega | exact Nat.le_refl _⟩, by repeat (first | exact Drawn0.refl _ | apply Drawn0.step)⟩
  ·rw [if_neg c6] at H
   have c6b0 : (t332 == 0) = false := beq_eq_false_iff_ne.mpr c6
   have c6b1 : (t332 != 0) = true := bne_iff_ne.mpr c6
   (first | rw [c6b0] | (simp only [i64_w, i32_w]; rw [c6b0]) | skip)
   have H' := Aside0.mk H
   clear H
   go_wp2
   go_meet
   case rel => exact ⟨_, (false), (by first | rfl | (simp; done) | (simp [*]; done) | (congr 1; (try unfold wrap64); omega) | (congr 1; rw [IntKind.wrap_u64]; omega)), H', ⟨by first | omega | exact Nat.le_refl _⟩, by repeat (first | exact Drawn0.refl _ | apply Drawn0.step)⟩
 case rest =>
  clear HC5
  try clear p2 c4 c6 c6b0 c6b1 p6
  obtain ⟨kq, x22_4, rfl, HA, HJ4, ⟨mc4, rfl⟩⟩ := hcut
  cases kq with
  |zero => exact absurd HA.out (by simp [annealref1_Class.j0])
  |succ kj4 =>
   have H := HA.out
   clear HA
   simp only [annealref1_Class.j0] at H
   by_cases c7 : x22_4 = true
   ·subst c7
    have H1 : (some 0) = some r := by rw [if_pos rfl] at H; exact H
    clear H
    have H := H1
    clear H1
    obtain rfl := Option.some.inj H
    go_wp2
    go_ret
    exact ⟨by first | rfl | (simp; done) | (simp [*]; done) | (congr 1; (try unfold wrap64); omega) | (congr 1; rw [IntKind.wrap_u64]; omega), by repeat (first | exact Drawn0.refl _ | apply Drawn0.step)⟩
   ·replace c7 := Bool.eq_false_iff.mpr c7
    subst c7
    have H1 : (if t332 = 0 then (some 1) else (if 0 ≤ t329 then (if t332 < (wrap64 ((shl .i64 1 t329) - 1)) then (some 2) else (if t333 = 0 then (some 3) else (if 0 ≤ (wrap64 (t330 - 1)) then (if (shr .u64 t333 (wrap64 (t330 - 1))) = 1 then (some 4) else (some 5)) else (none)))) else (none))) = some r := by rw [if_neg (show ¬ (false = true) by decide)] at H; exact H
    clear H
    have H := H1
    clear H1
    by_cases c8 : t332 = 0
    ·rw [if_pos c8] at H
     have c8b0 : (t332 == 0) = true := beq_iff_eq.mpr c8
     have c8b1 : (t332 != 0) = false := bne_eq_false_iff_eq.mpr c8
     clear c8
     obtain rfl := Option.some.inj H
     go_wp2
     go_ret
     exact ⟨by first | rfl | (simp; done) | (simp [*]; done) | (congr 1; (try unfold wrap64); omega) | (congr 1; rw [IntKind.wrap_u64]; omega), by repeat (first | exact Drawn0.refl _ | apply Drawn0.step)⟩
    ·rw [if_neg c8] at H
     have c8b0 : (t332 == 0) = false := beq_eq_false_iff_ne.mpr c8
     have c8b1 : (t332 != 0) = true := bne_iff_ne.mpr c8
     by_cases c9 : 0 ≤ t329
     ·rw [if_pos c9] at H
      have c9b0 := eq_true c9
      have c9b1 : decide (0 ≤ t329) = true := decide_eq_true c9
      clear c9
      obtain ⟨ji10, hji10⟩ : ∃ j_ : Int, (shl .i64 1 t329) = j_ := ⟨_, rfl⟩
      replace H : (if t332 < (wrap64 ((ji10) - 1)) then (some 2) else (if t333 = 0 then (some 3) else (if 0 ≤ (wrap64 (t330 - 1)) then (if (shr .u64 t333 (wrap64 (t330 - 1))) = 1 then (some 4) else (some 5)) else (none)))) = some r := by first | (rw [hji10] at H; exact H) | (simp only [hji10] at H ⊢; exact H)
      have hji10_ : (IntKind.i64.wrap (1 * 2 ^ min t329.toNat 64)) = ji10 := hji10
      have hji10z : t329 ≤ 64 → (IntKind.i64.wrap (1 * 2 ^ t329.toNat)) = ji10 := shl_small hji10
      have hji10u : (IntKind.i64.wrap (2 ^ min t329.toNat 64)) = ji10 := by have h_ := hji10_; rw [Int.one_mul] at h_; exact h_
      have hji10v : t329 ≤ 64 → (IntKind.i64.wrap (2 ^ t329.toNat)) = ji10 := fun hle_ => by have h_ := hji10z hle_; rw [Int.one_mul] at h_; exact h_
      have hji10y : (wrap64 (1 * 2 ^ min t329.toNat 64)) = ji10 := (i64_w _).symm.trans hji10_
      have hji10x : t329 ≤ 64 → (wrap64 (1 * 2 ^ t329.toNat)) = ji10 := fun h_ => (i64_w _).symm.trans (hji10z h_)
      by_cases c11 : t332 < (wrap64 ((ji10) - 1))
      ·rw [if_pos c11] at H
       have c11b0 : decide (t332 < (wrap64 ((ji10) - 1))) = true := decide_eq_true c11
       clear c11
       obtain rfl := Option.some.inj H
       go_wp2
       go_ret
       exact ⟨by first | rfl | (simp; done) | (simp only [← hji10] <;> (first | rfl | (simp; done))) | (simp [*]; done) | (congr 1; (try unfold wrap64); omega) | (congr 1; rw [IntKind.wrap_u64]; omega), by repeat (first | exact Drawn0.refl _ | apply Drawn0.step)⟩
      ·rw [if_neg c11] at H
       have c11b0 : decide (t332 < (wrap64 ((ji10) - 1))) = false := decide_eq_false c11
       clear c11
       by_cases c12 : t333 = 0
       ·rw [if_pos c12] at H
        have c12b0 : (t333 == 0) = true := beq_iff_eq.mpr c12
        have c12b1 : (t333 != 0) = false := bne_eq_false_iff_eq.mpr c12
        clear c12
        obtain rfl := Option.some.inj H
        go_wp2
        go_ret
        exact ⟨by first | rfl | (simp; done) | (simp only [← hji10] <;> (first | rfl | (simp; done))) | (simp [*]; done) | (congr 1; (try unfold wrap64); omega) | (congr 1; rw [IntKind.wrap_u64]; omega), by repeat (first | exact Drawn0.refl _ | apply Drawn0.step)⟩
       ·rw [if_neg c12] at H
        have c12b0 : (t333 == 0) = false := beq_eq_false_iff_ne.mpr c12
        have c12b1 : (t333 != 0) = true := bne_iff_ne.mpr c12
        obtain ⟨ji13, hji13⟩ : ∃ j_ : Int, (wrap64 (t330 - 1)) = j_ := ⟨_, rfl⟩
        replace H : (if 0 ≤ (ji13) then (if (shr .u64 t333 (ji13)) = 1 then (some 4) else (some 5)) else (none)) = some r := by first | (rw [hji13] at H; exact H) | (simp only [hji13] at H ⊢; exact H)
        have hji13w : (IntKind.i64.wrap (t330 - 1)) = ji13 := (i64_w _).trans hji13
        by_cases c14 : 0 ≤ (ji13)
        ·rw [if_pos c14] at H
         have c14b0 := eq_true c14
         have c14b1 : decide (0 ≤ (ji13)) = true := decide_eq_true c14
         clear c14
         obtain ⟨ji15, hji15⟩ : ∃ j_ : Int, (shr .u64 t333 (ji13)) = j_ := ⟨_, rfl⟩
         replace H : (if (ji15) = 1 then (some 4) else (some 5)) = some r := by first | (rw [hji15] at H; exact H) | (simp only [hji15] at H ⊢; exact H)
         have hji15_ : (t333 / 2 ^ min (ji13).toNat 64) = ji15 := hji15
         have hji15z : (ji13) ≤ 64 → (t333 / 2 ^ (ji13).toNat) = ji15 := shr_small hji15
         by_cases c16 : (ji15) = 1
         ·rw [if_pos c16] at H
          have c16b0 : ((ji15) == 1) = true := beq_iff_eq.mpr c16
          have c16b1 : ((ji15) != 1) = false := bne_eq_false_iff_eq.mpr c16
          clear c16
          obtain rfl := Option.some.inj H
          go_wp2
          go_ret
          exact ⟨by first | rfl | (simp; done) | (simp only [← hji10, ← hji13, ← hji15] <;> (first | rfl | (simp; done))) | (simp [*]; done) | (congr 1; (try unfold wrap64); omega) | (congr 1; rw [IntKind.wrap_u64]; omega), by repeat (first | exact Drawn0.refl _ | apply Drawn0.step)⟩
         ·rw [if_neg c16] at H
          have c16b0 : ((ji15) == 1) = false := beq_eq_false_iff_ne.mpr c16
          have c16b1 : ((ji15) != 1) = true := bne_iff_ne.mpr c16
          obtain rfl := Option.some.inj H
          go_wp2
          go_ret
          exact ⟨by first | rfl | (simp; done) | (simp only [← hji10, ← hji13, ← hji15] <;> (first | rfl | (simp; done))) | (simp [*]; done) | (congr 1; (try unfold wrap64); omega) | (congr 1; rw [IntKind.wrap_u64]; omega), by repeat (first | exact Drawn0.refl _ | apply Drawn0.step)⟩
        ·rw [if_neg c14] at H
         exact absurd H (by simp)
     ·rw [if_neg c9] at H
      exact absurd H (by simp)


/-! ### annealref1_nans: function 57 -/
def annealref1_nans.l0 : Nat → Int → List Int → Bool → Bool → Int → Option (Bool × Bool)
 |0, _, _, _, _, _ => none
 |k + 1, x0, x1, x6, x7, x8 => if x8 < (x1.length : Int) then (if 0 ≤ x8 then ((annealref1_Class.f k x0 (rd x1 x8)).bind fun t335 => (if x6 = true then (if x7 = true then (annealref1_nans.l0 k x0 x1 true true (wrap64 (x8 + 1))) else (annealref1_nans.l0 k x0 x1 true (t335 == 5) (wrap64 (x8 + 1)))) else (if t335 = 4 then (if x7 = true then (annealref1_nans.l0 k x0 x1 true true (wrap64 (x8 + 1))) else (annealref1_nans.l0 k x0 x1 true (t335 == 5) (wrap64 (x8 + 1)))) else (if x7 = true then (annealref1_nans.l0 k x0 x1 (t335 == 5) true (wrap64 (x8 + 1))) else (annealref1_nans.l0 k x0 x1 (t335 == 5) (t335 == 5) (wrap64 (x8 + 1))))))) else (none)) else (some (x6, x7))
def annealref1_nans.f (k : Nat) (a0 : Int) (l1 : List Int) : Option (Bool × Bool) := annealref1_nans.l0 k a0 l1 false false 0
set_option maxHeartbeats 8000000 in
set_option maxRecDepth 100000 in
theorem annealref1_nans.calls (k : Nat) (a0 : Int) (A1 : Option Addr) (c1 : Nat) (l1 : List Int) (r1 : Bool) (r2 : Bool) (w : World) (hr1 : Kd.C (Kd.int .u32) w A1 l1.length l1) (hc1 : l1.length ≤ c1) (h : annealref1_nans.f k a0 l1 = some (r1, r2)) :
  Calls Try.prog 57 #[.int .i64 a0, .slice A1 l1.length c1] w fun e w' => e = .returned (.tuple #[.bool r1, .bool r2]) ∧ Drawn0 w w' := by
 have HR1 := Aside0.mk hr1
 have HC1 := Aside0.mk hc1
 clear hr1 hc1
 have H : (annealref1_nans.l0 k a0 l1 false false 0) = some (r1, r2) := h
 clear h
 have H' := Aside0.mk H
 clear H
 go_enter Try.func57, Try.ntmps57
 go_wp2
 go_loopg [6, 7, 8] k (fun kq v6 v7 v8 w' => ∃ (x6_1 : Bool) (x7_1 : Bool) (x8_1 : Int), v6 = .bool x6_1 ∧ v7 = .bool x7_1 ∧ v8 = .int .i64 x8_1 ∧ Aside0 (annealref1_nans.l0 kq a0 l1 x6_1 x7_1 x8_1 = some (r1, r2)) ∧ Aside0 (kq ≤ k) ∧ Drawn0 w w')
 case atStart => exact ⟨(false), (false), (0), (by first | rfl | (simp; done) | (simp [*]; done) | (congr 1; (try unfold wrap64); omega) | (congr 1; rw [IntKind.wrap_u64]; omega)), (by first | rfl | (simp; done) | (simp [*]; done) | (congr 1; (try unfold wrap64); omega) | (congr 1; rw [IntKind.wrap_u64]; omega)), (by first | rfl | (simp; done) | (simp [*]; done) | (congr 1; (try unfold wrap64); omega) | (congr 1; rw [IntKind.wrap_u64]; omega)), H', ⟨Nat.le_refl _⟩, by repeat (first | exact Drawn0.refl _ | apply Drawn0.step)⟩
 case round =>
  clear H'
  try clear c1 p2
  obtain ⟨x6_1, x7_1, x8_1, rfl, rfl, rfl, HA, HK1, ⟨m1, rfl⟩⟩ := hrel
  cases gk with
  |zero => exact absurd HA.out (by simp [annealref1_nans.l0])
  |succ k1 =>
   have H := HA.out
   clear HA
   simp only [annealref1_nans.l0] at H
   by_cases c3 : x8_1 < (l1.length : Int)
   ·rw [if_pos c3] at H
    have c3b0 : decide (x8_1 < (l1.length : Int)) = true := decide_eq_true c3
    clear c3
    by_cases c4 : 0 ≤ x8_1
    ·rw [if_pos c4] at H
     have c4b0 : decide (0 ≤ x8_1) = true := decide_eq_true c4
     clear c4
     replace H := Option.bind_eq_some_iff.mp H
     obtain ⟨t335, A50, H⟩ := H
     replace H : (if x6_1 = true then (if x7_1 = true then (annealref1_nans.l0 k1 a0 l1 true true (wrap64 (x8_1 + 1))) else (annealref1_nans.l0 k1 a0 l1 true (t335 == 5) (wrap64 (x8_1 + 1)))) else (if t335 = 4 then (if x7_1 = true then (annealref1_nans.l0 k1 a0 l1 true true (wrap64 (x8_1 + 1))) else (annealref1_nans.l0 k1 a0 l1 true (t335 == 5) (wrap64 (x8_1 + 1)))) else (if x7_1 = true then (annealref1_nans.l0 k1 a0 l1 (t335 == 5) true (wrap64 (x8_1 + 1))) else (annealref1_nans.l0 k1 a0 l1 (t335 == 5) (t335 == 5) (wrap64 (x8_1 + 1)))))) = some (r1, r2) := H
     have A5 := Aside0.mk A50
     clear A50
     by_cases c6 : x6_1 = true
     ·subst c6
      have H1 : (if x7_1 = true then (annealref1_nans.l0 k1 a0 l1 true true (wrap64 (x8_1 + 1))) else (annealref1_nans.l0 k1 a0 l1 true (t335 == 5) (wrap64 (x8_1 + 1)))) = some (r1, r2) := by rw [if_pos rfl] at H; exact H
      clear H
      have H := H1
      clear H1
      by_cases c7 : x7_1 = true
      ·subst c7
       have H1 : (annealref1_nans.l0 k1 a0 l1 true true (wrap64 (x8_1 + 1))) = some (r1, r2) := by rw [if_pos rfl] at H; exact H
       clear H
       have H := H1
       clear H1
       have H' := Aside0.mk H
       clear H
       have p334 : 0 ≤ (x8_1 : Int) := of_decide_eq_true (by first | (with_reducible assumption) | assumption)
       have q334 : x8_1 < (l1.length : Int) := of_decide_eq_true (by first | (with_reducible assumption) | assumption)
       obtain ⟨ad334, e334, hx334_0⟩ := Kd.at_int HR1.out x8_1 p334 q334
       cases e334
       replace p334 := eq_true p334
       replace q334 := eq_true q334
       go_wp2_with (first | ((with_reducible refine gate_callee (f := 96) rfl ?_); refine goesL_ (some 21) rfl rfl Try.func96 (by kernel_rfl) rfl #[.int .i64 a0, .int .u32 (rd l1 x8_1)] rfl gl ?_; (with_reducible refine (annealref1_Class.calls k1 a0 (rd l1 x8_1) t335 _ A5.out).mono ?_); rintro e w' ⟨rfl, ⟨nd, rfl⟩⟩; refine ⟨_, rfl, ?_⟩))
       go_roundg k1
       case measure => have := HK1.out; omega
       case rel => exact ⟨(true), (true), (wrap64 (x8_1 + 1)), (by first | rfl | (simp; done) | (simp [*]; done) | (congr 1; (try unfold wrap64); omega) | (congr 1; rw [IntKind.wrap_u64]; omega)), (by first | rfl | (simp; done) | (simp [*]; done) | (congr 1; (try unfold wrap64); omega) | (congr 1; rw [IntKind.wrap_u64]; omega)), (by first | rfl | (simp; done) | (simp [*]; done) | (congr 1; (try unfold wrap64); omega) | (congr 1; rw [IntKind.wrap_u64]; omega)), H', ⟨by have := HK1.out; omega⟩, by repeat (first | exact Drawn0.refl _ | apply Drawn0.step)⟩
      ·replace c7 := Bool.eq_false_iff.mpr c7
       subst c7
       have H1 : (annealref1_nans.l0 k1 a0 l1 true (t335 == 5) (wrap64 (x8_1 + 1))) = some (r1, r2) := by rw [if_neg (show ¬ (false = true) by decide)] at H; exact H
       clear H
       have H := H1
       clear H1
       have H' := Aside0.mk H
       clear H
       have p334 : 0 ≤ (x8_1 : Int) := of_decide_eq_true (by first | (with_reducible assumption) | assumption)
       have q334 : x8_1 < (l1.length : Int) := of_decide_eq_true (by first | (with_reducible assumption) | assumption)
       obtain ⟨ad334, e334, hx334_0⟩ := Kd.at_int HR1.out x8_1 p334 q334
       cases e334
       replace p334 := eq_true p334
       replace q334 := eq_true q334
       go_wp2_with (first | ((with_reducible refine gate_callee (f := 96) rfl ?_); refine goesL_ (some 21) rfl rfl Try.func96 (by kernel_rfl) rfl #[.int .i64 a0, .int .u32 (rd l1 x8_1)] rfl gl ?_; (with_reducible refine (annealref1_Class.calls k1 a0 (rd l1 x8_1) t335 _ A5.out).mono ?_); rintro e w' ⟨rfl, ⟨nd, rfl⟩⟩; refine ⟨_, rfl, ?_⟩))
       go_roundg k1
       case measure => have := HK1.out; omega
       case rel => exact ⟨(true), ((t335 == 5)), (wrap64 (x8_1 + 1)), (by first | rfl | (simp; done) | (simp [*]; done) | (congr 1; (try unfold wrap64); omega) | (congr 1; rw [IntKind.wrap_u64]; omega)), (by first | rfl | (simp; done) | (simp [*]; done) | (congr 1; (try unfold wrap64); omega) | (congr 1; rw [IntKind.wrap_u64]; omega)), (by first | rfl | (simp; done) | (simp [*]; done) | (congr 1; (try unfold wrap64); omega) | (congr 1; rw [IntKind.wrap_u64]; omega)), H', ⟨by have := HK1.out; omega⟩, by repeat (first | exact Drawn0.refl _ | apply Drawn0.step)⟩
     ·replace c6 := Bool.eq_false_iff.mpr c6
      subst c6
      have H1 : (if t335 = 4 then (if x7_1 = true then (annealref1_nans.l0 k1 a0 l1 true true (wrap64 (x8_1 + 1))) else (annealref1_nans.l0 k1 a0 l1 true (t335 == 5) (wrap64 (x8_1 + 1)))) else (if x7_1 = true then (annealref1_nans.l0 k1 a0 l1 (t335 == 5) true (wrap64 (x8_1 + 1))) else (annealref1_nans.l0 k1 a0 l1 (t335 == 5) (t335 == 5) (wrap64 (x8_1 + 1))))) = some (r1, r2) := by rw [if_neg (show ¬ (false = true) by decide)] at H; exact H
      clear H
      have H := H1
      clear H1
      by_cases c8 : t335 = 4
      ·rw [if_pos c8] at H
       have c8b0 : (t335 == 4) = true := beq_iff_eq.mpr c8
       have c8b1 : (t335 != 4) = false := bne_eq_false_iff_eq.mpr c8
       clear c8
       by_cases c9 : x7_1 = true
       ·subst c9
        have H1 : (annealref1_nans.l0 k1 a0 l1 true true (wrap64 (x8_1 + 1))) = some (r1, r2) := by rw [if_pos rfl] at H; exact H
        clear H
        have H := H1
        clear H1
        have H' := Aside0.mk H
        clear H
        have p334 : 0 ≤ (x8_1 : Int) := of_decide_eq_true (by first | (with_reducible assumption) | assumption)
        have q334 : x8_1 < (l1.length : Int) := of_decide_eq_true (by first | (with_reducible assumption) | assumption)
        obtain ⟨ad334, e334, hx334_0⟩ := Kd.at_int HR1.out x8_1 p334 q334
        cases e334
        replace p334 := eq_true p334
        replace q334 := eq_true q334
        go_wp2_with (first | ((with_reducible refine gate_callee (f := 96) rfl ?_); refine goesL_ (some 21) rfl rfl Try.func96 (by kernel_rfl) rfl #[.int .i64 a0, .int .u32 (rd l1 x8_1)] rfl gl ?_; (with_reducible refine (annealref1_Class.calls k1 a0 (rd l1 x8_1) t335 _ A5.out).mono ?_); rintro e w' ⟨rfl, ⟨nd, rfl⟩⟩; refine ⟨_, rfl, ?_⟩))
        go_roundg k1
        case measure => have := HK1.out; omega
        case rel => exact ⟨(true), (true), (wrap64 (x8_1 + 1)), (by first | rfl | (simp; done) | (simp [*]; done) | (congr 1; (try unfold wrap64); omega) | (congr 1; rw [IntKind.wrap_u64]; omega)), (by first | rfl | (simp; done) | (simp [*]; done) | (congr 1; (try unfold wrap64); omega) | (congr 1; rw [IntKind.wrap_u64]; omega)), (by first | rfl | (simp; done) | (simp [*]; done) | (congr 1; (try unfold wrap64); omega) | (congr 1; rw [IntKind.wrap_u64]; omega)), H', ⟨by have := HK1.out; omega⟩, by repeat (first | exact Drawn0.refl _ | apply Drawn0.step)⟩
       ·replace c9 := Bool.eq_false_iff.mpr c9
        subst c9
        have H1 : (annealref1_nans.l0 k1 a0 l1 true (t335 == 5) (wrap64 (x8_1 + 1))) = some (r1, r2) := by rw [if_neg (show ¬ (false = true) by decide)] at H; exact H
        clear H
        have H := H1
        clear H1
        have H' := Aside0.mk H
        clear H
        have p334 : 0 ≤ (x8_1 : Int) := of_decide_eq_true (by first | (with_reducible assumption) | assumption)
        have q334 : x8_1 < (l1.length : Int) := of_decide_eq_true (by first | (with_reducible assumption) | assumption)
        obtain ⟨ad334, e334, hx334_0⟩ := Kd.at_int HR1.out x8_1 p334 q334
        cases e334
        replace p334 := eq_true p334
        replace q334 := eq_true q334
        go_wp2_with (first | ((with_reducible refine gate_callee (f := 96) rfl ?_); refine goesL_ (some 21) rfl rfl Try.func96 (by kernel_rfl) rfl #[.int .i64 a0, .int .u32 (rd l1 x8_1)] rfl gl ?_; (with_reducible refine (annealref1_Class.calls k1 a0 (rd l1 x8_1) t335 _ A5.out).mono ?_); rintro e w' ⟨rfl, ⟨nd, rfl⟩⟩; refine ⟨_, rfl, ?_⟩))
        go_roundg k1
        case measure => have := HK1.out; omega
        case rel => exact ⟨(true), ((t335 == 5)), (wrap64 (x8_1 + 1)), (by first | rfl | (simp; done) | (simp [*]; done) | (congr 1; (try unfold wrap64); omega) | (congr 1; rw [IntKind.wrap_u64]; omega)), (by first | rfl | (simp; done) | (simp [*]; done) | (congr 1; (try unfold wrap64); omega) | (congr 1; rw [IntKind.wrap_u64]; omega)), (by first | rfl | (simp; done) | (simp [*]; done) | (congr 1; (try unfold wrap64); omega) | (congr 1; rw [IntKind.wrap_u64]; omega)), H', ⟨by have := HK1.out; omega⟩, by repeat (first | exact Drawn0.refl _ | apply Drawn0.step)⟩
      ·rw [if_neg c8] at H
       have c8b0 : (t335 == 4) = false := beq_eq_false_iff_ne.mpr c8
       have c8b1 : (t335 != 4) = true := bne_iff_ne.mpr c8
       by_cases c10 : x7_1 = true
       ·subst c10
        have H1 : (annealref1_nans.l0 k1 a0 l1 (t335 == 5) true (wrap64 (x8_1 + 1))) = some (r1, r2) := by rw [if_pos rfl] at H; exact H
        clear H
        have H := H1
        clear H1
        have H' := Aside0.mk H
        clear H
        have p334 : 0 ≤ (x8_1 : Int) := of_decide_eq_true (by first | (with_reducible assumption) | assumption)
        have q334 : x8_1 < (l1.length : Int) := of_decide_eq_true (by first | (with_reducible assumption) | assumption)
        obtain ⟨ad334, e334, hx334_0⟩ := Kd.at_int HR1.out x8_1 p334 q334
        cases e334
        replace p334 := eq_true p334
        replace q334 := eq_true q334
        go_wp2_with (first | ((with_reducible refine gate_callee (f := 96) rfl ?_); refine goesL_ (some 21) rfl rfl Try.func96 (by kernel_rfl) rfl #[.int .i64 a0, .int .u32 (rd l1 x8_1)] rfl gl ?_; (with_reducible refine (annealref1_Class.calls k1 a0 (rd l1 x8_1) t335 _ A5.out).mono ?_); rintro e w' ⟨rfl, ⟨nd, rfl⟩⟩; refine ⟨_, rfl, ?_⟩))
        go_roundg k1
        case measure => have := HK1.out; omega
        case rel => exact ⟨((t335 == 5)), (true), (wrap64 (x8_1 + 1)), (by first | rfl | (simp; done) | (simp [*]; done) | (congr 1; (try unfold wrap64); omega) | (congr 1; rw [IntKind.wrap_u64]; omega)), (by first | rfl | (simp; done) | (simp [*]; done) | (congr 1; (try unfold wrap64); omega) | (congr 1; rw [IntKind.wrap_u64]; omega)), (by first | rfl | (simp; done) | (simp [*]; done) | (congr 1; (try unfold wrap64); omega) | (congr 1; rw [IntKind.wrap_u64]; omega)), H', ⟨by have := HK1.out; omega⟩, by repeat (first | exact Drawn0.refl _ | apply Drawn0.step)⟩
       ·replace c10 := Bool.eq_false_iff.mpr c10
        subst c10
        have H1 : (annealref1_nans.l0 k1 a0 l1 (t335 == 5) (t335 == 5) (wrap64 (x8_1 + 1))) = some (r1, r2) := by rw [if_neg (show ¬ (false = true) by decide)] at H; exact H
        clear H
        have H := H1
        clear H1
        have H' := Aside0.mk H
        clear H
        have p334 : 0 ≤ (x8_1 : Int) := of_decide_eq_true (by first | (with_reducible assumption) | assumption)
        have q334 : x8_1 < (l1.length : Int) := of_decide_eq_true (by first | (with_reducible assumption) | assumption)
        obtain ⟨ad334, e334, hx334_0⟩ := Kd.at_int HR1.out x8_1 p334 q334
        cases e334
        replace p334 := eq_true p334
        replace q334 := eq_true q334
        go_wp2_with (first | ((with_reducible refine gate_callee (f := 96) rfl ?_); refine goesL_ (some 21) rfl rfl Try.func96 (by kernel_rfl) rfl #[.int .i64 a0, .int .u32 (rd l1 x8_1)] rfl gl ?_; (with_reducible refine (annealref1_Class.calls k1 a0 (rd l1 x8_1) t335 _ A5.out).mono ?_); rintro e w' ⟨rfl, ⟨nd, rfl⟩⟩; refine ⟨_, rfl, ?_⟩))
        go_roundg k1
        case measure => have := HK1.out; omega
        case rel => exact ⟨((t335 == 5)), ((t335 == 5)), (wrap64 (x8_1 + 1)), (by first | rfl | (simp; done) | (simp [*]; done) | (congr 1; (try unfold wrap64); omega) | (congr 1; rw [IntKind.wrap_u64]; omega)), (by first | rfl | (simp; done) | (simp [*]; done) | (congr 1; (try unfold wrap64); omega) | (congr 1; rw [IntKind.wrap_u64]; omega)), (by first | rfl | (simp; done) | (simp [*]; done) | (congr 1; (try unfold wrap64); omega) | (congr 1; rw [IntKind.wrap_u64]; omega)), H', ⟨by have := HK1.out; omega⟩, by repeat (first | exact Drawn0.refl _ | apply Drawn0.step)⟩
    ·rw [if_neg c4] at H
     exact absurd H (by simp)
   ·rw [if_neg c3] at H
    have c3b0 : decide (x8_1 < (l1.length : Int)) = false := decide_eq_false c3
    clear c3
    simp only [Option.some.injEq, Prod.mk.injEq] at H
    obtain ⟨rfl, rfl⟩ := H
    go_wp2
    go_ret2
    exact ⟨by first | rfl | (simp; done) | (simp [*]; done) | (congr 1; (try unfold wrap64); omega) | (congr 1; rw [IntKind.wrap_u64]; omega), by repeat (first | exact Drawn0.refl _ | apply Drawn0.step)⟩

/-! ### annealref1_Finite: function 58 -/
def annealref1_Finite.f (k : Nat) (a0 : Int) (a1 : Int) : Option (Bool) := (annealref1_Class.f k a0 a1).bind fun t336 => (some (decide (t336 < 3)))
set_option maxHeartbeats 8000000 in
set_option maxRecDepth 100000 in
theorem annealref1_Finite.calls (k : Nat) (a0 : Int) (a1 : Int) (r : Bool) (w : World) (h : annealref1_Finite.f k a0 a1 = some r) :
  Calls Try.prog 58 #[.int .i64 a0, .int .u32 a1] w fun e w' => e = .returned (.bool r) ∧ Drawn0 w w' := by
 have H : ((annealref1_Class.f k a0 a1).bind fun t336 => (some (decide (t336 < 3)))) = some r := h
 clear h
 replace H := Option.bind_eq_some_iff.mp H
 obtain ⟨t336, A30, H⟩ := H
 replace H : (some (decide (t336 < 3))) = some r := H
 have A3 := Aside0.mk A30
 clear A30
 obtain rfl := Option.some.inj H
 go_enter Try.func58, Try.ntmps58
 go_wp2_with (first | ((with_reducible refine gate_callee (f := 96) rfl ?_); refine goesL_ (some 7) rfl rfl Try.func96 (by kernel_rfl) rfl #[.int .i64 a0, .int .u32 a1] rfl gl ?_; (with_reducible refine (annealref1_Class.calls k a0 a1 t336 _ A3.out).mono ?_); rintro e w' ⟨rfl, ⟨nd, rfl⟩⟩; refine ⟨_, rfl, ?_⟩))
 go_ret
 exact ⟨by first | rfl | (simp; done) | (simp [*]; done) | (congr 1; (try unfold wrap64); omega) | (congr 1; rw [IntKind.wrap_u64]; omega), by repeat (first | exact Drawn0.refl _ | apply Drawn0.step)⟩

/-! ### annealref1_Unpack: function 60 -/
def annealref1_Unpack.f (k : Nat) (a0 : Int) (a1 : Int) : Option (Bool × Int × Int) := (annealref1_Widths.f a0).bind fun bt337 => ((annealref1_parts.f a0 a1).bind fun bt339 => ((annealref1_Class.f k a0 a1).bind fun t342 => (if t342 = 2 then ((annealref1_bias.f a0).bind fun t343 => (if 0 ≤ bt337.2 then (some (bt339.1, wrap64 ((wrap64 (bt339.2.1 - t343)) - bt337.2), Go.bits .or .u64 bt339.2.2 (shl .u64 1 bt337.2))) else (none))) else (if t342 = 0 then ((annealref1_bias.f a0).bind fun t344 => (some (bt339.1, wrap64 ((wrap64 (1 - t344)) - bt337.2), bt339.2.2))) else (if t342 = 1 then ((annealref1_bias.f a0).bind fun t345 => (some (bt339.1, wrap64 ((wrap64 (1 - t345)) - bt337.2), bt339.2.2))) else (some (bt339.1, 0, 0)))))))
set_option maxHeartbeats 8000000 in
set_option maxRecDepth 100000 in
theorem annealref1_Unpack.calls (k : Nat) (a0 : Int) (a1 : Int) (r1 : Bool) (r2 : Int) (r3 : Int) (w : World) (h : annealref1_Unpack.f k a0 a1 = some (r1, r2, r3)) :
  Calls Try.prog 60 #[.int .i64 a0, .int .u32 a1] w fun e w' => e = .returned (.tuple #[.bool r1, .int .i64 r2, .int .u64 r3]) ∧ Drawn0 w w' := by
 have H : ((annealref1_Widths.f a0).bind fun bt337 => ((annealref1_parts.f a0 a1).bind fun bt339 => ((annealref1_Class.f k a0 a1).bind fun t342 => (if t342 = 2 then ((annealref1_bias.f a0).bind fun t343 => (if 0 ≤ bt337.2 then (some (bt339.1, wrap64 ((wrap64 (bt339.2.1 - t343)) - bt337.2), Go.bits .or .u64 bt339.2.2 (shl .u64 1 bt337.2))) else (none))) else (if t342 = 0 then ((annealref1_bias.f a0).bind fun t344 => (some (bt339.1, wrap64 ((wrap64 (1 - t344)) - bt337.2), bt339.2.2))) else (if t342 = 1 then ((annealref1_bias.f a0).bind fun t345 => (some (bt339.1, wrap64 ((wrap64 (1 - t345)) - bt337.2), bt339.2.2))) else (some (bt339.1, 0, 0)))))))) = some (r1, r2, r3) := h
 clear h
 replace H := Option.bind_eq_some_iff.mp H
 obtain ⟨⟨t337, t338⟩, A30, H⟩ := H
 replace H : ((annealref1_parts.f a0 a1).bind fun bt339 => ((annealref1_Class.f k a0 a1).bind fun t342 => (if t342 = 2 then ((annealref1_bias.f a0).bind fun t343 => (if 0 ≤ t338 then (some (bt339.1, wrap64 ((wrap64 (bt339.2.1 - t343)) - t338), Go.bits .or .u64 bt339.2.2 (shl .u64 1 t338))) else (none))) else (if t342 = 0 then ((annealref1_bias.f a0).bind fun t344 => (some (bt339.1, wrap64 ((wrap64 (1 - t344)) - t338), bt339.2.2))) else (if t342 = 1 then ((annealref1_bias.f a0).bind fun t345 => (some (bt339.1, wrap64 ((wrap64 (1 - t345)) - t338), bt339.2.2))) else (some (bt339.1, 0, 0))))))) = some (r1, r2, r3) := H
 have A3 := Aside0.mk A30
 clear A30
 replace H := Option.bind_eq_some_iff.mp H
 obtain ⟨⟨t339, t340, t341⟩, A40, H⟩ := H
 replace H : ((annealref1_Class.f k a0 a1).bind fun t342 => (if t342 = 2 then ((annealref1_bias.f a0).bind fun t343 => (if 0 ≤ t338 then (some (t339, wrap64 ((wrap64 (t340 - t343)) - t338), Go.bits .or .u64 t341 (shl .u64 1 t338))) else (none))) else (if t342 = 0 then ((annealref1_bias.f a0).bind fun t344 => (some (t339, wrap64 ((wrap64 (1 - t344)) - t338), t341))) else (if t342 = 1 then ((annealref1_bias.f a0).bind fun t345 => (some (t339, wrap64 ((wrap64 (1 - t345)) - t338), t341))) else (some (t339, 0, 0)))))) = some (r1, r2, r3) := H
 have A4 := Aside0.mk A40
 clear A40
 replace H := Option.bind_eq_some_iff.mp H
 obtain ⟨t342, A50, H⟩ := H
 replace H : (if t342 = 2 then ((annealref1_bias.f a0).bind fun t343 => (if 0 ≤ t338 then (some (t339, wrap64 ((wrap64 (t340 - t343)) - t338), Go.bits .or .u64 t341 (shl .u64 1 t338))) else (none))) else (if t342 = 0 then ((annealref1_bias.f a0).bind fun t344 => (some (t339, wrap64 ((wrap64 (1 - t344)) - t338), t341))) else (if t342 = 1 then ((annealref1_bias.f a0).bind fun t345 => (some (t339, wrap64 ((wrap64 (1 - t345)) - t338), t341))) else (some (t339, 0, 0))))) = some (r1, r2, r3) := H
 have A5 := Aside0.mk A50
 clear A50
 by_cases c6 : t342 = 2
 ·rw [if_pos c6] at H
  have c6b0 : (t342 == 2) = true := beq_iff_eq.mpr c6
  have c6b1 : (t342 != 2) = false := bne_eq_false_iff_eq.mpr c6
  clear c6
  replace H := Option.bind_eq_some_iff.mp H
  obtain ⟨t343, A70, H⟩ := H
  replace H : (if 0 ≤ t338 then (some (t339, wrap64 ((wrap64 (t340 - t343)) - t338), Go.bits .or .u64 t341 (shl .u64 1 t338))) else (none)) = some (r1, r2, r3) := H
  have A7 := Aside0.mk A70
  clear A70
  by_cases c8 : 0 ≤ t338
  ·rw [if_pos c8] at H
   have c8b0 := eq_true c8
   have c8b1 : decide (0 ≤ t338) = true := decide_eq_true c8
   clear c8
   obtain ⟨ji9, hji9⟩ : ∃ j_ : Int, (shl .u64 1 t338) = j_ := ⟨_, rfl⟩
   replace H : (some (t339, wrap64 ((wrap64 (t340 - t343)) - t338), Go.bits .or .u64 t341 (ji9))) = some (r1, r2, r3) := by first | (rw [hji9] at H; exact H) | (simp only [hji9] at H ⊢; exact H)
   (try rw [hji9] at A3)
   (try rw [hji9] at A4)
   (try rw [hji9] at A5)
   (try rw [hji9] at A7)
   have hji9_ : (IntKind.u64.wrap (1 * 2 ^ min t338.toNat 64)) = ji9 := hji9
   have hji9z : t338 ≤ 64 → (IntKind.u64.wrap (1 * 2 ^ t338.toNat)) = ji9 := shl_small hji9
   have hji9u : (IntKind.u64.wrap (2 ^ min t338.toNat 64)) = ji9 := by have h_ := hji9_; rw [Int.one_mul] at h_; exact h_
   have hji9v : t338 ≤ 64 → (IntKind.u64.wrap (2 ^ t338.toNat)) = ji9 := fun hle_ => by have h_ := hji9z hle_; rw [Int.one_mul] at h_; exact h_
   simp only [Option.some.injEq, Prod.mk.injEq] at H
   obtain ⟨rfl, rfl, rfl⟩ := H
   go_enter Try.func60, Try.ntmps60
   go_wp2_with (first | (go_at_call 49; (with_reducible refine (annealref1_Widths.calls a0 t337 t338 _ A3.out).mono ?_); rintro e w' ⟨rfl, ⟨nd, rfl⟩⟩; (try first | exact ⟨rfl, _, World.drewN_drewN _ _ _⟩ | exact ⟨rfl, _, Eq.trans (World.drewN_drewN _ _ _) (congrArg (World.drewN _) (Nat.add_assoc _ _ _))⟩)) | (go_at_call 97; (with_reducible refine (annealref1_parts.calls a0 a1 t339 t340 t341 _ A4.out).mono ?_); rintro e w' ⟨rfl, ⟨nd, rfl⟩⟩; (try first | exact ⟨rfl, _, World.drewN_drewN _ _ _⟩ | exact ⟨rfl, _, Eq.trans (World.drewN_drewN _ _ _) (congrArg (World.drewN _) (Nat.add_assoc _ _ _))⟩)) | (go_at_call 96; (with_reducible refine (annealref1_Class.calls k a0 a1 t342 _ A5.out).mono ?_); rintro e w' ⟨rfl, ⟨nd, rfl⟩⟩; (try first | exact ⟨rfl, _, World.drewN_drewN _ _ _⟩ | exact ⟨rfl, _, Eq.trans (World.drewN_drewN _ _ _) (congrArg (World.drewN _) (Nat.add_assoc _ _ _))⟩)) | (go_at_call 90; (with_reducible refine (annealref1_bias.calls a0 t343 _ A7.out).mono ?_); rintro e w' ⟨rfl, ⟨nd, rfl⟩⟩; (try first | exact ⟨rfl, _, World.drewN_drewN _ _ _⟩ | exact ⟨rfl, _, Eq.trans (World.drewN_drewN _ _ _) (congrArg (World.drewN _) (Nat.add_assoc _ _ _))⟩)))
   repeat (go_quiet (first | (go_at_call 49; (with_reducible refine (annealref1_Widths.calls a0 t337 t338 _ A3.out).mono ?_); rintro e w' ⟨rfl, ⟨nd, rfl⟩⟩; (try first | exact ⟨rfl, _, World.drewN_drewN _ _ _⟩ | exact ⟨rfl, _, Eq.trans (World.drewN_drewN _ _ _) (congrArg (World.drewN _) (Nat.add_assoc _ _ _))⟩)) | (go_at_call 97; (with_reducible refine (annealref1_parts.calls a0 a1 t339 t340 t341 _ A4.out).mono ?_); rintro e w' ⟨rfl, ⟨nd, rfl⟩⟩; (try first | exact ⟨rfl, _, World.drewN_drewN _ _ _⟩ | exact ⟨rfl, _, Eq.trans (World.drewN_drewN _ _ _) (congrArg (World.drewN _) (Nat.add_assoc _ _ _))⟩)) | (go_at_call 96; (with_reducible refine (annealref1_Class.calls k a0 a1 t342 _ A5.out).mono ?_); rintro e w' ⟨rfl, ⟨nd, rfl⟩⟩; (try first | exact ⟨rfl, _, World.drewN_drewN _ _ _⟩ | exact ⟨rfl, _, Eq.trans (World.drewN_drewN _ _ _) (congrArg (World.drewN _) (Nat.add_assoc _ _ _))⟩)) | (go_at_call 90; (with_reducible refine (annealref1_bias.calls a0 t343 _ A7.out).mono ?_); rintro e w' ⟨rfl, ⟨nd, rfl⟩⟩; (try first | exact ⟨rfl, _, World.drewN_drewN _ _ _⟩ | exact ⟨rfl, _, Eq.trans (World.drewN_drewN _ _ _) (congrArg (World.drewN _) (Nat.add_assoc _ _ _))⟩))); try go_wp2_with (first | (go_at_call 49; (with_reducible refine (annealref1_Widths.calls a0 t337 t338 _ A3.out).mono ?_); rintro e w' ⟨rfl, ⟨nd, rfl⟩⟩; (try first | exact ⟨rfl, _, World.drewN_drewN _ _ _⟩ | exact ⟨rfl, _, Eq.trans (World.drewN_drewN _ _ _) (congrArg (World.drewN _) (Nat.add_assoc _ _ _))⟩)) | (go_at_call 97; (with_reducible refine (annealref1_parts.calls a0 a1 t339 t340 t341 _ A4.out).mono ?_); rintro e w' ⟨rfl, ⟨nd, rfl⟩⟩; (try first | exact ⟨rfl, _, World.drewN_drewN _ _ _⟩ | exact ⟨rfl, _, Eq.trans (World.drewN_drewN _ _ _) (congrArg (World.drewN _) (Nat.add_assoc _ _ _))⟩)) | (go_at_call 96; (with_reducible refine (annealref1_Class.calls k a0 a1 t342 _ A5.out).mono ?_); rintro e w' ⟨rfl, ⟨nd, rfl⟩⟩; (try first | exact ⟨rfl, _, World.drewN_drewN _ _ _⟩ | exact ⟨rfl, _, Eq.trans (World.drewN_drewN _ _ _) (congrArg (World.drewN _) (Nat.add_assoc _ _ _))⟩)) | (go_at_call 90; (with_reducible refine (annealref1_bias.calls a0 t343 _ A7.out).mono ?_); rintro e w' ⟨rfl, ⟨nd, rfl⟩⟩; (try first | exact ⟨rfl, _, World.drewN_drewN _ _ _⟩ | exact ⟨rfl, _, Eq.trans (World.drewN_drewN _ _ _) (congrArg (World.drewN _) (Nat.add_assoc _ _ _))⟩))))
   go_ret3
   exact ⟨by first | rfl | (simp; done) | (simp only [← hji9] <;> (first | rfl | (simp; done))) | (simp [*]; done) | (congr 1; (try unfold wrap64); omega) | (congr 1; rw [IntKind.wrap_u64]; omega), by repeat (first | exact Drawn0.refl _ | apply Drawn0.step)⟩
  ·rw [if_neg c8] at H
   exact absurd H (by simp)
 ·rw [if_neg c6] at H
  have c6b0 : (t342 == 2) = false := beq_eq_false_iff_ne.mpr c6
  have c6b1 : (t342 != 2) = true := bne_iff_ne.mpr c6
  by_cases c10 : t342 = 0
  ·rw [if_pos c10] at H
   have c10b0 : (t342 == 0) = true := beq_iff_eq.mpr c10
   have c10b1 : (t342 != 0) = false := bne_eq_false_iff_eq.mpr c10
   clear c10
   replace H := Option.bind_eq_some_iff.mp H
   obtain ⟨t344, A110, H⟩ := H
   replace H : (some (t339, wrap64 ((wrap64 (1 - t344)) - t338), t341)) = some (r1, r2, r3) := H
   have A11 := Aside0.mk A110
   clear A110
   simp only [Option.some.injEq, Prod.mk.injEq] at H
   obtain ⟨rfl, rfl, rfl⟩ := H
   go_enter Try.func60, Try.ntmps60
   go_wp2_with (first | (go_at_call 49; (with_reducible refine (annealref1_Widths.calls a0 t337 t338 _ A3.out).mono ?_); rintro e w' ⟨rfl, ⟨nd, rfl⟩⟩; (try first | exact ⟨rfl, _, World.drewN_drewN _ _ _⟩ | exact ⟨rfl, _, Eq.trans (World.drewN_drewN _ _ _) (congrArg (World.drewN _) (Nat.add_assoc _ _ _))⟩)) | (go_at_call 97; (with_reducible refine (annealref1_parts.calls a0 a1 t339 t340 t341 _ A4.out).mono ?_); rintro e w' ⟨rfl, ⟨nd, rfl⟩⟩; (try first | exact ⟨rfl, _, World.drewN_drewN _ _ _⟩ | exact ⟨rfl, _, Eq.trans (World.drewN_drewN _ _ _) (congrArg (World.drewN _) (Nat.add_assoc _ _ _))⟩)) | (go_at_call 96; (with_reducible refine (annealref1_Class.calls k a0 a1 t342 _ A5.out).mono ?_); rintro e w' ⟨rfl, ⟨nd, rfl⟩⟩; (try first | exact ⟨rfl, _, World.drewN_drewN _ _ _⟩ | exact ⟨rfl, _, Eq.trans (World.drewN_drewN _ _ _) (congrArg (World.drewN _) (Nat.add_assoc _ _ _))⟩)) | (go_at_call 90; (with_reducible refine (annealref1_bias.calls a0 t344 _ A11.out).mono ?_); rintro e w' ⟨rfl, ⟨nd, rfl⟩⟩; (try first | exact ⟨rfl, _, World.drewN_drewN _ _ _⟩ | exact ⟨rfl, _, Eq.trans (World.drewN_drewN _ _ _) (congrArg (World.drewN _) (Nat.add_assoc _ _ _))⟩)))
   repeat (go_quiet (first | (go_at_call 49; (with_reducible refine (annealref1_Widths.calls a0 t337 t338 _ A3.out).mono ?_); rintro e w' ⟨rfl, ⟨nd, rfl⟩⟩; (try first | exact ⟨rfl, _, World.drewN_drewN _ _ _⟩ | exact ⟨rfl, _, Eq.trans (World.drewN_drewN _ _ _) (congrArg (World.drewN _) (Nat.add_assoc _ _ _))⟩)) | (go_at_call 97; (with_reducible refine (annealref1_parts.calls a0 a1 t339 t340 t341 _ A4.out).mono ?_); rintro e w' ⟨rfl, ⟨nd, rfl⟩⟩; (try first | exact ⟨rfl, _, World.drewN_drewN _ _ _⟩ | exact ⟨rfl, _, Eq.trans (World.drewN_drewN _ _ _) (congrArg (World.drewN _) (Nat.add_assoc _ _ _))⟩)) | (go_at_call 96; (with_reducible refine (annealref1_Class.calls k a0 a1 t342 _ A5.out).mono ?_); rintro e w' ⟨rfl, ⟨nd, rfl⟩⟩; (try first | exact ⟨rfl, _, World.drewN_drewN _ _ _⟩ | exact ⟨rfl, _, Eq.trans (World.drewN_drewN _ _ _) (congrArg (World.drewN _) (Nat.add_assoc _ _ _))⟩)) | (go_at_call 90; (with_reducible refine (annealref1_bias.calls a0 t344 _ A11.out).mono ?_); rintro e w' ⟨rfl, ⟨nd, rfl⟩⟩; (try first | exact ⟨rfl, _, World.drewN_drewN _ _ _⟩ | exact ⟨rfl, _, Eq.trans (World.drewN_drewN _ _ _) (congrArg (World.drewN _) (Nat.add_assoc _ _ _))⟩))); try go_wp2_with (first | (go_at_call 49; (with_reducible refine (annealref1_Widths.calls a0 t337 t338 _ A3.out).mono ?_); rintro e w' ⟨rfl, ⟨nd, rfl⟩⟩; (try first | exact ⟨rfl, _, World.drewN_drewN _ _ _⟩ | exact ⟨rfl, _, Eq.trans (World.drewN_drewN _ _ _) (congrArg (World.drewN _) (Nat.add_assoc _ _ _))⟩)) | (go_at_call 97; (with_reducible refine (annealref1_parts.calls a0 a1 t339 t340 t341 _ A4.out).mono ?_); rintro e w' ⟨rfl, ⟨nd, rfl⟩⟩; (try first | exact ⟨rfl, _, World.drewN_drewN _ _ _⟩ | exact ⟨rfl, _, Eq.trans (World.drewN_drewN _ _ _) (congrArg (World.drewN _) (Nat.add_assoc _ _ _))⟩)) | (go_at_call 96; (with_reducible refine (annealref1_Class.calls k a0 a1 t342 _ A5.out).mono ?_); rintro e w' ⟨rfl, ⟨nd, rfl⟩⟩; (try first | exact ⟨rfl, _, World.drewN_drewN _ _ _⟩ | exact ⟨rfl, _, Eq.trans (World.drewN_drewN _ _ _) (congrArg (World.drewN _) (Nat.add_assoc _ _ _))⟩)) | (go_at_call 90; (with_reducible refine (annealref1_bias.calls a0 t344 _ A11.out).mono ?_); rintro e w' ⟨rfl, ⟨nd, rfl⟩⟩; (try first | exact ⟨rfl, _, World.drewN_drewN _ _ _⟩ | exact ⟨rfl, _, Eq.trans (World.drewN_drewN _ _ _) (congrArg (World.drewN _) (Nat.add_assoc _ _ _))⟩))))
   go_ret3
   exact ⟨by first | rfl | (simp; done) | (simp [*]; done) | (congr 1; (try unfold wrap64); omega) | (congr 1; rw [IntKind.wrap_u64]; omega), by repeat (first | exact Drawn0.refl _ | apply Drawn0.step)⟩
  ·rw [if_neg c10] at H
   have c10b0 : (t342 == 0) = false := beq_eq_false_iff_ne.mpr c10
   have c10b1 : (t342 != 0) = true := bne_iff_ne.mpr c10
   by_cases c12 : t342 = 1
   ·rw [if_pos c12] at H
    have c12b0 : (t342 == 1) = true := beq_iff_eq.mpr c12
    have c12b1 : (t342 != 1) = false := bne_eq_false_iff_eq.mpr c12
    clear c12
    replace H := Option.bind_eq_some_iff.mp H
    obtain ⟨t345, A130, H⟩ := H
    replace H : (some (t339, wrap64 ((wrap64 (1 - t345)) - t338), t341)) = some (r1, r2, r3) := H
    have A13 := Aside0.mk A130
    clear A130
    simp only [Option.some.injEq, Prod.mk.injEq] at H
    obtain ⟨rfl, rfl, rfl⟩ := H
    go_enter Try.func60, Try.ntmps60
    go_wp2_with (first | (go_at_call 49; (with_reducible refine (annealref1_Widths.calls a0 t337 t338 _ A3.out).mono ?_); rintro e w' ⟨rfl, ⟨nd, rfl⟩⟩; (try first | exact ⟨rfl, _, World.drewN_drewN _ _ _⟩ | exact ⟨rfl, _, Eq.trans (World.drewN_drewN _ _ _) (congrArg (World.drewN _) (Nat.add_assoc _ _ _))⟩)) | (go_at_call 97; (with_reducible refine (annealref1_parts.calls a0 a1 t339 t340 t341 _ A4.out).mono ?_); rintro e w' ⟨rfl, ⟨nd, rfl⟩⟩; (try first | exact ⟨rfl, _, World.drewN_drewN _ _ _⟩ | exact ⟨rfl, _, Eq.trans (World.drewN_drewN _ _ _) (congrArg (World.drewN _) (Nat.add_assoc _ _ _))⟩)) | (go_at_call 96; (with_reducible refine (annealref1_Class.calls k a0 a1 t342 _ A5.out).mono ?_); rintro e w' ⟨rfl, ⟨nd, rfl⟩⟩; (try first | exact ⟨rfl, _, World.drewN_drewN _ _ _⟩ | exact ⟨rfl, _, Eq.trans (World.drewN_drewN _ _ _) (congrArg (World.drewN _) (Nat.add_assoc _ _ _))⟩)) | (go_at_call 90; (with_reducible refine (annealref1_bias.calls a0 t345 _ A13.out).mono ?_); rintro e w' ⟨rfl, ⟨nd, rfl⟩⟩; (try first | exact ⟨rfl, _, World.drewN_drewN _ _ _⟩ | exact ⟨rfl, _, Eq.trans (World.drewN_drewN _ _ _) (congrArg (World.drewN _) (Nat.add_assoc _ _ _))⟩)))
    repeat (go_quiet (first | (go_at_call 49; (with_reducible refine (annealref1_Widths.calls a0 t337 t338 _ A3.out).mono ?_); rintro e w' ⟨rfl, ⟨nd, rfl⟩⟩; (try first | exact ⟨rfl, _, World.drewN_drewN _ _ _⟩ | exact ⟨rfl, _, Eq.trans (World.drewN_drewN _ _ _) (congrArg (World.drewN _) (Nat.add_assoc _ _ _))⟩)) | (go_at_call 97; (with_reducible refine (annealref1_parts.calls a0 a1 t339 t340 t341 _ A4.out).mono ?_); rintro e w' ⟨rfl, ⟨nd, rfl⟩⟩; (try first | exact ⟨rfl, _, World.drewN_drewN _ _ _⟩ | exact ⟨rfl, _, Eq.trans (World.drewN_drewN _ _ _) (congrArg (World.drewN _) (Nat.add_assoc _ _ _))⟩)) | (go_at_call 96; (with_reducible refine (annealref1_Class.calls k a0 a1 t342 _ A5.out).mono ?_); rintro e w' ⟨rfl, ⟨nd, rfl⟩⟩; (try first | exact ⟨rfl, _, World.drewN_drewN _ _ _⟩ | exact ⟨rfl, _, Eq.trans (World.drewN_drewN _ _ _) (congrArg (World.drewN _) (Nat.add_assoc _ _ _))⟩)) | (go_at_call 90; (with_reducible refine (annealref1_bias.calls a0 t345 _ A13.out).mono ?_); rintro e w' ⟨rfl, ⟨nd, rfl⟩⟩; (try first | exact ⟨rfl, _, World.drewN_drewN _ _ _⟩ | exact ⟨rfl, _, Eq.trans (World.drewN_drewN _ _ _) (congrArg (World.drewN _) (Nat.add_assoc _ _ _))⟩))); try go_wp2_with (first | (go_at_call 49; (with_reducible refine (annealref1_Widths.calls a0 t337 t338 _ A3.out).mono ?_); rintro e w' ⟨rfl, ⟨nd, rfl⟩⟩; (try first | exact ⟨rfl, _, World.drewN_drewN _ _ _⟩ | exact ⟨rfl, _, Eq.trans (World.drewN_drewN _ _ _) (congrArg (World.drewN _) (Nat.add_assoc _ _ _))⟩)) | (go_at_call 97; (with_reducible refine (annealref1_parts.calls a0 a1 t339 t340 t341 _ A4.out).mono ?_); rintro e w' ⟨rfl, ⟨nd, rfl⟩⟩; (try first | exact ⟨rfl, _, World.drewN_drewN _ _ _⟩ | exact ⟨rfl, _, Eq.trans (World.drewN_drewN _ _ _) (congrArg (World.drewN _) (Nat.add_assoc _ _ _))⟩)) | (go_at_call 96; (with_reducible refine (annealref1_Class.calls k a0 a1 t342 _ A5.out).mono ?_); rintro e w' ⟨rfl, ⟨nd, rfl⟩⟩; (try first | exact ⟨rfl, _, World.drewN_drewN _ _ _⟩ | exact ⟨rfl, _, Eq.trans (World.drewN_drewN _ _ _) (congrArg (World.drewN _) (Nat.add_assoc _ _ _))⟩)) | (go_at_call 90; (with_reducible refine (annealref1_bias.calls a0 t345 _ A13.out).mono ?_); rintro e w' ⟨rfl, ⟨nd, rfl⟩⟩; (try first | exact ⟨rfl, _, World.drewN_drewN _ _ _⟩ | exact ⟨rfl, _, Eq.trans (World.drewN_drewN _ _ _) (congrArg (World.drewN _) (Nat.add_assoc _ _ _))⟩))))
    go_ret3
    exact ⟨by first | rfl | (simp; done) | (simp [*]; done) | (congr 1; (try unfold wrap64); omega) | (congr 1; rw [IntKind.wrap_u64]; omega), by repeat (first | exact Drawn0.refl _ | apply Drawn0.step)⟩
   ·rw [if_neg c12] at H
    have c12b0 : (t342 == 1) = false := beq_eq_false_iff_ne.mpr c12
    have c12b1 : (t342 != 1) = true := bne_iff_ne.mpr c12
    simp only [Option.some.injEq, Prod.mk.injEq] at H
    obtain ⟨rfl, rfl, rfl⟩ := H
    go_enter Try.func60, Try.ntmps60
    go_wp2_with (first | (go_at_call 49; (with_reducible refine (annealref1_Widths.calls a0 t337 t338 _ A3.out).mono ?_); rintro e w' ⟨rfl, ⟨nd, rfl⟩⟩; (try first | exact ⟨rfl, _, World.drewN_drewN _ _ _⟩ | exact ⟨rfl, _, Eq.trans (World.drewN_drewN _ _ _) (congrArg (World.drewN _) (Nat.add_assoc _ _ _))⟩)) | (go_at_call 97; (with_reducible refine (annealref1_parts.calls a0 a1 t339 t340 t341 _ A4.out).mono ?_); rintro e w' ⟨rfl, ⟨nd, rfl⟩⟩; (try first | exact ⟨rfl, _, World.drewN_drewN _ _ _⟩ | exact ⟨rfl, _, Eq.trans (World.drewN_drewN _ _ _) (congrArg (World.drewN _) (Nat.add_assoc _ _ _))⟩)) | (go_at_call 96; (with_reducible refine (annealref1_Class.calls k a0 a1 t342 _ A5.out).mono ?_); rintro e w' ⟨rfl, ⟨nd, rfl⟩⟩; (try first | exact ⟨rfl, _, World.drewN_drewN _ _ _⟩ | exact ⟨rfl, _, Eq.trans (World.drewN_drewN _ _ _) (congrArg (World.drewN _) (Nat.add_assoc _ _ _))⟩)))
    repeat (go_quiet (first | (go_at_call 49; (with_reducible refine (annealref1_Widths.calls a0 t337 t338 _ A3.out).mono ?_); rintro e w' ⟨rfl, ⟨nd, rfl⟩⟩; (try first | exact ⟨rfl, _, World.drewN_drewN _ _ _⟩ | exact ⟨rfl, _, Eq.trans (World.drewN_drewN _ _ _) (congrArg (World.drewN _) (Nat.add_assoc _ _ _))⟩)) | (go_at_call 97; (with_reducible refine (annealref1_parts.calls a0 a1 t339 t340 t341 _ A4.out).mono ?_); rintro e w' ⟨rfl, ⟨nd, rfl⟩⟩; (try first | exact ⟨rfl, _, World.drewN_drewN _ _ _⟩ | exact ⟨rfl, _, Eq.trans (World.drewN_drewN _ _ _) (congrArg (World.drewN _) (Nat.add_assoc _ _ _))⟩)) | (go_at_call 96; (with_reducible refine (annealref1_Class.calls k a0 a1 t342 _ A5.out).mono ?_); rintro e w' ⟨rfl, ⟨nd, rfl⟩⟩; (try first | exact ⟨rfl, _, World.drewN_drewN _ _ _⟩ | exact ⟨rfl, _, Eq.trans (World.drewN_drewN _ _ _) (congrArg (World.drewN _) (Nat.add_assoc _ _ _))⟩))); try go_wp2_with (first | (go_at_call 49; (with_reducible refine (annealref1_Widths.calls a0 t337 t338 _ A3.out).mono ?_); rintro e w' ⟨rfl, ⟨nd, rfl⟩⟩; (try first | exact ⟨rfl, _, World.drewN_drewN _ _ _⟩ | exact ⟨rfl, _, Eq.trans (World.drewN_drewN _ _ _) (congrArg (World.drewN _) (Nat.add_assoc _ _ _))⟩)) | (go_at_call 97; (with_reducible refine (annealref1_parts.calls a0 a1 t339 t340 t341 _ A4.out).mono ?_); rintro e w' ⟨rfl, ⟨nd, rfl⟩⟩; (try first | exact ⟨rfl, _, World.drewN_drewN _ _ _⟩ | exact ⟨rfl, _, Eq.trans (World.drewN_drewN _ _ _) (congrArg (World.drewN _) (Nat.add_assoc _ _ _))⟩)) | (go_at_call 96; (with_reducible refine (annealref1_Class.calls k a0 a1 t342 _ A5.out).mono ?_); rintro e w' ⟨rfl, ⟨nd, rfl⟩⟩; (try first | exact ⟨rfl, _, World.drewN_drewN _ _ _⟩ | exact ⟨rfl, _, Eq.trans (World.drewN_drewN _ _ _) (congrArg (World.drewN _) (Nat.add_assoc _ _ _))⟩))))
    go_ret3
    exact ⟨by first | rfl | (simp; done) | (simp [*]; done) | (congr 1; (try unfold wrap64); omega) | (congr 1; rw [IntKind.wrap_u64]; omega), by repeat (first | exact Drawn0.refl _ | apply Drawn0.step)⟩


/-! ### annealref1_Scale: function 31 -/
def annealref1_Scale.f (k : Nat) (a0 : Int) (a1 : Int) (a2 : Int) (a3 : Int) : Option (Int × Bool × Bool × Bool × Bool × Bool) := (annealref1_nans.f k a0 (([a2] : List Int))).bind fun bt350 => (if bt350.1 = true then ((annealref1_Nan.f a0).bind fun t352 => (some (t352, bt350.2, false, false, false, false))) else ((annealref1_Finite.f k a0 a2).bind fun t353 => (if t353 = true then ((annealref1_Unpack.f k a0 a2).bind fun bt354 => ((annealref1_Pack.f k a0 a1 bt354.1 (wrap64 (bt354.2.1 + (mn (mx a3 (-5000)) 5000))) bt354.2.2 false).bind fun bt357 => (some (bt357.1, bt357.2.1, bt357.2.2.1, bt357.2.2.2.1, bt357.2.2.2.2.1, bt357.2.2.2.2.2)))) else ((annealref1_Mask.f a0).bind fun t363 => (some (Go.bits .and .u32 a2 t363, false, false, false, false, false))))))
set_option maxHeartbeats 8000000 in
set_option maxRecDepth 100000 in
theorem annealref1_Scale.calls (k : Nat) (a0 : Int) (a1 : Int) (a2 : Int) (a3 : Int) (r1 : Int) (r2 : Bool) (r3 : Bool) (r4 : Bool) (r5 : Bool) (r6 : Bool) (w : World) (h : annealref1_Scale.f k a0 a1 a2 a3 = some (r1, r2, r3, r4, r5, r6)) :
  Calls Try.prog 31 #[.int .i64 a0, .int .i64 a1, .int .u32 a2, .int .i64 a3] w fun e w' => e = .returned (.tuple #[.int .u32 r1, .agg #[.bool r2, .bool r3, .bool r4, .bool r5, .bool r6]]) ∧ Below w.heap.size w w' := by
 have hu41 := Try.underlying41
 have HB := Aside0.mk (Below.refl w.heap.size w)
 have H : ((annealref1_nans.f k a0 (([a2] : List Int))).bind fun bt350 => (if bt350.1 = true then ((annealref1_Nan.f a0).bind fun t352 => (some (t352, bt350.2, false, false, false, false))) else ((annealref1_Finite.f k a0 a2).bind fun t353 => (if t353 = true then ((annealref1_Unpack.f k a0 a2).bind fun bt354 => ((annealref1_Pack.f k a0 a1 bt354.1 (wrap64 (bt354.2.1 + (mn (mx a3 (-5000)) 5000))) bt354.2.2 false).bind fun bt357 => (some (bt357.1, bt357.2.1, bt357.2.2.1, bt357.2.2.2.1, bt357.2.2.2.2.1, bt357.2.2.2.2.2)))) else ((annealref1_Mask.f a0).bind fun t363 => (some (Go.bits .and .u32 a2 t363, false, false, false, false, false))))))) = some (r1, r2, r3, r4, r5, r6) := h
 clear h
 obtain ⟨y347, hy347⟩ : ∃ y_ : List Int, y_ = (([a2] : List Int)) := ⟨_, rfl⟩
 replace H : ((annealref1_nans.f k a0 y347).bind fun bt350 => (if bt350.1 = true then ((annealref1_Nan.f a0).bind fun t352 => (some (t352, bt350.2, false, false, false, false))) else ((annealref1_Finite.f k a0 a2).bind fun t353 => (if t353 = true then ((annealref1_Unpack.f k a0 a2).bind fun bt354 => ((annealref1_Pack.f k a0 a1 bt354.1 (wrap64 (bt354.2.1 + (mn (mx a3 (-5000)) 5000))) bt354.2.2 false).bind fun bt357 => (some (bt357.1, bt357.2.1, bt357.2.2.1, bt357.2.2.2.1, bt357.2.2.2.2.1, bt357.2.2.2.2.2)))) else ((annealref1_Mask.f a0).bind fun t363 => (some (Go.bits .and .u32 a2 t363, false, false, false, false, false))))))) = some (r1, r2, r3, r4, r5, r6) := by first | (rw [hy347]; with_reducible exact H) | (have H2_ := (Option.bind_some _ _).symm.trans H; rw [hy347]; with_reducible exact H2_) | (have H2_ := (Option.bind_some _ _).symm.trans H; with_reducible exact H2_) | with_reducible exact H | (rw [hy347]; exact H) | exact H
 have Ny347 := Aside0.mk hy347
 clear hy347
 replace H := Option.bind_eq_some_iff.mp H
 obtain ⟨⟨t350, t351⟩, A50, H⟩ := H
 replace H : (if t350 = true then ((annealref1_Nan.f a0).bind fun t352 => (some (t352, t351, false, false, false, false))) else ((annealref1_Finite.f k a0 a2).bind fun t353 => (if t353 = true then ((annealref1_Unpack.f k a0 a2).bind fun bt354 => ((annealref1_Pack.f k a0 a1 bt354.1 (wrap64 (bt354.2.1 + (mn (mx a3 (-5000)) 5000))) bt354.2.2 false).bind fun bt357 => (some (bt357.1, bt357.2.1, bt357.2.2.1, bt357.2.2.2.1, bt357.2.2.2.2.1, bt357.2.2.2.2.2)))) else ((annealref1_Mask.f a0).bind fun t363 => (some (Go.bits .and .u32 a2 t363, false, false, false, false, false)))))) = some (r1, r2, r3, r4, r5, r6) := H
 have A5 := Aside0.mk A50
 clear A50
 by_cases c6 : t350 = true
 ·subst c6
  have H1 : ((annealref1_Nan.f a0).bind fun t352 => (some (t352, t351, false, false, false, false))) = some (r1, r2, r3, r4, r5, r6) := by rw [if_pos rfl] at H; exact H
  clear H
  have H := H1
  clear H1
  replace H := Option.bind_eq_some_iff.mp H
  obtain ⟨t352, A70, H⟩ := H
  replace H : (some (t352, t351, false, false, false, false)) = some (r1, r2, r3, r4, r5, r6) := H
  have A7 := Aside0.mk A70
  clear A70
  simp only [Option.some.injEq, Prod.mk.injEq] at H
  obtain ⟨rfl, rfl, rfl, rfl, rfl, rfl⟩ := H
  go_enter Try.func31, Try.ntmps31
  go_wp2_with (first | ((with_reducible refine gate_dst (N := 9) rfl ?_); refine box_event ?hg (N := 9) ?hd (cs := F5) (t := 41) ?hr ?_; (case hd => rfl); (case hg => rfl); (case hr => first | (go_simp; done) | (go_simp; rfl)); intro gb346 hg w8 hbox hb; have n0_ := Aside0.mk (below_step (bl0 HB.out) hb); have n1_ := Aside0.mk (hbox); have n2_ := Aside0.mk ((by rw [hg]; exact (below_size (bl0 HB.out)) : w.heap.size ≤ gb346)); have n3_ := n2_; clear HB; have HB := n0_; have BK346 := n1_; have GW346 := n2_; have GE346 := n3_; clear n0_ n1_ n2_ n3_; clear hb hbox hg) | ((with_reducible refine gate_dst (N := 18) rfl ?_); refine Kd.R_lit (Kd.int .u32) _ 22 ?hg (N := 18) ?hd (xs := ([a2] : List Int)) (inner := [.int .u32 a2]) (ok := fun _ => True) (okp := fun _ => True) ?hr ?hp (fun _ hk => hk) trivial (Below.refl _ _) (Nat.le_refl _) (by simp) ?_; (case hd => rfl); (case hg => rfl); (case hr => first | (go_simp; done) | (go_simp; rfl)); (case hp => exact (Reps.one (show Kd.M (Kd.int .u32) _ _ _ a2 [.int .u32 a2] from rfl) (Reps.none _ _))); intro v348 w9 ho10 hb hg_ hnew_; clear hg_ hnew_; (first | rw [← Ny347.out] at ho10 | (simp only [Int.reduceToNat] at ho10; rw [← Ny347.out] at ho10)); have n0_ := Aside0.mk (Kd.R_lower ho10 (below_size (bl1 HB.out GE346.out))); have n1_ := Aside0.mk (blk_below (g := gb346) (o := o5_ false false false false false 41) (bv BK346.out) hb); have n2_ := Aside0.mk (below_step (bl1 HB.out GE346.out) hb); clear BK346; clear HB; have HO349 := n0_; have BK346 := n1_; have HB := n2_; clear n0_ n1_ n2_; clear hb ho10; obtain ⟨Ao11, co11, eo11⟩ := Kd.R_slice HO349.out; subst eo11) | ((with_reducible refine gate_callee (f := 57) rfl ?_); refine goesL_ (some 19) rfl rfl Try.func57 (by kernel_rfl) rfl #[.int .i64 a0, .slice Ao11 y347.length co11] rfl gl ?_; (with_reducible refine (annealref1_nans.calls k a0 _ _ y347 true t351 _ ?side1 ?side2 A5.out).mono ?_); (case side1 => repeat (first | exact (Kd.R_reads' HO349.out).2.2 | (with_reducible refine Kd.C_alloc ?_ _) | (with_reducible refine Kd.C_drewN ?_ _) | (with_reducible refine Kd.C_drew ?_))); (case side2 => exact (Kd.R_reads' HO349.out).2.1); rintro e w' ⟨rfl, ⟨nd, rfl⟩⟩; refine ⟨_, rfl, ?_⟩; (try (rw [drewN_self w9]; generalize hq_ : World.drewN w9 _ = w9; have n0_ : Aside0 (Kd.R (Kd.int .u32) 22 w9 w.heap.size (fun _ => True) (.slice Ao11 y347.length co11) y347) := ⟨by rw [← hq_]; exact (by (with_reducible repeat (first | apply Kd.R_alloc | apply Kd.R_drewN | apply Kd.R_drew)); exact HO349.out)⟩; have n1_ : Aside0 (w9.heap[gb346]? = some (o5_ false false false false false 41)) := ⟨by rw [← hq_]; exact (bv BK346.out)⟩; have n2_ : Aside0 (Below w.heap.size w w9) := ⟨by rw [← hq_]; exact (bl1 HB.out GE346.out)⟩; clear HO349 BK346 HB hq_; have HO349 := n0_; have BK346 := n1_; have HB := n2_; clear n0_ n1_ n2_))) | ((with_reducible refine gate_callee (f := 43) rfl ?_); refine goesL_ (some 24) rfl rfl Try.func43 (by kernel_rfl) rfl #[.int .i64 a0] rfl gl ?_; (with_reducible refine (annealref1_Nan.calls a0 t352 _ A7.out).mono ?_); rintro e w' ⟨rfl, ⟨nd, rfl⟩⟩; refine ⟨_, rfl, ?_⟩; (try (rw [drewN_self w9]; generalize hq_ : World.drewN w9 _ = w9; have n0_ : Aside0 (Kd.R (Kd.int .u32) 22 w9 w.heap.size (fun _ => True) (.slice Ao11 y347.length co11) y347) := ⟨by rw [← hq_]; exact (by (with_reducible repeat (first | apply Kd.R_alloc | apply Kd.R_drewN | apply Kd.R_drew)); exact HO349.out)⟩; have n1_ : Aside0 (w9.heap[gb346]? = some (o5_ false false false false false 41)) := ⟨by rw [← hq_]; exact (bv BK346.out)⟩; have n2_ : Aside0 (Below w.heap.size w w9) := ⟨by rw [← hq_]; exact (bl1 HB.out GE346.out)⟩; clear HO349 BK346 HB hq_; have HO349 := n0_; have BK346 := n1_; have HB := n2_; clear n0_ n1_ n2_)); obtain ⟨hcz12_0, hcz12_1, hcz12_2, hcz12_3, hcz12_4⟩ := bc5 BK346.out; obtain ⟨hfz12_0, hfz12_1, hfz12_2, hfz12_3, hfz12_4⟩ := bf5 BK346.out))
  refine bodyPost_ret (results_tc rfl _ _ gb346 41 #[.bool t351, .bool false, .bool false, .bool false, .bool false] (0, 0) _ rfl (by (with_reducible repeat first | apply bd | apply be | apply ba); refine blk_put (cs := q5_ t351 false false false false) ?_ 4 _ rfl; (with_reducible repeat first | apply bd | apply be | apply ba); refine blk_put (cs := q5_ t351 false false false false) ?_ 3 _ rfl; (with_reducible repeat first | apply bd | apply be | apply ba); refine blk_put (cs := q5_ t351 false false false false) ?_ 2 _ rfl; (with_reducible repeat first | apply bd | apply be | apply ba); refine blk_put (cs := q5_ t351 false false false false) ?_ 1 _ rfl; (with_reducible repeat first | apply bd | apply be | apply ba); refine blk_put (cs := F5) ?_ 0 _ rfl; (with_reducible repeat first | apply bd | apply be | apply ba); exact BK346.out) Try.underlying41 rfl (by kernel_rfl)) rfl ?_
  exact ⟨by first | rfl | (simp [errW_none, errW_some] <;> rfl) | (simp [*, errW_none, errW_some] <;> rfl), bl1 HB.out GE346.out⟩
 ·replace c6 := Bool.eq_false_iff.mpr c6
  subst c6
  have H1 : ((annealref1_Finite.f k a0 a2).bind fun t353 => (if t353 = true then ((annealref1_Unpack.f k a0 a2).bind fun bt354 => ((annealref1_Pack.f k a0 a1 bt354.1 (wrap64 (bt354.2.1 + (mn (mx a3 (-5000)) 5000))) bt354.2.2 false).bind fun bt357 => (some (bt357.1, bt357.2.1, bt357.2.2.1, bt357.2.2.2.1, bt357.2.2.2.2.1, bt357.2.2.2.2.2)))) else ((annealref1_Mask.f a0).bind fun t363 => (some (Go.bits .and .u32 a2 t363, false, false, false, false, false))))) = some (r1, r2, r3, r4, r5, r6) := by rw [if_neg (show ¬ (false = true) by decide)] at H; exact H
  clear H
  have H := H1
  clear H1
  replace H := Option.bind_eq_some_iff.mp H
  obtain ⟨t353, A130, H⟩ := H
  replace H : (if t353 = true then ((annealref1_Unpack.f k a0 a2).bind fun bt354 => ((annealref1_Pack.f k a0 a1 bt354.1 (wrap64 (bt354.2.1 + (mn (mx a3 (-5000)) 5000))) bt354.2.2 false).bind fun bt357 => (some (bt357.1, bt357.2.1, bt357.2.2.1, bt357.2.2.2.1, bt357.2.2.2.2.1, bt357.2.2.2.2.2)))) else ((annealref1_Mask.f a0).bind fun t363 => (some (Go.bits .and .u32 a2 t363, false, false, false, false, false)))) = some (r1, r2, r3, r4, r5, r6) := H
  have A13 := Aside0.mk A130
  clear A130
  by_cases c14 : t353 = true
  ·subst c14
   have H1 : ((annealref1_Unpack.f k a0 a2).bind fun bt354 => ((annealref1_Pack.f k a0 a1 bt354.1 (wrap64 (bt354.2.1 + (mn (mx a3 (-5000)) 5000))) bt354.2.2 false).bind fun bt357 => (some (bt357.1, bt357.2.1, bt357.2.2.1, bt357.2.2.2.1, bt357.2.2.2.2.1, bt357.2.2.2.2.2)))) = some (r1, r2, r3, r4, r5, r6) := by rw [if_pos rfl] at H; exact H
   clear H
   have H := H1
   clear H1
   replace H := Option.bind_eq_some_iff.mp H
   obtain ⟨⟨t354, t355, t356⟩, A150, H⟩ := H
   replace H : ((annealref1_Pack.f k a0 a1 t354 (wrap64 (t355 + (mn (mx a3 (-5000)) 5000))) t356 false).bind fun bt357 => (some (bt357.1, bt357.2.1, bt357.2.2.1, bt357.2.2.2.1, bt357.2.2.2.2.1, bt357.2.2.2.2.2))) = some (r1, r2, r3, r4, r5, r6) := H
   have A15 := Aside0.mk A150
   clear A150
   obtain ⟨ji16, hji16⟩ : ∃ j_ : Int, (mx a3 (-5000)) = j_ := ⟨_, rfl⟩
   replace H : ((annealref1_Pack.f k a0 a1 t354 (wrap64 (t355 + (mn (ji16) 5000))) t356 false).bind fun bt357 => (some (bt357.1, bt357.2.1, bt357.2.2.1, bt357.2.2.2.1, bt357.2.2.2.2.1, bt357.2.2.2.2.2))) = some (r1, r2, r3, r4, r5, r6) := by first | (rw [hji16] at H; exact H) | (simp only [hji16] at H ⊢; exact H)
   (try rw [hji16] at A5)
   (try rw [hji16] at A13)
   (try rw [hji16] at A15)
   have hji16_ : (if a3 < (-5000) then (-5000) else a3) = ji16 := hji16
   obtain ⟨ji17, hji17⟩ : ∃ j_ : Int, (mn (ji16) 5000) = j_ := ⟨_, rfl⟩
   replace H : ((annealref1_Pack.f k a0 a1 t354 (wrap64 (t355 + (ji17))) t356 false).bind fun bt357 => (some (bt357.1, bt357.2.1, bt357.2.2.1, bt357.2.2.2.1, bt357.2.2.2.2.1, bt357.2.2.2.2.2))) = some (r1, r2, r3, r4, r5, r6) := by first | (rw [hji17] at H; exact H) | (simp only [hji17] at H ⊢; exact H)
   (try rw [hji17] at A5)
   (try rw [hji17] at A13)
   (try rw [hji17] at A15)
   have hji17_ : (if 5000 < (ji16) then 5000 else (ji16)) = ji17 := hji17
   replace H := Option.bind_eq_some_iff.mp H
   obtain ⟨⟨t357, t358, t359, t360, t361, t362⟩, A180, H⟩ := H
   replace H : (some (t357, t358, t359, t360, t361, t362)) = some (r1, r2, r3, r4, r5, r6) := H
   have A18 := Aside0.mk A180
   clear A180
   simp only [Option.some.injEq, Prod.mk.injEq] at H
   obtain ⟨rfl, rfl, rfl, rfl, rfl, rfl⟩ := H
   go_enter Try.func31, Try.ntmps31
   go_wp2_with (first | ((with_reducible refine gate_dst (N := 9) rfl ?_); refine box_event ?hg (N := 9) ?hd (cs := F5) (t := 41) ?hr ?_; (case hd => rfl); (case hg => rfl); (case hr => first | (go_simp; done) | (go_simp; rfl)); intro gb346 hg w19 hbox hb; have n0_ := Aside0.mk (below_step (bl0 HB.out) hb); have n1_ := Aside0.mk (hbox); have n2_ := Aside0.mk ((by rw [hg]; exact (below_size (bl0 HB.out)) : w.heap.size ≤ gb346)); have n3_ := n2_; clear HB; have HB := n0_; have BK346 := n1_; have GW346 := n2_; have GE346 := n3_; clear n0_ n1_ n2_ n3_; clear hb hbox hg) | ((with_reducible refine gate_dst (N := 18) rfl ?_); refine Kd.R_lit (Kd.int .u32) _ 22 ?hg (N := 18) ?hd (xs := ([a2] : List Int)) (inner := [.int .u32 a2]) (ok := fun _ => True) (okp := fun _ => True) ?hr ?hp (fun _ hk => hk) trivial (Below.refl _ _) (Nat.le_refl _) (by simp) ?_; (case hd => rfl); (case hg => rfl); (case hr => first | (go_simp; done) | (go_simp; rfl)); (case hp => exact (Reps.one (show Kd.M (Kd.int .u32) _ _ _ a2 [.int .u32 a2] from rfl) (Reps.none _ _))); intro v348 w20 ho21 hb hg_ hnew_; clear hg_ hnew_; (first | rw [← Ny347.out] at ho21 | (simp only [Int.reduceToNat] at ho21; rw [← Ny347.out] at ho21)); have n0_ := Aside0.mk (Kd.R_lower ho21 (below_size (bl1 HB.out GE346.out))); have n1_ := Aside0.mk (blk_below (g := gb346) (o := o5_ false false false false false 41) (bv BK346.out) hb); have n2_ := Aside0.mk (below_step (bl1 HB.out GE346.out) hb); clear BK346; clear HB; have HO349 := n0_; have BK346 := n1_; have HB := n2_; clear n0_ n1_ n2_; clear hb ho21; obtain ⟨Ao22, co22, eo22⟩ := Kd.R_slice HO349.out; subst eo22) | ((with_reducible refine gate_callee (f := 57) rfl ?_); refine goesL_ (some 19) rfl rfl Try.func57 (by kernel_rfl) rfl #[.int .i64 a0, .slice Ao22 y347.length co22] rfl gl ?_; (with_reducible refine (annealref1_nans.calls k a0 _ _ y347 false t351 _ ?side1 ?side2 A5.out).mono ?_); (case side1 => repeat (first | exact (Kd.R_reads' HO349.out).2.2 | (with_reducible refine Kd.C_alloc ?_ _) | (with_reducible refine Kd.C_drewN ?_ _) | (with_reducible refine Kd.C_drew ?_))); (case side2 => exact (Kd.R_reads' HO349.out).2.1); rintro e w' ⟨rfl, ⟨nd, rfl⟩⟩; refine ⟨_, rfl, ?_⟩; (try (rw [drewN_self w20]; generalize hq_ : World.drewN w20 _ = w20; have n0_ : Aside0 (Kd.R (Kd.int .u32) 22 w20 w.heap.size (fun _ => True) (.slice Ao22 y347.length co22) y347) := ⟨by rw [← hq_]; exact (by (with_reducible repeat (first | apply Kd.R_alloc | apply Kd.R_drewN | apply Kd.R_drew)); exact HO349.out)⟩; have n1_ : Aside0 (w20.heap[gb346]? = some (o5_ false false false false false 41)) := ⟨by rw [← hq_]; exact (bv BK346.out)⟩; have n2_ : Aside0 (Below w.heap.size w w20) := ⟨by rw [← hq_]; exact (bl1 HB.out GE346.out)⟩; clear HO349 BK346 HB hq_; have HO349 := n0_; have BK346 := n1_; have HB := n2_; clear n0_ n1_ n2_))) | ((with_reducible refine gate_callee (f := 58) rfl ?_); refine goesL_ (some 29) rfl rfl Try.func58 (by kernel_rfl) rfl #[.int .i64 a0, .int .u32 a2] rfl gl ?_; (with_reducible refine (annealref1_Finite.calls k a0 a2 true _ A13.out).mono ?_); rintro e w' ⟨rfl, ⟨nd, rfl⟩⟩; refine ⟨_, rfl, ?_⟩; (try (rw [drewN_self w20]; generalize hq_ : World.drewN w20 _ = w20; have n0_ : Aside0 (Kd.R (Kd.int .u32) 22 w20 w.heap.size (fun _ => True) (.slice Ao22 y347.length co22) y347) := ⟨by rw [← hq_]; exact (by (with_reducible repeat (first | apply Kd.R_alloc | apply Kd.R_drewN | apply Kd.R_drew)); exact HO349.out)⟩; have n1_ : Aside0 (w20.heap[gb346]? = some (o5_ false false false false false 41)) := ⟨by rw [← hq_]; exact (bv BK346.out)⟩; have n2_ : Aside0 (Below w.heap.size w w20) := ⟨by rw [← hq_]; exact (bl1 HB.out GE346.out)⟩; clear HO349 BK346 HB hq_; have HO349 := n0_; have BK346 := n1_; have HB := n2_; clear n0_ n1_ n2_))) | ((with_reducible refine gate_callee (f := 60) rfl ?_); refine goesL_ (some 39) rfl rfl Try.func60 (by kernel_rfl) rfl #[.int .i64 a0, .int .u32 a2] rfl gl ?_; (with_reducible refine (annealref1_Unpack.calls k a0 a2 t354 t355 t356 _ A15.out).mono ?_); rintro e w' ⟨rfl, ⟨nd, rfl⟩⟩; refine ⟨_, rfl, ?_⟩; (try (rw [drewN_self w20]; generalize hq_ : World.drewN w20 _ = w20; have n0_ : Aside0 (Kd.R (Kd.int .u32) 22 w20 w.heap.size (fun _ => True) (.slice Ao22 y347.length co22) y347) := ⟨by rw [← hq_]; exact (by (with_reducible repeat (first | apply Kd.R_alloc | apply Kd.R_drewN | apply Kd.R_drew)); exact HO349.out)⟩; have n1_ : Aside0 (w20.heap[gb346]? = some (o5_ false false false false false 41)) := ⟨by rw [← hq_]; exact (bv BK346.out)⟩; have n2_ : Aside0 (Below w.heap.size w w20) := ⟨by rw [← hq_]; exact (bl1 HB.out GE346.out)⟩; clear HO349 BK346 HB hq_; have HO349 := n0_; have BK346 := n1_; have HB := n2_; clear n0_ n1_ n2_))) | ((with_reducible refine gate_callee (f := 52) rfl ?_); refine goesL_ (some 52) rfl rfl Try.func52 (by kernel_rfl) rfl #[.int .i64 a0, .int .i64 a1, .bool t354, .int .i64 (wrap64 (t355 + (ji17))), .int .u64 t356, .bool false] rfl (by (try simp only [List.map_toArray, List.map_cons, List.map_nil]); first | done | (simp only [hji17]; rfl) | rfl | (simp only [List.length_drop, List.length_take]; rfl)) ?_; (with_reducible refine (annealref1_Pack.calls k a0 a1 t354 (wrap64 (t355 + (ji17))) t356 false t357 t358 t359 t360 t361 t362 _ A18.out).mono ?_); rintro e w23 ⟨rfl, hb⟩; refine ⟨_, rfl, ?_⟩; have n0_ := Aside0.mk (Kd.R_below (by (with_reducible repeat (first | apply Kd.R_alloc | apply Kd.R_drewN | apply Kd.R_drew)); exact HO349.out) hb); have n1_ := Aside0.mk (blk_below (g := gb346) (o := o5_ false false false false false 41) (bv BK346.out) hb); have n2_ := Aside0.mk (below_step (bl1 HB.out GE346.out) hb); clear HO349; clear BK346; clear HB; have HO349 := n0_; have BK346 := n1_; have HB := n2_; clear n0_ n1_ n2_; obtain ⟨hcz24_0, hcz24_1, hcz24_2, hcz24_3, hcz24_4⟩ := bc5 BK346.out; obtain ⟨hfz24_0, hfz24_1, hfz24_2, hfz24_3, hfz24_4⟩ := bf5 BK346.out))
   refine bodyPost_ret (results_tc rfl _ _ gb346 41 #[.bool t358, .bool t359, .bool t360, .bool t361, .bool t362] (0, 0) _ rfl (by (with_reducible repeat first | apply bd | apply be | apply ba); refine blk_put (cs := q5_ t358 t359 t360 t361 false) ?_ 4 _ rfl; (with_reducible repeat first | apply bd | apply be | apply ba); refine blk_put (cs := q5_ t358 t359 t360 false false) ?_ 3 _ rfl; (with_reducible repeat first | apply bd | apply be | apply ba); refine blk_put (cs := q5_ t358 t359 false false false) ?_ 2 _ rfl; (with_reducible repeat first | apply bd | apply be | apply ba); refine blk_put (cs := q5_ t358 false false false false) ?_ 1 _ rfl; (with_reducible repeat first | apply bd | apply be | apply ba); refine blk_put (cs := F5) ?_ 0 _ rfl; (with_reducible repeat first | apply bd | apply be | apply ba); exact BK346.out) Try.underlying41 rfl (by kernel_rfl)) rfl ?_
   exact ⟨by first | rfl | (simp [errW_none, errW_some] <;> rfl) | (simp only [← hji16, ← hji17]; first | rfl | (simp [errW_none, errW_some] <;> rfl)) | (simp [*, errW_none, errW_some] <;> rfl), bl1 HB.out GE346.out⟩
  ·replace c14 := Bool.eq_false_iff.mpr c14
   subst c14
   have H1 : ((annealref1_Mask.f a0).bind fun t363 => (some (Go.bits .and .u32 a2 t363, false, false, false, false, false))) = some (r1, r2, r3, r4, r5, r6) := by rw [if_neg (show ¬ (false = true) by decide)] at H; exact H
   clear H
   have H := H1
   clear H1
   replace H := Option.bind_eq_some_iff.mp H
   obtain ⟨t363, A250, H⟩ := H
   replace H : (some (Go.bits .and .u32 a2 t363, false, false, false, false, false)) = some (r1, r2, r3, r4, r5, r6) := H
   have A25 := Aside0.mk A250
   clear A250
   simp only [Option.some.injEq, Prod.mk.injEq] at H
   obtain ⟨rfl, rfl, rfl, rfl, rfl, rfl⟩ := H
   go_enter Try.func31, Try.ntmps31
   go_wp2_with (first | ((with_reducible refine gate_dst (N := 9) rfl ?_); refine box_event ?hg (N := 9) ?hd (cs := F5) (t := 41) ?hr ?_; (case hd => rfl); (case hg => rfl); (case hr => first | (go_simp; done) | (go_simp; rfl)); intro gb346 hg w26 hbox hb; have n0_ := Aside0.mk (below_step (bl0 HB.out) hb); have n1_ := Aside0.mk (hbox); have n2_ := Aside0.mk ((by rw [hg]; exact (below_size (bl0 HB.out)) : w.heap.size ≤ gb346)); have n3_ := n2_; clear HB; have HB := n0_; have BK346 := n1_; have GW346 := n2_; have GE346 := n3_; clear n0_ n1_ n2_ n3_; clear hb hbox hg) | ((with_reducible refine gate_dst (N := 18) rfl ?_); refine Kd.R_lit (Kd.int .u32) _ 22 ?hg (N := 18) ?hd (xs := ([a2] : List Int)) (inner := [.int .u32 a2]) (ok := fun _ => True) (okp := fun _ => True) ?hr ?hp (fun _ hk => hk) trivial (Below.refl _ _) (Nat.le_refl _) (by simp) ?_; (case hd => rfl); (case hg => rfl); (case hr => first | (go_simp; done) | (go_simp; rfl)); (case hp => exact (Reps.one (show Kd.M (Kd.int .u32) _ _ _ a2 [.int .u32 a2] from rfl) (Reps.none _ _))); intro v348 w27 ho28 hb hg_ hnew_; clear hg_ hnew_; (first | rw [← Ny347.out] at ho28 | (simp only [Int.reduceToNat] at ho28; rw [← Ny347.out] at ho28)); have n0_ := Aside0.mk (Kd.R_lower ho28 (below_size (bl1 HB.out GE346.out))); have n1_ := Aside0.mk (blk_below (g := gb346) (o := o5_ false false false false false 41) (bv BK346.out) hb); have n2_ := Aside0.mk (below_step (bl1 HB.out GE346.out) hb); clear BK346; clear HB; have HO349 := n0_; have BK346 := n1_; have HB := n2_; clear n0_ n1_ n2_; clear hb ho28; obtain ⟨Ao29, co29, eo29⟩ := Kd.R_slice HO349.out; subst eo29) | ((with_reducible refine gate_callee (f := 57) rfl ?_); refine goesL_ (some 19) rfl rfl Try.func57 (by kernel_rfl) rfl #[.int .i64 a0, .slice Ao29 y347.length co29] rfl gl ?_; (with_reducible refine (annealref1_nans.calls k a0 _ _ y347 false t351 _ ?side1 ?side2 A5.out).mono ?_); (case side1 => repeat (first | exact (Kd.R_reads' HO349.out).2.2 | (with_reducible refine Kd.C_alloc ?_ _) | (with_reducible refine Kd.C_drewN ?_ _) | (with_reducible refine Kd.C_drew ?_))); (case side2 => exact (Kd.R_reads' HO349.out).2.1); rintro e w' ⟨rfl, ⟨nd, rfl⟩⟩; refine ⟨_, rfl, ?_⟩; (try (rw [drewN_self w27]; generalize hq_ : World.drewN w27 _ = w27; have n0_ : Aside0 (Kd.R (Kd.int .u32) 22 w27 w.heap.size (fun _ => True) (.slice Ao29 y347.length co29) y347) := ⟨by rw [← hq_]; exact (by (with_reducible repeat (first | apply Kd.R_alloc | apply Kd.R_drewN | apply Kd.R_drew)); exact HO349.out)⟩; have n1_ : Aside0 (w27.heap[gb346]? = some (o5_ false false false false false 41)) := ⟨by rw [← hq_]; exact (bv BK346.out)⟩; have n2_ : Aside0 (Below w.heap.size w w27) := ⟨by rw [← hq_]; exact (bl1 HB.out GE346.out)⟩; clear HO349 BK346 HB hq_; have HO349 := n0_; have BK346 := n1_; have HB := n2_; clear n0_ n1_ n2_))) | ((with_reducible refine gate_callee (f := 58) rfl ?_); refine goesL_ (some 29) rfl rfl Try.func58 (by kernel_rfl) rfl #[.int .i64 a0, .int .u32 a2] rfl gl ?_; (with_reducible refine (annealref1_Finite.calls k a0 a2 false _ A13.out).mono ?_); rintro e w' ⟨rfl, ⟨nd, rfl⟩⟩; refine ⟨_, rfl, ?_⟩; (try (rw [drewN_self w27]; generalize hq_ : World.drewN w27 _ = w27; have n0_ : Aside0 (Kd.R (Kd.int .u32) 22 w27 w.heap.size (fun _ => True) (.slice Ao29 y347.length co29) y347) := ⟨by rw [← hq_]; exact (by (with_reducible repeat (first | apply Kd.R_alloc | apply Kd.R_drewN | apply Kd.R_drew)); exact HO349.out)⟩; have n1_ : Aside0 (w27.heap[gb346]? = some (o5_ false false false false false 41)) := ⟨by rw [← hq_]; exact (bv BK346.out)⟩; have n2_ : Aside0 (Below w.heap.size w w27) := ⟨by rw [← hq_]; exact (bl1 HB.out GE346.out)⟩; clear HO349 BK346 HB hq_; have HO349 := n0_; have BK346 := n1_; have HB := n2_; clear n0_ n1_ n2_))) | ((with_reducible refine gate_callee (f := 59) rfl ?_); refine goesL_ (some 33) rfl rfl Try.func59 (by kernel_rfl) rfl #[.int .i64 a0] rfl gl ?_; (with_reducible refine (annealref1_Mask.calls a0 t363 _ A25.out).mono ?_); rintro e w' ⟨rfl, ⟨nd, rfl⟩⟩; refine ⟨_, rfl, ?_⟩; (try (rw [drewN_self w27]; generalize hq_ : World.drewN w27 _ = w27; have n0_ : Aside0 (Kd.R (Kd.int .u32) 22 w27 w.heap.size (fun _ => True) (.slice Ao29 y347.length co29) y347) := ⟨by rw [← hq_]; exact (by (with_reducible repeat (first | apply Kd.R_alloc | apply Kd.R_drewN | apply Kd.R_drew)); exact HO349.out)⟩; have n1_ : Aside0 (w27.heap[gb346]? = some (o5_ false false false false false 41)) := ⟨by rw [← hq_]; exact (bv BK346.out)⟩; have n2_ : Aside0 (Below w.heap.size w w27) := ⟨by rw [← hq_]; exact (bl1 HB.out GE346.out)⟩; clear HO349 BK346 HB hq_; have HO349 := n0_; have BK346 := n1_; have HB := n2_; clear n0_ n1_ n2_)); obtain ⟨hcz30_0, hcz30_1, hcz30_2, hcz30_3, hcz30_4⟩ := bc5 BK346.out; obtain ⟨hfz30_0, hfz30_1, hfz30_2, hfz30_3, hfz30_4⟩ := bf5 BK346.out))
   refine bodyPost_ret (results_tc rfl _ _ gb346 41 #[.bool false, .bool false, .bool false, .bool false, .bool false] (0, 0) _ rfl (by (with_reducible repeat first | apply bd | apply be | apply ba); refine blk_put (cs := F5) ?_ 4 _ rfl; (with_reducible repeat first | apply bd | apply be | apply ba); refine blk_put (cs := F5) ?_ 3 _ rfl; (with_reducible repeat first | apply bd | apply be | apply ba); refine blk_put (cs := F5) ?_ 2 _ rfl; (with_reducible repeat first | apply bd | apply be | apply ba); refine blk_put (cs := F5) ?_ 1 _ rfl; (with_reducible repeat first | apply bd | apply be | apply ba); refine blk_put (cs := F5) ?_ 0 _ rfl; (with_reducible repeat first | apply bd | apply be | apply ba); exact BK346.out) Try.underlying41 rfl (by kernel_rfl)) rfl ?_
   exact ⟨by first | rfl | (simp [errW_none, errW_some] <;> rfl) | (simp [*, errW_none, errW_some] <;> rfl), bl1 HB.out GE346.out⟩


/-! ### annealseat_Num: function 35 -/
def annealseat_Num.j0 : Nat → Int → Option (Int)
 |0, _ => none
 |k + 1, x11 => some x11
def annealseat_Num.f (k : Nat) (a0 : Int) (a1 : Int) : Option (Int) := (annealref1_Widths.f a0).bind fun bt364 => (if 0 ≤ bt364.1 then (if 0 ≤ bt364.2 then (if (shl .u32 3 bt364.2) = 0 then (none) else (if 0 ≤ (wrap64 (bt364.2 - 1)) then (if (shl .u32 9 bt364.2) = 0 then (none) else ((some (([0, 1, ((shl .u32 1 bt364.2) - 1) % 4294967296, shl .u32 1 bt364.2, shl .u32 ((((shl .u32 1 bt364.1) - 1) % 4294967296) / 2) bt364.2, ((shl .u32 ((((shl .u32 1 bt364.1) - 1) % 4294967296) / 2) bt364.2) + 1) % 4294967296, ((shl .u32 ((((shl .u32 1 bt364.1) - 1) % 4294967296) / 2) bt364.2) - 1) % 4294967296, ((shl .u32 ((((shl .u32 1 bt364.1) - 1) % 4294967296) / 2) bt364.2) + (shl .u32 1 bt364.2)) % 4294967296, ((shl .u32 ((((shl .u32 1 bt364.1) - 1) % 4294967296) / 2) bt364.2) + (Int.tmod (a1 / 16) (shl .u32 3 bt364.2))) % 4294967296, ((shl .u32 (((shl .u32 1 bt364.1) - 1) % 4294967296) bt364.2) - 1) % 4294967296, shl .u32 (((shl .u32 1 bt364.1) - 1) % 4294967296) bt364.2, Go.bits .or .u32 (shl .u32 (((shl .u32 1 bt364.1) - 1) % 4294967296) bt364.2) 1, Go.bits .or .u32 (shl .u32 (((shl .u32 1 bt364.1) - 1) % 4294967296) bt364.2) (shl .u32 1 (wrap64 (bt364.2 - 1))), ((shl .u32 ((((shl .u32 1 bt364.1) - 1) % 4294967296) / 2) bt364.2) - (Int.tmod (a1 / 16) (shl .u32 9 bt364.2))) % 4294967296, a1 / 16] : List Int) : List Int)).bind fun y366 => (if 0 ≤ (Int.tmod a1 15) then (if (Int.tmod a1 15) < (y366.length : Int) then ((annealref1_Mask.f a0).bind fun t370 => (if (a1 / 2147483648) = 1 then ((annealref1_Zero.f a0 true).bind fun t371 => (annealseat_Num.j0 k (Go.bits .or .u32 (Go.bits .and .u32 (rd y366 (Int.tmod a1 15)) t370) t371))) else (annealseat_Num.j0 k (Go.bits .and .u32 (rd y366 (Int.tmod a1 15)) t370)))) else (none)) else (none)))) else (none))) else (none)) else (none))
def annealseat_Num.T5 : Bool × List (List Nat × List Nat) := (true, [([], []), ([0], [0]), ([1], [1]), ([], []), ([3], [3]), ([], []), ([], []), ([6], [6]), ([], []), ([8], [8]), ([], []), ([], []), ([11], [11]), ([10, 12], [10, 12]), ([], []), ([], []), ([], []), ([16], [16]), ([15, 17], [15, 17]), ([14, 18], [14, 18]), ([], []), ([], []), ([20, 21], [20, 21]), ([22], [22]), ([], []), ([], []), ([24, 25], [24, 25]), ([], []), ([], []), ([27, 28], [27, 28]), ([29], [29]), ([], []), ([], []), ([31, 32], [31, 32]), ([], []), ([34], [34]), ([35], [35]), ([33, 36], [33, 36]), ([], []), ([], []), ([], []), ([40], [40]), ([39, 41], [39, 41]), ([38, 42], [38, 42]), ([], []), ([2, 4, 5, 7, 9, 13, 19, 23, 26, 30, 37, 43, 44], [2, 4, 5, 7, 9, 13, 19, 23, 26, 30, 37, 43, 44]), ([45, 0, 1, 2, 3, 4, 5, 6, 7, 8, 9, 10, 11, 12, 13, 14, 15, 16, 17, 18, 19, 20, 21, 22, 23, 24, 25, 26, 27, 28, 29, 30, 31, 32, 33, 34, 35, 36, 37, 38, 39, 40, 41, 42, 43, 44, 45], [45])])
def annealseat_Num.B5 : List Nat := [0, 1, 3, 0, 8, 0, 0, 64, 0, 256, 0, 0, 2048, 7168, 0, 0, 0, 65536, 229376, 507904, 0, 0, 3145728, 7340032, 0, 0, 50331648, 0, 0, 402653184, 939524096, 0, 0, 6442450944, 0, 17179869184, 51539607552, 135291469824, 0, 0, 0, 1099511627776, 3848290697216, 8521215115264, 0, 35184372088831, 70368744177663]
theorem annealseat_Num.tab5 : rtab .any (opsOf Try.f35 5) = annealseat_Num.T5 := by kernel_rfl
theorem annealseat_Num.bits5 : waitsOk annealseat_Num.T5.2 annealseat_Num.B5 = true := by kernel_rfl
def annealseat_Num.T6 : Bool × List (List Nat × List Nat) := (true, [([], []), ([], []), ([1], [1]), ([0, 2], [0, 2]), ([3], [3]), ([], []), ([5], [5]), ([4, 6], [4, 6]), ([7, 6, 0, 1, 2, 3, 4, 5, 6, 7], [7])])
def annealseat_Num.B6 : List Nat := [0, 0, 2, 7, 15, 0, 32, 127, 255]
theorem annealseat_Num.tab6 : rtab .any (opsOf Try.f35 6) = annealseat_Num.T6 := by kernel_rfl
theorem annealseat_Num.bits6 : waitsOk annealseat_Num.T6.2 annealseat_Num.B6 = true := by kernel_rfl
set_option maxHeartbeats 8000000 in
set_option maxRecDepth 100000 in
theorem annealseat_Num.calls (k : Nat) (a0 : Int) (a1 : Int) (r : Int) (w : World) (h : annealseat_Num.f k a0 a1 = some r) :
  Calls Try.prog 35 #[.int .i64 a0, .int .u32 a1] w fun e w' => e = .returned (.int .u32 r) ∧ Below w.heap.size w w' := by
 have HB := Aside0.mk (Below.refl w.heap.size w)
 have H : ((annealref1_Widths.f a0).bind fun bt364 => (if 0 ≤ bt364.1 then (if 0 ≤ bt364.2 then (if (shl .u32 3 bt364.2) = 0 then (none) else (if 0 ≤ (wrap64 (bt364.2 - 1)) then (if (shl .u32 9 bt364.2) = 0 then (none) else ((some (([0, 1, ((shl .u32 1 bt364.2) - 1) % 4294967296, shl .u32 1 bt364.2, shl .u32 ((((shl .u32 1 bt364.1) - 1) % 4294967296) / 2) bt364.2, ((shl .u32 ((((shl .u32 1 bt364.1) - 1) % 4294967296) / 2) bt364.2) + 1) % 4294967296, ((shl .u32 ((((shl .u32 1 bt364.1) - 1) % 4294967296) / 2) bt364.2) - 1) % 4294967296, ((shl .u32 ((((shl .u32 1 bt364.1) - 1) % 4294967296) / 2) bt364.2) + (shl .u32 1 bt364.2)) % 4294967296, ((shl .u32 ((((shl .u32 1 bt364.1) - 1) % 4294967296) / 2) bt364.2) + (Int.tmod (a1 / 16) (shl .u32 3 bt364.2))) % 4294967296, ((shl .u32 (((shl .u32 1 bt364.1) - 1) % 4294967296) bt364.2) - 1) % 4294967296, shl .u32 (((shl .u32 1 bt364.1) - 1) % 4294967296) bt364.2, Go.bits .or .u32 (shl .u32 (((shl .u32 1 bt364.1) - 1) % 4294967296) bt364.2) 1, Go.bits .or .u32 (shl .u32 (((shl .u32 1 bt364.1) - 1) % 4294967296) bt364.2) (shl .u32 1 (wrap64 (bt364.2 - 1))), ((shl .u32 ((((shl .u32 1 bt364.1) - 1) % 4294967296) / 2) bt364.2) - (Int.tmod (a1 / 16) (shl .u32 9 bt364.2))) % 4294967296, a1 / 16] : List Int) : List Int)).bind fun y366 => (if 0 ≤ (Int.tmod a1 15) then (if (Int.tmod a1 15) < (y366.length : Int) then ((annealref1_Mask.f a0).bind fun t370 => (if (a1 / 2147483648) = 1 then ((annealref1_Zero.f a0 true).bind fun t371 => (annealseat_Num.j0 k (Go.bits .or .u32 (Go.bits .and .u32 (rd y366 (Int.tmod a1 15)) t370) t371))) else (annealseat_Num.j0 k (Go.bits .and .u32 (rd y366 (Int.tmod a1 15)) t370)))) else (none)) else (none)))) else (none))) else (none)) else (none))) = some r := h
 clear h
 replace H := Option.bind_eq_some_iff.mp H
 obtain ⟨⟨t364, t365⟩, A30, H⟩ := H
 replace H : (if 0 ≤ t364 then (if 0 ≤ t365 then (if (shl .u32 3 t365) = 0 then (none) else (if 0 ≤ (wrap64 (t365 - 1)) then (if (shl .u32 9 t365) = 0 then (none) else ((some (([0, 1, ((shl .u32 1 t365) - 1) % 4294967296, shl .u32 1 t365, shl .u32 ((((shl .u32 1 t364) - 1) % 4294967296) / 2) t365, ((shl .u32 ((((shl .u32 1 t364) - 1) % 4294967296) / 2) t365) + 1) % 4294967296, ((shl .u32 ((((shl .u32 1 t364) - 1) % 4294967296) / 2) t365) - 1) % 4294967296, ((shl .u32 ((((shl .u32 1 t364) - 1) % 4294967296) / 2) t365) + (shl .u32 1 t365)) % 4294967296, ((shl .u32 ((((shl .u32 1 t364) - 1) % 4294967296) / 2) t365) + (Int.tmod (a1 / 16) (shl .u32 3 t365))) % 4294967296, ((shl .u32 (((shl .u32 1 t364) - 1) % 4294967296) t365) - 1) % 4294967296, shl .u32 (((shl .u32 1 t364) - 1) % 4294967296) t365, Go.bits .or .u32 (shl .u32 (((shl .u32 1 t364) - 1) % 4294967296) t365) 1, Go.bits .or .u32 (shl .u32 (((shl .u32 1 t364) - 1) % 4294967296) t365) (shl .u32 1 (wrap64 (t365 - 1))), ((shl .u32 ((((shl .u32 1 t364) - 1) % 4294967296) / 2) t365) - (Int.tmod (a1 / 16) (shl .u32 9 t365))) % 4294967296, a1 / 16] : List Int) : List Int)).bind fun y366 => (if 0 ≤ (Int.tmod a1 15) then (if (Int.tmod a1 15) < (y366.length : Int) then ((annealref1_Mask.f a0).bind fun t370 => (if (a1 / 2147483648) = 1 then ((annealref1_Zero.f a0 true).bind fun t371 => (annealseat_Num.j0 k (Go.bits .or .u32 (Go.bits .and .u32 (rd y366 (Int.tmod a1 15)) t370) t371))) else (annealseat_Num.j0 k (Go.bits .and .u32 (rd y366 (Int.tmod a1 15)) t370)))) else (none)) else (none)))) else (none))) else (none)) else (none)) = some r := H
 have A3 := Aside0.mk A30
 clear A30
 by_cases c4 : 0 ≤ t364
 ·rw [if_pos c4] at H
  have c4b0 := eq_true c4
  have c4b1 : decide (0 ≤ t364) = true := decide_eq_true c4
  clear c4
  obtain ⟨ji5, hji5⟩ : ∃ j_ : Int, (shl .u32 1 t364) = j_ := ⟨_, rfl⟩
  replace H : (if 0 ≤ t365 then (if (shl .u32 3 t365) = 0 then (none) else (if 0 ≤ (wrap64 (t365 - 1)) then (if (shl .u32 9 t365) = 0 then (none) else ((some (([0, 1, ((shl .u32 1 t365) - 1) % 4294967296, shl .u32 1 t365, shl .u32 ((((ji5) - 1) % 4294967296) / 2) t365, ((shl .u32 ((((ji5) - 1) % 4294967296) / 2) t365) + 1) % 4294967296, ((shl .u32 ((((ji5) - 1) % 4294967296) / 2) t365) - 1) % 4294967296, ((shl .u32 ((((ji5) - 1) % 4294967296) / 2) t365) + (shl .u32 1 t365)) % 4294967296, ((shl .u32 ((((ji5) - 1) % 4294967296) / 2) t365) + (Int.tmod (a1 / 16) (shl .u32 3 t365))) % 4294967296, ((shl .u32 (((ji5) - 1) % 4294967296) t365) - 1) % 4294967296, shl .u32 (((ji5) - 1) % 4294967296) t365, Go.bits .or .u32 (shl .u32 (((ji5) - 1) % 4294967296) t365) 1, Go.bits .or .u32 (shl .u32 (((ji5) - 1) % 4294967296) t365) (shl .u32 1 (wrap64 (t365 - 1))), ((shl .u32 ((((ji5) - 1) % 4294967296) / 2) t365) - (Int.tmod (a1 / 16) (shl .u32 9 t365))) % 4294967296, a1 / 16] : List Int) : List Int)).bind fun y366 => (if 0 ≤ (Int.tmod a1 15) then (if (Int.tmod a1 15) < (y366.length : Int) then ((annealref1_Mask.f a0).bind fun t370 => (if (a1 / 2147483648) = 1 then ((annealref1_Zero.f a0 true).bind fun t371 => (annealseat_Num.j0 k (Go.bits .or .u32 (Go.bits .and .u32 (rd y366 (Int.tmod a1 15)) t370) t371))) else (annealseat_Num.j0 k (Go.bits .and .u32 (rd y366 (Int.tmod a1 15)) t370)))) else (none)) else (none)))) else (none))) else (none)) = some r := by first | (rw [hji5] at H; exact H) | (simp only [hji5] at H ⊢; exact H)
  (try rw [hji5] at A3)
  have hji5_ : (IntKind.u32.wrap (1 * 2 ^ min t364.toNat 32)) = ji5 := hji5
  have hji5z : t364 ≤ 32 → (IntKind.u32.wrap (1 * 2 ^ t364.toNat)) = ji5 := shl_small hji5
  have hji5u : (IntKind.u32.wrap (2 ^ min t364.toNat 32)) = ji5 := by have h_ := hji5_; rw [Int.one_mul] at h_; exact h_
  have hji5v : t364 ≤ 32 → (IntKind.u32.wrap (2 ^ t364.toNat)) = ji5 := fun hle_ => by have h_ := hji5z hle_; rw [Int.one_mul] at h_; exact h_
  obtain ⟨ji6, hji6⟩ : ∃ j_ : Int, (((ji5) - 1) % 4294967296) = j_ := ⟨_, rfl⟩
  replace H : (if 0 ≤ t365 then (if (shl .u32 3 t365) = 0 then (none) else (if 0 ≤ (wrap64 (t365 - 1)) then (if (shl .u32 9 t365) = 0 then (none) else ((some (([0, 1, ((shl .u32 1 t365) - 1) % 4294967296, shl .u32 1 t365, shl .u32 ((ji6) / 2) t365, ((shl .u32 ((ji6) / 2) t365) + 1) % 4294967296, ((shl .u32 ((ji6) / 2) t365) - 1) % 4294967296, ((shl .u32 ((ji6) / 2) t365) + (shl .u32 1 t365)) % 4294967296, ((shl .u32 ((ji6) / 2) t365) + (Int.tmod (a1 / 16) (shl .u32 3 t365))) % 4294967296, ((shl .u32 (ji6) t365) - 1) % 4294967296, shl .u32 (ji6) t365, Go.bits .or .u32 (shl .u32 (ji6) t365) 1, Go.bits .or .u32 (shl .u32 (ji6) t365) (shl .u32 1 (wrap64 (t365 - 1))), ((shl .u32 ((ji6) / 2) t365) - (Int.tmod (a1 / 16) (shl .u32 9 t365))) % 4294967296, a1 / 16] : List Int) : List Int)).bind fun y366 => (if 0 ≤ (Int.tmod a1 15) then (if (Int.tmod a1 15) < (y366.length : Int) then ((annealref1_Mask.f a0).bind fun t370 => (if (a1 / 2147483648) = 1 then ((annealref1_Zero.f a0 true).bind fun t371 => (annealseat_Num.j0 k (Go.bits .or .u32 (Go.bits .and .u32 (rd y366 (Int.tmod a1 15)) t370) t371))) else (annealseat_Num.j0 k (Go.bits .and .u32 (rd y366 (Int.tmod a1 15)) t370)))) else (none)) else (none)))) else (none))) else (none)) = some r := by first | (rw [hji6] at H; exact H) | (simp only [hji6] at H ⊢; exact H)
  (try rw [hji6] at A3)
  have hji6l : 0 ≤ ji6 := by rw [← hji6]; exact Int.emod_nonneg _ (by decide)
  have hji6h : ji6 ≤ 4294967295 := by have := Int.emod_lt_of_pos (((ji5) - 1)) (show (0 : Int) < 4294967296 by decide); omega
  have hji6w : (IntKind.u32.wrap ((ji5) - 1)) = ji6 := (u32_w _).trans hji6
  (try (have hji6_ := hji6; simp only [Int.add_emod_emod, Int.emod_add_emod, Int.sub_emod_emod, Int.emod_sub_emod] at hji6_))
  by_cases c7 : 0 ≤ t365
  ·rw [if_pos c7] at H
   have c7b0 := eq_true c7
   have c7b1 : decide (0 ≤ t365) = true := decide_eq_true c7
   clear c7
   obtain ⟨ji8, hji8⟩ : ∃ j_ : Int, (shl .u32 ((ji6) / 2) t365) = j_ := ⟨_, rfl⟩
   replace H : (if (shl .u32 3 t365) = 0 then (none) else (if 0 ≤ (wrap64 (t365 - 1)) then (if (shl .u32 9 t365) = 0 then (none) else ((some (([0, 1, ((shl .u32 1 t365) - 1) % 4294967296, shl .u32 1 t365, ji8, ((ji8) + 1) % 4294967296, ((ji8) - 1) % 4294967296, ((ji8) + (shl .u32 1 t365)) % 4294967296, ((ji8) + (Int.tmod (a1 / 16) (shl .u32 3 t365))) % 4294967296, ((shl .u32 (ji6) t365) - 1) % 4294967296, shl .u32 (ji6) t365, Go.bits .or .u32 (shl .u32 (ji6) t365) 1, Go.bits .or .u32 (shl .u32 (ji6) t365) (shl .u32 1 (wrap64 (t365 - 1))), ((ji8) - (Int.tmod (a1 / 16) (shl .u32 9 t365))) % 4294967296, a1 / 16] : List Int) : List Int)).bind fun y366 => (if 0 ≤ (Int.tmod a1 15) then (if (Int.tmod a1 15) < (y366.length : Int) then ((annealref1_Mask.f a0).bind fun t370 => (if (a1 / 2147483648) = 1 then ((annealref1_Zero.f a0 true).bind fun t371 => (annealseat_Num.j0 k (Go.bits .or .u32 (Go.bits .and .u32 (rd y366 (Int.tmod a1 15)) t370) t371))) else (annealseat_Num.j0 k (Go.bits .and .u32 (rd y366 (Int.tmod a1 15)) t370)))) else (none)) else (none)))) else (none))) = some r := by first | (rw [hji8] at H; exact H) | (simp only [hji8] at H ⊢; exact H)
   (try rw [hji8] at A3)
   have hji8_ : (IntKind.u32.wrap (((ji6) / 2) * 2 ^ min t365.toNat 32)) = ji8 := hji8
   have hji8z : t365 ≤ 32 → (IntKind.u32.wrap (((ji6) / 2) * 2 ^ t365.toNat)) = ji8 := shl_small hji8
   have c9b0 := eq_true (of_decide_eq_true (by first | (with_reducible assumption) | assumption) : 0 ≤ t365)
   obtain ⟨ji10, hji10⟩ : ∃ j_ : Int, (shl .u32 1 t365) = j_ := ⟨_, rfl⟩
   replace H : (if (shl .u32 3 t365) = 0 then (none) else (if 0 ≤ (wrap64 (t365 - 1)) then (if (shl .u32 9 t365) = 0 then (none) else ((some (([0, 1, ((ji10) - 1) % 4294967296, ji10, ji8, ((ji8) + 1) % 4294967296, ((ji8) - 1) % 4294967296, ((ji8) + (ji10)) % 4294967296, ((ji8) + (Int.tmod (a1 / 16) (shl .u32 3 t365))) % 4294967296, ((shl .u32 (ji6) t365) - 1) % 4294967296, shl .u32 (ji6) t365, Go.bits .or .u32 (shl .u32 (ji6) t365) 1, Go.bits .or .u32 (shl .u32 (ji6) t365) (shl .u32 1 (wrap64 (t365 - 1))), ((ji8) - (Int.tmod (a1 / 16) (shl .u32 9 t365))) % 4294967296, a1 / 16] : List Int) : List Int)).bind fun y366 => (if 0 ≤ (Int.tmod a1 15) then (if (Int.tmod a1 15) < (y366.length : Int) then ((annealref1_Mask.f a0).bind fun t370 => (if (a1 / 2147483648) = 1 then ((annealref1_Zero.f a0 true).bind fun t371 => (annealseat_Num.j0 k (Go.bits .or .u32 (Go.bits .and .u32 (rd y366 (Int.tmod a1 15)) t370) t371))) else (annealseat_Num.j0 k (Go.bits .and .u32 (rd y366 (Int.tmod a1 15)) t370)))) else (none)) else (none)))) else (none))) = some r := by first | (rw [hji10] at H; exact H) | (simp only [hji10] at H ⊢; exact H)
   (try rw [hji10] at A3)
   have hji10_ : (IntKind.u32.wrap (1 * 2 ^ min t365.toNat 32)) = ji10 := hji10
   have hji10z : t365 ≤ 32 → (IntKind.u32.wrap (1 * 2 ^ t365.toNat)) = ji10 := shl_small hji10
   have hji10u : (IntKind.u32.wrap (2 ^ min t365.toNat 32)) = ji10 := by have h_ := hji10_; rw [Int.one_mul] at h_; exact h_
   have hji10v : t365 ≤ 32 → (IntKind.u32.wrap (2 ^ t365.toNat)) = ji10 := fun hle_ => by have h_ := hji10z hle_; rw [Int.one_mul] at h_; exact h_
   obtain ⟨ji11, hji11⟩ : ∃ j_ : Int, (((ji10) - 1) % 4294967296) = j_ := ⟨_, rfl⟩
   replace H : (if (shl .u32 3 t365) = 0 then (none) else (if 0 ≤ (wrap64 (t365 - 1)) then (if (shl .u32 9 t365) = 0 then (none) else ((some (([0, 1, ji11, ji10, ji8, ((ji8) + 1) % 4294967296, ((ji8) - 1) % 4294967296, ((ji8) + (ji10)) % 4294967296, ((ji8) + (Int.tmod (a1 / 16) (shl .u32 3 t365))) % 4294967296, ((shl .u32 (ji6) t365) - 1) % 4294967296, shl .u32 (ji6) t365, Go.bits .or .u32 (shl .u32 (ji6) t365) 1, Go.bits .or .u32 (shl .u32 (ji6) t365) (shl .u32 1 (wrap64 (t365 - 1))), ((ji8) - (Int.tmod (a1 / 16) (shl .u32 9 t365))) % 4294967296, a1 / 16] : List Int) : List Int)).bind fun y366 => (if 0 ≤ (Int.tmod a1 15) then (if (Int.tmod a1 15) < (y366.length : Int) then ((annealref1_Mask.f a0).bind fun t370 => (if (a1 / 2147483648) = 1 then ((annealref1_Zero.f a0 true).bind fun t371 => (annealseat_Num.j0 k (Go.bits .or .u32 (Go.bits .and .u32 (rd y366 (Int.tmod a1 15)) t370) t371))) else (annealseat_Num.j0 k (Go.bits .and .u32 (rd y366 (Int.tmod a1 15)) t370)))) else (none)) else (none)))) else (none))) = some r := by first | (rw [hji11] at H; exact H) | (simp only [hji11] at H ⊢; exact H)
   (try rw [hji11] at A3)
   have hji11l : 0 ≤ ji11 := by rw [← hji11]; exact Int.emod_nonneg _ (by decide)
   have hji11h : ji11 ≤ 4294967295 := by have := Int.emod_lt_of_pos (((ji10) - 1)) (show (0 : Int) < 4294967296 by decide); omega
   have hji11w : (IntKind.u32.wrap ((ji10) - 1)) = ji11 := (u32_w _).trans hji11
   (try (have hji11_ := hji11; simp only [Int.add_emod_emod, Int.emod_add_emod, Int.sub_emod_emod, Int.emod_sub_emod] at hji11_))
   have c12b0 := eq_true (of_decide_eq_true (by first | (with_reducible assumption) | assumption) : 0 ≤ t365)
   obtain ⟨ji13, hji13⟩ : ∃ j_ : Int, (((ji8) + 1) % 4294967296) = j_ := ⟨_, rfl⟩
   replace H : (if (shl .u32 3 t365) = 0 then (none) else (if 0 ≤ (wrap64 (t365 - 1)) then (if (shl .u32 9 t365) = 0 then (none) else ((some (([0, 1, ji11, ji10, ji8, ji13, ((ji8) - 1) % 4294967296, ((ji8) + (ji10)) % 4294967296, ((ji8) + (Int.tmod (a1 / 16) (shl .u32 3 t365))) % 4294967296, ((shl .u32 (ji6) t365) - 1) % 4294967296, shl .u32 (ji6) t365, Go.bits .or .u32 (shl .u32 (ji6) t365) 1, Go.bits .or .u32 (shl .u32 (ji6) t365) (shl .u32 1 (wrap64 (t365 - 1))), ((ji8) - (Int.tmod (a1 / 16) (shl .u32 9 t365))) % 4294967296, a1 / 16] : List Int) : List Int)).bind fun y366 => (if 0 ≤ (Int.tmod a1 15) then (if (Int.tmod a1 15) < (y366.length : Int) then ((annealref1_Mask.f a0).bind fun t370 => (if (a1 / 2147483648) = 1 then ((annealref1_Zero.f a0 true).bind fun t371 => (annealseat_Num.j0 k (Go.bits .or .u32 (Go.bits .and .u32 (rd y366 (Int.tmod a1 15)) t370) t371))) else (annealseat_Num.j0 k (Go.bits .and .u32 (rd y366 (Int.tmod a1 15)) t370)))) else (none)) else (none)))) else (none))) = some r := by first | (rw [hji13] at H; exact H) | (simp only [hji13] at H ⊢; exact H)
   (try rw [hji13] at A3)
   have hji13l : 0 ≤ ji13 := by rw [← hji13]; exact Int.emod_nonneg _ (by decide)
   have hji13h : ji13 ≤ 4294967295 := by have := Int.emod_lt_of_pos (((ji8) + 1)) (show (0 : Int) < 4294967296 by decide); omega
   have hji13w : (IntKind.u32.wrap ((ji8) + 1)) = ji13 := (u32_w _).trans hji13
   (try (have hji13_ := hji13; simp only [Int.add_emod_emod, Int.emod_add_emod, Int.sub_emod_emod, Int.emod_sub_emod] at hji13_))
   obtain ⟨ji14, hji14⟩ : ∃ j_ : Int, (((ji8) - 1) % 4294967296) = j_ := ⟨_, rfl⟩
   replace H : (if (shl .u32 3 t365) = 0 then (none) else (if 0 ≤ (wrap64 (t365 - 1)) then (if (shl .u32 9 t365) = 0 then (none) else ((some (([0, 1, ji11, ji10, ji8, ji13, ji14, ((ji8) + (ji10)) % 4294967296, ((ji8) + (Int.tmod (a1 / 16) (shl .u32 3 t365))) % 4294967296, ((shl .u32 (ji6) t365) - 1) % 4294967296, shl .u32 (ji6) t365, Go.bits .or .u32 (shl .u32 (ji6) t365) 1, Go.bits .or .u32 (shl .u32 (ji6) t365) (shl .u32 1 (wrap64 (t365 - 1))), ((ji8) - (Int.tmod (a1 / 16) (shl .u32 9 t365))) % 4294967296, a1 / 16] : List Int) : List Int)).bind fun y366 => (if 0 ≤ (Int.tmod a1 15) then (if (Int.tmod a1 15) < (y366.length : Int) then ((annealref1_Mask.f a0).bind fun t370 => (if (a1 / 2147483648) = 1 then ((annealref1_Zero.f a0 true).bind fun t371 => (annealseat_Num.j0 k (Go.bits .or .u32 (Go.bits .and .u32 (rd y366 (Int.tmod a1 15)) t370) t371))) else (annealseat_Num.j0 k (Go.bits .and .u32 (rd y366 (Int.tmod a1 15)) t370)))) else (none)) else (none)))) else (none))) = some r := by first | (rw [hji14] at H; exact H) | (simp only [hji14] at H ⊢; exact H)
   (try rw [hji14] at A3)
   have hji14l : 0 ≤ ji14 := by rw [← hji14]; exact Int.emod_nonneg _ (by decide)
   have hji14h : ji14 ≤ 4294967295 := by have := Int.emod_lt_of_pos (((ji8) - 1)) (show (0 : Int) < 4294967296 by decide); omega
   have hji14w : (IntKind.u32.wrap ((ji8) - 1)) = ji14 := (u32_w _).trans hji14
   (try (have hji14_ := hji14; simp only [Int.add_emod_emod, Int.emod_add_emod, Int.sub_emod_emod, Int.emod_sub_emod] at hji14_))
   have c15b0 := eq_true (of_decide_eq_true (by first | (with_reducible assumption) | assumption) : 0 ≤ t365)
   obtain ⟨ji16, hji16⟩ : ∃ j_ : Int, (((ji8) + (ji10)) % 4294967296) = j_ := ⟨_, rfl⟩
   replace H : (if (shl .u32 3 t365) = 0 then (none) else (if 0 ≤ (wrap64 (t365 - 1)) then (if (shl .u32 9 t365) = 0 then (none) else ((some (([0, 1, ji11, ji10, ji8, ji13, ji14, ji16, ((ji8) + (Int.tmod (a1 / 16) (shl .u32 3 t365))) % 4294967296, ((shl .u32 (ji6) t365) - 1) % 4294967296, shl .u32 (ji6) t365, Go.bits .or .u32 (shl .u32 (ji6) t365) 1, Go.bits .or .u32 (shl .u32 (ji6) t365) (shl .u32 1 (wrap64 (t365 - 1))), ((ji8) - (Int.tmod (a1 / 16) (shl .u32 9 t365))) % 4294967296, a1 / 16] : List Int) : List Int)).bind fun y366 => (if 0 ≤ (Int.tmod a1 15) then (if (Int.tmod a1 15) < (y366.length : Int) then ((annealref1_Mask.f a0).bind fun t370 => (if (a1 / 2147483648) = 1 then ((annealref1_Zero.f a0 true).bind fun t371 => (annealseat_Num.j0 k (Go.bits .or .u32 (Go.bits .and .u32 (rd y366 (Int.tmod a1 15)) t370) t371))) else (annealseat_Num.j0 k (Go.bits .and .u32 (rd y366 (Int.tmod a1 15)) t370)))) else (none)) else (none)))) else (none))) = some r := by first | (rw [hji16] at H; exact H) | (simp only [hji16] at H ⊢; exact H)
   (try rw [hji16] at A3)
   have hji16l : 0 ≤ ji16 := by rw [← hji16]; exact Int.emod_nonneg _ (by decide)
   have hji16h : ji16 ≤ 4294967295 := by have := Int.emod_lt_of_pos (((ji8) + (ji10))) (show (0 : Int) < 4294967296 by decide); omega
   have hji16w : (IntKind.u32.wrap ((ji8) + (ji10))) = ji16 := (u32_w _).trans hji16
   (try (have hji16_ := hji16; simp only [Int.add_emod_emod, Int.emod_add_emod, Int.sub_emod_emod, Int.emod_sub_emod] at hji16_))
   have c17b0 := eq_true (of_decide_eq_true (by first | (with_reducible assumption) | assumption) : 0 ≤ t365)
   obtain ⟨ji18, hji18⟩ : ∃ j_ : Int, (shl .u32 3 t365) = j_ := ⟨_, rfl⟩
   replace H : (if (ji18) = 0 then (none) else (if 0 ≤ (wrap64 (t365 - 1)) then (if (shl .u32 9 t365) = 0 then (none) else ((some (([0, 1, ji11, ji10, ji8, ji13, ji14, ji16, ((ji8) + (Int.tmod (a1 / 16) (ji18))) % 4294967296, ((shl .u32 (ji6) t365) - 1) % 4294967296, shl .u32 (ji6) t365, Go.bits .or .u32 (shl .u32 (ji6) t365) 1, Go.bits .or .u32 (shl .u32 (ji6) t365) (shl .u32 1 (wrap64 (t365 - 1))), ((ji8) - (Int.tmod (a1 / 16) (shl .u32 9 t365))) % 4294967296, a1 / 16] : List Int) : List Int)).bind fun y366 => (if 0 ≤ (Int.tmod a1 15) then (if (Int.tmod a1 15) < (y366.length : Int) then ((annealref1_Mask.f a0).bind fun t370 => (if (a1 / 2147483648) = 1 then ((annealref1_Zero.f a0 true).bind fun t371 => (annealseat_Num.j0 k (Go.bits .or .u32 (Go.bits .and .u32 (rd y366 (Int.tmod a1 15)) t370) t371))) else (annealseat_Num.j0 k (Go.bits .and .u32 (rd y366 (Int.tmod a1 15)) t370)))) else (none)) else (none)))) else (none))) = some r := by first | (rw [hji18] at H; exact H) | (simp only [hji18] at H ⊢; exact H)
   (try rw [hji18] at A3)
   have hji18_ : (IntKind.u32.wrap (3 * 2 ^ min t365.toNat 32)) = ji18 := hji18
   have hji18z : t365 ≤ 32 → (IntKind.u32.wrap (3 * 2 ^ t365.toNat)) = ji18 := shl_small hji18
   by_cases c19 : (ji18) = 0
   ·rw [if_pos c19] at H
    exact absurd H (by simp)
   ·rw [if_neg c19] at H
    have c19b0 : ((ji18) == 0) = false := beq_eq_false_iff_ne.mpr c19
    have c19b1 : ((ji18) != 0) = true := bne_iff_ne.mpr c19
    obtain ⟨ji20, hji20⟩ : ∃ j_ : Int, (((ji8) + (Int.tmod (a1 / 16) (ji18))) % 4294967296) = j_ := ⟨_, rfl⟩
    replace H : (if 0 ≤ (wrap64 (t365 - 1)) then (if (shl .u32 9 t365) = 0 then (none) else ((some (([0, 1, ji11, ji10, ji8, ji13, ji14, ji16, ji20, ((shl .u32 (ji6) t365) - 1) % 4294967296, shl .u32 (ji6) t365, Go.bits .or .u32 (shl .u32 (ji6) t365) 1, Go.bits .or .u32 (shl .u32 (ji6) t365) (shl .u32 1 (wrap64 (t365 - 1))), ((ji8) - (Int.tmod (a1 / 16) (shl .u32 9 t365))) % 4294967296, a1 / 16] : List Int) : List Int)).bind fun y366 => (if 0 ≤ (Int.tmod a1 15) then (if (Int.tmod a1 15) < (y366.length : Int) then ((annealref1_Mask.f a0).bind fun t370 => (if (a1 / 2147483648) = 1 then ((annealref1_Zero.f a0 true).bind fun t371 => (annealseat_Num.j0 k (Go.bits .or .u32 (Go.bits .and .u32 (rd y366 (Int.tmod a1 15)) t370) t371))) else (annealseat_Num.j0 k (Go.bits .and .u32 (rd y366 (Int.tmod a1 15)) t370)))) else (none)) else (none)))) else (none)) = some r := by first | (rw [hji20] at H; exact H) | (simp only [hji20] at H ⊢; exact H)
    (try rw [hji20] at A3)
    have hji20l : 0 ≤ ji20 := by rw [← hji20]; exact Int.emod_nonneg _ (by decide)
    have hji20h : ji20 ≤ 4294967295 := by have := Int.emod_lt_of_pos (((ji8) + (Int.tmod (a1 / 16) (ji18)))) (show (0 : Int) < 4294967296 by decide); omega
    have hji20w : (IntKind.u32.wrap ((ji8) + (Int.tmod (a1 / 16) (ji18)))) = ji20 := (u32_w _).trans hji20
    (try (have hji20_ := hji20; simp only [Int.add_emod_emod, Int.emod_add_emod, Int.sub_emod_emod, Int.emod_sub_emod] at hji20_))
    have c21b0 := eq_true (of_decide_eq_true (by first | (with_reducible assumption) | assumption) : 0 ≤ t365)
    obtain ⟨ji22, hji22⟩ : ∃ j_ : Int, (shl .u32 (ji6) t365) = j_ := ⟨_, rfl⟩
    replace H : (if 0 ≤ (wrap64 (t365 - 1)) then (if (shl .u32 9 t365) = 0 then (none) else ((some (([0, 1, ji11, ji10, ji8, ji13, ji14, ji16, ji20, ((ji22) - 1) % 4294967296, ji22, Go.bits .or .u32 (ji22) 1, Go.bits .or .u32 (ji22) (shl .u32 1 (wrap64 (t365 - 1))), ((ji8) - (Int.tmod (a1 / 16) (shl .u32 9 t365))) % 4294967296, a1 / 16] : List Int) : List Int)).bind fun y366 => (if 0 ≤ (Int.tmod a1 15) then (if (Int.tmod a1 15) < (y366.length : Int) then ((annealref1_Mask.f a0).bind fun t370 => (if (a1 / 2147483648) = 1 then ((annealref1_Zero.f a0 true).bind fun t371 => (annealseat_Num.j0 k (Go.bits .or .u32 (Go.bits .and .u32 (rd y366 (Int.tmod a1 15)) t370) t371))) else (annealseat_Num.j0 k (Go.bits .and .u32 (rd y366 (Int.tmod a1 15)) t370)))) else (none)) else (none)))) else (none)) = some r := by first | (rw [hji22] at H; exact H) | (simp only [hji22] at H ⊢; exact H)
    (try rw [hji22] at A3)
    have hji22_ : (IntKind.u32.wrap ((ji6) * 2 ^ min t365.toNat 32)) = ji22 := hji22
    have hji22z : t365 ≤ 32 → (IntKind.u32.wrap ((ji6) * 2 ^ t365.toNat)) = ji22 := shl_small hji22
    obtain ⟨ji23, hji23⟩ : ∃ j_ : Int, (((ji22) - 1) % 4294967296) = j_ := ⟨_, rfl⟩
    replace H : (if 0 ≤ (wrap64 (t365 - 1)) then (if (shl .u32 9 t365) = 0 then (none) else ((some (([0, 1, ji11, ji10, ji8, ji13, ji14, ji16, ji20, ji23, ji22, Go.bits .or .u32 (ji22) 1, Go.bits .or .u32 (ji22) (shl .u32 1 (wrap64 (t365 - 1))), ((ji8) - (Int.tmod (a1 / 16) (shl .u32 9 t365))) % 4294967296, a1 / 16] : List Int) : List Int)).bind fun y366 => (if 0 ≤ (Int.tmod a1 15) then (if (Int.tmod a1 15) < (y366.length : Int) then ((annealref1_Mask.f a0).bind fun t370 => (if (a1 / 2147483648) = 1 then ((annealref1_Zero.f a0 true).bind fun t371 => (annealseat_Num.j0 k (Go.bits .or .u32 (Go.bits .and .u32 (rd y366 (Int.tmod a1 15)) t370) t371))) else (annealseat_Num.j0 k (Go.bits .and .u32 (rd y366 (Int.tmod a1 15)) t370)))) else (none)) else (none)))) else (none)) = some r := by first | (rw [hji23] at H; exact H) | (simp only [hji23] at H ⊢; exact H)
    (try rw [hji23] at A3)
    have hji23l : 0 ≤ ji23 := by rw [← hji23]; exact Int.emod_nonneg _ (by decide)
    have hji23h : ji23 ≤ 4294967295 := by have := Int.emod_lt_of_pos (((ji22) - 1)) (show (0 : Int) < 4294967296 by decide); omega
    have hji23w : (IntKind.u32.wrap ((ji22) - 1)) = ji23 := (u32_w _).trans hji23
    (try (have hji23_ := hji23; simp only [Int.add_emod_emod, Int.emod_add_emod, Int.sub_emod_emod, Int.emod_sub_emod] at hji23_))
    have c24b0 := eq_true (of_decide_eq_true (by first | (with_reducible assumption) | assumption) : 0 ≤ t365)
    have c25b0 := eq_true (of_decide_eq_true (by first | (with_reducible assumption) | assumption) : 0 ≤ t365)
    have c26b0 := eq_true (of_decide_eq_true (by first | (with_reducible assumption) | assumption) : 0 ≤ t365)
    obtain ⟨ji27, hji27⟩ : ∃ j_ : Int, (wrap64 (t365 - 1)) = j_ := ⟨_, rfl⟩
    replace H : (if 0 ≤ (ji27) then (if (shl .u32 9 t365) = 0 then (none) else ((some (([0, 1, ji11, ji10, ji8, ji13, ji14, ji16, ji20, ji23, ji22, Go.bits .or .u32 (ji22) 1, Go.bits .or .u32 (ji22) (shl .u32 1 (ji27)), ((ji8) - (Int.tmod (a1 / 16) (shl .u32 9 t365))) % 4294967296, a1 / 16] : List Int) : List Int)).bind fun y366 => (if 0 ≤ (Int.tmod a1 15) then (if (Int.tmod a1 15) < (y366.length : Int) then ((annealref1_Mask.f a0).bind fun t370 => (if (a1 / 2147483648) = 1 then ((annealref1_Zero.f a0 true).bind fun t371 => (annealseat_Num.j0 k (Go.bits .or .u32 (Go.bits .and .u32 (rd y366 (Int.tmod a1 15)) t370) t371))) else (annealseat_Num.j0 k (Go.bits .and .u32 (rd y366 (Int.tmod a1 15)) t370)))) else (none)) else (none)))) else (none)) = some r := by first | (rw [hji27] at H; exact H) | (simp only [hji27] at H ⊢; exact H)
    (try rw [hji27] at A3)
    have hji27w : (IntKind.i64.wrap (t365 - 1)) = ji27 := (i64_w _).trans hji27
    by_cases c28 : 0 ≤ (ji27)
    ·rw [if_pos c28] at H
     have c28b0 := eq_true c28
     have c28b1 : decide (0 ≤ (ji27)) = true := decide_eq_true c28
     clear c28
     obtain ⟨ji29, hji29⟩ : ∃ j_ : Int, (shl .u32 1 (ji27)) = j_ := ⟨_, rfl⟩
     replace H : (if (shl .u32 9 t365) = 0 then (none) else ((some (([0, 1, ji11, ji10, ji8, ji13, ji14, ji16, ji20, ji23, ji22, Go.bits .or .u32 (ji22) 1, Go.bits .or .u32 (ji22) (ji29), ((ji8) - (Int.tmod (a1 / 16) (shl .u32 9 t365))) % 4294967296, a1 / 16] : List Int) : List Int)).bind fun y366 => (if 0 ≤ (Int.tmod a1 15) then (if (Int.tmod a1 15) < (y366.length : Int) then ((annealref1_Mask.f a0).bind fun t370 => (if (a1 / 2147483648) = 1 then ((annealref1_Zero.f a0 true).bind fun t371 => (annealseat_Num.j0 k (Go.bits .or .u32 (Go.bits .and .u32 (rd y366 (Int.tmod a1 15)) t370) t371))) else (annealseat_Num.j0 k (Go.bits .and .u32 (rd y366 (Int.tmod a1 15)) t370)))) else (none)) else (none)))) = some r := by first | (rw [hji29] at H; exact H) | (simp only [hji29] at H ⊢; exact H)
     (try rw [hji29] at A3)
     have hji29_ : (IntKind.u32.wrap (1 * 2 ^ min (ji27).toNat 32)) = ji29 := hji29
     have hji29z : (ji27) ≤ 32 → (IntKind.u32.wrap (1 * 2 ^ (ji27).toNat)) = ji29 := shl_small hji29
     have hji29u : (IntKind.u32.wrap (2 ^ min (ji27).toNat 32)) = ji29 := by have h_ := hji29_; rw [Int.one_mul] at h_; exact h_
     have hji29v : (ji27) ≤ 32 → (IntKind.u32.wrap (2 ^ (ji27).toNat)) = ji29 := fun hle_ => by have h_ := hji29z hle_; rw [Int.one_mul] at h_; exact h_
     have c30b0 := eq_true (of_decide_eq_true (by first | (with_reducible assumption) | assumption) : 0 ≤ t365)
     obtain ⟨ji31, hji31⟩ : ∃ j_ : Int, (shl .u32 9 t365) = j_ := ⟨_, rfl⟩
     replace H : (if (ji31) = 0 then (none) else ((some (([0, 1, ji11, ji10, ji8, ji13, ji14, ji16, ji20, ji23, ji22, Go.bits .or .u32 (ji22) 1, Go.bits .or .u32 (ji22) (ji29), ((ji8) - (Int.tmod (a1 / 16) (ji31))) % 4294967296, a1 / 16] : List Int) : List Int)).bind fun y366 => (if 0 ≤ (Int.tmod a1 15) then (if (Int.tmod a1 15) < (y366.length : Int) then ((annealref1_Mask.f a0).bind fun t370 => (if (a1 / 2147483648) = 1 then ((annealref1_Zero.f a0 true).bind fun t371 => (annealseat_Num.j0 k (Go.bits .or .u32 (Go.bits .and .u32 (rd y366 (Int.tmod a1 15)) t370) t371))) else (annealseat_Num.j0 k (Go.bits .and .u32 (rd y366 (Int.tmod a1 15)) t370)))) else (none)) else (none)))) = some r := by first | (rw [hji31] at H; exact H) | (simp only [hji31] at H ⊢; exact H)
     (try rw [hji31] at A3)
     have hji31_ : (IntKind.u32.wrap (9 * 2 ^ min t365.toNat 32)) = ji31 := hji31
     have hji31z : t365 ≤ 32 → (IntKind.u32.wrap (9 * 2 ^ t365.toNat)) = ji31 := shl_small hji31
     by_cases c32 : (ji31) = 0
     ·rw [if_pos c32] at H
      exact absurd H (by simp)
     ·rw [if_neg c32] at H
      have c32b0 : ((ji31) == 0) = false := beq_eq_false_iff_ne.mpr c32
      have c32b1 : ((ji31) != 0) = true := bne_iff_ne.mpr c32
      obtain ⟨ji33, hji33⟩ : ∃ j_ : Int, (((ji8) - (Int.tmod (a1 / 16) (ji31))) % 4294967296) = j_ := ⟨_, rfl⟩
      replace H : ((some (([0, 1, ji11, ji10, ji8, ji13, ji14, ji16, ji20, ji23, ji22, Go.bits .or .u32 (ji22) 1, Go.bits .or .u32 (ji22) (ji29), ji33, a1 / 16] : List Int) : List Int)).bind fun y366 => (if 0 ≤ (Int.tmod a1 15) then (if (Int.tmod a1 15) < (y366.length : Int) then ((annealref1_Mask.f a0).bind fun t370 => (if (a1 / 2147483648) = 1 then ((annealref1_Zero.f a0 true).bind fun t371 => (annealseat_Num.j0 k (Go.bits .or .u32 (Go.bits .and .u32 (rd y366 (Int.tmod a1 15)) t370) t371))) else (annealseat_Num.j0 k (Go.bits .and .u32 (rd y366 (Int.tmod a1 15)) t370)))) else (none)) else (none))) = some r := by first | (rw [hji33] at H; exact H) | (simp only [hji33] at H ⊢; exact H)
      (try rw [hji33] at A3)
      have hji33l : 0 ≤ ji33 := by rw [← hji33]; exact Int.emod_nonneg _ (by decide)
      have hji33h : ji33 ≤ 4294967295 := by have := Int.emod_lt_of_pos (((ji8) - (Int.tmod (a1 / 16) (ji31)))) (show (0 : Int) < 4294967296 by decide); omega
      have hji33w : (IntKind.u32.wrap ((ji8) - (Int.tmod (a1 / 16) (ji31)))) = ji33 := (u32_w _).trans hji33
      (try (have hji33_ := hji33; simp only [Int.add_emod_emod, Int.emod_add_emod, Int.sub_emod_emod, Int.emod_sub_emod] at hji33_))
      obtain ⟨y366, hy366⟩ : ∃ y_ : List Int, y_ = (([0, 1, ji11, ji10, ji8, ji13, ji14, ji16, ji20, ji23, ji22, Go.bits .or .u32 (ji22) 1, Go.bits .or .u32 (ji22) (ji29), ji33, a1 / 16] : List Int)) := ⟨_, rfl⟩
      replace H : (if 0 ≤ (Int.tmod a1 15) then (if (Int.tmod a1 15) < (y366.length : Int) then ((annealref1_Mask.f a0).bind fun t370 => (if (a1 / 2147483648) = 1 then ((annealref1_Zero.f a0 true).bind fun t371 => (annealseat_Num.j0 k (Go.bits .or .u32 (Go.bits .and .u32 (rd y366 (Int.tmod a1 15)) t370) t371))) else (annealseat_Num.j0 k (Go.bits .and .u32 (rd y366 (Int.tmod a1 15)) t370)))) else (none)) else (none)) = some r := by first | (rw [hy366]; with_reducible exact H) | (have H2_ := (Option.bind_some _ _).symm.trans H; rw [hy366]; with_reducible exact H2_) | (have H2_ := (Option.bind_some _ _).symm.trans H; with_reducible exact H2_) | with_reducible exact H | (rw [hy366]; exact H) | exact H
      have Ny366 := Aside0.mk hy366
      clear hy366
      obtain ⟨ji34, hji34⟩ : ∃ j_ : Int, (Int.tmod a1 15) = j_ := ⟨_, rfl⟩
      replace H : (if 0 ≤ (ji34) then (if (ji34) < (y366.length : Int) then ((annealref1_Mask.f a0).bind fun t370 => (if (a1 / 2147483648) = 1 then ((annealref1_Zero.f a0 true).bind fun t371 => (annealseat_Num.j0 k (Go.bits .or .u32 (Go.bits .and .u32 (rd y366 (ji34)) t370) t371))) else (annealseat_Num.j0 k (Go.bits .and .u32 (rd y366 (ji34)) t370)))) else (none)) else (none)) = some r := by first | (rw [hji34] at H; exact H) | (simp only [hji34] at H ⊢; exact H)
      (try rw [hji34] at A3)
      by_cases c35 : 0 ≤ (ji34)
      ·rw [if_pos c35] at H
       have c35b0 : decide (0 ≤ (ji34)) = true := decide_eq_true c35
       clear c35
       by_cases c36 : (ji34) < (y366.length : Int)
       ·rw [if_pos c36] at H
        have c36b0 : decide ((ji34) < (y366.length : Int)) = true := decide_eq_true c36
        clear c36
        replace H := Option.bind_eq_some_iff.mp H
        obtain ⟨t370, A370, H⟩ := H
        replace H : (if (a1 / 2147483648) = 1 then ((annealref1_Zero.f a0 true).bind fun t371 => (annealseat_Num.j0 k (Go.bits .or .u32 (Go.bits .and .u32 (rd y366 (ji34)) t370) t371))) else (annealseat_Num.j0 k (Go.bits .and .u32 (rd y366 (ji34)) t370))) = some r := H
        have A37 := Aside0.mk A370
        clear A370
        have HC38 := Aside0.mk H
        clear H
        go_enter Try.func35, Try.ntmps35
        try go_wp2_with (first | ((with_reducible refine gate_callee (f := 49) rfl ?_); refine goesL_ (some 14) rfl rfl Try.func49 (by kernel_rfl) rfl #[.int .i64 a0] rfl gl ?_; (with_reducible refine (annealref1_Widths.calls a0 t364 t365 _ A3.out).mono ?_); rintro e w' ⟨rfl, ⟨nd, rfl⟩⟩; refine ⟨_, rfl, ?_⟩))
        (try simp only [World.drewN_drewN])
        generalize hq_ : World.drewN w _ = w39
        have n_ : Aside0 (Below w.heap.size w w39) := ⟨by rw [← hq_]; apply pw_below_drewN; exact HB.out⟩
        clear hq_ HB
        have HB := n_
        clear n_
        have n0_ := Aside0.mk (below_drew1 HB.out)
        clear HB
        have HB := n0_
        clear n0_
        refine start_ (n := 47) (S := fun w' => True) (ds := []) (tf 0 47) (by kernel_rfl) rfl rfl trivial (fun hHeld => ?_); refine with_tabW annealseat_Num.tab5 annealseat_Num.bits5 (fun HT_ HW_ => ?_)
        generalize w39.drew = w40 at HB hHeld ⊢
        refine pure_ (i := 0) (N := some 26) (v := ?_) (a' := ?_) (tf 1 46) rfl rfl (any_of HT_.out (by kernel_rfl)) (fun _ _ _ h => h) (Or.inl ⟨by rfl, ?_⟩) ?_ ?_
        rotate_left
        ·intro w'
         go_simp
         with_reducible rfl
        rotate_left
        ·simp only [Act.put, sb, sz, ss, i64_w, i32_w]
         rfl
        refine pure_ (i := 1) (N := some 27) (v := ?_) (a' := ?_) (tf 2 45) rfl rfl (any_of HT_.out (by kernel_rfl)) (fun _ _ _ h => h) (Or.inl ⟨by rfl, ?_⟩) ?_ ?_
        rotate_left
        ·intro w'
         go_simp
         with_reducible rfl
        rotate_left
        ·simp only [Act.put, sb, sz, ss, i64_w, i32_w]
         rfl
        refine pure_ (i := 2) (N := some 28) (v := ?_) (a' := ?_) (tf 3 44) rfl rfl (any_of HT_.out (by kernel_rfl)) (fun _ _ _ h => h) (Or.inl ⟨by rfl, ?_⟩) ?_ ?_
        rotate_left
        ·intro w'
         go_simp
         with_reducible rfl
        rotate_left
        ·simp only [Act.put, sb, sz, ss, i64_w, i32_w]
         rfl
        refine pure_ (i := 3) (N := some 29) (v := ?_) (a' := ?_) (tf 4 43) rfl rfl (any_of HT_.out (by kernel_rfl)) (fun _ _ _ h => h) (Or.inl ⟨by rfl, ?_⟩) ?_ ?_
        rotate_left
        ·intro w'
         go_simp
         with_reducible rfl
        rotate_left
        ·simp only [Act.put, sb, sz, ss, i64_w, i32_w]
         rfl
        refine pure_ (i := 4) (N := some 30) (v := ?_) (a' := ?_) (tf 5 42) rfl rfl (any_of HT_.out (by kernel_rfl)) (fun _ _ _ h => h) (Or.inl ⟨by rfl, ?_⟩) ?_ ?_
        rotate_left
        ·intro w'
         go_simp
         with_reducible rfl
        rotate_left
        ·simp only [Act.put, sb, sz, ss, i64_w, i32_w]
         rfl
        refine pure_ (i := 5) (N := some 31) (v := ?_) (a' := ?_) (tf 6 41) rfl rfl (any_of HT_.out (by kernel_rfl)) (fun _ _ _ h => h) (Or.inl ⟨by rfl, ?_⟩) ?_ ?_
        rotate_left
        ·intro w'
         go_simp
         with_reducible rfl
        rotate_left
        ·simp only [Act.put, sb, sz, ss, i64_w, i32_w]
         rfl
        refine pure_ (i := 6) (N := some 32) (v := ?_) (a' := ?_) (tf 7 40) rfl rfl (any_of HT_.out (by kernel_rfl)) (fun _ _ _ h => h) (Or.inl ⟨by rfl, ?_⟩) ?_ ?_
        rotate_left
        ·intro w'
         go_simp
         with_reducible rfl
        rotate_left
        ·simp only [Act.put, sb, sz, ss, i64_w, i32_w]
         rfl
        refine pure_ (i := 7) (N := some 33) (v := ?_) (a' := ?_) (tf 8 39) rfl rfl (any_of HT_.out (by kernel_rfl)) (fun _ _ _ h => h) (Or.inl ⟨by rfl, ?_⟩) ?_ ?_
        rotate_left
        ·intro w'
         go_simp
         with_reducible rfl
        rotate_left
        ·simp only [Act.put, sb, sz, ss, i64_w, i32_w]
         rfl
        refine pure_ (i := 8) (N := some 34) (v := ?_) (a' := ?_) (tf 9 38) rfl rfl (any_of HT_.out (by kernel_rfl)) (fun _ _ _ h => h) (Or.inl ⟨by rfl, ?_⟩) ?_ ?_
        rotate_left
        ·intro w'
         go_simp
         with_reducible rfl
        rotate_left
        ·simp only [Act.put, sb, sz, ss, i64_w, i32_w]
         rfl
        refine pure_ (i := 9) (N := some 35) (v := ?_) (a' := ?_) (tf 10 37) rfl rfl (any_of HT_.out (by kernel_rfl)) (fun _ _ _ h => h) (Or.inl ⟨by rfl, ?_⟩) ?_ ?_
        rotate_left
        ·intro w'
         go_simp
         with_reducible rfl
        rotate_left
        ·simp only [Act.put, sb, sz, ss, i64_w, i32_w]
         rfl
        refine pure_ (i := 10) (N := some 36) (v := ?_) (a' := ?_) (tf 11 36) rfl rfl (any_of HT_.out (by kernel_rfl)) (fun _ _ _ h => h) (Or.inl ⟨by rfl, ?_⟩) ?_ ?_
        rotate_left
        ·intro w'
         go_simp
         with_reducible rfl
        rotate_left
        ·simp only [Act.put, sb, sz, ss, i64_w, i32_w]
         rfl
        refine pure_ (i := 11) (N := some 37) (v := ?_) (a' := ?_) (tf 12 35) rfl rfl (any_of HT_.out (by kernel_rfl)) (fun _ _ _ h => h) (Or.inl ⟨by rfl, ?_⟩) ?_ ?_
        rotate_left
        ·intro w'
         go_simp
         with_reducible rfl
        rotate_left
        ·simp only [Act.put, sb, sz, ss, i64_w, i32_w]
         rfl
        refine pure_ (i := 12) (N := some 38) (v := ?_) (a' := ?_) (tf 13 34) rfl rfl (any_of HT_.out (by kernel_rfl)) (fun _ _ _ h => h) (Or.inl ⟨by rfl, ?_⟩) ?_ ?_
        rotate_left
        ·intro w'
         go_simp
         with_reducible rfl
        rotate_left
        ·simp only [Act.put, sb, sz, ss, i64_w, i32_w]
         rfl
        refine pure_ (i := 13) (N := some 39) (v := ?_) (a' := ?_) (tf 14 33) rfl rfl (any_of HT_.out (by kernel_rfl)) (fun _ _ _ h => h) (Or.inl ⟨by rfl, ?_⟩) ?_ ?_
        rotate_left
        ·intro w'
         go_simp
         with_reducible rfl
        rotate_left
        ·simp only [Act.put, sb, sz, ss, i64_w, i32_w]
         rfl
        refine pure_ (i := 14) (N := some 40) (v := ?_) (a' := ?_) (tf 15 32) rfl rfl (any_of HT_.out (by kernel_rfl)) (fun _ _ _ h => h) (Or.inl ⟨by rfl, ?_⟩) ?_ ?_
        rotate_left
        ·intro w'
         go_simp
         with_reducible rfl
        rotate_left
        ·simp only [Act.put, sb, sz, ss, i64_w, i32_w]
         rfl
        refine pure_ (i := 15) (N := some 41) (v := ?_) (a' := ?_) (tf 16 31) rfl rfl (any_of HT_.out (by kernel_rfl)) (fun _ _ _ h => h) (Or.inl ⟨by rfl, ?_⟩) ?_ ?_
        rotate_left
        ·intro w'
         go_simp
         with_reducible rfl
        rotate_left
        ·simp only [Act.put, sb, sz, ss, i64_w, i32_w]
         rfl
        refine pure_ (i := 16) (N := some 42) (v := ?_) (a' := ?_) (tf 17 30) rfl rfl (any_of HT_.out (by kernel_rfl)) (fun _ _ _ h => h) (Or.inl ⟨by rfl, ?_⟩) ?_ ?_
        rotate_left
        ·intro w'
         go_simp
         with_reducible rfl
        rotate_left
        ·simp only [Act.put, sb, sz, ss, i64_w, i32_w]
         rfl
        refine pure_ (i := 17) (N := some 43) (v := ?_) (a' := ?_) (tf 18 29) rfl rfl (any_of HT_.out (by kernel_rfl)) (fun _ _ _ h => h) (Or.inl ⟨by rfl, ?_⟩) ?_ ?_
        rotate_left
        ·intro w'
         go_simp
         with_reducible rfl
        rotate_left
        ·simp only [Act.put, sb, sz, ss, i64_w, i32_w]
         rfl
        refine pure_ (i := 18) (N := some 44) (v := ?_) (a' := ?_) (tf 19 28) rfl rfl (any_of HT_.out (by kernel_rfl)) (fun _ _ _ h => h) (Or.inl ⟨by rfl, ?_⟩) ?_ ?_
        rotate_left
        ·intro w'
         go_simp
         with_reducible rfl
        rotate_left
        ·simp only [Act.put, sb, sz, ss, i64_w, i32_w]
         rfl
        refine pure_ (i := 19) (N := some 45) (v := ?_) (a' := ?_) (tf 20 27) rfl rfl (any_of HT_.out (by kernel_rfl)) (fun _ _ _ h => h) (Or.inl ⟨by rfl, ?_⟩) ?_ ?_
        rotate_left
        ·intro w'
         go_simp
         with_reducible rfl
        rotate_left
        ·simp only [Act.put, sb, sz, ss, i64_w, i32_w]
         rfl
        refine pure_ (i := 20) (N := some 46) (v := ?_) (a' := ?_) (tf 21 26) rfl rfl (any_of HT_.out (by kernel_rfl)) (fun _ _ _ h => h) (Or.inl ⟨by rfl, ?_⟩) ?_ ?_
        rotate_left
        ·intro w'
         go_simp
         with_reducible rfl
        rotate_left
        ·simp only [Act.put, sb, sz, ss, i64_w, i32_w]
         rfl
        refine pure_ (i := 21) (N := some 47) (v := ?_) (a' := ?_) (tf 22 25) rfl rfl (any_of HT_.out (by kernel_rfl)) (fun _ _ _ h => h) (Or.inl ⟨by rfl, ?_⟩) ?_ ?_
        rotate_left
        ·intro w'
         go_simp
         with_reducible rfl
        rotate_left
        ·simp only [Act.put, sb, sz, ss, i64_w, i32_w]
         rfl
        refine pure_ (i := 22) (N := some 48) (v := ?_) (a' := ?_) (tf 23 24) rfl rfl (any_of HT_.out (by kernel_rfl)) (fun _ _ _ h => h) (Or.inl ⟨by rfl, ?_⟩) ?_ ?_
        rotate_left
        ·intro w'
         go_simp
         with_reducible rfl
        rotate_left
        ·simp only [Act.put, sb, sz, ss, i64_w, i32_w]
         rfl
        refine pure_ (i := 23) (N := some 49) (v := ?_) (a' := ?_) (tf 24 23) rfl rfl (any_of HT_.out (by kernel_rfl)) (fun _ _ _ h => h) (Or.inl ⟨by rfl, ?_⟩) ?_ ?_
        rotate_left
        ·intro w'
         go_simp
         with_reducible rfl
        rotate_left
        ·simp only [Act.put, sb, sz, ss, i64_w, i32_w]
         rfl
        refine pure_ (i := 24) (N := some 50) (v := ?_) (a' := ?_) (tf 25 22) rfl rfl (any_of HT_.out (by kernel_rfl)) (fun _ _ _ h => h) (Or.inl ⟨by rfl, ?_⟩) ?_ ?_
        rotate_left
        ·intro w'
         go_simp
         with_reducible rfl
        rotate_left
        ·simp only [Act.put, sb, sz, ss, i64_w, i32_w]
         rfl
        refine pure_ (i := 25) (N := some 51) (v := ?_) (a' := ?_) (tf 26 21) rfl rfl (any_of HT_.out (by kernel_rfl)) (fun _ _ _ h => h) (Or.inl ⟨by rfl, ?_⟩) ?_ ?_
        rotate_left
        ·intro w'
         go_simp
         with_reducible rfl
        rotate_left
        ·simp only [Act.put, sb, sz, ss, i64_w, i32_w]
         rfl
        refine pure_ (i := 26) (N := some 52) (v := ?_) (a' := ?_) (tf 27 20) rfl rfl (any_of HT_.out (by kernel_rfl)) (fun _ _ _ h => h) (Or.inl ⟨by rfl, ?_⟩) ?_ ?_
        rotate_left
        ·intro w'
         go_simp
         with_reducible rfl
        rotate_left
        ·simp only [Act.put, sb, sz, ss, i64_w, i32_w]
         rfl
        refine pure_ (i := 27) (N := some 53) (v := ?_) (a' := ?_) (tf 28 19) rfl rfl (any_of HT_.out (by kernel_rfl)) (fun _ _ _ h => h) (Or.inl ⟨by rfl, ?_⟩) ?_ ?_
        rotate_left
        ·intro w'
         go_simp
         with_reducible rfl
        rotate_left
        ·simp only [Act.put, sb, sz, ss, i64_w, i32_w]
         rfl
        refine pure_ (i := 28) (N := some 54) (v := ?_) (a' := ?_) (tf 29 18) rfl rfl (any_of HT_.out (by kernel_rfl)) (fun _ _ _ h => h) (Or.inl ⟨by rfl, ?_⟩) ?_ ?_
        rotate_left
        ·intro w'
         go_simp
         with_reducible rfl
        rotate_left
        ·simp only [Act.put, sb, sz, ss, i64_w, i32_w]
         rfl
        refine pure_ (i := 29) (N := some 55) (v := ?_) (a' := ?_) (tf 30 17) rfl rfl (any_of HT_.out (by kernel_rfl)) (fun _ _ _ h => h) (Or.inl ⟨by rfl, ?_⟩) ?_ ?_
        rotate_left
        ·intro w'
         go_simp
         with_reducible rfl
        rotate_left
        ·simp only [Act.put, sb, sz, ss, i64_w, i32_w]
         rfl
        refine pure_ (i := 30) (N := some 56) (v := ?_) (a' := ?_) (tf 31 16) rfl rfl (any_of HT_.out (by kernel_rfl)) (fun _ _ _ h => h) (Or.inl ⟨by rfl, ?_⟩) ?_ ?_
        rotate_left
        ·intro w'
         go_simp
         with_reducible rfl
        rotate_left
        ·simp only [Act.put, sb, sz, ss, i64_w, i32_w]
         rfl
        refine pure_ (i := 31) (N := some 57) (v := ?_) (a' := ?_) (tf 32 15) rfl rfl (any_of HT_.out (by kernel_rfl)) (fun _ _ _ h => h) (Or.inl ⟨by rfl, ?_⟩) ?_ ?_
        rotate_left
        ·intro w'
         go_simp
         with_reducible rfl
        rotate_left
        ·simp only [Act.put, sb, sz, ss, i64_w, i32_w]
         rfl
        refine pure_ (i := 32) (N := some 58) (v := ?_) (a' := ?_) (tf 33 14) rfl rfl (any_of HT_.out (by kernel_rfl)) (fun _ _ _ h => h) (Or.inl ⟨by rfl, ?_⟩) ?_ ?_
        rotate_left
        ·intro w'
         go_simp
         with_reducible rfl
        rotate_left
        ·simp only [Act.put, sb, sz, ss, i64_w, i32_w]
         rfl
        refine pure_ (i := 33) (N := some 59) (v := ?_) (a' := ?_) (tf 34 13) rfl rfl (any_of HT_.out (by kernel_rfl)) (fun _ _ _ h => h) (Or.inl ⟨by rfl, ?_⟩) ?_ ?_
        rotate_left
        ·intro w'
         go_simp
         with_reducible rfl
        rotate_left
        ·simp only [Act.put, sb, sz, ss, i64_w, i32_w]
         rfl
        refine pure_ (i := 34) (N := some 60) (v := ?_) (a' := ?_) (tf 35 12) rfl rfl (any_of HT_.out (by kernel_rfl)) (fun _ _ _ h => h) (Or.inl ⟨by rfl, ?_⟩) ?_ ?_
        rotate_left
        ·intro w'
         go_simp
         with_reducible rfl
        rotate_left
        ·simp only [Act.put, sb, sz, ss, i64_w, i32_w]
         rfl
        refine pure_ (i := 35) (N := some 61) (v := ?_) (a' := ?_) (tf 36 11) rfl rfl (any_of HT_.out (by kernel_rfl)) (fun _ _ _ h => h) (Or.inl ⟨by rfl, ?_⟩) ?_ ?_
        rotate_left
        ·intro w'
         go_simp
         with_reducible rfl
        rotate_left
        ·simp only [Act.put, sb, sz, ss, i64_w, i32_w]
         rfl
        refine pure_ (i := 36) (N := some 62) (v := ?_) (a' := ?_) (tf 37 10) rfl rfl (any_of HT_.out (by kernel_rfl)) (fun _ _ _ h => h) (Or.inl ⟨by rfl, ?_⟩) ?_ ?_
        rotate_left
        ·intro w'
         go_simp
         with_reducible rfl
        rotate_left
        ·simp only [Act.put, sb, sz, ss, i64_w, i32_w]
         rfl
        refine pure_ (i := 37) (N := some 63) (v := ?_) (a' := ?_) (tf 38 9) rfl rfl (any_of HT_.out (by kernel_rfl)) (fun _ _ _ h => h) (Or.inl ⟨by rfl, ?_⟩) ?_ ?_
        rotate_left
        ·intro w'
         go_simp
         with_reducible rfl
        rotate_left
        ·simp only [Act.put, sb, sz, ss, i64_w, i32_w]
         rfl
        refine pure_ (i := 38) (N := some 64) (v := ?_) (a' := ?_) (tf 39 8) rfl rfl (any_of HT_.out (by kernel_rfl)) (fun _ _ _ h => h) (Or.inl ⟨by rfl, ?_⟩) ?_ ?_
        rotate_left
        ·intro w'
         go_simp
         with_reducible rfl
        rotate_left
        ·simp only [Act.put, sb, sz, ss, i64_w, i32_w]
         rfl
        refine pure_ (i := 39) (N := some 65) (v := ?_) (a' := ?_) (tf 40 7) rfl rfl (any_of HT_.out (by kernel_rfl)) (fun _ _ _ h => h) (Or.inl ⟨by rfl, ?_⟩) ?_ ?_
        rotate_left
        ·intro w'
         go_simp
         with_reducible rfl
        rotate_left
        ·simp only [Act.put, sb, sz, ss, i64_w, i32_w]
         rfl
        refine pure_ (i := 40) (N := some 66) (v := ?_) (a' := ?_) (tf 41 6) rfl rfl (any_of HT_.out (by kernel_rfl)) (fun _ _ _ h => h) (Or.inl ⟨by rfl, ?_⟩) ?_ ?_
        rotate_left
        ·intro w'
         go_simp
         with_reducible rfl
        rotate_left
        ·simp only [Act.put, sb, sz, ss, i64_w, i32_w]
         rfl
        refine pure_ (i := 41) (N := some 67) (v := ?_) (a' := ?_) (tf 42 5) rfl rfl (any_of HT_.out (by kernel_rfl)) (fun _ _ _ h => h) (Or.inl ⟨by rfl, ?_⟩) ?_ ?_
        rotate_left
        ·intro w'
         go_simp
         with_reducible rfl
        rotate_left
        ·simp only [Act.put, sb, sz, ss, i64_w, i32_w]
         rfl
        refine pure_ (i := 42) (N := some 68) (v := ?_) (a' := ?_) (tf 43 4) rfl rfl (any_of HT_.out (by kernel_rfl)) (fun _ _ _ h => h) (Or.inl ⟨by rfl, ?_⟩) ?_ ?_
        rotate_left
        ·intro w'
         go_simp
         with_reducible rfl
        rotate_left
        ·simp only [Act.put, sb, sz, ss, i64_w, i32_w]
         rfl
        refine pure_ (i := 43) (N := some 69) (v := ?_) (a' := ?_) (tf 44 3) rfl rfl (any_of HT_.out (by kernel_rfl)) (fun _ _ _ h => h) (Or.inl ⟨by rfl, ?_⟩) ?_ ?_
        rotate_left
        ·intro w'
         go_simp
         with_reducible rfl
        rotate_left
        ·simp only [Act.put, sb, sz, ss, i64_w, i32_w]
         rfl
        refine pure_ (i := 44) (N := some 70) (v := ?_) (a' := ?_) (tf 45 2) rfl rfl (any_of HT_.out (by kernel_rfl)) (fun _ _ _ h => h) (Or.inl ⟨by rfl, ?_⟩) ?_ ?_
        rotate_left
        ·intro w'
         go_simp
         with_reducible rfl
        rotate_left
        ·simp only [Act.put, sb, sz, ss, i64_w, i32_w]
         rfl
        refine one_ (i := 45) (N := some 71) (tf 46 1) rfl rfl (one_of HT_.out (by kernel_rfl)) (by decide) (fun K hK => ?_)
        refine Kd.R_lit_step (Kd.int .u32) _ 22 ?hg (N := 71) ?hd (xs := ([0, 1, ji11, ji10, ji8, ji13, ji14, ji16, ji20, ji23, ji22, Go.bits .or .u32 (ji22) 1, Go.bits .or .u32 (ji22) (ji29), ji33, a1 / 16] : List Int)) (inner := [.int .u32 0, .int .u32 1, .int .u32 ji11, .int .u32 ji10, .int .u32 ji8, .int .u32 ji13, .int .u32 ji14, .int .u32 ji16, .int .u32 ji20, .int .u32 ji23, .int .u32 ji22, .int .u32 (Go.bits .or .u32 (ji22) 1), .int .u32 (Go.bits .or .u32 (ji22) (ji29)), .int .u32 ji33, .int .u32 (a1 / 16)]) (ok := fun _ => True) (okp := fun _ => True) ?hr ?hp (fun _ hk => hk) trivial (Below.refl _ _) (Nat.le_refl _) (by simp) ?_; (case hd => rfl); (case hg => rfl); (case hr => first | (go_simp; done) | (go_simp; rfl)); (case hp => exact (Reps.one (show Kd.M (Kd.int .u32) _ _ _ 0 [.int .u32 0] from rfl) (Reps.one (show Kd.M (Kd.int .u32) _ _ _ 1 [.int .u32 1] from rfl) (Reps.one (show Kd.M (Kd.int .u32) _ _ _ ji11 [.int .u32 ji11] from rfl) (Reps.one (show Kd.M (Kd.int .u32) _ _ _ ji10 [.int .u32 ji10] from rfl) (Reps.one (show Kd.M (Kd.int .u32) _ _ _ ji8 [.int .u32 ji8] from rfl) (Reps.one (show Kd.M (Kd.int .u32) _ _ _ ji13 [.int .u32 ji13] from rfl) (Reps.one (show Kd.M (Kd.int .u32) _ _ _ ji14 [.int .u32 ji14] from rfl) (Reps.one (show Kd.M (Kd.int .u32) _ _ _ ji16 [.int .u32 ji16] from rfl) (Reps.one (show Kd.M (Kd.int .u32) _ _ _ ji20 [.int .u32 ji20] from rfl) (Reps.one (show Kd.M (Kd.int .u32) _ _ _ ji23 [.int .u32 ji23] from rfl) (Reps.one (show Kd.M (Kd.int .u32) _ _ _ ji22 [.int .u32 ji22] from rfl) (Reps.one (show Kd.M (Kd.int .u32) _ _ _ (Go.bits .or .u32 (ji22) 1) [.int .u32 (Go.bits .or .u32 (ji22) 1)] from rfl) (Reps.one (show Kd.M (Kd.int .u32) _ _ _ (Go.bits .or .u32 (ji22) (ji29)) [.int .u32 (Go.bits .or .u32 (ji22) (ji29))] from rfl) (Reps.one (show Kd.M (Kd.int .u32) _ _ _ ji33 [.int .u32 ji33] from rfl) (Reps.one (show Kd.M (Kd.int .u32) _ _ _ (a1 / 16) [.int .u32 (a1 / 16)] from rfl) (Reps.none _ _)))))))))))))))))
        intro v367 w41 ho42 hb hg_ hnew_
        clear hg_ hnew_
        (first | rw [← Ny366.out] at ho42 | (simp only [Int.reduceToNat] at ho42; rw [← Ny366.out] at ho42))
        have n0_ := Aside0.mk (Kd.R_lower ho42 (below_size (bl0 HB.out)))
        have n1_ := Aside0.mk (below_step (bl0 HB.out) hb)
        clear HB
        have HO368 := n0_
        have HB := n1_
        clear n0_ n1_
        clear hb ho42
        refine hK.out _ _ trivial (fun hHeld => ?_)
        clear hK K
        refine norm_ (a' := ?_) ?_ ?_
        rotate_left
        ·show Act.put _ (some 71) _ = _
         simp only [Act.put, sb, sz, ss, i64_w, i32_w]
         rfl
        refine pure_ (i := 46) (N := some 10) (v := ?_) (a' := ?_) (tf 47 0) rfl rfl (any_of HT_.out (by kernel_rfl)) (fun _ _ _ h => h) (Or.inl ⟨by rfl, ?_⟩) ?_ ?_
        rotate_left
        ·intro w'
         go_simp
         with_reducible rfl
        rotate_left
        ·simp only [Act.put, sb, sz, ss, i64_w, i32_w]
         rfl
        refine done_ (done_of HT_.out (by kernel_rfl)) ?_
        try go_wp2
        have n0_ := Aside0.mk (Kd.R_drew HO368.out)
        have n1_ := Aside0.mk (below_drew1 HB.out)
        clear HO368
        clear HB
        have HO368 := n0_
        have HB := n1_
        clear n0_ n1_
        obtain ⟨Ao44, co44, eo44⟩ := Kd.R_slice HO368.out
        (first | subst eo44 | (injection eo44 with f1_ f2_ f3_; have f4_ := f1_.symm; have f5_ := f3_.symm; clear f1_ f2_ f3_; subst f4_; subst f5_))
        have p369 : 0 ≤ ((ji34) : Int) := of_decide_eq_true (by first | (with_reducible assumption) | assumption)
        have q369 : (ji34) < (y366.length : Int) := of_decide_eq_true (by first | (with_reducible assumption) | assumption)
        obtain ⟨ad369, e369, hx369_0⟩ := Kd.at_int (Kd.R_reads' HO368.out).2.2 (ji34) p369 q369
        cases e369
        replace p369 := eq_true p369
        replace q369 := eq_true q369
        refine start_ (n := 9) (S := fun w' => w'.cell? (ad369.add ((ji34)).toNat) = some (.int .u32 (rd y366 (ji34)))) (ds := []) (tf 0 9) (by kernel_rfl) rfl rfl (hx369_0) (fun hHeld => ?_); refine with_tabW annealseat_Num.tab6 annealseat_Num.bits6 (fun HT_ HW_ => ?_)
        generalize w41.drew = w43 at HO368 HB hx369_0 hHeld ⊢
        refine pure_ (i := 0) (N := some 72) (v := ?_) (a' := ?_) (tf 1 8) rfl rfl (any_of HT_.out (by kernel_rfl)) (fun _ _ _ h => h) (Or.inl ⟨by rfl, ?_⟩) ?_ ?_
        rotate_left
        ·intro w'
         go_simp
         with_reducible rfl
        rotate_left
        ·simp only [Act.put, sb, sz, ss, i64_w, i32_w]
         rfl
        refine pure_ (i := 1) (N := some 73) (v := ?_) (a' := ?_) (tf 2 7) rfl rfl (any_of HT_.out (by kernel_rfl)) (fun _ _ _ h => h) (Or.inl ⟨by rfl, ?_⟩) ?_ ?_
        rotate_left
        ·intro w'
         go_simp
         with_reducible rfl
        rotate_left
        ·simp only [Act.put, sb, sz, ss, i64_w, i32_w]
         rfl
        refine pure_ (i := 2) (N := some 74) (v := ?_) (a' := ?_) (tf 3 6) rfl rfl (any_of HT_.out (by kernel_rfl)) (fun _ _ _ h => h) (Or.inl ⟨by rfl, ?_⟩) ?_ ?_
        rotate_left
        ·intro w'
         go_simp
         with_reducible rfl
        rotate_left
        ·simp only [Act.put, sb, sz, ss, i64_w, i32_w]
         rfl
        refine pure_ (i := 3) (N := some 75) (v := ?_) (a' := ?_) (tf 4 5) rfl rfl (any_of HT_.out (by kernel_rfl)) (fun _ _ _ h => h) (Or.inl ⟨by rfl, ?_⟩) ?_ ?_
        rotate_left
        ·intro w'
         go_simp
         with_reducible rfl
        rotate_left
        ·simp only [Act.put, sb, sz, ss, i64_w, i32_w]
         rfl
        refine pure_ (i := 5) (N := some 77) (v := ?_) (a' := ?_) #[true, true, true, true, false, true, false, false, false] rfl rfl (any_of HT_.out (by kernel_rfl)) (fun _ _ _ h => h) (Or.inl ⟨by rfl, ?_⟩) ?_ ?_
        rotate_left
        ·intro w'
         go_simp
         with_reducible rfl
        rotate_left
        ·simp only [Act.put, sb, sz, ss, i64_w, i32_w]
         rfl
        refine take_ (i := 4) (N := some 76) (v := ?_) (a' := ?_) (tf 6 3) rfl rfl (take_ofW HT_.out HW_.out (by kernel_rfl)) (fun _ _ _ h => h) (Or.inl ⟨by rfl, ?_⟩) hHeld ?_ ?_
        rotate_left
        ·intro w' s0
         go_simp
         with_reducible rfl
        rotate_left
        ·simp only [Act.put, sb, sz, ss, i64_w, i32_w]
         rfl
        refine one_ (i := 6) (N := some 78) (tf 7 2) rfl rfl (one_of HT_.out (by kernel_rfl)) (by decide) (fun K hK => ?_)
        refine goes_ Try.func59 (by kernel_rfl) rfl #[.int .i64 a0] (by rfl) rfl rfl gl ?_
        with_reducible refine (annealref1_Mask.calls a0 t370 _ A37.out).mono ?_
        rintro e w' ⟨rfl, ⟨nd, rfl⟩⟩
        refine ⟨_, rfl, ?_⟩
        refine hK.out _ _ (hHeld) (fun hHeld => ?_)
        clear hK K
        refine norm_ (a' := ?_) ?_ ?_
        rotate_left
        ·show Act.put _ (some 78) _ = _
         simp only [Act.put, sb, sz, ss, i64_w, i32_w]
         rfl
        refine pure_ (i := 7) (N := some 79) (v := ?_) (a' := ?_) (tf 8 1) rfl rfl (any_of HT_.out (by kernel_rfl)) (fun _ _ _ h => h) (Or.inl ⟨by rfl, ?_⟩) ?_ ?_
        rotate_left
        ·intro w'
         go_simp
         with_reducible rfl
        rotate_left
        ·simp only [Act.put, sb, sz, ss, i64_w, i32_w]
         rfl
        refine pure_ (i := 8) (N := some 11) (v := ?_) (a' := ?_) (tf 9 0) rfl rfl (any_of HT_.out (by kernel_rfl)) (fun _ _ _ h => h) (Or.inl ⟨by rfl, ?_⟩) ?_ ?_
        rotate_left
        ·intro w'
         go_simp
         with_reducible rfl
        rotate_left
        ·simp only [Act.put, sb, sz, ss, i64_w, i32_w]
         rfl
        refine done_ (done_of HT_.out (by kernel_rfl)) ?_
        go_upto_if 82 with (fail)
        go_cut [11] (fun v11 wc => ∃ (kq : Nat) (x11_37 : Int), v11 = .int .u32 x11_37 ∧ Aside0 (annealseat_Num.j0 kq x11_37 = some r) ∧ Aside0 (kq ≤ k) ∧ Aside0 (Below w.heap.size w wc))
        case first =>
         have H := HC38.out
         clear HC38
         by_cases c45 : (a1 / 2147483648) = 1
         ·rw [if_pos c45] at H
          have c45b0 : ((a1 / 2147483648) == 1) = true := beq_iff_eq.mpr c45
          have c45b1 : ((a1 / 2147483648) != 1) = false := bne_eq_false_iff_eq.mpr c45
          clear c45
          (first | rw [c45b0] | (simp only [i64_w, i32_w]; rw [c45b0]) | skip)
          replace H := Option.bind_eq_some_iff.mp H
          obtain ⟨t371, A460, H⟩ := H
          replace H : (annealseat_Num.j0 k (Go.bits .or .u32 (Go.bits .and .u32 (rd y366 (ji34)) t370) t371)) = some r := H
          have A46 := Aside0.mk A460
          clear A460
          have H' := Aside0.mk H
          clear H
          go_wp2_with (first | ((with_reducible refine gate_callee (f := 29) rfl ?_); refine goesL_ (some 85) rfl rfl Try.func29 (by kernel_rfl) rfl #[.int .i64 a0, .bool true] rfl gl ?_; (with_reducible refine (annealref1_Zero.calls a0 true t371 _ A46.out).mono ?_); rintro e w' ⟨rfl, ⟨nd, rfl⟩⟩; refine ⟨_, rfl, ?_⟩))
          go_meet
          case rel => exact ⟨_, (Go.bits .or .u32 (Go.bits .and .u32 (rd y366 (ji34)) t370) t371), (by first | rfl | (simp; done) | (simp only [← hji34] <;> (first | rfl | (simp; done))) | (simp [*]; done) | (congr 1; (try unfold wrap64); omega) | (congr 1; rw [IntKind.wrap_u64]; omega)), H', ⟨by first | omega | exact Nat.le_refl _⟩, ⟨bl0 HB.out⟩⟩
         ·rw [if_neg c45] at H
          have c45b0 : ((a1 / 2147483648) == 1) = false := beq_eq_false_iff_ne.mpr c45
          have c45b1 : ((a1 / 2147483648) != 1) = true := bne_iff_ne.mpr c45
          (first | rw [c45b0] | (simp only [i64_w, i32_w]; rw [c45b0]) | skip)
          have H' := Aside0.mk H
          clear H
          go_wp2
          go_meet
          case rel => exact ⟨_, (Go.bits .and .u32 (rd y366 (ji34)) t370), (by first | rfl | (simp; done) | (simp only [← hji34] <;> (first | rfl | (simp; done))) | (simp [*]; done) | (congr 1; (try unfold wrap64); omega) | (congr 1; rw [IntKind.wrap_u64]; omega)), H', ⟨by first | omega | exact Nat.le_refl _⟩, ⟨bl0 HB.out⟩⟩
        case rest =>
         clear HC38
         try clear c2 p2 c3 p3 q3 hx3 c4 c5 p6 c24 c24b0 c25 c25b0 c26 c26b0 c28 c28b0 c28b1 c29 c30 c30b0 c32 c32b0 c32b1 c35 c35b0 c36 c36b0 p36 q36 hx36 c45 c45b0 c45b1 hx369_0 p369 q369
         obtain ⟨kq, x11_37, rfl, HA, HJ37, HB⟩ := hcut
         cases kq with
         |zero => exact absurd HA.out (by simp [annealseat_Num.j0])
         |succ kj37 =>
          have H := HA.out
          clear HA
          simp only [annealseat_Num.j0] at H
          obtain rfl := Option.some.inj H
          go_wp2
          go_ret
          exact ⟨by first | rfl | (simp [errW_none, errW_some] <;> rfl) | (simp only [← hji5, ← hji6, ← hji8, ← hji10, ← hji11, ← hji13, ← hji14, ← hji16, ← hji18, ← hji20, ← hji22, ← hji23, ← hji27, ← hji29, ← hji31, ← hji33, ← hji34]; first | rfl | (simp [errW_none, errW_some] <;> rfl)) | (simp [*, errW_none, errW_some] <;> rfl), bl0 HB.out⟩
       ·rw [if_neg c36] at H
        exact absurd H (by simp)
      ·rw [if_neg c35] at H
       exact absurd H (by simp)
    ·rw [if_neg c28] at H
     exact absurd H (by simp)
  ·rw [if_neg c7] at H
   exact absurd H (by simp)
 ·rw [if_neg c4] at H
  exact absurd H (by simp)

end Go.Proofs.Ytngkpekmgahjiaa.P
