import Derived.Test.YtfapjegkilljnaaGreatQotZ
import Derived.Test.YtfapjegkilljnaaGreatQotM5
import Derived.Test.YtfapjegkilljnaaGreatQotM6
import Derived.Test.YtfapjegkilljnaaGreatQotM4
import Derived.Test.YtfapjegkilljnaaGreatProg
-- Printed by a program of this session's out of Lean's print of the translation; Lean checks it.
set_option linter.unusedVariables false
set_option linter.unusedSimpArgs false
set_option maxRecDepth 100000
set_option maxHeartbeats 8000000
namespace Go.Proofs.YtfapjegkilljnaaGreat.P
open Go.RowKit Go.Proofs.YtfapjegkilljnaaGreatW.PrintWords Go.Proofs.YtfapjegkilljnaaGreatW.PrintLast Go.Proofs.YtfapjegkilljnaaGreatW.PrintMore
attribute [local go_sem] max2_int min2_int max_two min_two max_three min_three max_four min_four

-- NEED 0
/-! ### bF: function 73 -/
def bF.f (a0 : Int) (a1 : Bool) : Option (Int) := (aF.f a0).bind fun bt754 => ((bQ.f a0 a1).bind fun t756 => (if 0 ≤ bt754.1 then (if 0 ≤ bt754.2 then (some (Go.bits .or .u32 t756 (shl .u32 (((shl .u32 1 bt754.1) - 1) % 4294967296) bt754.2))) else (none)) else (none)))
theorem bF.calls (a0 : Int) (a1 : Bool) (r : Int) (w : World) (h : bF.f a0 a1 = some r) :
  Calls Tryz.prog 73 #[.int .i64 a0, .bool a1] w fun e w' => e = .returned (.int .u32 r) ∧ Drawn0 w w' := by
 have H : ((aF.f a0).bind fun bt754 => ((bQ.f a0 a1).bind fun t756 => (if 0 ≤ bt754.1 then (if 0 ≤ bt754.2 then (some (Go.bits .or .u32 t756 (shl .u32 (((shl .u32 1 bt754.1) - 1) % 4294967296) bt754.2))) else (none)) else (none)))) = some r := h
 clear h
 replace H := bq_ H
 obtain ⟨⟨t754, t755⟩, A30, H⟩ := H
 replace H : ((bQ.f a0 a1).bind fun t756 => (if 0 ≤ t754 then (if 0 ≤ t755 then (some (Go.bits .or .u32 t756 (shl .u32 (((shl .u32 1 t754) - 1) % 4294967296) t755))) else (none)) else (none))) = some r := H
 have A3 := Aside0.mk A30
 clear A30
 replace H := bq_ H
 obtain ⟨t756, A40, H⟩ := H
 replace H : (if 0 ≤ t754 then (if 0 ≤ t755 then (some (Go.bits .or .u32 t756 (shl .u32 (((shl .u32 1 t754) - 1) % 4294967296) t755))) else (none)) else (none)) = some r := H
 have A4 := Aside0.mk A40
 clear A40
 by_cases c5 : 0 ≤ t754
 ·rw [if_pos c5] at H
  have c5b0 := eq_true c5
  have c5b1 : decide (0 ≤ t754) = true := decide_eq_true c5
  clear c5
  obtain ⟨ji6, hji6⟩ : ∃ j_ : Int, (shl .u32 1 t754) = j_ := ⟨_, rfl⟩
  replace H : (if 0 ≤ t755 then (some (Go.bits .or .u32 t756 (shl .u32 (((ji6) - 1) % 4294967296) t755))) else (none)) = some r := by first | (rw [hji6] at H; exact H) | (simp only [hji6] at H ⊢; exact H)
  (try rw [hji6] at A3)
  (try rw [hji6] at A4)
  have hji6_ : (IntKind.u32.wrap (1 * 2 ^ min t754.toNat 32)) = ji6 := hji6
  have hji6z : t754 ≤ 32 → (IntKind.u32.wrap (1 * 2 ^ t754.toNat)) = ji6 := shl_small hji6
  have hji6u : (IntKind.u32.wrap (2 ^ min t754.toNat 32)) = ji6 := by have h_ := hji6_; rw [Int.one_mul] at h_; exact h_
  have hji6v : t754 ≤ 32 → (IntKind.u32.wrap (2 ^ t754.toNat)) = ji6 := fun hle_ => by have h_ := hji6z hle_; rw [Int.one_mul] at h_; exact h_
  obtain ⟨ji7, hji7⟩ : ∃ j_ : Int, (((ji6) - 1) % 4294967296) = j_ := ⟨_, rfl⟩
  replace H : (if 0 ≤ t755 then (some (Go.bits .or .u32 t756 (shl .u32 (ji7) t755))) else (none)) = some r := by first | (rw [hji7] at H; exact H) | (simp only [hji7] at H ⊢; exact H)
  (try rw [hji7] at A3)
  (try rw [hji7] at A4)
  have hji7l : 0 ≤ ji7 := by rw [← hji7]; exact Int.emod_nonneg _ (by decide)
  have hji7h : ji7 ≤ 4294967295 := by have := Int.emod_lt_of_pos (((ji6) - 1)) (show (0 : Int) < 4294967296 by decide); omega
  have hji7w : (IntKind.u32.wrap ((ji6) - 1)) = ji7 := (sH _).trans hji7
  (try (have hji7_ := hji7; simp only [Int.add_emod_emod, Int.emod_add_emod, Int.sub_emod_emod, Int.emod_sub_emod] at hji7_))
  by_cases c8 : 0 ≤ t755
  ·rw [if_pos c8] at H
   have c8b0 := eq_true c8
   have c8b1 : decide (0 ≤ t755) = true := decide_eq_true c8
   clear c8
   obtain ⟨ji9, hji9⟩ : ∃ j_ : Int, (shl .u32 (ji7) t755) = j_ := ⟨_, rfl⟩
   replace H : (some (Go.bits .or .u32 t756 (ji9))) = some r := by first | (rw [hji9] at H; exact H) | (simp only [hji9] at H ⊢; exact H)
   (try rw [hji9] at A3)
   (try rw [hji9] at A4)
   have hji9_ : (IntKind.u32.wrap ((ji7) * 2 ^ min t755.toNat 32)) = ji9 := hji9
   have hji9z : t755 ≤ 32 → (IntKind.u32.wrap ((ji7) * 2 ^ t755.toNat)) = ji9 := shl_small hji9
   obtain rfl := Option.some.inj H
   go_enter Tryz.func73, Tryz.ntmps73
   go_wp2_with (first | (go_at_call 12; (with_reducible refine (aF.calls a0 t754 t755 _ A3.out).mono ?_); rintro e w' ⟨rfl, ⟨nd, rfl⟩⟩; (try first | exact ⟨rfl, _, World.drewN_drewN _ _ _⟩ | exact ⟨rfl, _, Eq.trans (World.drewN_drewN _ _ _) (congrArg (World.drewN _) (Nat.add_assoc _ _ _))⟩)) | (go_at_call 29; (with_reducible refine (bQ.calls a0 a1 t756 _ A4.out).mono ?_); rintro e w' ⟨rfl, ⟨nd, rfl⟩⟩; (try first | exact ⟨rfl, _, World.drewN_drewN _ _ _⟩ | exact ⟨rfl, _, Eq.trans (World.drewN_drewN _ _ _) (congrArg (World.drewN _) (Nat.add_assoc _ _ _))⟩)))
   repeat (go_quiet (first | (go_at_call 12; (with_reducible refine (aF.calls a0 t754 t755 _ A3.out).mono ?_); rintro e w' ⟨rfl, ⟨nd, rfl⟩⟩; (try first | exact ⟨rfl, _, World.drewN_drewN _ _ _⟩ | exact ⟨rfl, _, Eq.trans (World.drewN_drewN _ _ _) (congrArg (World.drewN _) (Nat.add_assoc _ _ _))⟩)) | (go_at_call 29; (with_reducible refine (bQ.calls a0 a1 t756 _ A4.out).mono ?_); rintro e w' ⟨rfl, ⟨nd, rfl⟩⟩; (try first | exact ⟨rfl, _, World.drewN_drewN _ _ _⟩ | exact ⟨rfl, _, Eq.trans (World.drewN_drewN _ _ _) (congrArg (World.drewN _) (Nat.add_assoc _ _ _))⟩))); try go_wp2_with (first | (go_at_call 12; (with_reducible refine (aF.calls a0 t754 t755 _ A3.out).mono ?_); rintro e w' ⟨rfl, ⟨nd, rfl⟩⟩; (try first | exact ⟨rfl, _, World.drewN_drewN _ _ _⟩ | exact ⟨rfl, _, Eq.trans (World.drewN_drewN _ _ _) (congrArg (World.drewN _) (Nat.add_assoc _ _ _))⟩)) | (go_at_call 29; (with_reducible refine (bQ.calls a0 a1 t756 _ A4.out).mono ?_); rintro e w' ⟨rfl, ⟨nd, rfl⟩⟩; (try first | exact ⟨rfl, _, World.drewN_drewN _ _ _⟩ | exact ⟨rfl, _, Eq.trans (World.drewN_drewN _ _ _) (congrArg (World.drewN _) (Nat.add_assoc _ _ _))⟩))))
   go_ret
   exact ⟨by first | rfl | (simp; done) | (simp only [← hji6, ← hji7, ← hji9] <;> (first | rfl | (simp; done))) | (simp [*]; done) | (congr 1; (try unfold wrap64); omega) | (congr 1; rw [IntKind.wrap_u64]; omega), gd_⟩
  ·rw [if_neg c8] at H
   exact absurd H (by simp)
 ·rw [if_neg c5] at H
  exact absurd H (by simp)

-- NEED 0
/-! ### bH: function 71 -/
def bH.f (a0 : Int) : Option (Int) := (aF.f a0).bind fun bt757 => ((bF.f a0 false).bind fun t759 => (if 0 ≤ (wrap64 (bt757.2 - 1)) then (some (Go.bits .or .u32 t759 (shl .u32 1 (wrap64 (bt757.2 - 1))))) else (none)))
theorem bH.calls (a0 r : Int) (w : World) (h : bH.f a0 = some r) :
  Calls Tryz.prog 71 #[.int .i64 a0] w fun e w' => e = .returned (.int .u32 r) ∧ Drawn0 w w' := by
 have H : ((aF.f a0).bind fun bt757 => ((bF.f a0 false).bind fun t759 => (if 0 ≤ (wrap64 (bt757.2 - 1)) then (some (Go.bits .or .u32 t759 (shl .u32 1 (wrap64 (bt757.2 - 1))))) else (none)))) = some r := h
 clear h
 replace H := bq_ H
 obtain ⟨⟨t757, t758⟩, A20, H⟩ := H
 replace H : ((bF.f a0 false).bind fun t759 => (if 0 ≤ (wrap64 (t758 - 1)) then (some (Go.bits .or .u32 t759 (shl .u32 1 (wrap64 (t758 - 1))))) else (none))) = some r := H
 have A2 := Aside0.mk A20
 clear A20
 replace H := bq_ H
 obtain ⟨t759, A30, H⟩ := H
 replace H : (if 0 ≤ (wrap64 (t758 - 1)) then (some (Go.bits .or .u32 t759 (shl .u32 1 (wrap64 (t758 - 1))))) else (none)) = some r := H
 have A3 := Aside0.mk A30
 clear A30
 obtain ⟨ji4, hji4⟩ : ∃ j_ : Int, (wrap64 (t758 - 1)) = j_ := ⟨_, rfl⟩
 replace H : (if 0 ≤ (ji4) then (some (Go.bits .or .u32 t759 (shl .u32 1 (ji4)))) else (none)) = some r := by first | (rw [hji4] at H; exact H) | (simp only [hji4] at H ⊢; exact H)
 (try rw [hji4] at A2)
 (try rw [hji4] at A3)
 have hji4w : (IntKind.i64.wrap (t758 - 1)) = ji4 := (i64_w _).trans hji4
 by_cases c5 : 0 ≤ (ji4)
 ·rw [if_pos c5] at H
  have c5b0 := eq_true c5
  have c5b1 : decide (0 ≤ (ji4)) = true := decide_eq_true c5
  clear c5
  obtain ⟨ji6, hji6⟩ : ∃ j_ : Int, (shl .u32 1 (ji4)) = j_ := ⟨_, rfl⟩
  replace H : (some (Go.bits .or .u32 t759 (ji6))) = some r := by first | (rw [hji6] at H; exact H) | (simp only [hji6] at H ⊢; exact H)
  (try rw [hji6] at A2)
  (try rw [hji6] at A3)
  have hji6_ : (IntKind.u32.wrap (1 * 2 ^ min (ji4).toNat 32)) = ji6 := hji6
  have hji6z : (ji4) ≤ 32 → (IntKind.u32.wrap (1 * 2 ^ (ji4).toNat)) = ji6 := shl_small hji6
  have hji6u : (IntKind.u32.wrap (2 ^ min (ji4).toNat 32)) = ji6 := by have h_ := hji6_; rw [Int.one_mul] at h_; exact h_
  have hji6v : (ji4) ≤ 32 → (IntKind.u32.wrap (2 ^ (ji4).toNat)) = ji6 := fun hle_ => by have h_ := hji6z hle_; rw [Int.one_mul] at h_; exact h_
  obtain rfl := Option.some.inj H
  go_enter Tryz.func71, Tryz.ntmps71
  go_wp2_with (first | (go_at_call 12; (with_reducible refine (aF.calls a0 t757 t758 _ A2.out).mono ?_); rintro e w' ⟨rfl, ⟨nd, rfl⟩⟩; (try first | exact ⟨rfl, _, World.drewN_drewN _ _ _⟩ | exact ⟨rfl, _, Eq.trans (World.drewN_drewN _ _ _) (congrArg (World.drewN _) (Nat.add_assoc _ _ _))⟩)) | (go_at_call 73; (with_reducible refine (bF.calls a0 false t759 _ A3.out).mono ?_); rintro e w' ⟨rfl, ⟨nd, rfl⟩⟩; (try first | exact ⟨rfl, _, World.drewN_drewN _ _ _⟩ | exact ⟨rfl, _, Eq.trans (World.drewN_drewN _ _ _) (congrArg (World.drewN _) (Nat.add_assoc _ _ _))⟩)))
  repeat (go_quiet (first | (go_at_call 12; (with_reducible refine (aF.calls a0 t757 t758 _ A2.out).mono ?_); rintro e w' ⟨rfl, ⟨nd, rfl⟩⟩; (try first | exact ⟨rfl, _, World.drewN_drewN _ _ _⟩ | exact ⟨rfl, _, Eq.trans (World.drewN_drewN _ _ _) (congrArg (World.drewN _) (Nat.add_assoc _ _ _))⟩)) | (go_at_call 73; (with_reducible refine (bF.calls a0 false t759 _ A3.out).mono ?_); rintro e w' ⟨rfl, ⟨nd, rfl⟩⟩; (try first | exact ⟨rfl, _, World.drewN_drewN _ _ _⟩ | exact ⟨rfl, _, Eq.trans (World.drewN_drewN _ _ _) (congrArg (World.drewN _) (Nat.add_assoc _ _ _))⟩))); try go_wp2_with (first | (go_at_call 12; (with_reducible refine (aF.calls a0 t757 t758 _ A2.out).mono ?_); rintro e w' ⟨rfl, ⟨nd, rfl⟩⟩; (try first | exact ⟨rfl, _, World.drewN_drewN _ _ _⟩ | exact ⟨rfl, _, Eq.trans (World.drewN_drewN _ _ _) (congrArg (World.drewN _) (Nat.add_assoc _ _ _))⟩)) | (go_at_call 73; (with_reducible refine (bF.calls a0 false t759 _ A3.out).mono ?_); rintro e w' ⟨rfl, ⟨nd, rfl⟩⟩; (try first | exact ⟨rfl, _, World.drewN_drewN _ _ _⟩ | exact ⟨rfl, _, Eq.trans (World.drewN_drewN _ _ _) (congrArg (World.drewN _) (Nat.add_assoc _ _ _))⟩))))
  go_ret
  exact ⟨by first | rfl | (simp; done) | (simp only [← hji4, ← hji6] <;> (first | rfl | (simp; done))) | (simp [*]; done) | (congr 1; (try unfold wrap64); omega) | (congr 1; rw [IntKind.wrap_u64]; omega), gd_⟩
 ·rw [if_neg c5] at H
  exact absurd H (by simp)

-- NEED 0
/-! ### bA: function 72 -/
def bA.f (a0 a1 : Int) : Option (Bool) := (bV.f a0 a1).bind fun bt760 => (some bt760.1)
theorem bA.calls (a0 a1 : Int) (r : Bool) (w : World) (h : bA.f a0 a1 = some r) :
  Calls Tryz.prog 72 #[.int .i64 a0, .int .u32 a1] w fun e w' => e = .returned (.bool r) ∧ Drawn0 w w' := by
 have H : ((bV.f a0 a1).bind fun bt760 => (some bt760.1)) = some r := h
 clear h
 replace H := bq_ H
 obtain ⟨⟨t760, t761, t762⟩, A30, H⟩ := H
 replace H : (some t760) = some r := H
 have A3 := Aside0.mk A30
 clear A30
 obtain rfl := Option.some.inj H
 go_enter Tryz.func72, Tryz.ntmps72
 go_wp2_with (first | ((with_reducible refine gate_callee (f := 101) rfl ?_); refine goesL_ (some 11) rfl rfl Tryz.func101 (by kernel_rfl) rfl #[.int .i64 a0, .int .u32 a1] rfl gl ?_; (with_reducible refine (bV.calls a0 a1 t760 t761 t762 _ A3.out).mono ?_); rintro e w' ⟨rfl, ⟨nd, rfl⟩⟩; refine ⟨_, rfl, ?_⟩))
 go_ret
 exact ⟨gr_, gd_⟩

-- NEED 0
/-! ### bG: function 102 -/
def bG.f (a0 : Int) : Option (Int) := (aF.f a0).bind fun bt763 => (if 0 ≤ (wrap64 (bt763.1 - 1)) then (some (wrap64 ((shl .i64 1 (wrap64 (bt763.1 - 1))) - 1))) else (none))
theorem bG.calls (a0 r : Int) (w : World) (h : bG.f a0 = some r) :
  Calls Tryz.prog 102 #[.int .i64 a0] w fun e w' => e = .returned (.int .i64 r) ∧ Drawn0 w w' := by
 have H : ((aF.f a0).bind fun bt763 => (if 0 ≤ (wrap64 (bt763.1 - 1)) then (some (wrap64 ((shl .i64 1 (wrap64 (bt763.1 - 1))) - 1))) else (none))) = some r := h
 clear h
 replace H := bq_ H
 obtain ⟨⟨t763, t764⟩, A20, H⟩ := H
 replace H : (if 0 ≤ (wrap64 (t763 - 1)) then (some (wrap64 ((shl .i64 1 (wrap64 (t763 - 1))) - 1))) else (none)) = some r := H
 have A2 := Aside0.mk A20
 clear A20
 obtain ⟨ji3, hji3⟩ : ∃ j_ : Int, (wrap64 (t763 - 1)) = j_ := ⟨_, rfl⟩
 replace H : (if 0 ≤ (ji3) then (some (wrap64 ((shl .i64 1 (ji3)) - 1))) else (none)) = some r := by first | (rw [hji3] at H; exact H) | (simp only [hji3] at H ⊢; exact H)
 (try rw [hji3] at A2)
 have hji3w : (IntKind.i64.wrap (t763 - 1)) = ji3 := (i64_w _).trans hji3
 by_cases c4 : 0 ≤ (ji3)
 ·rw [if_pos c4] at H
  have c4b0 := eq_true c4
  have c4b1 : decide (0 ≤ (ji3)) = true := decide_eq_true c4
  clear c4
  obtain ⟨ji5, hji5⟩ : ∃ j_ : Int, (shl .i64 1 (ji3)) = j_ := ⟨_, rfl⟩
  replace H : (some (wrap64 ((ji5) - 1))) = some r := by first | (rw [hji5] at H; exact H) | (simp only [hji5] at H ⊢; exact H)
  (try rw [hji5] at A2)
  have hji5_ : (IntKind.i64.wrap (1 * 2 ^ min (ji3).toNat 64)) = ji5 := hji5
  have hji5z : (ji3) ≤ 64 → (IntKind.i64.wrap (1 * 2 ^ (ji3).toNat)) = ji5 := shl_small hji5
  have hji5u : (IntKind.i64.wrap (2 ^ min (ji3).toNat 64)) = ji5 := by have h_ := hji5_; rw [Int.one_mul] at h_; exact h_
  have hji5v : (ji3) ≤ 64 → (IntKind.i64.wrap (2 ^ (ji3).toNat)) = ji5 := fun hle_ => by have h_ := hji5z hle_; rw [Int.one_mul] at h_; exact h_
  have hji5y : (wrap64 (1 * 2 ^ min (ji3).toNat 64)) = ji5 := (i64_w _).symm.trans hji5_
  have hji5x : (ji3) ≤ 64 → (wrap64 (1 * 2 ^ (ji3).toNat)) = ji5 := fun h_ => (i64_w _).symm.trans (hji5z h_)
  obtain rfl := Option.some.inj H
  go_enter Tryz.func102, Tryz.ntmps102
  go_wp2_with (first | ((with_reducible refine gate_callee (f := 12) rfl ?_); refine goesL_ (some 7) rfl rfl Tryz.func12 (by kernel_rfl) rfl #[.int .i64 a0] rfl gl ?_; (with_reducible refine (aF.calls a0 t763 t764 _ A2.out).mono ?_); rintro e w' ⟨rfl, ⟨nd, rfl⟩⟩; refine ⟨_, rfl, ?_⟩))
  go_ret
  exact ⟨by first | rfl | (simp; done) | (simp only [← hji3, ← hji5] <;> (first | rfl | (simp; done))) | (simp [*]; done) | (congr 1; (try unfold wrap64); omega) | (congr 1; rw [IntKind.wrap_u64]; omega), gd_⟩
 ·rw [if_neg c4] at H
  exact absurd H (by simp)

-- NEED 0
/-! ### aH: function 74 -/
def aH.f (k : Nat) (a0 a1 : Int) : Option (Bool × Int × Int) := (aF.f a0).bind fun bt765 => ((bV.f a0 a1).bind fun bt767 => ((aI.f k a0 a1).bind fun t770 => (if t770 = 2 then ((bG.f a0).bind fun t771 => (if 0 ≤ bt765.2 then (some (bt767.1, wrap64 ((wrap64 (bt767.2.1 - t771)) - bt765.2), Go.bits .or .u64 bt767.2.2 (shl .u64 1 bt765.2))) else (none))) else (if t770 = 0 then ((bG.f a0).bind fun t772 => (some (bt767.1, wrap64 ((wrap64 (1 - t772)) - bt765.2), bt767.2.2))) else (if t770 = 1 then ((bG.f a0).bind fun t773 => (some (bt767.1, wrap64 ((wrap64 (1 - t773)) - bt765.2), bt767.2.2))) else (some (bt767.1, 0, 0)))))))
theorem aH.mono : ∀ a0 a1 k, LeO (aH.f k a0 a1) (aH.f (k + 1) a0 a1) := by
 intro a0 a1 k
 unfold aH.f
 repeat' first
   |(with_reducible first|exact aI.mono _ _ _|exact LeO.refl _|exact LeO.none _|refine LeO.ite ?_ ?_|refine LeO.bind ?_ (fun _ => ?_))
   |exact aI.mono _ _ _
   |exact LeO.none _
   |refine LeO.ite ?_ ?_
   |refine LeO.bind ?_ (fun _ => ?_)
theorem aH.calls (k : Nat) (a0 a1 : Int) (r1 : Bool) (r2 r3 : Int) (w : World) (h : aH.f k a0 a1 = some (r1, r2, r3)) :
  Calls Tryz.prog 74 #[.int .i64 a0, .int .u32 a1] w fun e w' => e = .returned (.tuple #[.bool r1, .int .i64 r2, .int .u64 r3]) ∧ Drawn0 w w' := by
 have H : ((aF.f a0).bind fun bt765 => ((bV.f a0 a1).bind fun bt767 => ((aI.f k a0 a1).bind fun t770 => (if t770 = 2 then ((bG.f a0).bind fun t771 => (if 0 ≤ bt765.2 then (some (bt767.1, wrap64 ((wrap64 (bt767.2.1 - t771)) - bt765.2), Go.bits .or .u64 bt767.2.2 (shl .u64 1 bt765.2))) else (none))) else (if t770 = 0 then ((bG.f a0).bind fun t772 => (some (bt767.1, wrap64 ((wrap64 (1 - t772)) - bt765.2), bt767.2.2))) else (if t770 = 1 then ((bG.f a0).bind fun t773 => (some (bt767.1, wrap64 ((wrap64 (1 - t773)) - bt765.2), bt767.2.2))) else (some (bt767.1, 0, 0)))))))) = some (r1, r2, r3) := h
 clear h
 replace H := bq_ H
 obtain ⟨⟨t765, t766⟩, A30, H⟩ := H
 replace H : ((bV.f a0 a1).bind fun bt767 => ((aI.f k a0 a1).bind fun t770 => (if t770 = 2 then ((bG.f a0).bind fun t771 => (if 0 ≤ t766 then (some (bt767.1, wrap64 ((wrap64 (bt767.2.1 - t771)) - t766), Go.bits .or .u64 bt767.2.2 (shl .u64 1 t766))) else (none))) else (if t770 = 0 then ((bG.f a0).bind fun t772 => (some (bt767.1, wrap64 ((wrap64 (1 - t772)) - t766), bt767.2.2))) else (if t770 = 1 then ((bG.f a0).bind fun t773 => (some (bt767.1, wrap64 ((wrap64 (1 - t773)) - t766), bt767.2.2))) else (some (bt767.1, 0, 0))))))) = some (r1, r2, r3) := H
 have A3 := Aside0.mk A30
 clear A30
 replace H := bq_ H
 obtain ⟨⟨t767, t768, t769⟩, A40, H⟩ := H
 replace H : ((aI.f k a0 a1).bind fun t770 => (if t770 = 2 then ((bG.f a0).bind fun t771 => (if 0 ≤ t766 then (some (t767, wrap64 ((wrap64 (t768 - t771)) - t766), Go.bits .or .u64 t769 (shl .u64 1 t766))) else (none))) else (if t770 = 0 then ((bG.f a0).bind fun t772 => (some (t767, wrap64 ((wrap64 (1 - t772)) - t766), t769))) else (if t770 = 1 then ((bG.f a0).bind fun t773 => (some (t767, wrap64 ((wrap64 (1 - t773)) - t766), t769))) else (some (t767, 0, 0)))))) = some (r1, r2, r3) := H
 have A4 := Aside0.mk A40
 clear A40
 replace H := bq_ H
 obtain ⟨t770, A50, H⟩ := H
 replace H : (if t770 = 2 then ((bG.f a0).bind fun t771 => (if 0 ≤ t766 then (some (t767, wrap64 ((wrap64 (t768 - t771)) - t766), Go.bits .or .u64 t769 (shl .u64 1 t766))) else (none))) else (if t770 = 0 then ((bG.f a0).bind fun t772 => (some (t767, wrap64 ((wrap64 (1 - t772)) - t766), t769))) else (if t770 = 1 then ((bG.f a0).bind fun t773 => (some (t767, wrap64 ((wrap64 (1 - t773)) - t766), t769))) else (some (t767, 0, 0))))) = some (r1, r2, r3) := H
 have A5 := Aside0.mk A50
 clear A50
 by_cases c6 : t770 = 2
 ·rw [if_pos c6] at H
  have c6b0 : (t770 == 2) = true := beq_iff_eq.mpr c6
  have c6b1 : (t770 != 2) = false := bne_eq_false_iff_eq.mpr c6
  clear c6
  replace H := bq_ H
  obtain ⟨t771, A70, H⟩ := H
  replace H : (if 0 ≤ t766 then (some (t767, wrap64 ((wrap64 (t768 - t771)) - t766), Go.bits .or .u64 t769 (shl .u64 1 t766))) else (none)) = some (r1, r2, r3) := H
  have A7 := Aside0.mk A70
  clear A70
  by_cases c8 : 0 ≤ t766
  ·rw [if_pos c8] at H
   have c8b0 := eq_true c8
   have c8b1 : decide (0 ≤ t766) = true := decide_eq_true c8
   clear c8
   obtain ⟨ji9, hji9⟩ : ∃ j_ : Int, (shl .u64 1 t766) = j_ := ⟨_, rfl⟩
   replace H : (some (t767, wrap64 ((wrap64 (t768 - t771)) - t766), Go.bits .or .u64 t769 (ji9))) = some (r1, r2, r3) := by first | (rw [hji9] at H; exact H) | (simp only [hji9] at H ⊢; exact H)
   (try rw [hji9] at A3)
   (try rw [hji9] at A4)
   (try rw [hji9] at A5)
   (try rw [hji9] at A7)
   have hji9_ : (IntKind.u64.wrap (1 * 2 ^ min t766.toNat 64)) = ji9 := hji9
   have hji9z : t766 ≤ 64 → (IntKind.u64.wrap (1 * 2 ^ t766.toNat)) = ji9 := shl_small hji9
   have hji9u : (IntKind.u64.wrap (2 ^ min t766.toNat 64)) = ji9 := by have h_ := hji9_; rw [Int.one_mul] at h_; exact h_
   have hji9v : t766 ≤ 64 → (IntKind.u64.wrap (2 ^ t766.toNat)) = ji9 := fun hle_ => by have h_ := hji9z hle_; rw [Int.one_mul] at h_; exact h_
   simp only [Option.some.injEq, Prod.mk.injEq] at H
   obtain ⟨rfl, rfl, rfl⟩ := H
   go_enter Tryz.func74, Tryz.ntmps74
   go_wp2_with (first | (go_at_call 12; (with_reducible refine (aF.calls a0 t765 t766 _ A3.out).mono ?_); rintro e w' ⟨rfl, ⟨nd, rfl⟩⟩; (try first | exact ⟨rfl, _, World.drewN_drewN _ _ _⟩ | exact ⟨rfl, _, Eq.trans (World.drewN_drewN _ _ _) (congrArg (World.drewN _) (Nat.add_assoc _ _ _))⟩)) | (go_at_call 101; (with_reducible refine (bV.calls a0 a1 t767 t768 t769 _ A4.out).mono ?_); rintro e w' ⟨rfl, ⟨nd, rfl⟩⟩; (try first | exact ⟨rfl, _, World.drewN_drewN _ _ _⟩ | exact ⟨rfl, _, Eq.trans (World.drewN_drewN _ _ _) (congrArg (World.drewN _) (Nat.add_assoc _ _ _))⟩)) | (go_at_call 100; (with_reducible refine (aI.calls k a0 a1 t770 _ A5.out).mono ?_); rintro e w' ⟨rfl, ⟨nd, rfl⟩⟩; (try first | exact ⟨rfl, _, World.drewN_drewN _ _ _⟩ | exact ⟨rfl, _, Eq.trans (World.drewN_drewN _ _ _) (congrArg (World.drewN _) (Nat.add_assoc _ _ _))⟩)) | (go_at_call 102; (with_reducible refine (bG.calls a0 t771 _ A7.out).mono ?_); rintro e w' ⟨rfl, ⟨nd, rfl⟩⟩; (try first | exact ⟨rfl, _, World.drewN_drewN _ _ _⟩ | exact ⟨rfl, _, Eq.trans (World.drewN_drewN _ _ _) (congrArg (World.drewN _) (Nat.add_assoc _ _ _))⟩)))
   repeat (go_quiet (first | (go_at_call 12; (with_reducible refine (aF.calls a0 t765 t766 _ A3.out).mono ?_); rintro e w' ⟨rfl, ⟨nd, rfl⟩⟩; (try first | exact ⟨rfl, _, World.drewN_drewN _ _ _⟩ | exact ⟨rfl, _, Eq.trans (World.drewN_drewN _ _ _) (congrArg (World.drewN _) (Nat.add_assoc _ _ _))⟩)) | (go_at_call 101; (with_reducible refine (bV.calls a0 a1 t767 t768 t769 _ A4.out).mono ?_); rintro e w' ⟨rfl, ⟨nd, rfl⟩⟩; (try first | exact ⟨rfl, _, World.drewN_drewN _ _ _⟩ | exact ⟨rfl, _, Eq.trans (World.drewN_drewN _ _ _) (congrArg (World.drewN _) (Nat.add_assoc _ _ _))⟩)) | (go_at_call 100; (with_reducible refine (aI.calls k a0 a1 t770 _ A5.out).mono ?_); rintro e w' ⟨rfl, ⟨nd, rfl⟩⟩; (try first | exact ⟨rfl, _, World.drewN_drewN _ _ _⟩ | exact ⟨rfl, _, Eq.trans (World.drewN_drewN _ _ _) (congrArg (World.drewN _) (Nat.add_assoc _ _ _))⟩)) | (go_at_call 102; (with_reducible refine (bG.calls a0 t771 _ A7.out).mono ?_); rintro e w' ⟨rfl, ⟨nd, rfl⟩⟩; (try first | exact ⟨rfl, _, World.drewN_drewN _ _ _⟩ | exact ⟨rfl, _, Eq.trans (World.drewN_drewN _ _ _) (congrArg (World.drewN _) (Nat.add_assoc _ _ _))⟩))); try go_wp2_with (first | (go_at_call 12; (with_reducible refine (aF.calls a0 t765 t766 _ A3.out).mono ?_); rintro e w' ⟨rfl, ⟨nd, rfl⟩⟩; (try first | exact ⟨rfl, _, World.drewN_drewN _ _ _⟩ | exact ⟨rfl, _, Eq.trans (World.drewN_drewN _ _ _) (congrArg (World.drewN _) (Nat.add_assoc _ _ _))⟩)) | (go_at_call 101; (with_reducible refine (bV.calls a0 a1 t767 t768 t769 _ A4.out).mono ?_); rintro e w' ⟨rfl, ⟨nd, rfl⟩⟩; (try first | exact ⟨rfl, _, World.drewN_drewN _ _ _⟩ | exact ⟨rfl, _, Eq.trans (World.drewN_drewN _ _ _) (congrArg (World.drewN _) (Nat.add_assoc _ _ _))⟩)) | (go_at_call 100; (with_reducible refine (aI.calls k a0 a1 t770 _ A5.out).mono ?_); rintro e w' ⟨rfl, ⟨nd, rfl⟩⟩; (try first | exact ⟨rfl, _, World.drewN_drewN _ _ _⟩ | exact ⟨rfl, _, Eq.trans (World.drewN_drewN _ _ _) (congrArg (World.drewN _) (Nat.add_assoc _ _ _))⟩)) | (go_at_call 102; (with_reducible refine (bG.calls a0 t771 _ A7.out).mono ?_); rintro e w' ⟨rfl, ⟨nd, rfl⟩⟩; (try first | exact ⟨rfl, _, World.drewN_drewN _ _ _⟩ | exact ⟨rfl, _, Eq.trans (World.drewN_drewN _ _ _) (congrArg (World.drewN _) (Nat.add_assoc _ _ _))⟩))))
   go_ret3
   exact ⟨by first | rfl | (simp; done) | (simp only [← hji9] <;> (first | rfl | (simp; done))) | (simp [*]; done) | (congr 1; (try unfold wrap64); omega) | (congr 1; rw [IntKind.wrap_u64]; omega), gd_⟩
  ·rw [if_neg c8] at H
   exact absurd H (by simp)
 ·rw [if_neg c6] at H
  have c6b0 : (t770 == 2) = false := beq_eq_false_iff_ne.mpr c6
  have c6b1 : (t770 != 2) = true := bne_iff_ne.mpr c6
  by_cases c10 : t770 = 0
  ·rw [if_pos c10] at H
   have c10b0 : (t770 == 0) = true := beq_iff_eq.mpr c10
   have c10b1 : (t770 != 0) = false := bne_eq_false_iff_eq.mpr c10
   clear c10
   replace H := bq_ H
   obtain ⟨t772, A110, H⟩ := H
   replace H : (some (t767, wrap64 ((wrap64 (1 - t772)) - t766), t769)) = some (r1, r2, r3) := H
   have A11 := Aside0.mk A110
   clear A110
   simp only [Option.some.injEq, Prod.mk.injEq] at H
   obtain ⟨rfl, rfl, rfl⟩ := H
   go_enter Tryz.func74, Tryz.ntmps74
   go_wp2_with (first | (go_at_call 12; (with_reducible refine (aF.calls a0 t765 t766 _ A3.out).mono ?_); rintro e w' ⟨rfl, ⟨nd, rfl⟩⟩; (try first | exact ⟨rfl, _, World.drewN_drewN _ _ _⟩ | exact ⟨rfl, _, Eq.trans (World.drewN_drewN _ _ _) (congrArg (World.drewN _) (Nat.add_assoc _ _ _))⟩)) | (go_at_call 101; (with_reducible refine (bV.calls a0 a1 t767 t768 t769 _ A4.out).mono ?_); rintro e w' ⟨rfl, ⟨nd, rfl⟩⟩; (try first | exact ⟨rfl, _, World.drewN_drewN _ _ _⟩ | exact ⟨rfl, _, Eq.trans (World.drewN_drewN _ _ _) (congrArg (World.drewN _) (Nat.add_assoc _ _ _))⟩)) | (go_at_call 100; (with_reducible refine (aI.calls k a0 a1 t770 _ A5.out).mono ?_); rintro e w' ⟨rfl, ⟨nd, rfl⟩⟩; (try first | exact ⟨rfl, _, World.drewN_drewN _ _ _⟩ | exact ⟨rfl, _, Eq.trans (World.drewN_drewN _ _ _) (congrArg (World.drewN _) (Nat.add_assoc _ _ _))⟩)) | (go_at_call 102; (with_reducible refine (bG.calls a0 t772 _ A11.out).mono ?_); rintro e w' ⟨rfl, ⟨nd, rfl⟩⟩; (try first | exact ⟨rfl, _, World.drewN_drewN _ _ _⟩ | exact ⟨rfl, _, Eq.trans (World.drewN_drewN _ _ _) (congrArg (World.drewN _) (Nat.add_assoc _ _ _))⟩)))
   repeat (go_quiet (first | (go_at_call 12; (with_reducible refine (aF.calls a0 t765 t766 _ A3.out).mono ?_); rintro e w' ⟨rfl, ⟨nd, rfl⟩⟩; (try first | exact ⟨rfl, _, World.drewN_drewN _ _ _⟩ | exact ⟨rfl, _, Eq.trans (World.drewN_drewN _ _ _) (congrArg (World.drewN _) (Nat.add_assoc _ _ _))⟩)) | (go_at_call 101; (with_reducible refine (bV.calls a0 a1 t767 t768 t769 _ A4.out).mono ?_); rintro e w' ⟨rfl, ⟨nd, rfl⟩⟩; (try first | exact ⟨rfl, _, World.drewN_drewN _ _ _⟩ | exact ⟨rfl, _, Eq.trans (World.drewN_drewN _ _ _) (congrArg (World.drewN _) (Nat.add_assoc _ _ _))⟩)) | (go_at_call 100; (with_reducible refine (aI.calls k a0 a1 t770 _ A5.out).mono ?_); rintro e w' ⟨rfl, ⟨nd, rfl⟩⟩; (try first | exact ⟨rfl, _, World.drewN_drewN _ _ _⟩ | exact ⟨rfl, _, Eq.trans (World.drewN_drewN _ _ _) (congrArg (World.drewN _) (Nat.add_assoc _ _ _))⟩)) | (go_at_call 102; (with_reducible refine (bG.calls a0 t772 _ A11.out).mono ?_); rintro e w' ⟨rfl, ⟨nd, rfl⟩⟩; (try first | exact ⟨rfl, _, World.drewN_drewN _ _ _⟩ | exact ⟨rfl, _, Eq.trans (World.drewN_drewN _ _ _) (congrArg (World.drewN _) (Nat.add_assoc _ _ _))⟩))); try go_wp2_with (first | (go_at_call 12; (with_reducible refine (aF.calls a0 t765 t766 _ A3.out).mono ?_); rintro e w' ⟨rfl, ⟨nd, rfl⟩⟩; (try first | exact ⟨rfl, _, World.drewN_drewN _ _ _⟩ | exact ⟨rfl, _, Eq.trans (World.drewN_drewN _ _ _) (congrArg (World.drewN _) (Nat.add_assoc _ _ _))⟩)) | (go_at_call 101; (with_reducible refine (bV.calls a0 a1 t767 t768 t769 _ A4.out).mono ?_); rintro e w' ⟨rfl, ⟨nd, rfl⟩⟩; (try first | exact ⟨rfl, _, World.drewN_drewN _ _ _⟩ | exact ⟨rfl, _, Eq.trans (World.drewN_drewN _ _ _) (congrArg (World.drewN _) (Nat.add_assoc _ _ _))⟩)) | (go_at_call 100; (with_reducible refine (aI.calls k a0 a1 t770 _ A5.out).mono ?_); rintro e w' ⟨rfl, ⟨nd, rfl⟩⟩; (try first | exact ⟨rfl, _, World.drewN_drewN _ _ _⟩ | exact ⟨rfl, _, Eq.trans (World.drewN_drewN _ _ _) (congrArg (World.drewN _) (Nat.add_assoc _ _ _))⟩)) | (go_at_call 102; (with_reducible refine (bG.calls a0 t772 _ A11.out).mono ?_); rintro e w' ⟨rfl, ⟨nd, rfl⟩⟩; (try first | exact ⟨rfl, _, World.drewN_drewN _ _ _⟩ | exact ⟨rfl, _, Eq.trans (World.drewN_drewN _ _ _) (congrArg (World.drewN _) (Nat.add_assoc _ _ _))⟩))))
   go_ret3
   exact ⟨gr_, gd_⟩
  ·rw [if_neg c10] at H
   have c10b0 : (t770 == 0) = false := beq_eq_false_iff_ne.mpr c10
   have c10b1 : (t770 != 0) = true := bne_iff_ne.mpr c10
   by_cases c12 : t770 = 1
   ·rw [if_pos c12] at H
    have c12b0 : (t770 == 1) = true := beq_iff_eq.mpr c12
    have c12b1 : (t770 != 1) = false := bne_eq_false_iff_eq.mpr c12
    clear c12
    replace H := bq_ H
    obtain ⟨t773, A130, H⟩ := H
    replace H : (some (t767, wrap64 ((wrap64 (1 - t773)) - t766), t769)) = some (r1, r2, r3) := H
    have A13 := Aside0.mk A130
    clear A130
    simp only [Option.some.injEq, Prod.mk.injEq] at H
    obtain ⟨rfl, rfl, rfl⟩ := H
    go_enter Tryz.func74, Tryz.ntmps74
    go_wp2_with (first | (go_at_call 12; (with_reducible refine (aF.calls a0 t765 t766 _ A3.out).mono ?_); rintro e w' ⟨rfl, ⟨nd, rfl⟩⟩; (try first | exact ⟨rfl, _, World.drewN_drewN _ _ _⟩ | exact ⟨rfl, _, Eq.trans (World.drewN_drewN _ _ _) (congrArg (World.drewN _) (Nat.add_assoc _ _ _))⟩)) | (go_at_call 101; (with_reducible refine (bV.calls a0 a1 t767 t768 t769 _ A4.out).mono ?_); rintro e w' ⟨rfl, ⟨nd, rfl⟩⟩; (try first | exact ⟨rfl, _, World.drewN_drewN _ _ _⟩ | exact ⟨rfl, _, Eq.trans (World.drewN_drewN _ _ _) (congrArg (World.drewN _) (Nat.add_assoc _ _ _))⟩)) | (go_at_call 100; (with_reducible refine (aI.calls k a0 a1 t770 _ A5.out).mono ?_); rintro e w' ⟨rfl, ⟨nd, rfl⟩⟩; (try first | exact ⟨rfl, _, World.drewN_drewN _ _ _⟩ | exact ⟨rfl, _, Eq.trans (World.drewN_drewN _ _ _) (congrArg (World.drewN _) (Nat.add_assoc _ _ _))⟩)) | (go_at_call 102; (with_reducible refine (bG.calls a0 t773 _ A13.out).mono ?_); rintro e w' ⟨rfl, ⟨nd, rfl⟩⟩; (try first | exact ⟨rfl, _, World.drewN_drewN _ _ _⟩ | exact ⟨rfl, _, Eq.trans (World.drewN_drewN _ _ _) (congrArg (World.drewN _) (Nat.add_assoc _ _ _))⟩)))
    repeat (go_quiet (first | (go_at_call 12; (with_reducible refine (aF.calls a0 t765 t766 _ A3.out).mono ?_); rintro e w' ⟨rfl, ⟨nd, rfl⟩⟩; (try first | exact ⟨rfl, _, World.drewN_drewN _ _ _⟩ | exact ⟨rfl, _, Eq.trans (World.drewN_drewN _ _ _) (congrArg (World.drewN _) (Nat.add_assoc _ _ _))⟩)) | (go_at_call 101; (with_reducible refine (bV.calls a0 a1 t767 t768 t769 _ A4.out).mono ?_); rintro e w' ⟨rfl, ⟨nd, rfl⟩⟩; (try first | exact ⟨rfl, _, World.drewN_drewN _ _ _⟩ | exact ⟨rfl, _, Eq.trans (World.drewN_drewN _ _ _) (congrArg (World.drewN _) (Nat.add_assoc _ _ _))⟩)) | (go_at_call 100; (with_reducible refine (aI.calls k a0 a1 t770 _ A5.out).mono ?_); rintro e w' ⟨rfl, ⟨nd, rfl⟩⟩; (try first | exact ⟨rfl, _, World.drewN_drewN _ _ _⟩ | exact ⟨rfl, _, Eq.trans (World.drewN_drewN _ _ _) (congrArg (World.drewN _) (Nat.add_assoc _ _ _))⟩)) | (go_at_call 102; (with_reducible refine (bG.calls a0 t773 _ A13.out).mono ?_); rintro e w' ⟨rfl, ⟨nd, rfl⟩⟩; (try first | exact ⟨rfl, _, World.drewN_drewN _ _ _⟩ | exact ⟨rfl, _, Eq.trans (World.drewN_drewN _ _ _) (congrArg (World.drewN _) (Nat.add_assoc _ _ _))⟩))); try go_wp2_with (first | (go_at_call 12; (with_reducible refine (aF.calls a0 t765 t766 _ A3.out).mono ?_); rintro e w' ⟨rfl, ⟨nd, rfl⟩⟩; (try first | exact ⟨rfl, _, World.drewN_drewN _ _ _⟩ | exact ⟨rfl, _, Eq.trans (World.drewN_drewN _ _ _) (congrArg (World.drewN _) (Nat.add_assoc _ _ _))⟩)) | (go_at_call 101; (with_reducible refine (bV.calls a0 a1 t767 t768 t769 _ A4.out).mono ?_); rintro e w' ⟨rfl, ⟨nd, rfl⟩⟩; (try first | exact ⟨rfl, _, World.drewN_drewN _ _ _⟩ | exact ⟨rfl, _, Eq.trans (World.drewN_drewN _ _ _) (congrArg (World.drewN _) (Nat.add_assoc _ _ _))⟩)) | (go_at_call 100; (with_reducible refine (aI.calls k a0 a1 t770 _ A5.out).mono ?_); rintro e w' ⟨rfl, ⟨nd, rfl⟩⟩; (try first | exact ⟨rfl, _, World.drewN_drewN _ _ _⟩ | exact ⟨rfl, _, Eq.trans (World.drewN_drewN _ _ _) (congrArg (World.drewN _) (Nat.add_assoc _ _ _))⟩)) | (go_at_call 102; (with_reducible refine (bG.calls a0 t773 _ A13.out).mono ?_); rintro e w' ⟨rfl, ⟨nd, rfl⟩⟩; (try first | exact ⟨rfl, _, World.drewN_drewN _ _ _⟩ | exact ⟨rfl, _, Eq.trans (World.drewN_drewN _ _ _) (congrArg (World.drewN _) (Nat.add_assoc _ _ _))⟩))))
    go_ret3
    exact ⟨gr_, gd_⟩
   ·rw [if_neg c12] at H
    have c12b0 : (t770 == 1) = false := beq_eq_false_iff_ne.mpr c12
    have c12b1 : (t770 != 1) = true := bne_iff_ne.mpr c12
    simp only [Option.some.injEq, Prod.mk.injEq] at H
    obtain ⟨rfl, rfl, rfl⟩ := H
    go_enter Tryz.func74, Tryz.ntmps74
    go_wp2_with (first | (go_at_call 12; (with_reducible refine (aF.calls a0 t765 t766 _ A3.out).mono ?_); rintro e w' ⟨rfl, ⟨nd, rfl⟩⟩; (try first | exact ⟨rfl, _, World.drewN_drewN _ _ _⟩ | exact ⟨rfl, _, Eq.trans (World.drewN_drewN _ _ _) (congrArg (World.drewN _) (Nat.add_assoc _ _ _))⟩)) | (go_at_call 101; (with_reducible refine (bV.calls a0 a1 t767 t768 t769 _ A4.out).mono ?_); rintro e w' ⟨rfl, ⟨nd, rfl⟩⟩; (try first | exact ⟨rfl, _, World.drewN_drewN _ _ _⟩ | exact ⟨rfl, _, Eq.trans (World.drewN_drewN _ _ _) (congrArg (World.drewN _) (Nat.add_assoc _ _ _))⟩)) | (go_at_call 100; (with_reducible refine (aI.calls k a0 a1 t770 _ A5.out).mono ?_); rintro e w' ⟨rfl, ⟨nd, rfl⟩⟩; (try first | exact ⟨rfl, _, World.drewN_drewN _ _ _⟩ | exact ⟨rfl, _, Eq.trans (World.drewN_drewN _ _ _) (congrArg (World.drewN _) (Nat.add_assoc _ _ _))⟩)))
    repeat (go_quiet (first | (go_at_call 12; (with_reducible refine (aF.calls a0 t765 t766 _ A3.out).mono ?_); rintro e w' ⟨rfl, ⟨nd, rfl⟩⟩; (try first | exact ⟨rfl, _, World.drewN_drewN _ _ _⟩ | exact ⟨rfl, _, Eq.trans (World.drewN_drewN _ _ _) (congrArg (World.drewN _) (Nat.add_assoc _ _ _))⟩)) | (go_at_call 101; (with_reducible refine (bV.calls a0 a1 t767 t768 t769 _ A4.out).mono ?_); rintro e w' ⟨rfl, ⟨nd, rfl⟩⟩; (try first | exact ⟨rfl, _, World.drewN_drewN _ _ _⟩ | exact ⟨rfl, _, Eq.trans (World.drewN_drewN _ _ _) (congrArg (World.drewN _) (Nat.add_assoc _ _ _))⟩)) | (go_at_call 100; (with_reducible refine (aI.calls k a0 a1 t770 _ A5.out).mono ?_); rintro e w' ⟨rfl, ⟨nd, rfl⟩⟩; (try first | exact ⟨rfl, _, World.drewN_drewN _ _ _⟩ | exact ⟨rfl, _, Eq.trans (World.drewN_drewN _ _ _) (congrArg (World.drewN _) (Nat.add_assoc _ _ _))⟩))); try go_wp2_with (first | (go_at_call 12; (with_reducible refine (aF.calls a0 t765 t766 _ A3.out).mono ?_); rintro e w' ⟨rfl, ⟨nd, rfl⟩⟩; (try first | exact ⟨rfl, _, World.drewN_drewN _ _ _⟩ | exact ⟨rfl, _, Eq.trans (World.drewN_drewN _ _ _) (congrArg (World.drewN _) (Nat.add_assoc _ _ _))⟩)) | (go_at_call 101; (with_reducible refine (bV.calls a0 a1 t767 t768 t769 _ A4.out).mono ?_); rintro e w' ⟨rfl, ⟨nd, rfl⟩⟩; (try first | exact ⟨rfl, _, World.drewN_drewN _ _ _⟩ | exact ⟨rfl, _, Eq.trans (World.drewN_drewN _ _ _) (congrArg (World.drewN _) (Nat.add_assoc _ _ _))⟩)) | (go_at_call 100; (with_reducible refine (aI.calls k a0 a1 t770 _ A5.out).mono ?_); rintro e w' ⟨rfl, ⟨nd, rfl⟩⟩; (try first | exact ⟨rfl, _, World.drewN_drewN _ _ _⟩ | exact ⟨rfl, _, Eq.trans (World.drewN_drewN _ _ _) (congrArg (World.drewN _) (Nat.add_assoc _ _ _))⟩))))
    go_ret3
    exact ⟨gr_, gd_⟩


section
variable {P : Program} {d c i o : Nat} {e : TypeId} {xs ys : Array Value} {is : List Nat} {a b : Value} {r s : Bool} {w : World}
theorem jX (ho : i * c = o) (ha : (part e xs o).run P w = .ok a w) (hb : (part e ys o).run P w = .ok b w) (he : (Op.equalIn d e a b).run P w = .ok r w) (hr : (Op.eqItems d e c xs ys is).run P w = .ok s w) : (Op.eqItems d e c xs ys (i :: is)).run P w = .ok (r && s) w := by
 simp only [Op.eqItems, Sem.run_bind, ho, ha, hb, he, Result.andThen_ok]
 cases r
 ·simp
 ·simpa using hr
theorem eqi_last (ho : i * c = o) (ha : (part e xs o).run P w = .ok a w) (hb : (part e ys o).run P w = .ok b w) (he : (Op.equalIn d e a b).run P w = .ok r w) : (Op.eqItems d e c xs ys [i]).run P w = .ok r w := by
 have h := jX (is := []) ho ha hb he (s := true) (by simp [Op.eqItems])
 rwa [Bool.and_true] at h
theorem eqArr_of {t : TypeId} {n : Nat} (hc : P.cellsOf e = c) (hu : P.underlying t = some (.array n e)) (hi : (P.info? e).isSome = true) (h : (Op.eqItems d e c xs ys (List.range n)).run P w = .ok r w) : (Op.equalIn (d + 1) t (.agg xs) (.agg ys)).run P w = .ok r w := by
 rw [run_equalIn_array w d xs ys hu (Option.some_get hi).symm, hc]; exact h
end
theorem eqA89 (d : Nat) (w : World) (x0 y0 : Int) (x1 y1 : Int) (x2 y2 : Int) (x3 y3 : Int) (x4 y4 : Int) (x5 y5 : Int) (x6 y6 : Int) (x7 y7 : Int) (x8 y8 : Int) (x9 y9 : Int) :
  (Op.equalIn (d + 2) 89 (.agg #[.int .u64 x0, .int .u64 x1, .int .u64 x2, .int .u64 x3, .int .u64 x4, .int .u64 x5, .int .u64 x6, .int .u64 x7, .int .u64 x8, .int .u64 x9]) (.agg #[.int .u64 y0, .int .u64 y1, .int .u64 y2, .int .u64 y3, .int .u64 y4, .int .u64 y5, .int .u64 y6, .int .u64 y7, .int .u64 y8, .int .u64 y9])).run Tryz.prog w = .ok (x0 == y0 && (x1 == y1 && (x2 == y2 && (x3 == y3 && (x4 == y4 && (x5 == y5 && (x6 == y6 && (x7 == y7 && (x8 == y8 && (x9 == y9)))))))))) w := by
 first
 |refine eqA_of Tryz.underlying89 (by kernel_rfl) ?_
  refine eqf_cons (by rfl) (by go_simp; rfl) (by go_simp; rfl) (by go_simp) ?_
  refine eqf_cons (by rfl) (by go_simp; rfl) (by go_simp; rfl) (by go_simp) ?_
  refine eqf_cons (by rfl) (by go_simp; rfl) (by go_simp; rfl) (by go_simp) ?_
  refine eqf_cons (by rfl) (by go_simp; rfl) (by go_simp; rfl) (by go_simp) ?_
  refine eqf_cons (by rfl) (by go_simp; rfl) (by go_simp; rfl) (by go_simp) ?_
  refine eqf_cons (by rfl) (by go_simp; rfl) (by go_simp; rfl) (by go_simp) ?_
  refine eqf_cons (by rfl) (by go_simp; rfl) (by go_simp; rfl) (by go_simp) ?_
  refine eqf_cons (by rfl) (by go_simp; rfl) (by go_simp; rfl) (by go_simp) ?_
  refine eqf_cons (by rfl) (by go_simp; rfl) (by go_simp; rfl) (by go_simp) ?_
  exact eqf_last (by rfl) (by go_simp; rfl) (by go_simp; rfl) (by go_simp)
 |refine eqArr_of (c := 1) (by kernel_rfl) Tryz.underlying89 (by kernel_rfl) ?_
  rw [show List.range 10 = [0, 1, 2, 3, 4, 5, 6, 7, 8, 9] from rfl]
  refine jX rfl (by go_simp; rfl) (by go_simp; rfl) (by go_simp) ?_
  refine jX rfl (by go_simp; rfl) (by go_simp; rfl) (by go_simp) ?_
  refine jX rfl (by go_simp; rfl) (by go_simp; rfl) (by go_simp) ?_
  refine jX rfl (by go_simp; rfl) (by go_simp; rfl) (by go_simp) ?_
  refine jX rfl (by go_simp; rfl) (by go_simp; rfl) (by go_simp) ?_
  refine jX rfl (by go_simp; rfl) (by go_simp; rfl) (by go_simp) ?_
  refine jX rfl (by go_simp; rfl) (by go_simp; rfl) (by go_simp) ?_
  refine jX rfl (by go_simp; rfl) (by go_simp; rfl) (by go_simp) ?_
  refine jX rfl (by go_simp; rfl) (by go_simp; rfl) (by go_simp) ?_
  exact eqi_last rfl (by go_simp; rfl) (by go_simp; rfl) (by go_simp)

attribute [local go_sem high] eqA89
-- NEED 0
/-! ### cO: function 104 -/
def cO.f (a0_0 : Bool) (a0_1 a0_2 : Int) (a0_3 a0_4 : Int) (a0_5 a0_6 : Int) (a0_7 a0_8 : Int) (a0_9 a0_10 : Int) : Option (Bool) := some (a0_1 == 0 && (a0_2 == 0 && (a0_3 == 0 && (a0_4 == 0 && (a0_5 == 0 && (a0_6 == 0 && (a0_7 == 0 && (a0_8 == 0 && (a0_9 == 0 && (a0_10 == 0))))))))))
-- NEED 0
/-! ### aS: function 106 -/
def aS.l0 : Nat → Int → Int → Option (Int)
 |0, _, _ => none
 |k + 1, x0, x3 => if x0 > 0 then (aS.l0 k (x0 / 2) (wrap64 (x3 + 1))) else (some x3)
def aS.f (k : Nat) (a0 : Int) : Option (Int) := aS.l0 k a0 0
theorem aS.fB : ∀ k, (∀ y0 y1, LeO (aS.l0 k y0 y1) (aS.l0 (k + 1) y0 y1))
 |0 => fun _ _ r h => by simp [aS.l0] at h
 |k + 1 => by
  have ih0 := aS.fB k
  ·intro y0 y1
   unfold aS.l0
   repeat' first
   |(with_reducible first|exact ih0 _ _|exact LeO.refl _|exact LeO.none _|refine LeO.ite ?_ ?_|refine LeO.bind ?_ (fun _ => ?_))
   |exact ih0 _ _
   |exact LeO.none _
   |refine LeO.ite ?_ ?_
   |refine LeO.bind ?_ (fun _ => ?_)
theorem aS.mono : ∀ a0 k, LeO (aS.f k a0) (aS.f (k + 1) a0) := by
 intro a0 k
 have ih0 := aS.fB k
 unfold aS.f
 repeat' first
   |(with_reducible first|exact ih0 _ _|exact LeO.refl _|exact LeO.none _|refine LeO.ite ?_ ?_|refine LeO.bind ?_ (fun _ => ?_))
   |exact ih0 _ _
   |exact LeO.none _
   |refine LeO.ite ?_ ?_
   |refine LeO.bind ?_ (fun _ => ?_)
theorem aS.calls (k : Nat) (a0 r : Int) (w : World) (h : aS.f k a0 = some r) :
  Calls Tryz.prog 106 #[.int .u64 a0] w fun e w' => e = .returned (.int .i64 r) ∧ Drawn0 w w' := by
 have H : (aS.l0 k a0 0) = some r := h
 clear h
 have H' := Aside0.mk H
 clear H
 go_enter Tryz.func106, Tryz.ntmps106
 go_wp2
 go_loopg [0, 3] k (fun kq v0 v3 w' => ∃ (x0_1 : Int) (x3_1 : Int), v0 = .int .u64 x0_1 ∧ v3 = .int .i64 x3_1 ∧ Aside0 (aS.l0 kq x0_1 x3_1 = some r) ∧ Aside0 (kq ≤ k) ∧ Drawn0 w w')
 case atStart => exact ⟨(a0), (0), (gr_), (gr_), H', ⟨Nat.le_refl _⟩, gd_⟩
 case round =>
  clear H'
  try clear c1
  obtain ⟨x0_1, x3_1, rfl, rfl, HA, HK1, ⟨m1, rfl⟩⟩ := hrel
  cases gk with
  |zero => exact absurd HA.out (by simp [aS.l0])
  |succ k1 =>
   have H := HA.out
   clear HA
   simp only [aS.l0] at H
   by_cases c2 : x0_1 > 0
   ·rw [if_pos c2] at H
    have c2b0 : decide (0 < x0_1) = true := decide_eq_true c2
    clear c2
    have H' := Aside0.mk H
    clear H
    go_wp2
    go_roundg k1
    case measure => have := HK1.out; omega
    case rel => exact ⟨(x0_1 / 2), (wrap64 (x3_1 + 1)), (gr_), (gr_), H', ⟨by have := HK1.out; omega⟩, gd_⟩
   ·rw [if_neg c2] at H
    have c2b0 : decide (0 < x0_1) = false := decide_eq_false c2
    clear c2
    obtain rfl := Option.some.inj H
    go_wp2
    go_ret
    exact ⟨gr_, gd_⟩

-- NEED 0
/-! ### aL: function 114 -/
mutual
def aL.l0 : Nat → Int → Int → Bool → Option (Int × Bool)
 |0, _, _, _ => none
 |k + 1, x0, x1, x6 => if x1 > 0 then (if x6 = true then (aL.l0 k (x0 / 2) (wrap64 (x1 - 1)) true) else (aL.l0 k (x0 / 2) (wrap64 (x1 - 1)) ((Go.bits .and .u64 x0 1) == 1))) else (aL.l1 k x0 x1 x6)
def aL.l1 : Nat → Int → Int → Bool → Option (Int × Bool)
 |0, _, _, _ => none
 |k + 1, x0, x1, x6 => if x1 < 0 then (if x6 = true then (aL.l1 k (IntKind.u64.wrap (x0 * 2)) (wrap64 (x1 + 1)) true) else (aL.l1 k (IntKind.u64.wrap (x0 * 2)) (wrap64 (x1 + 1)) ((x0 / 9223372036854775808) == 1))) else (some (x0, x6))
end
def aL.f (k : Nat) (a0 a1 : Int) : Option (Int × Bool) := aL.l0 k a0 (mn (mx a1 (-64)) 64) false
theorem aL.fB : ∀ k, (∀ y0 y1 y2, LeO (aL.l0 k y0 y1 y2) (aL.l0 (k + 1) y0 y1 y2)) ∧ (∀ y0 y1 y2, LeO (aL.l1 k y0 y1 y2) (aL.l1 (k + 1) y0 y1 y2))
 |0 => ⟨fun _ _ _ r h => by simp [aL.l0] at h, fun _ _ _ r h => by simp [aL.l1] at h⟩
 |k + 1 => by
  obtain ⟨ih0, ih1⟩ := aL.fB k
  refine ⟨?_, ?_⟩
  ·intro y0 y1 y2
   unfold aL.l0
   repeat' first
   |(with_reducible first|exact ih0 _ _ _|exact ih1 _ _ _|exact LeO.refl _|exact LeO.none _|refine LeO.ite ?_ ?_|refine LeO.bind ?_ (fun _ => ?_))
   |exact ih0 _ _ _
   |exact ih1 _ _ _
   |exact LeO.none _
   |refine LeO.ite ?_ ?_
   |refine LeO.bind ?_ (fun _ => ?_)
  ·intro y0 y1 y2
   unfold aL.l1
   repeat' first
   |(with_reducible first|exact ih0 _ _ _|exact ih1 _ _ _|exact LeO.refl _|exact LeO.none _|refine LeO.ite ?_ ?_|refine LeO.bind ?_ (fun _ => ?_))
   |exact ih0 _ _ _
   |exact ih1 _ _ _
   |exact LeO.none _
   |refine LeO.ite ?_ ?_
   |refine LeO.bind ?_ (fun _ => ?_)
theorem aL.mono : ∀ a0 a1 k, LeO (aL.f k a0 a1) (aL.f (k + 1) a0 a1) := by
 intro a0 a1 k
 obtain ⟨ih0, ih1⟩ := aL.fB k
 unfold aL.f
 repeat' first
   |(with_reducible first|exact ih0 _ _ _|exact ih1 _ _ _|exact LeO.refl _|exact LeO.none _|refine LeO.ite ?_ ?_|refine LeO.bind ?_ (fun _ => ?_))
   |exact ih0 _ _ _
   |exact ih1 _ _ _
   |exact LeO.none _
   |refine LeO.ite ?_ ?_
   |refine LeO.bind ?_ (fun _ => ?_)
theorem aL.calls (k : Nat) (a0 a1 r1 : Int) (r2 : Bool) (w : World) (h : aL.f k a0 a1 = some (r1, r2)) :
  Calls Tryz.prog 114 #[.int .u64 a0, .int .i64 a1] w fun e w' => e = .returned (.tuple #[.int .u64 r1, .bool r2]) ∧ Below w.heap.size w w' := by
 have HB := Aside0.mk (Below.refl w.heap.size w)
 have H : (aL.l0 k a0 (mn (mx a1 (-64)) 64) false) = some (r1, r2) := h
 clear h
 obtain ⟨ji3, hji3⟩ : ∃ j_ : Int, (mx a1 (-64)) = j_ := ⟨_, rfl⟩
 replace H : (aL.l0 k a0 (mn (ji3) 64) false) = some (r1, r2) := by first | (rw [hji3] at H; exact H) | (simp only [hji3] at H ⊢; exact H)
 have hji3_ : (if a1 < (-64) then (-64) else a1) = ji3 := hji3
 obtain ⟨ji4, hji4⟩ : ∃ j_ : Int, (mn (ji3) 64) = j_ := ⟨_, rfl⟩
 replace H : (aL.l0 k a0 ji4 false) = some (r1, r2) := by first | (rw [hji4] at H; exact H) | (simp only [hji4] at H ⊢; exact H)
 have hji4_ : (if 64 < (ji3) then 64 else (ji3)) = ji4 := hji4
 have H' := Aside0.mk H
 clear H
 go_enter Tryz.func114, Tryz.ntmps114
 go_wp2
 go_loopg [0, 1, 6] k (fun kq v0 v1 v6 w' => ∃ (x0_1 : Int) (x1_1 : Int) (x6_1 : Bool), v0 = .int .u64 x0_1 ∧ v1 = .int .i64 x1_1 ∧ v6 = .bool x6_1 ∧ Aside0 (aL.l0 kq x0_1 x1_1 x6_1 = some (r1, r2)) ∧ Aside0 (kq ≤ k) ∧ Aside0 (Below w.heap.size w w'))
 case atStart => exact ⟨(a0), (ji4), (false), (gr_), (by first | rfl | (simp; done) | (simp only [← hji4] <;> (first | rfl | (simp; done))) | (simp [*]; done) | (congr 1; (try unfold wrap64); omega) | (congr 1; rw [IntKind.wrap_u64]; omega)), (gr_), H', ⟨Nat.le_refl _⟩, ⟨bl0 HB.out⟩⟩
 case round =>
  clear H'
  try clear c1 p2
  obtain ⟨x0_1, x1_1, x6_1, rfl, rfl, rfl, HA, HK1, HB⟩ := hrel
  cases gk with
  |zero => exact absurd HA.out (by simp [aL.l0])
  |succ k1 =>
   have H := HA.out
   clear HA
   simp only [aL.l0] at H
   by_cases c5 : x1_1 > 0
   ·rw [if_pos c5] at H
    have c5b0 : decide (0 < x1_1) = true := decide_eq_true c5
    clear c5
    by_cases c6 : x6_1 = true
    ·subst c6
     have H1 : (aL.l0 k1 (x0_1 / 2) (wrap64 (x1_1 - 1)) true) = some (r1, r2) := by rw [if_pos rfl] at H; exact H
     clear H
     have H := H1
     clear H1
     have H' := Aside0.mk H
     clear H
     go_wp2
     go_roundg k1
     case measure => have := HK1.out; omega
     case rel => exact ⟨(x0_1 / 2), (wrap64 (x1_1 - 1)), (true), (gr_), (gr_), (gr_), H', ⟨by have := HK1.out; omega⟩, ⟨bl0 HB.out⟩⟩
    ·replace c6 := Bool.eq_false_iff.mpr c6
     subst c6
     have H1 : (aL.l0 k1 (x0_1 / 2) (wrap64 (x1_1 - 1)) ((Go.bits .and .u64 x0_1 1) == 1)) = some (r1, r2) := by rw [if_neg (show ¬ (false = true) by decide)] at H; exact H
     clear H
     have H := H1
     clear H1
     have H' := Aside0.mk H
     clear H
     go_wp2
     go_roundg k1
     case measure => have := HK1.out; omega
     case rel => exact ⟨(x0_1 / 2), (wrap64 (x1_1 - 1)), (((Go.bits .and .u64 x0_1 1) == 1)), (gr_), (gr_), (gr_), H', ⟨by have := HK1.out; omega⟩, ⟨bl0 HB.out⟩⟩
   ·rw [if_neg c5] at H
    have c5b0 : decide (0 < x1_1) = false := decide_eq_false c5
    clear c5
    have H' := Aside0.mk H
    clear H
    go_wp2
    go_loopg [0, 1, 6] k1 (fun kq v0 v1 v6 w' => ∃ (x0_2 : Int) (x1_2 : Int) (x6_2 : Bool), v0 = .int .u64 x0_2 ∧ v1 = .int .i64 x1_2 ∧ v6 = .bool x6_2 ∧ Aside0 (aL.l1 kq x0_2 x1_2 x6_2 = some (r1, r2)) ∧ Aside0 (kq ≤ k1) ∧ Aside0 (Below w.heap.size w w'))
    case atStart => exact ⟨(x0_1), (x1_1), (x6_1), (gr_), (gr_), (gr_), H', ⟨Nat.le_refl _⟩, ⟨bl0 HB.out⟩⟩
    case round =>
     clear H'
     try clear c1 p2 c5 c5b0 c6 p6 p2
     obtain ⟨x0_2, x1_2, x6_2, rfl, rfl, rfl, HA, HK2, HB⟩ := hrel
     cases gk with
     |zero => exact absurd HA.out (by simp [aL.l1])
     |succ k2 =>
      have H := HA.out
      clear HA
      simp only [aL.l1] at H
      by_cases c7 : x1_2 < 0
      ·rw [if_pos c7] at H
       have c7b0 : decide (x1_2 < 0) = true := decide_eq_true c7
       clear c7
       by_cases c8 : x6_2 = true
       ·subst c8
        have H1 : (aL.l1 k2 (IntKind.u64.wrap (x0_2 * 2)) (wrap64 (x1_2 + 1)) true) = some (r1, r2) := by rw [if_pos rfl] at H; exact H
        clear H
        have H := H1
        clear H1
        have H' := Aside0.mk H
        clear H
        go_wp2
        go_roundg k2
        case measure => have := HK1.out; have := HK2.out; omega
        case rel => exact ⟨(IntKind.u64.wrap (x0_2 * 2)), (wrap64 (x1_2 + 1)), (true), (gr_), (gr_), (gr_), H', ⟨by have := HK1.out; have := HK2.out; omega⟩, ⟨bl0 HB.out⟩⟩
       ·replace c8 := Bool.eq_false_iff.mpr c8
        subst c8
        have H1 : (aL.l1 k2 (IntKind.u64.wrap (x0_2 * 2)) (wrap64 (x1_2 + 1)) ((x0_2 / 9223372036854775808) == 1)) = some (r1, r2) := by rw [if_neg (show ¬ (false = true) by decide)] at H; exact H
        clear H
        have H := H1
        clear H1
        have H' := Aside0.mk H
        clear H
        go_wp2
        go_roundg k2
        case measure => have := HK1.out; have := HK2.out; omega
        case rel => exact ⟨(IntKind.u64.wrap (x0_2 * 2)), (wrap64 (x1_2 + 1)), (((x0_2 / 9223372036854775808) == 1)), (gr_), (gr_), (gr_), H', ⟨by have := HK1.out; have := HK2.out; omega⟩, ⟨bl0 HB.out⟩⟩
      ·rw [if_neg c7] at H
       have c7b0 : decide (x1_2 < 0) = false := decide_eq_false c7
       clear c7
       simp only [Option.some.injEq, Prod.mk.injEq] at H
       obtain ⟨rfl, rfl⟩ := H
       go_wp2
       go_ret2
       exact ⟨by first | rfl | (simp [bT, bU] <;> rfl) | (simp only [← hji3, ← hji4]; first | rfl | (simp [bT, bU] <;> rfl)) | (simp [*, bT, bU] <;> rfl), bl0 HB.out⟩

-- NEED 0
/-! ### bI: function 107 -/
def bI.f (k : Nat) (a0 a1 : Int) : Option (Int × Bool × Bool) := if a1 ≤ 0 then (if 0 ≤ (mn (wrap64 (-a1)) 63) then (some (IntKind.u64.wrap (a0 * 2 ^ (mn (wrap64 (-a1)) 63).toNat), false, false)) else (none)) else (if a1 > 64 then (some (0, false, (a0 != 0))) else ((aL.f k a0 a1).bind fun bt795 => ((aL.f k a0 (wrap64 (a1 - 1))).bind fun bt797 => ((aL.f k a0 (wrap64 (a1 - 1))).bind fun bt799 => (some (bt795.1, ((Go.bits .and .u64 bt797.1 1) == 1), bt799.2))))))
theorem bI.mono : ∀ a0 a1 k, LeO (bI.f k a0 a1) (bI.f (k + 1) a0 a1) := by
 intro a0 a1 k
 unfold bI.f
 repeat' first
   |(with_reducible first|exact aL.mono _ _ _|exact LeO.refl _|exact LeO.none _|refine LeO.ite ?_ ?_|refine LeO.bind ?_ (fun _ => ?_))
   |exact aL.mono _ _ _
   |exact LeO.none _
   |refine LeO.ite ?_ ?_
   |refine LeO.bind ?_ (fun _ => ?_)
theorem bI.calls (k : Nat) (a0 a1 r1 : Int) (r2 r3 : Bool) (w : World) (h : bI.f k a0 a1 = some (r1, r2, r3)) :
  Calls Tryz.prog 107 #[.int .u64 a0, .int .i64 a1] w fun e w' => e = .returned (.tuple #[.int .u64 r1, .bool r2, .bool r3]) ∧ Below w.heap.size w w' := by
 have HB := Aside0.mk (Below.refl w.heap.size w)
 have H : (if a1 ≤ 0 then (if 0 ≤ (mn (wrap64 (-a1)) 63) then (some (IntKind.u64.wrap (a0 * 2 ^ (mn (wrap64 (-a1)) 63).toNat), false, false)) else (none)) else (if a1 > 64 then (some (0, false, (a0 != 0))) else ((aL.f k a0 a1).bind fun bt795 => ((aL.f k a0 (wrap64 (a1 - 1))).bind fun bt797 => ((aL.f k a0 (wrap64 (a1 - 1))).bind fun bt799 => (some (bt795.1, ((Go.bits .and .u64 bt797.1 1) == 1), bt799.2))))))) = some (r1, r2, r3) := h
 clear h
 by_cases c3 : a1 ≤ 0
 ·rw [if_pos c3] at H
  have c3b0 : decide (a1 ≤ 0) = true := decide_eq_true c3
  clear c3
  obtain ⟨ji4, hji4⟩ : ∃ j_ : Int, (mn (wrap64 (-a1)) 63) = j_ := ⟨_, rfl⟩
  replace H : (if 0 ≤ (ji4) then (some (IntKind.u64.wrap (a0 * 2 ^ (ji4).toNat), false, false)) else (none)) = some (r1, r2, r3) := by first | (rw [hji4] at H; exact H) | (simp only [hji4] at H ⊢; exact H)
  (try (have hji4h : ji4 ≤ 63 := by (rw [← hji4]; unfold mn; (repeat' split) <;> omega)))
  (try (have hji4g : ji4 ≤ 64 := by omega))
  have hji4_ : (if 63 < (wrap64 (-a1)) then 63 else (wrap64 (-a1))) = ji4 := hji4
  by_cases c5 : 0 ≤ (ji4)
  ·rw [if_pos c5] at H
   have c5b0 := eq_true c5
   have c5b1 : decide (0 ≤ (ji4)) = true := decide_eq_true c5
   clear c5
   simp only [Option.some.injEq, Prod.mk.injEq] at H
   obtain ⟨rfl, rfl, rfl⟩ := H
   go_enter Tryz.func107, Tryz.ntmps107
   go_wp2
   go_ret3
   exact ⟨by first | rfl | (simp [bT, bU] <;> rfl) | (simp only [← hji4]; first | rfl | (simp [bT, bU] <;> rfl)) | (simp [*, bT, bU] <;> rfl), bl0 HB.out⟩
  ·rw [if_neg c5] at H
   exact absurd H (by simp)
 ·rw [if_neg c3] at H
  have c3b0 : decide (a1 ≤ 0) = false := decide_eq_false c3
  clear c3
  by_cases c6 : a1 > 64
  ·rw [if_pos c6] at H
   have c6b0 : decide (64 < a1) = true := decide_eq_true c6
   clear c6
   simp only [Option.some.injEq, Prod.mk.injEq] at H
   obtain ⟨rfl, rfl, rfl⟩ := H
   go_enter Tryz.func107, Tryz.ntmps107
   go_wp2
   go_ret3
   exact ⟨by first | rfl | (simp [bT, bU] <;> rfl) | (simp [*, bT, bU] <;> rfl), bl0 HB.out⟩
  ·rw [if_neg c6] at H
   have c6b0 : decide (64 < a1) = false := decide_eq_false c6
   clear c6
   replace H := bq_ H
   obtain ⟨⟨t795, t796⟩, A70, H⟩ := H
   replace H : ((aL.f k a0 (wrap64 (a1 - 1))).bind fun bt797 => ((aL.f k a0 (wrap64 (a1 - 1))).bind fun bt799 => (some (t795, ((Go.bits .and .u64 bt797.1 1) == 1), bt799.2)))) = some (r1, r2, r3) := H
   have A7 := Aside0.mk A70
   clear A70
   replace H := bq_ H
   obtain ⟨⟨t797, t798⟩, A80, H⟩ := H
   replace H : ((aL.f k a0 (wrap64 (a1 - 1))).bind fun bt799 => (some (t795, ((Go.bits .and .u64 t797 1) == 1), bt799.2))) = some (r1, r2, r3) := H
   have A8 := Aside0.mk A80
   clear A80
   replace H := bq_ H
   obtain ⟨⟨t799, t800⟩, A90, H⟩ := H
   replace H : (some (t795, ((Go.bits .and .u64 t797 1) == 1), t800)) = some (r1, r2, r3) := H
   have A9 := Aside0.mk A90
   clear A90
   simp only [Option.some.injEq, Prod.mk.injEq] at H
   obtain ⟨rfl, rfl, rfl⟩ := H
   go_enter Tryz.func107, Tryz.ntmps107
   go_wp2_with (first | ((with_reducible refine gate_callee (f := 114) rfl ?_); refine goesL_ (some 27) rfl rfl Tryz.func114 (by kernel_rfl) rfl #[.int .u64 a0, .int .i64 a1] rfl gl ?_; (with_reducible refine (aL.calls k a0 a1 t795 t796 _ A7.out).mono ?_); rintro e w10 ⟨rfl, hb⟩; refine ⟨_, rfl, ?_⟩; have n0_ := Aside0.mk (below_step (bl0 HB.out) hb); clear HB; have HB := n0_; clear n0_) | ((with_reducible refine gate_callee (f := 114) rfl ?_); refine goesL_ (some 34) rfl rfl Tryz.func114 (by kernel_rfl) rfl #[.int .u64 a0, .int .i64 (wrap64 (a1 - 1))] rfl gl ?_; (with_reducible refine (aL.calls k a0 (wrap64 (a1 - 1)) t797 t798 _ A8.out).mono ?_); rintro e w11 ⟨rfl, hb⟩; refine ⟨_, rfl, ?_⟩; have n0_ := Aside0.mk (below_step (bl0 HB.out) hb); clear HB; have HB := n0_; clear n0_) | ((with_reducible refine gate_callee (f := 114) rfl ?_); refine goesL_ (some 41) rfl rfl Tryz.func114 (by kernel_rfl) rfl #[.int .u64 a0, .int .i64 (wrap64 (a1 - 1))] rfl gl ?_; (with_reducible refine (aL.calls k a0 (wrap64 (a1 - 1)) t799 t800 _ A9.out).mono ?_); rintro e w12 ⟨rfl, hb⟩; refine ⟨_, rfl, ?_⟩; have n0_ := Aside0.mk (below_step (bl0 HB.out) hb); clear HB; have HB := n0_; clear n0_))
   go_ret3
   exact ⟨by first | rfl | (simp [bT, bU] <;> rfl) | (simp [*, bT, bU] <;> rfl), bl0 HB.out⟩


-- NEED 0
/-! ### eD: function 108 -/
def eD.f (a0 : Int) (a1 a2 : Bool) (a3 a4 : Bool) : Option (Bool) := if a0 = 1 then (some false) else (if a0 = 2 then (if a1 = true then (some false) else (if a3 = true then (some true) else (some a4))) else (if a0 = 3 then (if a1 = true then (if a3 = true then (some true) else (some a4)) else (some false)) else (if a0 = 4 then (some a3) else (if a3 = true then (if a4 = true then (some true) else (some a2)) else (some false)))))
theorem eD.calls (a0 : Int) (a1 a2 : Bool) (a3 a4 r : Bool) (w : World) (h : eD.f a0 a1 a2 a3 a4 = some r) :
  Calls Tryz.prog 108 #[.int .i64 a0, .bool a1, .bool a2, .bool a3, .bool a4] w fun e w' => e = .returned (.bool r) ∧ Drawn0 w w' := by
 have H : (if a0 = 1 then (some false) else (if a0 = 2 then (if a1 = true then (some false) else (if a3 = true then (some true) else (some a4))) else (if a0 = 3 then (if a1 = true then (if a3 = true then (some true) else (some a4)) else (some false)) else (if a0 = 4 then (some a3) else (if a3 = true then (if a4 = true then (some true) else (some a2)) else (some false)))))) = some r := h
 clear h
 by_cases c6 : a0 = 1
 ·rw [if_pos c6] at H
  have c6b0 : (a0 == 1) = true := beq_iff_eq.mpr c6
  have c6b1 : (a0 != 1) = false := bne_eq_false_iff_eq.mpr c6
  clear c6
  obtain rfl := Option.some.inj H
  go_enter Tryz.func108, Tryz.ntmps108
  go_wp2
  go_ret
  exact ⟨gr_, gd_⟩
 ·rw [if_neg c6] at H
  have c6b0 : (a0 == 1) = false := beq_eq_false_iff_ne.mpr c6
  have c6b1 : (a0 != 1) = true := bne_iff_ne.mpr c6
  by_cases c7 : a0 = 2
  ·rw [if_pos c7] at H
   have c7b0 : (a0 == 2) = true := beq_iff_eq.mpr c7
   have c7b1 : (a0 != 2) = false := bne_eq_false_iff_eq.mpr c7
   clear c7
   by_cases c8 : a1 = true
   ·subst c8
    have H1 : (some false) = some r := by rw [if_pos rfl] at H; exact H
    clear H
    have H := H1
    clear H1
    obtain rfl := Option.some.inj H
    go_enter Tryz.func108, Tryz.ntmps108
    go_wp2
    go_ret
    exact ⟨gr_, gd_⟩
   ·replace c8 := Bool.eq_false_iff.mpr c8
    subst c8
    have H1 : (if a3 = true then (some true) else (some a4)) = some r := by rw [if_neg (show ¬ (false = true) by decide)] at H; exact H
    clear H
    have H := H1
    clear H1
    by_cases c9 : a3 = true
    ·subst c9
     have H1 : (some true) = some r := by rw [if_pos rfl] at H; exact H
     clear H
     have H := H1
     clear H1
     obtain rfl := Option.some.inj H
     go_enter Tryz.func108, Tryz.ntmps108
     go_wp2
     go_ret
     exact ⟨gr_, gd_⟩
    ·replace c9 := Bool.eq_false_iff.mpr c9
     subst c9
     have H1 : (some a4) = some r := by rw [if_neg (show ¬ (false = true) by decide)] at H; exact H
     clear H
     have H := H1
     clear H1
     obtain rfl := Option.some.inj H
     go_enter Tryz.func108, Tryz.ntmps108
     go_wp2
     go_ret
     exact ⟨gr_, gd_⟩
  ·rw [if_neg c7] at H
   have c7b0 : (a0 == 2) = false := beq_eq_false_iff_ne.mpr c7
   have c7b1 : (a0 != 2) = true := bne_iff_ne.mpr c7
   by_cases c10 : a0 = 3
   ·rw [if_pos c10] at H
    have c10b0 : (a0 == 3) = true := beq_iff_eq.mpr c10
    have c10b1 : (a0 != 3) = false := bne_eq_false_iff_eq.mpr c10
    clear c10
    by_cases c11 : a1 = true
    ·subst c11
     have H1 : (if a3 = true then (some true) else (some a4)) = some r := by rw [if_pos rfl] at H; exact H
     clear H
     have H := H1
     clear H1
     by_cases c12 : a3 = true
     ·subst c12
      have H1 : (some true) = some r := by rw [if_pos rfl] at H; exact H
      clear H
      have H := H1
      clear H1
      obtain rfl := Option.some.inj H
      go_enter Tryz.func108, Tryz.ntmps108
      go_wp2
      go_ret
      exact ⟨gr_, gd_⟩
     ·replace c12 := Bool.eq_false_iff.mpr c12
      subst c12
      have H1 : (some a4) = some r := by rw [if_neg (show ¬ (false = true) by decide)] at H; exact H
      clear H
      have H := H1
      clear H1
      obtain rfl := Option.some.inj H
      go_enter Tryz.func108, Tryz.ntmps108
      go_wp2
      go_ret
      exact ⟨gr_, gd_⟩
    ·replace c11 := Bool.eq_false_iff.mpr c11
     subst c11
     have H1 : (some false) = some r := by rw [if_neg (show ¬ (false = true) by decide)] at H; exact H
     clear H
     have H := H1
     clear H1
     obtain rfl := Option.some.inj H
     go_enter Tryz.func108, Tryz.ntmps108
     go_wp2
     go_ret
     exact ⟨gr_, gd_⟩
   ·rw [if_neg c10] at H
    have c10b0 : (a0 == 3) = false := beq_eq_false_iff_ne.mpr c10
    have c10b1 : (a0 != 3) = true := bne_iff_ne.mpr c10
    by_cases c13 : a0 = 4
    ·rw [if_pos c13] at H
     have c13b0 : (a0 == 4) = true := beq_iff_eq.mpr c13
     have c13b1 : (a0 != 4) = false := bne_eq_false_iff_eq.mpr c13
     clear c13
     obtain rfl := Option.some.inj H
     go_enter Tryz.func108, Tryz.ntmps108
     go_wp2
     go_ret
     exact ⟨gr_, gd_⟩
    ·rw [if_neg c13] at H
     have c13b0 : (a0 == 4) = false := beq_eq_false_iff_ne.mpr c13
     have c13b1 : (a0 != 4) = true := bne_iff_ne.mpr c13
     by_cases c14 : a3 = true
     ·subst c14
      have H1 : (if a4 = true then (some true) else (some a2)) = some r := by rw [if_pos rfl] at H; exact H
      clear H
      have H := H1
      clear H1
      by_cases c15 : a4 = true
      ·subst c15
       have H1 : (some true) = some r := by rw [if_pos rfl] at H; exact H
       clear H
       have H := H1
       clear H1
       obtain rfl := Option.some.inj H
       go_enter Tryz.func108, Tryz.ntmps108
       go_wp2
       go_ret
       exact ⟨gr_, gd_⟩
      ·replace c15 := Bool.eq_false_iff.mpr c15
       subst c15
       have H1 : (some a2) = some r := by rw [if_neg (show ¬ (false = true) by decide)] at H; exact H
       clear H
       have H := H1
       clear H1
       obtain rfl := Option.some.inj H
       go_enter Tryz.func108, Tryz.ntmps108
       go_wp2
       go_ret
       exact ⟨gr_, gd_⟩
     ·replace c14 := Bool.eq_false_iff.mpr c14
      subst c14
      have H1 : (some false) = some r := by rw [if_neg (show ¬ (false = true) by decide)] at H; exact H
      clear H
      have H := H1
      clear H1
      obtain rfl := Option.some.inj H
      go_enter Tryz.func108, Tryz.ntmps108
      go_wp2
      go_ret
      exact ⟨gr_, gd_⟩

-- NEED 0
/-! ### eH: function 115 -/
def eH.f (a0 : Int) (a1 : Bool) : Option (Int) := (bF.f a0 a1).bind fun t801 => (some ((t801 - 1) % 4294967296))
theorem eH.calls (a0 : Int) (a1 : Bool) (r : Int) (w : World) (h : eH.f a0 a1 = some r) :
  Calls Tryz.prog 115 #[.int .i64 a0, .bool a1] w fun e w' => e = .returned (.int .u32 r) ∧ Drawn0 w w' := by
 have H : ((bF.f a0 a1).bind fun t801 => (some ((t801 - 1) % 4294967296))) = some r := h
 clear h
 replace H := bq_ H
 obtain ⟨t801, A30, H⟩ := H
 replace H : (some ((t801 - 1) % 4294967296)) = some r := H
 have A3 := Aside0.mk A30
 clear A30
 obtain ⟨ji4, hji4⟩ : ∃ j_ : Int, ((t801 - 1) % 4294967296) = j_ := ⟨_, rfl⟩
 replace H : (some ji4) = some r := by first | (rw [hji4] at H; exact H) | (simp only [hji4] at H ⊢; exact H)
 (try rw [hji4] at A3)
 have hji4l : 0 ≤ ji4 := by rw [← hji4]; exact Int.emod_nonneg _ (by decide)
 have hji4h : ji4 ≤ 4294967295 := by have := Int.emod_lt_of_pos ((t801 - 1)) (show (0 : Int) < 4294967296 by decide); omega
 have hji4w : (IntKind.u32.wrap (t801 - 1)) = ji4 := (sH _).trans hji4
 (try (have hji4_ := hji4; simp only [Int.add_emod_emod, Int.emod_add_emod, Int.sub_emod_emod, Int.emod_sub_emod] at hji4_))
 obtain rfl := Option.some.inj H
 go_enter Tryz.func115, Tryz.ntmps115
 go_wp2_with (first | ((with_reducible refine gate_callee (f := 73) rfl ?_); refine goesL_ (some 7) rfl rfl Tryz.func73 (by kernel_rfl) rfl #[.int .i64 a0, .bool a1] rfl gl ?_; (with_reducible refine (bF.calls a0 a1 t801 _ A3.out).mono ?_); rintro e w' ⟨rfl, ⟨nd, rfl⟩⟩; refine ⟨_, rfl, ?_⟩))
 go_ret
 exact ⟨by first | rfl | (simp; done) | (simp only [← hji4] <;> (first | rfl | (simp; done))) | (simp [*]; done) | (congr 1; (try unfold wrap64); omega) | (congr 1; rw [IntKind.wrap_u64]; omega), gd_⟩

-- NEED 0
/-! ### aN: function 109 -/
def aN.j0 : Nat → Int → Bool → Bool → Option (Int)
 |0, _, _, _ => none
 |k + 1, x0, x2, x23 => if x23 = true then ((eH.f x0 x2).bind fun t802 => (some t802)) else ((bF.f x0 x2).bind fun t803 => (some t803))
def aN.f (k : Nat) (a0 a1 : Int) (a2 : Bool) : Option (Int) := if a1 = 1 then (aN.j0 k a0 a2 true) else (if a1 = 2 then (if a2 = true then (aN.j0 k a0 a2 true) else (if a1 = 3 then (aN.j0 k a0 a2 (!a2)) else (aN.j0 k a0 a2 false))) else (if a1 = 3 then (aN.j0 k a0 a2 (!a2)) else (aN.j0 k a0 a2 false)))
theorem aN.fB : ∀ k, (∀ y0 y1 y2, LeO (aN.j0 k y0 y1 y2) (aN.j0 (k + 1) y0 y1 y2))
 |0 => fun _ _ _ r h => by simp [aN.j0] at h
 |k + 1 => by
  have ih0 := aN.fB k
  ·intro y0 y1 y2
   unfold aN.j0
   repeat' first
   |(with_reducible first|exact ih0 _ _ _|exact LeO.refl _|exact LeO.none _|refine LeO.ite ?_ ?_|refine LeO.bind ?_ (fun _ => ?_))
   |exact ih0 _ _ _
   |exact LeO.none _
   |refine LeO.ite ?_ ?_
   |refine LeO.bind ?_ (fun _ => ?_)
theorem aN.mono : ∀ a0 a1 a2 k, LeO (aN.f k a0 a1 a2) (aN.f (k + 1) a0 a1 a2) := by
 intro a0 a1 a2 k
 have ih0 := aN.fB k
 unfold aN.f
 repeat' first
   |(with_reducible first|exact ih0 _ _ _|exact LeO.refl _|exact LeO.none _|refine LeO.ite ?_ ?_|refine LeO.bind ?_ (fun _ => ?_))
   |exact ih0 _ _ _
   |exact LeO.none _
   |refine LeO.ite ?_ ?_
   |refine LeO.bind ?_ (fun _ => ?_)
theorem aN.calls (k : Nat) (a0 a1 : Int) (a2 : Bool) (r : Int) (w : World) (h : aN.f k a0 a1 a2 = some r) :
  Calls Tryz.prog 109 #[.int .i64 a0, .int .i64 a1, .bool a2] w fun e w' => e = .returned (.int .u32 r) ∧ Drawn0 w w' := by
 have H : (if a1 = 1 then (aN.j0 k a0 a2 true) else (if a1 = 2 then (if a2 = true then (aN.j0 k a0 a2 true) else (if a1 = 3 then (aN.j0 k a0 a2 (!a2)) else (aN.j0 k a0 a2 false))) else (if a1 = 3 then (aN.j0 k a0 a2 (!a2)) else (aN.j0 k a0 a2 false)))) = some r := h
 clear h
 have HC4 := Aside0.mk H
 clear H
 go_enter Tryz.func109, Tryz.ntmps109
 go_upto_region 1 with (fail)
 go_cut [23] (fun v23 wc => ∃ (kq : Nat) (x23_3 : Bool), v23 = .bool x23_3 ∧ Aside0 (aN.j0 kq a0 a2 x23_3 = some r) ∧ Aside0 (kq ≤ k) ∧ Drawn0 w wc)
 case first =>
  have H := HC4.out
  clear HC4
  by_cases c5 : a1 = 1
  ·rw [if_pos c5] at H
   have c5b0 : (a1 == 1) = true := beq_iff_eq.mpr c5
   have c5b1 : (a1 != 1) = false := bne_eq_false_iff_eq.mpr c5
   clear c5
   (first | rw [c5b0] | (simp only [i64_w, i32_w]; rw [c5b0]) | skip)
   have H' := Aside0.mk H
   clear H
   go_wp2
   go_meet
   case rel => exact ⟨_, (true), (gr_), H', ⟨by first | omega | exact Nat.le_refl _⟩, gd_⟩
  ·rw [if_neg c5] at H
   have c5b0 : (a1 == 1) = false := beq_eq_false_iff_ne.mpr c5
   have c5b1 : (a1 != 1) = true := bne_iff_ne.mpr c5
   (first | rw [c5b0] | (simp only [i64_w, i32_w]; rw [c5b0]) | skip)
   by_cases c6 : a1 = 2
   ·rw [if_pos c6] at H
    have c6b0 : (a1 == 2) = true := beq_iff_eq.mpr c6
    have c6b1 : (a1 != 2) = false := bne_eq_false_iff_eq.mpr c6
    clear c6
    by_cases c7 : a2 = true
    ·subst c7
     have H1 : (aN.j0 k a0 true true) = some r := by rw [if_pos rfl] at H; exact H
     clear H
     have H := H1
     clear H1
     have H' := Aside0.mk H
     clear H
     go_wp2
     go_meet
     case rel => exact ⟨_, (true), (gr_), H', ⟨by first | omega | exact Nat.le_refl _⟩, gd_⟩
    ·replace c7 := Bool.eq_false_iff.mpr c7
     subst c7
     have H1 : (if a1 = 3 then (aN.j0 k a0 false (!false)) else (aN.j0 k a0 false false)) = some r := by rw [if_neg (show ¬ (false = true) by decide)] at H; exact H
     clear H
     have H := H1
     clear H1
     by_cases c8 : a1 = 3
     ·rw [if_pos c8] at H
      have c8b0 : (a1 == 3) = true := beq_iff_eq.mpr c8
      have c8b1 : (a1 != 3) = false := bne_eq_false_iff_eq.mpr c8
      clear c8
      have H' := Aside0.mk H
      clear H
      go_wp2
      go_meet
      case rel => exact ⟨_, (!false), (gr_), H', ⟨by first | omega | exact Nat.le_refl _⟩, gd_⟩
     ·rw [if_neg c8] at H
      have c8b0 : (a1 == 3) = false := beq_eq_false_iff_ne.mpr c8
      have c8b1 : (a1 != 3) = true := bne_iff_ne.mpr c8
      have H' := Aside0.mk H
      clear H
      go_wp2
      go_meet
      case rel => exact ⟨_, (false), (gr_), H', ⟨by first | omega | exact Nat.le_refl _⟩, gd_⟩
   ·rw [if_neg c6] at H
    have c6b0 : (a1 == 2) = false := beq_eq_false_iff_ne.mpr c6
    have c6b1 : (a1 != 2) = true := bne_iff_ne.mpr c6
    by_cases c9 : a1 = 3
    ·rw [if_pos c9] at H
     have c9b0 : (a1 == 3) = true := beq_iff_eq.mpr c9
     have c9b1 : (a1 != 3) = false := bne_eq_false_iff_eq.mpr c9
     clear c9
     have H' := Aside0.mk H
     clear H
     go_wp2
     go_meet
     case rel => exact ⟨_, (!a2), (gr_), H', ⟨by first | omega | exact Nat.le_refl _⟩, gd_⟩
    ·rw [if_neg c9] at H
     have c9b0 : (a1 == 3) = false := beq_eq_false_iff_ne.mpr c9
     have c9b1 : (a1 != 3) = true := bne_iff_ne.mpr c9
     have H' := Aside0.mk H
     clear H
     go_wp2
     go_meet
     case rel => exact ⟨_, (false), (gr_), H', ⟨by first | omega | exact Nat.le_refl _⟩, gd_⟩
 case rest =>
  clear HC4
  try clear c1 p2 c5 c5b0 c5b1 c6 c6b0 c6b1 p6 c7 c8 c8b0 c8b1 c9 c9b0 c9b1
  obtain ⟨kq, x23_3, rfl, HA, HJ3, ⟨mc3, rfl⟩⟩ := hcut
  cases kq with
  |zero => exact absurd HA.out (by simp [aN.j0])
  |succ kj3 =>
   have H := HA.out
   clear HA
   simp only [aN.j0] at H
   by_cases c10 : x23_3 = true
   ·subst c10
    have H1 : ((eH.f a0 a2).bind fun t802 => (some t802)) = some r := by rw [if_pos rfl] at H; exact H
    clear H
    have H := H1
    clear H1
    replace H := bq_ H
    obtain ⟨t802, A110, H⟩ := H
    replace H : (some t802) = some r := H
    have A11 := Aside0.mk A110
    clear A110
    obtain rfl := Option.some.inj H
    go_wp2_with (first | ((with_reducible refine gate_callee (f := 115) rfl ?_); refine goesL_ (some 26) rfl rfl Tryz.func115 (by kernel_rfl) rfl #[.int .i64 a0, .bool a2] rfl gl ?_; (with_reducible refine (eH.calls a0 a2 t802 _ A11.out).mono ?_); rintro e w' ⟨rfl, ⟨nd, rfl⟩⟩; refine ⟨_, rfl, ?_⟩))
    go_ret
    exact ⟨gr_, gd_⟩
   ·replace c10 := Bool.eq_false_iff.mpr c10
    subst c10
    have H1 : ((bF.f a0 a2).bind fun t803 => (some t803)) = some r := by rw [if_neg (show ¬ (false = true) by decide)] at H; exact H
    clear H
    have H := H1
    clear H1
    replace H := bq_ H
    obtain ⟨t803, A120, H⟩ := H
    replace H : (some t803) = some r := H
    have A12 := Aside0.mk A120
    clear A120
    obtain rfl := Option.some.inj H
    go_wp2_with (first | ((with_reducible refine gate_callee (f := 73) rfl ?_); refine goesL_ (some 29) rfl rfl Tryz.func73 (by kernel_rfl) rfl #[.int .i64 a0, .bool a2] rfl gl ?_; (with_reducible refine (bF.calls a0 a2 t803 _ A12.out).mono ?_); rintro e w' ⟨rfl, ⟨nd, rfl⟩⟩; refine ⟨_, rfl, ?_⟩))
    go_ret
    exact ⟨gr_, gd_⟩

end Go.Proofs.YtfapjegkilljnaaGreat.P

/- Entries of functions. -/
namespace Go.Proofs.YtfapjegkilljnaaGreat.L
open Go.RowKit Go.Proofs.YtfapjegkilljnaaGreat.P Go.Proofs.YtfapjegkilljnaaGreat.Ek Go.Proofs.YtfapjegkilljnaaGreatW.PrintWords Go.Proofs.YtfapjegkilljnaaGreatW.PrintLast Go.Proofs.YtfapjegkilljnaaGreatW.PrintMore
noncomputable def dO.c : Fc := gX [hI .i64, hB] [hI .u32] (T := Int) (fun y => ((y, ()), ())) fun n x => dO.f x.1.1 x.2.1.1
theorem dO.ok : gI Tryz.prog 111 dO.c := eB Tryz.func111 (by kernel_rfl) (by kernel_rfl) (by decide) (fun _ => dF (by decide) _) fun n x y h m w => (dO.calls x.1.1 x.2.1.1 y w h).mono fun e w' he => ⟨he.1, he.2.below⟩
noncomputable def dE.c : Fc := gX [hI .i64, hB] [hI .u32] (T := Int) (fun y => ((y, ()), ())) fun n x => dE.f x.1.1 x.2.1.1
theorem dE.ok : gI Tryz.prog 79 dE.c := eB Tryz.func79 (by kernel_rfl) (by kernel_rfl) (by decide) (fun _ => dF (by decide) _) fun n x y h m w => (dE.calls x.1.1 x.2.1.1 y w h).mono fun e w' he => ⟨he.1, he.2.below⟩
noncomputable def bY.cls : Cls := [(111, dO.c), (79, dE.c)]
theorem bY.fU : bS Tryz.prog bY.cls := bS.cons dO.ok (bS.cons dE.ok (bS.nil))
noncomputable def bY.K (v : SV) : Option (Int × Bool × Bool × Bool × Bool × Bool) := (kJ [hI .u32, .agg [.b, .b, .b, .b, .b]] v).map (fun z => (z.1.1, z.2.1.1, z.2.1.2.1, z.2.1.2.2.1, z.2.1.2.2.2.1, z.2.1.2.2.2.2.1))
noncomputable def bY.cuts : List Nat := []
noncomputable def bY.f (k : Nat) (a0 a1 : Int) (a2 : Bool) : Option (Int × Bool × Bool × Bool × Bool × Bool) := evF Tryz.prog bY.cls Tryz.f95 bY.cuts k [.one (.i .i64 (.x a0)), .one (.i .i64 (.x a1)), .one (.b (.q a2))] bY.K
noncomputable def bY.c : Fc := gX [hI .i64, hI .i64, hB] [hI .u32, .agg [.b, .b, .b, .b, .b]] (T := Int × Bool × Bool × Bool × Bool × Bool) (fun y => ((y.1, ()), (y.2.1, y.2.2.1, y.2.2.2.1, y.2.2.2.2.1, y.2.2.2.2.2, ()), ())) fun n x => bY.f n x.1.1 x.2.1.1 x.2.2.1.1
theorem bY.ok : gI Tryz.prog 95 bY.c := rC bY.fU Tryz.func95 (by kernel_rfl) (by kernel_rfl) (by decide) (fun _ => rfl) (fun _ _ => rfl)
noncomputable def eF.c : Fc := gX [.agg [.b, .i .i64, .i .u64, .b]] [.agg [.b, .i .i64, .i .u64, .b]] (T := Bool × Int × Int × Bool) (fun y => ((y.1, y.2.1, y.2.2.1, y.2.2.2, ()), ())) fun n x => eF.f n x.1.1 x.1.2.1 x.1.2.2.1 x.1.2.2.2.1
theorem eF.ok : gI Tryz.prog 87 eF.c := eB Tryz.func87 (by kernel_rfl) (by kernel_rfl) (by decide) (fun _ => dF (by decide) _) fun n x y h m w => (eF.calls n x.1.1 x.1.2.1 x.1.2.2.1 x.1.2.2.2.1 y.1 y.2.1 y.2.2.1 y.2.2.2 w h).mono fun e w' he => ⟨he.1, he.2⟩
noncomputable def aT.c : Fc := gX [hI .u64, hI .i64] [hI .u64, hB] (T := Int × Bool) (fun y => ((y.1, ()), (y.2, ()), ())) fun n x => aT.f n x.1.1 x.2.1.1
theorem aT.ok : gI Tryz.prog 88 aT.c := eB Tryz.func88 (by kernel_rfl) (by kernel_rfl) (by decide) (fun _ => dF (by decide) _) fun n x y h m w => (aT.calls n x.1.1 x.2.1.1 y.1 y.2 w h).mono fun e w' he => ⟨he.1, he.2.below⟩
noncomputable def aQ.cls : Cls := [(87, eF.c), (88, aT.c)]
theorem aQ.fU : bS Tryz.prog aQ.cls := bS.cons eF.ok (bS.cons aT.ok (bS.nil))
noncomputable def aQ.K (v : SV) : Option (Bool × Int × Int × Bool) := (kJ [.agg [.b, .i .i64, .i .u64, .b]] v).map (fun z => (z.1.1, z.1.2.1, z.1.2.2.1, z.1.2.2.2.1))
noncomputable def aQ.cuts : List Nat := [7, 8, 16]
noncomputable def aQ.f (k : Nat) (a0_0 : Bool) (a0_1 a0_2 : Int) (a0_3 a1_0 : Bool) (a1_1 a1_2 : Int) (a1_3 : Bool) : Option (Bool × Int × Int × Bool) := evF Tryz.prog aQ.cls Tryz.f61 aQ.cuts k [.agg [cb a0_0, ci .i64 a0_1, ci .u64 a0_2, cb a0_3], .agg [cb a1_0, ci .i64 a1_1, ci .u64 a1_2, cb a1_3]] aQ.K
noncomputable def aQ.c : Fc := gX [.agg [.b, .i .i64, .i .u64, .b], .agg [.b, .i .i64, .i .u64, .b]] [.agg [.b, .i .i64, .i .u64, .b]] (T := Bool × Int × Int × Bool) (fun y => ((y.1, y.2.1, y.2.2.1, y.2.2.2, ()), ())) fun n x => aQ.f n x.1.1 x.1.2.1 x.1.2.2.1 x.1.2.2.2.1 x.2.1.1 x.2.1.2.1 x.2.1.2.2.1 x.2.1.2.2.2.1
theorem aQ.ok : gI Tryz.prog 61 aQ.c := rC aQ.fU Tryz.func61 (by kernel_rfl) (by kernel_rfl) (by decide) (fun _ => rfl) (fun _ _ => rfl)
noncomputable def aF.c : Fc := gX [hI .i64] [hI .i64, hI .i64] (T := Int × Int) (fun y => ((y.1, ()), (y.2, ()), ())) fun n x => aF.f x.1.1
theorem aF.ok : gI Tryz.prog 12 aF.c := eB Tryz.func12 (by kernel_rfl) (by kernel_rfl) (by decide) (fun _ => dF (by decide) _) fun n x y h m w => (aF.calls x.1.1 y.1 y.2 w h).mono fun e w' he => ⟨he.1, he.2.below⟩
noncomputable def aU.c : Fc := gX [hI .i64] [hI .u32] (T := Int) (fun y => ((y, ()), ())) fun n x => aU.f x.1.1
theorem aU.ok : gI Tryz.prog 14 aU.c := eB Tryz.func14 (by kernel_rfl) (by kernel_rfl) (by decide) (fun _ => dF (by decide) _) fun n x y h m w => (aU.calls x.1.1 y w h).mono fun e w' he => ⟨he.1, he.2.below⟩
noncomputable def aW.c : Fc := gX [hI .i64, hB] [hI .u32] (T := Int) (fun y => ((y, ()), ())) fun n x => aW.f x.1.1 x.2.1.1
theorem aW.ok : gI Tryz.prog 13 aW.c := eB Tryz.func13 (by kernel_rfl) (by kernel_rfl) (by decide) (fun _ => dF (by decide) _) fun n x y h m w => (aW.calls x.1.1 x.2.1.1 y w h).mono fun e w' he => ⟨he.1, he.2.below⟩
noncomputable def bX.cls : Cls := [(12, aF.c), (14, aU.c), (13, aW.c)]
theorem bX.fU : bS Tryz.prog bX.cls := bS.cons aF.ok (bS.cons aU.ok (bS.cons aW.ok (bS.nil)))
noncomputable def bX.K (v : SV) : Option (Int) := (kJ [hI .u32] v).map (fun z => (z.1.1))
noncomputable def bX.cuts : List Nat := []
noncomputable def bX.f (k : Nat) (a0 a1 : Int) : Option (Int) := evF Tryz.prog bX.cls Tryz.f7 bX.cuts k [.one (.i .i64 (.x a0)), .one (.i .u32 (.x a1))] bX.K
noncomputable def bX.c : Fc := gX [hI .i64, hI .u32] [hI .u32] (T := Int) (fun y => ((y, ()), ())) fun n x => bX.f n x.1.1 x.2.1.1
theorem bX.ok : gI Tryz.prog 7 bX.c := rC bX.fU Tryz.func7 (by kernel_rfl) (by kernel_rfl) (by decide) (fun _ => rfl) (fun _ _ => rfl)
noncomputable def bG.c : Fc := gX [hI .i64] [hI .i64] (T := Int) (fun y => ((y, ()), ())) fun n x => bG.f x.1.1
theorem bG.ok : gI Tryz.prog 102 bG.c := eB Tryz.func102 (by kernel_rfl) (by kernel_rfl) (by decide) (fun _ => dF (by decide) _) fun n x y h m w => (bG.calls x.1.1 y w h).mono fun e w' he => ⟨he.1, he.2.below⟩
noncomputable def aS.c : Fc := gX [hI .u64] [hI .i64] (T := Int) (fun y => ((y, ()), ())) fun n x => aS.f n x.1.1
theorem aS.ok : gI Tryz.prog 106 aS.c := eB Tryz.func106 (by kernel_rfl) (by kernel_rfl) (by decide) (fun _ => dF (by decide) _) fun n x y h m w => (aS.calls n x.1.1 y w h).mono fun e w' he => ⟨he.1, he.2.below⟩
noncomputable def bI.c : Fc := gX [hI .u64, hI .i64] [hI .u64, hB, hB] (T := Int × Bool × Bool) (fun y => ((y.1, ()), (y.2.1, ()), (y.2.2, ()), ())) fun n x => bI.f n x.1.1 x.2.1.1
theorem bI.ok : gI Tryz.prog 107 bI.c := eB Tryz.func107 (by kernel_rfl) (by kernel_rfl) (by decide) (fun _ => dF (by decide) _) fun n x y h m w => (bI.calls n x.1.1 x.2.1.1 y.1 y.2.1 y.2.2 w h).mono fun e w' he => ⟨he.1, he.2⟩
noncomputable def eD.c : Fc := gX [hI .i64, hB, hB, hB, hB] [hB] (T := Bool) (fun y => ((y, ()), ())) fun n x => eD.f x.1.1 x.2.1.1 x.2.2.1.1 x.2.2.2.1.1 x.2.2.2.2.1.1
theorem eD.ok : gI Tryz.prog 108 eD.c := eB Tryz.func108 (by kernel_rfl) (by kernel_rfl) (by decide) (fun _ => dF (by decide) _) fun n x y h m w => (eD.calls x.1.1 x.2.1.1 x.2.2.1.1 x.2.2.2.1.1 x.2.2.2.2.1.1 y w h).mono fun e w' he => ⟨he.1, he.2.below⟩
noncomputable def bQ.c : Fc := gX [hI .i64, hB] [hI .u32] (T := Int) (fun y => ((y, ()), ())) fun n x => bQ.f x.1.1 x.2.1.1
theorem bQ.ok : gI Tryz.prog 29 bQ.c := eB Tryz.func29 (by kernel_rfl) (by kernel_rfl) (by decide) (fun _ => dF (by decide) _) fun n x y h m w => (bQ.calls x.1.1 x.2.1.1 y w h).mono fun e w' he => ⟨he.1, he.2.below⟩
noncomputable def aN.c : Fc := gX [hI .i64, hI .i64, hB] [hI .u32] (T := Int) (fun y => ((y, ()), ())) fun n x => aN.f n x.1.1 x.2.1.1 x.2.2.1.1
theorem aN.ok : gI Tryz.prog 109 aN.c := eB Tryz.func109 (by kernel_rfl) (by kernel_rfl) (by decide) (fun _ => dF (by decide) _) fun n x y h m w => (aN.calls n x.1.1 x.2.1.1 x.2.2.1.1 y w h).mono fun e w' he => ⟨he.1, he.2.below⟩
noncomputable def aA.cls : Cls := [(13, aW.c), (12, aF.c), (102, bG.c), (106, aS.c), (107, bI.c), (108, eD.c), (29, bQ.c), (109, aN.c)]
theorem aA.fU : bS Tryz.prog aA.cls := bS.cons aW.ok (bS.cons aF.ok (bS.cons bG.ok (bS.cons aS.ok (bS.cons bI.ok (bS.cons eD.ok (bS.cons bQ.ok (bS.cons aN.ok (bS.nil))))))))
noncomputable def aA.K (v : SV) : Option (Int × Bool × Bool × Bool × Bool × Bool) := (kJ [hI .u32, .agg [.b, .b, .b, .b, .b]] v).map (fun z => (z.1.1, z.2.1.1, z.2.1.2.1, z.2.1.2.2.1, z.2.1.2.2.2.1, z.2.1.2.2.2.2.1))
noncomputable def aA.cuts : List Nat := [3, 9, 12, 13, 15, 18]
noncomputable def aA.f (k : Nat) (a0 a1 : Int) (a2 : Bool) (a3 a4 : Int) (a5 : Bool) : Option (Int × Bool × Bool × Bool × Bool × Bool) := evF Tryz.prog aA.cls Tryz.f77 aA.cuts k [.one (.i .i64 (.x a0)), .one (.i .i64 (.x a1)), .one (.b (.q a2)), .one (.i .i64 (.x a3)), .one (.i .u64 (.x a4)), .one (.b (.q a5))] aA.K
noncomputable def aA.c : Fc := gX [hI .i64, hI .i64, hB, hI .i64, hI .u64, hB] [hI .u32, .agg [.b, .b, .b, .b, .b]] (T := Int × Bool × Bool × Bool × Bool × Bool) (fun y => ((y.1, ()), (y.2.1, y.2.2.1, y.2.2.2.1, y.2.2.2.2.1, y.2.2.2.2.2, ()), ())) fun n x => aA.f n x.1.1 x.2.1.1 x.2.2.1.1 x.2.2.2.1.1 x.2.2.2.2.1.1 x.2.2.2.2.2.1.1
theorem aA.ok : gI Tryz.prog 77 aA.c := rC aA.fU Tryz.func77 (by kernel_rfl) (by kernel_rfl) (by decide) (fun _ => rfl) (fun _ _ => rfl)
/- Functions' trees, printed by a tool of mine out of the reckoner; Lean's kernel checks each. -/
set_option maxRecDepth 100000
theorem bY.eq (n0 : Nat) (a0 a1 : Int) (a2 : Bool) : bY.f n0 a0 a1 a2 = (if a1 = 1 then ((dO.f a0 a2).bind fun t0 => (some ((t0, false, false, true, false, true)))) else (if a1 = 2 then (if a2 = true then ((dO.f a0 a2).bind fun t0 => (some ((t0, false, false, true, false, true)))) else ((dE.f a0 a2).bind fun t0 => (some ((t0, false, false, true, false, true))))) else (if a1 = 3 then (if a2 = true then ((dE.f a0 a2).bind fun t0 => (some ((t0, false, false, true, false, true)))) else ((dO.f a0 a2).bind fun t0 => (some ((t0, false, false, true, false, true))))) else ((dE.f a0 a2).bind fun t0 => (some ((t0, false, false, true, false, true))))))) := by kernel_rfl
noncomputable def aQ.j7 (n0 : Nat) (x0 x1 : Bool) (x2 x3 : Int) (x4 x5 : Bool) (x6 x7 : Int) (x8 x9 : Bool) (x10 x11 : Int) (x12 : Bool) := jF Tryz.prog aQ.cls Tryz.f61 aQ.cuts [1, 1, 1, 0, 1] [n0] n0 ⟨[(39, (.pv (.one (.b (.q x0))))), (4, (.pv (.one (.p 2 0)))), (3, (.pv (.one (.p 1 0)))), (2, (.pv (.one (.p 0 0))))], [(2, (78, [(.c (.b (.q x1))), (.c (.i .i64 (.x x2))), (.c (.i .u64 (.x x3))), (.c (.b (.q x4)))])), (1, (78, [(.c (.b (.q x5))), (.c (.i .i64 (.x x6))), (.c (.i .u64 (.x x7))), (.c (.b (.q x8)))])), (0, (78, [(.c (.b (.q x9))), (.c (.i .i64 (.x x10))), (.c (.i .u64 (.x x11))), (.c (.b (.q x12)))]))], 3⟩ aQ.K
noncomputable def aQ.j8 (n0 : Nat) (x0 : Bool) (x1 x2 : Int) (x3 x4 : Bool) (x5 x6 : Int) (x7 x8 : Bool) (x9 x10 : Int) (x11 : Bool) := jF Tryz.prog aQ.cls Tryz.f61 aQ.cuts [1, 1, 1, 1] [n0] n0 ⟨[(4, (.pv (.one (.p 2 0)))), (3, (.pv (.one (.p 1 0)))), (2, (.pv (.one (.p 0 0))))], [(2, (78, [(.c (.b (.q x0))), (.c (.i .i64 (.x x1))), (.c (.i .u64 (.x x2))), (.c (.b (.q x3)))])), (1, (78, [(.c (.b (.q x4))), (.c (.i .i64 (.x x5))), (.c (.i .u64 (.x x6))), (.c (.b (.q x7)))])), (0, (78, [(.c (.b (.q x8))), (.c (.i .i64 (.x x9))), (.c (.i .u64 (.x x10))), (.c (.b (.q x11)))]))], 3⟩ aQ.K
noncomputable def aQ.j16 (n0 : Nat) (x0 : Bool) (x1 x2 : Int) (x3 x4 : Bool) (x5 x6 : Int) (x7 : Bool) := jF Tryz.prog aQ.cls Tryz.f61 aQ.cuts [1, 1, 1, 1, 1, 1, 1, 1, 1] [n0] n0 ⟨[(4, (.pv (.one (.p 2 0)))), (2, (.pv (.one (.p 0 0))))], [(2, (78, [(.c (.b (.q x0))), (.c (.i .i64 (.x x1))), (.c (.i .u64 (.x x2))), (.c (.b (.q x3)))])), (0, (78, [(.c (.b (.q x4))), (.c (.i .i64 (.x x5))), (.c (.i .u64 (.x x6))), (.c (.b (.q x7)))]))], 3⟩ aQ.K
theorem aQ.eq (n0 : Nat) (a0_0 : Bool) (a0_1 a0_2 : Int) (a0_3 a1_0 : Bool) (a1_1 a1_2 : Int) (a1_3 : Bool) : aQ.f n0 a0_0 a0_1 a0_2 a0_3 a1_0 a1_1 a1_2 a1_3 = (if a0_2 = 0 then (some ((a1_0, a1_1, a1_2, a1_3))) else (if a1_2 = 0 then (some ((a0_0, a0_1, a0_2, a0_3))) else ((eF.f n0 a0_0 a0_1 a0_2 a0_3).bind fun t0 => ((eF.f n0 a1_0 a1_1 a1_2 a1_3).bind fun t1 => (if t0.2.1 < t1.2.1 then (aQ.j7 n0 (true) (false) (Int.ofNat 0) (Int.ofNat 0) (false) (t1.1) t1.2.1 t1.2.2.1 (t1.2.2.2) (t0.1) t0.2.1 t0.2.2.1 (t0.2.2.2)) else (if t0.2.1 = t1.2.1 then (aQ.j7 n0 (Decidable.rec (fun h => false) (fun h => true) (Int.decLt t0.2.2.1 t1.2.2.1)) (false) (Int.ofNat 0) (Int.ofNat 0) (false) (t1.1) t1.2.1 t1.2.2.1 (t1.2.2.2) (t0.1) t0.2.1 t0.2.2.1 (t0.2.2.2)) else (aQ.j7 n0 (false) (false) (Int.ofNat 0) (Int.ofNat 0) (false) (t1.1) t1.2.1 t1.2.2.1 (t1.2.2.2) (t0.1) t0.2.1 t0.2.2.1 (t0.2.2.2)))))))) := by kernel_rfl
theorem aQ.j7_eq (n0 : Nat) (x0 x1 : Bool) (x2 x3 : Int) (x4 x5 : Bool) (x6 x7 : Int) (x8 x9 : Bool) (x10 x11 : Int) (x12 : Bool) : aQ.j7 n0 x0 x1 x2 x3 x4 x5 x6 x7 x8 x9 x10 x11 x12 = (if x0 = true then (aQ.j8 n0 (x1) (x2) (x3) (x4) (x9) (x10) (x11) (x12) (x5) (x6) (x7) (x8)) else (aQ.j8 n0 (x1) (x2) (x3) (x4) (x5) (x6) (x7) (x8) (x9) (x10) (x11) (x12))) := by kernel_rfl
theorem aQ.aBd (n0 : Nat) (x0 : Bool) (x1 x2 : Int) (x3 x4 : Bool) (x5 x6 : Int) (x7 x8 : Bool) (x9 x10 : Int) (x11 : Bool) : aQ.j8 n0 x0 x1 x2 x3 x4 x5 x6 x7 x8 x9 x10 x11 = ((aT.f n0 x6 (wrap64 (x9 - x5))).bind fun t0 => (if (x8 == x4) = true then (some ((x8, x9, IntKind.wrap IntKind.u64 (x10 + t0.1), t0.2))) else (if t0.2 = true then (aQ.j16 n0 (x0) (x1) (x2) (x3) (x8) (x9) (IntKind.wrap IntKind.u64 (IntKind.wrap IntKind.u64 (x10 - t0.1) - 1)) (t0.2)) else (aQ.j16 n0 (x0) (x1) (x2) (x3) (x8) (x9) (IntKind.wrap IntKind.u64 (x10 - t0.1)) (t0.2))))) := by kernel_rfl
theorem aQ.j16_eq (n0 : Nat) (x0 : Bool) (x1 x2 : Int) (x3 x4 : Bool) (x5 x6 : Int) (x7 : Bool) : aQ.j16 n0 x0 x1 x2 x3 x4 x5 x6 x7 = (some ((x4, x5, x6, x7))) := by kernel_rfl
theorem bX.eq (n0 : Nat) (a0 a1 : Int) : bX.f n0 a0 a1 = ((aF.f a0).bind fun t0 => (if 0 ≤ t0.1 then (if 0 ≤ t0.2 then (if 0 ≤ t0.2 then (if 0 ≤ t0.2 then (if 0 ≤ t0.2 then (if 0 ≤ t0.2 then (if shl IntKind.u32 3 t0.2 = 0 then none else (if 0 ≤ t0.2 then (if 0 ≤ t0.2 then (if 0 ≤ t0.2 then (if 0 ≤ t0.2 then (if 0 ≤ wrap64 (t0.2 - 1) then (if 0 ≤ t0.2 then (if shl IntKind.u32 9 t0.2 = 0 then none else (if 0 ≤ Int.tmod a1 15 then (if Int.tmod a1 15 < ↑15 then ((aU.f a0).bind fun t1 => (if shr IntKind.u32 a1 31 = 1 then ((aW.f a0 true).bind fun t2 => (some (bits BinOp.or IntKind.u32 (bits BinOp.and IntKind.u32 (rd [0, 1, (shl IntKind.u32 1 t0.2 - 1) % 4294967296, shl IntKind.u32 1 t0.2, shl IntKind.u32 (shr IntKind.u32 ((shl IntKind.u32 1 t0.1 - 1) % 4294967296) 1) t0.2, (shl IntKind.u32 (shr IntKind.u32 ((shl IntKind.u32 1 t0.1 - 1) % 4294967296) 1) t0.2 + 1) % 4294967296, (shl IntKind.u32 (shr IntKind.u32 ((shl IntKind.u32 1 t0.1 - 1) % 4294967296) 1) t0.2 - 1) % 4294967296, (shl IntKind.u32 (shr IntKind.u32 ((shl IntKind.u32 1 t0.1 - 1) % 4294967296) 1) t0.2 + shl IntKind.u32 1 t0.2) % 4294967296, (shl IntKind.u32 (shr IntKind.u32 ((shl IntKind.u32 1 t0.1 - 1) % 4294967296) 1) t0.2 + Int.tmod (shr IntKind.u32 a1 4) (shl IntKind.u32 3 t0.2)) % 4294967296, (shl IntKind.u32 ((shl IntKind.u32 1 t0.1 - 1) % 4294967296) t0.2 - 1) % 4294967296, shl IntKind.u32 ((shl IntKind.u32 1 t0.1 - 1) % 4294967296) t0.2, bits BinOp.or IntKind.u32 (shl IntKind.u32 ((shl IntKind.u32 1 t0.1 - 1) % 4294967296) t0.2) 1, bits BinOp.or IntKind.u32 (shl IntKind.u32 ((shl IntKind.u32 1 t0.1 - 1) % 4294967296) t0.2) (shl IntKind.u32 1 (wrap64 (t0.2 - 1))), (shl IntKind.u32 (shr IntKind.u32 ((shl IntKind.u32 1 t0.1 - 1) % 4294967296) 1) t0.2 - Int.tmod (shr IntKind.u32 a1 4) (shl IntKind.u32 9 t0.2)) % 4294967296, shr IntKind.u32 a1 4] (Int.tmod a1 15)) t1) t2))) else (some (bits BinOp.and IntKind.u32 (rd [0, 1, (shl IntKind.u32 1 t0.2 - 1) % 4294967296, shl IntKind.u32 1 t0.2, shl IntKind.u32 (shr IntKind.u32 ((shl IntKind.u32 1 t0.1 - 1) % 4294967296) 1) t0.2, (shl IntKind.u32 (shr IntKind.u32 ((shl IntKind.u32 1 t0.1 - 1) % 4294967296) 1) t0.2 + 1) % 4294967296, (shl IntKind.u32 (shr IntKind.u32 ((shl IntKind.u32 1 t0.1 - 1) % 4294967296) 1) t0.2 - 1) % 4294967296, (shl IntKind.u32 (shr IntKind.u32 ((shl IntKind.u32 1 t0.1 - 1) % 4294967296) 1) t0.2 + shl IntKind.u32 1 t0.2) % 4294967296, (shl IntKind.u32 (shr IntKind.u32 ((shl IntKind.u32 1 t0.1 - 1) % 4294967296) 1) t0.2 + Int.tmod (shr IntKind.u32 a1 4) (shl IntKind.u32 3 t0.2)) % 4294967296, (shl IntKind.u32 ((shl IntKind.u32 1 t0.1 - 1) % 4294967296) t0.2 - 1) % 4294967296, shl IntKind.u32 ((shl IntKind.u32 1 t0.1 - 1) % 4294967296) t0.2, bits BinOp.or IntKind.u32 (shl IntKind.u32 ((shl IntKind.u32 1 t0.1 - 1) % 4294967296) t0.2) 1, bits BinOp.or IntKind.u32 (shl IntKind.u32 ((shl IntKind.u32 1 t0.1 - 1) % 4294967296) t0.2) (shl IntKind.u32 1 (wrap64 (t0.2 - 1))), (shl IntKind.u32 (shr IntKind.u32 ((shl IntKind.u32 1 t0.1 - 1) % 4294967296) 1) t0.2 - Int.tmod (shr IntKind.u32 a1 4) (shl IntKind.u32 9 t0.2)) % 4294967296, shr IntKind.u32 a1 4] (Int.tmod a1 15)) t1)))) else none) else none)) else none) else none) else none) else none) else none) else none)) else none) else none) else none) else none) else none) else none)) := by kernel_rfl
noncomputable def aA.j3 (n0 : Nat) (x0 x1 : Bool) (x2 x3 : Int) (x4 : Bool) (x5 x6 : Int) (x7 x8 : Bool) (x9 x10 x11 : Bool) := jF Tryz.prog aA.cls Tryz.f77 aA.cuts [1, 1, 0, 1] [n0] n0 ⟨[(35, (.pv (.one (.b (.q x0))))), (13, (.pv (.one (.p 0 0)))), (5, (.pv (.one (.b (.q x1))))), (4, (.pv (.one (.i .u64 (.x x2))))), (3, (.pv (.one (.i .i64 (.x x3))))), (2, (.pv (.one (.b (.q x4))))), (1, (.pv (.one (.i .i64 (.x x5))))), (0, (.pv (.one (.i .i64 (.x x6)))))], [(0, (60, [(.c (.b (.q x7))), (.c (.b (.q x8))), (.c (.b (.q x9))), (.c (.b (.q x10))), (.c (.b (.q x11)))]))], 1⟩ aA.K
noncomputable def aA.j9 (n0 : Nat) (x0 x1 x2 : Int) (x3 : Bool) (x4 x5 : Int) (x6 : Bool) (x7 x8 : Int) (x9 x10 : Bool) (x11 x12 x13 : Bool) := jF Tryz.prog aA.cls Tryz.f77 aA.cuts [1, 1, 1, 1, 1, 1, 1] [n0] n0 ⟨[(17, (.pv (.one (.i .i64 (.x x0))))), (16, (.pv (.one (.i .i64 (.x x1))))), (15, (.pv (.one (.i .i64 (.x x2))))), (13, (.pv (.one (.p 0 0)))), (5, (.pv (.one (.b (.q x3))))), (4, (.pv (.one (.i .u64 (.x x4))))), (3, (.pv (.one (.i .i64 (.x x5))))), (2, (.pv (.one (.b (.q x6))))), (1, (.pv (.one (.i .i64 (.x x7))))), (0, (.pv (.one (.i .i64 (.x x8)))))], [(0, (60, [(.c (.b (.q x9))), (.c (.b (.q x10))), (.c (.b (.q x11))), (.c (.b (.q x12))), (.c (.b (.q x13)))]))], 1⟩ aA.K
noncomputable def aA.j12 (n0 : Nat) (x0 x1 : Bool) (x2 x3 : Int) (x4 x5 x6 : Int) (x7 : Bool) (x8 x9 : Int) (x10 x11 : Bool) (x12 x13 x14 : Bool) := jF Tryz.prog aA.cls Tryz.f77 aA.cuts [1, 1, 1, 1, 1, 1, 1, 1, 1, 1] [n0] n0 ⟨[(21, (.pv (.one (.b (.q x0))))), (20, (.pv (.one (.b (.q x1))))), (19, (.pv (.one (.i .u64 (.x x2))))), (18, (.pv (.one (.i .i64 (.x x3))))), (17, (.pv (.one (.i .i64 (.x x4))))), (16, (.pv (.one (.i .i64 (.x x5))))), (15, (.pv (.one (.i .i64 (.x x6))))), (13, (.pv (.one (.p 0 0)))), (2, (.pv (.one (.b (.q x7))))), (1, (.pv (.one (.i .i64 (.x x8))))), (0, (.pv (.one (.i .i64 (.x x9)))))], [(0, (60, [(.c (.b (.q x10))), (.c (.b (.q x11))), (.c (.b (.q x12))), (.c (.b (.q x13))), (.c (.b (.q x14)))]))], 1⟩ aA.K
noncomputable def aA.j13 (n0 : Nat) (x0 x1 x2 : Bool) (x3 x4 : Int) (x5 x6 x7 : Int) (x8 : Bool) (x9 x10 : Int) (x11 x12 : Bool) (x13 x14 x15 : Bool) := jF Tryz.prog aA.cls Tryz.f77 aA.cuts [1, 1, 1, 1, 1, 1, 1, 1, 1, 1, 1] [n0] n0 ⟨[(22, (.pv (.one (.b (.q x0))))), (21, (.pv (.one (.b (.q x1))))), (20, (.pv (.one (.b (.q x2))))), (19, (.pv (.one (.i .u64 (.x x3))))), (18, (.pv (.one (.i .i64 (.x x4))))), (17, (.pv (.one (.i .i64 (.x x5))))), (16, (.pv (.one (.i .i64 (.x x6))))), (15, (.pv (.one (.i .i64 (.x x7))))), (13, (.pv (.one (.p 0 0)))), (2, (.pv (.one (.b (.q x8))))), (1, (.pv (.one (.i .i64 (.x x9))))), (0, (.pv (.one (.i .i64 (.x x10)))))], [(0, (60, [(.c (.b (.q x11))), (.c (.b (.q x12))), (.c (.b (.q x13))), (.c (.b (.q x14))), (.c (.b (.q x15)))]))], 1⟩ aA.K
noncomputable def aA.j15 (n0 : Nat) (x0 : Bool) (x1 x2 : Int) (x3 x4 x5 : Int) (x6 : Bool) (x7 x8 : Int) (x9 x10 : Bool) (x11 x12 x13 : Bool) := jF Tryz.prog aA.cls Tryz.f77 aA.cuts [1, 1, 1, 1, 1, 1, 1, 1, 1, 1, 1, 1] [n0] n0 ⟨[(22, (.pv (.one (.b (.q x0))))), (19, (.pv (.one (.i .u64 (.x x1))))), (18, (.pv (.one (.i .i64 (.x x2))))), (17, (.pv (.one (.i .i64 (.x x3))))), (16, (.pv (.one (.i .i64 (.x x4))))), (15, (.pv (.one (.i .i64 (.x x5))))), (13, (.pv (.one (.p 0 0)))), (2, (.pv (.one (.b (.q x6))))), (1, (.pv (.one (.i .i64 (.x x7))))), (0, (.pv (.one (.i .i64 (.x x8)))))], [(0, (60, [(.c (.b (.q x9))), (.c (.b (.q x10))), (.c (.b (.q x11))), (.c (.b (.q x12))), (.c (.b (.q x13)))]))], 1⟩ aA.K
noncomputable def aA.j18 (n0 : Nat) (x0 x1 x2 : Int) (x3 : Bool) (x4 x5 : Int) (x6 x7 : Bool) (x8 x9 : Bool) (x10 x11 : Bool) (x12 x13 : Bool) (x14 x15 : Bool) := jF Tryz.prog aA.cls Tryz.f77 aA.cuts [1, 1, 1, 1, 1, 1, 1, 1, 1, 1, 1, 1, 1, 1] [n0] n0 ⟨[(23, (.pv (.one (.p 1 0)))), (19, (.pv (.one (.i .u64 (.x x0))))), (18, (.pv (.one (.i .i64 (.x x1))))), (15, (.pv (.one (.i .i64 (.x x2))))), (13, (.pv (.one (.p 0 0)))), (2, (.pv (.one (.b (.q x3))))), (1, (.pv (.one (.i .i64 (.x x4))))), (0, (.pv (.one (.i .i64 (.x x5)))))], [(1, (60, [(.c (.b (.q x6))), (.c (.b (.q x7))), (.c (.b (.q x8))), (.c (.b (.q x9))), (.c (.b (.q x10)))])), (0, (60, [(.c (.b (.q x11))), (.c (.b (.q x12))), (.c (.b (.q x13))), (.c (.b (.q x14))), (.c (.b (.q x15)))]))], 2⟩ aA.K
theorem aA.eq (n0 : Nat) (a0 a1 : Int) (a2 : Bool) (a3 a4 : Int) (a5 : Bool) : aA.f n0 a0 a1 a2 a3 a4 a5 = (if a4 = 0 then (aA.j3 n0 (!(a5)) (a5) (a4) (mn (mx a3 (-10000)) 10000) (a2) (a1) (a0) (false) (false) (false) (false) (false)) else (aA.j3 n0 (false) (a5) (a4) (mn (mx a3 (-10000)) 10000) (a2) (a1) (a0) (false) (false) (false) (false) (false))) := by kernel_rfl
theorem aA.j3_eq (n0 : Nat) (x0 x1 : Bool) (x2 x3 : Int) (x4 : Bool) (x5 x6 : Int) (x7 x8 : Bool) (x9 x10 x11 : Bool) : aA.j3 n0 x0 x1 x2 x3 x4 x5 x6 x7 x8 x9 x10 x11 = (if x0 = true then ((aW.f x6 x4).bind fun t0 => (some ((t0, false, false, false, false, false)))) else ((aF.f x6).bind fun t0 => ((bG.f x6).bind fun t1 => ((aS.f n0 x2).bind fun t2 => (if x2 = 0 then (aA.j9 n0 (Int.negSucc 19999) (wrap64 (1 - t1)) t0.2 (x1) (x2) (x3) (x4) (x5) (x6) (x7) (x8) (x9) (x10) (x11)) else (aA.j9 n0 (wrap64 (wrap64 (x3 + t2) - 1)) (wrap64 (1 - t1)) t0.2 (x1) (x2) (x3) (x4) (x5) (x6) (x7) (x8) (x9) (x10) (x11))))))) := by kernel_rfl
theorem aA.j9_eq (n0 : Nat) (x0 x1 x2 : Int) (x3 : Bool) (x4 x5 : Int) (x6 : Bool) (x7 x8 : Int) (x9 x10 : Bool) (x11 x12 x13 : Bool) : aA.j9 n0 x0 x1 x2 x3 x4 x5 x6 x7 x8 x9 x10 x11 x12 x13 = ((bI.f n0 x4 (wrap64 (wrap64 (mx x0 x1 - x2) - x5))).bind fun t0 => (if t0.2.2 = true then (aA.j12 n0 (true) (t0.2.1) t0.1 (wrap64 (mx x0 x1 - x2)) (x0) (x1) (x2) (x6) (x7) (x8) (x9) (x10) (x11) (x12) (x13)) else (aA.j12 n0 (x3) (t0.2.1) t0.1 (wrap64 (mx x0 x1 - x2)) (x0) (x1) (x2) (x6) (x7) (x8) (x9) (x10) (x11) (x12) (x13)))) := by kernel_rfl
theorem aA.aCi (n0 : Nat) (x0 x1 : Bool) (x2 x3 : Int) (x4 x5 x6 : Int) (x7 : Bool) (x8 x9 : Int) (x10 x11 : Bool) (x12 x13 x14 : Bool) : aA.j12 n0 x0 x1 x2 x3 x4 x5 x6 x7 x8 x9 x10 x11 x12 x13 x14 = (if x1 = true then (aA.j13 n0 (true) (x0) (x1) (x2) (x3) (x4) (x5) (x6) (x7) (x8) (x9) (x10) (x11) (x12) (x13) (x14)) else (aA.j13 n0 (x0) (x0) (x1) (x2) (x3) (x4) (x5) (x6) (x7) (x8) (x9) (x10) (x11) (x12) (x13) (x14))) := by kernel_rfl
theorem aA.j13_eq (n0 : Nat) (x0 x1 x2 : Bool) (x3 x4 : Int) (x5 x6 x7 : Int) (x8 : Bool) (x9 x10 : Int) (x11 x12 : Bool) (x13 x14 x15 : Bool) : aA.j13 n0 x0 x1 x2 x3 x4 x5 x6 x7 x8 x9 x10 x11 x12 x13 x14 x15 = ((eD.f x9 x8 (bits BinOp.and IntKind.u64 x3 1 == 1) x2 x1).bind fun t0 => (if t0 = true then (aA.j15 n0 (x0) (IntKind.wrap IntKind.u64 (x3 + 1)) (x4) (x5) (x6) (x7) (x8) (x9) (x10) (x11) (x12) (x13) (x14) (x15)) else (aA.j15 n0 (x0) (x3) (x4) (x5) (x6) (x7) (x8) (x9) (x10) (x11) (x12) (x13) (x14) (x15)))) := by kernel_rfl
theorem aA.aBT (n0 : Nat) (x0 : Bool) (x1 x2 : Int) (x3 x4 x5 : Int) (x6 : Bool) (x7 x8 : Int) (x9 x10 : Bool) (x11 x12 x13 : Bool) : aA.j15 n0 x0 x1 x2 x3 x4 x5 x6 x7 x8 x9 x10 x11 x12 x13 = (if x0 = true then (if 0 ≤ wrap64 (x5 + 1) then (if x1 = shl IntKind.u64 1 (wrap64 (x5 + 1)) then (aA.j18 n0 (shr IntKind.u64 x1 1) (wrap64 (x2 + 1)) (x5) (x6) (x7) (x8) (false) (false) (false) (Decidable.rec (fun h => false) (fun h => true) (Int.decLt x3 x4)) (x0) (x9) (x10) (x11) (x12) (x13)) else (aA.j18 n0 (x1) (x2) (x5) (x6) (x7) (x8) (false) (false) (false) (Decidable.rec (fun h => false) (fun h => true) (Int.decLt x3 x4)) (x0) (x9) (x10) (x11) (x12) (x13))) else none) else (if 0 ≤ wrap64 (x5 + 1) then (if x1 = shl IntKind.u64 1 (wrap64 (x5 + 1)) then (aA.j18 n0 (shr IntKind.u64 x1 1) (wrap64 (x2 + 1)) (x5) (x6) (x7) (x8) (false) (false) (false) (false) (x0) (x9) (x10) (x11) (x12) (x13)) else (aA.j18 n0 (x1) (x2) (x5) (x6) (x7) (x8) (false) (false) (false) (false) (x0) (x9) (x10) (x11) (x12) (x13))) else none)) := by kernel_rfl
theorem aA.j18_eq (n0 : Nat) (x0 x1 x2 : Int) (x3 : Bool) (x4 x5 : Int) (x6 x7 : Bool) (x8 x9 : Bool) (x10 x11 : Bool) (x12 x13 : Bool) (x14 x15 : Bool) : aA.j18 n0 x0 x1 x2 x3 x4 x5 x6 x7 x8 x9 x10 x11 x12 x13 x14 x15 = (if 0 ≤ x2 then (if x0 < shl IntKind.u64 1 x2 then ((bQ.f x5 x3).bind fun t0 => (some ((bits BinOp.or IntKind.u32 t0 (x0 % 4294967296), x6, x7, x8, x9, x10)))) else ((bG.f x5).bind fun t0 => ((aF.f x5).bind fun t1 => (if 0 ≤ t1.1 then (if wrap64 (shl IntKind.i64 1 t1.1 - 1) ≤ wrap64 (wrap64 (x1 + x2) + t0) then ((aN.f n0 x5 x4 x3).bind fun t2 => (some ((t2, false, false, true, false, true)))) else (if 0 ≤ x2 then (if 0 ≤ x2 then ((bQ.f x5 x3).bind fun t2 => (some ((bits BinOp.or IntKind.u32 (bits BinOp.or IntKind.u32 t2 (shl IntKind.u32 (wrap64 (wrap64 (x1 + x2) + t0) % 4294967296) x2)) (bits BinOp.and IntKind.u64 x0 (IntKind.wrap IntKind.u64 (shl IntKind.u64 1 x2 - 1)) % 4294967296), x6, x7, x8, x9, x10)))) else none) else none)) else none)))) else none) := by kernel_rfl
end Go.Proofs.YtfapjegkilljnaaGreat.L

-- Printed by a program of this session's out of Lean's print of the translation; Lean checks it.
namespace Go.Proofs.YtfapjegkilljnaaGreat.P
open Go.RowKit Go.Proofs.YtfapjegkilljnaaGreatW.PrintWords Go.Proofs.YtfapjegkilljnaaGreatW.PrintLast Go.Proofs.YtfapjegkilljnaaGreatW.PrintMore
attribute [local go_sem] max2_int min2_int max_two min_two max_three min_three max_four min_four

-- NEED 0
/-! ### aQ: function 61 -/
mutual
def aQ.j0 : Nat → Bool → Bool → Int → Int → Bool → Bool → Int → Int → Bool → Option (Bool × Int × Int × Bool)
 |0, _, _, _, _, _, _, _, _, _ => none
 |k + 1, x39, x327000, x327001, x327002, x327003, x328000, x328001, x328002, x328003 => if x39 = true then (aQ.j1 k x328000 x328001 x328002 x328003 x327000 x327001 x327002 x327003) else (aQ.j1 k x327000 x327001 x327002 x327003 x328000 x328001 x328002 x328003)
def aQ.j1 : Nat → Bool → Int → Int → Bool → Bool → Int → Int → Bool → Option (Bool × Int × Int × Bool)
 |0, _, _, _, _, _, _, _, _ => none
 |k + 1, x327000, x327001, x327002, x327003, x328000, x328001, x328002, x328003 => (aT.f k x328002 (wrap64 (x327001 - x328001))).bind fun bt337 => (if (x327000 == x328000) = true then (some (x327000, x327001, IntKind.u64.wrap (x327002 + bt337.1), bt337.2)) else (if bt337.2 = true then (aQ.j2 k x327000 x327001 (IntKind.u64.wrap ((IntKind.u64.wrap (x327002 - bt337.1)) - 1)) bt337.2) else (aQ.j2 k x327000 x327001 (IntKind.u64.wrap (x327002 - bt337.1)) bt337.2)))
def aQ.j2 : Nat → Bool → Int → Int → Bool → Option (Bool × Int × Int × Bool)
 |0, _, _, _, _ => none
 |k + 1, x327000, x327001, x327002, x327003 => some (x327000, x327001, x327002, x327003)
end
def aQ.f (k : Nat) (a0_0 : Bool) (a0_1 a0_2 : Int) (a0_3 a1_0 : Bool) (a1_1 a1_2 : Int) (a1_3 : Bool) : Option (Bool × Int × Int × Bool) := if a0_2 = 0 then (some (a1_0, a1_1, a1_2, a1_3)) else (if a1_2 = 0 then (some (a0_0, a0_1, a0_2, a0_3)) else ((eF.f k a0_0 a0_1 a0_2 a0_3).bind fun bt329 => ((eF.f k a1_0 a1_1 a1_2 a1_3).bind fun bt333 => (if bt329.2.1 < bt333.2.1 then (aQ.j0 k true bt329.1 bt329.2.1 bt329.2.2.1 bt329.2.2.2 bt333.1 bt333.2.1 bt333.2.2.1 bt333.2.2.2) else (if bt329.2.1 = bt333.2.1 then (aQ.j0 k (decide (bt329.2.2.1 < bt333.2.2.1)) bt329.1 bt329.2.1 bt329.2.2.1 bt329.2.2.2 bt333.1 bt333.2.1 bt333.2.2.1 bt333.2.2.2) else (aQ.j0 k false bt329.1 bt329.2.1 bt329.2.2.1 bt329.2.2.2 bt333.1 bt333.2.1 bt333.2.2.1 bt333.2.2.2))))))
-- NEED 0
/-! ### eQ: function 62 -/
def eQ.f (a0 a1 : Int) (a2 a3 : Bool) : Option (Int) := if (a2 == a3) = true then ((dM.f a0 a2).bind fun t339 => (some t339)) else ((dM.f a0 (a1 == 3)).bind fun t340 => (some t340))
theorem eQ.calls (a0 a1 : Int) (a2 a3 : Bool) (r : Int) (w : World) (h : eQ.f a0 a1 a2 a3 = some r) :
  Calls Tryz.prog 62 #[.int .i64 a0, .int .i64 a1, .bool a2, .bool a3] w fun e w' => e = .returned (.int .u32 r) ∧ Drawn0 w w' := by
 have H : (if (a2 == a3) = true then ((dM.f a0 a2).bind fun t339 => (some t339)) else ((dM.f a0 (a1 == 3)).bind fun t340 => (some t340))) = some r := h
 clear h
 by_cases c5 : (a2 == a3) = true
 ·rw [if_pos c5] at H
  have c5b0 : (a2 == a3) = true := c5
  (try (have c5b1 : decide (a2 = a3) = true := by simpa using c5))
  (try (have c5b2 : (a2 == a3) = true := by simpa using c5))
  clear c5
  replace H := bq_ H
  obtain ⟨t339, A60, H⟩ := H
  replace H : (some t339) = some r := H
  have A6 := Aside0.mk A60
  clear A60
  obtain rfl := Option.some.inj H
  go_enter Tryz.func62, Tryz.ntmps62
  go_wp2_with (first | ((with_reducible refine gate_callee (f := 89) rfl ?_); refine goesL_ (some 14) rfl rfl Tryz.func89 (by kernel_rfl) rfl #[.int .i64 a0, .bool a2] rfl gl ?_; (with_reducible refine (dM.calls a0 a2 t339 _ A6.out).mono ?_); rintro e w' ⟨rfl, ⟨nd, rfl⟩⟩; refine ⟨_, rfl, ?_⟩))
  go_ret
  exact ⟨gr_, gd_⟩
 ·rw [if_neg c5] at H
  have c5b0 : (a2 == a3) = false := by simpa using c5
  (try (have c5b1 : decide (a2 = a3) = false := by simpa using c5))
  (try (have c5b2 : (a2 == a3) = false := by simpa using c5))
  (try (have c5b3 : ¬ (a2 = a3) := by simpa using c5))
  clear c5
  replace H := bq_ H
  obtain ⟨t340, A70, H⟩ := H
  replace H : (some t340) = some r := H
  have A7 := Aside0.mk A70
  clear A70
  obtain rfl := Option.some.inj H
  go_enter Tryz.func62, Tryz.ntmps62
  go_wp2_with (first | ((with_reducible refine gate_callee (f := 89) rfl ?_); refine goesL_ (some 18) rfl rfl Tryz.func89 (by kernel_rfl) rfl #[.int .i64 a0, .bool (a1 == 3)] rfl gl ?_; (with_reducible refine (dM.calls a0 (a1 == 3) t340 _ A7.out).mono ?_); rintro e w' ⟨rfl, ⟨nd, rfl⟩⟩; refine ⟨_, rfl, ?_⟩))
  go_ret
  exact ⟨gr_, gd_⟩


-- NEED 0
/-! ### aA: function 77 -/
mutual
def aA.j0 : Nat → Int → Int → Bool → Int → Int → Bool → Bool → Option (Int × Bool × Bool × Bool × Bool × Bool)
 |0, _, _, _, _, _, _, _ => none
 |k + 1, x0, x1, x2, x3, x4, x5, x35 => if x35 = true then ((aW.f x0 x2).bind fun t805 => (some (t805, false, false, false, false, false))) else ((aF.f x0).bind fun bt806 => ((bG.f x0).bind fun t808 => ((aS.f k x4).bind fun t809 => (if x4 = 0 then (aA.j1 k x0 x1 x2 x3 x4 x5 bt806.2 (wrap64 (1 - t808)) (-20000)) else (aA.j1 k x0 x1 x2 x3 x4 x5 bt806.2 (wrap64 (1 - t808)) (wrap64 ((wrap64 (x3 + t809)) - 1)))))))
def aA.j1 : Nat → Int → Int → Bool → Int → Int → Bool → Int → Int → Int → Option (Int × Bool × Bool × Bool × Bool × Bool)
 |0, _, _, _, _, _, _, _, _, _ => none
 |k + 1, x0, x1, x2, x3, x4, x5, x15, x16, x17 => (bI.f k x4 (wrap64 ((wrap64 ((mx x17 x16) - x15)) - x3))).bind fun bt810 => (if bt810.2.2 = true then (aA.j2 k x0 x1 x2 x15 x16 x17 (wrap64 ((mx x17 x16) - x15)) bt810.1 bt810.2.1 true) else (aA.j2 k x0 x1 x2 x15 x16 x17 (wrap64 ((mx x17 x16) - x15)) bt810.1 bt810.2.1 x5))
def aA.j2 : Nat → Int → Int → Bool → Int → Int → Int → Int → Int → Bool → Bool → Option (Int × Bool × Bool × Bool × Bool × Bool)
 |0, _, _, _, _, _, _, _, _, _, _ => none
 |k + 1, x0, x1, x2, x15, x16, x17, x18, x19, x20, x21 => if x20 = true then (aA.j3 k x0 x1 x2 x15 x16 x17 x18 x19 x20 x21 true) else (aA.j3 k x0 x1 x2 x15 x16 x17 x18 x19 x20 x21 x21)
def aA.j3 : Nat → Int → Int → Bool → Int → Int → Int → Int → Int → Bool → Bool → Bool → Option (Int × Bool × Bool × Bool × Bool × Bool)
 |0, _, _, _, _, _, _, _, _, _, _, _ => none
 |k + 1, x0, x1, x2, x15, x16, x17, x18, x19, x20, x21, x22 => (eD.f x1 x2 ((Go.bits .and .u64 x19 1) == 1) x20 x21).bind fun t813 => (if t813 = true then (aA.j4 k x0 x1 x2 x15 x16 x17 x18 (IntKind.u64.wrap (x19 + 1)) x22) else (aA.j4 k x0 x1 x2 x15 x16 x17 x18 x19 x22))
def aA.j4 : Nat → Int → Int → Bool → Int → Int → Int → Int → Int → Bool → Option (Int × Bool × Bool × Bool × Bool × Bool)
 |0, _, _, _, _, _, _, _, _, _ => none
 |k + 1, x0, x1, x2, x15, x16, x17, x18, x19, x22 => if x22 = true then (if 0 ≤ (wrap64 (x15 + 1)) then (if x19 = (shl .u64 1 (wrap64 (x15 + 1))) then (aA.j5 k x0 x1 x2 x15 (wrap64 (x18 + 1)) (x19 / 2) false false false (decide (x17 < x16)) x22) else (aA.j5 k x0 x1 x2 x15 x18 x19 false false false (decide (x17 < x16)) x22)) else (none)) else (if 0 ≤ (wrap64 (x15 + 1)) then (if x19 = (shl .u64 1 (wrap64 (x15 + 1))) then (aA.j6 k x0 x1 x2 x15 (wrap64 (x18 + 1)) (x19 / 2) false false false false x22) else (aA.j6 k x0 x1 x2 x15 x18 x19 false false false false x22)) else (none))
def aA.j5 : Nat → Int → Int → Bool → Int → Int → Int → Bool → Bool → Bool → Bool → Bool → Option (Int × Bool × Bool × Bool × Bool × Bool)
 |0, _, _, _, _, _, _, _, _, _, _, _ => none
 |k + 1, x0, x1, x2, x15, x18, x19, x815000, x815001, x815002, x815003, x815004 => if 0 ≤ x15 then (if x19 < (shl .u64 1 x15) then ((bQ.f x0 x2).bind fun t815 => (some (Go.bits .or .u32 t815 ((x19) % 4294967296), x815000, x815001, x815002, x815003, x815004))) else ((bG.f x0).bind fun t816 => ((aF.f x0).bind fun bt817 => (if 0 ≤ bt817.1 then (if (wrap64 ((wrap64 (x18 + x15)) + t816)) ≥ (wrap64 ((shl .i64 1 bt817.1) - 1)) then ((aN.f k x0 x1 x2).bind fun t819 => (some (t819, false, false, true, false, true))) else ((bQ.f x0 x2).bind fun t820 => (some (Go.bits .or .u32 (Go.bits .or .u32 t820 (shl .u32 ((wrap64 ((wrap64 (x18 + x15)) + t816)) % 4294967296) x15)) ((Go.bits .and .u64 x19 (IntKind.u64.wrap ((shl .u64 1 x15) - 1))) % 4294967296), x815000, x815001, x815002, x815003, x815004)))) else (none))))) else (none)
def aA.j6 : Nat → Int → Int → Bool → Int → Int → Int → Bool → Bool → Bool → Bool → Bool → Option (Int × Bool × Bool × Bool × Bool × Bool)
 |0, _, _, _, _, _, _, _, _, _, _, _ => none
 |k + 1, x0, x1, x2, x15, x18, x19, x822000, x822001, x822002, x822003, x822004 => if 0 ≤ x15 then (if x19 < (shl .u64 1 x15) then ((bQ.f x0 x2).bind fun t822 => (some (Go.bits .or .u32 t822 ((x19) % 4294967296), x822000, x822001, x822002, x822003, x822004))) else ((bG.f x0).bind fun t823 => ((aF.f x0).bind fun bt824 => (if 0 ≤ bt824.1 then (if (wrap64 ((wrap64 (x18 + x15)) + t823)) ≥ (wrap64 ((shl .i64 1 bt824.1) - 1)) then ((aN.f k x0 x1 x2).bind fun t826 => (some (t826, false, false, true, false, true))) else ((bQ.f x0 x2).bind fun t827 => (some (Go.bits .or .u32 (Go.bits .or .u32 t827 (shl .u32 ((wrap64 ((wrap64 (x18 + x15)) + t823)) % 4294967296) x15)) ((Go.bits .and .u64 x19 (IntKind.u64.wrap ((shl .u64 1 x15) - 1))) % 4294967296), x822000, x822001, x822002, x822003, x822004)))) else (none))))) else (none)
end
def aA.f (k : Nat) (a0 a1 : Int) (a2 : Bool) (a3 a4 : Int) (a5 : Bool) : Option (Int × Bool × Bool × Bool × Bool × Bool) := if a4 = 0 then (aA.j0 k a0 a1 a2 (mn (mx a3 (-10000)) 10000) a4 a5 (!a5)) else (aA.j0 k a0 a1 a2 (mn (mx a3 (-10000)) 10000) a4 a5 false)
-- NOT PRINTED: function 105 (aM)

-- NOT PRINTED: function 75 (bZ)

-- NOT PRINTED: function 76 (bR)

/- What the reckoner tells of printed functions. -/
set_option maxRecDepth 100000
set_option maxHeartbeats 4000000 in
theorem bY.le {k n : Nat} (hk : k ≤ n) {a0 a1 : Int} {a2 : Bool} : LeO (bY.f a0 a1 a2) (L.bY.f n a0 a1 a2) := by
 unfold bY.f
 rw [L.bY.eq]
 try simp only [Bool.and_true]
 repeat' first
  |(with_reducible exact LeO.refl _)
  |exact LeO.none _
  |(with_reducible first|refine LeO.bind ?_ (fun _ => ?_)|refine LeO.gH Iff.rfl (fun _ => ?_) (fun _ => ?_))
  |exact LeO.refl _
  |(with_reducible first|refine LeO.pos (by assumption) ?_|refine LeO.neg (by assumption) ?_|refine LeO.l6 (by assumption) ?_|refine LeO.lZ (by assumption) ?_|refine LeO.gH (by omega) (fun _ => ?_) (fun _ => ?_))
theorem aQ.jR {k n : Nat} (hk : k ≤ n) {x327000 : Bool} {x327001 x327002 : Int} {x327003 ex0 : Bool} {ex1 ex2 : Int} {ex3 : Bool} : LeO (aQ.j2 k x327000 x327001 x327002 x327003) (L.aQ.j16 n ex0 ex1 ex2 ex3 x327000 x327001 x327002 x327003) := by
 cases k with
 |zero => rw [aQ.j2]; exact LeO.none _
 |succ k =>
 replace hk := Nat.le_of_succ_le hk
 rw [aQ.j2, L.aQ.j16_eq]
 repeat' first
  |(with_reducible exact LeO.refl _)
  |exact LeO.none _
  |(with_reducible first|exact fun r h => at_rounds (eF.mono _ _ _ _) hk h|exact fun r h => at_rounds (aT.mono _ _) hk h|refine LeO.bind ?_ (fun _ => ?_)|refine LeO.gH Iff.rfl (fun _ => ?_) (fun _ => ?_))
  |exact fun r h => at_rounds (eF.mono _ _ _ _) hk h
  |exact fun r h => at_rounds (aT.mono _ _) hk h
  |exact LeO.refl _
  |(with_reducible first|refine LeO.pos (by assumption) ?_|refine LeO.neg (by assumption) ?_|refine LeO.l6 (by assumption) ?_|refine LeO.lZ (by assumption) ?_|refine LeO.gH (by omega) (fun _ => ?_) (fun _ => ?_))
theorem aQ.gZ {k n : Nat} (hk : k ≤ n) {x327000 : Bool} {x327001 x327002 : Int} {x327003 x328000 : Bool} {x328001 x328002 : Int} {x328003 ex0 : Bool} {ex1 ex2 : Int} {ex3 : Bool} : LeO (aQ.j1 k x327000 x327001 x327002 x327003 x328000 x328001 x328002 x328003) (L.aQ.j8 n ex0 ex1 ex2 ex3 x328000 x328001 x328002 x328003 x327000 x327001 x327002 x327003) := by
 cases k with
 |zero => rw [aQ.j1]; exact LeO.none _
 |succ k =>
 replace hk := Nat.le_of_succ_le hk
 rw [aQ.j1, L.aQ.aBd]
 repeat' first
  |(with_reducible exact LeO.refl _)
  |exact LeO.none _
  |(with_reducible first|exact aQ.jR hk|exact fun r h => at_rounds (eF.mono _ _ _ _) hk h|exact fun r h => at_rounds (aT.mono _ _) hk h|refine LeO.bind ?_ (fun _ => ?_)|refine LeO.gH Iff.rfl (fun _ => ?_) (fun _ => ?_))
  |exact aQ.jR hk
  |exact fun r h => at_rounds (eF.mono _ _ _ _) hk h
  |exact fun r h => at_rounds (aT.mono _ _) hk h
  |exact LeO.refl _
  |(with_reducible first|refine LeO.pos (by assumption) ?_|refine LeO.neg (by assumption) ?_|refine LeO.l6 (by assumption) ?_|refine LeO.lZ (by assumption) ?_|refine LeO.gH (by omega) (fun _ => ?_) (fun _ => ?_))
theorem aQ.kH {k n : Nat} (hk : k ≤ n) {x39 x327000 : Bool} {x327001 x327002 : Int} {x327003 x328000 : Bool} {x328001 x328002 : Int} {x328003 ex1 : Bool} {ex2 ex3 : Int} {ex4 : Bool} : LeO (aQ.j0 k x39 x327000 x327001 x327002 x327003 x328000 x328001 x328002 x328003) (L.aQ.j7 n x39 ex1 ex2 ex3 ex4 x328000 x328001 x328002 x328003 x327000 x327001 x327002 x327003) := by
 cases k with
 |zero => rw [aQ.j0]; exact LeO.none _
 |succ k =>
 replace hk := Nat.le_of_succ_le hk
 rw [aQ.j0, L.aQ.j7_eq]
 repeat' first
  |(with_reducible exact LeO.refl _)
  |exact LeO.none _
  |(with_reducible first|exact aQ.jR hk|exact aQ.gZ hk|exact fun r h => at_rounds (eF.mono _ _ _ _) hk h|exact fun r h => at_rounds (aT.mono _ _) hk h|refine LeO.bind ?_ (fun _ => ?_)|refine LeO.gH Iff.rfl (fun _ => ?_) (fun _ => ?_))
  |exact aQ.jR hk
  |exact aQ.gZ hk
  |exact fun r h => at_rounds (eF.mono _ _ _ _) hk h
  |exact fun r h => at_rounds (aT.mono _ _) hk h
  |exact LeO.refl _
  |(with_reducible first|refine LeO.pos (by assumption) ?_|refine LeO.neg (by assumption) ?_|refine LeO.l6 (by assumption) ?_|refine LeO.lZ (by assumption) ?_|refine LeO.gH (by omega) (fun _ => ?_) (fun _ => ?_))
set_option maxHeartbeats 4000000 in
theorem aQ.le {k n : Nat} (hk : k ≤ n) {a0_0 : Bool} {a0_1 a0_2 : Int} {a0_3 a1_0 : Bool} {a1_1 a1_2 : Int} {a1_3 : Bool} : LeO (aQ.f k a0_0 a0_1 a0_2 a0_3 a1_0 a1_1 a1_2 a1_3) (L.aQ.f n a0_0 a0_1 a0_2 a0_3 a1_0 a1_1 a1_2 a1_3) := by
 unfold aQ.f
 rw [L.aQ.eq]
 try simp only [Bool.and_true]
 repeat' first
  |(with_reducible exact LeO.refl _)
  |exact LeO.none _
  |(with_reducible first|exact aQ.jR hk|exact aQ.gZ hk|exact aQ.kH hk|exact fun r h => at_rounds (eF.mono _ _ _ _) hk h|exact fun r h => at_rounds (aT.mono _ _) hk h|refine LeO.bind ?_ (fun _ => ?_)|refine LeO.gH Iff.rfl (fun _ => ?_) (fun _ => ?_))
  |exact aQ.jR hk
  |exact aQ.gZ hk
  |exact aQ.kH hk
  |exact fun r h => at_rounds (eF.mono _ _ _ _) hk h
  |exact fun r h => at_rounds (aT.mono _ _) hk h
  |exact LeO.refl _
  |(with_reducible first|refine LeO.pos (by assumption) ?_|refine LeO.neg (by assumption) ?_|refine LeO.l6 (by assumption) ?_|refine LeO.lZ (by assumption) ?_|refine LeO.gH (by omega) (fun _ => ?_) (fun _ => ?_))
set_option maxHeartbeats 4000000 in
theorem bX.le {k n : Nat} (hk : k ≤ n) {a0 a1 : Int} : LeO (bX.f a0 a1) (L.bX.f n a0 a1) := by
 unfold bX.f
 rw [L.bX.eq]
 try simp only [Bool.and_true]
 repeat' first
  |(with_reducible exact LeO.refl _)
  |exact LeO.none _
  |(with_reducible first|refine LeO.bind ?_ (fun _ => ?_)|refine LeO.gH Iff.rfl (fun _ => ?_) (fun _ => ?_))
  |exact LeO.refl _
  |(with_reducible first|refine LeO.pos (by assumption) ?_|refine LeO.neg (by assumption) ?_|refine LeO.l6 (by assumption) ?_|refine LeO.lZ (by assumption) ?_|refine LeO.gH (by omega) (fun _ => ?_) (fun _ => ?_))
theorem bX.calls (a0 a1 r : Int) (w : World) (h : bX.f a0 a1 = some r) :
  Calls Tryz.prog 7 #[.int .i64 a0, .int .u32 a1] w fun e w' => e = .returned (.int .u32 r) ∧ Below w.heap.size w w' :=
 Go.Proofs.YtfapjegkilljnaaGreat.Ek.iK L.bX.ok 0 ((a0, ()), (a1, ()), ()) r rfl (bX.le (Nat.le_refl _) _ h) w
theorem aA.pM {k n : Nat} (hk : k ≤ n) {x0 x1 : Int} {x2 : Bool} {x15 x18 x19 : Int} {x822000 x822001 : Bool} {x822002 x822003 : Bool} {x822004 ex11 : Bool} {ex12 ex13 : Bool} {ex14 ex15 : Bool} : LeO (aA.j6 k x0 x1 x2 x15 x18 x19 x822000 x822001 x822002 x822003 x822004) (L.aA.j18 n x19 x18 x15 x2 x1 x0 x822000 x822001 x822002 x822003 x822004 ex11 ex12 ex13 ex14 ex15) := by
 cases k with
 |zero => rw [aA.j6]; exact LeO.none _
 |succ k =>
 replace hk := Nat.le_of_succ_le hk
 rw [aA.j6, L.aA.j18_eq]
 repeat' first
  |(with_reducible exact LeO.refl _)
  |exact LeO.none _
  |(with_reducible first|exact fun r h => at_rounds (aS.mono _) hk h|exact fun r h => at_rounds (bI.mono _ _) hk h|exact fun r h => at_rounds (aN.mono _ _ _) hk h|refine LeO.bind ?_ (fun _ => ?_)|refine LeO.gH Iff.rfl (fun _ => ?_) (fun _ => ?_))
  |exact fun r h => at_rounds (aS.mono _) hk h
  |exact fun r h => at_rounds (bI.mono _ _) hk h
  |exact fun r h => at_rounds (aN.mono _ _ _) hk h
  |exact LeO.refl _
  |(with_reducible first|refine LeO.pos (by assumption) ?_|refine LeO.neg (by assumption) ?_|refine LeO.l6 (by assumption) ?_|refine LeO.lZ (by assumption) ?_|refine LeO.gH (by omega) (fun _ => ?_) (fun _ => ?_))
theorem aA.qY {k n : Nat} (hk : k ≤ n) {x0 x1 : Int} {x2 : Bool} {x15 x18 x19 : Int} {x815000 x815001 : Bool} {x815002 x815003 : Bool} {x815004 ex11 : Bool} {ex12 ex13 : Bool} {ex14 ex15 : Bool} : LeO (aA.j5 k x0 x1 x2 x15 x18 x19 x815000 x815001 x815002 x815003 x815004) (L.aA.j18 n x19 x18 x15 x2 x1 x0 x815000 x815001 x815002 x815003 x815004 ex11 ex12 ex13 ex14 ex15) := by
 cases k with
 |zero => rw [aA.j5]; exact LeO.none _
 |succ k =>
 replace hk := Nat.le_of_succ_le hk
 rw [aA.j5, L.aA.j18_eq]
 repeat' first
  |(with_reducible exact LeO.refl _)
  |exact LeO.none _
  |(with_reducible first|exact aA.pM hk|exact fun r h => at_rounds (aS.mono _) hk h|exact fun r h => at_rounds (bI.mono _ _) hk h|exact fun r h => at_rounds (aN.mono _ _ _) hk h|refine LeO.bind ?_ (fun _ => ?_)|refine LeO.gH Iff.rfl (fun _ => ?_) (fun _ => ?_))
  |exact aA.pM hk
  |exact fun r h => at_rounds (aS.mono _) hk h
  |exact fun r h => at_rounds (bI.mono _ _) hk h
  |exact fun r h => at_rounds (aN.mono _ _ _) hk h
  |exact LeO.refl _
  |(with_reducible first|refine LeO.pos (by assumption) ?_|refine LeO.neg (by assumption) ?_|refine LeO.l6 (by assumption) ?_|refine LeO.lZ (by assumption) ?_|refine LeO.gH (by omega) (fun _ => ?_) (fun _ => ?_))
theorem aA.tZ {k n : Nat} (hk : k ≤ n) {x0 x1 : Int} {x2 : Bool} {x15 x16 : Int} {x17 x18 x19 : Int} {x22 ex9 : Bool} {ex10 ex11 : Bool} {ex12 ex13 : Bool} : LeO (aA.j4 k x0 x1 x2 x15 x16 x17 x18 x19 x22) (L.aA.j15 n x22 x19 x18 x17 x16 x15 x2 x1 x0 ex9 ex10 ex11 ex12 ex13) := by
 cases k with
 |zero => rw [aA.j4]; exact LeO.none _
 |succ k =>
 replace hk := Nat.le_of_succ_le hk
 rw [aA.j4, L.aA.aBT]
 repeat' first
  |(with_reducible exact LeO.refl _)
  |exact LeO.none _
  |(with_reducible first|exact aA.pM hk|exact aA.qY hk|exact fun r h => at_rounds (aS.mono _) hk h|exact fun r h => at_rounds (bI.mono _ _) hk h|exact fun r h => at_rounds (aN.mono _ _ _) hk h|refine LeO.bind ?_ (fun _ => ?_)|refine LeO.gH Iff.rfl (fun _ => ?_) (fun _ => ?_))
  |exact aA.pM hk
  |exact aA.qY hk
  |exact fun r h => at_rounds (aS.mono _) hk h
  |exact fun r h => at_rounds (bI.mono _ _) hk h
  |exact fun r h => at_rounds (aN.mono _ _ _) hk h
  |exact LeO.refl _
  |(with_reducible first|refine LeO.pos (by assumption) ?_|refine LeO.neg (by assumption) ?_|refine LeO.l6 (by assumption) ?_|refine LeO.lZ (by assumption) ?_|refine LeO.gH (by omega) (fun _ => ?_) (fun _ => ?_))
theorem aA.nM {k n : Nat} (hk : k ≤ n) {x0 x1 : Int} {x2 : Bool} {x15 x16 : Int} {x17 x18 x19 : Int} {x20 x21 : Bool} {x22 ex11 : Bool} {ex12 ex13 : Bool} {ex14 ex15 : Bool} : LeO (aA.j3 k x0 x1 x2 x15 x16 x17 x18 x19 x20 x21 x22) (L.aA.j13 n x22 x21 x20 x19 x18 x17 x16 x15 x2 x1 x0 ex11 ex12 ex13 ex14 ex15) := by
 cases k with
 |zero => rw [aA.j3]; exact LeO.none _
 |succ k =>
 replace hk := Nat.le_of_succ_le hk
 rw [aA.j3, L.aA.j13_eq]
 repeat' first
  |(with_reducible exact LeO.refl _)
  |exact LeO.none _
  |(with_reducible first|exact aA.pM hk|exact aA.qY hk|exact aA.tZ hk|exact fun r h => at_rounds (aS.mono _) hk h|exact fun r h => at_rounds (bI.mono _ _) hk h|exact fun r h => at_rounds (aN.mono _ _ _) hk h|refine LeO.bind ?_ (fun _ => ?_)|refine LeO.gH Iff.rfl (fun _ => ?_) (fun _ => ?_))
  |exact aA.pM hk
  |exact aA.qY hk
  |exact aA.tZ hk
  |exact fun r h => at_rounds (aS.mono _) hk h
  |exact fun r h => at_rounds (bI.mono _ _) hk h
  |exact fun r h => at_rounds (aN.mono _ _ _) hk h
  |exact LeO.refl _
  |(with_reducible first|refine LeO.pos (by assumption) ?_|refine LeO.neg (by assumption) ?_|refine LeO.l6 (by assumption) ?_|refine LeO.lZ (by assumption) ?_|refine LeO.gH (by omega) (fun _ => ?_) (fun _ => ?_))
theorem aA.jR {k n : Nat} (hk : k ≤ n) {x0 x1 : Int} {x2 : Bool} {x15 x16 : Int} {x17 x18 x19 : Int} {x20 x21 : Bool} {ex10 ex11 : Bool} {ex12 ex13 ex14 : Bool} : LeO (aA.j2 k x0 x1 x2 x15 x16 x17 x18 x19 x20 x21) (L.aA.j12 n x21 x20 x19 x18 x17 x16 x15 x2 x1 x0 ex10 ex11 ex12 ex13 ex14) := by
 cases k with
 |zero => rw [aA.j2]; exact LeO.none _
 |succ k =>
 replace hk := Nat.le_of_succ_le hk
 rw [aA.j2, L.aA.aCi]
 repeat' first
  |(with_reducible exact LeO.refl _)
  |exact LeO.none _
  |(with_reducible first|exact aA.pM hk|exact aA.qY hk|exact aA.tZ hk|exact aA.nM hk|exact fun r h => at_rounds (aS.mono _) hk h|exact fun r h => at_rounds (bI.mono _ _) hk h|exact fun r h => at_rounds (aN.mono _ _ _) hk h|refine LeO.bind ?_ (fun _ => ?_)|refine LeO.gH Iff.rfl (fun _ => ?_) (fun _ => ?_))
  |exact aA.pM hk
  |exact aA.qY hk
  |exact aA.tZ hk
  |exact aA.nM hk
  |exact fun r h => at_rounds (aS.mono _) hk h
  |exact fun r h => at_rounds (bI.mono _ _) hk h
  |exact fun r h => at_rounds (aN.mono _ _ _) hk h
  |exact LeO.refl _
  |(with_reducible first|refine LeO.pos (by assumption) ?_|refine LeO.neg (by assumption) ?_|refine LeO.l6 (by assumption) ?_|refine LeO.lZ (by assumption) ?_|refine LeO.gH (by omega) (fun _ => ?_) (fun _ => ?_))
theorem aA.gZ {k n : Nat} (hk : k ≤ n) {x0 x1 : Int} {x2 : Bool} {x3 x4 : Int} {x5 : Bool} {x15 x16 x17 : Int} {ex9 ex10 : Bool} {ex11 ex12 ex13 : Bool} : LeO (aA.j1 k x0 x1 x2 x3 x4 x5 x15 x16 x17) (L.aA.j9 n x17 x16 x15 x5 x4 x3 x2 x1 x0 ex9 ex10 ex11 ex12 ex13) := by
 cases k with
 |zero => rw [aA.j1]; exact LeO.none _
 |succ k =>
 replace hk := Nat.le_of_succ_le hk
 rw [aA.j1, L.aA.j9_eq]
 repeat' first
  |(with_reducible exact LeO.refl _)
  |exact LeO.none _
  |(with_reducible first|exact aA.pM hk|exact aA.qY hk|exact aA.tZ hk|exact aA.nM hk|exact aA.jR hk|exact fun r h => at_rounds (aS.mono _) hk h|exact fun r h => at_rounds (bI.mono _ _) hk h|exact fun r h => at_rounds (aN.mono _ _ _) hk h|refine LeO.bind ?_ (fun _ => ?_)|refine LeO.gH Iff.rfl (fun _ => ?_) (fun _ => ?_))
  |exact aA.pM hk
  |exact aA.qY hk
  |exact aA.tZ hk
  |exact aA.nM hk
  |exact aA.jR hk
  |exact fun r h => at_rounds (aS.mono _) hk h
  |exact fun r h => at_rounds (bI.mono _ _) hk h
  |exact fun r h => at_rounds (aN.mono _ _ _) hk h
  |exact LeO.refl _
  |(with_reducible first|refine LeO.pos (by assumption) ?_|refine LeO.neg (by assumption) ?_|refine LeO.l6 (by assumption) ?_|refine LeO.lZ (by assumption) ?_|refine LeO.gH (by omega) (fun _ => ?_) (fun _ => ?_))
theorem aA.kH {k n : Nat} (hk : k ≤ n) {x0 x1 : Int} {x2 : Bool} {x3 x4 : Int} {x5 x35 : Bool} {ex7 ex8 : Bool} {ex9 ex10 ex11 : Bool} : LeO (aA.j0 k x0 x1 x2 x3 x4 x5 x35) (L.aA.j3 n x35 x5 x4 x3 x2 x1 x0 ex7 ex8 ex9 ex10 ex11) := by
 cases k with
 |zero => rw [aA.j0]; exact LeO.none _
 |succ k =>
 replace hk := Nat.le_of_succ_le hk
 rw [aA.j0, L.aA.j3_eq]
 repeat' first
  |(with_reducible exact LeO.refl _)
  |exact LeO.none _
  |(with_reducible first|exact aA.pM hk|exact aA.qY hk|exact aA.tZ hk|exact aA.nM hk|exact aA.jR hk|exact aA.gZ hk|exact fun r h => at_rounds (aS.mono _) hk h|exact fun r h => at_rounds (bI.mono _ _) hk h|exact fun r h => at_rounds (aN.mono _ _ _) hk h|refine LeO.bind ?_ (fun _ => ?_)|refine LeO.gH Iff.rfl (fun _ => ?_) (fun _ => ?_))
  |exact aA.pM hk
  |exact aA.qY hk
  |exact aA.tZ hk
  |exact aA.nM hk
  |exact aA.jR hk
  |exact aA.gZ hk
  |exact fun r h => at_rounds (aS.mono _) hk h
  |exact fun r h => at_rounds (bI.mono _ _) hk h
  |exact fun r h => at_rounds (aN.mono _ _ _) hk h
  |exact LeO.refl _
  |(with_reducible first|refine LeO.pos (by assumption) ?_|refine LeO.neg (by assumption) ?_|refine LeO.l6 (by assumption) ?_|refine LeO.lZ (by assumption) ?_|refine LeO.gH (by omega) (fun _ => ?_) (fun _ => ?_))
set_option maxHeartbeats 4000000 in
theorem aA.le {k n : Nat} (hk : k ≤ n) {a0 a1 : Int} {a2 : Bool} {a3 a4 : Int} {a5 : Bool} : LeO (aA.f k a0 a1 a2 a3 a4 a5) (L.aA.f n a0 a1 a2 a3 a4 a5) := by
 unfold aA.f
 rw [L.aA.eq]
 try simp only [Bool.and_true]
 repeat' first
  |(with_reducible exact LeO.refl _)
  |exact LeO.none _
  |(with_reducible first|exact aA.pM hk|exact aA.qY hk|exact aA.tZ hk|exact aA.nM hk|exact aA.jR hk|exact aA.gZ hk|exact aA.kH hk|exact fun r h => at_rounds (aS.mono _) hk h|exact fun r h => at_rounds (bI.mono _ _) hk h|exact fun r h => at_rounds (aN.mono _ _ _) hk h|refine LeO.bind ?_ (fun _ => ?_)|refine LeO.gH Iff.rfl (fun _ => ?_) (fun _ => ?_))
  |exact aA.pM hk
  |exact aA.qY hk
  |exact aA.tZ hk
  |exact aA.nM hk
  |exact aA.jR hk
  |exact aA.gZ hk
  |exact aA.kH hk
  |exact fun r h => at_rounds (aS.mono _) hk h
  |exact fun r h => at_rounds (bI.mono _ _) hk h
  |exact fun r h => at_rounds (aN.mono _ _ _) hk h
  |exact LeO.refl _
  |(with_reducible first|refine LeO.pos (by assumption) ?_|refine LeO.neg (by assumption) ?_|refine LeO.l6 (by assumption) ?_|refine LeO.lZ (by assumption) ?_|refine LeO.gH (by omega) (fun _ => ?_) (fun _ => ?_))
theorem aA.calls (k : Nat) (a0 a1 : Int) (a2 : Bool) (a3 a4 : Int) (a5 : Bool) (r1 : Int) (r2 r3 : Bool) (r4 r5 r6 : Bool) (w : World) (h : aA.f k a0 a1 a2 a3 a4 a5 = some (r1, r2, r3, r4, r5, r6)) :
  Calls Tryz.prog 77 #[.int .i64 a0, .int .i64 a1, .bool a2, .int .i64 a3, .int .u64 a4, .bool a5] w fun e w' => e = .returned (.tuple #[.int .u32 r1, .agg #[.bool r2, .bool r3, .bool r4, .bool r5, .bool r6]]) ∧ Below w.heap.size w w' :=
 Go.Proofs.YtfapjegkilljnaaGreat.Ek.iK L.aA.ok k ((a0, ()), (a1, ()), (a2, ()), (a3, ()), (a4, ()), (a5, ()), ()) (r1, r2, r3, r4, r5, r6) rfl (aA.le (Nat.le_refl _) _ h) w
end Go.Proofs.YtfapjegkilljnaaGreat.P
