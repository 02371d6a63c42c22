import Derived.Test.YtngkpekmgahjiaaQwsM1
import Derived.Test.YtngkpekmgahjiaaQwsM3
-- Printed by a program of this session's out of Lean's print of the translation; Lean checks it.
namespace Go.Proofs.Ytngkpekmgahjiaa.P
open Go.RowKit Go.Proofs.YtngkpekmgahjiaaW.PrintWords Go.Proofs.YtngkpekmgahjiaaW.PrintLast Go.Proofs.YtngkpekmgahjiaaW.PrintMore
attribute [local go_sem] max2_int min2_int max_two min_two max_three min_three max_four min_four   -- for this text's walks alone
set_option linter.unusedVariables false
set_option linter.unusedSimpArgs false

/-! ### annealseat_Mild: function 27 -/
def annealseat_Mild.f (a0 : Int) (a1 : Int) : Option (Int) := if (Int.tmod a1 7) = 0 then (some 0) else ((annealref1_Widths.f a0).bind fun bt441 => (if 0 ≤ bt441.1 then (if 0 ≤ bt441.2 then (if (shl .u32 4 bt441.2) = 0 then (none) else (if (Go.bits .and .u32 a1 1) = 1 then ((annealref1_Zero.f a0 true).bind fun t443 => (some (Go.bits .or .u32 (((((shl .u32 ((((shl .u32 1 bt441.1) - 1) % 4294967296) / 2) bt441.2) - (shl .u32 2 bt441.2)) % 4294967296) + (Int.tmod (a1 / 8) (shl .u32 4 bt441.2))) % 4294967296) t443))) else (some (((((shl .u32 ((((shl .u32 1 bt441.1) - 1) % 4294967296) / 2) bt441.2) - (shl .u32 2 bt441.2)) % 4294967296) + (Int.tmod (a1 / 8) (shl .u32 4 bt441.2))) % 4294967296)))) else (none)) else (none)))
set_option maxHeartbeats 8000000 in
set_option maxRecDepth 100000 in
theorem annealseat_Mild.calls (a0 : Int) (a1 : Int) (r : Int) (w : World) (h : annealseat_Mild.f a0 a1 = some r) :
    Calls Try.prog 27 #[.int .i64 a0, .int .u32 a1] w fun e w' => e = .returned (.int .u32 r) ∧ Drawn0 w w' := by
  have H : (if (Int.tmod a1 7) = 0 then (some 0) else ((annealref1_Widths.f a0).bind fun bt441 => (if 0 ≤ bt441.1 then (if 0 ≤ bt441.2 then (if (shl .u32 4 bt441.2) = 0 then (none) else (if (Go.bits .and .u32 a1 1) = 1 then ((annealref1_Zero.f a0 true).bind fun t443 => (some (Go.bits .or .u32 (((((shl .u32 ((((shl .u32 1 bt441.1) - 1) % 4294967296) / 2) bt441.2) - (shl .u32 2 bt441.2)) % 4294967296) + (Int.tmod (a1 / 8) (shl .u32 4 bt441.2))) % 4294967296) t443))) else (some (((((shl .u32 ((((shl .u32 1 bt441.1) - 1) % 4294967296) / 2) bt441.2) - (shl .u32 2 bt441.2)) % 4294967296) + (Int.tmod (a1 / 8) (shl .u32 4 bt441.2))) % 4294967296)))) else (none)) else (none)))) = some r := h
  clear h
  by_cases c3 : (Int.tmod a1 7) = 0
  · rw [if_pos c3] at H
    have c3b0 : ((Int.tmod a1 7) == 0) = true := beq_iff_eq.mpr c3
    have c3b1 : ((Int.tmod a1 7) != 0) = false := bne_eq_false_iff_eq.mpr c3
    clear c3
    obtain rfl := Option.some.inj H
    go_enter Try.func27, Try.ntmps27
    go_wp2
    repeat (go_quiet (fail); try go_wp2)
    go_ret
    exact ⟨by first | rfl | (simp; done) | (simp [*]; done) | (congr 1; (try unfold wrap64); omega) | (congr 1; rw [IntKind.wrap_u64]; omega), by repeat (first | exact Drawn0.refl _ | apply Drawn0.step)⟩
  · rw [if_neg c3] at H
    have c3b0 : ((Int.tmod a1 7) == 0) = false := beq_eq_false_iff_ne.mpr c3
    have c3b1 : ((Int.tmod a1 7) != 0) = true := bne_iff_ne.mpr c3
    replace H := Option.bind_eq_some_iff.mp H
    obtain ⟨⟨t441, t442⟩, A40, H⟩ := H
    replace H : (if 0 ≤ t441 then (if 0 ≤ t442 then (if (shl .u32 4 t442) = 0 then (none) else (if (Go.bits .and .u32 a1 1) = 1 then ((annealref1_Zero.f a0 true).bind fun t443 => (some (Go.bits .or .u32 (((((shl .u32 ((((shl .u32 1 t441) - 1) % 4294967296) / 2) t442) - (shl .u32 2 t442)) % 4294967296) + (Int.tmod (a1 / 8) (shl .u32 4 t442))) % 4294967296) t443))) else (some (((((shl .u32 ((((shl .u32 1 t441) - 1) % 4294967296) / 2) t442) - (shl .u32 2 t442)) % 4294967296) + (Int.tmod (a1 / 8) (shl .u32 4 t442))) % 4294967296)))) else (none)) else (none)) = some r := H
    have A4 := Aside0.mk A40
    clear A40
    by_cases c5 : 0 ≤ t441
    · rw [if_pos c5] at H
      have c5b0 := eq_true c5
      have c5b1 : decide (0 ≤ t441) = true := decide_eq_true c5
      clear c5
      obtain ⟨ji6, hji6⟩ : ∃ j_ : Int, (shl .u32 1 t441) = j_ := ⟨_, rfl⟩
      replace H : (if 0 ≤ t442 then (if (shl .u32 4 t442) = 0 then (none) else (if (Go.bits .and .u32 a1 1) = 1 then ((annealref1_Zero.f a0 true).bind fun t443 => (some (Go.bits .or .u32 (((((shl .u32 ((((ji6) - 1) % 4294967296) / 2) t442) - (shl .u32 2 t442)) % 4294967296) + (Int.tmod (a1 / 8) (shl .u32 4 t442))) % 4294967296) t443))) else (some (((((shl .u32 ((((ji6) - 1) % 4294967296) / 2) t442) - (shl .u32 2 t442)) % 4294967296) + (Int.tmod (a1 / 8) (shl .u32 4 t442))) % 4294967296)))) else (none)) = some r := by first | (rw [hji6] at H; exact H) | (simp only [hji6] at H ⊢; exact H)
      (try rw [hji6] at A4)
      have hji6_ : (IntKind.u32.wrap (1 * 2 ^ min t441.toNat 32)) = ji6 := hji6
      have hji6z : t441 ≤ 32 → (IntKind.u32.wrap (1 * 2 ^ t441.toNat)) = ji6 := shl_small hji6
      have hji6u : (IntKind.u32.wrap (2 ^ min t441.toNat 32)) = ji6 := by have h_ := hji6_; rw [Int.one_mul] at h_; exact h_
      have hji6v : t441 ≤ 32 → (IntKind.u32.wrap (2 ^ t441.toNat)) = ji6 := fun hle_ => by have h_ := hji6z hle_; rw [Int.one_mul] at h_; exact h_
      obtain ⟨ji7, hji7⟩ : ∃ j_ : Int, (((ji6) - 1) % 4294967296) = j_ := ⟨_, rfl⟩
      replace H : (if 0 ≤ t442 then (if (shl .u32 4 t442) = 0 then (none) else (if (Go.bits .and .u32 a1 1) = 1 then ((annealref1_Zero.f a0 true).bind fun t443 => (some (Go.bits .or .u32 (((((shl .u32 ((ji7) / 2) t442) - (shl .u32 2 t442)) % 4294967296) + (Int.tmod (a1 / 8) (shl .u32 4 t442))) % 4294967296) t443))) else (some (((((shl .u32 ((ji7) / 2) t442) - (shl .u32 2 t442)) % 4294967296) + (Int.tmod (a1 / 8) (shl .u32 4 t442))) % 4294967296)))) else (none)) = some r := by first | (rw [hji7] at H; exact H) | (simp only [hji7] at H ⊢; exact H)
      (try rw [hji7] at A4)
      have hji7l : 0 ≤ ji7 := by rw [← hji7]; exact Int.emod_nonneg _ (by decide)
      have hji7h : ji7 ≤ 4294967295 := by have := Int.emod_lt_of_pos (((ji6) - 1)) (show (0 : Int) < 4294967296 by decide); omega
      have hji7w : (IntKind.u32.wrap ((ji6) - 1)) = ji7 := (u32_w _).trans hji7
      (try (have hji7_ := hji7; simp only [Int.add_emod_emod, Int.emod_add_emod, Int.sub_emod_emod, Int.emod_sub_emod] at hji7_))
      by_cases c8 : 0 ≤ t442
      · rw [if_pos c8] at H
        have c8b0 := eq_true c8
        have c8b1 : decide (0 ≤ t442) = true := decide_eq_true c8
        clear c8
        obtain ⟨ji9, hji9⟩ : ∃ j_ : Int, (shl .u32 ((ji7) / 2) t442) = j_ := ⟨_, rfl⟩
        replace H : (if (shl .u32 4 t442) = 0 then (none) else (if (Go.bits .and .u32 a1 1) = 1 then ((annealref1_Zero.f a0 true).bind fun t443 => (some (Go.bits .or .u32 (((((ji9) - (shl .u32 2 t442)) % 4294967296) + (Int.tmod (a1 / 8) (shl .u32 4 t442))) % 4294967296) t443))) else (some (((((ji9) - (shl .u32 2 t442)) % 4294967296) + (Int.tmod (a1 / 8) (shl .u32 4 t442))) % 4294967296)))) = some r := by first | (rw [hji9] at H; exact H) | (simp only [hji9] at H ⊢; exact H)
        (try rw [hji9] at A4)
        have hji9_ : (IntKind.u32.wrap (((ji7) / 2) * 2 ^ min t442.toNat 32)) = ji9 := hji9
        have hji9z : t442 ≤ 32 → (IntKind.u32.wrap (((ji7) / 2) * 2 ^ t442.toNat)) = ji9 := shl_small hji9
        have c10b0 := eq_true (of_decide_eq_true (by first | (with_reducible assumption) | assumption) : 0 ≤ t442)
        obtain ⟨ji11, hji11⟩ : ∃ j_ : Int, (shl .u32 2 t442) = j_ := ⟨_, rfl⟩
        replace H : (if (shl .u32 4 t442) = 0 then (none) else (if (Go.bits .and .u32 a1 1) = 1 then ((annealref1_Zero.f a0 true).bind fun t443 => (some (Go.bits .or .u32 (((((ji9) - (ji11)) % 4294967296) + (Int.tmod (a1 / 8) (shl .u32 4 t442))) % 4294967296) t443))) else (some (((((ji9) - (ji11)) % 4294967296) + (Int.tmod (a1 / 8) (shl .u32 4 t442))) % 4294967296)))) = some r := by first | (rw [hji11] at H; exact H) | (simp only [hji11] at H ⊢; exact H)
        (try rw [hji11] at A4)
        have hji11_ : (IntKind.u32.wrap (2 * 2 ^ min t442.toNat 32)) = ji11 := hji11
        have hji11z : t442 ≤ 32 → (IntKind.u32.wrap (2 * 2 ^ t442.toNat)) = ji11 := shl_small hji11
        obtain ⟨ji12, hji12⟩ : ∃ j_ : Int, (((ji9) - (ji11)) % 4294967296) = j_ := ⟨_, rfl⟩
        replace H : (if (shl .u32 4 t442) = 0 then (none) else (if (Go.bits .and .u32 a1 1) = 1 then ((annealref1_Zero.f a0 true).bind fun t443 => (some (Go.bits .or .u32 (((ji12) + (Int.tmod (a1 / 8) (shl .u32 4 t442))) % 4294967296) t443))) else (some (((ji12) + (Int.tmod (a1 / 8) (shl .u32 4 t442))) % 4294967296)))) = some r := by first | (rw [hji12] at H; exact H) | (simp only [hji12] at H ⊢; exact H)
        (try rw [hji12] at A4)
        have hji12l : 0 ≤ ji12 := by rw [← hji12]; exact Int.emod_nonneg _ (by decide)
        have hji12h : ji12 ≤ 4294967295 := by have := Int.emod_lt_of_pos (((ji9) - (ji11))) (show (0 : Int) < 4294967296 by decide); omega
        have hji12w : (IntKind.u32.wrap ((ji9) - (ji11))) = ji12 := (u32_w _).trans hji12
        (try (have hji12_ := hji12; simp only [Int.add_emod_emod, Int.emod_add_emod, Int.sub_emod_emod, Int.emod_sub_emod] at hji12_))
        have c13b0 := eq_true (of_decide_eq_true (by first | (with_reducible assumption) | assumption) : 0 ≤ t442)
        obtain ⟨ji14, hji14⟩ : ∃ j_ : Int, (shl .u32 4 t442) = j_ := ⟨_, rfl⟩
        replace H : (if (ji14) = 0 then (none) else (if (Go.bits .and .u32 a1 1) = 1 then ((annealref1_Zero.f a0 true).bind fun t443 => (some (Go.bits .or .u32 (((ji12) + (Int.tmod (a1 / 8) (ji14))) % 4294967296) t443))) else (some (((ji12) + (Int.tmod (a1 / 8) (ji14))) % 4294967296)))) = some r := by first | (rw [hji14] at H; exact H) | (simp only [hji14] at H ⊢; exact H)
        (try rw [hji14] at A4)
        have hji14_ : (IntKind.u32.wrap (4 * 2 ^ min t442.toNat 32)) = ji14 := hji14
        have hji14z : t442 ≤ 32 → (IntKind.u32.wrap (4 * 2 ^ t442.toNat)) = ji14 := shl_small hji14
        by_cases c15 : (ji14) = 0
        · rw [if_pos c15] at H
          exact absurd H (by simp)
        · rw [if_neg c15] at H
          have c15b0 : ((ji14) == 0) = false := beq_eq_false_iff_ne.mpr c15
          have c15b1 : ((ji14) != 0) = true := bne_iff_ne.mpr c15
          obtain ⟨ji16, hji16⟩ : ∃ j_ : Int, (((ji12) + (Int.tmod (a1 / 8) (ji14))) % 4294967296) = j_ := ⟨_, rfl⟩
          replace H : (if (Go.bits .and .u32 a1 1) = 1 then ((annealref1_Zero.f a0 true).bind fun t443 => (some (Go.bits .or .u32 (ji16) t443))) else (some ji16)) = some r := by first | (rw [hji16] at H; exact H) | (simp only [hji16] at H ⊢; exact H)
          (try rw [hji16] at A4)
          have hji16l : 0 ≤ ji16 := by rw [← hji16]; exact Int.emod_nonneg _ (by decide)
          have hji16h : ji16 ≤ 4294967295 := by have := Int.emod_lt_of_pos (((ji12) + (Int.tmod (a1 / 8) (ji14)))) (show (0 : Int) < 4294967296 by decide); omega
          have hji16w : (IntKind.u32.wrap ((ji12) + (Int.tmod (a1 / 8) (ji14)))) = ji16 := (u32_w _).trans hji16
          (try (have hji16_ := hji16; simp only [Int.add_emod_emod, Int.emod_add_emod, Int.sub_emod_emod, Int.emod_sub_emod] at hji16_))
          by_cases c17 : (Go.bits .and .u32 a1 1) = 1
          · rw [if_pos c17] at H
            have c17b0 : ((Go.bits .and .u32 a1 1) == 1) = true := beq_iff_eq.mpr c17
            have c17b1 : ((Go.bits .and .u32 a1 1) != 1) = false := bne_eq_false_iff_eq.mpr c17
            clear c17
            replace H := Option.bind_eq_some_iff.mp H
            obtain ⟨t443, A180, H⟩ := H
            replace H : (some (Go.bits .or .u32 (ji16) t443)) = some r := H
            have A18 := Aside0.mk A180
            clear A180
            obtain rfl := Option.some.inj H
            go_enter Try.func27, Try.ntmps27
            go_wp2_with (first | (go_at_call 49; (with_reducible refine (annealref1_Widths.calls a0 t441 t442 _ A4.out).mono ?_); rintro e w' ⟨rfl, ⟨nd, rfl⟩⟩; (try first | exact ⟨rfl, _, World.drewN_drewN _ _ _⟩ | exact ⟨rfl, _, Eq.trans (World.drewN_drewN _ _ _) (congrArg (World.drewN _) (Nat.add_assoc _ _ _))⟩)) | (go_at_call 29; (with_reducible refine (annealref1_Zero.calls a0 true t443 _ A18.out).mono ?_); rintro e w' ⟨rfl, ⟨nd, rfl⟩⟩; (try first | exact ⟨rfl, _, World.drewN_drewN _ _ _⟩ | exact ⟨rfl, _, Eq.trans (World.drewN_drewN _ _ _) (congrArg (World.drewN _) (Nat.add_assoc _ _ _))⟩)))
            repeat (go_quiet (first | (go_at_call 49; (with_reducible refine (annealref1_Widths.calls a0 t441 t442 _ A4.out).mono ?_); rintro e w' ⟨rfl, ⟨nd, rfl⟩⟩; (try first | exact ⟨rfl, _, World.drewN_drewN _ _ _⟩ | exact ⟨rfl, _, Eq.trans (World.drewN_drewN _ _ _) (congrArg (World.drewN _) (Nat.add_assoc _ _ _))⟩)) | (go_at_call 29; (with_reducible refine (annealref1_Zero.calls a0 true t443 _ A18.out).mono ?_); rintro e w' ⟨rfl, ⟨nd, rfl⟩⟩; (try first | exact ⟨rfl, _, World.drewN_drewN _ _ _⟩ | exact ⟨rfl, _, Eq.trans (World.drewN_drewN _ _ _) (congrArg (World.drewN _) (Nat.add_assoc _ _ _))⟩))); try go_wp2_with (first | (go_at_call 49; (with_reducible refine (annealref1_Widths.calls a0 t441 t442 _ A4.out).mono ?_); rintro e w' ⟨rfl, ⟨nd, rfl⟩⟩; (try first | exact ⟨rfl, _, World.drewN_drewN _ _ _⟩ | exact ⟨rfl, _, Eq.trans (World.drewN_drewN _ _ _) (congrArg (World.drewN _) (Nat.add_assoc _ _ _))⟩)) | (go_at_call 29; (with_reducible refine (annealref1_Zero.calls a0 true t443 _ A18.out).mono ?_); rintro e w' ⟨rfl, ⟨nd, rfl⟩⟩; (try first | exact ⟨rfl, _, World.drewN_drewN _ _ _⟩ | exact ⟨rfl, _, Eq.trans (World.drewN_drewN _ _ _) (congrArg (World.drewN _) (Nat.add_assoc _ _ _))⟩))))
            go_ret
            exact ⟨by first | rfl | (simp; done) | (simp only [← hji6, ← hji7, ← hji9, ← hji11, ← hji12, ← hji14, ← hji16] <;> (first | rfl | (simp; done))) | (simp [*]; done) | (congr 1; (try unfold wrap64); omega) | (congr 1; rw [IntKind.wrap_u64]; omega), by repeat (first | exact Drawn0.refl _ | apply Drawn0.step)⟩
          · rw [if_neg c17] at H
            have c17b0 : ((Go.bits .and .u32 a1 1) == 1) = false := beq_eq_false_iff_ne.mpr c17
            have c17b1 : ((Go.bits .and .u32 a1 1) != 1) = true := bne_iff_ne.mpr c17
            obtain rfl := Option.some.inj H
            go_enter Try.func27, Try.ntmps27
            go_wp2_with (first | (go_at_call 49; (with_reducible refine (annealref1_Widths.calls a0 t441 t442 _ A4.out).mono ?_); rintro e w' ⟨rfl, ⟨nd, rfl⟩⟩; (try first | exact ⟨rfl, _, World.drewN_drewN _ _ _⟩ | exact ⟨rfl, _, Eq.trans (World.drewN_drewN _ _ _) (congrArg (World.drewN _) (Nat.add_assoc _ _ _))⟩)))
            repeat (go_quiet (first | (go_at_call 49; (with_reducible refine (annealref1_Widths.calls a0 t441 t442 _ A4.out).mono ?_); rintro e w' ⟨rfl, ⟨nd, rfl⟩⟩; (try first | exact ⟨rfl, _, World.drewN_drewN _ _ _⟩ | exact ⟨rfl, _, Eq.trans (World.drewN_drewN _ _ _) (congrArg (World.drewN _) (Nat.add_assoc _ _ _))⟩))); try go_wp2_with (first | (go_at_call 49; (with_reducible refine (annealref1_Widths.calls a0 t441 t442 _ A4.out).mono ?_); rintro e w' ⟨rfl, ⟨nd, rfl⟩⟩; (try first | exact ⟨rfl, _, World.drewN_drewN _ _ _⟩ | exact ⟨rfl, _, Eq.trans (World.drewN_drewN _ _ _) (congrArg (World.drewN _) (Nat.add_assoc _ _ _))⟩))))
            go_ret
            exact ⟨by first | rfl | (simp; done) | (simp only [← hji6, ← hji7, ← hji9, ← hji11, ← hji12, ← hji14, ← hji16] <;> (first | rfl | (simp; done))) | (simp [*]; done) | (congr 1; (try unfold wrap64); omega) | (congr 1; rw [IntKind.wrap_u64]; omega), by repeat (first | exact Drawn0.refl _ | apply Drawn0.step)⟩
      · rw [if_neg c8] at H
        exact absurd H (by simp)
    · rw [if_neg c5] at H
      exact absurd H (by simp)

end Go.Proofs.Ytngkpekmgahjiaa.P
