import Derived.Test.YtoljndjpnbdjmaaQcbZ
import Derived.Test.YtoljndjpnbdjmaaQcbM1
import Derived.Test.YtoljndjpnbdjmaaQcbPx7
import Derived.Test.YtoljndjpnbdjmaaQcbM3
import Derived.Test.YtoljndjpnbdjmaaQcbPx12
-- Printed by a program of this session's out of Lean's print of the translation; Lean checks it.
namespace Go.Proofs.Ytoljndjpnbdjmaa.P
open Go.RowKit Go.Proofs.YtoljndjpnbdjmaaW.PrintWords Go.Proofs.YtoljndjpnbdjmaaW.PrintLast Go.Proofs.YtoljndjpnbdjmaaW.PrintMore
attribute [local go_sem] max2_int min2_int max_two min_two max_three min_three max_four min_four   -- for this text's walks alone
set_option linter.unusedVariables false
set_option linter.unusedSimpArgs false

attribute [local go_sem high] eqA30
/-! ### annealref1_Unpack: function 21 -/
def annealref1_Unpack.f (k : Nat) (a0 : Int) (a1 : Int) : Option (Bool × Int × Int) := (annealref1_Widths.f a0).bind fun bt297 => ((annealref1_parts.f a0 a1).bind fun bt299 => ((annealref1_Class.f k a0 a1).bind fun t302 => (if t302 = 2 then ((annealref1_bias.f a0).bind fun t303 => (if 0 ≤ bt297.2 then (some (bt299.1, wrap64 ((wrap64 (bt299.2.1 - t303)) - bt297.2), Go.bits .or .u64 bt299.2.2 (shl .u64 1 bt297.2))) else (none))) else (if t302 = 0 then ((annealref1_bias.f a0).bind fun t304 => (some (bt299.1, wrap64 ((wrap64 (1 - t304)) - bt297.2), bt299.2.2))) else (if t302 = 1 then ((annealref1_bias.f a0).bind fun t305 => (some (bt299.1, wrap64 ((wrap64 (1 - t305)) - bt297.2), bt299.2.2))) else (some (bt299.1, 0, 0)))))))
theorem annealref1_Unpack.mono : ∀ a0 a1 k, LeO (annealref1_Unpack.f k a0 a1) (annealref1_Unpack.f (k + 1) a0 a1) := by
 intro a0 a1 k
 unfold annealref1_Unpack.f
 repeat' first
   |(with_reducible exact annealref1_Class.mono _ _ _)
   |(with_reducible exact LeO.refl _)
   |(with_reducible exact LeO.none _)
   |(with_reducible refine LeO.ite ?_ ?_)
   |(with_reducible refine LeO.bind ?_ (fun _ => ?_))
   |exact annealref1_Class.mono _ _ _
   |exact LeO.none _
   |refine LeO.ite ?_ ?_
   |refine LeO.bind ?_ (fun _ => ?_)
set_option maxHeartbeats 8000000 in
set_option maxRecDepth 100000 in
theorem annealref1_Unpack.calls (k : Nat) (a0 : Int) (a1 : Int) (r1 : Bool) (r2 : Int) (r3 : Int) (w : World) (h : annealref1_Unpack.f k a0 a1 = some (r1, r2, r3)) :
  Calls Try.prog 21 #[.int .i64 a0, .int .u32 a1] w fun e w' => e = .returned (.tuple #[.bool r1, .int .i64 r2, .int .u64 r3]) ∧ Drawn0 w w' := by
 have H : ((annealref1_Widths.f a0).bind fun bt297 => ((annealref1_parts.f a0 a1).bind fun bt299 => ((annealref1_Class.f k a0 a1).bind fun t302 => (if t302 = 2 then ((annealref1_bias.f a0).bind fun t303 => (if 0 ≤ bt297.2 then (some (bt299.1, wrap64 ((wrap64 (bt299.2.1 - t303)) - bt297.2), Go.bits .or .u64 bt299.2.2 (shl .u64 1 bt297.2))) else (none))) else (if t302 = 0 then ((annealref1_bias.f a0).bind fun t304 => (some (bt299.1, wrap64 ((wrap64 (1 - t304)) - bt297.2), bt299.2.2))) else (if t302 = 1 then ((annealref1_bias.f a0).bind fun t305 => (some (bt299.1, wrap64 ((wrap64 (1 - t305)) - bt297.2), bt299.2.2))) else (some (bt299.1, 0, 0)))))))) = some (r1, r2, r3) := h
 clear h
 replace H := Option.bind_eq_some_iff.mp H
 obtain ⟨⟨t297, t298⟩, A30, H⟩ := H
 replace H : ((annealref1_parts.f a0 a1).bind fun bt299 => ((annealref1_Class.f k a0 a1).bind fun t302 => (if t302 = 2 then ((annealref1_bias.f a0).bind fun t303 => (if 0 ≤ t298 then (some (bt299.1, wrap64 ((wrap64 (bt299.2.1 - t303)) - t298), Go.bits .or .u64 bt299.2.2 (shl .u64 1 t298))) else (none))) else (if t302 = 0 then ((annealref1_bias.f a0).bind fun t304 => (some (bt299.1, wrap64 ((wrap64 (1 - t304)) - t298), bt299.2.2))) else (if t302 = 1 then ((annealref1_bias.f a0).bind fun t305 => (some (bt299.1, wrap64 ((wrap64 (1 - t305)) - t298), bt299.2.2))) else (some (bt299.1, 0, 0))))))) = some (r1, r2, r3) := H
 have A3 := Aside0.mk A30
 clear A30
 replace H := Option.bind_eq_some_iff.mp H
 obtain ⟨⟨t299, t300, t301⟩, A40, H⟩ := H
 replace H : ((annealref1_Class.f k a0 a1).bind fun t302 => (if t302 = 2 then ((annealref1_bias.f a0).bind fun t303 => (if 0 ≤ t298 then (some (t299, wrap64 ((wrap64 (t300 - t303)) - t298), Go.bits .or .u64 t301 (shl .u64 1 t298))) else (none))) else (if t302 = 0 then ((annealref1_bias.f a0).bind fun t304 => (some (t299, wrap64 ((wrap64 (1 - t304)) - t298), t301))) else (if t302 = 1 then ((annealref1_bias.f a0).bind fun t305 => (some (t299, wrap64 ((wrap64 (1 - t305)) - t298), t301))) else (some (t299, 0, 0)))))) = some (r1, r2, r3) := H
 have A4 := Aside0.mk A40
 clear A40
 replace H := Option.bind_eq_some_iff.mp H
 obtain ⟨t302, A50, H⟩ := H
 replace H : (if t302 = 2 then ((annealref1_bias.f a0).bind fun t303 => (if 0 ≤ t298 then (some (t299, wrap64 ((wrap64 (t300 - t303)) - t298), Go.bits .or .u64 t301 (shl .u64 1 t298))) else (none))) else (if t302 = 0 then ((annealref1_bias.f a0).bind fun t304 => (some (t299, wrap64 ((wrap64 (1 - t304)) - t298), t301))) else (if t302 = 1 then ((annealref1_bias.f a0).bind fun t305 => (some (t299, wrap64 ((wrap64 (1 - t305)) - t298), t301))) else (some (t299, 0, 0))))) = some (r1, r2, r3) := H
 have A5 := Aside0.mk A50
 clear A50
 by_cases c6 : t302 = 2
 ·rw [if_pos c6] at H
  have c6b0 : (t302 == 2) = true := beq_iff_eq.mpr c6
  have c6b1 : (t302 != 2) = false := bne_eq_false_iff_eq.mpr c6
  clear c6
  replace H := Option.bind_eq_some_iff.mp H
  obtain ⟨t303, A70, H⟩ := H
  replace H : (if 0 ≤ t298 then (some (t299, wrap64 ((wrap64 (t300 - t303)) - t298), Go.bits .or .u64 t301 (shl .u64 1 t298))) else (none)) = some (r1, r2, r3) := H
  have A7 := Aside0.mk A70
  clear A70
  by_cases c8 : 0 ≤ t298
  ·rw [if_pos c8] at H
   have c8b0 := eq_true c8
   have c8b1 : decide (0 ≤ t298) = true := decide_eq_true c8
   clear c8
   obtain ⟨ji9, hji9⟩ : ∃ j_ : Int, (shl .u64 1 t298) = j_ := ⟨_, rfl⟩
   replace H : (some (t299, wrap64 ((wrap64 (t300 - t303)) - t298), Go.bits .or .u64 t301 (ji9))) = some (r1, r2, r3) := by first | (rw [hji9] at H; exact H) | (simp only [hji9] at H ⊢; exact H)
   (try rw [hji9] at A3)
   (try rw [hji9] at A4)
   (try rw [hji9] at A5)
   (try rw [hji9] at A7)
   have hji9_ : (IntKind.u64.wrap (1 * 2 ^ min t298.toNat 64)) = ji9 := hji9
   have hji9z : t298 ≤ 64 → (IntKind.u64.wrap (1 * 2 ^ t298.toNat)) = ji9 := shl_small hji9
   have hji9u : (IntKind.u64.wrap (2 ^ min t298.toNat 64)) = ji9 := by have h_ := hji9_; rw [Int.one_mul] at h_; exact h_
   have hji9v : t298 ≤ 64 → (IntKind.u64.wrap (2 ^ t298.toNat)) = ji9 := fun hle_ => by have h_ := hji9z hle_; rw [Int.one_mul] at h_; exact h_
   simp only [Option.some.injEq, Prod.mk.injEq] at H
   obtain ⟨rfl, rfl, rfl⟩ := H
   go_enter Try.func21, Try.ntmps21
   go_wp2_with (first | (go_at_call 52; (with_reducible refine (annealref1_Widths.calls a0 t297 t298 _ A3.out).mono ?_); rintro e w' ⟨rfl, ⟨nd, rfl⟩⟩; (try first | exact ⟨rfl, _, World.drewN_drewN _ _ _⟩ | exact ⟨rfl, _, Eq.trans (World.drewN_drewN _ _ _) (congrArg (World.drewN _) (Nat.add_assoc _ _ _))⟩)) | (go_at_call 59; (with_reducible refine (annealref1_parts.calls a0 a1 t299 t300 t301 _ A4.out).mono ?_); rintro e w' ⟨rfl, ⟨nd, rfl⟩⟩; (try first | exact ⟨rfl, _, World.drewN_drewN _ _ _⟩ | exact ⟨rfl, _, Eq.trans (World.drewN_drewN _ _ _) (congrArg (World.drewN _) (Nat.add_assoc _ _ _))⟩)) | (go_at_call 34; (with_reducible refine (annealref1_Class.calls k a0 a1 t302 _ A5.out).mono ?_); rintro e w' ⟨rfl, ⟨nd, rfl⟩⟩; (try first | exact ⟨rfl, _, World.drewN_drewN _ _ _⟩ | exact ⟨rfl, _, Eq.trans (World.drewN_drewN _ _ _) (congrArg (World.drewN _) (Nat.add_assoc _ _ _))⟩)) | (go_at_call 53; (with_reducible refine (annealref1_bias.calls a0 t303 _ A7.out).mono ?_); rintro e w' ⟨rfl, ⟨nd, rfl⟩⟩; (try first | exact ⟨rfl, _, World.drewN_drewN _ _ _⟩ | exact ⟨rfl, _, Eq.trans (World.drewN_drewN _ _ _) (congrArg (World.drewN _) (Nat.add_assoc _ _ _))⟩)))
   repeat (go_quiet (first | (go_at_call 52; (with_reducible refine (annealref1_Widths.calls a0 t297 t298 _ A3.out).mono ?_); rintro e w' ⟨rfl, ⟨nd, rfl⟩⟩; (try first | exact ⟨rfl, _, World.drewN_drewN _ _ _⟩ | exact ⟨rfl, _, Eq.trans (World.drewN_drewN _ _ _) (congrArg (World.drewN _) (Nat.add_assoc _ _ _))⟩)) | (go_at_call 59; (with_reducible refine (annealref1_parts.calls a0 a1 t299 t300 t301 _ A4.out).mono ?_); rintro e w' ⟨rfl, ⟨nd, rfl⟩⟩; (try first | exact ⟨rfl, _, World.drewN_drewN _ _ _⟩ | exact ⟨rfl, _, Eq.trans (World.drewN_drewN _ _ _) (congrArg (World.drewN _) (Nat.add_assoc _ _ _))⟩)) | (go_at_call 34; (with_reducible refine (annealref1_Class.calls k a0 a1 t302 _ A5.out).mono ?_); rintro e w' ⟨rfl, ⟨nd, rfl⟩⟩; (try first | exact ⟨rfl, _, World.drewN_drewN _ _ _⟩ | exact ⟨rfl, _, Eq.trans (World.drewN_drewN _ _ _) (congrArg (World.drewN _) (Nat.add_assoc _ _ _))⟩)) | (go_at_call 53; (with_reducible refine (annealref1_bias.calls a0 t303 _ A7.out).mono ?_); rintro e w' ⟨rfl, ⟨nd, rfl⟩⟩; (try first | exact ⟨rfl, _, World.drewN_drewN _ _ _⟩ | exact ⟨rfl, _, Eq.trans (World.drewN_drewN _ _ _) (congrArg (World.drewN _) (Nat.add_assoc _ _ _))⟩))); try go_wp2_with (first | (go_at_call 52; (with_reducible refine (annealref1_Widths.calls a0 t297 t298 _ A3.out).mono ?_); rintro e w' ⟨rfl, ⟨nd, rfl⟩⟩; (try first | exact ⟨rfl, _, World.drewN_drewN _ _ _⟩ | exact ⟨rfl, _, Eq.trans (World.drewN_drewN _ _ _) (congrArg (World.drewN _) (Nat.add_assoc _ _ _))⟩)) | (go_at_call 59; (with_reducible refine (annealref1_parts.calls a0 a1 t299 t300 t301 _ A4.out).mono ?_); rintro e w' ⟨rfl, ⟨nd, rfl⟩⟩; (try first | exact ⟨rfl, _, World.drewN_drewN _ _ _⟩ | exact ⟨rfl, _, Eq.trans (World.drewN_drewN _ _ _) (congrArg (World.drewN _) (Nat.add_assoc _ _ _))⟩)) | (go_at_call 34; (with_reducible refine (annealref1_Class.calls k a0 a1 t302 _ A5.out).mono ?_); rintro e w' ⟨rfl, ⟨nd, rfl⟩⟩; (try first | exact ⟨rfl, _, World.drewN_drewN _ _ _⟩ | exact ⟨rfl, _, Eq.trans (World.drewN_drewN _ _ _) (congrArg (World.drewN _) (Nat.add_assoc _ _ _))⟩)) | (go_at_call 53; (with_reducible refine (annealref1_bias.calls a0 t303 _ A7.out).mono ?_); rintro e w' ⟨rfl, ⟨nd, rfl⟩⟩; (try first | exact ⟨rfl, _, World.drewN_drewN _ _ _⟩ | exact ⟨rfl, _, Eq.trans (World.drewN_drewN _ _ _) (congrArg (World.drewN _) (Nat.add_assoc _ _ _))⟩))))
   go_ret3
   exact ⟨by first | rfl | (simp; done) | (simp only [← hji9] <;> (first | rfl | (simp; done))) | (simp [*]; done) | (congr 1; (try unfold wrap64); omega) | (congr 1; rw [IntKind.wrap_u64]; omega), by repeat (first | exact Drawn0.refl _ | apply Drawn0.step)⟩
  ·rw [if_neg c8] at H
   exact absurd H (by simp)
 ·rw [if_neg c6] at H
  have c6b0 : (t302 == 2) = false := beq_eq_false_iff_ne.mpr c6
  have c6b1 : (t302 != 2) = true := bne_iff_ne.mpr c6
  by_cases c10 : t302 = 0
  ·rw [if_pos c10] at H
   have c10b0 : (t302 == 0) = true := beq_iff_eq.mpr c10
   have c10b1 : (t302 != 0) = false := bne_eq_false_iff_eq.mpr c10
   clear c10
   replace H := Option.bind_eq_some_iff.mp H
   obtain ⟨t304, A110, H⟩ := H
   replace H : (some (t299, wrap64 ((wrap64 (1 - t304)) - t298), t301)) = some (r1, r2, r3) := H
   have A11 := Aside0.mk A110
   clear A110
   simp only [Option.some.injEq, Prod.mk.injEq] at H
   obtain ⟨rfl, rfl, rfl⟩ := H
   go_enter Try.func21, Try.ntmps21
   go_wp2_with (first | (go_at_call 52; (with_reducible refine (annealref1_Widths.calls a0 t297 t298 _ A3.out).mono ?_); rintro e w' ⟨rfl, ⟨nd, rfl⟩⟩; (try first | exact ⟨rfl, _, World.drewN_drewN _ _ _⟩ | exact ⟨rfl, _, Eq.trans (World.drewN_drewN _ _ _) (congrArg (World.drewN _) (Nat.add_assoc _ _ _))⟩)) | (go_at_call 59; (with_reducible refine (annealref1_parts.calls a0 a1 t299 t300 t301 _ A4.out).mono ?_); rintro e w' ⟨rfl, ⟨nd, rfl⟩⟩; (try first | exact ⟨rfl, _, World.drewN_drewN _ _ _⟩ | exact ⟨rfl, _, Eq.trans (World.drewN_drewN _ _ _) (congrArg (World.drewN _) (Nat.add_assoc _ _ _))⟩)) | (go_at_call 34; (with_reducible refine (annealref1_Class.calls k a0 a1 t302 _ A5.out).mono ?_); rintro e w' ⟨rfl, ⟨nd, rfl⟩⟩; (try first | exact ⟨rfl, _, World.drewN_drewN _ _ _⟩ | exact ⟨rfl, _, Eq.trans (World.drewN_drewN _ _ _) (congrArg (World.drewN _) (Nat.add_assoc _ _ _))⟩)) | (go_at_call 53; (with_reducible refine (annealref1_bias.calls a0 t304 _ A11.out).mono ?_); rintro e w' ⟨rfl, ⟨nd, rfl⟩⟩; (try first | exact ⟨rfl, _, World.drewN_drewN _ _ _⟩ | exact ⟨rfl, _, Eq.trans (World.drewN_drewN _ _ _) (congrArg (World.drewN _) (Nat.add_assoc _ _ _))⟩)))
   repeat (go_quiet (first | (go_at_call 52; (with_reducible refine (annealref1_Widths.calls a0 t297 t298 _ A3.out).mono ?_); rintro e w' ⟨rfl, ⟨nd, rfl⟩⟩; (try first | exact ⟨rfl, _, World.drewN_drewN _ _ _⟩ | exact ⟨rfl, _, Eq.trans (World.drewN_drewN _ _ _) (congrArg (World.drewN _) (Nat.add_assoc _ _ _))⟩)) | (go_at_call 59; (with_reducible refine (annealref1_parts.calls a0 a1 t299 t300 t301 _ A4.out).mono ?_); rintro e w' ⟨rfl, ⟨nd, rfl⟩⟩; (try first | exact ⟨rfl, _, World.drewN_drewN _ _ _⟩ | exact ⟨rfl, _, Eq.trans (World.drewN_drewN _ _ _) (congrArg (World.drewN _) (Nat.add_assoc _ _ _))⟩)) | (go_at_call 34; (with_reducible refine (annealref1_Class.calls k a0 a1 t302 _ A5.out).mono ?_); rintro e w' ⟨rfl, ⟨nd, rfl⟩⟩; (try first | exact ⟨rfl, _, World.drewN_drewN _ _ _⟩ | exact ⟨rfl, _, Eq.trans (World.drewN_drewN _ _ _) (congrArg (World.drewN _) (Nat.add_assoc _ _ _))⟩)) | (go_at_call 53; (with_reducible refine (annealref1_bias.calls a0 t304 _ A11.out).mono ?_); rintro e w' ⟨rfl, ⟨nd, rfl⟩⟩; (try first | exact ⟨rfl, _, World.drewN_drewN _ _ _⟩ | exact ⟨rfl, _, Eq.trans (World.drewN_drewN _ _ _) (congrArg (World.drewN _) (Nat.add_assoc _ _ _))⟩))); try go_wp2_with (first | (go_at_call 52; (with_reducible refine (annealref1_Widths.calls a0 t297 t298 _ A3.out).mono ?_); rintro e w' ⟨rfl, ⟨nd, rfl⟩⟩; (try first | exact ⟨rfl, _, World.drewN_drewN _ _ _⟩ | exact ⟨rfl, _, Eq.trans (World.drewN_drewN _ _ _) (congrArg (World.drewN _) (Nat.add_assoc _ _ _))⟩)) | (go_at_call 59; (with_reducible refine (annealref1_parts.calls a0 a1 t299 t300 t301 _ A4.out).mono ?_); rintro e w' ⟨rfl, ⟨nd, rfl⟩⟩; (try first | exact ⟨rfl, _, World.drewN_drewN _ _ _⟩ | exact ⟨rfl, _, Eq.trans (World.drewN_drewN _ _ _) (congrArg (World.drewN _) (Nat.add_assoc _ _ _))⟩)) | (go_at_call 34; (with_reducible refine (annealref1_Class.calls k a0 a1 t302 _ A5.out).mono ?_); rintro e w' ⟨rfl, ⟨nd, rfl⟩⟩; (try first | exact ⟨rfl, _, World.drewN_drewN _ _ _⟩ | exact ⟨rfl, _, Eq.trans (World.drewN_drewN _ _ _) (congrArg (World.drewN _) (Nat.add_assoc _ _ _))⟩)) | (go_at_call 53; (with_reducible refine (annealref1_bias.calls a0 t304 _ A11.out).mono ?_); rintro e w' ⟨rfl, ⟨nd, rfl⟩⟩; (try first | exact ⟨rfl, _, World.drewN_drewN _ _ _⟩ | exact ⟨rfl, _, Eq.trans (World.drewN_drewN _ _ _) (congrArg (World.drewN _) (Nat.add_assoc _ _ _))⟩))))
   go_ret3
   exact ⟨by first | rfl | (simp; done) | (simp [*]; done) | (congr 1; (try unfold wrap64); omega) | (congr 1; rw [IntKind.wrap_u64]; omega), by repeat (first | exact Drawn0.refl _ | apply Drawn0.step)⟩
  ·rw [if_neg c10] at H
   have c10b0 : (t302 == 0) = false := beq_eq_false_iff_ne.mpr c10
   have c10b1 : (t302 != 0) = true := bne_iff_ne.mpr c10
   by_cases c12 : t302 = 1
   ·rw [if_pos c12] at H
    have c12b0 : (t302 == 1) = true := beq_iff_eq.mpr c12
    have c12b1 : (t302 != 1) = false := bne_eq_false_iff_eq.mpr c12
    clear c12
    replace H := Option.bind_eq_some_iff.mp H
    obtain ⟨t305, A130, H⟩ := H
    replace H : (some (t299, wrap64 ((wrap64 (1 - t305)) - t298), t301)) = some (r1, r2, r3) := H
    have A13 := Aside0.mk A130
    clear A130
    simp only [Option.some.injEq, Prod.mk.injEq] at H
    obtain ⟨rfl, rfl, rfl⟩ := H
    go_enter Try.func21, Try.ntmps21
    go_wp2_with (first | (go_at_call 52; (with_reducible refine (annealref1_Widths.calls a0 t297 t298 _ A3.out).mono ?_); rintro e w' ⟨rfl, ⟨nd, rfl⟩⟩; (try first | exact ⟨rfl, _, World.drewN_drewN _ _ _⟩ | exact ⟨rfl, _, Eq.trans (World.drewN_drewN _ _ _) (congrArg (World.drewN _) (Nat.add_assoc _ _ _))⟩)) | (go_at_call 59; (with_reducible refine (annealref1_parts.calls a0 a1 t299 t300 t301 _ A4.out).mono ?_); rintro e w' ⟨rfl, ⟨nd, rfl⟩⟩; (try first | exact ⟨rfl, _, World.drewN_drewN _ _ _⟩ | exact ⟨rfl, _, Eq.trans (World.drewN_drewN _ _ _) (congrArg (World.drewN _) (Nat.add_assoc _ _ _))⟩)) | (go_at_call 34; (with_reducible refine (annealref1_Class.calls k a0 a1 t302 _ A5.out).mono ?_); rintro e w' ⟨rfl, ⟨nd, rfl⟩⟩; (try first | exact ⟨rfl, _, World.drewN_drewN _ _ _⟩ | exact ⟨rfl, _, Eq.trans (World.drewN_drewN _ _ _) (congrArg (World.drewN _) (Nat.add_assoc _ _ _))⟩)) | (go_at_call 53; (with_reducible refine (annealref1_bias.calls a0 t305 _ A13.out).mono ?_); rintro e w' ⟨rfl, ⟨nd, rfl⟩⟩; (try first | exact ⟨rfl, _, World.drewN_drewN _ _ _⟩ | exact ⟨rfl, _, Eq.trans (World.drewN_drewN _ _ _) (congrArg (World.drewN _) (Nat.add_assoc _ _ _))⟩)))
    repeat (go_quiet (first | (go_at_call 52; (with_reducible refine (annealref1_Widths.calls a0 t297 t298 _ A3.out).mono ?_); rintro e w' ⟨rfl, ⟨nd, rfl⟩⟩; (try first | exact ⟨rfl, _, World.drewN_drewN _ _ _⟩ | exact ⟨rfl, _, Eq.trans (World.drewN_drewN _ _ _) (congrArg (World.drewN _) (Nat.add_assoc _ _ _))⟩)) | (go_at_call 59; (with_reducible refine (annealref1_parts.calls a0 a1 t299 t300 t301 _ A4.out).mono ?_); rintro e w' ⟨rfl, ⟨nd, rfl⟩⟩; (try first | exact ⟨rfl, _, World.drewN_drewN _ _ _⟩ | exact ⟨rfl, _, Eq.trans (World.drewN_drewN _ _ _) (congrArg (World.drewN _) (Nat.add_assoc _ _ _))⟩)) | (go_at_call 34; (with_reducible refine (annealref1_Class.calls k a0 a1 t302 _ A5.out).mono ?_); rintro e w' ⟨rfl, ⟨nd, rfl⟩⟩; (try first | exact ⟨rfl, _, World.drewN_drewN _ _ _⟩ | exact ⟨rfl, _, Eq.trans (World.drewN_drewN _ _ _) (congrArg (World.drewN _) (Nat.add_assoc _ _ _))⟩)) | (go_at_call 53; (with_reducible refine (annealref1_bias.calls a0 t305 _ A13.out).mono ?_); rintro e w' ⟨rfl, ⟨nd, rfl⟩⟩; (try first | exact ⟨rfl, _, World.drewN_drewN _ _ _⟩ | exact ⟨rfl, _, Eq.trans (World.drewN_drewN _ _ _) (congrArg (World.drewN _) (Nat.add_assoc _ _ _))⟩))); try go_wp2_with (first | (go_at_call 52; (with_reducible refine (annealref1_Widths.calls a0 t297 t298 _ A3.out).mono ?_); rintro e w' ⟨rfl, ⟨nd, rfl⟩⟩; (try first | exact ⟨rfl, _, World.drewN_drewN _ _ _⟩ | exact ⟨rfl, _, Eq.trans (World.drewN_drewN _ _ _) (congrArg (World.drewN _) (Nat.add_assoc _ _ _))⟩)) | (go_at_call 59; (with_reducible refine (annealref1_parts.calls a0 a1 t299 t300 t301 _ A4.out).mono ?_); rintro e w' ⟨rfl, ⟨nd, rfl⟩⟩; (try first | exact ⟨rfl, _, World.drewN_drewN _ _ _⟩ | exact ⟨rfl, _, Eq.trans (World.drewN_drewN _ _ _) (congrArg (World.drewN _) (Nat.add_assoc _ _ _))⟩)) | (go_at_call 34; (with_reducible refine (annealref1_Class.calls k a0 a1 t302 _ A5.out).mono ?_); rintro e w' ⟨rfl, ⟨nd, rfl⟩⟩; (try first | exact ⟨rfl, _, World.drewN_drewN _ _ _⟩ | exact ⟨rfl, _, Eq.trans (World.drewN_drewN _ _ _) (congrArg (World.drewN _) (Nat.add_assoc _ _ _))⟩)) | (go_at_call 53; (with_reducible refine (annealref1_bias.calls a0 t305 _ A13.out).mono ?_); rintro e w' ⟨rfl, ⟨nd, rfl⟩⟩; (try first | exact ⟨rfl, _, World.drewN_drewN _ _ _⟩ | exact ⟨rfl, _, Eq.trans (World.drewN_drewN _ _ _) (congrArg (World.drewN _) (Nat.add_assoc _ _ _))⟩))))
    go_ret3
    exact ⟨by first | rfl | (simp; done) | (simp [*]; done) | (congr 1; (try unfold wrap64); omega) | (congr 1; rw [IntKind.wrap_u64]; omega), by repeat (first | exact Drawn0.refl _ | apply Drawn0.step)⟩
   ·rw [if_neg c12] at H
    have c12b0 : (t302 == 1) = false := beq_eq_false_iff_ne.mpr c12
    have c12b1 : (t302 != 1) = true := bne_iff_ne.mpr c12
    simp only [Option.some.injEq, Prod.mk.injEq] at H
    obtain ⟨rfl, rfl, rfl⟩ := H
    go_enter Try.func21, Try.ntmps21
    go_wp2_with (first | (go_at_call 52; (with_reducible refine (annealref1_Widths.calls a0 t297 t298 _ A3.out).mono ?_); rintro e w' ⟨rfl, ⟨nd, rfl⟩⟩; (try first | exact ⟨rfl, _, World.drewN_drewN _ _ _⟩ | exact ⟨rfl, _, Eq.trans (World.drewN_drewN _ _ _) (congrArg (World.drewN _) (Nat.add_assoc _ _ _))⟩)) | (go_at_call 59; (with_reducible refine (annealref1_parts.calls a0 a1 t299 t300 t301 _ A4.out).mono ?_); rintro e w' ⟨rfl, ⟨nd, rfl⟩⟩; (try first | exact ⟨rfl, _, World.drewN_drewN _ _ _⟩ | exact ⟨rfl, _, Eq.trans (World.drewN_drewN _ _ _) (congrArg (World.drewN _) (Nat.add_assoc _ _ _))⟩)) | (go_at_call 34; (with_reducible refine (annealref1_Class.calls k a0 a1 t302 _ A5.out).mono ?_); rintro e w' ⟨rfl, ⟨nd, rfl⟩⟩; (try first | exact ⟨rfl, _, World.drewN_drewN _ _ _⟩ | exact ⟨rfl, _, Eq.trans (World.drewN_drewN _ _ _) (congrArg (World.drewN _) (Nat.add_assoc _ _ _))⟩)))
    repeat (go_quiet (first | (go_at_call 52; (with_reducible refine (annealref1_Widths.calls a0 t297 t298 _ A3.out).mono ?_); rintro e w' ⟨rfl, ⟨nd, rfl⟩⟩; (try first | exact ⟨rfl, _, World.drewN_drewN _ _ _⟩ | exact ⟨rfl, _, Eq.trans (World.drewN_drewN _ _ _) (congrArg (World.drewN _) (Nat.add_assoc _ _ _))⟩)) | (go_at_call 59; (with_reducible refine (annealref1_parts.calls a0 a1 t299 t300 t301 _ A4.out).mono ?_); rintro e w' ⟨rfl, ⟨nd, rfl⟩⟩; (try first | exact ⟨rfl, _, World.drewN_drewN _ _ _⟩ | exact ⟨rfl, _, Eq.trans (World.drewN_drewN _ _ _) (congrArg (World.drewN _) (Nat.add_assoc _ _ _))⟩)) | (go_at_call 34; (with_reducible refine (annealref1_Class.calls k a0 a1 t302 _ A5.out).mono ?_); rintro e w' ⟨rfl, ⟨nd, rfl⟩⟩; (try first | exact ⟨rfl, _, World.drewN_drewN _ _ _⟩ | exact ⟨rfl, _, Eq.trans (World.drewN_drewN _ _ _) (congrArg (World.drewN _) (Nat.add_assoc _ _ _))⟩))); try go_wp2_with (first | (go_at_call 52; (with_reducible refine (annealref1_Widths.calls a0 t297 t298 _ A3.out).mono ?_); rintro e w' ⟨rfl, ⟨nd, rfl⟩⟩; (try first | exact ⟨rfl, _, World.drewN_drewN _ _ _⟩ | exact ⟨rfl, _, Eq.trans (World.drewN_drewN _ _ _) (congrArg (World.drewN _) (Nat.add_assoc _ _ _))⟩)) | (go_at_call 59; (with_reducible refine (annealref1_parts.calls a0 a1 t299 t300 t301 _ A4.out).mono ?_); rintro e w' ⟨rfl, ⟨nd, rfl⟩⟩; (try first | exact ⟨rfl, _, World.drewN_drewN _ _ _⟩ | exact ⟨rfl, _, Eq.trans (World.drewN_drewN _ _ _) (congrArg (World.drewN _) (Nat.add_assoc _ _ _))⟩)) | (go_at_call 34; (with_reducible refine (annealref1_Class.calls k a0 a1 t302 _ A5.out).mono ?_); rintro e w' ⟨rfl, ⟨nd, rfl⟩⟩; (try first | exact ⟨rfl, _, World.drewN_drewN _ _ _⟩ | exact ⟨rfl, _, Eq.trans (World.drewN_drewN _ _ _) (congrArg (World.drewN _) (Nat.add_assoc _ _ _))⟩))))
    go_ret3
    exact ⟨by first | rfl | (simp; done) | (simp [*]; done) | (congr 1; (try unfold wrap64); omega) | (congr 1; rw [IntKind.wrap_u64]; omega), by repeat (first | exact Drawn0.refl _ | apply Drawn0.step)⟩

/-! ### anneallaw3_RoundExact: function 5 -/
/-! ### annealref1_neg: function 60 -/
def annealref1_neg.f (a0 : Int) (a1 : Int) : Option (Bool) := (annealref1_parts.f a0 a1).bind fun bt320 => (some bt320.1)
set_option maxHeartbeats 8000000 in
set_option maxRecDepth 100000 in
theorem annealref1_neg.calls (a0 : Int) (a1 : Int) (r : Bool) (w : World) (h : annealref1_neg.f a0 a1 = some r) :
  Calls Try.prog 60 #[.int .i64 a0, .int .u32 a1] w fun e w' => e = .returned (.bool r) ∧ Drawn0 w w' := by
 have H : ((annealref1_parts.f a0 a1).bind fun bt320 => (some bt320.1)) = some r := h
 clear h
 replace H := Option.bind_eq_some_iff.mp H
 obtain ⟨⟨t320, t321, t322⟩, A30, H⟩ := H
 replace H : (some t320) = some r := H
 have A3 := Aside0.mk A30
 clear A30
 obtain rfl := Option.some.inj H
 go_enter Try.func60, Try.ntmps60
 go_wp2_with (first | ((with_reducible refine gate_callee (f := 59) rfl ?_); refine goesL_ (some 11) rfl rfl Try.func59 (by kernel_rfl) rfl #[.int .i64 a0, .int .u32 a1] rfl gl ?_; (with_reducible refine (annealref1_parts.calls a0 a1 t320 t321 t322 _ A3.out).mono ?_); rintro e w' ⟨rfl, ⟨nd, rfl⟩⟩; refine ⟨_, rfl, ?_⟩))
 go_ret
 exact ⟨by first | rfl | (simp; done) | (simp [*]; done) | (congr 1; (try unfold wrap64); omega) | (congr 1; rw [IntKind.wrap_u64]; omega), by repeat (first | exact Drawn0.refl _ | apply Drawn0.step)⟩

/-! ### annealref1_Key: function 22 -/
end Go.Proofs.Ytoljndjpnbdjmaa.P

-- Printed by a program of this session's out of Lean's print of the translation; Lean checks it.
namespace Go.Proofs.Ytoljndjpnbdjmaa.P
open Go.RowKit Go.Proofs.YtoljndjpnbdjmaaW.PrintWords Go.Proofs.YtoljndjpnbdjmaaW.PrintLast Go.Proofs.YtoljndjpnbdjmaaW.PrintMore
attribute [local go_sem] max2_int min2_int max_two min_two max_three min_three max_four min_four   -- for this text's walks alone
set_option linter.unusedVariables false
set_option linter.unusedSimpArgs false

/-! ### annealref1_inf: function 68 -/
def annealref1_inf.f (k : Nat) (a0 : Int) (a1 : Int) : Option (Bool) := (annealref1_Class.f k a0 a1).bind fun t462 => (some (t462 == 3))
theorem annealref1_inf.mono : ∀ a0 a1 k, LeO (annealref1_inf.f k a0 a1) (annealref1_inf.f (k + 1) a0 a1) := by
 intro a0 a1 k
 unfold annealref1_inf.f
 repeat' first
   |(with_reducible exact annealref1_Class.mono _ _ _)
   |(with_reducible exact LeO.refl _)
   |(with_reducible exact LeO.none _)
   |(with_reducible refine LeO.ite ?_ ?_)
   |(with_reducible refine LeO.bind ?_ (fun _ => ?_))
   |exact annealref1_Class.mono _ _ _
   |exact LeO.none _
   |refine LeO.ite ?_ ?_
   |refine LeO.bind ?_ (fun _ => ?_)
set_option maxHeartbeats 8000000 in
set_option maxRecDepth 100000 in
theorem annealref1_inf.calls (k : Nat) (a0 : Int) (a1 : Int) (r : Bool) (w : World) (h : annealref1_inf.f k a0 a1 = some r) :
  Calls Try.prog 68 #[.int .i64 a0, .int .u32 a1] w fun e w' => e = .returned (.bool r) ∧ Drawn0 w w' := by
 have H : ((annealref1_Class.f k a0 a1).bind fun t462 => (some (t462 == 3))) = some r := h
 clear h
 replace H := Option.bind_eq_some_iff.mp H
 obtain ⟨t462, A30, H⟩ := H
 replace H : (some (t462 == 3)) = some r := H
 have A3 := Aside0.mk A30
 clear A30
 obtain rfl := Option.some.inj H
 go_enter Try.func68, Try.ntmps68
 go_wp2_with (first | ((with_reducible refine gate_callee (f := 34) rfl ?_); refine goesL_ (some 7) rfl rfl Try.func34 (by kernel_rfl) rfl #[.int .i64 a0, .int .u32 a1] rfl gl ?_; (with_reducible refine (annealref1_Class.calls k a0 a1 t462 _ A3.out).mono ?_); rintro e w' ⟨rfl, ⟨nd, rfl⟩⟩; refine ⟨_, rfl, ?_⟩))
 go_ret
 exact ⟨by first | rfl | (simp; done) | (simp [*]; done) | (congr 1; (try unfold wrap64); omega) | (congr 1; rw [IntKind.wrap_u64]; omega), by repeat (first | exact Drawn0.refl _ | apply Drawn0.step)⟩

/-! ### annealref1_To: function 29 -/
def annealref1_To.f (k : Nat) (a0 : Int) (a1 : Int) (a2 : Int) (a3 : Int) : Option (Int × Bool × Bool × Bool × Bool × Bool) := (annealref1_nans.f k a0 (([a3] : List Int))).bind fun bt467 => (if bt467.1 = true then ((annealref1_Nan.f a1).bind fun t469 => (some (t469, bt467.2, false, false, false, false))) else ((annealref1_inf.f k a0 a3).bind fun t470 => (if t470 = true then ((annealref1_neg.f a0 a3).bind fun t471 => ((annealref1_Inf.f a1 t471).bind fun t472 => (some (t472, false, false, false, false, false)))) else ((annealref1_Unpack.f k a0 a3).bind fun bt473 => ((annealref1_Pack.f k a1 a2 bt473.1 bt473.2.1 bt473.2.2 false).bind fun bt476 => (some (bt476.1, bt476.2.1, bt476.2.2.1, bt476.2.2.2.1, bt476.2.2.2.2.1, bt476.2.2.2.2.2)))))))
theorem annealref1_To.mono : ∀ a0 a1 a2 a3 k, LeO (annealref1_To.f k a0 a1 a2 a3) (annealref1_To.f (k + 1) a0 a1 a2 a3) := by
 intro a0 a1 a2 a3 k
 unfold annealref1_To.f
 repeat' first
   |(with_reducible exact annealref1_Pack.mono _ _ _ _ _ _ _)
   |(with_reducible exact annealref1_Unpack.mono _ _ _)
   |(with_reducible exact annealref1_inf.mono _ _ _)
   |(with_reducible exact annealref1_nans.mono _ _ _)
   |(with_reducible exact LeO.refl _)
   |(with_reducible exact LeO.none _)
   |(with_reducible refine LeO.ite ?_ ?_)
   |(with_reducible refine LeO.bind ?_ (fun _ => ?_))
   |exact annealref1_Pack.mono _ _ _ _ _ _ _
   |exact annealref1_Unpack.mono _ _ _
   |exact annealref1_inf.mono _ _ _
   |exact annealref1_nans.mono _ _ _
   |exact LeO.none _
   |refine LeO.ite ?_ ?_
   |refine LeO.bind ?_ (fun _ => ?_)
set_option maxHeartbeats 8000000 in
set_option maxRecDepth 100000 in
theorem annealref1_To.calls (k : Nat) (a0 : Int) (a1 : Int) (a2 : Int) (a3 : Int) (r1 : Int) (r2 : Bool) (r3 : Bool) (r4 : Bool) (r5 : Bool) (r6 : Bool) (w : World) (h : annealref1_To.f k a0 a1 a2 a3 = some (r1, r2, r3, r4, r5, r6)) :
  Calls Try.prog 29 #[.int .i64 a0, .int .i64 a1, .int .i64 a2, .int .u32 a3] w fun e w' => e = .returned (.tuple #[.int .u32 r1, .agg #[.bool r2, .bool r3, .bool r4, .bool r5, .bool r6]]) ∧ Below w.heap.size w w' := by
 have hu30 := Try.underlying30
 have HB := Aside0.mk (Below.refl w.heap.size w)
 have H : ((annealref1_nans.f k a0 (([a3] : List Int))).bind fun bt467 => (if bt467.1 = true then ((annealref1_Nan.f a1).bind fun t469 => (some (t469, bt467.2, false, false, false, false))) else ((annealref1_inf.f k a0 a3).bind fun t470 => (if t470 = true then ((annealref1_neg.f a0 a3).bind fun t471 => ((annealref1_Inf.f a1 t471).bind fun t472 => (some (t472, false, false, false, false, false)))) else ((annealref1_Unpack.f k a0 a3).bind fun bt473 => ((annealref1_Pack.f k a1 a2 bt473.1 bt473.2.1 bt473.2.2 false).bind fun bt476 => (some (bt476.1, bt476.2.1, bt476.2.2.1, bt476.2.2.2.1, bt476.2.2.2.2.1, bt476.2.2.2.2.2)))))))) = some (r1, r2, r3, r4, r5, r6) := h
 clear h
 obtain ⟨y464, hy464⟩ : ∃ y_ : List Int, y_ = (([a3] : List Int)) := ⟨_, rfl⟩
 replace H : ((annealref1_nans.f k a0 y464).bind fun bt467 => (if bt467.1 = true then ((annealref1_Nan.f a1).bind fun t469 => (some (t469, bt467.2, false, false, false, false))) else ((annealref1_inf.f k a0 a3).bind fun t470 => (if t470 = true then ((annealref1_neg.f a0 a3).bind fun t471 => ((annealref1_Inf.f a1 t471).bind fun t472 => (some (t472, false, false, false, false, false)))) else ((annealref1_Unpack.f k a0 a3).bind fun bt473 => ((annealref1_Pack.f k a1 a2 bt473.1 bt473.2.1 bt473.2.2 false).bind fun bt476 => (some (bt476.1, bt476.2.1, bt476.2.2.1, bt476.2.2.2.1, bt476.2.2.2.2.1, bt476.2.2.2.2.2)))))))) = some (r1, r2, r3, r4, r5, r6) := by first | (rw [hy464]; with_reducible exact H) | (have H2_ := (Option.bind_some _ _).symm.trans H; rw [hy464]; with_reducible exact H2_) | (have H2_ := (Option.bind_some _ _).symm.trans H; with_reducible exact H2_) | with_reducible exact H | (rw [hy464]; exact H) | exact H
 have Ny464 := Aside0.mk hy464
 clear hy464
 replace H := Option.bind_eq_some_iff.mp H
 obtain ⟨⟨t467, t468⟩, A50, H⟩ := H
 replace H : (if t467 = true then ((annealref1_Nan.f a1).bind fun t469 => (some (t469, t468, false, false, false, false))) else ((annealref1_inf.f k a0 a3).bind fun t470 => (if t470 = true then ((annealref1_neg.f a0 a3).bind fun t471 => ((annealref1_Inf.f a1 t471).bind fun t472 => (some (t472, false, false, false, false, false)))) else ((annealref1_Unpack.f k a0 a3).bind fun bt473 => ((annealref1_Pack.f k a1 a2 bt473.1 bt473.2.1 bt473.2.2 false).bind fun bt476 => (some (bt476.1, bt476.2.1, bt476.2.2.1, bt476.2.2.2.1, bt476.2.2.2.2.1, bt476.2.2.2.2.2))))))) = some (r1, r2, r3, r4, r5, r6) := H
 have A5 := Aside0.mk A50
 clear A50
 by_cases c6 : t467 = true
 ·subst c6
  have H1 : ((annealref1_Nan.f a1).bind fun t469 => (some (t469, t468, false, false, false, false))) = some (r1, r2, r3, r4, r5, r6) := by rw [if_pos rfl] at H; exact H
  clear H
  have H := H1
  clear H1
  replace H := Option.bind_eq_some_iff.mp H
  obtain ⟨t469, A70, H⟩ := H
  replace H : (some (t469, t468, false, false, false, false)) = some (r1, r2, r3, r4, r5, r6) := H
  have A7 := Aside0.mk A70
  clear A70
  simp only [Option.some.injEq, Prod.mk.injEq] at H
  obtain ⟨rfl, rfl, rfl, rfl, rfl, rfl⟩ := H
  go_enter Try.func29, Try.ntmps29
  go_wp2_with (first | ((with_reducible refine gate_dst (N := 9) rfl ?_); refine box_event ?hg (N := 9) ?hd (cs := F5) (t := 30) ?hr ?_; (case hd => rfl); (case hg => rfl); (case hr => first | (go_simp; done) | (go_simp; rfl)); intro gb463 hg w8 hbox hb; have n0_ := Aside0.mk (below_step (bl0 HB.out) hb); have n1_ := Aside0.mk (hbox); have n2_ := Aside0.mk ((by rw [hg]; exact (below_size (bl0 HB.out)) : w.heap.size ≤ gb463)); have n3_ := n2_; clear HB; have HB := n0_; have BK463 := n1_; have GW463 := n2_; have GE463 := n3_; clear n0_ n1_ n2_ n3_; clear hb hbox hg) | ((with_reducible refine gate_dst (N := 18) rfl ?_); refine Kd.R_lit (Kd.int .u32) _ 28 ?hg (N := 18) ?hd (xs := ([a3] : List Int)) (inner := [.int .u32 a3]) (ok := fun _ => True) (okp := fun _ => True) ?hr ?hp (fun _ hk => hk) trivial (Below.refl _ _) (Nat.le_refl _) (by simp) ?_; (case hd => rfl); (case hg => rfl); (case hr => first | (go_simp; done) | (go_simp; rfl)); (case hp => exact (Reps.one (show Kd.M (Kd.int .u32) _ _ _ a3 [.int .u32 a3] from rfl) (Reps.none _ _))); intro v465 w9 ho10 hb hg_ hnew_; clear hg_ hnew_; (first | rw [← Ny464.out] at ho10 | (simp only [Int.reduceToNat] at ho10; rw [← Ny464.out] at ho10)); have n0_ := Aside0.mk (Kd.R_lower ho10 (below_size (bl1 HB.out GE463.out))); have n1_ := Aside0.mk (blk_below (g := gb463) (o := .cells #[.bool false, .bool false, .bool false, .bool false, .bool false] 30 (0, 0)) (bv BK463.out) hb); have n2_ := Aside0.mk (below_step (bl1 HB.out GE463.out) hb); clear BK463; clear HB; have HO466 := n0_; have BK463 := n1_; have HB := n2_; clear n0_ n1_ n2_; clear hb ho10; obtain ⟨Ao11, co11, eo11⟩ := Kd.R_slice HO466.out; subst eo11) | ((with_reducible refine gate_callee (f := 67) rfl ?_); refine goesL_ (some 19) rfl rfl Try.func67 (by kernel_rfl) rfl #[.int .i64 a0, .slice Ao11 y464.length co11] rfl gl ?_; (with_reducible refine (annealref1_nans.calls k a0 _ _ y464 true t468 _ ?side1 ?side2 A5.out).mono ?_); (case side1 => repeat (first | exact (Kd.R_reads' HO466.out).2.2 | (with_reducible refine Kd.C_alloc ?_ _) | (with_reducible refine Kd.C_drewN ?_ _) | (with_reducible refine Kd.C_drew ?_))); (case side2 => exact (Kd.R_reads' HO466.out).2.1); rintro e w' ⟨rfl, ⟨nd, rfl⟩⟩; refine ⟨_, rfl, ?_⟩; (try (rw [drewN_self w9]; generalize hq_ : World.drewN w9 _ = w9; have n0_ : Aside0 (Kd.R (Kd.int .u32) 28 w9 w.heap.size (fun _ => True) (.slice Ao11 y464.length co11) y464) := ⟨by rw [← hq_]; exact (by (with_reducible repeat (first | apply Kd.R_alloc | apply Kd.R_drewN | apply Kd.R_drew)); exact HO466.out)⟩; have n1_ : Aside0 (w9.heap[gb463]? = some (.cells #[.bool false, .bool false, .bool false, .bool false, .bool false] 30 (0, 0))) := ⟨by rw [← hq_]; exact (bv BK463.out)⟩; have n2_ : Aside0 (Below w.heap.size w w9) := ⟨by rw [← hq_]; exact (bl1 HB.out GE463.out)⟩; clear HO466 BK463 HB hq_; have HO466 := n0_; have BK463 := n1_; have HB := n2_; clear n0_ n1_ n2_))) | ((with_reducible refine gate_callee (f := 35) rfl ?_); refine goesL_ (some 24) rfl rfl Try.func35 (by kernel_rfl) rfl #[.int .i64 a1] rfl gl ?_; (with_reducible refine (annealref1_Nan.calls a1 t469 _ A7.out).mono ?_); rintro e w' ⟨rfl, ⟨nd, rfl⟩⟩; refine ⟨_, rfl, ?_⟩; (try (rw [drewN_self w9]; generalize hq_ : World.drewN w9 _ = w9; have n0_ : Aside0 (Kd.R (Kd.int .u32) 28 w9 w.heap.size (fun _ => True) (.slice Ao11 y464.length co11) y464) := ⟨by rw [← hq_]; exact (by (with_reducible repeat (first | apply Kd.R_alloc | apply Kd.R_drewN | apply Kd.R_drew)); exact HO466.out)⟩; have n1_ : Aside0 (w9.heap[gb463]? = some (.cells #[.bool false, .bool false, .bool false, .bool false, .bool false] 30 (0, 0))) := ⟨by rw [← hq_]; exact (bv BK463.out)⟩; have n2_ : Aside0 (Below w.heap.size w w9) := ⟨by rw [← hq_]; exact (bl1 HB.out GE463.out)⟩; clear HO466 BK463 HB hq_; have HO466 := n0_; have BK463 := n1_; have HB := n2_; clear n0_ n1_ n2_)); obtain ⟨hcz12_0, hcz12_1, hcz12_2, hcz12_3, hcz12_4⟩ := bc5 BK463.out; obtain ⟨hfz12_0, hfz12_1, hfz12_2, hfz12_3, hfz12_4⟩ := bf5 BK463.out))
  refine bodyPost_ret (results_tc rfl _ _ gb463 30 #[.bool t468, .bool false, .bool false, .bool false, .bool false] (0, 0) _ rfl (by (with_reducible repeat first | apply bd | apply be | apply ba); refine blk_put (cs := #[.bool t468, .bool false, .bool false, .bool false, .bool false]) ?_ 4 _ rfl; (with_reducible repeat first | apply bd | apply be | apply ba); refine blk_put (cs := #[.bool t468, .bool false, .bool false, .bool false, .bool false]) ?_ 3 _ rfl; (with_reducible repeat first | apply bd | apply be | apply ba); refine blk_put (cs := #[.bool t468, .bool false, .bool false, .bool false, .bool false]) ?_ 2 _ rfl; (with_reducible repeat first | apply bd | apply be | apply ba); refine blk_put (cs := #[.bool t468, .bool false, .bool false, .bool false, .bool false]) ?_ 1 _ rfl; (with_reducible repeat first | apply bd | apply be | apply ba); refine blk_put (cs := F5) ?_ 0 _ rfl; (with_reducible repeat first | apply bd | apply be | apply ba); exact BK463.out) Try.underlying30 rfl (by kernel_rfl)) rfl ?_
  exact ⟨by first | rfl | (simp [errW_none, errW_some] <;> rfl) | (simp [*, errW_none, errW_some] <;> rfl), bl1 HB.out GE463.out⟩
 ·replace c6 := Bool.eq_false_iff.mpr c6
  subst c6
  have H1 : ((annealref1_inf.f k a0 a3).bind fun t470 => (if t470 = true then ((annealref1_neg.f a0 a3).bind fun t471 => ((annealref1_Inf.f a1 t471).bind fun t472 => (some (t472, false, false, false, false, false)))) else ((annealref1_Unpack.f k a0 a3).bind fun bt473 => ((annealref1_Pack.f k a1 a2 bt473.1 bt473.2.1 bt473.2.2 false).bind fun bt476 => (some (bt476.1, bt476.2.1, bt476.2.2.1, bt476.2.2.2.1, bt476.2.2.2.2.1, bt476.2.2.2.2.2)))))) = some (r1, r2, r3, r4, r5, r6) := by rw [if_neg (show ¬ (false = true) by decide)] at H; exact H
  clear H
  have H := H1
  clear H1
  replace H := Option.bind_eq_some_iff.mp H
  obtain ⟨t470, A130, H⟩ := H
  replace H : (if t470 = true then ((annealref1_neg.f a0 a3).bind fun t471 => ((annealref1_Inf.f a1 t471).bind fun t472 => (some (t472, false, false, false, false, false)))) else ((annealref1_Unpack.f k a0 a3).bind fun bt473 => ((annealref1_Pack.f k a1 a2 bt473.1 bt473.2.1 bt473.2.2 false).bind fun bt476 => (some (bt476.1, bt476.2.1, bt476.2.2.1, bt476.2.2.2.1, bt476.2.2.2.2.1, bt476.2.2.2.2.2))))) = some (r1, r2, r3, r4, r5, r6) := H
  have A13 := Aside0.mk A130
  clear A130
  by_cases c14 : t470 = true
  ·subst c14
   have H1 : ((annealref1_neg.f a0 a3).bind fun t471 => ((annealref1_Inf.f a1 t471).bind fun t472 => (some (t472, false, false, false, false, false)))) = some (r1, r2, r3, r4, r5, r6) := by rw [if_pos rfl] at H; exact H
   clear H
   have H := H1
   clear H1
   replace H := Option.bind_eq_some_iff.mp H
   obtain ⟨t471, A150, H⟩ := H
   replace H : ((annealref1_Inf.f a1 t471).bind fun t472 => (some (t472, false, false, false, false, false))) = some (r1, r2, r3, r4, r5, r6) := H
   have A15 := Aside0.mk A150
   clear A150
   replace H := Option.bind_eq_some_iff.mp H
   obtain ⟨t472, A160, H⟩ := H
   replace H : (some (t472, false, false, false, false, false)) = some (r1, r2, r3, r4, r5, r6) := H
   have A16 := Aside0.mk A160
   clear A160
   simp only [Option.some.injEq, Prod.mk.injEq] at H
   obtain ⟨rfl, rfl, rfl, rfl, rfl, rfl⟩ := H
   go_enter Try.func29, Try.ntmps29
   go_wp2_with (first | ((with_reducible refine gate_dst (N := 9) rfl ?_); refine box_event ?hg (N := 9) ?hd (cs := F5) (t := 30) ?hr ?_; (case hd => rfl); (case hg => rfl); (case hr => first | (go_simp; done) | (go_simp; rfl)); intro gb463 hg w17 hbox hb; have n0_ := Aside0.mk (below_step (bl0 HB.out) hb); have n1_ := Aside0.mk (hbox); have n2_ := Aside0.mk ((by rw [hg]; exact (below_size (bl0 HB.out)) : w.heap.size ≤ gb463)); have n3_ := n2_; clear HB; have HB := n0_; have BK463 := n1_; have GW463 := n2_; have GE463 := n3_; clear n0_ n1_ n2_ n3_; clear hb hbox hg) | ((with_reducible refine gate_dst (N := 18) rfl ?_); refine Kd.R_lit (Kd.int .u32) _ 28 ?hg (N := 18) ?hd (xs := ([a3] : List Int)) (inner := [.int .u32 a3]) (ok := fun _ => True) (okp := fun _ => True) ?hr ?hp (fun _ hk => hk) trivial (Below.refl _ _) (Nat.le_refl _) (by simp) ?_; (case hd => rfl); (case hg => rfl); (case hr => first | (go_simp; done) | (go_simp; rfl)); (case hp => exact (Reps.one (show Kd.M (Kd.int .u32) _ _ _ a3 [.int .u32 a3] from rfl) (Reps.none _ _))); intro v465 w18 ho19 hb hg_ hnew_; clear hg_ hnew_; (first | rw [← Ny464.out] at ho19 | (simp only [Int.reduceToNat] at ho19; rw [← Ny464.out] at ho19)); have n0_ := Aside0.mk (Kd.R_lower ho19 (below_size (bl1 HB.out GE463.out))); have n1_ := Aside0.mk (blk_below (g := gb463) (o := .cells #[.bool false, .bool false, .bool false, .bool false, .bool false] 30 (0, 0)) (bv BK463.out) hb); have n2_ := Aside0.mk (below_step (bl1 HB.out GE463.out) hb); clear BK463; clear HB; have HO466 := n0_; have BK463 := n1_; have HB := n2_; clear n0_ n1_ n2_; clear hb ho19; obtain ⟨Ao20, co20, eo20⟩ := Kd.R_slice HO466.out; subst eo20) | ((with_reducible refine gate_callee (f := 67) rfl ?_); refine goesL_ (some 19) rfl rfl Try.func67 (by kernel_rfl) rfl #[.int .i64 a0, .slice Ao20 y464.length co20] rfl gl ?_; (with_reducible refine (annealref1_nans.calls k a0 _ _ y464 false t468 _ ?side1 ?side2 A5.out).mono ?_); (case side1 => repeat (first | exact (Kd.R_reads' HO466.out).2.2 | (with_reducible refine Kd.C_alloc ?_ _) | (with_reducible refine Kd.C_drewN ?_ _) | (with_reducible refine Kd.C_drew ?_))); (case side2 => exact (Kd.R_reads' HO466.out).2.1); rintro e w' ⟨rfl, ⟨nd, rfl⟩⟩; refine ⟨_, rfl, ?_⟩; (try (rw [drewN_self w18]; generalize hq_ : World.drewN w18 _ = w18; have n0_ : Aside0 (Kd.R (Kd.int .u32) 28 w18 w.heap.size (fun _ => True) (.slice Ao20 y464.length co20) y464) := ⟨by rw [← hq_]; exact (by (with_reducible repeat (first | apply Kd.R_alloc | apply Kd.R_drewN | apply Kd.R_drew)); exact HO466.out)⟩; have n1_ : Aside0 (w18.heap[gb463]? = some (.cells #[.bool false, .bool false, .bool false, .bool false, .bool false] 30 (0, 0))) := ⟨by rw [← hq_]; exact (bv BK463.out)⟩; have n2_ : Aside0 (Below w.heap.size w w18) := ⟨by rw [← hq_]; exact (bl1 HB.out GE463.out)⟩; clear HO466 BK463 HB hq_; have HO466 := n0_; have BK463 := n1_; have HB := n2_; clear n0_ n1_ n2_))) | ((with_reducible refine gate_callee (f := 68) rfl ?_); refine goesL_ (some 29) rfl rfl Try.func68 (by kernel_rfl) rfl #[.int .i64 a0, .int .u32 a3] rfl gl ?_; (with_reducible refine (annealref1_inf.calls k a0 a3 true _ A13.out).mono ?_); rintro e w' ⟨rfl, ⟨nd, rfl⟩⟩; refine ⟨_, rfl, ?_⟩; (try (rw [drewN_self w18]; generalize hq_ : World.drewN w18 _ = w18; have n0_ : Aside0 (Kd.R (Kd.int .u32) 28 w18 w.heap.size (fun _ => True) (.slice Ao20 y464.length co20) y464) := ⟨by rw [← hq_]; exact (by (with_reducible repeat (first | apply Kd.R_alloc | apply Kd.R_drewN | apply Kd.R_drew)); exact HO466.out)⟩; have n1_ : Aside0 (w18.heap[gb463]? = some (.cells #[.bool false, .bool false, .bool false, .bool false, .bool false] 30 (0, 0))) := ⟨by rw [← hq_]; exact (bv BK463.out)⟩; have n2_ : Aside0 (Below w.heap.size w w18) := ⟨by rw [← hq_]; exact (bl1 HB.out GE463.out)⟩; clear HO466 BK463 HB hq_; have HO466 := n0_; have BK463 := n1_; have HB := n2_; clear n0_ n1_ n2_))) | ((with_reducible refine gate_callee (f := 60) rfl ?_); refine goesL_ (some 33) rfl rfl Try.func60 (by kernel_rfl) rfl #[.int .i64 a0, .int .u32 a3] rfl gl ?_; (with_reducible refine (annealref1_neg.calls a0 a3 t471 _ A15.out).mono ?_); rintro e w' ⟨rfl, ⟨nd, rfl⟩⟩; refine ⟨_, rfl, ?_⟩; (try (rw [drewN_self w18]; generalize hq_ : World.drewN w18 _ = w18; have n0_ : Aside0 (Kd.R (Kd.int .u32) 28 w18 w.heap.size (fun _ => True) (.slice Ao20 y464.length co20) y464) := ⟨by rw [← hq_]; exact (by (with_reducible repeat (first | apply Kd.R_alloc | apply Kd.R_drewN | apply Kd.R_drew)); exact HO466.out)⟩; have n1_ : Aside0 (w18.heap[gb463]? = some (.cells #[.bool false, .bool false, .bool false, .bool false, .bool false] 30 (0, 0))) := ⟨by rw [← hq_]; exact (bv BK463.out)⟩; have n2_ : Aside0 (Below w.heap.size w w18) := ⟨by rw [← hq_]; exact (bl1 HB.out GE463.out)⟩; clear HO466 BK463 HB hq_; have HO466 := n0_; have BK463 := n1_; have HB := n2_; clear n0_ n1_ n2_))) | ((with_reducible refine gate_callee (f := 69) rfl ?_); refine goesL_ (some 34) rfl rfl Try.func69 (by kernel_rfl) rfl #[.int .i64 a1, .bool t471] rfl gl ?_; (with_reducible refine (annealref1_Inf.calls a1 t471 t472 _ A16.out).mono ?_); rintro e w' ⟨rfl, ⟨nd, rfl⟩⟩; refine ⟨_, rfl, ?_⟩; (try (rw [drewN_self w18]; generalize hq_ : World.drewN w18 _ = w18; have n0_ : Aside0 (Kd.R (Kd.int .u32) 28 w18 w.heap.size (fun _ => True) (.slice Ao20 y464.length co20) y464) := ⟨by rw [← hq_]; exact (by (with_reducible repeat (first | apply Kd.R_alloc | apply Kd.R_drewN | apply Kd.R_drew)); exact HO466.out)⟩; have n1_ : Aside0 (w18.heap[gb463]? = some (.cells #[.bool false, .bool false, .bool false, .bool false, .bool false] 30 (0, 0))) := ⟨by rw [← hq_]; exact (bv BK463.out)⟩; have n2_ : Aside0 (Below w.heap.size w w18) := ⟨by rw [← hq_]; exact (bl1 HB.out GE463.out)⟩; clear HO466 BK463 HB hq_; have HO466 := n0_; have BK463 := n1_; have HB := n2_; clear n0_ n1_ n2_)); obtain ⟨hcz21_0, hcz21_1, hcz21_2, hcz21_3, hcz21_4⟩ := bc5 BK463.out; obtain ⟨hfz21_0, hfz21_1, hfz21_2, hfz21_3, hfz21_4⟩ := bf5 BK463.out))
   refine bodyPost_ret (results_tc rfl _ _ gb463 30 #[.bool false, .bool false, .bool false, .bool false, .bool false] (0, 0) _ rfl (by (with_reducible repeat first | apply bd | apply be | apply ba); refine blk_put (cs := F5) ?_ 4 _ rfl; (with_reducible repeat first | apply bd | apply be | apply ba); refine blk_put (cs := F5) ?_ 3 _ rfl; (with_reducible repeat first | apply bd | apply be | apply ba); refine blk_put (cs := F5) ?_ 2 _ rfl; (with_reducible repeat first | apply bd | apply be | apply ba); refine blk_put (cs := F5) ?_ 1 _ rfl; (with_reducible repeat first | apply bd | apply be | apply ba); refine blk_put (cs := F5) ?_ 0 _ rfl; (with_reducible repeat first | apply bd | apply be | apply ba); exact BK463.out) Try.underlying30 rfl (by kernel_rfl)) rfl ?_
   exact ⟨by first | rfl | (simp [errW_none, errW_some] <;> rfl) | (simp [*, errW_none, errW_some] <;> rfl), bl1 HB.out GE463.out⟩
  ·replace c14 := Bool.eq_false_iff.mpr c14
   subst c14
   have H1 : ((annealref1_Unpack.f k a0 a3).bind fun bt473 => ((annealref1_Pack.f k a1 a2 bt473.1 bt473.2.1 bt473.2.2 false).bind fun bt476 => (some (bt476.1, bt476.2.1, bt476.2.2.1, bt476.2.2.2.1, bt476.2.2.2.2.1, bt476.2.2.2.2.2)))) = some (r1, r2, r3, r4, r5, r6) := by rw [if_neg (show ¬ (false = true) by decide)] at H; exact H
   clear H
   have H := H1
   clear H1
   replace H := Option.bind_eq_some_iff.mp H
   obtain ⟨⟨t473, t474, t475⟩, A220, H⟩ := H
   replace H : ((annealref1_Pack.f k a1 a2 t473 t474 t475 false).bind fun bt476 => (some (bt476.1, bt476.2.1, bt476.2.2.1, bt476.2.2.2.1, bt476.2.2.2.2.1, bt476.2.2.2.2.2))) = some (r1, r2, r3, r4, r5, r6) := H
   have A22 := Aside0.mk A220
   clear A220
   replace H := Option.bind_eq_some_iff.mp H
   obtain ⟨⟨t476, t477, t478, t479, t480, t481⟩, A230, H⟩ := H
   replace H : (some (t476, t477, t478, t479, t480, t481)) = some (r1, r2, r3, r4, r5, r6) := H
   have A23 := Aside0.mk A230
   clear A230
   simp only [Option.some.injEq, Prod.mk.injEq] at H
   obtain ⟨rfl, rfl, rfl, rfl, rfl, rfl⟩ := H
   go_enter Try.func29, Try.ntmps29
   go_wp2_with (first | ((with_reducible refine gate_dst (N := 9) rfl ?_); refine box_event ?hg (N := 9) ?hd (cs := F5) (t := 30) ?hr ?_; (case hd => rfl); (case hg => rfl); (case hr => first | (go_simp; done) | (go_simp; rfl)); intro gb463 hg w24 hbox hb; have n0_ := Aside0.mk (below_step (bl0 HB.out) hb); have n1_ := Aside0.mk (hbox); have n2_ := Aside0.mk ((by rw [hg]; exact (below_size (bl0 HB.out)) : w.heap.size ≤ gb463)); have n3_ := n2_; clear HB; have HB := n0_; have BK463 := n1_; have GW463 := n2_; have GE463 := n3_; clear n0_ n1_ n2_ n3_; clear hb hbox hg) | ((with_reducible refine gate_dst (N := 18) rfl ?_); refine Kd.R_lit (Kd.int .u32) _ 28 ?hg (N := 18) ?hd (xs := ([a3] : List Int)) (inner := [.int .u32 a3]) (ok := fun _ => True) (okp := fun _ => True) ?hr ?hp (fun _ hk => hk) trivial (Below.refl _ _) (Nat.le_refl _) (by simp) ?_; (case hd => rfl); (case hg => rfl); (case hr => first | (go_simp; done) | (go_simp; rfl)); (case hp => exact (Reps.one (show Kd.M (Kd.int .u32) _ _ _ a3 [.int .u32 a3] from rfl) (Reps.none _ _))); intro v465 w25 ho26 hb hg_ hnew_; clear hg_ hnew_; (first | rw [← Ny464.out] at ho26 | (simp only [Int.reduceToNat] at ho26; rw [← Ny464.out] at ho26)); have n0_ := Aside0.mk (Kd.R_lower ho26 (below_size (bl1 HB.out GE463.out))); have n1_ := Aside0.mk (blk_below (g := gb463) (o := .cells #[.bool false, .bool false, .bool false, .bool false, .bool false] 30 (0, 0)) (bv BK463.out) hb); have n2_ := Aside0.mk (below_step (bl1 HB.out GE463.out) hb); clear BK463; clear HB; have HO466 := n0_; have BK463 := n1_; have HB := n2_; clear n0_ n1_ n2_; clear hb ho26; obtain ⟨Ao27, co27, eo27⟩ := Kd.R_slice HO466.out; subst eo27) | ((with_reducible refine gate_callee (f := 67) rfl ?_); refine goesL_ (some 19) rfl rfl Try.func67 (by kernel_rfl) rfl #[.int .i64 a0, .slice Ao27 y464.length co27] rfl gl ?_; (with_reducible refine (annealref1_nans.calls k a0 _ _ y464 false t468 _ ?side1 ?side2 A5.out).mono ?_); (case side1 => repeat (first | exact (Kd.R_reads' HO466.out).2.2 | (with_reducible refine Kd.C_alloc ?_ _) | (with_reducible refine Kd.C_drewN ?_ _) | (with_reducible refine Kd.C_drew ?_))); (case side2 => exact (Kd.R_reads' HO466.out).2.1); rintro e w' ⟨rfl, ⟨nd, rfl⟩⟩; refine ⟨_, rfl, ?_⟩; (try (rw [drewN_self w25]; generalize hq_ : World.drewN w25 _ = w25; have n0_ : Aside0 (Kd.R (Kd.int .u32) 28 w25 w.heap.size (fun _ => True) (.slice Ao27 y464.length co27) y464) := ⟨by rw [← hq_]; exact (by (with_reducible repeat (first | apply Kd.R_alloc | apply Kd.R_drewN | apply Kd.R_drew)); exact HO466.out)⟩; have n1_ : Aside0 (w25.heap[gb463]? = some (.cells #[.bool false, .bool false, .bool false, .bool false, .bool false] 30 (0, 0))) := ⟨by rw [← hq_]; exact (bv BK463.out)⟩; have n2_ : Aside0 (Below w.heap.size w w25) := ⟨by rw [← hq_]; exact (bl1 HB.out GE463.out)⟩; clear HO466 BK463 HB hq_; have HO466 := n0_; have BK463 := n1_; have HB := n2_; clear n0_ n1_ n2_))) | ((with_reducible refine gate_callee (f := 68) rfl ?_); refine goesL_ (some 29) rfl rfl Try.func68 (by kernel_rfl) rfl #[.int .i64 a0, .int .u32 a3] rfl gl ?_; (with_reducible refine (annealref1_inf.calls k a0 a3 false _ A13.out).mono ?_); rintro e w' ⟨rfl, ⟨nd, rfl⟩⟩; refine ⟨_, rfl, ?_⟩; (try (rw [drewN_self w25]; generalize hq_ : World.drewN w25 _ = w25; have n0_ : Aside0 (Kd.R (Kd.int .u32) 28 w25 w.heap.size (fun _ => True) (.slice Ao27 y464.length co27) y464) := ⟨by rw [← hq_]; exact (by (with_reducible repeat (first | apply Kd.R_alloc | apply Kd.R_drewN | apply Kd.R_drew)); exact HO466.out)⟩; have n1_ : Aside0 (w25.heap[gb463]? = some (.cells #[.bool false, .bool false, .bool false, .bool false, .bool false] 30 (0, 0))) := ⟨by rw [← hq_]; exact (bv BK463.out)⟩; have n2_ : Aside0 (Below w.heap.size w w25) := ⟨by rw [← hq_]; exact (bl1 HB.out GE463.out)⟩; clear HO466 BK463 HB hq_; have HO466 := n0_; have BK463 := n1_; have HB := n2_; clear n0_ n1_ n2_))) | ((with_reducible refine gate_callee (f := 21) rfl ?_); refine goesL_ (some 39) rfl rfl Try.func21 (by kernel_rfl) rfl #[.int .i64 a0, .int .u32 a3] rfl gl ?_; (with_reducible refine (annealref1_Unpack.calls k a0 a3 t473 t474 t475 _ A22.out).mono ?_); rintro e w' ⟨rfl, ⟨nd, rfl⟩⟩; refine ⟨_, rfl, ?_⟩; (try (rw [drewN_self w25]; generalize hq_ : World.drewN w25 _ = w25; have n0_ : Aside0 (Kd.R (Kd.int .u32) 28 w25 w.heap.size (fun _ => True) (.slice Ao27 y464.length co27) y464) := ⟨by rw [← hq_]; exact (by (with_reducible repeat (first | apply Kd.R_alloc | apply Kd.R_drewN | apply Kd.R_drew)); exact HO466.out)⟩; have n1_ : Aside0 (w25.heap[gb463]? = some (.cells #[.bool false, .bool false, .bool false, .bool false, .bool false] 30 (0, 0))) := ⟨by rw [← hq_]; exact (bv BK463.out)⟩; have n2_ : Aside0 (Below w.heap.size w w25) := ⟨by rw [← hq_]; exact (bl1 HB.out GE463.out)⟩; clear HO466 BK463 HB hq_; have HO466 := n0_; have BK463 := n1_; have HB := n2_; clear n0_ n1_ n2_))) | ((with_reducible refine gate_callee (f := 18) rfl ?_); refine goesL_ (some 48) rfl rfl Try.func18 (by kernel_rfl) rfl #[.int .i64 a1, .int .i64 a2, .bool t473, .int .i64 t474, .int .u64 t475, .bool false] rfl gl ?_; (with_reducible refine (annealref1_Pack.calls k a1 a2 t473 t474 t475 false t476 t477 t478 t479 t480 t481 _ A23.out).mono ?_); rintro e w28 ⟨rfl, hb⟩; refine ⟨_, rfl, ?_⟩; have n0_ := Aside0.mk (Kd.R_below (by (with_reducible repeat (first | apply Kd.R_alloc | apply Kd.R_drewN | apply Kd.R_drew)); exact HO466.out) hb); have n1_ := Aside0.mk (blk_below (g := gb463) (o := .cells #[.bool false, .bool false, .bool false, .bool false, .bool false] 30 (0, 0)) (bv BK463.out) hb); have n2_ := Aside0.mk (below_step (bl1 HB.out GE463.out) hb); clear HO466; clear BK463; clear HB; have HO466 := n0_; have BK463 := n1_; have HB := n2_; clear n0_ n1_ n2_; obtain ⟨hcz29_0, hcz29_1, hcz29_2, hcz29_3, hcz29_4⟩ := bc5 BK463.out; obtain ⟨hfz29_0, hfz29_1, hfz29_2, hfz29_3, hfz29_4⟩ := bf5 BK463.out))
   refine bodyPost_ret (results_tc rfl _ _ gb463 30 #[.bool t477, .bool t478, .bool t479, .bool t480, .bool t481] (0, 0) _ rfl (by (with_reducible repeat first | apply bd | apply be | apply ba); refine blk_put (cs := #[.bool t477, .bool t478, .bool t479, .bool t480, .bool false]) ?_ 4 _ rfl; (with_reducible repeat first | apply bd | apply be | apply ba); refine blk_put (cs := #[.bool t477, .bool t478, .bool t479, .bool false, .bool false]) ?_ 3 _ rfl; (with_reducible repeat first | apply bd | apply be | apply ba); refine blk_put (cs := #[.bool t477, .bool t478, .bool false, .bool false, .bool false]) ?_ 2 _ rfl; (with_reducible repeat first | apply bd | apply be | apply ba); refine blk_put (cs := #[.bool t477, .bool false, .bool false, .bool false, .bool false]) ?_ 1 _ rfl; (with_reducible repeat first | apply bd | apply be | apply ba); refine blk_put (cs := F5) ?_ 0 _ rfl; (with_reducible repeat first | apply bd | apply be | apply ba); exact BK463.out) Try.underlying30 rfl (by kernel_rfl)) rfl ?_
   exact ⟨by first | rfl | (simp [errW_none, errW_some] <;> rfl) | (simp [*, errW_none, errW_some] <;> rfl), bl1 HB.out GE463.out⟩

/-! ### annealref1_Widen: function 31 -/
/-! ### annealref1_Narrow: function 33 -/
end Go.Proofs.Ytoljndjpnbdjmaa.P

-- Printed by a program of this session's out of Lean's print of the translation; Lean checks it.
namespace Go.Proofs.Ytoljndjpnbdjmaa.P
open Go.RowKit Go.Proofs.YtoljndjpnbdjmaaW.PrintWords Go.Proofs.YtoljndjpnbdjmaaW.PrintLast Go.Proofs.YtoljndjpnbdjmaaW.PrintMore
attribute [local go_sem] max2_int min2_int max_two min_two max_three min_three max_four min_four   -- for this text's walks alone
set_option linter.unusedVariables false
set_option linter.unusedSimpArgs false

/-! ### format_Parts: function 80 -/
def format_Parts.f (a0 : Int) (a1 : Int) : Option (Bool × Int × Int) := (format_Widths.f a0).bind fun bt368 => (if 0 ≤ (IntKind.u64.wrap (wrap64 (bt368.1 + bt368.2))) then (if 0 ≤ (IntKind.u64.wrap (bt368.2)) then (if 0 ≤ (IntKind.u64.wrap (bt368.1)) then (some (((Go.bits .and .u32 (shr .u32 a1 (IntKind.u64.wrap (wrap64 (bt368.1 + bt368.2)))) 1) == 1), wrap64 (Go.bits .and .u32 (shr .u32 a1 (IntKind.u64.wrap (bt368.2))) (((shl .u32 1 (IntKind.u64.wrap (bt368.1))) - 1) % 4294967296)), Go.bits .and .u32 a1 (((shl .u32 1 (IntKind.u64.wrap (bt368.2))) - 1) % 4294967296))) else (none)) else (none)) else (none))
set_option maxHeartbeats 8000000 in
set_option maxRecDepth 100000 in
theorem format_Parts.calls (a0 : Int) (a1 : Int) (r1 : Bool) (r2 : Int) (r3 : Int) (w : World) (h : format_Parts.f a0 a1 = some (r1, r2, r3)) :
  Calls Try.prog 80 #[.int .i64 a0, .int .u32 a1] w fun e w' => e = .returned (.tuple #[.bool r1, .int .i64 r2, .int .u32 r3]) ∧ Drawn0 w w' := by
 have H : ((format_Widths.f a0).bind fun bt368 => (if 0 ≤ (IntKind.u64.wrap (wrap64 (bt368.1 + bt368.2))) then (if 0 ≤ (IntKind.u64.wrap (bt368.2)) then (if 0 ≤ (IntKind.u64.wrap (bt368.1)) then (some (((Go.bits .and .u32 (shr .u32 a1 (IntKind.u64.wrap (wrap64 (bt368.1 + bt368.2)))) 1) == 1), wrap64 (Go.bits .and .u32 (shr .u32 a1 (IntKind.u64.wrap (bt368.2))) (((shl .u32 1 (IntKind.u64.wrap (bt368.1))) - 1) % 4294967296)), Go.bits .and .u32 a1 (((shl .u32 1 (IntKind.u64.wrap (bt368.2))) - 1) % 4294967296))) else (none)) else (none)) else (none))) = some (r1, r2, r3) := h
 clear h
 replace H := Option.bind_eq_some_iff.mp H
 obtain ⟨⟨t368, t369⟩, A30, H⟩ := H
 replace H : (if 0 ≤ (IntKind.u64.wrap (wrap64 (t368 + t369))) then (if 0 ≤ (IntKind.u64.wrap (t369)) then (if 0 ≤ (IntKind.u64.wrap (t368)) then (some (((Go.bits .and .u32 (shr .u32 a1 (IntKind.u64.wrap (wrap64 (t368 + t369)))) 1) == 1), wrap64 (Go.bits .and .u32 (shr .u32 a1 (IntKind.u64.wrap (t369))) (((shl .u32 1 (IntKind.u64.wrap (t368))) - 1) % 4294967296)), Go.bits .and .u32 a1 (((shl .u32 1 (IntKind.u64.wrap (t369))) - 1) % 4294967296))) else (none)) else (none)) else (none)) = some (r1, r2, r3) := H
 have A3 := Aside0.mk A30
 clear A30
 obtain ⟨ji4, hji4⟩ : ∃ j_ : Int, (IntKind.u64.wrap (wrap64 (t368 + t369))) = j_ := ⟨_, rfl⟩
 replace H : (if 0 ≤ (ji4) then (if 0 ≤ (IntKind.u64.wrap (t369)) then (if 0 ≤ (IntKind.u64.wrap (t368)) then (some (((Go.bits .and .u32 (shr .u32 a1 (ji4)) 1) == 1), wrap64 (Go.bits .and .u32 (shr .u32 a1 (IntKind.u64.wrap (t369))) (((shl .u32 1 (IntKind.u64.wrap (t368))) - 1) % 4294967296)), Go.bits .and .u32 a1 (((shl .u32 1 (IntKind.u64.wrap (t369))) - 1) % 4294967296))) else (none)) else (none)) else (none)) = some (r1, r2, r3) := by first | (rw [hji4] at H; exact H) | (simp only [hji4] at H ⊢; exact H)
 (try rw [hji4] at A3)
 by_cases c5 : 0 ≤ (ji4)
 ·rw [if_pos c5] at H
  have c5b0 := eq_true c5
  have c5b1 : decide (0 ≤ (ji4)) = true := decide_eq_true c5
  clear c5
  obtain ⟨ji6, hji6⟩ : ∃ j_ : Int, (shr .u32 a1 (ji4)) = j_ := ⟨_, rfl⟩
  replace H : (if 0 ≤ (IntKind.u64.wrap (t369)) then (if 0 ≤ (IntKind.u64.wrap (t368)) then (some (((Go.bits .and .u32 (ji6) 1) == 1), wrap64 (Go.bits .and .u32 (shr .u32 a1 (IntKind.u64.wrap (t369))) (((shl .u32 1 (IntKind.u64.wrap (t368))) - 1) % 4294967296)), Go.bits .and .u32 a1 (((shl .u32 1 (IntKind.u64.wrap (t369))) - 1) % 4294967296))) else (none)) else (none)) = some (r1, r2, r3) := by first | (rw [hji6] at H; exact H) | (simp only [hji6] at H ⊢; exact H)
  (try rw [hji6] at A3)
  have hji6_ : (a1 / 2 ^ min (ji4).toNat 32) = ji6 := hji6
  have hji6z : (ji4) ≤ 32 → (a1 / 2 ^ (ji4).toNat) = ji6 := shr_small hji6
  obtain ⟨ji7, hji7⟩ : ∃ j_ : Int, (IntKind.u64.wrap (t369)) = j_ := ⟨_, rfl⟩
  replace H : (if 0 ≤ (ji7) then (if 0 ≤ (IntKind.u64.wrap (t368)) then (some (((Go.bits .and .u32 (ji6) 1) == 1), wrap64 (Go.bits .and .u32 (shr .u32 a1 (ji7)) (((shl .u32 1 (IntKind.u64.wrap (t368))) - 1) % 4294967296)), Go.bits .and .u32 a1 (((shl .u32 1 (ji7)) - 1) % 4294967296))) else (none)) else (none)) = some (r1, r2, r3) := by first | (rw [hji7] at H; exact H) | (simp only [hji7] at H ⊢; exact H)
  (try rw [hji7] at A3)
  by_cases c8 : 0 ≤ (ji7)
  ·rw [if_pos c8] at H
   have c8b0 := eq_true c8
   have c8b1 : decide (0 ≤ (ji7)) = true := decide_eq_true c8
   clear c8
   obtain ⟨ji9, hji9⟩ : ∃ j_ : Int, (shr .u32 a1 (ji7)) = j_ := ⟨_, rfl⟩
   replace H : (if 0 ≤ (IntKind.u64.wrap (t368)) then (some (((Go.bits .and .u32 (ji6) 1) == 1), wrap64 (Go.bits .and .u32 (ji9) (((shl .u32 1 (IntKind.u64.wrap (t368))) - 1) % 4294967296)), Go.bits .and .u32 a1 (((shl .u32 1 (ji7)) - 1) % 4294967296))) else (none)) = some (r1, r2, r3) := by first | (rw [hji9] at H; exact H) | (simp only [hji9] at H ⊢; exact H)
   (try rw [hji9] at A3)
   have hji9_ : (a1 / 2 ^ min (ji7).toNat 32) = ji9 := hji9
   have hji9z : (ji7) ≤ 32 → (a1 / 2 ^ (ji7).toNat) = ji9 := shr_small hji9
   obtain ⟨ji10, hji10⟩ : ∃ j_ : Int, (IntKind.u64.wrap (t368)) = j_ := ⟨_, rfl⟩
   replace H : (if 0 ≤ (ji10) then (some (((Go.bits .and .u32 (ji6) 1) == 1), wrap64 (Go.bits .and .u32 (ji9) (((shl .u32 1 (ji10)) - 1) % 4294967296)), Go.bits .and .u32 a1 (((shl .u32 1 (ji7)) - 1) % 4294967296))) else (none)) = some (r1, r2, r3) := by first | (rw [hji10] at H; exact H) | (simp only [hji10] at H ⊢; exact H)
   (try rw [hji10] at A3)
   by_cases c11 : 0 ≤ (ji10)
   ·rw [if_pos c11] at H
    have c11b0 := eq_true c11
    have c11b1 : decide (0 ≤ (ji10)) = true := decide_eq_true c11
    clear c11
    obtain ⟨ji12, hji12⟩ : ∃ j_ : Int, (shl .u32 1 (ji10)) = j_ := ⟨_, rfl⟩
    replace H : (some (((Go.bits .and .u32 (ji6) 1) == 1), wrap64 (Go.bits .and .u32 (ji9) (((ji12) - 1) % 4294967296)), Go.bits .and .u32 a1 (((shl .u32 1 (ji7)) - 1) % 4294967296))) = some (r1, r2, r3) := by first | (rw [hji12] at H; exact H) | (simp only [hji12] at H ⊢; exact H)
    (try rw [hji12] at A3)
    have hji12_ : (IntKind.u32.wrap (1 * 2 ^ min (ji10).toNat 32)) = ji12 := hji12
    have hji12z : (ji10) ≤ 32 → (IntKind.u32.wrap (1 * 2 ^ (ji10).toNat)) = ji12 := shl_small hji12
    have hji12u : (IntKind.u32.wrap (2 ^ min (ji10).toNat 32)) = ji12 := by have h_ := hji12_; rw [Int.one_mul] at h_; exact h_
    have hji12v : (ji10) ≤ 32 → (IntKind.u32.wrap (2 ^ (ji10).toNat)) = ji12 := fun hle_ => by have h_ := hji12z hle_; rw [Int.one_mul] at h_; exact h_
    obtain ⟨ji13, hji13⟩ : ∃ j_ : Int, (((ji12) - 1) % 4294967296) = j_ := ⟨_, rfl⟩
    replace H : (some (((Go.bits .and .u32 (ji6) 1) == 1), wrap64 (Go.bits .and .u32 (ji9) (ji13)), Go.bits .and .u32 a1 (((shl .u32 1 (ji7)) - 1) % 4294967296))) = some (r1, r2, r3) := by first | (rw [hji13] at H; exact H) | (simp only [hji13] at H ⊢; exact H)
    (try rw [hji13] at A3)
    have hji13l : 0 ≤ ji13 := by rw [← hji13]; exact Int.emod_nonneg _ (by decide)
    have hji13h : ji13 ≤ 4294967295 := by have := Int.emod_lt_of_pos (((ji12) - 1)) (show (0 : Int) < 4294967296 by decide); omega
    have hji13w : (IntKind.u32.wrap ((ji12) - 1)) = ji13 := (u32_w _).trans hji13
    (try (have hji13_ := hji13; simp only [Int.add_emod_emod, Int.emod_add_emod, Int.sub_emod_emod, Int.emod_sub_emod] at hji13_))
    have c14b0 := eq_true (of_decide_eq_true (by first | (with_reducible assumption) | assumption) : 0 ≤ (ji7))
    obtain ⟨ji15, hji15⟩ : ∃ j_ : Int, (shl .u32 1 (ji7)) = j_ := ⟨_, rfl⟩
    replace H : (some (((Go.bits .and .u32 (ji6) 1) == 1), wrap64 (Go.bits .and .u32 (ji9) (ji13)), Go.bits .and .u32 a1 (((ji15) - 1) % 4294967296))) = some (r1, r2, r3) := by first | (rw [hji15] at H; exact H) | (simp only [hji15] at H ⊢; exact H)
    (try rw [hji15] at A3)
    have hji15_ : (IntKind.u32.wrap (1 * 2 ^ min (ji7).toNat 32)) = ji15 := hji15
    have hji15z : (ji7) ≤ 32 → (IntKind.u32.wrap (1 * 2 ^ (ji7).toNat)) = ji15 := shl_small hji15
    have hji15u : (IntKind.u32.wrap (2 ^ min (ji7).toNat 32)) = ji15 := by have h_ := hji15_; rw [Int.one_mul] at h_; exact h_
    have hji15v : (ji7) ≤ 32 → (IntKind.u32.wrap (2 ^ (ji7).toNat)) = ji15 := fun hle_ => by have h_ := hji15z hle_; rw [Int.one_mul] at h_; exact h_
    obtain ⟨ji16, hji16⟩ : ∃ j_ : Int, (((ji15) - 1) % 4294967296) = j_ := ⟨_, rfl⟩
    replace H : (some (((Go.bits .and .u32 (ji6) 1) == 1), wrap64 (Go.bits .and .u32 (ji9) (ji13)), Go.bits .and .u32 a1 (ji16))) = some (r1, r2, r3) := by first | (rw [hji16] at H; exact H) | (simp only [hji16] at H ⊢; exact H)
    (try rw [hji16] at A3)
    have hji16l : 0 ≤ ji16 := by rw [← hji16]; exact Int.emod_nonneg _ (by decide)
    have hji16h : ji16 ≤ 4294967295 := by have := Int.emod_lt_of_pos (((ji15) - 1)) (show (0 : Int) < 4294967296 by decide); omega
    have hji16w : (IntKind.u32.wrap ((ji15) - 1)) = ji16 := (u32_w _).trans hji16
    (try (have hji16_ := hji16; simp only [Int.add_emod_emod, Int.emod_add_emod, Int.sub_emod_emod, Int.emod_sub_emod] at hji16_))
    simp only [Option.some.injEq, Prod.mk.injEq] at H
    obtain ⟨rfl, rfl, rfl⟩ := H
    go_enter Try.func80, Try.ntmps80
    go_wp2_with (first | ((with_reducible refine gate_callee (f := 42) rfl ?_); refine goesL_ (some 11) rfl rfl Try.func42 (by kernel_rfl) rfl #[.int .i64 a0] rfl gl ?_; (with_reducible refine (format_Widths.calls a0 t368 t369 _ A3.out).mono ?_); rintro e w' ⟨rfl, ⟨nd, rfl⟩⟩; refine ⟨_, rfl, ?_⟩))
    go_ret3
    exact ⟨by first | rfl | (simp; done) | (simp only [← hji4, ← hji6, ← hji7, ← hji9, ← hji10, ← hji12, ← hji13, ← hji15, ← hji16] <;> (first | rfl | (simp; done))) | (simp [*]; done) | (congr 1; (try unfold wrap64); omega) | (congr 1; rw [IntKind.wrap_u64]; omega), by repeat (first | exact Drawn0.refl _ | apply Drawn0.step)⟩
   ·rw [if_neg c11] at H
    exact absurd H (by simp)
  ·rw [if_neg c8] at H
   exact absurd H (by simp)
 ·rw [if_neg c5] at H
  exact absurd H (by simp)

/-! ### format_Class: function 61 -/
def format_Class.j0 : Nat → Int → Int → Int → Int → Bool → Option (Int)
 |0, _, _, _, _, _ => none
 |k + 1, x0, x6, x8, x9, x22 => if x22 = true then (some 0) else (if x8 = 0 then (some 1) else ((format_Top.f x0).bind fun t375 => (if x8 < t375 then (some 2) else (if x9 = 0 then (some 3) else (if 0 ≤ (IntKind.u64.wrap (wrap64 (x6 - 1))) then (if (shr .u32 x9 (IntKind.u64.wrap (wrap64 (x6 - 1)))) = 1 then (some 4) else (some 5)) else (none))))))
def format_Class.f (k : Nat) (a0 : Int) (a1 : Int) : Option (Int) := (format_Widths.f a0).bind fun bt370 => ((format_Parts.f a0 a1).bind fun bt372 => (if bt372.2.1 = 0 then (format_Class.j0 k a0 bt370.2 bt372.2.1 bt372.2.2 (bt372.2.2 == 0)) else (format_Class.j0 k a0 bt370.2 bt372.2.1 bt372.2.2 false)))
theorem format_Class.mono_l : ∀ k, (∀ y0 y1 y2 y3 y4, LeO (format_Class.j0 k y0 y1 y2 y3 y4) (format_Class.j0 (k + 1) y0 y1 y2 y3 y4))
 |0 => fun _ _ _ _ _ r h => by simp [format_Class.j0] at h
 |k + 1 => by
  have ih0 := format_Class.mono_l k
  ·intro y0 y1 y2 y3 y4
   unfold format_Class.j0
   repeat' first
   |(with_reducible exact ih0 _ _ _ _ _)
   |(with_reducible exact LeO.refl _)
   |(with_reducible exact LeO.none _)
   |(with_reducible refine LeO.ite ?_ ?_)
   |(with_reducible refine LeO.bind ?_ (fun _ => ?_))
   |exact ih0 _ _ _ _ _
   |exact LeO.none _
   |refine LeO.ite ?_ ?_
   |refine LeO.bind ?_ (fun _ => ?_)
theorem format_Class.mono : ∀ a0 a1 k, LeO (format_Class.f k a0 a1) (format_Class.f (k + 1) a0 a1) := by
 intro a0 a1 k
 have ih0 := format_Class.mono_l k
 unfold format_Class.f
 repeat' first
   |(with_reducible exact ih0 _ _ _ _ _)
   |(with_reducible exact LeO.refl _)
   |(with_reducible exact LeO.none _)
   |(with_reducible refine LeO.ite ?_ ?_)
   |(with_reducible refine LeO.bind ?_ (fun _ => ?_))
   |exact ih0 _ _ _ _ _
   |exact LeO.none _
   |refine LeO.ite ?_ ?_
   |refine LeO.bind ?_ (fun _ => ?_)
set_option maxHeartbeats 8000000 in
set_option maxRecDepth 100000 in
theorem format_Class.calls (k : Nat) (a0 : Int) (a1 : Int) (r : Int) (w : World) (h : format_Class.f k a0 a1 = some r) :
  Calls Try.prog 61 #[.int .i64 a0, .int .u32 a1] w fun e w' => e = .returned (.int .i64 r) ∧ Drawn0 w w' := by
 have H : ((format_Widths.f a0).bind fun bt370 => ((format_Parts.f a0 a1).bind fun bt372 => (if bt372.2.1 = 0 then (format_Class.j0 k a0 bt370.2 bt372.2.1 bt372.2.2 (bt372.2.2 == 0)) else (format_Class.j0 k a0 bt370.2 bt372.2.1 bt372.2.2 false)))) = some r := h
 clear h
 replace H := Option.bind_eq_some_iff.mp H
 obtain ⟨⟨t370, t371⟩, A30, H⟩ := H
 replace H : ((format_Parts.f a0 a1).bind fun bt372 => (if bt372.2.1 = 0 then (format_Class.j0 k a0 t371 bt372.2.1 bt372.2.2 (bt372.2.2 == 0)) else (format_Class.j0 k a0 t371 bt372.2.1 bt372.2.2 false))) = some r := H
 have A3 := Aside0.mk A30
 clear A30
 replace H := Option.bind_eq_some_iff.mp H
 obtain ⟨⟨t372, t373, t374⟩, A40, H⟩ := H
 replace H : (if t373 = 0 then (format_Class.j0 k a0 t371 t373 t374 (t374 == 0)) else (format_Class.j0 k a0 t371 t373 t374 false)) = some r := H
 have A4 := Aside0.mk A40
 clear A40
 have HC5 := Aside0.mk H
 clear H
 go_enter Try.func61, Try.ntmps61
 go_upto_region 3 with (first | ((with_reducible refine gate_callee (f := 42) rfl ?_); refine goesL_ (some 12) rfl rfl Try.func42 (by kernel_rfl) rfl #[.int .i64 a0] rfl gl ?_; (with_reducible refine (format_Widths.calls a0 t370 t371 _ A3.out).mono ?_); rintro e w' ⟨rfl, ⟨nd, rfl⟩⟩; refine ⟨_, rfl, ?_⟩) | ((with_reducible refine gate_callee (f := 80) rfl ?_); refine goesL_ (some 18) rfl rfl Try.func80 (by kernel_rfl) rfl #[.int .i64 a0, .int .u32 a1] rfl gl ?_; (with_reducible refine (format_Parts.calls a0 a1 t372 t373 t374 _ A4.out).mono ?_); rintro e w' ⟨rfl, ⟨nd, rfl⟩⟩; refine ⟨_, rfl, ?_⟩))
 (try simp only [Act.put, sb, sz, ss])
 go_cut [22] (fun v22 wc => ∃ (kq : Nat) (x22_4 : Bool), v22 = .bool x22_4 ∧ Aside0 (format_Class.j0 kq a0 t371 t373 t374 x22_4 = some r) ∧ Aside0 (kq ≤ k) ∧ Drawn0 w wc)
 case first =>
  have H := HC5.out
  clear HC5
  by_cases c6 : t373 = 0
  ·rw [if_pos c6] at H
   have c6b0 : (t373 == 0) = true := beq_iff_eq.mpr c6
   have c6b1 : (t373 != 0) = false := bne_eq_false_iff_eq.mpr c6
   clear c6
   (first | rw [c6b0] | (simp only [i64_w, i32_w]; rw [c6b0]) | skip)
   have H' := Aside0.mk H
   clear H
   go_wp2
   go_meet
   case rel => exact ⟨_, ((t374 == 0)), (by first | rfl | (simp; done) | (simp [*]; done) | (congr 1; (try unfold wrap64); omega) | (congr 1; rw [IntKind.wrap_u64]; omega)), H', ⟨by first | omega | exact Nat.le_refl _⟩, by repeat (first | exact Drawn0.refl _ | apply Drawn0.step)⟩
  ·rw [if_neg c6] at H
   have c6b0 : (t373 == 0) = false := beq_eq_false_iff_ne.mpr c6
   have c6b1 : (t373 != 0) = true := bne_iff_ne.mpr c6
   (first | rw [c6b0] | (simp only [i64_w, i32_w]; rw [c6b0]) | skip)
   have H' := Aside0.mk H
   clear H
   go_wp2
   go_meet
   case rel => exact ⟨_, (false), (by first | rfl | (simp; done) | (simp [*]; done) | (congr 1; (try unfold wrap64); omega) | (congr 1; rw [IntKind.wrap_u64]; omega)), H', ⟨by first | omega | exact Nat.le_refl _⟩, by repeat (first | exact Drawn0.refl _ | apply Drawn0.step)⟩
 case rest =>
  clear HC5
  try clear p2 c4 c6 c6b0 c6b1 p6
  obtain ⟨kq, x22_4, rfl, HA, HJ4, ⟨mc4, rfl⟩⟩ := hcut
  cases kq with
  |zero => exact absurd HA.out (by simp [format_Class.j0])
  |succ kj4 =>
   have H := HA.out
   clear HA
   simp only [format_Class.j0] at H
   by_cases c7 : x22_4 = true
   ·subst c7
    have H1 : (some 0) = some r := by rw [if_pos rfl] at H; exact H
    clear H
    have H := H1
    clear H1
    obtain rfl := Option.some.inj H
    go_wp2
    go_ret
    exact ⟨by first | rfl | (simp; done) | (simp [*]; done) | (congr 1; (try unfold wrap64); omega) | (congr 1; rw [IntKind.wrap_u64]; omega), by repeat (first | exact Drawn0.refl _ | apply Drawn0.step)⟩
   ·replace c7 := Bool.eq_false_iff.mpr c7
    subst c7
    have H1 : (if t373 = 0 then (some 1) else ((format_Top.f a0).bind fun t375 => (if t373 < t375 then (some 2) else (if t374 = 0 then (some 3) else (if 0 ≤ (IntKind.u64.wrap (wrap64 (t371 - 1))) then (if (shr .u32 t374 (IntKind.u64.wrap (wrap64 (t371 - 1)))) = 1 then (some 4) else (some 5)) else (none)))))) = some r := by rw [if_neg (show ¬ (false = true) by decide)] at H; exact H
    clear H
    have H := H1
    clear H1
    by_cases c8 : t373 = 0
    ·rw [if_pos c8] at H
     have c8b0 : (t373 == 0) = true := beq_iff_eq.mpr c8
     have c8b1 : (t373 != 0) = false := bne_eq_false_iff_eq.mpr c8
     clear c8
     obtain rfl := Option.some.inj H
     go_wp2
     go_ret
     exact ⟨by first | rfl | (simp; done) | (simp [*]; done) | (congr 1; (try unfold wrap64); omega) | (congr 1; rw [IntKind.wrap_u64]; omega), by repeat (first | exact Drawn0.refl _ | apply Drawn0.step)⟩
    ·rw [if_neg c8] at H
     have c8b0 : (t373 == 0) = false := beq_eq_false_iff_ne.mpr c8
     have c8b1 : (t373 != 0) = true := bne_iff_ne.mpr c8
     replace H := Option.bind_eq_some_iff.mp H
     obtain ⟨t375, A90, H⟩ := H
     replace H : (if t373 < t375 then (some 2) else (if t374 = 0 then (some 3) else (if 0 ≤ (IntKind.u64.wrap (wrap64 (t371 - 1))) then (if (shr .u32 t374 (IntKind.u64.wrap (wrap64 (t371 - 1)))) = 1 then (some 4) else (some 5)) else (none)))) = some r := H
     have A9 := Aside0.mk A90
     clear A90
     by_cases c10 : t373 < t375
     ·rw [if_pos c10] at H
      have c10b0 : decide (t373 < t375) = true := decide_eq_true c10
      clear c10
      obtain rfl := Option.some.inj H
      go_wp2_with (first | ((with_reducible refine gate_callee (f := 47) rfl ?_); refine goesL_ (some 35) rfl rfl Try.func47 (by kernel_rfl) rfl #[.int .i64 a0] rfl gl ?_; (with_reducible refine (format_Top.calls a0 t375 _ A9.out).mono ?_); rintro e w' ⟨rfl, ⟨nd, rfl⟩⟩; refine ⟨_, rfl, ?_⟩))
      go_ret
      exact ⟨by first | rfl | (simp; done) | (simp [*]; done) | (congr 1; (try unfold wrap64); omega) | (congr 1; rw [IntKind.wrap_u64]; omega), by repeat (first | exact Drawn0.refl _ | apply Drawn0.step)⟩
     ·rw [if_neg c10] at H
      have c10b0 : decide (t373 < t375) = false := decide_eq_false c10
      clear c10
      by_cases c11 : t374 = 0
      ·rw [if_pos c11] at H
       have c11b0 : (t374 == 0) = true := beq_iff_eq.mpr c11
       have c11b1 : (t374 != 0) = false := bne_eq_false_iff_eq.mpr c11
       clear c11
       obtain rfl := Option.some.inj H
       go_wp2_with (first | ((with_reducible refine gate_callee (f := 47) rfl ?_); refine goesL_ (some 35) rfl rfl Try.func47 (by kernel_rfl) rfl #[.int .i64 a0] rfl gl ?_; (with_reducible refine (format_Top.calls a0 t375 _ A9.out).mono ?_); rintro e w' ⟨rfl, ⟨nd, rfl⟩⟩; refine ⟨_, rfl, ?_⟩))
       go_ret
       exact ⟨by first | rfl | (simp; done) | (simp [*]; done) | (congr 1; (try unfold wrap64); omega) | (congr 1; rw [IntKind.wrap_u64]; omega), by repeat (first | exact Drawn0.refl _ | apply Drawn0.step)⟩
      ·rw [if_neg c11] at H
       have c11b0 : (t374 == 0) = false := beq_eq_false_iff_ne.mpr c11
       have c11b1 : (t374 != 0) = true := bne_iff_ne.mpr c11
       obtain ⟨ji12, hji12⟩ : ∃ j_ : Int, (IntKind.u64.wrap (wrap64 (t371 - 1))) = j_ := ⟨_, rfl⟩
       replace H : (if 0 ≤ (ji12) then (if (shr .u32 t374 (ji12)) = 1 then (some 4) else (some 5)) else (none)) = some r := by first | (rw [hji12] at H; exact H) | (simp only [hji12] at H ⊢; exact H)
       (try rw [hji12] at A9)
       by_cases c13 : 0 ≤ (ji12)
       ·rw [if_pos c13] at H
        have c13b0 := eq_true c13
        have c13b1 : decide (0 ≤ (ji12)) = true := decide_eq_true c13
        clear c13
        obtain ⟨ji14, hji14⟩ : ∃ j_ : Int, (shr .u32 t374 (ji12)) = j_ := ⟨_, rfl⟩
        replace H : (if (ji14) = 1 then (some 4) else (some 5)) = some r := by first | (rw [hji14] at H; exact H) | (simp only [hji14] at H ⊢; exact H)
        (try rw [hji14] at A9)
        have hji14_ : (t374 / 2 ^ min (ji12).toNat 32) = ji14 := hji14
        have hji14z : (ji12) ≤ 32 → (t374 / 2 ^ (ji12).toNat) = ji14 := shr_small hji14
        by_cases c15 : (ji14) = 1
        ·rw [if_pos c15] at H
         have c15b0 : ((ji14) == 1) = true := beq_iff_eq.mpr c15
         have c15b1 : ((ji14) != 1) = false := bne_eq_false_iff_eq.mpr c15
         clear c15
         obtain rfl := Option.some.inj H
         go_wp2_with (first | ((with_reducible refine gate_callee (f := 47) rfl ?_); refine goesL_ (some 35) rfl rfl Try.func47 (by kernel_rfl) rfl #[.int .i64 a0] rfl gl ?_; (with_reducible refine (format_Top.calls a0 t375 _ A9.out).mono ?_); rintro e w' ⟨rfl, ⟨nd, rfl⟩⟩; refine ⟨_, rfl, ?_⟩))
         go_ret
         exact ⟨by first | rfl | (simp; done) | (simp only [← hji12, ← hji14] <;> (first | rfl | (simp; done))) | (simp [*]; done) | (congr 1; (try unfold wrap64); omega) | (congr 1; rw [IntKind.wrap_u64]; omega), by repeat (first | exact Drawn0.refl _ | apply Drawn0.step)⟩
        ·rw [if_neg c15] at H
         have c15b0 : ((ji14) == 1) = false := beq_eq_false_iff_ne.mpr c15
         have c15b1 : ((ji14) != 1) = true := bne_iff_ne.mpr c15
         obtain rfl := Option.some.inj H
         go_wp2_with (first | ((with_reducible refine gate_callee (f := 47) rfl ?_); refine goesL_ (some 35) rfl rfl Try.func47 (by kernel_rfl) rfl #[.int .i64 a0] rfl gl ?_; (with_reducible refine (format_Top.calls a0 t375 _ A9.out).mono ?_); rintro e w' ⟨rfl, ⟨nd, rfl⟩⟩; refine ⟨_, rfl, ?_⟩))
         go_ret
         exact ⟨by first | rfl | (simp; done) | (simp only [← hji12, ← hji14] <;> (first | rfl | (simp; done))) | (simp [*]; done) | (congr 1; (try unfold wrap64); omega) | (congr 1; rw [IntKind.wrap_u64]; omega), by repeat (first | exact Drawn0.refl _ | apply Drawn0.step)⟩
       ·rw [if_neg c13] at H
        exact absurd H (by simp)

/-! ### format_Nan: function 62 -/
def format_Nan.f (a0 : Int) : Option (Int) := (format_Widths.f a0).bind fun bt376 => ((format_Top.f a0).bind fun t378 => (if 0 ≤ (IntKind.u64.wrap (wrap64 (bt376.2 - 1))) then ((format_Join.f a0 false t378 (shl .u32 1 (IntKind.u64.wrap (wrap64 (bt376.2 - 1))))).bind fun t379 => (some t379)) else (none)))
set_option maxHeartbeats 8000000 in
set_option maxRecDepth 100000 in
theorem format_Nan.calls (a0 : Int) (r : Int) (w : World) (h : format_Nan.f a0 = some r) :
  Calls Try.prog 62 #[.int .i64 a0] w fun e w' => e = .returned (.int .u32 r) ∧ Drawn0 w w' := by
 have H : ((format_Widths.f a0).bind fun bt376 => ((format_Top.f a0).bind fun t378 => (if 0 ≤ (IntKind.u64.wrap (wrap64 (bt376.2 - 1))) then ((format_Join.f a0 false t378 (shl .u32 1 (IntKind.u64.wrap (wrap64 (bt376.2 - 1))))).bind fun t379 => (some t379)) else (none)))) = some r := h
 clear h
 replace H := Option.bind_eq_some_iff.mp H
 obtain ⟨⟨t376, t377⟩, A20, H⟩ := H
 replace H : ((format_Top.f a0).bind fun t378 => (if 0 ≤ (IntKind.u64.wrap (wrap64 (t377 - 1))) then ((format_Join.f a0 false t378 (shl .u32 1 (IntKind.u64.wrap (wrap64 (t377 - 1))))).bind fun t379 => (some t379)) else (none))) = some r := H
 have A2 := Aside0.mk A20
 clear A20
 replace H := Option.bind_eq_some_iff.mp H
 obtain ⟨t378, A30, H⟩ := H
 replace H : (if 0 ≤ (IntKind.u64.wrap (wrap64 (t377 - 1))) then ((format_Join.f a0 false t378 (shl .u32 1 (IntKind.u64.wrap (wrap64 (t377 - 1))))).bind fun t379 => (some t379)) else (none)) = some r := H
 have A3 := Aside0.mk A30
 clear A30
 obtain ⟨ji4, hji4⟩ : ∃ j_ : Int, (IntKind.u64.wrap (wrap64 (t377 - 1))) = j_ := ⟨_, rfl⟩
 replace H : (if 0 ≤ (ji4) then ((format_Join.f a0 false t378 (shl .u32 1 (ji4))).bind fun t379 => (some t379)) else (none)) = some r := by first | (rw [hji4] at H; exact H) | (simp only [hji4] at H ⊢; exact H)
 (try rw [hji4] at A2)
 (try rw [hji4] at A3)
 by_cases c5 : 0 ≤ (ji4)
 ·rw [if_pos c5] at H
  have c5b0 := eq_true c5
  have c5b1 : decide (0 ≤ (ji4)) = true := decide_eq_true c5
  clear c5
  obtain ⟨ji6, hji6⟩ : ∃ j_ : Int, (shl .u32 1 (ji4)) = j_ := ⟨_, rfl⟩
  replace H : ((format_Join.f a0 false t378 (ji6)).bind fun t379 => (some t379)) = some r := by first | (rw [hji6] at H; exact H) | (simp only [hji6] at H ⊢; exact H)
  (try rw [hji6] at A2)
  (try rw [hji6] at A3)
  have hji6_ : (IntKind.u32.wrap (1 * 2 ^ min (ji4).toNat 32)) = ji6 := hji6
  have hji6z : (ji4) ≤ 32 → (IntKind.u32.wrap (1 * 2 ^ (ji4).toNat)) = ji6 := shl_small hji6
  have hji6u : (IntKind.u32.wrap (2 ^ min (ji4).toNat 32)) = ji6 := by have h_ := hji6_; rw [Int.one_mul] at h_; exact h_
  have hji6v : (ji4) ≤ 32 → (IntKind.u32.wrap (2 ^ (ji4).toNat)) = ji6 := fun hle_ => by have h_ := hji6z hle_; rw [Int.one_mul] at h_; exact h_
  replace H := Option.bind_eq_some_iff.mp H
  obtain ⟨t379, A70, H⟩ := H
  replace H : (some t379) = some r := H
  have A7 := Aside0.mk A70
  clear A70
  obtain rfl := Option.some.inj H
  go_enter Try.func62, Try.ntmps62
  go_wp2_with (first | ((with_reducible refine gate_callee (f := 42) rfl ?_); refine goesL_ (some 7) rfl rfl Try.func42 (by kernel_rfl) rfl #[.int .i64 a0] rfl gl ?_; (with_reducible refine (format_Widths.calls a0 t376 t377 _ A2.out).mono ?_); rintro e w' ⟨rfl, ⟨nd, rfl⟩⟩; refine ⟨_, rfl, ?_⟩) | ((with_reducible refine gate_callee (f := 47) rfl ?_); refine goesL_ (some 12) rfl rfl Try.func47 (by kernel_rfl) rfl #[.int .i64 a0] rfl gl ?_; (with_reducible refine (format_Top.calls a0 t378 _ A3.out).mono ?_); rintro e w' ⟨rfl, ⟨nd, rfl⟩⟩; refine ⟨_, rfl, ?_⟩) | ((with_reducible refine gate_callee (f := 50) rfl ?_); refine goesL_ (some 17) rfl rfl Try.func50 (by kernel_rfl) rfl #[.int .i64 a0, .bool false, .int .i64 t378, .int .u32 ji6] rfl (by (try simp only [List.map_toArray, List.map_cons, List.map_nil]); first | done | (simp only [hji6]; rfl) | rfl | (simp only [List.length_drop, List.length_take]; rfl)) ?_; (with_reducible refine (format_Join.calls a0 false t378 ji6 t379 _ A7.out).mono ?_); rintro e w' ⟨rfl, ⟨nd, rfl⟩⟩; refine ⟨_, rfl, ?_⟩))
  go_ret
  exact ⟨by first | rfl | (simp; done) | (simp only [← hji4, ← hji6] <;> (first | rfl | (simp; done))) | (simp [*]; done) | (congr 1; (try unfold wrap64); omega) | (congr 1; rw [IntKind.wrap_u64]; omega), by repeat (first | exact Drawn0.refl _ | apply Drawn0.step)⟩
 ·rw [if_neg c5] at H
  exact absurd H (by simp)

/-! ### sum_Bad: function 63 -/
def sum_Bad.f (a0 : Int) : Option (Int × Bool × Bool × Bool × Bool × Bool) := (format_Nan.f a0).bind fun t381 => (some (t381, true, false, false, false, false))
set_option maxHeartbeats 8000000 in
set_option maxRecDepth 100000 in
theorem sum_Bad.calls (a0 : Int) (r1 : Int) (r2 : Bool) (r3 : Bool) (r4 : Bool) (r5 : Bool) (r6 : Bool) (w : World) (h : sum_Bad.f a0 = some (r1, r2, r3, r4, r5, r6)) :
  Calls Try.prog 63 #[.int .i64 a0] w fun e w' => e = .returned (.tuple #[.int .u32 r1, .agg #[.bool r2, .bool r3, .bool r4, .bool r5, .bool r6]]) ∧ Below w.heap.size w w' := by
 have hu30 := Try.underlying30
 have HB := Aside0.mk (Below.refl w.heap.size w)
 have H : ((format_Nan.f a0).bind fun t381 => (some (t381, true, false, false, false, false))) = some (r1, r2, r3, r4, r5, r6) := h
 clear h
 replace H := Option.bind_eq_some_iff.mp H
 obtain ⟨t381, A20, H⟩ := H
 replace H : (some (t381, true, false, false, false, false)) = some (r1, r2, r3, r4, r5, r6) := H
 have A2 := Aside0.mk A20
 clear A20
 simp only [Option.some.injEq, Prod.mk.injEq] at H
 obtain ⟨rfl, rfl, rfl, rfl, rfl, rfl⟩ := H
 go_enter Try.func63, Try.ntmps63
 go_wp2_with (first | ((with_reducible refine gate_dst (N := 3) rfl ?_); refine box_event ?hg (N := 3) ?hd (cs := F5) (t := 30) ?hr ?_; (case hd => rfl); (case hg => rfl); (case hr => first | (go_simp; done) | (go_simp; rfl)); intro gb380 hg w3 hbox hb; have n0_ := Aside0.mk (below_step (bl0 HB.out) hb); have n1_ := Aside0.mk (hbox); have n2_ := Aside0.mk ((by rw [hg]; exact (below_size (bl0 HB.out)) : w.heap.size ≤ gb380)); have n3_ := n2_; clear HB; have HB := n0_; have BK380 := n1_; have GW380 := n2_; have GE380 := n3_; clear n0_ n1_ n2_ n3_; clear hb hbox hg) | ((with_reducible refine gate_callee (f := 62) rfl ?_); refine goesL_ (some 5) rfl rfl Try.func62 (by kernel_rfl) rfl #[.int .i64 a0] rfl gl ?_; (with_reducible refine (format_Nan.calls a0 t381 _ A2.out).mono ?_); rintro e w' ⟨rfl, ⟨nd, rfl⟩⟩; refine ⟨_, rfl, ?_⟩; (try (rw [drewN_self w3]; generalize hq_ : World.drewN w3 _ = w3; have n0_ : Aside0 (w3.heap[gb380]? = some (.cells #[.bool false, .bool false, .bool false, .bool false, .bool false] 30 (0, 0))) := ⟨by rw [← hq_]; exact (bv BK380.out)⟩; have n1_ : Aside0 (Below w.heap.size w w3) := ⟨by rw [← hq_]; exact (bl1 HB.out GE380.out)⟩; clear BK380 HB hq_; have BK380 := n0_; have HB := n1_; clear n0_ n1_)); obtain ⟨hcz4_0, hcz4_1, hcz4_2, hcz4_3, hcz4_4⟩ := bc5 BK380.out; obtain ⟨hfz4_0, hfz4_1, hfz4_2, hfz4_3, hfz4_4⟩ := bf5 BK380.out))
 refine bodyPost_ret (results_tc rfl _ _ gb380 30 #[.bool true, .bool false, .bool false, .bool false, .bool false] (0, 0) _ rfl (by (with_reducible repeat first | apply bd | apply be | apply ba); refine blk_put (cs := #[.bool true, .bool false, .bool false, .bool false, .bool false]) ?_ 4 _ rfl; (with_reducible repeat first | apply bd | apply be | apply ba); refine blk_put (cs := #[.bool true, .bool false, .bool false, .bool false, .bool false]) ?_ 3 _ rfl; (with_reducible repeat first | apply bd | apply be | apply ba); refine blk_put (cs := #[.bool true, .bool false, .bool false, .bool false, .bool false]) ?_ 2 _ rfl; (with_reducible repeat first | apply bd | apply be | apply ba); refine blk_put (cs := #[.bool true, .bool false, .bool false, .bool false, .bool false]) ?_ 1 _ rfl; (with_reducible repeat first | apply bd | apply be | apply ba); refine blk_put (cs := F5) ?_ 0 _ rfl; (with_reducible repeat first | apply bd | apply be | apply ba); exact BK380.out) Try.underlying30 rfl (by kernel_rfl)) rfl ?_
 exact ⟨by first | rfl | (simp [errW_none, errW_some] <;> rfl) | (simp [*, errW_none, errW_some] <;> rfl), bl1 HB.out GE380.out⟩

/-! ### format_Neg: function 65 -/
def format_Neg.f (a0 : Int) (a1 : Int) : Option (Bool) := (format_Parts.f a0 a1).bind fun bt382 => (some bt382.1)
set_option maxHeartbeats 8000000 in
set_option maxRecDepth 100000 in
theorem format_Neg.calls (a0 : Int) (a1 : Int) (r : Bool) (w : World) (h : format_Neg.f a0 a1 = some r) :
  Calls Try.prog 65 #[.int .i64 a0, .int .u32 a1] w fun e w' => e = .returned (.bool r) ∧ Drawn0 w w' := by
 have H : ((format_Parts.f a0 a1).bind fun bt382 => (some bt382.1)) = some r := h
 clear h
 replace H := Option.bind_eq_some_iff.mp H
 obtain ⟨⟨t382, t383, t384⟩, A30, H⟩ := H
 replace H : (some t382) = some r := H
 have A3 := Aside0.mk A30
 clear A30
 obtain rfl := Option.some.inj H
 go_enter Try.func65, Try.ntmps65
 go_wp2_with (first | ((with_reducible refine gate_callee (f := 80) rfl ?_); refine goesL_ (some 11) rfl rfl Try.func80 (by kernel_rfl) rfl #[.int .i64 a0, .int .u32 a1] rfl gl ?_; (with_reducible refine (format_Parts.calls a0 a1 t382 t383 t384 _ A3.out).mono ?_); rintro e w' ⟨rfl, ⟨nd, rfl⟩⟩; refine ⟨_, rfl, ?_⟩))
 go_ret
 exact ⟨by first | rfl | (simp; done) | (simp [*]; done) | (congr 1; (try unfold wrap64); omega) | (congr 1; rw [IntKind.wrap_u64]; omega), by repeat (first | exact Drawn0.refl _ | apply Drawn0.step)⟩

end Go.Proofs.Ytoljndjpnbdjmaa.P

-- Printed by a program of this session's out of Lean's print of the translation; Lean checks it.
namespace Go.Proofs.Ytoljndjpnbdjmaa.P
open Go.RowKit Go.Proofs.YtoljndjpnbdjmaaW.PrintWords Go.Proofs.YtoljndjpnbdjmaaW.PrintLast Go.Proofs.YtoljndjpnbdjmaaW.PrintMore
attribute [local go_sem] max2_int min2_int max_two min_two max_three min_three max_four min_four   -- for this text's walks alone
set_option linter.unusedVariables false
set_option linter.unusedSimpArgs false

attribute [local go_sem high] eqA30
/-! ### format_Unpack: function 81 -/
def format_Unpack.f (a0 : Int) (a1 : Int) : Option (Bool × Int × Int) := (format_Widths.f a0).bind fun bt385 => ((format_Parts.f a0 a1).bind fun bt387 => (if bt387.2.1 = 0 then ((format_Least.f a0).bind fun t390 => (some (bt387.1, wrap64 (t390 - bt385.2), IntKind.u64.wrap (bt387.2.2)))) else ((format_Top.f a0).bind fun t391 => (if bt387.2.1 = t391 then (some (bt387.1, 0, 0)) else ((format_Least.f a0).bind fun t392 => (if 0 ≤ (IntKind.u64.wrap (bt385.2)) then (some (bt387.1, wrap64 ((wrap64 ((wrap64 (t392 - bt385.2)) + bt387.2.1)) - 1), Go.bits .or .u64 (IntKind.u64.wrap (bt387.2.2)) (shl .u64 1 (IntKind.u64.wrap (bt385.2))))) else (none)))))))
set_option maxHeartbeats 8000000 in
set_option maxRecDepth 100000 in
theorem format_Unpack.calls (a0 : Int) (a1 : Int) (r1 : Bool) (r2 : Int) (r3 : Int) (w : World) (h : format_Unpack.f a0 a1 = some (r1, r2, r3)) :
  Calls Try.prog 81 #[.int .i64 a0, .int .u32 a1] w fun e w' => e = .returned (.tuple #[.bool r1, .int .i64 r2, .int .u64 r3]) ∧ Drawn0 w w' := by
 have H : ((format_Widths.f a0).bind fun bt385 => ((format_Parts.f a0 a1).bind fun bt387 => (if bt387.2.1 = 0 then ((format_Least.f a0).bind fun t390 => (some (bt387.1, wrap64 (t390 - bt385.2), IntKind.u64.wrap (bt387.2.2)))) else ((format_Top.f a0).bind fun t391 => (if bt387.2.1 = t391 then (some (bt387.1, 0, 0)) else ((format_Least.f a0).bind fun t392 => (if 0 ≤ (IntKind.u64.wrap (bt385.2)) then (some (bt387.1, wrap64 ((wrap64 ((wrap64 (t392 - bt385.2)) + bt387.2.1)) - 1), Go.bits .or .u64 (IntKind.u64.wrap (bt387.2.2)) (shl .u64 1 (IntKind.u64.wrap (bt385.2))))) else (none)))))))) = some (r1, r2, r3) := h
 clear h
 replace H := Option.bind_eq_some_iff.mp H
 obtain ⟨⟨t385, t386⟩, A30, H⟩ := H
 replace H : ((format_Parts.f a0 a1).bind fun bt387 => (if bt387.2.1 = 0 then ((format_Least.f a0).bind fun t390 => (some (bt387.1, wrap64 (t390 - t386), IntKind.u64.wrap (bt387.2.2)))) else ((format_Top.f a0).bind fun t391 => (if bt387.2.1 = t391 then (some (bt387.1, 0, 0)) else ((format_Least.f a0).bind fun t392 => (if 0 ≤ (IntKind.u64.wrap (t386)) then (some (bt387.1, wrap64 ((wrap64 ((wrap64 (t392 - t386)) + bt387.2.1)) - 1), Go.bits .or .u64 (IntKind.u64.wrap (bt387.2.2)) (shl .u64 1 (IntKind.u64.wrap (t386))))) else (none))))))) = some (r1, r2, r3) := H
 have A3 := Aside0.mk A30
 clear A30
 replace H := Option.bind_eq_some_iff.mp H
 obtain ⟨⟨t387, t388, t389⟩, A40, H⟩ := H
 replace H : (if t388 = 0 then ((format_Least.f a0).bind fun t390 => (some (t387, wrap64 (t390 - t386), IntKind.u64.wrap (t389)))) else ((format_Top.f a0).bind fun t391 => (if t388 = t391 then (some (t387, 0, 0)) else ((format_Least.f a0).bind fun t392 => (if 0 ≤ (IntKind.u64.wrap (t386)) then (some (t387, wrap64 ((wrap64 ((wrap64 (t392 - t386)) + t388)) - 1), Go.bits .or .u64 (IntKind.u64.wrap (t389)) (shl .u64 1 (IntKind.u64.wrap (t386))))) else (none)))))) = some (r1, r2, r3) := H
 have A4 := Aside0.mk A40
 clear A40
 by_cases c5 : t388 = 0
 ·rw [if_pos c5] at H
  have c5b0 : (t388 == 0) = true := beq_iff_eq.mpr c5
  have c5b1 : (t388 != 0) = false := bne_eq_false_iff_eq.mpr c5
  clear c5
  replace H := Option.bind_eq_some_iff.mp H
  obtain ⟨t390, A60, H⟩ := H
  replace H : (some (t387, wrap64 (t390 - t386), IntKind.u64.wrap (t389))) = some (r1, r2, r3) := H
  have A6 := Aside0.mk A60
  clear A60
  simp only [Option.some.injEq, Prod.mk.injEq] at H
  obtain ⟨rfl, rfl, rfl⟩ := H
  go_enter Try.func81, Try.ntmps81
  go_wp2_with (first | ((with_reducible refine gate_callee (f := 42) rfl ?_); refine goesL_ (some 14) rfl rfl Try.func42 (by kernel_rfl) rfl #[.int .i64 a0] rfl gl ?_; (with_reducible refine (format_Widths.calls a0 t385 t386 _ A3.out).mono ?_); rintro e w' ⟨rfl, ⟨nd, rfl⟩⟩; refine ⟨_, rfl, ?_⟩) | ((with_reducible refine gate_callee (f := 80) rfl ?_); refine goesL_ (some 20) rfl rfl Try.func80 (by kernel_rfl) rfl #[.int .i64 a0, .int .u32 a1] rfl gl ?_; (with_reducible refine (format_Parts.calls a0 a1 t387 t388 t389 _ A4.out).mono ?_); rintro e w' ⟨rfl, ⟨nd, rfl⟩⟩; refine ⟨_, rfl, ?_⟩) | ((with_reducible refine gate_callee (f := 46) rfl ?_); refine goesL_ (some 29) rfl rfl Try.func46 (by kernel_rfl) rfl #[.int .i64 a0] rfl gl ?_; (with_reducible refine (format_Least.calls a0 t390 _ A6.out).mono ?_); rintro e w' ⟨rfl, ⟨nd, rfl⟩⟩; refine ⟨_, rfl, ?_⟩))
  go_ret3
  exact ⟨by first | rfl | (simp; done) | (simp [*]; done) | (congr 1; (try unfold wrap64); omega) | (congr 1; rw [IntKind.wrap_u64]; omega), by repeat (first | exact Drawn0.refl _ | apply Drawn0.step)⟩
 ·rw [if_neg c5] at H
  have c5b0 : (t388 == 0) = false := beq_eq_false_iff_ne.mpr c5
  have c5b1 : (t388 != 0) = true := bne_iff_ne.mpr c5
  replace H := Option.bind_eq_some_iff.mp H
  obtain ⟨t391, A70, H⟩ := H
  replace H : (if t388 = t391 then (some (t387, 0, 0)) else ((format_Least.f a0).bind fun t392 => (if 0 ≤ (IntKind.u64.wrap (t386)) then (some (t387, wrap64 ((wrap64 ((wrap64 (t392 - t386)) + t388)) - 1), Go.bits .or .u64 (IntKind.u64.wrap (t389)) (shl .u64 1 (IntKind.u64.wrap (t386))))) else (none)))) = some (r1, r2, r3) := H
  have A7 := Aside0.mk A70
  clear A70
  by_cases c8 : t388 = t391
  ·rw [if_pos c8] at H
   have c8b0 : (t388 == t391) = true := beq_iff_eq.mpr c8
   have c8b1 : (t388 != t391) = false := bne_eq_false_iff_eq.mpr c8
   clear c8
   simp only [Option.some.injEq, Prod.mk.injEq] at H
   obtain ⟨rfl, rfl, rfl⟩ := H
   go_enter Try.func81, Try.ntmps81
   go_wp2_with (first | ((with_reducible refine gate_callee (f := 42) rfl ?_); refine goesL_ (some 14) rfl rfl Try.func42 (by kernel_rfl) rfl #[.int .i64 a0] rfl gl ?_; (with_reducible refine (format_Widths.calls a0 t385 t386 _ A3.out).mono ?_); rintro e w' ⟨rfl, ⟨nd, rfl⟩⟩; refine ⟨_, rfl, ?_⟩) | ((with_reducible refine gate_callee (f := 80) rfl ?_); refine goesL_ (some 20) rfl rfl Try.func80 (by kernel_rfl) rfl #[.int .i64 a0, .int .u32 a1] rfl gl ?_; (with_reducible refine (format_Parts.calls a0 a1 t387 t388 t389 _ A4.out).mono ?_); rintro e w' ⟨rfl, ⟨nd, rfl⟩⟩; refine ⟨_, rfl, ?_⟩) | ((with_reducible refine gate_callee (f := 47) rfl ?_); refine goesL_ (some 36) rfl rfl Try.func47 (by kernel_rfl) rfl #[.int .i64 a0] rfl gl ?_; (with_reducible refine (format_Top.calls a0 t391 _ A7.out).mono ?_); rintro e w' ⟨rfl, ⟨nd, rfl⟩⟩; refine ⟨_, rfl, ?_⟩))
   go_ret3
   exact ⟨by first | rfl | (simp; done) | (simp [*]; done) | (congr 1; (try unfold wrap64); omega) | (congr 1; rw [IntKind.wrap_u64]; omega), by repeat (first | exact Drawn0.refl _ | apply Drawn0.step)⟩
  ·rw [if_neg c8] at H
   have c8b0 : (t388 == t391) = false := beq_eq_false_iff_ne.mpr c8
   have c8b1 : (t388 != t391) = true := bne_iff_ne.mpr c8
   replace H := Option.bind_eq_some_iff.mp H
   obtain ⟨t392, A90, H⟩ := H
   replace H : (if 0 ≤ (IntKind.u64.wrap (t386)) then (some (t387, wrap64 ((wrap64 ((wrap64 (t392 - t386)) + t388)) - 1), Go.bits .or .u64 (IntKind.u64.wrap (t389)) (shl .u64 1 (IntKind.u64.wrap (t386))))) else (none)) = some (r1, r2, r3) := H
   have A9 := Aside0.mk A90
   clear A90
   obtain ⟨ji10, hji10⟩ : ∃ j_ : Int, (IntKind.u64.wrap (t386)) = j_ := ⟨_, rfl⟩
   replace H : (if 0 ≤ (ji10) then (some (t387, wrap64 ((wrap64 ((wrap64 (t392 - t386)) + t388)) - 1), Go.bits .or .u64 (IntKind.u64.wrap (t389)) (shl .u64 1 (ji10)))) else (none)) = some (r1, r2, r3) := by first | (rw [hji10] at H; exact H) | (simp only [hji10] at H ⊢; exact H)
   (try rw [hji10] at A3)
   (try rw [hji10] at A4)
   (try rw [hji10] at A7)
   (try rw [hji10] at A9)
   by_cases c11 : 0 ≤ (ji10)
   ·rw [if_pos c11] at H
    have c11b0 := eq_true c11
    have c11b1 : decide (0 ≤ (ji10)) = true := decide_eq_true c11
    clear c11
    obtain ⟨ji12, hji12⟩ : ∃ j_ : Int, (shl .u64 1 (ji10)) = j_ := ⟨_, rfl⟩
    replace H : (some (t387, wrap64 ((wrap64 ((wrap64 (t392 - t386)) + t388)) - 1), Go.bits .or .u64 (IntKind.u64.wrap (t389)) (ji12))) = some (r1, r2, r3) := by first | (rw [hji12] at H; exact H) | (simp only [hji12] at H ⊢; exact H)
    (try rw [hji12] at A3)
    (try rw [hji12] at A4)
    (try rw [hji12] at A7)
    (try rw [hji12] at A9)
    have hji12_ : (IntKind.u64.wrap (1 * 2 ^ min (ji10).toNat 64)) = ji12 := hji12
    have hji12z : (ji10) ≤ 64 → (IntKind.u64.wrap (1 * 2 ^ (ji10).toNat)) = ji12 := shl_small hji12
    have hji12u : (IntKind.u64.wrap (2 ^ min (ji10).toNat 64)) = ji12 := by have h_ := hji12_; rw [Int.one_mul] at h_; exact h_
    have hji12v : (ji10) ≤ 64 → (IntKind.u64.wrap (2 ^ (ji10).toNat)) = ji12 := fun hle_ => by have h_ := hji12z hle_; rw [Int.one_mul] at h_; exact h_
    simp only [Option.some.injEq, Prod.mk.injEq] at H
    obtain ⟨rfl, rfl, rfl⟩ := H
    go_enter Try.func81, Try.ntmps81
    go_wp2_with (first | ((with_reducible refine gate_callee (f := 42) rfl ?_); refine goesL_ (some 14) rfl rfl Try.func42 (by kernel_rfl) rfl #[.int .i64 a0] rfl gl ?_; (with_reducible refine (format_Widths.calls a0 t385 t386 _ A3.out).mono ?_); rintro e w' ⟨rfl, ⟨nd, rfl⟩⟩; refine ⟨_, rfl, ?_⟩) | ((with_reducible refine gate_callee (f := 80) rfl ?_); refine goesL_ (some 20) rfl rfl Try.func80 (by kernel_rfl) rfl #[.int .i64 a0, .int .u32 a1] rfl gl ?_; (with_reducible refine (format_Parts.calls a0 a1 t387 t388 t389 _ A4.out).mono ?_); rintro e w' ⟨rfl, ⟨nd, rfl⟩⟩; refine ⟨_, rfl, ?_⟩) | ((with_reducible refine gate_callee (f := 47) rfl ?_); refine goesL_ (some 36) rfl rfl Try.func47 (by kernel_rfl) rfl #[.int .i64 a0] rfl gl ?_; (with_reducible refine (format_Top.calls a0 t391 _ A7.out).mono ?_); rintro e w' ⟨rfl, ⟨nd, rfl⟩⟩; refine ⟨_, rfl, ?_⟩) | ((with_reducible refine gate_callee (f := 46) rfl ?_); refine goesL_ (some 41) rfl rfl Try.func46 (by kernel_rfl) rfl #[.int .i64 a0] rfl gl ?_; (with_reducible refine (format_Least.calls a0 t392 _ A9.out).mono ?_); rintro e w' ⟨rfl, ⟨nd, rfl⟩⟩; refine ⟨_, rfl, ?_⟩))
    go_ret3
    exact ⟨by first | rfl | (simp; done) | (simp only [← hji10, ← hji12] <;> (first | rfl | (simp; done))) | (simp [*]; done) | (congr 1; (try unfold wrap64); omega) | (congr 1; rw [IntKind.wrap_u64]; omega), by repeat (first | exact Drawn0.refl _ | apply Drawn0.step)⟩
   ·rw [if_neg c11] at H
    exact absurd H (by simp)

/-! ### sum_Of: function 66 -/
def sum_Of.f (a0 : Int) (a1 : Int) : Option (Bool × Int × Int × Bool) := (format_Unpack.f a0 a1).bind fun bt394 => (some (bt394.1, bt394.2.1, bt394.2.2, false))
set_option maxHeartbeats 8000000 in
set_option maxRecDepth 100000 in
theorem sum_Of.calls (a0 : Int) (a1 : Int) (r1 : Bool) (r2 : Int) (r3 : Int) (r4 : Bool) (w : World) (h : sum_Of.f a0 a1 = some (r1, r2, r3, r4)) :
  Calls Try.prog 66 #[.int .i64 a0, .int .u32 a1] w fun e w' => e = .returned (.agg #[.bool r1, .int .i64 r2, .int .u64 r3, .bool r4]) ∧ Below w.heap.size w w' := by
 have hu78 := Try.underlying78
 have HB := Aside0.mk (Below.refl w.heap.size w)
 have H : ((format_Unpack.f a0 a1).bind fun bt394 => (some (bt394.1, bt394.2.1, bt394.2.2, false))) = some (r1, r2, r3, r4) := h
 clear h
 replace H := Option.bind_eq_some_iff.mp H
 obtain ⟨⟨t394, t395, t396⟩, A30, H⟩ := H
 replace H : (some (t394, t395, t396, false)) = some (r1, r2, r3, r4) := H
 have A3 := Aside0.mk A30
 clear A30
 simp only [Option.some.injEq, Prod.mk.injEq] at H
 obtain ⟨rfl, rfl, rfl, rfl⟩ := H
 go_enter Try.func66, Try.ntmps66
 go_wp2_with (first | ((with_reducible refine gate_dst (N := 4) rfl ?_); refine box_event ?hg (N := 4) ?hd (cs := #[.bool false, .int .i64 0, .int .u64 0, .bool false]) (t := 78) ?hr ?_; (case hd => rfl); (case hg => rfl); (case hr => first | (go_simp; done) | (go_simp; rfl)); intro gb393 hg w4 hbox hb; have n0_ := Aside0.mk (below_step (bl0 HB.out) hb); have n1_ := Aside0.mk (hbox); have n2_ := Aside0.mk ((by rw [hg]; exact (below_size (bl0 HB.out)) : w.heap.size ≤ gb393)); have n3_ := n2_; clear HB; have HB := n0_; have BK393 := n1_; have GW393 := n2_; have GE393 := n3_; clear n0_ n1_ n2_ n3_; clear hb hbox hg) | ((with_reducible refine gate_callee (f := 81) rfl ?_); refine goesL_ (some 11) rfl rfl Try.func81 (by kernel_rfl) rfl #[.int .i64 a0, .int .u32 a1] rfl gl ?_; (with_reducible refine (format_Unpack.calls a0 a1 t394 t395 t396 _ A3.out).mono ?_); rintro e w' ⟨rfl, ⟨nd, rfl⟩⟩; refine ⟨_, rfl, ?_⟩; (try (rw [drewN_self w4]; generalize hq_ : World.drewN w4 _ = w4; have n0_ : Aside0 (w4.heap[gb393]? = some (.cells #[.bool false, .int .i64 0, .int .u64 0, .bool false] 78 (0, 0))) := ⟨by rw [← hq_]; exact (bv BK393.out)⟩; have n1_ : Aside0 (Below w.heap.size w w4) := ⟨by rw [← hq_]; exact (bl1 HB.out GE393.out)⟩; clear BK393 HB hq_; have BK393 := n0_; have HB := n1_; clear n0_ n1_)); obtain ⟨hcz5_0, hcz5_1, hcz5_2, hcz5_3⟩ := bc4 BK393.out; obtain ⟨hfz5_0, hfz5_1, hfz5_2, hfz5_3⟩ := bf4 BK393.out))
 refine bodyPost_ret (results_cell_row rfl _ _ gb393 78 #[.bool t394, .int .i64 t395, .int .u64 t396, .bool false] (0, 0) _ rfl (by (with_reducible repeat first | apply bd | apply be | apply ba); refine blk_put (cs := #[.bool t394, .int .i64 t395, .int .u64 t396, .bool false]) ?_ 3 _ rfl; (with_reducible repeat first | apply bd | apply be | apply ba); refine blk_put (cs := #[.bool t394, .int .i64 t395, .int .u64 0, .bool false]) ?_ 2 _ rfl; (with_reducible repeat first | apply bd | apply be | apply ba); refine blk_put (cs := #[.bool t394, .int .i64 0, .int .u64 0, .bool false]) ?_ 1 _ rfl; (with_reducible repeat first | apply bd | apply be | apply ba); refine blk_put (cs := #[.bool false, .int .i64 0, .int .u64 0, .bool false]) ?_ 0 _ rfl; (with_reducible repeat first | apply bd | apply be | apply ba); exact BK393.out) Try.underlying78 rfl (by kernel_rfl)) rfl ?_
 exact ⟨by first | rfl | (simp [errW_none, errW_some] <;> rfl) | (simp [*, errW_none, errW_some] <;> rfl), bl1 HB.out GE393.out⟩

/-! ### conv_To: function 28 -/
def conv_To.f (k : Nat) (a0 : Int) (a1 : Int) (a2 : Int) (a3 : Int) : Option (Int × Bool × Bool × Bool × Bool × Bool) := (format_Class.f k a0 a3).bind fun t398 => (if t398 = 4 then ((format_Nan.f a1).bind fun t399 => (some (t399, false, false, false, false, false))) else (if t398 = 5 then ((sum_Bad.f a1).bind fun bt400 => (some (bt400.1, bt400.2.1, bt400.2.2.1, bt400.2.2.2.1, bt400.2.2.2.2.1, bt400.2.2.2.2.2))) else (if t398 = 3 then ((format_Neg.f a0 a3).bind fun t406 => ((format_Inf.f a1 t406).bind fun t407 => (some (t407, false, false, false, false, false)))) else ((sum_Of.f a0 a3).bind fun bt408 => ((round_Pack.f k a1 a2 bt408.1 bt408.2.1 bt408.2.2.1 false).bind fun bt413 => (some (bt413.1, bt413.2.1, bt413.2.2.1, bt413.2.2.2.1, bt413.2.2.2.2.1, bt413.2.2.2.2.2)))))))
theorem conv_To.mono : ∀ a0 a1 a2 a3 k, LeO (conv_To.f k a0 a1 a2 a3) (conv_To.f (k + 1) a0 a1 a2 a3) := by
 intro a0 a1 a2 a3 k
 unfold conv_To.f
 repeat' first
   |(with_reducible exact format_Class.mono _ _ _)
   |(with_reducible exact round_Pack.mono _ _ _ _ _ _ _)
   |(with_reducible exact LeO.refl _)
   |(with_reducible exact LeO.none _)
   |(with_reducible refine LeO.ite ?_ ?_)
   |(with_reducible refine LeO.bind ?_ (fun _ => ?_))
   |exact format_Class.mono _ _ _
   |exact round_Pack.mono _ _ _ _ _ _ _
   |exact LeO.none _
   |refine LeO.ite ?_ ?_
   |refine LeO.bind ?_ (fun _ => ?_)
set_option maxHeartbeats 8000000 in
set_option maxRecDepth 100000 in
theorem conv_To.calls (k : Nat) (a0 : Int) (a1 : Int) (a2 : Int) (a3 : Int) (r1 : Int) (r2 : Bool) (r3 : Bool) (r4 : Bool) (r5 : Bool) (r6 : Bool) (w : World) (h : conv_To.f k a0 a1 a2 a3 = some (r1, r2, r3, r4, r5, r6)) :
  Calls Try.prog 28 #[.int .i64 a0, .int .i64 a1, .int .i64 a2, .int .u32 a3] w fun e w' => e = .returned (.tuple #[.int .u32 r1, .agg #[.bool r2, .bool r3, .bool r4, .bool r5, .bool r6]]) ∧ Below w.heap.size w w' := by
 have hu30 := Try.underlying30
 have hu78 := Try.underlying78
 have HB := Aside0.mk (Below.refl w.heap.size w)
 have H : ((format_Class.f k a0 a3).bind fun t398 => (if t398 = 4 then ((format_Nan.f a1).bind fun t399 => (some (t399, false, false, false, false, false))) else (if t398 = 5 then ((sum_Bad.f a1).bind fun bt400 => (some (bt400.1, bt400.2.1, bt400.2.2.1, bt400.2.2.2.1, bt400.2.2.2.2.1, bt400.2.2.2.2.2))) else (if t398 = 3 then ((format_Neg.f a0 a3).bind fun t406 => ((format_Inf.f a1 t406).bind fun t407 => (some (t407, false, false, false, false, false)))) else ((sum_Of.f a0 a3).bind fun bt408 => ((round_Pack.f k a1 a2 bt408.1 bt408.2.1 bt408.2.2.1 false).bind fun bt413 => (some (bt413.1, bt413.2.1, bt413.2.2.1, bt413.2.2.2.1, bt413.2.2.2.2.1, bt413.2.2.2.2.2)))))))) = some (r1, r2, r3, r4, r5, r6) := h
 clear h
 replace H := Option.bind_eq_some_iff.mp H
 obtain ⟨t398, A50, H⟩ := H
 replace H : (if t398 = 4 then ((format_Nan.f a1).bind fun t399 => (some (t399, false, false, false, false, false))) else (if t398 = 5 then ((sum_Bad.f a1).bind fun bt400 => (some (bt400.1, bt400.2.1, bt400.2.2.1, bt400.2.2.2.1, bt400.2.2.2.2.1, bt400.2.2.2.2.2))) else (if t398 = 3 then ((format_Neg.f a0 a3).bind fun t406 => ((format_Inf.f a1 t406).bind fun t407 => (some (t407, false, false, false, false, false)))) else ((sum_Of.f a0 a3).bind fun bt408 => ((round_Pack.f k a1 a2 bt408.1 bt408.2.1 bt408.2.2.1 false).bind fun bt413 => (some (bt413.1, bt413.2.1, bt413.2.2.1, bt413.2.2.2.1, bt413.2.2.2.2.1, bt413.2.2.2.2.2))))))) = some (r1, r2, r3, r4, r5, r6) := H
 have A5 := Aside0.mk A50
 clear A50
 by_cases c6 : t398 = 4
 ·rw [if_pos c6] at H
  have c6b0 : (t398 == 4) = true := beq_iff_eq.mpr c6
  have c6b1 : (t398 != 4) = false := bne_eq_false_iff_eq.mpr c6
  clear c6
  replace H := Option.bind_eq_some_iff.mp H
  obtain ⟨t399, A70, H⟩ := H
  replace H : (some (t399, false, false, false, false, false)) = some (r1, r2, r3, r4, r5, r6) := H
  have A7 := Aside0.mk A70
  clear A70
  simp only [Option.some.injEq, Prod.mk.injEq] at H
  obtain ⟨rfl, rfl, rfl, rfl, rfl, rfl⟩ := H
  go_enter Try.func28, Try.ntmps28
  go_wp2_with (first | ((with_reducible refine gate_dst (N := 9) rfl ?_); refine box_event ?hg (N := 9) ?hd (cs := F5) (t := 30) ?hr ?_; (case hd => rfl); (case hg => rfl); (case hr => first | (go_simp; done) | (go_simp; rfl)); intro gb397 hg w8 hbox hb; have n0_ := Aside0.mk (below_step (bl0 HB.out) hb); have n1_ := Aside0.mk (hbox); have n2_ := Aside0.mk ((by rw [hg]; exact (below_size (bl0 HB.out)) : w.heap.size ≤ gb397)); have n3_ := n2_; clear HB; have HB := n0_; have BK397 := n1_; have GW397 := n2_; have GE397 := n3_; clear n0_ n1_ n2_ n3_; clear hb hbox hg) | ((with_reducible refine gate_callee (f := 61) rfl ?_); refine goesL_ (some 13) rfl rfl Try.func61 (by kernel_rfl) rfl #[.int .i64 a0, .int .u32 a3] rfl gl ?_; (with_reducible refine (format_Class.calls k a0 a3 t398 _ A5.out).mono ?_); rintro e w' ⟨rfl, ⟨nd, rfl⟩⟩; refine ⟨_, rfl, ?_⟩; (try (rw [drewN_self w8]; generalize hq_ : World.drewN w8 _ = w8; have n0_ : Aside0 (w8.heap[gb397]? = some (.cells #[.bool false, .bool false, .bool false, .bool false, .bool false] 30 (0, 0))) := ⟨by rw [← hq_]; exact (bv BK397.out)⟩; have n1_ : Aside0 (Below w.heap.size w w8) := ⟨by rw [← hq_]; exact (bl1 HB.out GE397.out)⟩; clear BK397 HB hq_; have BK397 := n0_; have HB := n1_; clear n0_ n1_))) | ((with_reducible refine gate_callee (f := 62) rfl ?_); refine goesL_ (some 17) rfl rfl Try.func62 (by kernel_rfl) rfl #[.int .i64 a1] rfl gl ?_; (with_reducible refine (format_Nan.calls a1 t399 _ A7.out).mono ?_); rintro e w' ⟨rfl, ⟨nd, rfl⟩⟩; refine ⟨_, rfl, ?_⟩; (try (rw [drewN_self w8]; generalize hq_ : World.drewN w8 _ = w8; have n0_ : Aside0 (w8.heap[gb397]? = some (.cells #[.bool false, .bool false, .bool false, .bool false, .bool false] 30 (0, 0))) := ⟨by rw [← hq_]; exact (bv BK397.out)⟩; have n1_ : Aside0 (Below w.heap.size w w8) := ⟨by rw [← hq_]; exact (bl1 HB.out GE397.out)⟩; clear BK397 HB hq_; have BK397 := n0_; have HB := n1_; clear n0_ n1_)); obtain ⟨hcz9_0, hcz9_1, hcz9_2, hcz9_3, hcz9_4⟩ := bc5 BK397.out; obtain ⟨hfz9_0, hfz9_1, hfz9_2, hfz9_3, hfz9_4⟩ := bf5 BK397.out))
  refine bodyPost_ret (results_tc rfl _ _ gb397 30 #[.bool false, .bool false, .bool false, .bool false, .bool false] (0, 0) _ rfl (by (with_reducible repeat first | apply bd | apply be | apply ba); refine blk_put (cs := F5) ?_ 4 _ rfl; (with_reducible repeat first | apply bd | apply be | apply ba); refine blk_put (cs := F5) ?_ 3 _ rfl; (with_reducible repeat first | apply bd | apply be | apply ba); refine blk_put (cs := F5) ?_ 2 _ rfl; (with_reducible repeat first | apply bd | apply be | apply ba); refine blk_put (cs := F5) ?_ 1 _ rfl; (with_reducible repeat first | apply bd | apply be | apply ba); refine blk_put (cs := F5) ?_ 0 _ rfl; (with_reducible repeat first | apply bd | apply be | apply ba); exact BK397.out) Try.underlying30 rfl (by kernel_rfl)) rfl ?_
  exact ⟨by first | rfl | (simp [errW_none, errW_some] <;> rfl) | (simp [*, errW_none, errW_some] <;> rfl), bl1 HB.out GE397.out⟩
 ·rw [if_neg c6] at H
  have c6b0 : (t398 == 4) = false := beq_eq_false_iff_ne.mpr c6
  have c6b1 : (t398 != 4) = true := bne_iff_ne.mpr c6
  by_cases c10 : t398 = 5
  ·rw [if_pos c10] at H
   have c10b0 : (t398 == 5) = true := beq_iff_eq.mpr c10
   have c10b1 : (t398 != 5) = false := bne_eq_false_iff_eq.mpr c10
   clear c10
   replace H := Option.bind_eq_some_iff.mp H
   obtain ⟨⟨t400, t401, t402, t403, t404, t405⟩, A110, H⟩ := H
   replace H : (some (t400, t401, t402, t403, t404, t405)) = some (r1, r2, r3, r4, r5, r6) := H
   have A11 := Aside0.mk A110
   clear A110
   simp only [Option.some.injEq, Prod.mk.injEq] at H
   obtain ⟨rfl, rfl, rfl, rfl, rfl, rfl⟩ := H
   go_enter Try.func28, Try.ntmps28
   go_wp2_with (first | ((with_reducible refine gate_dst (N := 9) rfl ?_); refine box_event ?hg (N := 9) ?hd (cs := F5) (t := 30) ?hr ?_; (case hd => rfl); (case hg => rfl); (case hr => first | (go_simp; done) | (go_simp; rfl)); intro gb397 hg w12 hbox hb; have n0_ := Aside0.mk (below_step (bl0 HB.out) hb); have n1_ := Aside0.mk (hbox); have n2_ := Aside0.mk ((by rw [hg]; exact (below_size (bl0 HB.out)) : w.heap.size ≤ gb397)); have n3_ := n2_; clear HB; have HB := n0_; have BK397 := n1_; have GW397 := n2_; have GE397 := n3_; clear n0_ n1_ n2_ n3_; clear hb hbox hg) | ((with_reducible refine gate_callee (f := 61) rfl ?_); refine goesL_ (some 13) rfl rfl Try.func61 (by kernel_rfl) rfl #[.int .i64 a0, .int .u32 a3] rfl gl ?_; (with_reducible refine (format_Class.calls k a0 a3 t398 _ A5.out).mono ?_); rintro e w' ⟨rfl, ⟨nd, rfl⟩⟩; refine ⟨_, rfl, ?_⟩; (try (rw [drewN_self w12]; generalize hq_ : World.drewN w12 _ = w12; have n0_ : Aside0 (w12.heap[gb397]? = some (.cells #[.bool false, .bool false, .bool false, .bool false, .bool false] 30 (0, 0))) := ⟨by rw [← hq_]; exact (bv BK397.out)⟩; have n1_ : Aside0 (Below w.heap.size w w12) := ⟨by rw [← hq_]; exact (bl1 HB.out GE397.out)⟩; clear BK397 HB hq_; have BK397 := n0_; have HB := n1_; clear n0_ n1_))) | ((with_reducible refine gate_callee (f := 63) rfl ?_); refine goesL_ (some 22) rfl rfl Try.func63 (by kernel_rfl) rfl #[.int .i64 a1] rfl gl ?_; (with_reducible refine (sum_Bad.calls a1 t400 t401 t402 t403 t404 t405 _ A11.out).mono ?_); rintro e w13 ⟨rfl, hb⟩; refine ⟨_, rfl, ?_⟩; have n0_ := Aside0.mk (blk_below (g := gb397) (o := .cells #[.bool false, .bool false, .bool false, .bool false, .bool false] 30 (0, 0)) (bv BK397.out) hb); have n1_ := Aside0.mk (below_step (bl1 HB.out GE397.out) hb); clear BK397; clear HB; have BK397 := n0_; have HB := n1_; clear n0_ n1_; obtain ⟨hcz14_0, hcz14_1, hcz14_2, hcz14_3, hcz14_4⟩ := bc5 BK397.out; obtain ⟨hfz14_0, hfz14_1, hfz14_2, hfz14_3, hfz14_4⟩ := bf5 BK397.out))
   refine bodyPost_ret (results_tc rfl _ _ gb397 30 #[.bool t401, .bool t402, .bool t403, .bool t404, .bool t405] (0, 0) _ rfl (by (with_reducible repeat first | apply bd | apply be | apply ba); refine blk_put (cs := #[.bool t401, .bool t402, .bool t403, .bool t404, .bool false]) ?_ 4 _ rfl; (with_reducible repeat first | apply bd | apply be | apply ba); refine blk_put (cs := #[.bool t401, .bool t402, .bool t403, .bool false, .bool false]) ?_ 3 _ rfl; (with_reducible repeat first | apply bd | apply be | apply ba); refine blk_put (cs := #[.bool t401, .bool t402, .bool false, .bool false, .bool false]) ?_ 2 _ rfl; (with_reducible repeat first | apply bd | apply be | apply ba); refine blk_put (cs := #[.bool t401, .bool false, .bool false, .bool false, .bool false]) ?_ 1 _ rfl; (with_reducible repeat first | apply bd | apply be | apply ba); refine blk_put (cs := F5) ?_ 0 _ rfl; (with_reducible repeat first | apply bd | apply be | apply ba); exact BK397.out) Try.underlying30 rfl (by kernel_rfl)) rfl ?_
   exact ⟨by first | rfl | (simp [errW_none, errW_some] <;> rfl) | (simp [*, errW_none, errW_some] <;> rfl), bl1 HB.out GE397.out⟩
  ·rw [if_neg c10] at H
   have c10b0 : (t398 == 5) = false := beq_eq_false_iff_ne.mpr c10
   have c10b1 : (t398 != 5) = true := bne_iff_ne.mpr c10
   by_cases c15 : t398 = 3
   ·rw [if_pos c15] at H
    have c15b0 : (t398 == 3) = true := beq_iff_eq.mpr c15
    have c15b1 : (t398 != 3) = false := bne_eq_false_iff_eq.mpr c15
    clear c15
    replace H := Option.bind_eq_some_iff.mp H
    obtain ⟨t406, A160, H⟩ := H
    replace H : ((format_Inf.f a1 t406).bind fun t407 => (some (t407, false, false, false, false, false))) = some (r1, r2, r3, r4, r5, r6) := H
    have A16 := Aside0.mk A160
    clear A160
    replace H := Option.bind_eq_some_iff.mp H
    obtain ⟨t407, A170, H⟩ := H
    replace H : (some (t407, false, false, false, false, false)) = some (r1, r2, r3, r4, r5, r6) := H
    have A17 := Aside0.mk A170
    clear A170
    simp only [Option.some.injEq, Prod.mk.injEq] at H
    obtain ⟨rfl, rfl, rfl, rfl, rfl, rfl⟩ := H
    go_enter Try.func28, Try.ntmps28
    go_wp2_with (first | ((with_reducible refine gate_dst (N := 9) rfl ?_); refine box_event ?hg (N := 9) ?hd (cs := F5) (t := 30) ?hr ?_; (case hd => rfl); (case hg => rfl); (case hr => first | (go_simp; done) | (go_simp; rfl)); intro gb397 hg w18 hbox hb; have n0_ := Aside0.mk (below_step (bl0 HB.out) hb); have n1_ := Aside0.mk (hbox); have n2_ := Aside0.mk ((by rw [hg]; exact (below_size (bl0 HB.out)) : w.heap.size ≤ gb397)); have n3_ := n2_; clear HB; have HB := n0_; have BK397 := n1_; have GW397 := n2_; have GE397 := n3_; clear n0_ n1_ n2_ n3_; clear hb hbox hg) | ((with_reducible refine gate_callee (f := 61) rfl ?_); refine goesL_ (some 13) rfl rfl Try.func61 (by kernel_rfl) rfl #[.int .i64 a0, .int .u32 a3] rfl gl ?_; (with_reducible refine (format_Class.calls k a0 a3 t398 _ A5.out).mono ?_); rintro e w' ⟨rfl, ⟨nd, rfl⟩⟩; refine ⟨_, rfl, ?_⟩; (try (rw [drewN_self w18]; generalize hq_ : World.drewN w18 _ = w18; have n0_ : Aside0 (w18.heap[gb397]? = some (.cells #[.bool false, .bool false, .bool false, .bool false, .bool false] 30 (0, 0))) := ⟨by rw [← hq_]; exact (bv BK397.out)⟩; have n1_ : Aside0 (Below w.heap.size w w18) := ⟨by rw [← hq_]; exact (bl1 HB.out GE397.out)⟩; clear BK397 HB hq_; have BK397 := n0_; have HB := n1_; clear n0_ n1_))) | ((with_reducible refine gate_callee (f := 65) rfl ?_); refine goesL_ (some 30) rfl rfl Try.func65 (by kernel_rfl) rfl #[.int .i64 a0, .int .u32 a3] rfl gl ?_; (with_reducible refine (format_Neg.calls a0 a3 t406 _ A16.out).mono ?_); rintro e w' ⟨rfl, ⟨nd, rfl⟩⟩; refine ⟨_, rfl, ?_⟩; (try (rw [drewN_self w18]; generalize hq_ : World.drewN w18 _ = w18; have n0_ : Aside0 (w18.heap[gb397]? = some (.cells #[.bool false, .bool false, .bool false, .bool false, .bool false] 30 (0, 0))) := ⟨by rw [← hq_]; exact (bv BK397.out)⟩; have n1_ : Aside0 (Below w.heap.size w w18) := ⟨by rw [← hq_]; exact (bl1 HB.out GE397.out)⟩; clear BK397 HB hq_; have BK397 := n0_; have HB := n1_; clear n0_ n1_))) | ((with_reducible refine gate_callee (f := 64) rfl ?_); refine goesL_ (some 31) rfl rfl Try.func64 (by kernel_rfl) rfl #[.int .i64 a1, .bool t406] rfl gl ?_; (with_reducible refine (format_Inf.calls a1 t406 t407 _ A17.out).mono ?_); rintro e w' ⟨rfl, ⟨nd, rfl⟩⟩; refine ⟨_, rfl, ?_⟩; (try (rw [drewN_self w18]; generalize hq_ : World.drewN w18 _ = w18; have n0_ : Aside0 (w18.heap[gb397]? = some (.cells #[.bool false, .bool false, .bool false, .bool false, .bool false] 30 (0, 0))) := ⟨by rw [← hq_]; exact (bv BK397.out)⟩; have n1_ : Aside0 (Below w.heap.size w w18) := ⟨by rw [← hq_]; exact (bl1 HB.out GE397.out)⟩; clear BK397 HB hq_; have BK397 := n0_; have HB := n1_; clear n0_ n1_)); obtain ⟨hcz19_0, hcz19_1, hcz19_2, hcz19_3, hcz19_4⟩ := bc5 BK397.out; obtain ⟨hfz19_0, hfz19_1, hfz19_2, hfz19_3, hfz19_4⟩ := bf5 BK397.out))
    refine bodyPost_ret (results_tc rfl _ _ gb397 30 #[.bool false, .bool false, .bool false, .bool false, .bool false] (0, 0) _ rfl (by (with_reducible repeat first | apply bd | apply be | apply ba); refine blk_put (cs := F5) ?_ 4 _ rfl; (with_reducible repeat first | apply bd | apply be | apply ba); refine blk_put (cs := F5) ?_ 3 _ rfl; (with_reducible repeat first | apply bd | apply be | apply ba); refine blk_put (cs := F5) ?_ 2 _ rfl; (with_reducible repeat first | apply bd | apply be | apply ba); refine blk_put (cs := F5) ?_ 1 _ rfl; (with_reducible repeat first | apply bd | apply be | apply ba); refine blk_put (cs := F5) ?_ 0 _ rfl; (with_reducible repeat first | apply bd | apply be | apply ba); exact BK397.out) Try.underlying30 rfl (by kernel_rfl)) rfl ?_
    exact ⟨by first | rfl | (simp [errW_none, errW_some] <;> rfl) | (simp [*, errW_none, errW_some] <;> rfl), bl1 HB.out GE397.out⟩
   ·rw [if_neg c15] at H
    have c15b0 : (t398 == 3) = false := beq_eq_false_iff_ne.mpr c15
    have c15b1 : (t398 != 3) = true := bne_iff_ne.mpr c15
    replace H := Option.bind_eq_some_iff.mp H
    obtain ⟨⟨t408, t409, t410, t411⟩, A200, H⟩ := H
    replace H : ((round_Pack.f k a1 a2 t408 t409 t410 false).bind fun bt413 => (some (bt413.1, bt413.2.1, bt413.2.2.1, bt413.2.2.2.1, bt413.2.2.2.2.1, bt413.2.2.2.2.2))) = some (r1, r2, r3, r4, r5, r6) := H
    have A20 := Aside0.mk A200
    clear A200
    replace H := Option.bind_eq_some_iff.mp H
    obtain ⟨⟨t413, t414, t415, t416, t417, t418⟩, A210, H⟩ := H
    replace H : (some (t413, t414, t415, t416, t417, t418)) = some (r1, r2, r3, r4, r5, r6) := H
    have A21 := Aside0.mk A210
    clear A210
    simp only [Option.some.injEq, Prod.mk.injEq] at H
    obtain ⟨rfl, rfl, rfl, rfl, rfl, rfl⟩ := H
    go_enter Try.func28, Try.ntmps28
    go_wp2_with (first | ((with_reducible refine gate_dst (N := 9) rfl ?_); refine box_event ?hg (N := 9) ?hd (cs := F5) (t := 30) ?hr ?_; (case hd => rfl); (case hg => rfl); (case hr => first | (go_simp; done) | (go_simp; rfl)); intro gb397 hg w22 hbox hb; have n0_ := Aside0.mk (below_step (bl0 HB.out) hb); have n1_ := Aside0.mk (hbox); have n2_ := Aside0.mk ((by rw [hg]; exact (below_size (bl0 HB.out)) : w.heap.size ≤ gb397)); have n3_ := n2_; clear HB; have HB := n0_; have BK397 := n1_; have GW397 := n2_; have GE397 := n3_; clear n0_ n1_ n2_ n3_; clear hb hbox hg) | ((with_reducible refine gate_callee (f := 61) rfl ?_); refine goesL_ (some 13) rfl rfl Try.func61 (by kernel_rfl) rfl #[.int .i64 a0, .int .u32 a3] rfl gl ?_; (with_reducible refine (format_Class.calls k a0 a3 t398 _ A5.out).mono ?_); rintro e w' ⟨rfl, ⟨nd, rfl⟩⟩; refine ⟨_, rfl, ?_⟩; (try (rw [drewN_self w22]; generalize hq_ : World.drewN w22 _ = w22; have n0_ : Aside0 (w22.heap[gb397]? = some (.cells #[.bool false, .bool false, .bool false, .bool false, .bool false] 30 (0, 0))) := ⟨by rw [← hq_]; exact (bv BK397.out)⟩; have n1_ : Aside0 (Below w.heap.size w w22) := ⟨by rw [← hq_]; exact (bl1 HB.out GE397.out)⟩; clear BK397 HB hq_; have BK397 := n0_; have HB := n1_; clear n0_ n1_))) | ((with_reducible refine gate_callee (f := 66) rfl ?_); refine goesL_ (some 35) rfl rfl Try.func66 (by kernel_rfl) rfl #[.int .i64 a0, .int .u32 a3] rfl gl ?_; (with_reducible refine (sum_Of.calls a0 a3 t408 t409 t410 t411 _ A20.out).mono ?_); rintro e w23 ⟨rfl, hb⟩; refine ⟨_, rfl, ?_⟩; have n0_ := Aside0.mk (blk_below (g := gb397) (o := .cells #[.bool false, .bool false, .bool false, .bool false, .bool false] 30 (0, 0)) (bv BK397.out) hb); have n1_ := Aside0.mk (below_step (bl1 HB.out GE397.out) hb); clear BK397; clear HB; have BK397 := n0_; have HB := n1_; clear n0_ n1_) | ((with_reducible refine gate_dst (N := 10) rfl ?_); refine box_event ?hg (N := 10) ?hd (cs := #[.bool false, .int .i64 0, .int .u64 0, .bool false]) (t := 78) ?hr ?_; (case hd => rfl); (case hg => rfl); (case hr => first | (go_simp; done) | (go_simp; rfl)); intro gb412 hg w24 hbox hb; have n0_ := Aside0.mk (blk_below (g := gb397) (o := .cells #[.bool false, .bool false, .bool false, .bool false, .bool false] 30 (0, 0)) (bv BK397.out) hb); have n1_ := Aside0.mk (below_step (bl1 HB.out GE397.out) hb); have n2_ := Aside0.mk (hbox); have n3_ := Aside0.mk ((by rw [hg]; exact (below_size (bl1 HB.out GE397.out)) : w.heap.size ≤ gb412)); have n4_ := n3_; have n5_ := Aside0.mk ((by rw [hg]; exact Nat.ne_of_lt (blk_lt (g := gb397) (o := .cells F5 30 (0, 0)) (bv BK397.out)) : gb397 ≠ gb412)); have n6_ := Aside0.mk (Ne.symm n5_.out); clear BK397; clear HB; have BK397 := n0_; have HB := n1_; have BK412 := n2_; have GW412 := n3_; have GE412 := n4_; have NB397_412 := n5_; have NB412_397 := n6_; clear n0_ n1_ n2_ n3_ n4_ n5_ n6_; clear hb hbox hg; have hnb25 := NB412_397.out; have hnc25 := NB397_412.out; obtain ⟨hcz26_0, hcz26_1, hcz26_2, hcz26_3⟩ := bc4 BK412.out; obtain ⟨hfz26_0, hfz26_1, hfz26_2, hfz26_3⟩ := bf4 BK412.out) | ((with_reducible refine gate_callee (f := 17) rfl ?_); refine goesL_ (some 44) rfl rfl Try.func17 (by kernel_rfl) rfl #[.int .i64 a1, .int .i64 a2, .bool t408, .int .i64 t409, .int .u64 t410, .bool false] rfl gl ?_; (with_reducible refine (round_Pack.calls k a1 a2 t408 t409 t410 false t413 t414 t415 t416 t417 t418 _ A21.out).mono ?_); rintro e w27 ⟨rfl, hb⟩; refine ⟨_, rfl, ?_⟩; have n0_ := Aside0.mk (blk_below (g := gb397) (o := .cells #[.bool false, .bool false, .bool false, .bool false, .bool false] 30 (0, 0)) (by (with_reducible repeat first | apply bd | apply be | apply ba); refine blk_far ?_ NB397_412.out _; (with_reducible repeat first | apply bd | apply be | apply ba); refine blk_far ?_ NB397_412.out _; (with_reducible repeat first | apply bd | apply be | apply ba); refine blk_far ?_ NB397_412.out _; (with_reducible repeat first | apply bd | apply be | apply ba); refine blk_far ?_ NB397_412.out _; (with_reducible repeat first | apply bd | apply be | apply ba); exact BK397.out) hb); have n1_ := Aside0.mk (blk_below (g := gb412) (o := .cells #[.bool t408, .int .i64 t409, .int .u64 t410, .bool t411] 78 (0, 0)) (by (with_reducible repeat first | apply bd | apply be | apply ba); refine blk_put (cs := #[.bool t408, .int .i64 t409, .int .u64 t410, .bool false]) ?_ 3 _ rfl; (with_reducible repeat first | apply bd | apply be | apply ba); refine blk_put (cs := #[.bool t408, .int .i64 t409, .int .u64 0, .bool false]) ?_ 2 _ rfl; (with_reducible repeat first | apply bd | apply be | apply ba); refine blk_put (cs := #[.bool t408, .int .i64 0, .int .u64 0, .bool false]) ?_ 1 _ rfl; (with_reducible repeat first | apply bd | apply be | apply ba); refine blk_put (cs := #[.bool false, .int .i64 0, .int .u64 0, .bool false]) ?_ 0 _ rfl; (with_reducible repeat first | apply bd | apply be | apply ba); exact BK412.out) hb); have n2_ := Aside0.mk (below_step (bl2 HB.out GE397.out GE412.out) hb); clear BK397; clear BK412; clear HB; have BK397 := n0_; have BK412 := n1_; have HB := n2_; clear n0_ n1_ n2_; obtain ⟨hcz28_0, hcz28_1, hcz28_2, hcz28_3, hcz28_4⟩ := bc5 BK397.out; obtain ⟨hfz28_0, hfz28_1, hfz28_2, hfz28_3, hfz28_4⟩ := bf5 BK397.out))
    refine bodyPost_ret (results_tc rfl _ _ gb397 30 #[.bool t414, .bool t415, .bool t416, .bool t417, .bool t418] (0, 0) _ rfl (by (with_reducible repeat first | apply bd | apply be | apply ba); refine blk_put (cs := #[.bool t414, .bool t415, .bool t416, .bool t417, .bool false]) ?_ 4 _ rfl; (with_reducible repeat first | apply bd | apply be | apply ba); refine blk_put (cs := #[.bool t414, .bool t415, .bool t416, .bool false, .bool false]) ?_ 3 _ rfl; (with_reducible repeat first | apply bd | apply be | apply ba); refine blk_put (cs := #[.bool t414, .bool t415, .bool false, .bool false, .bool false]) ?_ 2 _ rfl; (with_reducible repeat first | apply bd | apply be | apply ba); refine blk_put (cs := #[.bool t414, .bool false, .bool false, .bool false, .bool false]) ?_ 1 _ rfl; (with_reducible repeat first | apply bd | apply be | apply ba); refine blk_put (cs := F5) ?_ 0 _ rfl; (with_reducible repeat first | apply bd | apply be | apply ba); exact BK397.out) Try.underlying30 rfl (by kernel_rfl)) rfl ?_
    exact ⟨by first | rfl | (simp [errW_none, errW_some] <;> rfl) | (simp [*, errW_none, errW_some] <;> rfl), bl2 HB.out GE397.out GE412.out⟩

/-! ### conv_Widen: function 30 -/
/-! ### conv_Narrow: function 32 -/
def conv_Narrow.f (k : Nat) (a0 : Int) (a1 : Int) : Option (Int) := (conv_To.f k 2 a0 0 a1).bind fun bt426 => (some bt426.1)
theorem conv_Narrow.mono : ∀ a0 a1 k, LeO (conv_Narrow.f k a0 a1) (conv_Narrow.f (k + 1) a0 a1) := by
 intro a0 a1 k
 unfold conv_Narrow.f
 repeat' first
   |(with_reducible exact conv_To.mono _ _ _ _ _)
   |(with_reducible exact LeO.refl _)
   |(with_reducible exact LeO.none _)
   |(with_reducible refine LeO.ite ?_ ?_)
   |(with_reducible refine LeO.bind ?_ (fun _ => ?_))
   |exact conv_To.mono _ _ _ _ _
   |exact LeO.none _
   |refine LeO.ite ?_ ?_
   |refine LeO.bind ?_ (fun _ => ?_)
set_option maxHeartbeats 8000000 in
set_option maxRecDepth 100000 in
theorem conv_Narrow.calls (k : Nat) (a0 : Int) (a1 : Int) (r : Int) (w : World) (h : conv_Narrow.f k a0 a1 = some r) :
  Calls Try.prog 32 #[.int .i64 a0, .int .u32 a1] w fun e w' => e = .returned (.int .u32 r) ∧ Below w.heap.size w w' := by
 have hu30 := Try.underlying30
 have HB := Aside0.mk (Below.refl w.heap.size w)
 have H : ((conv_To.f k 2 a0 0 a1).bind fun bt426 => (some bt426.1)) = some r := h
 clear h
 replace H := Option.bind_eq_some_iff.mp H
 obtain ⟨⟨t426, t427, t428, t429, t430, t431⟩, A30, H⟩ := H
 replace H : (some t426) = some r := H
 have A3 := Aside0.mk A30
 clear A30
 obtain rfl := Option.some.inj H
 go_enter Try.func32, Try.ntmps32
 go_wp2_with (first | ((with_reducible refine gate_callee (f := 28) rfl ?_); refine goesL_ (some 10) rfl rfl Try.func28 (by kernel_rfl) rfl #[.int .i64 2, .int .i64 a0, .int .i64 0, .int .u32 a1] rfl gl ?_; (with_reducible refine (conv_To.calls k 2 a0 0 a1 t426 t427 t428 t429 t430 t431 _ A3.out).mono ?_); rintro e w4 ⟨rfl, hb⟩; refine ⟨_, rfl, ?_⟩; have n0_ := Aside0.mk (below_step (bl0 HB.out) hb); clear HB; have HB := n0_; clear n0_) | ((with_reducible refine gate_dst (N := 6) rfl ?_); refine box_event ?hg (N := 6) ?hd (cs := F5) (t := 30) ?hr ?_; (case hd => rfl); (case hg => rfl); (case hr => first | (go_simp; done) | (go_simp; rfl)); intro gb432 hg w5 hbox hb; have n0_ := Aside0.mk (below_step (bl0 HB.out) hb); have n1_ := Aside0.mk (hbox); have n2_ := Aside0.mk ((by rw [hg]; exact (below_size (bl0 HB.out)) : w.heap.size ≤ gb432)); have n3_ := n2_; clear HB; have HB := n0_; have BK432 := n1_; have GW432 := n2_; have GE432 := n3_; clear n0_ n1_ n2_ n3_; clear hb hbox hg; obtain ⟨hcz6_0, hcz6_1, hcz6_2, hcz6_3, hcz6_4⟩ := bc5 BK432.out; obtain ⟨hfz6_0, hfz6_1, hfz6_2, hfz6_3, hfz6_4⟩ := bf5 BK432.out))
 go_ret
 exact ⟨by first | rfl | (simp [errW_none, errW_some] <;> rfl) | (simp [*, errW_none, errW_some] <;> rfl), bl1 HB.out GE432.out⟩

/-! ### anneallaw9_known: function 24 -/
end Go.Proofs.Ytoljndjpnbdjmaa.P

-- Printed by a program of this session's out of Lean's print of the translation; Lean checks it.
namespace Go.Proofs.Ytoljndjpnbdjmaa.P
open Go.RowKit Go.Proofs.YtoljndjpnbdjmaaW.PrintWords Go.Proofs.YtoljndjpnbdjmaaW.PrintLast Go.Proofs.YtoljndjpnbdjmaaW.PrintMore
attribute [local go_sem] max2_int min2_int max_two min_two max_three min_three max_four min_four   -- for this text's walks alone
set_option linter.unusedVariables false
set_option linter.unusedSimpArgs false

/-! ### annealseat_Num: function 26 -/
end Go.Proofs.Ytoljndjpnbdjmaa.P

-- Printed by a program of this session's out of Lean's print of the translation; Lean checks it.
namespace Go.Proofs.Ytoljndjpnbdjmaa.P
open Go.RowKit Go.Proofs.YtoljndjpnbdjmaaW.PrintWords Go.Proofs.YtoljndjpnbdjmaaW.PrintLast Go.Proofs.YtoljndjpnbdjmaaW.PrintMore
attribute [local go_sem] max2_int min2_int max_two min_two max_three min_three max_four min_four   -- for this text's walks alone
set_option linter.unusedVariables false
set_option linter.unusedSimpArgs false

/-! ### anneallaw9_ConvSides: function 10 -/
/-! ### format_Finite: function 71 -/
def format_Finite.f (a0 : Int) (a1 : Int) : Option (Bool) := (format_Parts.f a0 a1).bind fun bt587 => ((format_Top.f a0).bind fun t590 => (some (decide (bt587.2.1 < t590))))
set_option maxHeartbeats 8000000 in
set_option maxRecDepth 100000 in
theorem format_Finite.calls (a0 : Int) (a1 : Int) (r : Bool) (w : World) (h : format_Finite.f a0 a1 = some r) :
  Calls Try.prog 71 #[.int .i64 a0, .int .u32 a1] w fun e w' => e = .returned (.bool r) ∧ Drawn0 w w' := by
 have H : ((format_Parts.f a0 a1).bind fun bt587 => ((format_Top.f a0).bind fun t590 => (some (decide (bt587.2.1 < t590))))) = some r := h
 clear h
 replace H := Option.bind_eq_some_iff.mp H
 obtain ⟨⟨t587, t588, t589⟩, A30, H⟩ := H
 replace H : ((format_Top.f a0).bind fun t590 => (some (decide (t588 < t590)))) = some r := H
 have A3 := Aside0.mk A30
 clear A30
 replace H := Option.bind_eq_some_iff.mp H
 obtain ⟨t590, A40, H⟩ := H
 replace H : (some (decide (t588 < t590))) = some r := H
 have A4 := Aside0.mk A40
 clear A40
 obtain rfl := Option.some.inj H
 go_enter Try.func71, Try.ntmps71
 go_wp2_with (first | ((with_reducible refine gate_callee (f := 80) rfl ?_); refine goesL_ (some 11) rfl rfl Try.func80 (by kernel_rfl) rfl #[.int .i64 a0, .int .u32 a1] rfl gl ?_; (with_reducible refine (format_Parts.calls a0 a1 t587 t588 t589 _ A3.out).mono ?_); rintro e w' ⟨rfl, ⟨nd, rfl⟩⟩; refine ⟨_, rfl, ?_⟩) | ((with_reducible refine gate_callee (f := 47) rfl ?_); refine goesL_ (some 17) rfl rfl Try.func47 (by kernel_rfl) rfl #[.int .i64 a0] rfl gl ?_; (with_reducible refine (format_Top.calls a0 t590 _ A4.out).mono ?_); rintro e w' ⟨rfl, ⟨nd, rfl⟩⟩; refine ⟨_, rfl, ?_⟩))
 go_ret
 exact ⟨by first | rfl | (simp; done) | (simp [*]; done) | (congr 1; (try unfold wrap64); omega) | (congr 1; rw [IntKind.wrap_u64]; omega), by repeat (first | exact Drawn0.refl _ | apply Drawn0.step)⟩

/-! ### format_IsZero: function 72 -/
def format_IsZero.f (k : Nat) (a0 : Int) (a1 : Int) : Option (Bool) := (format_Class.f k a0 a1).bind fun t591 => (some (t591 == 0))
theorem format_IsZero.mono : ∀ a0 a1 k, LeO (format_IsZero.f k a0 a1) (format_IsZero.f (k + 1) a0 a1) := by
 intro a0 a1 k
 unfold format_IsZero.f
 repeat' first
   |(with_reducible exact format_Class.mono _ _ _)
   |(with_reducible exact LeO.refl _)
   |(with_reducible exact LeO.none _)
   |(with_reducible refine LeO.ite ?_ ?_)
   |(with_reducible refine LeO.bind ?_ (fun _ => ?_))
   |exact format_Class.mono _ _ _
   |exact LeO.none _
   |refine LeO.ite ?_ ?_
   |refine LeO.bind ?_ (fun _ => ?_)
set_option maxHeartbeats 8000000 in
set_option maxRecDepth 100000 in
theorem format_IsZero.calls (k : Nat) (a0 : Int) (a1 : Int) (r : Bool) (w : World) (h : format_IsZero.f k a0 a1 = some r) :
  Calls Try.prog 72 #[.int .i64 a0, .int .u32 a1] w fun e w' => e = .returned (.bool r) ∧ Drawn0 w w' := by
 have H : ((format_Class.f k a0 a1).bind fun t591 => (some (t591 == 0))) = some r := h
 clear h
 replace H := Option.bind_eq_some_iff.mp H
 obtain ⟨t591, A30, H⟩ := H
 replace H : (some (t591 == 0)) = some r := H
 have A3 := Aside0.mk A30
 clear A30
 obtain rfl := Option.some.inj H
 go_enter Try.func72, Try.ntmps72
 go_wp2_with (first | ((with_reducible refine gate_callee (f := 61) rfl ?_); refine goesL_ (some 7) rfl rfl Try.func61 (by kernel_rfl) rfl #[.int .i64 a0, .int .u32 a1] rfl gl ?_; (with_reducible refine (format_Class.calls k a0 a1 t591 _ A3.out).mono ?_); rintro e w' ⟨rfl, ⟨nd, rfl⟩⟩; refine ⟨_, rfl, ?_⟩))
 go_ret
 exact ⟨by first | rfl | (simp; done) | (simp [*]; done) | (congr 1; (try unfold wrap64); omega) | (congr 1; rw [IntKind.wrap_u64]; omega), by repeat (first | exact Drawn0.refl _ | apply Drawn0.step)⟩

end Go.Proofs.Ytoljndjpnbdjmaa.P

-- Printed by a program of this session's out of Lean's print of the translation; Lean checks it.
namespace Go.Proofs.Ytoljndjpnbdjmaa.P
open Go.RowKit Go.Proofs.YtoljndjpnbdjmaaW.PrintWords Go.Proofs.YtoljndjpnbdjmaaW.PrintLast Go.Proofs.YtoljndjpnbdjmaaW.PrintMore
attribute [local go_sem] max2_int min2_int max_two min_two max_three min_three max_four min_four   -- for this text's walks alone
set_option linter.unusedVariables false
set_option linter.unusedSimpArgs false

/-! ### chance_part: function 74 -/
def chance_part.f (k : Nat) (a0 : Int) (a1 : Int) : Option (Int) := (bits_Shift.f k a0 (wrap64 (a1 - 32))).bind fun bt592 => (some bt592.1)
theorem chance_part.mono : ∀ a0 a1 k, LeO (chance_part.f k a0 a1) (chance_part.f (k + 1) a0 a1) := by
 intro a0 a1 k
 unfold chance_part.f
 repeat' first
   |(with_reducible exact bits_Shift.mono _ _ _)
   |(with_reducible exact LeO.refl _)
   |(with_reducible exact LeO.none _)
   |(with_reducible refine LeO.ite ?_ ?_)
   |(with_reducible refine LeO.bind ?_ (fun _ => ?_))
   |exact bits_Shift.mono _ _ _
   |exact LeO.none _
   |refine LeO.ite ?_ ?_
   |refine LeO.bind ?_ (fun _ => ?_)
set_option maxHeartbeats 8000000 in
set_option maxRecDepth 100000 in
theorem chance_part.calls (k : Nat) (a0 : Int) (a1 : Int) (r : Int) (w : World) (h : chance_part.f k a0 a1 = some r) :
  Calls Try.prog 74 #[.int .u64 a0, .int .i64 a1] w fun e w' => e = .returned (.int .u64 r) ∧ Drawn0 w w' := by
 have H : ((bits_Shift.f k a0 (wrap64 (a1 - 32))).bind fun bt592 => (some bt592.1)) = some r := h
 clear h
 replace H := Option.bind_eq_some_iff.mp H
 obtain ⟨⟨t592, t593⟩, A30, H⟩ := H
 replace H : (some t592) = some r := H
 have A3 := Aside0.mk A30
 clear A30
 obtain rfl := Option.some.inj H
 go_enter Try.func74, Try.ntmps74
 go_wp2_with (first | ((with_reducible refine gate_callee (f := 73) rfl ?_); refine goesL_ (some 11) rfl rfl Try.func73 (by kernel_rfl) rfl #[.int .u64 a0, .int .i64 (wrap64 (a1 - 32))] rfl gl ?_; (with_reducible refine (bits_Shift.calls k a0 (wrap64 (a1 - 32)) t592 t593 _ A3.out).mono ?_); rintro e w' ⟨rfl, ⟨nd, rfl⟩⟩; refine ⟨_, rfl, ?_⟩))
 go_ret
 exact ⟨by first | rfl | (simp; done) | (simp [*]; done) | (congr 1; (try unfold wrap64); omega) | (congr 1; rw [IntKind.wrap_u64]; omega), by repeat (first | exact Drawn0.refl _ | apply Drawn0.step)⟩

end Go.Proofs.Ytoljndjpnbdjmaa.P
