-- Printed by a program of this session's out of Lean's print of the translation; Lean checks it.
import Derived.Test.YtoljndjpnbdjmaaPx0
import Derived.Test.YtoljndjpnbdjmaaPx1
import Derived.Test.YtoljndjpnbdjmaaPx7
import Derived.Test.YtoljndjpnbdjmaaPx8
import Derived.Test.YtoljndjpnbdjmaaPx15
namespace Go.Proofs.Ytoljndjpnbdjmaa.P
open Go.RowKit Go.Proofs.YtoljndjpnbdjmaaW.PrintWords Go.Proofs.YtoljndjpnbdjmaaW.PrintLast Go.Proofs.YtoljndjpnbdjmaaW.PrintMore
attribute [local go_sem] max2_int min2_int max_two min_two max_three min_three max_four min_four   -- for this text's walks alone
set_option linter.unusedVariables false
set_option linter.unusedSimpArgs false

attribute [local go_sem high] eqA30
/-! ### annealref1_Unpack: function 21 -/
def annealref1_Unpack.f (k : Nat) (a0 : Int) (a1 : Int) : Option (Bool × Int × Int) := (annealref1_Widths.f a0).bind fun bt297 => ((annealref1_parts.f a0 a1).bind fun bt299 => ((annealref1_Class.f k a0 a1).bind fun t302 => (if t302 = 2 then ((annealref1_bias.f a0).bind fun t303 => (if 0 ≤ bt297.2 then (some (bt299.1, wrap64 ((wrap64 (bt299.2.1 - t303)) - bt297.2), Go.bits .or .u64 bt299.2.2 (shl .u64 1 bt297.2))) else (none))) else (if t302 = 0 then ((annealref1_bias.f a0).bind fun t304 => (some (bt299.1, wrap64 ((wrap64 (1 - t304)) - bt297.2), bt299.2.2))) else (if t302 = 1 then ((annealref1_bias.f a0).bind fun t305 => (some (bt299.1, wrap64 ((wrap64 (1 - t305)) - bt297.2), bt299.2.2))) else (some (bt299.1, 0, 0)))))))
theorem annealref1_Unpack.mono : ∀ a0 a1 k, LeO (annealref1_Unpack.f k a0 a1) (annealref1_Unpack.f (k + 1) a0 a1) := by
  intro a0 a1 k
  unfold annealref1_Unpack.f
  repeat' first
      | (with_reducible exact annealref1_Class.mono _ _ _)
      | (with_reducible exact LeO.refl _)
      | (with_reducible exact LeO.none _)
      | (with_reducible refine LeO.ite ?_ ?_)
      | (with_reducible refine LeO.bind ?_ (fun _ => ?_))
      | exact annealref1_Class.mono _ _ _
      | exact LeO.none _
      | refine LeO.ite ?_ ?_
      | refine LeO.bind ?_ (fun _ => ?_)
set_option maxHeartbeats 8000000 in
set_option maxRecDepth 100000 in
theorem annealref1_Unpack.calls (k : Nat) (a0 : Int) (a1 : Int) (r1 : Bool) (r2 : Int) (r3 : Int) (w : World) (h : annealref1_Unpack.f k a0 a1 = some (r1, r2, r3)) :
    Calls Try.prog 21 #[.int .i64 a0, .int .u32 a1] w fun e w' => e = .returned (.tuple #[.bool r1, .int .i64 r2, .int .u64 r3]) ∧ Drawn0 w w' := by
  have H : ((annealref1_Widths.f a0).bind fun bt297 => ((annealref1_parts.f a0 a1).bind fun bt299 => ((annealref1_Class.f k a0 a1).bind fun t302 => (if t302 = 2 then ((annealref1_bias.f a0).bind fun t303 => (if 0 ≤ bt297.2 then (some (bt299.1, wrap64 ((wrap64 (bt299.2.1 - t303)) - bt297.2), Go.bits .or .u64 bt299.2.2 (shl .u64 1 bt297.2))) else (none))) else (if t302 = 0 then ((annealref1_bias.f a0).bind fun t304 => (some (bt299.1, wrap64 ((wrap64 (1 - t304)) - bt297.2), bt299.2.2))) else (if t302 = 1 then ((annealref1_bias.f a0).bind fun t305 => (some (bt299.1, wrap64 ((wrap64 (1 - t305)) - bt297.2), bt299.2.2))) else (some (bt299.1, 0, 0)))))))) = some (r1, r2, r3) := h
  clear h
  replace H := Option.bind_eq_some_iff.mp H
  obtain ⟨⟨t297, t298⟩, A30, H⟩ := H
  replace H : ((annealref1_parts.f a0 a1).bind fun bt299 => ((annealref1_Class.f k a0 a1).bind fun t302 => (if t302 = 2 then ((annealref1_bias.f a0).bind fun t303 => (if 0 ≤ t298 then (some (bt299.1, wrap64 ((wrap64 (bt299.2.1 - t303)) - t298), Go.bits .or .u64 bt299.2.2 (shl .u64 1 t298))) else (none))) else (if t302 = 0 then ((annealref1_bias.f a0).bind fun t304 => (some (bt299.1, wrap64 ((wrap64 (1 - t304)) - t298), bt299.2.2))) else (if t302 = 1 then ((annealref1_bias.f a0).bind fun t305 => (some (bt299.1, wrap64 ((wrap64 (1 - t305)) - t298), bt299.2.2))) else (some (bt299.1, 0, 0))))))) = some (r1, r2, r3) := H
  have A3 := Aside0.mk A30
  clear A30
  replace H := Option.bind_eq_some_iff.mp H
  obtain ⟨⟨t299, t300, t301⟩, A40, H⟩ := H
  replace H : ((annealref1_Class.f k a0 a1).bind fun t302 => (if t302 = 2 then ((annealref1_bias.f a0).bind fun t303 => (if 0 ≤ t298 then (some (t299, wrap64 ((wrap64 (t300 - t303)) - t298), Go.bits .or .u64 t301 (shl .u64 1 t298))) else (none))) else (if t302 = 0 then ((annealref1_bias.f a0).bind fun t304 => (some (t299, wrap64 ((wrap64 (1 - t304)) - t298), t301))) else (if t302 = 1 then ((annealref1_bias.f a0).bind fun t305 => (some (t299, wrap64 ((wrap64 (1 - t305)) - t298), t301))) else (some (t299, 0, 0)))))) = some (r1, r2, r3) := H
  have A4 := Aside0.mk A40
  clear A40
  replace H := Option.bind_eq_some_iff.mp H
  obtain ⟨t302, A50, H⟩ := H
  replace H : (if t302 = 2 then ((annealref1_bias.f a0).bind fun t303 => (if 0 ≤ t298 then (some (t299, wrap64 ((wrap64 (t300 - t303)) - t298), Go.bits .or .u64 t301 (shl .u64 1 t298))) else (none))) else (if t302 = 0 then ((annealref1_bias.f a0).bind fun t304 => (some (t299, wrap64 ((wrap64 (1 - t304)) - t298), t301))) else (if t302 = 1 then ((annealref1_bias.f a0).bind fun t305 => (some (t299, wrap64 ((wrap64 (1 - t305)) - t298), t301))) else (some (t299, 0, 0))))) = some (r1, r2, r3) := H
  have A5 := Aside0.mk A50
  clear A50
  by_cases c6 : t302 = 2
  · rw [if_pos c6] at H
    have c6b0 : (t302 == 2) = true := beq_iff_eq.mpr c6
    have c6b1 : (t302 != 2) = false := bne_eq_false_iff_eq.mpr c6
    clear c6
    replace H := Option.bind_eq_some_iff.mp H
    obtain ⟨t303, A70, H⟩ := H
    replace H : (if 0 ≤ t298 then (some (t299, wrap64 ((wrap64 (t300 - t303)) - t298), Go.bits .or .u64 t301 (shl .u64 1 t298))) else (none)) = some (r1, r2, r3) := H
    have A7 := Aside0.mk A70
    clear A70
    by_cases c8 : 0 ≤ t298
    · rw [if_pos c8] at H
      have c8b0 := eq_true c8
      have c8b1 : decide (0 ≤ t298) = true := decide_eq_true c8
      clear c8
      obtain ⟨ji9, hji9⟩ : ∃ j_ : Int, (shl .u64 1 t298) = j_ := ⟨_, rfl⟩
      replace H : (some (t299, wrap64 ((wrap64 (t300 - t303)) - t298), Go.bits .or .u64 t301 (ji9))) = some (r1, r2, r3) := by first | (rw [hji9] at H; exact H) | (simp only [hji9] at H ⊢; exact H)
      (try rw [hji9] at A3)
      (try rw [hji9] at A4)
      (try rw [hji9] at A5)
      (try rw [hji9] at A7)
      have hji9_ : (IntKind.u64.wrap (1 * 2 ^ min t298.toNat 64)) = ji9 := hji9
      have hji9z : t298 ≤ 64 → (IntKind.u64.wrap (1 * 2 ^ t298.toNat)) = ji9 := shl_small hji9
      have hji9u : (IntKind.u64.wrap (2 ^ min t298.toNat 64)) = ji9 := by have h_ := hji9_; rw [Int.one_mul] at h_; exact h_
      have hji9v : t298 ≤ 64 → (IntKind.u64.wrap (2 ^ t298.toNat)) = ji9 := fun hle_ => by have h_ := hji9z hle_; rw [Int.one_mul] at h_; exact h_
      simp only [Option.some.injEq, Prod.mk.injEq] at H
      obtain ⟨rfl, rfl, rfl⟩ := H
      go_enter Try.func21, Try.ntmps21
      go_wp2_with (first | (go_at_call 52; (with_reducible refine (annealref1_Widths.calls a0 t297 t298 _ A3.out).mono ?_); rintro e w' ⟨rfl, ⟨nd, rfl⟩⟩; (try first | exact ⟨rfl, _, World.drewN_drewN _ _ _⟩ | exact ⟨rfl, _, Eq.trans (World.drewN_drewN _ _ _) (congrArg (World.drewN _) (Nat.add_assoc _ _ _))⟩)) | (go_at_call 59; (with_reducible refine (annealref1_parts.calls a0 a1 t299 t300 t301 _ A4.out).mono ?_); rintro e w' ⟨rfl, ⟨nd, rfl⟩⟩; (try first | exact ⟨rfl, _, World.drewN_drewN _ _ _⟩ | exact ⟨rfl, _, Eq.trans (World.drewN_drewN _ _ _) (congrArg (World.drewN _) (Nat.add_assoc _ _ _))⟩)) | (go_at_call 34; (with_reducible refine (annealref1_Class.calls k a0 a1 t302 _ A5.out).mono ?_); rintro e w' ⟨rfl, ⟨nd, rfl⟩⟩; (try first | exact ⟨rfl, _, World.drewN_drewN _ _ _⟩ | exact ⟨rfl, _, Eq.trans (World.drewN_drewN _ _ _) (congrArg (World.drewN _) (Nat.add_assoc _ _ _))⟩)) | (go_at_call 53; (with_reducible refine (annealref1_bias.calls a0 t303 _ A7.out).mono ?_); rintro e w' ⟨rfl, ⟨nd, rfl⟩⟩; (try first | exact ⟨rfl, _, World.drewN_drewN _ _ _⟩ | exact ⟨rfl, _, Eq.trans (World.drewN_drewN _ _ _) (congrArg (World.drewN _) (Nat.add_assoc _ _ _))⟩)))
      repeat (go_quiet (first | (go_at_call 52; (with_reducible refine (annealref1_Widths.calls a0 t297 t298 _ A3.out).mono ?_); rintro e w' ⟨rfl, ⟨nd, rfl⟩⟩; (try first | exact ⟨rfl, _, World.drewN_drewN _ _ _⟩ | exact ⟨rfl, _, Eq.trans (World.drewN_drewN _ _ _) (congrArg (World.drewN _) (Nat.add_assoc _ _ _))⟩)) | (go_at_call 59; (with_reducible refine (annealref1_parts.calls a0 a1 t299 t300 t301 _ A4.out).mono ?_); rintro e w' ⟨rfl, ⟨nd, rfl⟩⟩; (try first | exact ⟨rfl, _, World.drewN_drewN _ _ _⟩ | exact ⟨rfl, _, Eq.trans (World.drewN_drewN _ _ _) (congrArg (World.drewN _) (Nat.add_assoc _ _ _))⟩)) | (go_at_call 34; (with_reducible refine (annealref1_Class.calls k a0 a1 t302 _ A5.out).mono ?_); rintro e w' ⟨rfl, ⟨nd, rfl⟩⟩; (try first | exact ⟨rfl, _, World.drewN_drewN _ _ _⟩ | exact ⟨rfl, _, Eq.trans (World.drewN_drewN _ _ _) (congrArg (World.drewN _) (Nat.add_assoc _ _ _))⟩)) | (go_at_call 53; (with_reducible refine (annealref1_bias.calls a0 t303 _ A7.out).mono ?_); rintro e w' ⟨rfl, ⟨nd, rfl⟩⟩; (try first | exact ⟨rfl, _, World.drewN_drewN _ _ _⟩ | exact ⟨rfl, _, Eq.trans (World.drewN_drewN _ _ _) (congrArg (World.drewN _) (Nat.add_assoc _ _ _))⟩))); try go_wp2_with (first | (go_at_call 52; (with_reducible refine (annealref1_Widths.calls a0 t297 t298 _ A3.out).mono ?_); rintro e w' ⟨rfl, ⟨nd, rfl⟩⟩; (try first | exact ⟨rfl, _, World.drewN_drewN _ _ _⟩ | exact ⟨rfl, _, Eq.trans (World.drewN_drewN _ _ _) (congrArg (World.drewN _) (Nat.add_assoc _ _ _))⟩)) | (go_at_call 59; (with_reducible refine (annealref1_parts.calls a0 a1 t299 t300 t301 _ A4.out).mono ?_); rintro e w' ⟨rfl, ⟨nd, rfl⟩⟩; (try first | exact ⟨rfl, _, World.drewN_drewN _ _ _⟩ | exact ⟨rfl, _, Eq.trans (World.drewN_drewN _ _ _) (congrArg (World.drewN _) (Nat.add_assoc _ _ _))⟩)) | (go_at_call 34; (with_reducible refine (annealref1_Class.calls k a0 a1 t302 _ A5.out).mono ?_); rintro e w' ⟨rfl, ⟨nd, rfl⟩⟩; (try first | exact ⟨rfl, _, World.drewN_drewN _ _ _⟩ | exact ⟨rfl, _, Eq.trans (World.drewN_drewN _ _ _) (congrArg (World.drewN _) (Nat.add_assoc _ _ _))⟩)) | (go_at_call 53; (with_reducible refine (annealref1_bias.calls a0 t303 _ A7.out).mono ?_); rintro e w' ⟨rfl, ⟨nd, rfl⟩⟩; (try first | exact ⟨rfl, _, World.drewN_drewN _ _ _⟩ | exact ⟨rfl, _, Eq.trans (World.drewN_drewN _ _ _) (congrArg (World.drewN _) (Nat.add_assoc _ _ _))⟩))))
      go_ret3
      exact ⟨by first | rfl | (simp; done) | (simp only [← hji9] <;> (first | rfl | (simp; done))) | (simp [*]; done) | (congr 1; (try unfold wrap64); omega), by repeat (first | exact Drawn0.refl _ | apply Drawn0.step)⟩
    · rw [if_neg c8] at H
      exact absurd H (by simp)
  · rw [if_neg c6] at H
    have c6b0 : (t302 == 2) = false := beq_eq_false_iff_ne.mpr c6
    have c6b1 : (t302 != 2) = true := bne_iff_ne.mpr c6
    by_cases c10 : t302 = 0
    · rw [if_pos c10] at H
      have c10b0 : (t302 == 0) = true := beq_iff_eq.mpr c10
      have c10b1 : (t302 != 0) = false := bne_eq_false_iff_eq.mpr c10
      clear c10
      replace H := Option.bind_eq_some_iff.mp H
      obtain ⟨t304, A110, H⟩ := H
      replace H : (some (t299, wrap64 ((wrap64 (1 - t304)) - t298), t301)) = some (r1, r2, r3) := H
      have A11 := Aside0.mk A110
      clear A110
      simp only [Option.some.injEq, Prod.mk.injEq] at H
      obtain ⟨rfl, rfl, rfl⟩ := H
      go_enter Try.func21, Try.ntmps21
      go_wp2_with (first | (go_at_call 52; (with_reducible refine (annealref1_Widths.calls a0 t297 t298 _ A3.out).mono ?_); rintro e w' ⟨rfl, ⟨nd, rfl⟩⟩; (try first | exact ⟨rfl, _, World.drewN_drewN _ _ _⟩ | exact ⟨rfl, _, Eq.trans (World.drewN_drewN _ _ _) (congrArg (World.drewN _) (Nat.add_assoc _ _ _))⟩)) | (go_at_call 59; (with_reducible refine (annealref1_parts.calls a0 a1 t299 t300 t301 _ A4.out).mono ?_); rintro e w' ⟨rfl, ⟨nd, rfl⟩⟩; (try first | exact ⟨rfl, _, World.drewN_drewN _ _ _⟩ | exact ⟨rfl, _, Eq.trans (World.drewN_drewN _ _ _) (congrArg (World.drewN _) (Nat.add_assoc _ _ _))⟩)) | (go_at_call 34; (with_reducible refine (annealref1_Class.calls k a0 a1 t302 _ A5.out).mono ?_); rintro e w' ⟨rfl, ⟨nd, rfl⟩⟩; (try first | exact ⟨rfl, _, World.drewN_drewN _ _ _⟩ | exact ⟨rfl, _, Eq.trans (World.drewN_drewN _ _ _) (congrArg (World.drewN _) (Nat.add_assoc _ _ _))⟩)) | (go_at_call 53; (with_reducible refine (annealref1_bias.calls a0 t304 _ A11.out).mono ?_); rintro e w' ⟨rfl, ⟨nd, rfl⟩⟩; (try first | exact ⟨rfl, _, World.drewN_drewN _ _ _⟩ | exact ⟨rfl, _, Eq.trans (World.drewN_drewN _ _ _) (congrArg (World.drewN _) (Nat.add_assoc _ _ _))⟩)))
      repeat (go_quiet (first | (go_at_call 52; (with_reducible refine (annealref1_Widths.calls a0 t297 t298 _ A3.out).mono ?_); rintro e w' ⟨rfl, ⟨nd, rfl⟩⟩; (try first | exact ⟨rfl, _, World.drewN_drewN _ _ _⟩ | exact ⟨rfl, _, Eq.trans (World.drewN_drewN _ _ _) (congrArg (World.drewN _) (Nat.add_assoc _ _ _))⟩)) | (go_at_call 59; (with_reducible refine (annealref1_parts.calls a0 a1 t299 t300 t301 _ A4.out).mono ?_); rintro e w' ⟨rfl, ⟨nd, rfl⟩⟩; (try first | exact ⟨rfl, _, World.drewN_drewN _ _ _⟩ | exact ⟨rfl, _, Eq.trans (World.drewN_drewN _ _ _) (congrArg (World.drewN _) (Nat.add_assoc _ _ _))⟩)) | (go_at_call 34; (with_reducible refine (annealref1_Class.calls k a0 a1 t302 _ A5.out).mono ?_); rintro e w' ⟨rfl, ⟨nd, rfl⟩⟩; (try first | exact ⟨rfl, _, World.drewN_drewN _ _ _⟩ | exact ⟨rfl, _, Eq.trans (World.drewN_drewN _ _ _) (congrArg (World.drewN _) (Nat.add_assoc _ _ _))⟩)) | (go_at_call 53; (with_reducible refine (annealref1_bias.calls a0 t304 _ A11.out).mono ?_); rintro e w' ⟨rfl, ⟨nd, rfl⟩⟩; (try first | exact ⟨rfl, _, World.drewN_drewN _ _ _⟩ | exact ⟨rfl, _, Eq.trans (World.drewN_drewN _ _ _) (congrArg (World.drewN _) (Nat.add_assoc _ _ _))⟩))); try go_wp2_with (first | (go_at_call 52; (with_reducible refine (annealref1_Widths.calls a0 t297 t298 _ A3.out).mono ?_); rintro e w' ⟨rfl, ⟨nd, rfl⟩⟩; (try first | exact ⟨rfl, _, World.drewN_drewN _ _ _⟩ | exact ⟨rfl, _, Eq.trans (World.drewN_drewN _ _ _) (congrArg (World.drewN _) (Nat.add_assoc _ _ _))⟩)) | (go_at_call 59; (with_reducible refine (annealref1_parts.calls a0 a1 t299 t300 t301 _ A4.out).mono ?_); rintro e w' ⟨rfl, ⟨nd, rfl⟩⟩; (try first | exact ⟨rfl, _, World.drewN_drewN _ _ _⟩ | exact ⟨rfl, _, Eq.trans (World.drewN_drewN _ _ _) (congrArg (World.drewN _) (Nat.add_assoc _ _ _))⟩)) | (go_at_call 34; (with_reducible refine (annealref1_Class.calls k a0 a1 t302 _ A5.out).mono ?_); rintro e w' ⟨rfl, ⟨nd, rfl⟩⟩; (try first | exact ⟨rfl, _, World.drewN_drewN _ _ _⟩ | exact ⟨rfl, _, Eq.trans (World.drewN_drewN _ _ _) (congrArg (World.drewN _) (Nat.add_assoc _ _ _))⟩)) | (go_at_call 53; (with_reducible refine (annealref1_bias.calls a0 t304 _ A11.out).mono ?_); rintro e w' ⟨rfl, ⟨nd, rfl⟩⟩; (try first | exact ⟨rfl, _, World.drewN_drewN _ _ _⟩ | exact ⟨rfl, _, Eq.trans (World.drewN_drewN _ _ _) (congrArg (World.drewN _) (Nat.add_assoc _ _ _))⟩))))
      go_ret3
      exact ⟨by first | rfl | (simp; done) | (simp [*]; done) | (congr 1; (try unfold wrap64); omega), by repeat (first | exact Drawn0.refl _ | apply Drawn0.step)⟩
    · rw [if_neg c10] at H
      have c10b0 : (t302 == 0) = false := beq_eq_false_iff_ne.mpr c10
      have c10b1 : (t302 != 0) = true := bne_iff_ne.mpr c10
      by_cases c12 : t302 = 1
      · rw [if_pos c12] at H
        have c12b0 : (t302 == 1) = true := beq_iff_eq.mpr c12
        have c12b1 : (t302 != 1) = false := bne_eq_false_iff_eq.mpr c12
        clear c12
        replace H := Option.bind_eq_some_iff.mp H
        obtain ⟨t305, A130, H⟩ := H
        replace H : (some (t299, wrap64 ((wrap64 (1 - t305)) - t298), t301)) = some (r1, r2, r3) := H
        have A13 := Aside0.mk A130
        clear A130
        simp only [Option.some.injEq, Prod.mk.injEq] at H
        obtain ⟨rfl, rfl, rfl⟩ := H
        go_enter Try.func21, Try.ntmps21
        go_wp2_with (first | (go_at_call 52; (with_reducible refine (annealref1_Widths.calls a0 t297 t298 _ A3.out).mono ?_); rintro e w' ⟨rfl, ⟨nd, rfl⟩⟩; (try first | exact ⟨rfl, _, World.drewN_drewN _ _ _⟩ | exact ⟨rfl, _, Eq.trans (World.drewN_drewN _ _ _) (congrArg (World.drewN _) (Nat.add_assoc _ _ _))⟩)) | (go_at_call 59; (with_reducible refine (annealref1_parts.calls a0 a1 t299 t300 t301 _ A4.out).mono ?_); rintro e w' ⟨rfl, ⟨nd, rfl⟩⟩; (try first | exact ⟨rfl, _, World.drewN_drewN _ _ _⟩ | exact ⟨rfl, _, Eq.trans (World.drewN_drewN _ _ _) (congrArg (World.drewN _) (Nat.add_assoc _ _ _))⟩)) | (go_at_call 34; (with_reducible refine (annealref1_Class.calls k a0 a1 t302 _ A5.out).mono ?_); rintro e w' ⟨rfl, ⟨nd, rfl⟩⟩; (try first | exact ⟨rfl, _, World.drewN_drewN _ _ _⟩ | exact ⟨rfl, _, Eq.trans (World.drewN_drewN _ _ _) (congrArg (World.drewN _) (Nat.add_assoc _ _ _))⟩)) | (go_at_call 53; (with_reducible refine (annealref1_bias.calls a0 t305 _ A13.out).mono ?_); rintro e w' ⟨rfl, ⟨nd, rfl⟩⟩; (try first | exact ⟨rfl, _, World.drewN_drewN _ _ _⟩ | exact ⟨rfl, _, Eq.trans (World.drewN_drewN _ _ _) (congrArg (World.drewN _) (Nat.add_assoc _ _ _))⟩)))
        repeat (go_quiet (first | (go_at_call 52; (with_reducible refine (annealref1_Widths.calls a0 t297 t298 _ A3.out).mono ?_); rintro e w' ⟨rfl, ⟨nd, rfl⟩⟩; (try first | exact ⟨rfl, _, World.drewN_drewN _ _ _⟩ | exact ⟨rfl, _, Eq.trans (World.drewN_drewN _ _ _) (congrArg (World.drewN _) (Nat.add_assoc _ _ _))⟩)) | (go_at_call 59; (with_reducible refine (annealref1_parts.calls a0 a1 t299 t300 t301 _ A4.out).mono ?_); rintro e w' ⟨rfl, ⟨nd, rfl⟩⟩; (try first | exact ⟨rfl, _, World.drewN_drewN _ _ _⟩ | exact ⟨rfl, _, Eq.trans (World.drewN_drewN _ _ _) (congrArg (World.drewN _) (Nat.add_assoc _ _ _))⟩)) | (go_at_call 34; (with_reducible refine (annealref1_Class.calls k a0 a1 t302 _ A5.out).mono ?_); rintro e w' ⟨rfl, ⟨nd, rfl⟩⟩; (try first | exact ⟨rfl, _, World.drewN_drewN _ _ _⟩ | exact ⟨rfl, _, Eq.trans (World.drewN_drewN _ _ _) (congrArg (World.drewN _) (Nat.add_assoc _ _ _))⟩)) | (go_at_call 53; (with_reducible refine (annealref1_bias.calls a0 t305 _ A13.out).mono ?_); rintro e w' ⟨rfl, ⟨nd, rfl⟩⟩; (try first | exact ⟨rfl, _, World.drewN_drewN _ _ _⟩ | exact ⟨rfl, _, Eq.trans (World.drewN_drewN _ _ _) (congrArg (World.drewN _) (Nat.add_assoc _ _ _))⟩))); try go_wp2_with (first | (go_at_call 52; (with_reducible refine (annealref1_Widths.calls a0 t297 t298 _ A3.out).mono ?_); rintro e w' ⟨rfl, ⟨nd, rfl⟩⟩; (try first | exact ⟨rfl, _, World.drewN_drewN _ _ _⟩ | exact ⟨rfl, _, Eq.trans (World.drewN_drewN _ _ _) (congrArg (World.drewN _) (Nat.add_assoc _ _ _))⟩)) | (go_at_call 59; (with_reducible refine (annealref1_parts.calls a0 a1 t299 t300 t301 _ A4.out).mono ?_); rintro e w' ⟨rfl, ⟨nd, rfl⟩⟩; (try first | exact ⟨rfl, _, World.drewN_drewN _ _ _⟩ | exact ⟨rfl, _, Eq.trans (World.drewN_drewN _ _ _) (congrArg (World.drewN _) (Nat.add_assoc _ _ _))⟩)) | (go_at_call 34; (with_reducible refine (annealref1_Class.calls k a0 a1 t302 _ A5.out).mono ?_); rintro e w' ⟨rfl, ⟨nd, rfl⟩⟩; (try first | exact ⟨rfl, _, World.drewN_drewN _ _ _⟩ | exact ⟨rfl, _, Eq.trans (World.drewN_drewN _ _ _) (congrArg (World.drewN _) (Nat.add_assoc _ _ _))⟩)) | (go_at_call 53; (with_reducible refine (annealref1_bias.calls a0 t305 _ A13.out).mono ?_); rintro e w' ⟨rfl, ⟨nd, rfl⟩⟩; (try first | exact ⟨rfl, _, World.drewN_drewN _ _ _⟩ | exact ⟨rfl, _, Eq.trans (World.drewN_drewN _ _ _) (congrArg (World.drewN _) (Nat.add_assoc _ _ _))⟩))))
        go_ret3
        exact ⟨by first | rfl | (simp; done) | (simp [*]; done) | (congr 1; (try unfold wrap64); omega), by repeat (first | exact Drawn0.refl _ | apply Drawn0.step)⟩
      · rw [if_neg c12] at H
        have c12b0 : (t302 == 1) = false := beq_eq_false_iff_ne.mpr c12
        have c12b1 : (t302 != 1) = true := bne_iff_ne.mpr c12
        simp only [Option.some.injEq, Prod.mk.injEq] at H
        obtain ⟨rfl, rfl, rfl⟩ := H
        go_enter Try.func21, Try.ntmps21
        go_wp2_with (first | (go_at_call 52; (with_reducible refine (annealref1_Widths.calls a0 t297 t298 _ A3.out).mono ?_); rintro e w' ⟨rfl, ⟨nd, rfl⟩⟩; (try first | exact ⟨rfl, _, World.drewN_drewN _ _ _⟩ | exact ⟨rfl, _, Eq.trans (World.drewN_drewN _ _ _) (congrArg (World.drewN _) (Nat.add_assoc _ _ _))⟩)) | (go_at_call 59; (with_reducible refine (annealref1_parts.calls a0 a1 t299 t300 t301 _ A4.out).mono ?_); rintro e w' ⟨rfl, ⟨nd, rfl⟩⟩; (try first | exact ⟨rfl, _, World.drewN_drewN _ _ _⟩ | exact ⟨rfl, _, Eq.trans (World.drewN_drewN _ _ _) (congrArg (World.drewN _) (Nat.add_assoc _ _ _))⟩)) | (go_at_call 34; (with_reducible refine (annealref1_Class.calls k a0 a1 t302 _ A5.out).mono ?_); rintro e w' ⟨rfl, ⟨nd, rfl⟩⟩; (try first | exact ⟨rfl, _, World.drewN_drewN _ _ _⟩ | exact ⟨rfl, _, Eq.trans (World.drewN_drewN _ _ _) (congrArg (World.drewN _) (Nat.add_assoc _ _ _))⟩)))
        repeat (go_quiet (first | (go_at_call 52; (with_reducible refine (annealref1_Widths.calls a0 t297 t298 _ A3.out).mono ?_); rintro e w' ⟨rfl, ⟨nd, rfl⟩⟩; (try first | exact ⟨rfl, _, World.drewN_drewN _ _ _⟩ | exact ⟨rfl, _, Eq.trans (World.drewN_drewN _ _ _) (congrArg (World.drewN _) (Nat.add_assoc _ _ _))⟩)) | (go_at_call 59; (with_reducible refine (annealref1_parts.calls a0 a1 t299 t300 t301 _ A4.out).mono ?_); rintro e w' ⟨rfl, ⟨nd, rfl⟩⟩; (try first | exact ⟨rfl, _, World.drewN_drewN _ _ _⟩ | exact ⟨rfl, _, Eq.trans (World.drewN_drewN _ _ _) (congrArg (World.drewN _) (Nat.add_assoc _ _ _))⟩)) | (go_at_call 34; (with_reducible refine (annealref1_Class.calls k a0 a1 t302 _ A5.out).mono ?_); rintro e w' ⟨rfl, ⟨nd, rfl⟩⟩; (try first | exact ⟨rfl, _, World.drewN_drewN _ _ _⟩ | exact ⟨rfl, _, Eq.trans (World.drewN_drewN _ _ _) (congrArg (World.drewN _) (Nat.add_assoc _ _ _))⟩))); try go_wp2_with (first | (go_at_call 52; (with_reducible refine (annealref1_Widths.calls a0 t297 t298 _ A3.out).mono ?_); rintro e w' ⟨rfl, ⟨nd, rfl⟩⟩; (try first | exact ⟨rfl, _, World.drewN_drewN _ _ _⟩ | exact ⟨rfl, _, Eq.trans (World.drewN_drewN _ _ _) (congrArg (World.drewN _) (Nat.add_assoc _ _ _))⟩)) | (go_at_call 59; (with_reducible refine (annealref1_parts.calls a0 a1 t299 t300 t301 _ A4.out).mono ?_); rintro e w' ⟨rfl, ⟨nd, rfl⟩⟩; (try first | exact ⟨rfl, _, World.drewN_drewN _ _ _⟩ | exact ⟨rfl, _, Eq.trans (World.drewN_drewN _ _ _) (congrArg (World.drewN _) (Nat.add_assoc _ _ _))⟩)) | (go_at_call 34; (with_reducible refine (annealref1_Class.calls k a0 a1 t302 _ A5.out).mono ?_); rintro e w' ⟨rfl, ⟨nd, rfl⟩⟩; (try first | exact ⟨rfl, _, World.drewN_drewN _ _ _⟩ | exact ⟨rfl, _, Eq.trans (World.drewN_drewN _ _ _) (congrArg (World.drewN _) (Nat.add_assoc _ _ _))⟩))))
        go_ret3
        exact ⟨by first | rfl | (simp; done) | (simp [*]; done) | (congr 1; (try unfold wrap64); omega), by repeat (first | exact Drawn0.refl _ | apply Drawn0.step)⟩

/-! ### anneallaw3_RoundExact: function 5 -/
def anneallaw3_RoundExact.f (k : Nat) (a0 : Int) (a1 : Int) (a2 : Int) (a3 : Int) : Option (Bool) := (anneallaw3_known.f k).bind fun t306 => (if t306 = true then ((anneallaw3_form.f a0).bind fun t307 => ((annealref1_Mask.f t307).bind fun t308 => ((annealref1_Finite.f k t307 (Go.bits .and .u32 a2 t308)).bind fun t309 => (if t309 = true then ((annealref1_Unpack.f k t307 (Go.bits .and .u32 a2 t308)).bind fun bt310 => (if 0 ≤ (wrap64 (Int.tmod a3 40)) then ((round_Pack.f k t307 (wrap64 (Int.tmod a1 5)) bt310.1 (wrap64 (bt310.2.1 - (wrap64 (Int.tmod a3 40)))) (shl .u64 bt310.2.2 (wrap64 (Int.tmod a3 40))) false).bind fun bt313 => (if bt313.1 = (Go.bits .and .u32 a2 t308) then (some (!bt313.2.1 && (!bt313.2.2.1 && (!bt313.2.2.2.1 && (!bt313.2.2.2.2.1 && (!bt313.2.2.2.2.2)))))) else (some false))) else (none))) else (some true))))) else (some false))
theorem anneallaw3_RoundExact.mono : ∀ a0 a1 a2 a3 k, LeO (anneallaw3_RoundExact.f k a0 a1 a2 a3) (anneallaw3_RoundExact.f (k + 1) a0 a1 a2 a3) := by
  intro a0 a1 a2 a3 k
  unfold anneallaw3_RoundExact.f
  repeat' first
      | (with_reducible exact anneallaw3_known.mono _)
      | (with_reducible exact annealref1_Finite.mono _ _ _)
      | (with_reducible exact annealref1_Unpack.mono _ _ _)
      | (with_reducible exact round_Pack.mono _ _ _ _ _ _ _)
      | (with_reducible exact LeO.refl _)
      | (with_reducible exact LeO.none _)
      | (with_reducible refine LeO.ite ?_ ?_)
      | (with_reducible refine LeO.bind ?_ (fun _ => ?_))
      | exact anneallaw3_known.mono _
      | exact annealref1_Finite.mono _ _ _
      | exact annealref1_Unpack.mono _ _ _
      | exact round_Pack.mono _ _ _ _ _ _ _
      | exact LeO.none _
      | refine LeO.ite ?_ ?_
      | refine LeO.bind ?_ (fun _ => ?_)
set_option maxHeartbeats 8000000 in
set_option maxRecDepth 100000 in
theorem anneallaw3_RoundExact.calls (k : Nat) (a0 : Int) (a1 : Int) (a2 : Int) (a3 : Int) (r : Bool) (w : World) (h : anneallaw3_RoundExact.f k a0 a1 a2 a3 = some r) :
    Calls Try.prog 5 #[.int .u8 a0, .int .u8 a1, .int .u32 a2, .int .u8 a3] w fun e w' => e = .returned (.bool r) ∧ Below w.heap.size w w' := by
  have hu30 := Try.underlying30
  have HB := Aside0.mk (Below.refl w.heap.size w)
  have H : ((anneallaw3_known.f k).bind fun t306 => (if t306 = true then ((anneallaw3_form.f a0).bind fun t307 => ((annealref1_Mask.f t307).bind fun t308 => ((annealref1_Finite.f k t307 (Go.bits .and .u32 a2 t308)).bind fun t309 => (if t309 = true then ((annealref1_Unpack.f k t307 (Go.bits .and .u32 a2 t308)).bind fun bt310 => (if 0 ≤ (wrap64 (Int.tmod a3 40)) then ((round_Pack.f k t307 (wrap64 (Int.tmod a1 5)) bt310.1 (wrap64 (bt310.2.1 - (wrap64 (Int.tmod a3 40)))) (shl .u64 bt310.2.2 (wrap64 (Int.tmod a3 40))) false).bind fun bt313 => (if bt313.1 = (Go.bits .and .u32 a2 t308) then (some (!bt313.2.1 && (!bt313.2.2.1 && (!bt313.2.2.2.1 && (!bt313.2.2.2.2.1 && (!bt313.2.2.2.2.2)))))) else (some false))) else (none))) else (some true))))) else (some false))) = some r := h
  clear h
  replace H := Option.bind_eq_some_iff.mp H
  obtain ⟨t306, A50, H⟩ := H
  replace H : (if t306 = true then ((anneallaw3_form.f a0).bind fun t307 => ((annealref1_Mask.f t307).bind fun t308 => ((annealref1_Finite.f k t307 (Go.bits .and .u32 a2 t308)).bind fun t309 => (if t309 = true then ((annealref1_Unpack.f k t307 (Go.bits .and .u32 a2 t308)).bind fun bt310 => (if 0 ≤ (wrap64 (Int.tmod a3 40)) then ((round_Pack.f k t307 (wrap64 (Int.tmod a1 5)) bt310.1 (wrap64 (bt310.2.1 - (wrap64 (Int.tmod a3 40)))) (shl .u64 bt310.2.2 (wrap64 (Int.tmod a3 40))) false).bind fun bt313 => (if bt313.1 = (Go.bits .and .u32 a2 t308) then (some (!bt313.2.1 && (!bt313.2.2.1 && (!bt313.2.2.2.1 && (!bt313.2.2.2.2.1 && (!bt313.2.2.2.2.2)))))) else (some false))) else (none))) else (some true))))) else (some false)) = some r := H
  have A5 := Aside0.mk A50
  clear A50
  by_cases c6 : t306 = true
  · subst c6
    have H1 : ((anneallaw3_form.f a0).bind fun t307 => ((annealref1_Mask.f t307).bind fun t308 => ((annealref1_Finite.f k t307 (Go.bits .and .u32 a2 t308)).bind fun t309 => (if t309 = true then ((annealref1_Unpack.f k t307 (Go.bits .and .u32 a2 t308)).bind fun bt310 => (if 0 ≤ (wrap64 (Int.tmod a3 40)) then ((round_Pack.f k t307 (wrap64 (Int.tmod a1 5)) bt310.1 (wrap64 (bt310.2.1 - (wrap64 (Int.tmod a3 40)))) (shl .u64 bt310.2.2 (wrap64 (Int.tmod a3 40))) false).bind fun bt313 => (if bt313.1 = (Go.bits .and .u32 a2 t308) then (some (!bt313.2.1 && (!bt313.2.2.1 && (!bt313.2.2.2.1 && (!bt313.2.2.2.2.1 && (!bt313.2.2.2.2.2)))))) else (some false))) else (none))) else (some true))))) = some r := by rw [if_pos rfl] at H; exact H
    clear H
    have H := H1
    clear H1
    replace H := Option.bind_eq_some_iff.mp H
    obtain ⟨t307, A70, H⟩ := H
    replace H : ((annealref1_Mask.f t307).bind fun t308 => ((annealref1_Finite.f k t307 (Go.bits .and .u32 a2 t308)).bind fun t309 => (if t309 = true then ((annealref1_Unpack.f k t307 (Go.bits .and .u32 a2 t308)).bind fun bt310 => (if 0 ≤ (wrap64 (Int.tmod a3 40)) then ((round_Pack.f k t307 (wrap64 (Int.tmod a1 5)) bt310.1 (wrap64 (bt310.2.1 - (wrap64 (Int.tmod a3 40)))) (shl .u64 bt310.2.2 (wrap64 (Int.tmod a3 40))) false).bind fun bt313 => (if bt313.1 = (Go.bits .and .u32 a2 t308) then (some (!bt313.2.1 && (!bt313.2.2.1 && (!bt313.2.2.2.1 && (!bt313.2.2.2.2.1 && (!bt313.2.2.2.2.2)))))) else (some false))) else (none))) else (some true)))) = some r := H
    have A7 := Aside0.mk A70
    clear A70
    replace H := Option.bind_eq_some_iff.mp H
    obtain ⟨t308, A80, H⟩ := H
    replace H : ((annealref1_Finite.f k t307 (Go.bits .and .u32 a2 t308)).bind fun t309 => (if t309 = true then ((annealref1_Unpack.f k t307 (Go.bits .and .u32 a2 t308)).bind fun bt310 => (if 0 ≤ (wrap64 (Int.tmod a3 40)) then ((round_Pack.f k t307 (wrap64 (Int.tmod a1 5)) bt310.1 (wrap64 (bt310.2.1 - (wrap64 (Int.tmod a3 40)))) (shl .u64 bt310.2.2 (wrap64 (Int.tmod a3 40))) false).bind fun bt313 => (if bt313.1 = (Go.bits .and .u32 a2 t308) then (some (!bt313.2.1 && (!bt313.2.2.1 && (!bt313.2.2.2.1 && (!bt313.2.2.2.2.1 && (!bt313.2.2.2.2.2)))))) else (some false))) else (none))) else (some true))) = some r := H
    have A8 := Aside0.mk A80
    clear A80
    replace H := Option.bind_eq_some_iff.mp H
    obtain ⟨t309, A90, H⟩ := H
    replace H : (if t309 = true then ((annealref1_Unpack.f k t307 (Go.bits .and .u32 a2 t308)).bind fun bt310 => (if 0 ≤ (wrap64 (Int.tmod a3 40)) then ((round_Pack.f k t307 (wrap64 (Int.tmod a1 5)) bt310.1 (wrap64 (bt310.2.1 - (wrap64 (Int.tmod a3 40)))) (shl .u64 bt310.2.2 (wrap64 (Int.tmod a3 40))) false).bind fun bt313 => (if bt313.1 = (Go.bits .and .u32 a2 t308) then (some (!bt313.2.1 && (!bt313.2.2.1 && (!bt313.2.2.2.1 && (!bt313.2.2.2.2.1 && (!bt313.2.2.2.2.2)))))) else (some false))) else (none))) else (some true)) = some r := H
    have A9 := Aside0.mk A90
    clear A90
    by_cases c10 : t309 = true
    · subst c10
      have H1 : ((annealref1_Unpack.f k t307 (Go.bits .and .u32 a2 t308)).bind fun bt310 => (if 0 ≤ (wrap64 (Int.tmod a3 40)) then ((round_Pack.f k t307 (wrap64 (Int.tmod a1 5)) bt310.1 (wrap64 (bt310.2.1 - (wrap64 (Int.tmod a3 40)))) (shl .u64 bt310.2.2 (wrap64 (Int.tmod a3 40))) false).bind fun bt313 => (if bt313.1 = (Go.bits .and .u32 a2 t308) then (some (!bt313.2.1 && (!bt313.2.2.1 && (!bt313.2.2.2.1 && (!bt313.2.2.2.2.1 && (!bt313.2.2.2.2.2)))))) else (some false))) else (none))) = some r := by rw [if_pos rfl] at H; exact H
      clear H
      have H := H1
      clear H1
      replace H := Option.bind_eq_some_iff.mp H
      obtain ⟨⟨t310, t311, t312⟩, A110, H⟩ := H
      replace H : (if 0 ≤ (wrap64 (Int.tmod a3 40)) then ((round_Pack.f k t307 (wrap64 (Int.tmod a1 5)) t310 (wrap64 (t311 - (wrap64 (Int.tmod a3 40)))) (shl .u64 t312 (wrap64 (Int.tmod a3 40))) false).bind fun bt313 => (if bt313.1 = (Go.bits .and .u32 a2 t308) then (some (!bt313.2.1 && (!bt313.2.2.1 && (!bt313.2.2.2.1 && (!bt313.2.2.2.2.1 && (!bt313.2.2.2.2.2)))))) else (some false))) else (none)) = some r := H
      have A11 := Aside0.mk A110
      clear A110
      obtain ⟨ji12, hji12⟩ : ∃ j_ : Int, (wrap64 (Int.tmod a3 40)) = j_ := ⟨_, rfl⟩
      replace H : (if 0 ≤ (ji12) then ((round_Pack.f k t307 (wrap64 (Int.tmod a1 5)) t310 (wrap64 (t311 - (ji12))) (shl .u64 t312 (ji12)) false).bind fun bt313 => (if bt313.1 = (Go.bits .and .u32 a2 t308) then (some (!bt313.2.1 && (!bt313.2.2.1 && (!bt313.2.2.2.1 && (!bt313.2.2.2.2.1 && (!bt313.2.2.2.2.2)))))) else (some false))) else (none)) = some r := by first | (rw [hji12] at H; exact H) | (simp only [hji12] at H ⊢; exact H)
      (try rw [hji12] at A5)
      (try rw [hji12] at A7)
      (try rw [hji12] at A8)
      (try rw [hji12] at A9)
      (try rw [hji12] at A11)
      have hji12w : (IntKind.i64.wrap (Int.tmod a3 40)) = ji12 := (i64_w _).trans hji12
      by_cases c13 : 0 ≤ (ji12)
      · rw [if_pos c13] at H
        have c13b0 := eq_true c13
        have c13b1 : decide (0 ≤ (ji12)) = true := decide_eq_true c13
        clear c13
        obtain ⟨ji14, hji14⟩ : ∃ j_ : Int, (shl .u64 t312 (ji12)) = j_ := ⟨_, rfl⟩
        replace H : ((round_Pack.f k t307 (wrap64 (Int.tmod a1 5)) t310 (wrap64 (t311 - (ji12))) (ji14) false).bind fun bt313 => (if bt313.1 = (Go.bits .and .u32 a2 t308) then (some (!bt313.2.1 && (!bt313.2.2.1 && (!bt313.2.2.2.1 && (!bt313.2.2.2.2.1 && (!bt313.2.2.2.2.2)))))) else (some false))) = some r := by first | (rw [hji14] at H; exact H) | (simp only [hji14] at H ⊢; exact H)
        (try rw [hji14] at A5)
        (try rw [hji14] at A7)
        (try rw [hji14] at A8)
        (try rw [hji14] at A9)
        (try rw [hji14] at A11)
        have hji14_ : (IntKind.u64.wrap (t312 * 2 ^ min (ji12).toNat 64)) = ji14 := hji14
        have hji14z : (ji12) ≤ 64 → (IntKind.u64.wrap (t312 * 2 ^ (ji12).toNat)) = ji14 := shl_small hji14
        replace H := Option.bind_eq_some_iff.mp H
        obtain ⟨⟨t313, t314, t315, t316, t317, t318⟩, A150, H⟩ := H
        replace H : (if t313 = (Go.bits .and .u32 a2 t308) then (some (!t314 && (!t315 && (!t316 && (!t317 && (!t318)))))) else (some false)) = some r := H
        have A15 := Aside0.mk A150
        clear A150
        by_cases c16 : t313 = (Go.bits .and .u32 a2 t308)
        · rw [if_pos c16] at H
          have c16b0 : (t313 == (Go.bits .and .u32 a2 t308)) = true := beq_iff_eq.mpr c16
          have c16b1 : (t313 != (Go.bits .and .u32 a2 t308)) = false := bne_eq_false_iff_eq.mpr c16
          clear c16
          obtain rfl := Option.some.inj H
          go_enter Try.func5, Try.ntmps5
          go_wp2_with (first | ((with_reducible refine gate_callee (f := 15) rfl ?_); refine goesL_ (some 17) rfl rfl Try.func15 (by kernel_rfl) rfl #[] rfl (by (try simp only [List.map_toArray, List.map_cons, List.map_nil]); first | done | rfl | (simp only [List.length_drop, List.length_take]; rfl)) ?_; (with_reducible refine (anneallaw3_known.calls k  true _ A5.out).mono ?_); rintro e w17 ⟨rfl, hb⟩; refine ⟨_, rfl, ?_⟩; have n0_ := Aside0.mk (below_step (by repeat (first | (with_reducible first | exact HB.out | apply below_alloc | apply pw_below_drewN | apply below_drew1) | exact HB.out)) hb); clear HB; have HB := n0_; clear n0_; (try clear hb); (try clear hb2); (try clear hk); (try clear hi)) | ((with_reducible refine gate_callee (f := 16) rfl ?_); refine goesL_ (some 20) rfl rfl Try.func16 (by kernel_rfl) rfl #[.int .u8 a0] rfl (by (try simp only [List.map_toArray, List.map_cons, List.map_nil]); first | done | rfl | (simp only [List.length_drop, List.length_take]; rfl)) ?_; (with_reducible refine (anneallaw3_form.calls a0 t307 _ A7.out).mono ?_); rintro e w18 ⟨rfl, hb⟩; refine ⟨_, rfl, ?_⟩; have n0_ := Aside0.mk (below_step (by repeat (first | (with_reducible first | exact HB.out | apply below_alloc | apply pw_below_drewN | apply below_drew1) | exact HB.out)) hb); clear HB; have HB := n0_; clear n0_; (try clear hb); (try clear hb2); (try clear hk); (try clear hi)) | ((with_reducible refine gate_callee (f := 19) rfl ?_); refine goesL_ (some 23) rfl rfl Try.func19 (by kernel_rfl) rfl #[.int .i64 t307] rfl (by (try simp only [List.map_toArray, List.map_cons, List.map_nil]); first | done | rfl | (simp only [List.length_drop, List.length_take]; rfl)) ?_; (with_reducible refine (annealref1_Mask.calls t307 t308 _ A8.out).mono ?_); rintro e w' ⟨rfl, ⟨nd, rfl⟩⟩; refine ⟨_, rfl, ?_⟩; (try (rw [drewN_self w18]; generalize hq_ : World.drewN w18 _ = w18; have n0_ : Aside0 (Below w.heap.size w w18) := ⟨by rw [← hq_]; exact (by repeat (first | (with_reducible first | exact HB.out | apply below_alloc | apply pw_below_drewN | apply below_drew1) | exact HB.out))⟩; clear HB hq_; have HB := n0_; clear n0_))) | ((with_reducible refine gate_callee (f := 20) rfl ?_); refine goesL_ (some 27) rfl rfl Try.func20 (by kernel_rfl) rfl #[.int .i64 t307, .int .u32 (Go.bits .and .u32 a2 t308)] rfl (by (try simp only [List.map_toArray, List.map_cons, List.map_nil]); first | done | rfl | (simp only [List.length_drop, List.length_take]; rfl)) ?_; (with_reducible refine (annealref1_Finite.calls k t307 (Go.bits .and .u32 a2 t308) true _ A9.out).mono ?_); rintro e w' ⟨rfl, ⟨nd, rfl⟩⟩; refine ⟨_, rfl, ?_⟩; (try (rw [drewN_self w18]; generalize hq_ : World.drewN w18 _ = w18; have n0_ : Aside0 (Below w.heap.size w w18) := ⟨by rw [← hq_]; exact (by repeat (first | (with_reducible first | exact HB.out | apply below_alloc | apply pw_below_drewN | apply below_drew1) | exact HB.out))⟩; clear HB hq_; have HB := n0_; clear n0_))) | ((with_reducible refine gate_callee (f := 21) rfl ?_); refine goesL_ (some 32) rfl rfl Try.func21 (by kernel_rfl) rfl #[.int .i64 t307, .int .u32 (Go.bits .and .u32 a2 t308)] rfl (by (try simp only [List.map_toArray, List.map_cons, List.map_nil]); first | done | rfl | (simp only [List.length_drop, List.length_take]; rfl)) ?_; (with_reducible refine (annealref1_Unpack.calls k t307 (Go.bits .and .u32 a2 t308) t310 t311 t312 _ A11.out).mono ?_); rintro e w' ⟨rfl, ⟨nd, rfl⟩⟩; refine ⟨_, rfl, ?_⟩; (try (rw [drewN_self w18]; generalize hq_ : World.drewN w18 _ = w18; have n0_ : Aside0 (Below w.heap.size w w18) := ⟨by rw [← hq_]; exact (by repeat (first | (with_reducible first | exact HB.out | apply below_alloc | apply pw_below_drewN | apply below_drew1) | exact HB.out))⟩; clear HB hq_; have HB := n0_; clear n0_))) | ((with_reducible refine gate_callee (f := 17) rfl ?_); refine goesL_ (some 51) rfl rfl Try.func17 (by kernel_rfl) rfl #[.int .i64 t307, .int .i64 (wrap64 (Int.tmod a1 5)), .bool t310, .int .i64 (wrap64 (t311 - (ji12))), .int .u64 ji14, .bool false] rfl (by (try simp only [List.map_toArray, List.map_cons, List.map_nil]); first | done | (simp only [hji12, hji14]; rfl) | rfl | (simp only [List.length_drop, List.length_take]; rfl)) ?_; (with_reducible refine (round_Pack.calls k t307 (wrap64 (Int.tmod a1 5)) t310 (wrap64 (t311 - (ji12))) ji14 false t313 t314 t315 t316 t317 t318 _ A15.out).mono ?_); rintro e w19 ⟨rfl, hb⟩; refine ⟨_, rfl, ?_⟩; have n0_ := Aside0.mk (below_step (by repeat (first | (with_reducible first | exact HB.out | apply below_alloc | apply pw_below_drewN | apply below_drew1) | exact HB.out)) hb); clear HB; have HB := n0_; clear n0_; (try clear hb); (try clear hb2); (try clear hk); (try clear hi)) | ((with_reducible refine gate_dst (N := 16) rfl ?_); refine box_event ?hg (N := 16) ?hd (cs := #[.bool false, .bool false, .bool false, .bool false, .bool false]) (t := 30) ?hr ?_; (case hd => rfl); (case hg => rfl); (case hr => first | (go_simp; done) | (go_simp; rfl)); intro gb319 hg w20 hbox hb; have n0_ := Aside0.mk (below_step (by repeat (first | (with_reducible first | exact HB.out | apply below_alloc | apply pw_below_drewN | apply below_drew1) | exact HB.out)) hb); have n1_ := Aside0.mk (hbox); have n2_ := Aside0.mk ((by rw [hg]; exact (below_size (by repeat (first | (with_reducible first | exact HB.out | apply below_alloc | apply pw_below_drewN | apply below_drew1) | exact HB.out))) : w.heap.size ≤ gb319)); have n3_ := Aside0.mk ((by rw [hg]; exact (below_size (by repeat (first | (with_reducible first | exact HB.out | apply below_alloc | apply pw_below_drewN | apply below_drew1) | exact HB.out))) : w.heap.size ≤ gb319)); clear HB; have HB := n0_; have BK319 := n1_; have GW319 := n2_; have GE319 := n3_; clear n0_ n1_ n2_ n3_; clear hb hbox hg; have hcz21_0 : w20.cell? ⟨gb319, 0, none⟩ = some (.bool false) := (blk_cell BK319.out 0).trans rfl; have hcz21_1 : w20.cell? ⟨gb319, 1, none⟩ = some (.bool false) := (blk_cell BK319.out 1).trans rfl; have hcz21_2 : w20.cell? ⟨gb319, 2, none⟩ = some (.bool false) := (blk_cell BK319.out 2).trans rfl; have hcz21_3 : w20.cell? ⟨gb319, 3, none⟩ = some (.bool false) := (blk_cell BK319.out 3).trans rfl; have hcz21_4 : w20.cell? ⟨gb319, 4, none⟩ = some (.bool false) := (blk_cell BK319.out 4).trans rfl; have hfz21_0 := blk_frozen BK319.out 0; have hfz21_1 := blk_frozen BK319.out 1; have hfz21_2 := blk_frozen BK319.out 2; have hfz21_3 := blk_frozen BK319.out 3; have hfz21_4 := blk_frozen BK319.out 4))
          go_ret
          exact ⟨by first | rfl | (simp [errW_none, errW_some] <;> rfl) | (simp only [← hji12, ← hji14]; first | rfl | (simp [errW_none, errW_some] <;> rfl)) | (simp [*, errW_none, errW_some] <;> rfl), by repeat (first | (with_reducible first | exact HB.out | apply below_alloc | apply pw_below_drewN | apply below_drew1 | refine below_set ?_ GE319.out) | exact HB.out)⟩
        · rw [if_neg c16] at H
          have c16b0 : (t313 == (Go.bits .and .u32 a2 t308)) = false := beq_eq_false_iff_ne.mpr c16
          have c16b1 : (t313 != (Go.bits .and .u32 a2 t308)) = true := bne_iff_ne.mpr c16
          obtain rfl := Option.some.inj H
          go_enter Try.func5, Try.ntmps5
          go_wp2_with (first | ((with_reducible refine gate_callee (f := 15) rfl ?_); refine goesL_ (some 17) rfl rfl Try.func15 (by kernel_rfl) rfl #[] rfl (by (try simp only [List.map_toArray, List.map_cons, List.map_nil]); first | done | rfl | (simp only [List.length_drop, List.length_take]; rfl)) ?_; (with_reducible refine (anneallaw3_known.calls k  true _ A5.out).mono ?_); rintro e w22 ⟨rfl, hb⟩; refine ⟨_, rfl, ?_⟩; have n0_ := Aside0.mk (below_step (by repeat (first | (with_reducible first | exact HB.out | apply below_alloc | apply pw_below_drewN | apply below_drew1) | exact HB.out)) hb); clear HB; have HB := n0_; clear n0_; (try clear hb); (try clear hb2); (try clear hk); (try clear hi)) | ((with_reducible refine gate_callee (f := 16) rfl ?_); refine goesL_ (some 20) rfl rfl Try.func16 (by kernel_rfl) rfl #[.int .u8 a0] rfl (by (try simp only [List.map_toArray, List.map_cons, List.map_nil]); first | done | rfl | (simp only [List.length_drop, List.length_take]; rfl)) ?_; (with_reducible refine (anneallaw3_form.calls a0 t307 _ A7.out).mono ?_); rintro e w23 ⟨rfl, hb⟩; refine ⟨_, rfl, ?_⟩; have n0_ := Aside0.mk (below_step (by repeat (first | (with_reducible first | exact HB.out | apply below_alloc | apply pw_below_drewN | apply below_drew1) | exact HB.out)) hb); clear HB; have HB := n0_; clear n0_; (try clear hb); (try clear hb2); (try clear hk); (try clear hi)) | ((with_reducible refine gate_callee (f := 19) rfl ?_); refine goesL_ (some 23) rfl rfl Try.func19 (by kernel_rfl) rfl #[.int .i64 t307] rfl (by (try simp only [List.map_toArray, List.map_cons, List.map_nil]); first | done | rfl | (simp only [List.length_drop, List.length_take]; rfl)) ?_; (with_reducible refine (annealref1_Mask.calls t307 t308 _ A8.out).mono ?_); rintro e w' ⟨rfl, ⟨nd, rfl⟩⟩; refine ⟨_, rfl, ?_⟩; (try (rw [drewN_self w23]; generalize hq_ : World.drewN w23 _ = w23; have n0_ : Aside0 (Below w.heap.size w w23) := ⟨by rw [← hq_]; exact (by repeat (first | (with_reducible first | exact HB.out | apply below_alloc | apply pw_below_drewN | apply below_drew1) | exact HB.out))⟩; clear HB hq_; have HB := n0_; clear n0_))) | ((with_reducible refine gate_callee (f := 20) rfl ?_); refine goesL_ (some 27) rfl rfl Try.func20 (by kernel_rfl) rfl #[.int .i64 t307, .int .u32 (Go.bits .and .u32 a2 t308)] rfl (by (try simp only [List.map_toArray, List.map_cons, List.map_nil]); first | done | rfl | (simp only [List.length_drop, List.length_take]; rfl)) ?_; (with_reducible refine (annealref1_Finite.calls k t307 (Go.bits .and .u32 a2 t308) true _ A9.out).mono ?_); rintro e w' ⟨rfl, ⟨nd, rfl⟩⟩; refine ⟨_, rfl, ?_⟩; (try (rw [drewN_self w23]; generalize hq_ : World.drewN w23 _ = w23; have n0_ : Aside0 (Below w.heap.size w w23) := ⟨by rw [← hq_]; exact (by repeat (first | (with_reducible first | exact HB.out | apply below_alloc | apply pw_below_drewN | apply below_drew1) | exact HB.out))⟩; clear HB hq_; have HB := n0_; clear n0_))) | ((with_reducible refine gate_callee (f := 21) rfl ?_); refine goesL_ (some 32) rfl rfl Try.func21 (by kernel_rfl) rfl #[.int .i64 t307, .int .u32 (Go.bits .and .u32 a2 t308)] rfl (by (try simp only [List.map_toArray, List.map_cons, List.map_nil]); first | done | rfl | (simp only [List.length_drop, List.length_take]; rfl)) ?_; (with_reducible refine (annealref1_Unpack.calls k t307 (Go.bits .and .u32 a2 t308) t310 t311 t312 _ A11.out).mono ?_); rintro e w' ⟨rfl, ⟨nd, rfl⟩⟩; refine ⟨_, rfl, ?_⟩; (try (rw [drewN_self w23]; generalize hq_ : World.drewN w23 _ = w23; have n0_ : Aside0 (Below w.heap.size w w23) := ⟨by rw [← hq_]; exact (by repeat (first | (with_reducible first | exact HB.out | apply below_alloc | apply pw_below_drewN | apply below_drew1) | exact HB.out))⟩; clear HB hq_; have HB := n0_; clear n0_))) | ((with_reducible refine gate_callee (f := 17) rfl ?_); refine goesL_ (some 51) rfl rfl Try.func17 (by kernel_rfl) rfl #[.int .i64 t307, .int .i64 (wrap64 (Int.tmod a1 5)), .bool t310, .int .i64 (wrap64 (t311 - (ji12))), .int .u64 ji14, .bool false] rfl (by (try simp only [List.map_toArray, List.map_cons, List.map_nil]); first | done | (simp only [hji12, hji14]; rfl) | rfl | (simp only [List.length_drop, List.length_take]; rfl)) ?_; (with_reducible refine (round_Pack.calls k t307 (wrap64 (Int.tmod a1 5)) t310 (wrap64 (t311 - (ji12))) ji14 false t313 t314 t315 t316 t317 t318 _ A15.out).mono ?_); rintro e w24 ⟨rfl, hb⟩; refine ⟨_, rfl, ?_⟩; have n0_ := Aside0.mk (below_step (by repeat (first | (with_reducible first | exact HB.out | apply below_alloc | apply pw_below_drewN | apply below_drew1) | exact HB.out)) hb); clear HB; have HB := n0_; clear n0_; (try clear hb); (try clear hb2); (try clear hk); (try clear hi)) | ((with_reducible refine gate_dst (N := 16) rfl ?_); refine box_event ?hg (N := 16) ?hd (cs := #[.bool false, .bool false, .bool false, .bool false, .bool false]) (t := 30) ?hr ?_; (case hd => rfl); (case hg => rfl); (case hr => first | (go_simp; done) | (go_simp; rfl)); intro gb319 hg w25 hbox hb; have n0_ := Aside0.mk (below_step (by repeat (first | (with_reducible first | exact HB.out | apply below_alloc | apply pw_below_drewN | apply below_drew1) | exact HB.out)) hb); have n1_ := Aside0.mk (hbox); have n2_ := Aside0.mk ((by rw [hg]; exact (below_size (by repeat (first | (with_reducible first | exact HB.out | apply below_alloc | apply pw_below_drewN | apply below_drew1) | exact HB.out))) : w.heap.size ≤ gb319)); have n3_ := Aside0.mk ((by rw [hg]; exact (below_size (by repeat (first | (with_reducible first | exact HB.out | apply below_alloc | apply pw_below_drewN | apply below_drew1) | exact HB.out))) : w.heap.size ≤ gb319)); clear HB; have HB := n0_; have BK319 := n1_; have GW319 := n2_; have GE319 := n3_; clear n0_ n1_ n2_ n3_; clear hb hbox hg; have hcz26_0 : w25.cell? ⟨gb319, 0, none⟩ = some (.bool false) := (blk_cell BK319.out 0).trans rfl; have hcz26_1 : w25.cell? ⟨gb319, 1, none⟩ = some (.bool false) := (blk_cell BK319.out 1).trans rfl; have hcz26_2 : w25.cell? ⟨gb319, 2, none⟩ = some (.bool false) := (blk_cell BK319.out 2).trans rfl; have hcz26_3 : w25.cell? ⟨gb319, 3, none⟩ = some (.bool false) := (blk_cell BK319.out 3).trans rfl; have hcz26_4 : w25.cell? ⟨gb319, 4, none⟩ = some (.bool false) := (blk_cell BK319.out 4).trans rfl; have hfz26_0 := blk_frozen BK319.out 0; have hfz26_1 := blk_frozen BK319.out 1; have hfz26_2 := blk_frozen BK319.out 2; have hfz26_3 := blk_frozen BK319.out 3; have hfz26_4 := blk_frozen BK319.out 4))
          go_ret
          exact ⟨by first | rfl | (simp [errW_none, errW_some] <;> rfl) | (simp only [← hji12, ← hji14]; first | rfl | (simp [errW_none, errW_some] <;> rfl)) | (simp [*, errW_none, errW_some] <;> rfl), by repeat (first | (with_reducible first | exact HB.out | apply below_alloc | apply pw_below_drewN | apply below_drew1 | refine below_set ?_ GE319.out) | exact HB.out)⟩
      · rw [if_neg c13] at H
        exact absurd H (by simp)
    · replace c10 := Bool.eq_false_iff.mpr c10
      subst c10
      have H1 : (some true) = some r := by rw [if_neg (show ¬ (false = true) by decide)] at H; exact H
      clear H
      have H := H1
      clear H1
      obtain rfl := Option.some.inj H
      go_enter Try.func5, Try.ntmps5
      go_wp2_with (first | ((with_reducible refine gate_callee (f := 15) rfl ?_); refine goesL_ (some 17) rfl rfl Try.func15 (by kernel_rfl) rfl #[] rfl (by (try simp only [List.map_toArray, List.map_cons, List.map_nil]); first | done | rfl | (simp only [List.length_drop, List.length_take]; rfl)) ?_; (with_reducible refine (anneallaw3_known.calls k  true _ A5.out).mono ?_); rintro e w27 ⟨rfl, hb⟩; refine ⟨_, rfl, ?_⟩; have n0_ := Aside0.mk (below_step (by repeat (first | (with_reducible first | exact HB.out | apply below_alloc | apply pw_below_drewN | apply below_drew1) | exact HB.out)) hb); clear HB; have HB := n0_; clear n0_; (try clear hb); (try clear hb2); (try clear hk); (try clear hi)) | ((with_reducible refine gate_callee (f := 16) rfl ?_); refine goesL_ (some 20) rfl rfl Try.func16 (by kernel_rfl) rfl #[.int .u8 a0] rfl (by (try simp only [List.map_toArray, List.map_cons, List.map_nil]); first | done | rfl | (simp only [List.length_drop, List.length_take]; rfl)) ?_; (with_reducible refine (anneallaw3_form.calls a0 t307 _ A7.out).mono ?_); rintro e w28 ⟨rfl, hb⟩; refine ⟨_, rfl, ?_⟩; have n0_ := Aside0.mk (below_step (by repeat (first | (with_reducible first | exact HB.out | apply below_alloc | apply pw_below_drewN | apply below_drew1) | exact HB.out)) hb); clear HB; have HB := n0_; clear n0_; (try clear hb); (try clear hb2); (try clear hk); (try clear hi)) | ((with_reducible refine gate_callee (f := 19) rfl ?_); refine goesL_ (some 23) rfl rfl Try.func19 (by kernel_rfl) rfl #[.int .i64 t307] rfl (by (try simp only [List.map_toArray, List.map_cons, List.map_nil]); first | done | rfl | (simp only [List.length_drop, List.length_take]; rfl)) ?_; (with_reducible refine (annealref1_Mask.calls t307 t308 _ A8.out).mono ?_); rintro e w' ⟨rfl, ⟨nd, rfl⟩⟩; refine ⟨_, rfl, ?_⟩) | ((with_reducible refine gate_callee (f := 20) rfl ?_); refine goesL_ (some 27) rfl rfl Try.func20 (by kernel_rfl) rfl #[.int .i64 t307, .int .u32 (Go.bits .and .u32 a2 t308)] rfl (by (try simp only [List.map_toArray, List.map_cons, List.map_nil]); first | done | rfl | (simp only [List.length_drop, List.length_take]; rfl)) ?_; (with_reducible refine (annealref1_Finite.calls k t307 (Go.bits .and .u32 a2 t308) false _ A9.out).mono ?_); rintro e w' ⟨rfl, ⟨nd, rfl⟩⟩; refine ⟨_, rfl, ?_⟩))
      go_ret
      exact ⟨by first | rfl | (simp [errW_none, errW_some] <;> rfl) | (simp [*, errW_none, errW_some] <;> rfl), by repeat (first | (with_reducible first | exact HB.out | apply below_alloc | apply pw_below_drewN | apply below_drew1) | exact HB.out)⟩
  · replace c6 := Bool.eq_false_iff.mpr c6
    subst c6
    have H1 : (some false) = some r := by rw [if_neg (show ¬ (false = true) by decide)] at H; exact H
    clear H
    have H := H1
    clear H1
    obtain rfl := Option.some.inj H
    go_enter Try.func5, Try.ntmps5
    go_wp2_with (first | ((with_reducible refine gate_callee (f := 15) rfl ?_); refine goesL_ (some 17) rfl rfl Try.func15 (by kernel_rfl) rfl #[] rfl (by (try simp only [List.map_toArray, List.map_cons, List.map_nil]); first | done | rfl | (simp only [List.length_drop, List.length_take]; rfl)) ?_; (with_reducible refine (anneallaw3_known.calls k  false _ A5.out).mono ?_); rintro e w29 ⟨rfl, hb⟩; refine ⟨_, rfl, ?_⟩; have n0_ := Aside0.mk (below_step (by repeat (first | (with_reducible first | exact HB.out | apply below_alloc | apply pw_below_drewN | apply below_drew1) | exact HB.out)) hb); clear HB; have HB := n0_; clear n0_; (try clear hb); (try clear hb2); (try clear hk); (try clear hi)))
    go_ret
    exact ⟨by first | rfl | (simp [errW_none, errW_some] <;> rfl) | (simp [*, errW_none, errW_some] <;> rfl), by repeat (first | (with_reducible first | exact HB.out | apply below_alloc | apply pw_below_drewN | apply below_drew1) | exact HB.out)⟩

/-- THE ONE PURE STATEMENT of anneallaw3_RoundExact: yours. -/
def anneallaw3_RoundExact.Pure : Prop := ∀ (a0 : Int) (a1 : Int) (a2 : Int) (a3 : Int), (Lit.int .u8 a0).wf = true → (Lit.int .u8 a1).wf = true → (Lit.int .u32 a2).wf = true → (Lit.int .u8 a3).wf = true → ∃ k, anneallaw3_RoundExact.f k a0 a1 a2 a3 = some true
theorem anneallaw3_RoundExact.walk (P : anneallaw3_RoundExact.Pure) (a0 : Int) (a1 : Int) (a2 : Int) (a3 : Int) (w : World) (w0 : (Lit.int .u8 a0).wf = true) (w1 : (Lit.int .u8 a1).wf = true) (w2 : (Lit.int .u32 a2).wf = true) (w3 : (Lit.int .u8 a3).wf = true) :
    Calls Try.prog 5 #[.int .u8 a0, .int .u8 a1, .int .u32 a2, .int .u8 a3] w fun e w' => e = .returned (.bool true) ∧ Below w.heap.size w w' := by
  obtain ⟨k, h⟩ := P a0 a1 a2 a3 w0 w1 w2 w3
  refine (anneallaw3_RoundExact.calls k a0 a1 a2 a3 true w h).mono ?_
  rintro e w' ⟨rfl, hd⟩
  exact ⟨rfl, hd⟩

/-! ### annealref1_neg: function 60 -/
def annealref1_neg.f (a0 : Int) (a1 : Int) : Option (Bool) := (annealref1_parts.f a0 a1).bind fun bt320 => (some bt320.1)
set_option maxHeartbeats 8000000 in
set_option maxRecDepth 100000 in
theorem annealref1_neg.calls (a0 : Int) (a1 : Int) (r : Bool) (w : World) (h : annealref1_neg.f a0 a1 = some r) :
    Calls Try.prog 60 #[.int .i64 a0, .int .u32 a1] w fun e w' => e = .returned (.bool r) ∧ Drawn0 w w' := by
  have H : ((annealref1_parts.f a0 a1).bind fun bt320 => (some bt320.1)) = some r := h
  clear h
  replace H := Option.bind_eq_some_iff.mp H
  obtain ⟨⟨t320, t321, t322⟩, A30, H⟩ := H
  replace H : (some t320) = some r := H
  have A3 := Aside0.mk A30
  clear A30
  obtain rfl := Option.some.inj H
  go_enter Try.func60, Try.ntmps60
  go_wp2_with (first | ((with_reducible refine gate_callee (f := 59) rfl ?_); refine goesL_ (some 11) rfl rfl Try.func59 (by kernel_rfl) rfl #[.int .i64 a0, .int .u32 a1] rfl (by (try simp only [List.map_toArray, List.map_cons, List.map_nil]); first | done | rfl | (simp only [List.length_drop, List.length_take]; rfl)) ?_; (with_reducible refine (annealref1_parts.calls a0 a1 t320 t321 t322 _ A3.out).mono ?_); rintro e w' ⟨rfl, ⟨nd, rfl⟩⟩; refine ⟨_, rfl, ?_⟩))
  go_ret
  exact ⟨by first | rfl | (simp; done) | (simp [*]; done) | (congr 1; (try unfold wrap64); omega), by repeat (first | exact Drawn0.refl _ | apply Drawn0.step)⟩

/-! ### annealref1_Key: function 22 -/
def annealref1_Key.f (a0 : Int) (a1 : Int) : Option (Int) := (annealref1_Mask.f a0).bind fun t323 => ((annealref1_sign.f a0 true).bind fun t324 => ((annealref1_neg.f a0 a1).bind fun t325 => (if t325 = true then (some (wrap64 ((-1) - (wrap64 (Go.bits .andNot .u32 (Go.bits .and .u32 a1 t323) t324))))) else (some (wrap64 (Go.bits .andNot .u32 (Go.bits .and .u32 a1 t323) t324))))))
set_option maxHeartbeats 8000000 in
set_option maxRecDepth 100000 in
theorem annealref1_Key.calls (a0 : Int) (a1 : Int) (r : Int) (w : World) (h : annealref1_Key.f a0 a1 = some r) :
    Calls Try.prog 22 #[.int .i64 a0, .int .u32 a1] w fun e w' => e = .returned (.int .i64 r) ∧ Drawn0 w w' := by
  have H : ((annealref1_Mask.f a0).bind fun t323 => ((annealref1_sign.f a0 true).bind fun t324 => ((annealref1_neg.f a0 a1).bind fun t325 => (if t325 = true then (some (wrap64 ((-1) - (wrap64 (Go.bits .andNot .u32 (Go.bits .and .u32 a1 t323) t324))))) else (some (wrap64 (Go.bits .andNot .u32 (Go.bits .and .u32 a1 t323) t324))))))) = some r := h
  clear h
  replace H := Option.bind_eq_some_iff.mp H
  obtain ⟨t323, A30, H⟩ := H
  replace H : ((annealref1_sign.f a0 true).bind fun t324 => ((annealref1_neg.f a0 a1).bind fun t325 => (if t325 = true then (some (wrap64 ((-1) - (wrap64 (Go.bits .andNot .u32 (Go.bits .and .u32 a1 t323) t324))))) else (some (wrap64 (Go.bits .andNot .u32 (Go.bits .and .u32 a1 t323) t324)))))) = some r := H
  have A3 := Aside0.mk A30
  clear A30
  replace H := Option.bind_eq_some_iff.mp H
  obtain ⟨t324, A40, H⟩ := H
  replace H : ((annealref1_neg.f a0 a1).bind fun t325 => (if t325 = true then (some (wrap64 ((-1) - (wrap64 (Go.bits .andNot .u32 (Go.bits .and .u32 a1 t323) t324))))) else (some (wrap64 (Go.bits .andNot .u32 (Go.bits .and .u32 a1 t323) t324))))) = some r := H
  have A4 := Aside0.mk A40
  clear A40
  replace H := Option.bind_eq_some_iff.mp H
  obtain ⟨t325, A50, H⟩ := H
  replace H : (if t325 = true then (some (wrap64 ((-1) - (wrap64 (Go.bits .andNot .u32 (Go.bits .and .u32 a1 t323) t324))))) else (some (wrap64 (Go.bits .andNot .u32 (Go.bits .and .u32 a1 t323) t324)))) = some r := H
  have A5 := Aside0.mk A50
  clear A50
  by_cases c6 : t325 = true
  · subst c6
    have H1 : (some (wrap64 ((-1) - (wrap64 (Go.bits .andNot .u32 (Go.bits .and .u32 a1 t323) t324))))) = some r := by rw [if_pos rfl] at H; exact H
    clear H
    have H := H1
    clear H1
    obtain rfl := Option.some.inj H
    go_enter Try.func22, Try.ntmps22
    go_wp2_with (first | ((with_reducible refine gate_callee (f := 19) rfl ?_); refine goesL_ (some 8) rfl rfl Try.func19 (by kernel_rfl) rfl #[.int .i64 a0] rfl (by (try simp only [List.map_toArray, List.map_cons, List.map_nil]); first | done | rfl | (simp only [List.length_drop, List.length_take]; rfl)) ?_; (with_reducible refine (annealref1_Mask.calls a0 t323 _ A3.out).mono ?_); rintro e w' ⟨rfl, ⟨nd, rfl⟩⟩; refine ⟨_, rfl, ?_⟩) | ((with_reducible refine gate_callee (f := 57) rfl ?_); refine goesL_ (some 11) rfl rfl Try.func57 (by kernel_rfl) rfl #[.int .i64 a0, .bool true] rfl (by (try simp only [List.map_toArray, List.map_cons, List.map_nil]); first | done | rfl | (simp only [List.length_drop, List.length_take]; rfl)) ?_; (with_reducible refine (annealref1_sign.calls a0 true t324 _ A4.out).mono ?_); rintro e w' ⟨rfl, ⟨nd, rfl⟩⟩; refine ⟨_, rfl, ?_⟩) | ((with_reducible refine gate_callee (f := 60) rfl ?_); refine goesL_ (some 16) rfl rfl Try.func60 (by kernel_rfl) rfl #[.int .i64 a0, .int .u32 a1] rfl (by (try simp only [List.map_toArray, List.map_cons, List.map_nil]); first | done | rfl | (simp only [List.length_drop, List.length_take]; rfl)) ?_; (with_reducible refine (annealref1_neg.calls a0 a1 true _ A5.out).mono ?_); rintro e w' ⟨rfl, ⟨nd, rfl⟩⟩; refine ⟨_, rfl, ?_⟩))
    go_ret
    exact ⟨by first | rfl | (simp; done) | (simp [*]; done) | (congr 1; (try unfold wrap64); omega), by repeat (first | exact Drawn0.refl _ | apply Drawn0.step)⟩
  · replace c6 := Bool.eq_false_iff.mpr c6
    subst c6
    have H1 : (some (wrap64 (Go.bits .andNot .u32 (Go.bits .and .u32 a1 t323) t324))) = some r := by rw [if_neg (show ¬ (false = true) by decide)] at H; exact H
    clear H
    have H := H1
    clear H1
    obtain rfl := Option.some.inj H
    go_enter Try.func22, Try.ntmps22
    go_wp2_with (first | ((with_reducible refine gate_callee (f := 19) rfl ?_); refine goesL_ (some 8) rfl rfl Try.func19 (by kernel_rfl) rfl #[.int .i64 a0] rfl (by (try simp only [List.map_toArray, List.map_cons, List.map_nil]); first | done | rfl | (simp only [List.length_drop, List.length_take]; rfl)) ?_; (with_reducible refine (annealref1_Mask.calls a0 t323 _ A3.out).mono ?_); rintro e w' ⟨rfl, ⟨nd, rfl⟩⟩; refine ⟨_, rfl, ?_⟩) | ((with_reducible refine gate_callee (f := 57) rfl ?_); refine goesL_ (some 11) rfl rfl Try.func57 (by kernel_rfl) rfl #[.int .i64 a0, .bool true] rfl (by (try simp only [List.map_toArray, List.map_cons, List.map_nil]); first | done | rfl | (simp only [List.length_drop, List.length_take]; rfl)) ?_; (with_reducible refine (annealref1_sign.calls a0 true t324 _ A4.out).mono ?_); rintro e w' ⟨rfl, ⟨nd, rfl⟩⟩; refine ⟨_, rfl, ?_⟩) | ((with_reducible refine gate_callee (f := 60) rfl ?_); refine goesL_ (some 16) rfl rfl Try.func60 (by kernel_rfl) rfl #[.int .i64 a0, .int .u32 a1] rfl (by (try simp only [List.map_toArray, List.map_cons, List.map_nil]); first | done | rfl | (simp only [List.length_drop, List.length_take]; rfl)) ?_; (with_reducible refine (annealref1_neg.calls a0 a1 false _ A5.out).mono ?_); rintro e w' ⟨rfl, ⟨nd, rfl⟩⟩; refine ⟨_, rfl, ?_⟩))
    go_ret
    exact ⟨by first | rfl | (simp; done) | (simp [*]; done) | (congr 1; (try unfold wrap64); omega), by repeat (first | exact Drawn0.refl _ | apply Drawn0.step)⟩

end Go.Proofs.Ytoljndjpnbdjmaa.P
