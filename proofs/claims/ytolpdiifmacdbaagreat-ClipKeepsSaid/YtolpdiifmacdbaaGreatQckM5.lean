import Derived.Test.YtolpdiifmacdbaaGreatQckM4
set_option linter.unusedVariables false
set_option linter.unusedSimpArgs false
set_option maxRecDepth 100000
set_option maxHeartbeats 8000000
namespace Go.Proofs.YtolpdiifmacdbaaGreat
noncomputable section
open Go.RowKit YtolpdiifmacdbaaGreatW.PrintWords YtolpdiifmacdbaaGreatW.PrintLast YtolpdiifmacdbaaGreatW.PrintMore
namespace P
attribute [local go_sem] max2_int min2_int max_two min_two max_three min_three max_four min_four
def bO.f (a0 a1 : Int) : Option (Bool) := (dC.f a0 a1).bind fun bt560 => (some bt560.1)
theorem bO.calls (a0 a1 : Int) (r : Bool) (w : World) (h : bO.f a0 a1 = some r) :
  Calls Tryz.prog 88 #[.int .i64 a0, .int .u32 a1] w fun e w' => e = .returned (.bool r) ∧ Drawn0 w w' := by
 have H : ((dC.f a0 a1).bind fun bt560 => (some bt560.1)) = some r := h
 clear h
 replace H := bq_ H
 obtain ⟨⟨t560, t561, t562⟩, A30, H⟩ := H
 replace H : (some t560) = some r := H
 have A3 := Aside0.mk A30
 clear A30
 obtain rfl := Option.some.inj H
 go_enter Tryz.func88, Tryz.ntmps88
 go_wp2_with (first | ((with_reducible refine gate_callee (f := 126) rfl ?_); refine goesL_ (some 11) rfl rfl Tryz.func126 kr rfl #[.int .i64 a0, .int .u32 a1] rfl gl ?_; (with_reducible refine (dC.calls a0 a1 t560 t561 t562 _ A3.out).mono ?_); rintro e w' ⟨rfl, ⟨nd, rfl⟩⟩; refine ⟨_, rfl, ?_⟩))
 go_ret
 exact ⟨gr_, gd_⟩
def bL.f (a0 : Int) : Option (Int) := (aI.f a0).bind fun bt563 => (if 0 ≤ (wrap64 (bt563.1 - 1)) then (some (wrap64 ((shl .i64 1 (wrap64 (bt563.1 - 1))) - 1))) else (none))
theorem bL.calls (a0 r : Int) (w : World) (h : bL.f a0 = some r) :
  Calls Tryz.prog 127 #[.int .i64 a0] w fun e w' => e = .returned (.int .i64 r) ∧ Drawn0 w w' := by
 have H : ((aI.f a0).bind fun bt563 => (if 0 ≤ (wrap64 (bt563.1 - 1)) then (some (wrap64 ((shl .i64 1 (wrap64 (bt563.1 - 1))) - 1))) else (none))) = some r := h
 clear h
 replace H := bq_ H
 obtain ⟨⟨t563, t564⟩, A20, H⟩ := H
 replace H : (if 0 ≤ (wrap64 (t563 - 1)) then (some (wrap64 ((shl .i64 1 (wrap64 (t563 - 1))) - 1))) else (none)) = some r := H
 have A2 := Aside0.mk A20
 clear A20
 obtain ⟨ji3, hji3⟩ : ∃ j_ : Int, (wrap64 (t563 - 1)) = j_ := ⟨_, rfl⟩
 replace H : (if 0 ≤ (ji3) then (some (wrap64 ((shl .i64 1 (ji3)) - 1))) else (none)) = some r := by first | (rw [hji3] at H; exact H) | (simp only [hji3] at H ⊢; exact H)
 (try rw [hji3] at A2)
 have hji3w : (IntKind.i64.wrap (t563 - 1)) = ji3 := (i64_w _).trans hji3
 by_cases c4 : 0 ≤ (ji3)
 ·rw [if_pos c4] at H
  have c4b0 := eq_true c4
  have c4b1 : decide (0 ≤ (ji3)) = true := decide_eq_true c4
  clear c4
  obtain ⟨ji5, hji5⟩ : ∃ j_ : Int, (shl .i64 1 (ji3)) = j_ := ⟨_, rfl⟩
  replace H : (some (wrap64 ((ji5) - 1))) = some r := by first | (rw [hji5] at H; exact H) | (simp only [hji5] at H ⊢; exact H)
  (try rw [hji5] at A2)
  have hji5_ : (IntKind.i64.wrap (1 * 2 ^ min (ji3).toNat 64)) = ji5 := hji5
  have hji5z : (ji3) ≤ 64 → (IntKind.i64.wrap (1 * 2 ^ (ji3).toNat)) = ji5 := shl_small hji5
  have hji5u : (IntKind.i64.wrap (2 ^ min (ji3).toNat 64)) = ji5 := by have h_ := hji5_; rw [Int.one_mul] at h_; exact h_
  have hji5v : (ji3) ≤ 64 → (IntKind.i64.wrap (2 ^ (ji3).toNat)) = ji5 := fun hle_ => by have h_ := hji5z hle_; rw [Int.one_mul] at h_; exact h_
  have hji5y : (wrap64 (1 * 2 ^ min (ji3).toNat 64)) = ji5 := (i64_w _).symm.trans hji5_
  have hji5x : (ji3) ≤ 64 → (wrap64 (1 * 2 ^ (ji3).toNat)) = ji5 := fun h_ => (i64_w _).symm.trans (hji5z h_)
  obtain rfl := Option.some.inj H
  go_enter Tryz.func127, Tryz.ntmps127
  go_wp2_with (first | ((with_reducible refine gate_callee (f := 125) rfl ?_); refine goesL_ (some 7) rfl rfl Tryz.func125 kr rfl #[.int .i64 a0] rfl gl ?_; (with_reducible refine (aI.calls a0 t563 t564 _ A2.out).mono ?_); rintro e w' ⟨rfl, ⟨nd, rfl⟩⟩; refine ⟨_, rfl, ?_⟩))
  go_ret
  exact ⟨by first | rfl | (simp; done) | (simp only [← hji3, ← hji5] <;> (first | rfl | (simp; done))) | (simp [*]; done) | (congr 1; (try unfold wrap64); omega) | (congr 1; rw [IntKind.wrap_u64]; omega), gd_⟩
 ·rw [if_neg c4] at H
  exact absurd H (by simp)
def bE.f (k : Nat) (a0 a1 : Int) : Option (Bool × Int × Int) := (aI.f a0).bind fun bt565 => ((dC.f a0 a1).bind fun bt567 => ((aJ.f k a0 a1).bind fun t570 => (if t570 = 2 then ((bL.f a0).bind fun t571 => (if 0 ≤ bt565.2 then (some (bt567.1, wrap64 ((wrap64 (bt567.2.1 - t571)) - bt565.2), Go.bits .or .u64 bt567.2.2 (shl .u64 1 bt565.2))) else (none))) else (if t570 = 0 then ((bL.f a0).bind fun t572 => (some (bt567.1, wrap64 ((wrap64 (1 - t572)) - bt565.2), bt567.2.2))) else (if t570 = 1 then ((bL.f a0).bind fun t573 => (some (bt567.1, wrap64 ((wrap64 (1 - t573)) - bt565.2), bt567.2.2))) else (some (bt567.1, 0, 0)))))))
theorem bE.mono : ∀ a0 a1 k, LeO (bE.f k a0 a1) (bE.f (k + 1) a0 a1) := by
 intro a0 a1 k
 unfold bE.f
 repeat' first
   |(with_reducible first|exact aJ.mono _ _ _|exact LeO.refl _|exact LeO.none _|refine LeO.ite ?_ ?_|refine LeO.bind ?_ (fun _ => ?_))
   |exact aJ.mono _ _ _
   |exact LeO.none _
   |refine LeO.ite ?_ ?_
   |refine LeO.bind ?_ (fun _ => ?_)
theorem bE.calls (k : Nat) (a0 a1 : Int) (r1 : Bool) (r2 r3 : Int) (w : World) (h : bE.f k a0 a1 = some (r1, r2, r3)) :
  Calls Tryz.prog 92 #[.int .i64 a0, .int .u32 a1] w fun e w' => e = .returned (.tuple #[.bool r1, .int .i64 r2, .int .u64 r3]) ∧ Drawn0 w w' := by
 have H : ((aI.f a0).bind fun bt565 => ((dC.f a0 a1).bind fun bt567 => ((aJ.f k a0 a1).bind fun t570 => (if t570 = 2 then ((bL.f a0).bind fun t571 => (if 0 ≤ bt565.2 then (some (bt567.1, wrap64 ((wrap64 (bt567.2.1 - t571)) - bt565.2), Go.bits .or .u64 bt567.2.2 (shl .u64 1 bt565.2))) else (none))) else (if t570 = 0 then ((bL.f a0).bind fun t572 => (some (bt567.1, wrap64 ((wrap64 (1 - t572)) - bt565.2), bt567.2.2))) else (if t570 = 1 then ((bL.f a0).bind fun t573 => (some (bt567.1, wrap64 ((wrap64 (1 - t573)) - bt565.2), bt567.2.2))) else (some (bt567.1, 0, 0)))))))) = some (r1, r2, r3) := h
 clear h
 replace H := bq_ H
 obtain ⟨⟨t565, t566⟩, A30, H⟩ := H
 replace H : ((dC.f a0 a1).bind fun bt567 => ((aJ.f k a0 a1).bind fun t570 => (if t570 = 2 then ((bL.f a0).bind fun t571 => (if 0 ≤ t566 then (some (bt567.1, wrap64 ((wrap64 (bt567.2.1 - t571)) - t566), Go.bits .or .u64 bt567.2.2 (shl .u64 1 t566))) else (none))) else (if t570 = 0 then ((bL.f a0).bind fun t572 => (some (bt567.1, wrap64 ((wrap64 (1 - t572)) - t566), bt567.2.2))) else (if t570 = 1 then ((bL.f a0).bind fun t573 => (some (bt567.1, wrap64 ((wrap64 (1 - t573)) - t566), bt567.2.2))) else (some (bt567.1, 0, 0))))))) = some (r1, r2, r3) := H
 have A3 := Aside0.mk A30
 clear A30
 replace H := bq_ H
 obtain ⟨⟨t567, t568, t569⟩, A40, H⟩ := H
 replace H : ((aJ.f k a0 a1).bind fun t570 => (if t570 = 2 then ((bL.f a0).bind fun t571 => (if 0 ≤ t566 then (some (t567, wrap64 ((wrap64 (t568 - t571)) - t566), Go.bits .or .u64 t569 (shl .u64 1 t566))) else (none))) else (if t570 = 0 then ((bL.f a0).bind fun t572 => (some (t567, wrap64 ((wrap64 (1 - t572)) - t566), t569))) else (if t570 = 1 then ((bL.f a0).bind fun t573 => (some (t567, wrap64 ((wrap64 (1 - t573)) - t566), t569))) else (some (t567, 0, 0)))))) = some (r1, r2, r3) := H
 have A4 := Aside0.mk A40
 clear A40
 replace H := bq_ H
 obtain ⟨t570, A50, H⟩ := H
 replace H : (if t570 = 2 then ((bL.f a0).bind fun t571 => (if 0 ≤ t566 then (some (t567, wrap64 ((wrap64 (t568 - t571)) - t566), Go.bits .or .u64 t569 (shl .u64 1 t566))) else (none))) else (if t570 = 0 then ((bL.f a0).bind fun t572 => (some (t567, wrap64 ((wrap64 (1 - t572)) - t566), t569))) else (if t570 = 1 then ((bL.f a0).bind fun t573 => (some (t567, wrap64 ((wrap64 (1 - t573)) - t566), t569))) else (some (t567, 0, 0))))) = some (r1, r2, r3) := H
 have A5 := Aside0.mk A50
 clear A50
 by_cases c6 : t570 = 2
 ·rw [if_pos c6] at H
  have c6b0 : (t570 == 2) = true := beq_iff_eq.mpr c6
  have c6b1 : (t570 != 2) = false := bne_eq_false_iff_eq.mpr c6
  clear c6
  replace H := bq_ H
  obtain ⟨t571, A70, H⟩ := H
  replace H : (if 0 ≤ t566 then (some (t567, wrap64 ((wrap64 (t568 - t571)) - t566), Go.bits .or .u64 t569 (shl .u64 1 t566))) else (none)) = some (r1, r2, r3) := H
  have A7 := Aside0.mk A70
  clear A70
  by_cases c8 : 0 ≤ t566
  ·rw [if_pos c8] at H
   have c8b0 := eq_true c8
   have c8b1 : decide (0 ≤ t566) = true := decide_eq_true c8
   clear c8
   obtain ⟨ji9, hji9⟩ : ∃ j_ : Int, (shl .u64 1 t566) = j_ := ⟨_, rfl⟩
   replace H : (some (t567, wrap64 ((wrap64 (t568 - t571)) - t566), Go.bits .or .u64 t569 (ji9))) = some (r1, r2, r3) := by first | (rw [hji9] at H; exact H) | (simp only [hji9] at H ⊢; exact H)
   (try rw [hji9] at A3)
   (try rw [hji9] at A4)
   (try rw [hji9] at A5)
   (try rw [hji9] at A7)
   have hji9_ : (IntKind.u64.wrap (1 * 2 ^ min t566.toNat 64)) = ji9 := hji9
   have hji9z : t566 ≤ 64 → (IntKind.u64.wrap (1 * 2 ^ t566.toNat)) = ji9 := shl_small hji9
   have hji9u : (IntKind.u64.wrap (2 ^ min t566.toNat 64)) = ji9 := by have h_ := hji9_; rw [Int.one_mul] at h_; exact h_
   have hji9v : t566 ≤ 64 → (IntKind.u64.wrap (2 ^ t566.toNat)) = ji9 := fun hle_ => by have h_ := hji9z hle_; rw [Int.one_mul] at h_; exact h_
   simp only [Option.some.injEq, Prod.mk.injEq] at H
   obtain ⟨rfl, rfl, rfl⟩ := H
   go_enter Tryz.func92, Tryz.ntmps92
   go_wp2_with (first | (go_at_call 125; (with_reducible refine (aI.calls a0 t565 t566 _ A3.out).mono ?_); rintro e w' ⟨rfl, ⟨nd, rfl⟩⟩; (try exact xd)) | (go_at_call 126; (with_reducible refine (dC.calls a0 a1 t567 t568 t569 _ A4.out).mono ?_); rintro e w' ⟨rfl, ⟨nd, rfl⟩⟩; (try exact xd)) | (go_at_call 121; (with_reducible refine (aJ.calls k a0 a1 t570 _ A5.out).mono ?_); rintro e w' ⟨rfl, ⟨nd, rfl⟩⟩; (try exact xd)) | (go_at_call 127; (with_reducible refine (bL.calls a0 t571 _ A7.out).mono ?_); rintro e w' ⟨rfl, ⟨nd, rfl⟩⟩; (try exact xd)))
   repeat (go_quiet (first | (go_at_call 125; (with_reducible refine (aI.calls a0 t565 t566 _ A3.out).mono ?_); rintro e w' ⟨rfl, ⟨nd, rfl⟩⟩; (try exact xd)) | (go_at_call 126; (with_reducible refine (dC.calls a0 a1 t567 t568 t569 _ A4.out).mono ?_); rintro e w' ⟨rfl, ⟨nd, rfl⟩⟩; (try exact xd)) | (go_at_call 121; (with_reducible refine (aJ.calls k a0 a1 t570 _ A5.out).mono ?_); rintro e w' ⟨rfl, ⟨nd, rfl⟩⟩; (try exact xd)) | (go_at_call 127; (with_reducible refine (bL.calls a0 t571 _ A7.out).mono ?_); rintro e w' ⟨rfl, ⟨nd, rfl⟩⟩; (try exact xd))); try go_wp2_with (first | (go_at_call 125; (with_reducible refine (aI.calls a0 t565 t566 _ A3.out).mono ?_); rintro e w' ⟨rfl, ⟨nd, rfl⟩⟩; (try exact xd)) | (go_at_call 126; (with_reducible refine (dC.calls a0 a1 t567 t568 t569 _ A4.out).mono ?_); rintro e w' ⟨rfl, ⟨nd, rfl⟩⟩; (try exact xd)) | (go_at_call 121; (with_reducible refine (aJ.calls k a0 a1 t570 _ A5.out).mono ?_); rintro e w' ⟨rfl, ⟨nd, rfl⟩⟩; (try exact xd)) | (go_at_call 127; (with_reducible refine (bL.calls a0 t571 _ A7.out).mono ?_); rintro e w' ⟨rfl, ⟨nd, rfl⟩⟩; (try exact xd))))
   go_ret3
   exact ⟨by first | rfl | (simp; done) | (simp only [← hji9] <;> (first | rfl | (simp; done))) | (simp [*]; done) | (congr 1; (try unfold wrap64); omega) | (congr 1; rw [IntKind.wrap_u64]; omega), gd_⟩
  ·rw [if_neg c8] at H
   exact absurd H (by simp)
 ·rw [if_neg c6] at H
  have c6b0 : (t570 == 2) = false := beq_eq_false_iff_ne.mpr c6
  have c6b1 : (t570 != 2) = true := bne_iff_ne.mpr c6
  by_cases c10 : t570 = 0
  ·rw [if_pos c10] at H
   have c10b0 : (t570 == 0) = true := beq_iff_eq.mpr c10
   have c10b1 : (t570 != 0) = false := bne_eq_false_iff_eq.mpr c10
   clear c10
   replace H := bq_ H
   obtain ⟨t572, A110, H⟩ := H
   replace H : (some (t567, wrap64 ((wrap64 (1 - t572)) - t566), t569)) = some (r1, r2, r3) := H
   have A11 := Aside0.mk A110
   clear A110
   simp only [Option.some.injEq, Prod.mk.injEq] at H
   obtain ⟨rfl, rfl, rfl⟩ := H
   go_enter Tryz.func92, Tryz.ntmps92
   go_wp2_with (first | (go_at_call 125; (with_reducible refine (aI.calls a0 t565 t566 _ A3.out).mono ?_); rintro e w' ⟨rfl, ⟨nd, rfl⟩⟩; (try exact xd)) | (go_at_call 126; (with_reducible refine (dC.calls a0 a1 t567 t568 t569 _ A4.out).mono ?_); rintro e w' ⟨rfl, ⟨nd, rfl⟩⟩; (try exact xd)) | (go_at_call 121; (with_reducible refine (aJ.calls k a0 a1 t570 _ A5.out).mono ?_); rintro e w' ⟨rfl, ⟨nd, rfl⟩⟩; (try exact xd)) | (go_at_call 127; (with_reducible refine (bL.calls a0 t572 _ A11.out).mono ?_); rintro e w' ⟨rfl, ⟨nd, rfl⟩⟩; (try exact xd)))
   repeat (go_quiet (first | (go_at_call 125; (with_reducible refine (aI.calls a0 t565 t566 _ A3.out).mono ?_); rintro e w' ⟨rfl, ⟨nd, rfl⟩⟩; (try exact xd)) | (go_at_call 126; (with_reducible refine (dC.calls a0 a1 t567 t568 t569 _ A4.out).mono ?_); rintro e w' ⟨rfl, ⟨nd, rfl⟩⟩; (try exact xd)) | (go_at_call 121; (with_reducible refine (aJ.calls k a0 a1 t570 _ A5.out).mono ?_); rintro e w' ⟨rfl, ⟨nd, rfl⟩⟩; (try exact xd)) | (go_at_call 127; (with_reducible refine (bL.calls a0 t572 _ A11.out).mono ?_); rintro e w' ⟨rfl, ⟨nd, rfl⟩⟩; (try exact xd))); try go_wp2_with (first | (go_at_call 125; (with_reducible refine (aI.calls a0 t565 t566 _ A3.out).mono ?_); rintro e w' ⟨rfl, ⟨nd, rfl⟩⟩; (try exact xd)) | (go_at_call 126; (with_reducible refine (dC.calls a0 a1 t567 t568 t569 _ A4.out).mono ?_); rintro e w' ⟨rfl, ⟨nd, rfl⟩⟩; (try exact xd)) | (go_at_call 121; (with_reducible refine (aJ.calls k a0 a1 t570 _ A5.out).mono ?_); rintro e w' ⟨rfl, ⟨nd, rfl⟩⟩; (try exact xd)) | (go_at_call 127; (with_reducible refine (bL.calls a0 t572 _ A11.out).mono ?_); rintro e w' ⟨rfl, ⟨nd, rfl⟩⟩; (try exact xd))))
   go_ret3
   exact ⟨gr_, gd_⟩
  ·rw [if_neg c10] at H
   have c10b0 : (t570 == 0) = false := beq_eq_false_iff_ne.mpr c10
   have c10b1 : (t570 != 0) = true := bne_iff_ne.mpr c10
   by_cases c12 : t570 = 1
   ·rw [if_pos c12] at H
    have c12b0 : (t570 == 1) = true := beq_iff_eq.mpr c12
    have c12b1 : (t570 != 1) = false := bne_eq_false_iff_eq.mpr c12
    clear c12
    replace H := bq_ H
    obtain ⟨t573, A130, H⟩ := H
    replace H : (some (t567, wrap64 ((wrap64 (1 - t573)) - t566), t569)) = some (r1, r2, r3) := H
    have A13 := Aside0.mk A130
    clear A130
    simp only [Option.some.injEq, Prod.mk.injEq] at H
    obtain ⟨rfl, rfl, rfl⟩ := H
    go_enter Tryz.func92, Tryz.ntmps92
    go_wp2_with (first | (go_at_call 125; (with_reducible refine (aI.calls a0 t565 t566 _ A3.out).mono ?_); rintro e w' ⟨rfl, ⟨nd, rfl⟩⟩; (try exact xd)) | (go_at_call 126; (with_reducible refine (dC.calls a0 a1 t567 t568 t569 _ A4.out).mono ?_); rintro e w' ⟨rfl, ⟨nd, rfl⟩⟩; (try exact xd)) | (go_at_call 121; (with_reducible refine (aJ.calls k a0 a1 t570 _ A5.out).mono ?_); rintro e w' ⟨rfl, ⟨nd, rfl⟩⟩; (try exact xd)) | (go_at_call 127; (with_reducible refine (bL.calls a0 t573 _ A13.out).mono ?_); rintro e w' ⟨rfl, ⟨nd, rfl⟩⟩; (try exact xd)))
    repeat (go_quiet (first | (go_at_call 125; (with_reducible refine (aI.calls a0 t565 t566 _ A3.out).mono ?_); rintro e w' ⟨rfl, ⟨nd, rfl⟩⟩; (try exact xd)) | (go_at_call 126; (with_reducible refine (dC.calls a0 a1 t567 t568 t569 _ A4.out).mono ?_); rintro e w' ⟨rfl, ⟨nd, rfl⟩⟩; (try exact xd)) | (go_at_call 121; (with_reducible refine (aJ.calls k a0 a1 t570 _ A5.out).mono ?_); rintro e w' ⟨rfl, ⟨nd, rfl⟩⟩; (try exact xd)) | (go_at_call 127; (with_reducible refine (bL.calls a0 t573 _ A13.out).mono ?_); rintro e w' ⟨rfl, ⟨nd, rfl⟩⟩; (try exact xd))); try go_wp2_with (first | (go_at_call 125; (with_reducible refine (aI.calls a0 t565 t566 _ A3.out).mono ?_); rintro e w' ⟨rfl, ⟨nd, rfl⟩⟩; (try exact xd)) | (go_at_call 126; (with_reducible refine (dC.calls a0 a1 t567 t568 t569 _ A4.out).mono ?_); rintro e w' ⟨rfl, ⟨nd, rfl⟩⟩; (try exact xd)) | (go_at_call 121; (with_reducible refine (aJ.calls k a0 a1 t570 _ A5.out).mono ?_); rintro e w' ⟨rfl, ⟨nd, rfl⟩⟩; (try exact xd)) | (go_at_call 127; (with_reducible refine (bL.calls a0 t573 _ A13.out).mono ?_); rintro e w' ⟨rfl, ⟨nd, rfl⟩⟩; (try exact xd))))
    go_ret3
    exact ⟨gr_, gd_⟩
   ·rw [if_neg c12] at H
    have c12b0 : (t570 == 1) = false := beq_eq_false_iff_ne.mpr c12
    have c12b1 : (t570 != 1) = true := bne_iff_ne.mpr c12
    simp only [Option.some.injEq, Prod.mk.injEq] at H
    obtain ⟨rfl, rfl, rfl⟩ := H
    go_enter Tryz.func92, Tryz.ntmps92
    go_wp2_with (first | (go_at_call 125; (with_reducible refine (aI.calls a0 t565 t566 _ A3.out).mono ?_); rintro e w' ⟨rfl, ⟨nd, rfl⟩⟩; (try exact xd)) | (go_at_call 126; (with_reducible refine (dC.calls a0 a1 t567 t568 t569 _ A4.out).mono ?_); rintro e w' ⟨rfl, ⟨nd, rfl⟩⟩; (try exact xd)) | (go_at_call 121; (with_reducible refine (aJ.calls k a0 a1 t570 _ A5.out).mono ?_); rintro e w' ⟨rfl, ⟨nd, rfl⟩⟩; (try exact xd)))
    repeat (go_quiet (first | (go_at_call 125; (with_reducible refine (aI.calls a0 t565 t566 _ A3.out).mono ?_); rintro e w' ⟨rfl, ⟨nd, rfl⟩⟩; (try exact xd)) | (go_at_call 126; (with_reducible refine (dC.calls a0 a1 t567 t568 t569 _ A4.out).mono ?_); rintro e w' ⟨rfl, ⟨nd, rfl⟩⟩; (try exact xd)) | (go_at_call 121; (with_reducible refine (aJ.calls k a0 a1 t570 _ A5.out).mono ?_); rintro e w' ⟨rfl, ⟨nd, rfl⟩⟩; (try exact xd))); try go_wp2_with (first | (go_at_call 125; (with_reducible refine (aI.calls a0 t565 t566 _ A3.out).mono ?_); rintro e w' ⟨rfl, ⟨nd, rfl⟩⟩; (try exact xd)) | (go_at_call 126; (with_reducible refine (dC.calls a0 a1 t567 t568 t569 _ A4.out).mono ?_); rintro e w' ⟨rfl, ⟨nd, rfl⟩⟩; (try exact xd)) | (go_at_call 121; (with_reducible refine (aJ.calls k a0 a1 t570 _ A5.out).mono ?_); rintro e w' ⟨rfl, ⟨nd, rfl⟩⟩; (try exact xd))))
    go_ret3
    exact ⟨gr_, gd_⟩
end P
namespace Round
open P Num BitsF Fmt
theorem oI (a b : Nat) : (((a : Int) == (b : Int)) : Bool) = decide (a = b) := by
 by_cases h : a = b
 ·subst h; simp
 ·rw [beq_eq_false_iff_ne.mpr (by omega)]; simp [h]
theorem fU (f : Int) : aI.f f = some ((fe f : Int), (fm f : Int)) := by
 unfold aI.f fe fm
 by_cases h : f = 0
 ·subst h; rfl
 ·rw [if_neg h, if_neg h, if_neg h]
  by_cases h1 : f = 1
  ·subst h1; rfl
  ·rw [if_neg h1, if_neg h1]; rfl
theorem oP (f : Int) (neg : Bool) : cK.f f neg = some (eQ f neg : Int) := by
 unfold cK.f eQ
 obtain ⟨b1, b2, b3, b4, b5⟩ := eP f
 rw [fU]; simp only [Option.bind_some]
 cases neg
 ·rfl
 ·simp only [if_true]
  rw [show (fe f : Int) + (fm f : Int) = ((fe f + fm f : Nat) : Int) by omega, cZ _ (by omega) (by omega), if_pos (by omega), oF _ b5]
theorem kE (f : Int) (neg : Bool) : bU.f f neg = some (eQ f neg : Int) := by
 unfold bU.f; rw [oP]; rfl
theorem rC (f : Int) : bL.f f = some (1 - dM f) := by
 unfold bL.f dM
 obtain ⟨b1, b2, b3, b4, b5⟩ := eP f
 have h31 := eZ (show fe f - 1 ≤ 31 by omega)
 have h0 := Nat.two_pow_pos (fe f - 1)
 rw [fU]; simp only [Option.bind_some]
 rw [show (fe f : Int) - 1 = ((fe f - 1 : Nat) : Int) by omega, cZ _ (by omega) (by omega), if_pos (by omega), lU _ (by omega), cZ _ (by omega) (by omega), ← xB]
 congr 1; omega
theorem l9 (f : Int) (neg : Bool) : oW f neg < 4294967296 ∧ gN f * 2 ^ fm f + 2 ^ fm f = 2 ^ (fe f + fm f) := by
 obtain ⟨b1, b2, b3, b4, b5⟩ := eP f
 have h31 := eZ b5
 have hp := Nat.two_pow_pos (fm f)
 have e : gN f * 2 ^ fm f + 2 ^ fm f = 2 ^ (fe f + fm f) := by
  rw [Nat.pow_add, ← Nat.succ_mul]; congr 1
  unfold gN; have := Nat.two_pow_pos (fe f); omega
 refine ⟨?_, e⟩
 unfold oW eQ; split <;> omega
theorem oC (f : Int) (neg : Bool) : bZ.f f neg = some (oW f neg : Int) := by
 unfold bZ.f oW
 obtain ⟨b1, b2, b3, b4, b5⟩ := eP f
 obtain ⟨_, hi⟩ := l9 f neg
 have h31 := eZ b5
 have hp := Nat.two_pow_pos (fm f)
 have hpe := Nat.two_pow_pos (fe f)
 have h8 := eZ (show fe f ≤ 31 by omega)
 rw [fU, oP]; simp only [Option.bind_some]
 rw [if_pos (by omega), if_pos (by omega), oF _ (by omega), show (((2 ^ fe f : Nat) : Int) - 1) % 4294967296 = ((gN f : Nat) : Int) by unfold gN; omega, uF, Nat.mod_eq_of_lt (by omega)]
 unfold eQ
 cases neg
 ·simp only [Bool.false_eq_true, if_false]
  rw [qB _ _ (by omega) (by omega), Nat.zero_or, Nat.add_zero]
 ·simp only [if_true]
  rw [qB _ _ (by omega) (by omega), nO _ _ (fe f + fm f) (by simp) (by omega), Nat.add_comm]
end Round
namespace P
attribute [local go_sem] max2_int min2_int max_two min_two max_three min_three max_four min_four
def fA.f (a0 a1 : Int) : Option (Int) := (bG.f a0).bind fun t882 => ((cK.f a0 true).bind fun t883 => ((bO.f a0 a1).bind fun t884 => (if t884 = true then (some (wrap64 ((-1) - (wrap64 (Go.bits .andNot .u32 (Go.bits .and .u32 a1 t882) t883))))) else (some (wrap64 (Go.bits .andNot .u32 (Go.bits .and .u32 a1 t882) t883))))))
theorem fA.calls (a0 a1 r : Int) (w : World) (h : fA.f a0 a1 = some r) :
  Calls Tryz.prog 79 #[.int .i64 a0, .int .u32 a1] w fun e w' => e = .returned (.int .i64 r) ∧ Drawn0 w w' := by
 have H : ((bG.f a0).bind fun t882 => ((cK.f a0 true).bind fun t883 => ((bO.f a0 a1).bind fun t884 => (if t884 = true then (some (wrap64 ((-1) - (wrap64 (Go.bits .andNot .u32 (Go.bits .and .u32 a1 t882) t883))))) else (some (wrap64 (Go.bits .andNot .u32 (Go.bits .and .u32 a1 t882) t883))))))) = some r := h
 clear h
 replace H := bq_ H
 obtain ⟨t882, A30, H⟩ := H
 replace H : ((cK.f a0 true).bind fun t883 => ((bO.f a0 a1).bind fun t884 => (if t884 = true then (some (wrap64 ((-1) - (wrap64 (Go.bits .andNot .u32 (Go.bits .and .u32 a1 t882) t883))))) else (some (wrap64 (Go.bits .andNot .u32 (Go.bits .and .u32 a1 t882) t883)))))) = some r := H
 have A3 := Aside0.mk A30
 clear A30
 replace H := bq_ H
 obtain ⟨t883, A40, H⟩ := H
 replace H : ((bO.f a0 a1).bind fun t884 => (if t884 = true then (some (wrap64 ((-1) - (wrap64 (Go.bits .andNot .u32 (Go.bits .and .u32 a1 t882) t883))))) else (some (wrap64 (Go.bits .andNot .u32 (Go.bits .and .u32 a1 t882) t883))))) = some r := H
 have A4 := Aside0.mk A40
 clear A40
 replace H := bq_ H
 obtain ⟨t884, A50, H⟩ := H
 replace H : (if t884 = true then (some (wrap64 ((-1) - (wrap64 (Go.bits .andNot .u32 (Go.bits .and .u32 a1 t882) t883))))) else (some (wrap64 (Go.bits .andNot .u32 (Go.bits .and .u32 a1 t882) t883)))) = some r := H
 have A5 := Aside0.mk A50
 clear A50
 by_cases c6 : t884 = true
 ·subst c6
  have H1 : (some (wrap64 ((-1) - (wrap64 (Go.bits .andNot .u32 (Go.bits .and .u32 a1 t882) t883))))) = some r := by rw [if_pos rfl] at H; exact H
  clear H
  have H := H1
  clear H1
  obtain rfl := Option.some.inj H
  go_enter Tryz.func79, Tryz.ntmps79
  go_wp2_with (first | ((with_reducible refine gate_callee (f := 90) rfl ?_); refine goesL_ (some 8) rfl rfl Tryz.func90 kr rfl #[.int .i64 a0] rfl gl ?_; (with_reducible refine (bG.calls a0 t882 _ A3.out).mono ?_); rintro e w' ⟨rfl, ⟨nd, rfl⟩⟩; refine ⟨_, rfl, ?_⟩) | ((with_reducible refine gate_callee (f := 122) rfl ?_); refine goesL_ (some 11) rfl rfl Tryz.func122 kr rfl #[.int .i64 a0, .bool true] rfl gl ?_; (with_reducible refine (cK.calls a0 true t883 _ A4.out).mono ?_); rintro e w' ⟨rfl, ⟨nd, rfl⟩⟩; refine ⟨_, rfl, ?_⟩) | ((with_reducible refine gate_callee (f := 88) rfl ?_); refine goesL_ (some 16) rfl rfl Tryz.func88 kr rfl #[.int .i64 a0, .int .u32 a1] rfl gl ?_; (with_reducible refine (bO.calls a0 a1 true _ A5.out).mono ?_); rintro e w' ⟨rfl, ⟨nd, rfl⟩⟩; refine ⟨_, rfl, ?_⟩))
  go_ret
  exact ⟨gr_, gd_⟩
 ·replace c6 := Bool.eq_false_iff.mpr c6
  subst c6
  have H1 : (some (wrap64 (Go.bits .andNot .u32 (Go.bits .and .u32 a1 t882) t883))) = some r := by rw [if_neg (show ¬ (false = true) by decide)] at H; exact H
  clear H
  have H := H1
  clear H1
  obtain rfl := Option.some.inj H
  go_enter Tryz.func79, Tryz.ntmps79
  go_wp2_with (first | ((with_reducible refine gate_callee (f := 90) rfl ?_); refine goesL_ (some 8) rfl rfl Tryz.func90 kr rfl #[.int .i64 a0] rfl gl ?_; (with_reducible refine (bG.calls a0 t882 _ A3.out).mono ?_); rintro e w' ⟨rfl, ⟨nd, rfl⟩⟩; refine ⟨_, rfl, ?_⟩) | ((with_reducible refine gate_callee (f := 122) rfl ?_); refine goesL_ (some 11) rfl rfl Tryz.func122 kr rfl #[.int .i64 a0, .bool true] rfl gl ?_; (with_reducible refine (cK.calls a0 true t883 _ A4.out).mono ?_); rintro e w' ⟨rfl, ⟨nd, rfl⟩⟩; refine ⟨_, rfl, ?_⟩) | ((with_reducible refine gate_callee (f := 88) rfl ?_); refine goesL_ (some 16) rfl rfl Tryz.func88 kr rfl #[.int .i64 a0, .int .u32 a1] rfl gl ?_; (with_reducible refine (bO.calls a0 a1 false _ A5.out).mono ?_); rintro e w' ⟨rfl, ⟨nd, rfl⟩⟩; refine ⟨_, rfl, ?_⟩))
  go_ret
  exact ⟨gr_, gd_⟩
def aN.j0 : Nat → Int → Int → Int → Bool → Option (Int × Bool)
 |0, _, _, _, _ => none
 |k + 1, x0, x1, x2, x28 => if x28 = true then (some (0, true)) else ((fA.f x0 x1).bind fun t892 => ((fA.f x0 x2).bind fun t893 => (if t892 < t893 then (some ((-1), true)) else (if t892 > t893 then (some (1, true)) else (some (0, true))))))
def aN.f (k : Nat) (a0 a1 a2 : Int) : Option (Int × Bool) := (aG.f k a0 (([a1, a2] : List Int))).bind fun bt888 => (if bt888.1 = true then (some (0, false)) else ((bA.f k a0 a1).bind fun t890 => (if t890 = true then ((bA.f k a0 a2).bind fun t891 => (aN.j0 k a0 a1 a2 t891)) else (aN.j0 k a0 a1 a2 false))))
end P
namespace Round
open P Num BitsF Fmt
def iH (f : Int) (v : Nat) : Nat := v % 2 ^ (fe f + fm f + 1)
theorem vQ (f : Int) (v : Nat) : iH f v < 2 ^ (fe f + fm f + 1) := Nat.mod_lt _ (Nat.two_pow_pos _)
theorem low_32 (f : Int) (v : Nat) : iH f v < 4294967296 := by
 obtain ⟨b1, b2, b3, b4, b5⟩ := eP f
 have := vQ f v
 have := nK (show fe f + fm f + 1 ≤ 32 by omega)
 omega
theorem low_id (f : Int) (v : Nat) (h : v < 2 ^ (fe f + fm f + 1)) : iH f v = v := Nat.mod_eq_of_lt h
def maskN (f : Int) : Nat := 2 ^ (fe f + fm f + 1) - 1
theorem mask_lit (n : Nat) (hn : n ≤ 32) : (IntKind.u64.wrap (shl .u64 1 (n : Int) - 1)) % 4294967296 = ((2 ^ n - 1 : Nat) : Int) := by
 have h32 := nK hn
 have h0 := Nat.two_pow_pos n
 rw [show shl .u64 1 (n : Int) = _ from kX 1 n, Nat.one_mul]
 generalize 2 ^ n = P at *
 rw [Nat.mod_eq_of_lt (by omega), kP]
 omega
theorem width_f (f : Int) : wrap64 ((wrap64 (1 + (fe f : Int))) + (fm f : Int)) = ((fe f + fm f + 1 : Nat) : Int) := by
 obtain ⟨b1, b2, b3, b4, b5⟩ := eP f
 rw [cZ (1 + (fe f : Int)) (by omega) (by omega), cZ _ (by omega) (by omega)]; omega
theorem iE (f : Int) : bG.f f = some (maskN f : Int) := by
 unfold bG.f
 have h := eP f
 rw [fU, Option.bind_some]
 dsimp only
 rw [width_f, mask_lit _ (by omega)]
 exact if_pos (Int.natCast_nonneg _)
theorem jR (f : Int) (v : Nat) (hv : v < 4294967296) : Go.bits .and .u32 (v : Int) (maskN f : Int) = (iH f v : Int) := by
 unfold maskN iH
 have h := eP f
 have h32 := nK (show fe f + fm f + 1 ≤ 32 by omega)
 generalize fe f + fm f + 1 = n at *
 have h0 := Nat.two_pow_pos n
 rw [aAi _ _ hv (by omega), Nat.and_two_pow_sub_one_eq_mod]
theorem top_bit (f : Int) (v : Nat) : ((((iH f v / 2 ^ (fe f + fm f) : Nat) : Int) == 1) : Bool) = dO f (iH f v) := by
 rw [show (1 : Int) = ((1 : Nat) : Int) from rfl, oI]
 unfold dO
 have : iH f v / 2 ^ (fe f + fm f) < 2 := by rw [Nat.div_lt_iff_lt_mul (Nat.two_pow_pos _), Nat.mul_comm, ← Nat.pow_succ]; exact vQ f v
 rw [Nat.mod_eq_of_lt this]
theorem xM (a n : Nat) (hn : n ≤ 31) : wrap64 ((a % 2 ^ n : Nat) : Int) = ((a % 2 ^ n : Nat) : Int) := by
 have h1 := eZ hn
 have h2 := Nat.mod_lt a (Nat.two_pow_pos n)
 generalize a % 2 ^ n = q at *
 exact cZ _ (by omega) (by omega)
theorem aBN (a n : Nat) (hn : n ≤ 31) : IntKind.u64.wrap ((a % 2 ^ n : Nat) : Int) = ((a % 2 ^ n : Nat) : Int) := by
 have h1 := eZ hn
 have h2 := Nat.mod_lt a (Nat.two_pow_pos n)
 generalize a % 2 ^ n = q at *
 exact gL _ (by omega)
theorem pJ (f : Int) (v : Nat) (hv : v < 4294967296) : dC.f f (v : Int) = some (dO f (iH f v), (mE f (iH f v) : Int), (jY f (iH f v) : Int)) := by
 unfold dC.f
 obtain ⟨b1, b2, b3, b4, b5⟩ := eP f
 have hl := low_32 f v
 rw [fU, Option.bind_some, iE, Option.bind_some]
 dsimp only
 rw [jR f v hv, show (fe f : Int) + (fm f : Int) = ((fe f + fm f : Nat) : Int) by omega, cZ _ (by omega) (by omega), if_pos (by omega), if_pos (by omega), if_pos (by omega), tK _ _ hl, tK _ _ hl, tF _ _ (Nat.lt_of_le_of_lt (Nat.div_le_self _ _) hl) (by omega), tF _ _ hl (by omega), top_bit, xM _ _ (by omega), aBN _ _ (by omega)]
 unfold mE jY
 exact Eq.refl _
def cO (f : Int) (v : Nat) : Nat :=
 if mE f v = 0 then (if jY f v = 0 then 0 else 1) else if mE f v < gN f then 2 else if jY f v = 0 then 3 else if jY f v / 2 ^ (fm f - 1) = 1 then 4 else 5
theorem rT (f : Int) (v : Nat) (hv : v < 4294967296) : Ev (fun k => aJ.f k f (v : Int)) (cO f (iH f v) : Int) := by
 obtain ⟨b1, b2, b3, b4, b5⟩ := eP f
 have h31 := eZ (show fe f ≤ 31 by omega)
 have h0 := Nat.two_pow_pos (fe f)
 have hfr := rJ f (iH f v)
 have h31' := eZ (show fm f ≤ 31 by omega)
 refine ⟨1, fun k hk => ?_⟩
 obtain ⟨k, rfl⟩ : ∃ j, k = j + 1 := ⟨k - 1, by omega⟩
 unfold aJ.f cO
 rw [fU, pJ f v hv]
 simp only [Option.bind_some]
 generalize mE f (iH f v) = e
 generalize jY f (iH f v) = m at *
 have ht : wrap64 (((2 ^ fe f : Nat) : Int) - 1) = (gN f : Int) := by rw [cZ _ (by omega) (by omega)]; unfold gN; omega
 by_cases c : e = 0
 ·subst c
  rw [if_pos (by rfl), aJ.j0, if_pos rfl]
  by_cases c2 : m = 0
  ·subst c2; rfl
  ·rw [if_neg (by simp; omega), if_pos (by rfl), if_neg c2]; rfl
 ·rw [if_neg (by omega), aJ.j0, if_neg (by decide), if_neg (by omega), if_pos (by omega), lU _ (by omega), ht, if_neg c]
  by_cases c2 : e < gN f
  ·rw [if_pos (by omega), if_pos c2]; rfl
  ·rw [if_neg (by omega), if_neg c2]
   by_cases c3 : m = 0
   ·rw [if_pos (by omega), if_pos c3]; rfl
   ·rw [if_neg (by omega), if_neg c3, cZ _ (by omega) (by omega), if_pos (by omega), show (fm f : Int) - 1 = ((fm f - 1 : Nat) : Int) by omega, oH _ _ (by omega)]
    by_cases c4 : m / 2 ^ (fm f - 1) = 1
    ·rw [if_pos (by rw [c4]; rfl), if_pos c4]; rfl
    ·rw [if_neg (by omega), if_neg c4]; rfl
theorem o7 (f : Int) (v : Nat) : cO f v < 3 ↔ mE f v < gN f := by
 have := gU f
 unfold cO
 split
 ·split <;> omega
 ·split
  ·omega
  ·split
   ·omega
   ·split <;> omega
def bT (f : Int) (v : Nat) : Nat := if mE f v = 0 then jY f v else jY f v + 2 ^ fm f
def bN (f : Int) (v : Nat) : Int := dM f - fm f + (mE f v - 1 : Nat)
theorem or_top (m n : Nat) (h : m < 2 ^ n) (hn : n ≤ 31) : Go.bits .or .u64 (m : Int) (shl .u64 1 (n : Int)) = ((m + 2 ^ n : Nat) : Int) := by
 have h31 := eZ hn
 rw [show (1 : Int) = ((1 : Nat) : Int) from rfl, kX, Nat.one_mul, Nat.mod_eq_of_lt (by omega), aAp _ _ (by omega) (by omega), Nat.or_comm, nO _ _ n (by simp) h, Nat.add_comm]
theorem tT (f : Int) (v : Nat) : iH f v = mE f (iH f v) * 2 ^ fm f + jY f (iH f v) + eQ f (dO f (iH f v)) := by
 have hlt := vQ f v
 generalize iH f v = x at *
 unfold mE jY eQ dO
 have h1 : x / 2 ^ (fe f + fm f) < 2 := by rw [Nat.div_lt_iff_lt_mul (Nat.two_pow_pos _), Nat.mul_comm, ← Nat.pow_succ]; exact hlt
 have h2 : x / 2 ^ fm f / 2 ^ fe f = x / 2 ^ (fe f + fm f) := by rw [Nat.div_div_eq_div_mul, ← Nat.pow_add, Nat.add_comm]
 have h3 := Nat.div_add_mod x (2 ^ fm f)
 have h4 := Nat.div_add_mod (x / 2 ^ fm f) (2 ^ fe f)
 rw [h2] at h4
 have h5 : 2 ^ (fe f + fm f) = 2 ^ fm f * 2 ^ fe f := by rw [← Nat.pow_add, Nat.add_comm]
 rw [Nat.mod_eq_of_lt h1]
 generalize x / 2 ^ (fe f + fm f) = b at *
 generalize hq : x / 2 ^ fm f % 2 ^ fe f = q at *
 generalize x % 2 ^ fm f = r at *
 rw [← h4, Nat.mul_add] at h3
 have h6 : b = 0 ∨ b = 1 := by omega
 rcases h6 with rfl | rfl
 ·rw [if_neg (by decide)]; rw [Nat.mul_comm q]; omega
 ·rw [if_pos (by decide), h5, Nat.mul_comm q]
  rw [Nat.mul_one] at h3
  omega
theorem aCE (a n : Nat) (h : a < 2 ^ (n + 1)) (hn : n ≤ 31) : Go.bits .andNot .u32 (a : Int) ((2 ^ n : Nat) : Int) = ((a % 2 ^ n : Nat) : Int) := by
 have h32 := nK (show n + 1 ≤ 32 by omega)
 have h31 := eZ hn
 have e : (BitVec.ofInt 32 (a : Int) &&& ~~~ BitVec.ofInt 32 ((2 ^ n : Nat) : Int)).toNat = a % 2 ^ n := by
  rw [BitVec.ofInt_natCast, BitVec.ofInt_natCast]
  apply Nat.eq_of_testBit_eq
  intro i
  rw [BitVec.testBit_toNat, BitVec.getLsbD_and, BitVec.getLsbD_not, BitVec.getLsbD_ofNat, BitVec.getLsbD_ofNat, Nat.testBit_mod_two_pow, Nat.testBit_two_pow]
  by_cases c : i < n
  ·have c1 : i < 32 := by omega
   have c2 : ¬ n = i := by omega
   simp [c, c1, c2]
  ·by_cases c3 : n = i
   ·subst c3; simp
   ·have : a.testBit i = false := Nat.testBit_lt_two_pow (Nat.lt_of_lt_of_le h (Nat.pow_le_pow_right (by decide) (by omega)))
    simp [c, this]
 show IntKind.u32.wrap (((BitVec.ofInt 32 (a : Int) &&& ~~~ BitVec.ofInt 32 ((2 ^ n : Nat) : Int)).toNat : Nat) : Int) = _
 rw [e]
 have : a % 2 ^ n ≤ a := Nat.mod_le _ _
 rw [qV]; omega
theorem xV (f : Int) (v : Nat) (hv : v < 4294967296) : bO.f f (v : Int) = some (dO f (iH f v)) := by
 unfold bO.f; rw [pJ f v hv]; rfl
def iI (f : Int) (v : Nat) : Int := if dO f v then -1 - ((v % 2 ^ (fe f + fm f) : Nat) : Int) else ((v % 2 ^ (fe f + fm f) : Nat) : Int)
theorem yQ (f : Int) (v : Nat) (hv : v < 4294967296) : fA.f f (v : Int) = some (iI f (iH f v)) := by
 unfold fA.f iI
 obtain ⟨b1, b2, b3, b4, b5⟩ := eP f
 have h31 := eZ b5
 have hm := Nat.mod_lt (iH f v) (Nat.two_pow_pos (fe f + fm f))
 rw [iE, oP, xV f v hv]
 simp only [Option.bind_some]
 rw [jR f v hv, show eQ f true = 2 ^ (fe f + fm f) from rfl, aCE _ _ (vQ f v) b5]
 generalize iH f v % 2 ^ (fe f + fm f) = q at *
 rw [cZ (q : Int) (by omega) (by omega), cZ _ (by omega) (by omega)]
 split <;> rfl
theorem wZ (v a b c : Nat) (h : b + c ≤ a) : v % 2 ^ a / 2 ^ b % 2 ^ c = v / 2 ^ b % 2 ^ c := by
 apply Nat.eq_of_testBit_eq
 intro i
 rw [Nat.testBit_mod_two_pow, Nat.testBit_mod_two_pow, Nat.testBit_div_two_pow, Nat.testBit_div_two_pow, Nat.testBit_mod_two_pow]
 by_cases h1 : i < c
 ·have : i + b < a := by omega
  simp [h1, this]
 ·simp [h1]
theorem rM (f : Int) (v : Nat) : dO f (iH f v) = dO f v := by
 unfold dO iH
 have := wZ v (fe f + fm f + 1) (fe f + fm f) 1 (Nat.le_refl _)
 rw [Nat.pow_one] at this
 rw [this]
theorem rP (f : Int) (v : Nat) : mE f (iH f v) = mE f v := wZ v (fe f + fm f + 1) (fm f) (fe f) (by omega)
theorem sU (f : Int) (v : Nat) : jY f (iH f v) = jY f v := by
 have := wZ v (fe f + fm f + 1) 0 (fm f) (by omega)
 rw [Nat.pow_zero, Nat.div_one, Nat.div_one] at this
 exact this
theorem cls_low (f : Int) (v : Nat) : cO f (iH f v) = cO f v := by unfold cO; rw [rP, sU]
theorem aDc (f : Int) (v : Nat) : bT f (iH f v) = bT f v := by unfold bT; rw [rP, sU]
theorem aBw (f : Int) (v : Nat) : bN f (iH f v) = bN f v := by unfold bN; rw [rP]
theorem tL (f : Int) (v : Nat) (hv : v < 4294967296) : Ev (fun k => aJ.f k f (v : Int)) (cO f v : Int) := by
 have := rT f v hv; rw [cls_low] at this; exact this
theorem nA (f : Int) (v : Nat) (hv : v < 4294967296) : bO.f f (v : Int) = some (dO f v) := by rw [xV f v hv, rM]
theorem kQ (f : Int) (v : Nat) (hv : v < 4294967296) : Ev (fun k => bA.f k f (v : Int)) (decide (cO f v = 0)) := by
 refine Ev.congr (fun k => by unfold bA.f; rfl) (Ev.bind (tL f v hv) (Ev.congr (fun k => ?_) (Ev.now _)))
 rw [show (0 : Int) = ((0 : Nat) : Int) from rfl, oI]
def fC (f : Int) (v : Nat) : Bool := decide (4 ≤ cO f v)
def fV (f : Int) (v : Nat) : Bool := decide (cO f v = 5)
theorem r9 (f : Int) (v : Nat) : cO f v ≤ 5 := by
 unfold cO
 repeat' split
 all_goals omega
theorem mY (f : Int) (L : List Int) (i v : Nat) (b c : Bool) (r : Bool × Bool) (hi : i < L.length) (hn : L.length ≤ 100) (hv : v < 4294967296) (hr : rd L (i : Int) = (v : Int))
  (h : Ev (fun k => aG.l0 k f L (b || fC f v) (c || fV f v) ((i + 1 : Nat) : Int)) r) : Ev (fun k => aG.l0 k f L b c (i : Int)) r := by
 have hw : wrap64 ((i : Int) + 1) = ((i + 1 : Nat) : Int) := by rw [cZ _ (by omega) (by omega)]; omega
 have hc := r9 f v
 refine Ev.step (fun k => by rw [aG.l0, if_pos (by omega), if_pos (Int.natCast_nonneg _), hr, hw]) (Ev.bind (tL f v hv) (Ev.congr (fun k => ?_) h))
 have e5 : (((cO f v : Nat) : Int) == 5) = fV f v := by rw [show (5 : Int) = ((5 : Nat) : Int) from rfl, oI]; rfl
 rw [e5]
 cases b
 ·by_cases c4 : cO f v = 4
  ·have n4 : fC f v = true := by unfold fC; rw [c4]; rfl
   rw [if_neg (by decide), if_pos (by omega), n4]
   cases c <;> simp
  ·have n4 : fC f v = fV f v := by unfold fC fV; apply decide_eq_decide.mpr; omega
   rw [if_neg (by decide), if_neg (by omega), n4]
   cases c <;> simp
 ·cases c <;> simp
theorem wJ (f : Int) (L : List Int) (b c : Bool) : Ev (fun k => aG.l0 k f L b c (L.length : Int)) (b, c) :=
 Ev.step (fun k => by rw [aG.l0, if_neg (by omega)]) (Ev.now _)
theorem nans1_ev (f : Int) (v : Nat) (hv : v < 4294967296) : Ev (fun k => aG.f k f [(v : Int)]) (fC f v, fV f v) := by
 refine Ev.congr (fun k => by unfold aG.f; rfl) (mY f _ 0 v false false _ (by simp) (by simp) hv rfl ?_)
 rw [Bool.false_or, Bool.false_or]
 exact wJ f [(v : Int)] _ _
theorem aAA (f : Int) (a b : Nat) (ha : a < 4294967296) (hb : b < 4294967296) : Ev (fun k => aG.f k f [(a : Int), (b : Int)]) (fC f a || fC f b, fV f a || fV f b) := by
 refine Ev.congr (fun k => by unfold aG.f; rfl) (mY f _ 0 a false false _ (by simp) (by simp) ha rfl (mY f _ 1 b _ _ _ (by simp) (by simp) hb rfl ?_))
 rw [Bool.false_or, Bool.false_or]
 exact wJ f [(a : Int), (b : Int)] _ _
def nT (f : Int) (a b : Nat) : Int × Bool :=
 if (fC f a || fC f b) = true then (0, false) else if cO f a = 0 ∧ cO f b = 0 then (0, true)
 else if iI f (iH f a) < iI f (iH f b) then (-1, true) else if iI f (iH f a) > iI f (iH f b) then (1, true) else (0, true)
theorem aBg (f : Int) (a b : Nat) (ha : a < 4294967296) (hb : b < 4294967296) : Ev (fun k => aN.f k f (a : Int) (b : Int)) (nT f a b) := by
 refine Ev.congr (fun k => by unfold aN.f; rfl) (Ev.bind (aAA f a b ha hb) ?_)
 unfold nT
 by_cases n : (fC f a || fC f b) = true
 ·rw [if_pos n]; exact Ev.congr (fun k => by rw [if_pos n]) (Ev.now _)
 ·rw [if_neg n]
  refine Ev.congr (fun k => by rw [if_neg n]) (Ev.bind (kQ f a ha) ?_)
  have fin : Ev (fun k => aN.j0 k f (a : Int) (b : Int) false) (if iI f (iH f a) < iI f (iH f b) then (-1, true) else if iI f (iH f a) > iI f (iH f b) then (1, true) else (0, true)) := by
   refine Ev.step (fun k => by rw [aN.j0, if_neg (by decide), yQ f a ha, Option.bind_some, yQ f b hb, Option.bind_some]) (Ev.congr (fun k => ?_) (Ev.now _))
   split
   ·rfl
   ·split <;> rfl
  by_cases z : cO f a = 0
  ·refine Ev.congr (fun k => by rw [if_pos (decide_eq_true z)]) (Ev.bind (kQ f b hb) ?_)
   by_cases z2 : cO f b = 0
   ·rw [if_pos ⟨z, z2⟩, decide_eq_true z2]
    exact Ev.step (fun k => by rw [aN.j0, if_pos rfl]) (Ev.now _)
   ·rw [if_neg (fun h => z2 h.2), decide_eq_false z2]; exact fin
  ·rw [if_neg (fun h => z h.1)]
   exact Ev.congr (fun k => by rw [if_neg (by simp [z])]) fin
theorem xJ (f : Int) (v : Nat) (hv : v < 4294967296) (h : mE f (iH f v) < gN f) :
  Ev (fun k => bE.f k f (v : Int)) (dO f (iH f v), bN f (iH f v), (bT f (iH f v) : Int)) := by
 obtain ⟨b1, b2, b3, b4, b5⟩ := eP f
 have hfr := rJ f (iH f v)
 have hls := iJ f
 have htp := gU f
 obtain ⟨K, hK⟩ := rT f v hv
 refine ⟨K, fun k hk => ?_⟩
 show bE.f k f (v : Int) = _
 unfold bE.f
 rw [fU, pJ f v hv, show aJ.f k f (v : Int) = _ from hK k hk, rC]
 simp only [Option.bind_some]
 unfold bN bT cO
 generalize mE f (iH f v) = e at *
 generalize jY f (iH f v) = m at *
 by_cases c : e = 0
 ·subst c
  have e1 : wrap64 ((wrap64 (1 - (1 - dM f))) - (fm f : Int)) = dM f - fm f + ((0 - 1 : Nat) : Int) := by
   rw [cZ (1 - (1 - dM f)) (by omega) (by omega), cZ _ (by omega) (by omega)]; omega
  rw [e1]
  by_cases c2 : m = 0
  ·subst c2; rfl
  ·simp only [if_true, if_neg c2]; rfl
 ·rw [if_neg c, if_pos h, if_neg c]
  have e1 : wrap64 ((wrap64 ((e : Int) - (1 - dM f))) - (fm f : Int)) = dM f - fm f + ((e - 1 : Nat) : Int) := by
   rw [cZ ((e : Int) - (1 - dM f)) (by omega) (by omega), cZ _ (by omega) (by omega)]; omega
  rw [e1, or_top m _ hfr (by omega), if_pos (by rfl), if_pos (by omega)]
end Round
namespace P
attribute [local go_sem] max2_int min2_int max_two min_two max_three min_three max_four min_four
def eT.f (a0 a1 : Int) : Option (Bool × Int × Int) := (bJ.f a0).bind fun bt158 => (if 0 ≤ (IntKind.u64.wrap (wrap64 (bt158.1 + bt158.2))) then (if 0 ≤ (IntKind.u64.wrap (bt158.2)) then (if 0 ≤ (IntKind.u64.wrap (bt158.1)) then (some (((Go.bits .and .u32 (shr .u32 a1 (IntKind.u64.wrap (wrap64 (bt158.1 + bt158.2)))) 1) == 1), wrap64 (Go.bits .and .u32 (shr .u32 a1 (IntKind.u64.wrap (bt158.2))) (((shl .u32 1 (IntKind.u64.wrap (bt158.1))) - 1) % 4294967296)), Go.bits .and .u32 a1 (((shl .u32 1 (IntKind.u64.wrap (bt158.2))) - 1) % 4294967296))) else (none)) else (none)) else (none))
theorem eT.calls (a0 a1 : Int) (r1 : Bool) (r2 r3 : Int) (w : World) (h : eT.f a0 a1 = some (r1, r2, r3)) :
  Calls Tryz.prog 115 #[.int .i64 a0, .int .u32 a1] w fun e w' => e = .returned (.tuple #[.bool r1, .int .i64 r2, .int .u32 r3]) ∧ Drawn0 w w' := by
 have H : ((bJ.f a0).bind fun bt158 => (if 0 ≤ (IntKind.u64.wrap (wrap64 (bt158.1 + bt158.2))) then (if 0 ≤ (IntKind.u64.wrap (bt158.2)) then (if 0 ≤ (IntKind.u64.wrap (bt158.1)) then (some (((Go.bits .and .u32 (shr .u32 a1 (IntKind.u64.wrap (wrap64 (bt158.1 + bt158.2)))) 1) == 1), wrap64 (Go.bits .and .u32 (shr .u32 a1 (IntKind.u64.wrap (bt158.2))) (((shl .u32 1 (IntKind.u64.wrap (bt158.1))) - 1) % 4294967296)), Go.bits .and .u32 a1 (((shl .u32 1 (IntKind.u64.wrap (bt158.2))) - 1) % 4294967296))) else (none)) else (none)) else (none))) = some (r1, r2, r3) := h
 clear h
 replace H := bq_ H
 obtain ⟨⟨t158, t159⟩, A30, H⟩ := H
 replace H : (if 0 ≤ (IntKind.u64.wrap (wrap64 (t158 + t159))) then (if 0 ≤ (IntKind.u64.wrap (t159)) then (if 0 ≤ (IntKind.u64.wrap (t158)) then (some (((Go.bits .and .u32 (shr .u32 a1 (IntKind.u64.wrap (wrap64 (t158 + t159)))) 1) == 1), wrap64 (Go.bits .and .u32 (shr .u32 a1 (IntKind.u64.wrap (t159))) (((shl .u32 1 (IntKind.u64.wrap (t158))) - 1) % 4294967296)), Go.bits .and .u32 a1 (((shl .u32 1 (IntKind.u64.wrap (t159))) - 1) % 4294967296))) else (none)) else (none)) else (none)) = some (r1, r2, r3) := H
 have A3 := Aside0.mk A30
 clear A30
 obtain ⟨ji4, hji4⟩ : ∃ j_ : Int, (IntKind.u64.wrap (wrap64 (t158 + t159))) = j_ := ⟨_, rfl⟩
 replace H : (if 0 ≤ (ji4) then (if 0 ≤ (IntKind.u64.wrap (t159)) then (if 0 ≤ (IntKind.u64.wrap (t158)) then (some (((Go.bits .and .u32 (shr .u32 a1 (ji4)) 1) == 1), wrap64 (Go.bits .and .u32 (shr .u32 a1 (IntKind.u64.wrap (t159))) (((shl .u32 1 (IntKind.u64.wrap (t158))) - 1) % 4294967296)), Go.bits .and .u32 a1 (((shl .u32 1 (IntKind.u64.wrap (t159))) - 1) % 4294967296))) else (none)) else (none)) else (none)) = some (r1, r2, r3) := by first | (rw [hji4] at H; exact H) | (simp only [hji4] at H ⊢; exact H)
 (try rw [hji4] at A3)
 by_cases c5 : 0 ≤ (ji4)
 ·rw [if_pos c5] at H
  have c5b0 := eq_true c5
  have c5b1 : decide (0 ≤ (ji4)) = true := decide_eq_true c5
  clear c5
  obtain ⟨ji6, hji6⟩ : ∃ j_ : Int, (shr .u32 a1 (ji4)) = j_ := ⟨_, rfl⟩
  replace H : (if 0 ≤ (IntKind.u64.wrap (t159)) then (if 0 ≤ (IntKind.u64.wrap (t158)) then (some (((Go.bits .and .u32 (ji6) 1) == 1), wrap64 (Go.bits .and .u32 (shr .u32 a1 (IntKind.u64.wrap (t159))) (((shl .u32 1 (IntKind.u64.wrap (t158))) - 1) % 4294967296)), Go.bits .and .u32 a1 (((shl .u32 1 (IntKind.u64.wrap (t159))) - 1) % 4294967296))) else (none)) else (none)) = some (r1, r2, r3) := by first | (rw [hji6] at H; exact H) | (simp only [hji6] at H ⊢; exact H)
  (try rw [hji6] at A3)
  have hji6_ : (a1 / 2 ^ min (ji4).toNat 32) = ji6 := hji6
  have hji6z : (ji4) ≤ 32 → (a1 / 2 ^ (ji4).toNat) = ji6 := shr_small hji6
  obtain ⟨ji7, hji7⟩ : ∃ j_ : Int, (IntKind.u64.wrap (t159)) = j_ := ⟨_, rfl⟩
  replace H : (if 0 ≤ (ji7) then (if 0 ≤ (IntKind.u64.wrap (t158)) then (some (((Go.bits .and .u32 (ji6) 1) == 1), wrap64 (Go.bits .and .u32 (shr .u32 a1 (ji7)) (((shl .u32 1 (IntKind.u64.wrap (t158))) - 1) % 4294967296)), Go.bits .and .u32 a1 (((shl .u32 1 (ji7)) - 1) % 4294967296))) else (none)) else (none)) = some (r1, r2, r3) := by first | (rw [hji7] at H; exact H) | (simp only [hji7] at H ⊢; exact H)
  (try rw [hji7] at A3)
  by_cases c8 : 0 ≤ (ji7)
  ·rw [if_pos c8] at H
   have c8b0 := eq_true c8
   have c8b1 : decide (0 ≤ (ji7)) = true := decide_eq_true c8
   clear c8
   obtain ⟨ji9, hji9⟩ : ∃ j_ : Int, (shr .u32 a1 (ji7)) = j_ := ⟨_, rfl⟩
   replace H : (if 0 ≤ (IntKind.u64.wrap (t158)) then (some (((Go.bits .and .u32 (ji6) 1) == 1), wrap64 (Go.bits .and .u32 (ji9) (((shl .u32 1 (IntKind.u64.wrap (t158))) - 1) % 4294967296)), Go.bits .and .u32 a1 (((shl .u32 1 (ji7)) - 1) % 4294967296))) else (none)) = some (r1, r2, r3) := by first | (rw [hji9] at H; exact H) | (simp only [hji9] at H ⊢; exact H)
   (try rw [hji9] at A3)
   have hji9_ : (a1 / 2 ^ min (ji7).toNat 32) = ji9 := hji9
   have hji9z : (ji7) ≤ 32 → (a1 / 2 ^ (ji7).toNat) = ji9 := shr_small hji9
   obtain ⟨ji10, hji10⟩ : ∃ j_ : Int, (IntKind.u64.wrap (t158)) = j_ := ⟨_, rfl⟩
   replace H : (if 0 ≤ (ji10) then (some (((Go.bits .and .u32 (ji6) 1) == 1), wrap64 (Go.bits .and .u32 (ji9) (((shl .u32 1 (ji10)) - 1) % 4294967296)), Go.bits .and .u32 a1 (((shl .u32 1 (ji7)) - 1) % 4294967296))) else (none)) = some (r1, r2, r3) := by first | (rw [hji10] at H; exact H) | (simp only [hji10] at H ⊢; exact H)
   (try rw [hji10] at A3)
   by_cases c11 : 0 ≤ (ji10)
   ·rw [if_pos c11] at H
    have c11b0 := eq_true c11
    have c11b1 : decide (0 ≤ (ji10)) = true := decide_eq_true c11
    clear c11
    obtain ⟨ji12, hji12⟩ : ∃ j_ : Int, (shl .u32 1 (ji10)) = j_ := ⟨_, rfl⟩
    replace H : (some (((Go.bits .and .u32 (ji6) 1) == 1), wrap64 (Go.bits .and .u32 (ji9) (((ji12) - 1) % 4294967296)), Go.bits .and .u32 a1 (((shl .u32 1 (ji7)) - 1) % 4294967296))) = some (r1, r2, r3) := by first | (rw [hji12] at H; exact H) | (simp only [hji12] at H ⊢; exact H)
    (try rw [hji12] at A3)
    have hji12_ : (IntKind.u32.wrap (1 * 2 ^ min (ji10).toNat 32)) = ji12 := hji12
    have hji12z : (ji10) ≤ 32 → (IntKind.u32.wrap (1 * 2 ^ (ji10).toNat)) = ji12 := shl_small hji12
    have hji12u : (IntKind.u32.wrap (2 ^ min (ji10).toNat 32)) = ji12 := by have h_ := hji12_; rw [Int.one_mul] at h_; exact h_
    have hji12v : (ji10) ≤ 32 → (IntKind.u32.wrap (2 ^ (ji10).toNat)) = ji12 := fun hle_ => by have h_ := hji12z hle_; rw [Int.one_mul] at h_; exact h_
    obtain ⟨ji13, hji13⟩ : ∃ j_ : Int, (((ji12) - 1) % 4294967296) = j_ := ⟨_, rfl⟩
    replace H : (some (((Go.bits .and .u32 (ji6) 1) == 1), wrap64 (Go.bits .and .u32 (ji9) (ji13)), Go.bits .and .u32 a1 (((shl .u32 1 (ji7)) - 1) % 4294967296))) = some (r1, r2, r3) := by first | (rw [hji13] at H; exact H) | (simp only [hji13] at H ⊢; exact H)
    (try rw [hji13] at A3)
    have hji13l : 0 ≤ ji13 := by rw [← hji13]; exact Int.emod_nonneg _ (by decide)
    have hji13h : ji13 ≤ 4294967295 := by have := Int.emod_lt_of_pos (((ji12) - 1)) (show (0 : Int) < 4294967296 by decide); omega
    have hji13w : (IntKind.u32.wrap ((ji12) - 1)) = ji13 := (oG _).trans hji13
    (try (have hji13_ := hji13; simp only [Int.add_emod_emod, Int.emod_add_emod, Int.sub_emod_emod, Int.emod_sub_emod] at hji13_))
    have c14b0 := eq_true (of_decide_eq_true (by first | (with_reducible assumption) | assumption) : 0 ≤ (ji7))
    obtain ⟨ji15, hji15⟩ : ∃ j_ : Int, (shl .u32 1 (ji7)) = j_ := ⟨_, rfl⟩
    replace H : (some (((Go.bits .and .u32 (ji6) 1) == 1), wrap64 (Go.bits .and .u32 (ji9) (ji13)), Go.bits .and .u32 a1 (((ji15) - 1) % 4294967296))) = some (r1, r2, r3) := by first | (rw [hji15] at H; exact H) | (simp only [hji15] at H ⊢; exact H)
    (try rw [hji15] at A3)
    have hji15_ : (IntKind.u32.wrap (1 * 2 ^ min (ji7).toNat 32)) = ji15 := hji15
    have hji15z : (ji7) ≤ 32 → (IntKind.u32.wrap (1 * 2 ^ (ji7).toNat)) = ji15 := shl_small hji15
    have hji15u : (IntKind.u32.wrap (2 ^ min (ji7).toNat 32)) = ji15 := by have h_ := hji15_; rw [Int.one_mul] at h_; exact h_
    have hji15v : (ji7) ≤ 32 → (IntKind.u32.wrap (2 ^ (ji7).toNat)) = ji15 := fun hle_ => by have h_ := hji15z hle_; rw [Int.one_mul] at h_; exact h_
    obtain ⟨ji16, hji16⟩ : ∃ j_ : Int, (((ji15) - 1) % 4294967296) = j_ := ⟨_, rfl⟩
    replace H : (some (((Go.bits .and .u32 (ji6) 1) == 1), wrap64 (Go.bits .and .u32 (ji9) (ji13)), Go.bits .and .u32 a1 (ji16))) = some (r1, r2, r3) := by first | (rw [hji16] at H; exact H) | (simp only [hji16] at H ⊢; exact H)
    (try rw [hji16] at A3)
    have hji16l : 0 ≤ ji16 := by rw [← hji16]; exact Int.emod_nonneg _ (by decide)
    have hji16h : ji16 ≤ 4294967295 := by have := Int.emod_lt_of_pos (((ji15) - 1)) (show (0 : Int) < 4294967296 by decide); omega
    have hji16w : (IntKind.u32.wrap ((ji15) - 1)) = ji16 := (oG _).trans hji16
    (try (have hji16_ := hji16; simp only [Int.add_emod_emod, Int.emod_add_emod, Int.sub_emod_emod, Int.emod_sub_emod] at hji16_))
    simp only [Option.some.injEq, Prod.mk.injEq] at H
    obtain ⟨rfl, rfl, rfl⟩ := H
    go_enter Tryz.func115, Tryz.ntmps115
    go_wp2_with (first | ((with_reducible refine gate_callee (f := 149) rfl ?_); refine goesL_ (some 11) rfl rfl Tryz.func149 kr rfl #[.int .i64 a0] rfl gl ?_; (with_reducible refine (bJ.calls a0 t158 t159 _ A3.out).mono ?_); rintro e w' ⟨rfl, ⟨nd, rfl⟩⟩; refine ⟨_, rfl, ?_⟩))
    go_ret3
    exact ⟨by first | rfl | (simp; done) | (simp only [← hji4, ← hji6, ← hji7, ← hji9, ← hji10, ← hji12, ← hji13, ← hji15, ← hji16] <;> (first | rfl | (simp; done))) | (simp [*]; done) | (congr 1; (try unfold wrap64); omega) | (congr 1; rw [IntKind.wrap_u64]; omega), gd_⟩
   ·rw [if_neg c11] at H
    exact absurd H (by simp)
  ·rw [if_neg c8] at H
   exact absurd H (by simp)
 ·rw [if_neg c5] at H
  exact absurd H (by simp)
def aY.j0 : Nat → Int → Int → Int → Int → Bool → Option (Int)
 |0, _, _, _, _, _ => none
 |k + 1, x0, x6, x8, x9, x22 => if x22 = true then (some 0) else (if x8 = 0 then (some 1) else ((dY.f x0).bind fun t165 => (if x8 < t165 then (some 2) else (if x9 = 0 then (some 3) else (if 0 ≤ (IntKind.u64.wrap (wrap64 (x6 - 1))) then (if (shr .u32 x9 (IntKind.u64.wrap (wrap64 (x6 - 1)))) = 1 then (some 4) else (some 5)) else (none))))))
def aY.f (k : Nat) (a0 a1 : Int) : Option (Int) := (bJ.f a0).bind fun bt160 => ((eT.f a0 a1).bind fun bt162 => (if bt162.2.1 = 0 then (aY.j0 k a0 bt160.2 bt162.2.1 bt162.2.2 (bt162.2.2 == 0)) else (aY.j0 k a0 bt160.2 bt162.2.1 bt162.2.2 false)))
theorem aY.gM : ∀ k, (∀ y0 y1 y2 y3 y4, LeO (aY.j0 k y0 y1 y2 y3 y4) (aY.j0 (k + 1) y0 y1 y2 y3 y4))
 |0 => fun _ _ _ _ _ r h => by simp [aY.j0] at h
 |k + 1 => by
  have ih0 := aY.gM k
  ·intro y0 y1 y2 y3 y4
   unfold aY.j0
   repeat' first
   |(with_reducible first|exact ih0 _ _ _ _ _|exact LeO.refl _|exact LeO.none _|refine LeO.ite ?_ ?_|refine LeO.bind ?_ (fun _ => ?_))
   |exact ih0 _ _ _ _ _
   |exact LeO.none _
   |refine LeO.ite ?_ ?_
   |refine LeO.bind ?_ (fun _ => ?_)
theorem aY.mono : ∀ a0 a1 k, LeO (aY.f k a0 a1) (aY.f (k + 1) a0 a1) := by
 intro a0 a1 k
 have ih0 := aY.gM k
 unfold aY.f
 repeat' first
   |(with_reducible first|exact ih0 _ _ _ _ _|exact LeO.refl _|exact LeO.none _|refine LeO.ite ?_ ?_|refine LeO.bind ?_ (fun _ => ?_))
   |exact ih0 _ _ _ _ _
   |exact LeO.none _
   |refine LeO.ite ?_ ?_
   |refine LeO.bind ?_ (fun _ => ?_)
theorem aY.calls (k : Nat) (a0 a1 r : Int) (w : World) (h : aY.f k a0 a1 = some r) :
  Calls Tryz.prog 147 #[.int .i64 a0, .int .u32 a1] w fun e w' => e = .returned (.int .i64 r) ∧ Drawn0 w w' := by
 have H : ((bJ.f a0).bind fun bt160 => ((eT.f a0 a1).bind fun bt162 => (if bt162.2.1 = 0 then (aY.j0 k a0 bt160.2 bt162.2.1 bt162.2.2 (bt162.2.2 == 0)) else (aY.j0 k a0 bt160.2 bt162.2.1 bt162.2.2 false)))) = some r := h
 clear h
 replace H := bq_ H
 obtain ⟨⟨t160, t161⟩, A30, H⟩ := H
 replace H : ((eT.f a0 a1).bind fun bt162 => (if bt162.2.1 = 0 then (aY.j0 k a0 t161 bt162.2.1 bt162.2.2 (bt162.2.2 == 0)) else (aY.j0 k a0 t161 bt162.2.1 bt162.2.2 false))) = some r := H
 have A3 := Aside0.mk A30
 clear A30
 replace H := bq_ H
 obtain ⟨⟨t162, t163, t164⟩, A40, H⟩ := H
 replace H : (if t163 = 0 then (aY.j0 k a0 t161 t163 t164 (t164 == 0)) else (aY.j0 k a0 t161 t163 t164 false)) = some r := H
 have A4 := Aside0.mk A40
 clear A40
 have HC5 := Aside0.mk H
 clear H
 go_enter Tryz.func147, Tryz.ntmps147
 go_upto_region 3 with (first | ((with_reducible refine gate_callee (f := 149) rfl ?_); refine goesL_ (some 12) rfl rfl Tryz.func149 kr rfl #[.int .i64 a0] rfl gl ?_; (with_reducible refine (bJ.calls a0 t160 t161 _ A3.out).mono ?_); rintro e w' ⟨rfl, ⟨nd, rfl⟩⟩; refine ⟨_, rfl, ?_⟩) | ((with_reducible refine gate_callee (f := 115) rfl ?_); refine goesL_ (some 18) rfl rfl Tryz.func115 kr rfl #[.int .i64 a0, .int .u32 a1] rfl gl ?_; (with_reducible refine (eT.calls a0 a1 t162 t163 t164 _ A4.out).mono ?_); rintro e w' ⟨rfl, ⟨nd, rfl⟩⟩; refine ⟨_, rfl, ?_⟩))
 (try simp only [Act.put, sb, sz, ss])
 go_cut [22] (fun v22 wc => ∃ (kq : Nat) (x22_4 : Bool), v22 = .bool x22_4 ∧ Aside0 (aY.j0 kq a0 t161 t163 t164 x22_4 = some r) ∧ Aside0 (kq ≤ k) ∧ Drawn0 w wc)
 case first =>
  have H := HC5.out
  clear HC5
  by_cases c6 : t163 = 0
  ·rw [if_pos c6] at H
   have c6b0 : (t163 == 0) = true := beq_iff_eq.mpr c6
   have c6b1 : (t163 != 0) = false := bne_eq_false_iff_eq.mpr c6
   clear c6
   (first | rw [c6b0] | (simp only [i64_w, i32_w]; rw [c6b0]) | skip)
   have H' := Aside0.mk H
   clear H
   go_wp2
   go_meet
   case rel => exact ⟨_, ((t164 == 0)), (gr_), H', ⟨by first | omega | exact Nat.le_refl _⟩, gd_⟩
  ·rw [if_neg c6] at H
   have c6b0 : (t163 == 0) = false := beq_eq_false_iff_ne.mpr c6
   have c6b1 : (t163 != 0) = true := bne_iff_ne.mpr c6
   (first | rw [c6b0] | (simp only [i64_w, i32_w]; rw [c6b0]) | skip)
   have H' := Aside0.mk H
   clear H
   go_wp2
   go_meet
   case rel => exact ⟨_, (false), (gr_), H', ⟨by first | omega | exact Nat.le_refl _⟩, gd_⟩
 case rest =>
  clear HC5
  try clear c1 p2 c6 c6b0 c6b1 p6
  obtain ⟨kq, x22_4, rfl, HA, HJ4, ⟨mc4, rfl⟩⟩ := hcut
  cases kq with
  |zero => exact absurd HA.out (by simp [aY.j0])
  |succ kj4 =>
   have H := HA.out
   clear HA
   simp only [aY.j0] at H
   by_cases c7 : x22_4 = true
   ·subst c7
    have H1 : (some 0) = some r := by rw [if_pos rfl] at H; exact H
    clear H
    have H := H1
    clear H1
    obtain rfl := Option.some.inj H
    go_wp2
    go_ret
    exact ⟨gr_, gd_⟩
   ·replace c7 := Bool.eq_false_iff.mpr c7
    subst c7
    have H1 : (if t163 = 0 then (some 1) else ((dY.f a0).bind fun t165 => (if t163 < t165 then (some 2) else (if t164 = 0 then (some 3) else (if 0 ≤ (IntKind.u64.wrap (wrap64 (t161 - 1))) then (if (shr .u32 t164 (IntKind.u64.wrap (wrap64 (t161 - 1)))) = 1 then (some 4) else (some 5)) else (none)))))) = some r := by rw [if_neg (show ¬ (false = true) by decide)] at H; exact H
    clear H
    have H := H1
    clear H1
    by_cases c8 : t163 = 0
    ·rw [if_pos c8] at H
     have c8b0 : (t163 == 0) = true := beq_iff_eq.mpr c8
     have c8b1 : (t163 != 0) = false := bne_eq_false_iff_eq.mpr c8
     clear c8
     obtain rfl := Option.some.inj H
     go_wp2
     go_ret
     exact ⟨gr_, gd_⟩
    ·rw [if_neg c8] at H
     have c8b0 : (t163 == 0) = false := beq_eq_false_iff_ne.mpr c8
     have c8b1 : (t163 != 0) = true := bne_iff_ne.mpr c8
     replace H := bq_ H
     obtain ⟨t165, A90, H⟩ := H
     replace H : (if t163 < t165 then (some 2) else (if t164 = 0 then (some 3) else (if 0 ≤ (IntKind.u64.wrap (wrap64 (t161 - 1))) then (if (shr .u32 t164 (IntKind.u64.wrap (wrap64 (t161 - 1)))) = 1 then (some 4) else (some 5)) else (none)))) = some r := H
     have A9 := Aside0.mk A90
     clear A90
     by_cases c10 : t163 < t165
     ·rw [if_pos c10] at H
      have c10b0 : decide (t163 < t165) = true := decide_eq_true c10
      clear c10
      obtain rfl := Option.some.inj H
      go_wp2_with (first | ((with_reducible refine gate_callee (f := 116) rfl ?_); refine goesL_ (some 35) rfl rfl Tryz.func116 kr rfl #[.int .i64 a0] rfl gl ?_; (with_reducible refine (dY.calls a0 t165 _ A9.out).mono ?_); rintro e w' ⟨rfl, ⟨nd, rfl⟩⟩; refine ⟨_, rfl, ?_⟩))
      go_ret
      exact ⟨gr_, gd_⟩
     ·rw [if_neg c10] at H
      have c10b0 : decide (t163 < t165) = false := decide_eq_false c10
      clear c10
      by_cases c11 : t164 = 0
      ·rw [if_pos c11] at H
       have c11b0 : (t164 == 0) = true := beq_iff_eq.mpr c11
       have c11b1 : (t164 != 0) = false := bne_eq_false_iff_eq.mpr c11
       clear c11
       obtain rfl := Option.some.inj H
       go_wp2_with (first | ((with_reducible refine gate_callee (f := 116) rfl ?_); refine goesL_ (some 35) rfl rfl Tryz.func116 kr rfl #[.int .i64 a0] rfl gl ?_; (with_reducible refine (dY.calls a0 t165 _ A9.out).mono ?_); rintro e w' ⟨rfl, ⟨nd, rfl⟩⟩; refine ⟨_, rfl, ?_⟩))
       go_ret
       exact ⟨gr_, gd_⟩
      ·rw [if_neg c11] at H
       have c11b0 : (t164 == 0) = false := beq_eq_false_iff_ne.mpr c11
       have c11b1 : (t164 != 0) = true := bne_iff_ne.mpr c11
       obtain ⟨ji12, hji12⟩ : ∃ j_ : Int, (IntKind.u64.wrap (wrap64 (t161 - 1))) = j_ := ⟨_, rfl⟩
       replace H : (if 0 ≤ (ji12) then (if (shr .u32 t164 (ji12)) = 1 then (some 4) else (some 5)) else (none)) = some r := by first | (rw [hji12] at H; exact H) | (simp only [hji12] at H ⊢; exact H)
       (try rw [hji12] at A9)
       by_cases c13 : 0 ≤ (ji12)
       ·rw [if_pos c13] at H
        have c13b0 := eq_true c13
        have c13b1 : decide (0 ≤ (ji12)) = true := decide_eq_true c13
        clear c13
        obtain ⟨ji14, hji14⟩ : ∃ j_ : Int, (shr .u32 t164 (ji12)) = j_ := ⟨_, rfl⟩
        replace H : (if (ji14) = 1 then (some 4) else (some 5)) = some r := by first | (rw [hji14] at H; exact H) | (simp only [hji14] at H ⊢; exact H)
        (try rw [hji14] at A9)
        have hji14_ : (t164 / 2 ^ min (ji12).toNat 32) = ji14 := hji14
        have hji14z : (ji12) ≤ 32 → (t164 / 2 ^ (ji12).toNat) = ji14 := shr_small hji14
        by_cases c15 : (ji14) = 1
        ·rw [if_pos c15] at H
         have c15b0 : ((ji14) == 1) = true := beq_iff_eq.mpr c15
         have c15b1 : ((ji14) != 1) = false := bne_eq_false_iff_eq.mpr c15
         clear c15
         obtain rfl := Option.some.inj H
         go_wp2_with (first | ((with_reducible refine gate_callee (f := 116) rfl ?_); refine goesL_ (some 35) rfl rfl Tryz.func116 kr rfl #[.int .i64 a0] rfl gl ?_; (with_reducible refine (dY.calls a0 t165 _ A9.out).mono ?_); rintro e w' ⟨rfl, ⟨nd, rfl⟩⟩; refine ⟨_, rfl, ?_⟩))
         go_ret
         exact ⟨by first | rfl | (simp; done) | (simp only [← hji12, ← hji14] <;> (first | rfl | (simp; done))) | (simp [*]; done) | (congr 1; (try unfold wrap64); omega) | (congr 1; rw [IntKind.wrap_u64]; omega), gd_⟩
        ·rw [if_neg c15] at H
         have c15b0 : ((ji14) == 1) = false := beq_eq_false_iff_ne.mpr c15
         have c15b1 : ((ji14) != 1) = true := bne_iff_ne.mpr c15
         obtain rfl := Option.some.inj H
         go_wp2_with (first | ((with_reducible refine gate_callee (f := 116) rfl ?_); refine goesL_ (some 35) rfl rfl Tryz.func116 kr rfl #[.int .i64 a0] rfl gl ?_; (with_reducible refine (dY.calls a0 t165 _ A9.out).mono ?_); rintro e w' ⟨rfl, ⟨nd, rfl⟩⟩; refine ⟨_, rfl, ?_⟩))
         go_ret
         exact ⟨by first | rfl | (simp; done) | (simp only [← hji12, ← hji14] <;> (first | rfl | (simp; done))) | (simp [*]; done) | (congr 1; (try unfold wrap64); omega) | (congr 1; rw [IntKind.wrap_u64]; omega), gd_⟩
       ·rw [if_neg c13] at H
        exact absurd H (by simp)
def iP.f (a0 : Int) : Option (Int) := (bJ.f a0).bind fun bt166 => ((dY.f a0).bind fun t168 => (if 0 ≤ (IntKind.u64.wrap (wrap64 (bt166.2 - 1))) then ((dF.f a0 false t168 (shl .u32 1 (IntKind.u64.wrap (wrap64 (bt166.2 - 1))))).bind fun t169 => (some t169)) else (none)))
theorem iP.calls (a0 r : Int) (w : World) (h : iP.f a0 = some r) :
  Calls Tryz.prog 170 #[.int .i64 a0] w fun e w' => e = .returned (.int .u32 r) ∧ Drawn0 w w' := by
 have H : ((bJ.f a0).bind fun bt166 => ((dY.f a0).bind fun t168 => (if 0 ≤ (IntKind.u64.wrap (wrap64 (bt166.2 - 1))) then ((dF.f a0 false t168 (shl .u32 1 (IntKind.u64.wrap (wrap64 (bt166.2 - 1))))).bind fun t169 => (some t169)) else (none)))) = some r := h
 clear h
 replace H := bq_ H
 obtain ⟨⟨t166, t167⟩, A20, H⟩ := H
 replace H : ((dY.f a0).bind fun t168 => (if 0 ≤ (IntKind.u64.wrap (wrap64 (t167 - 1))) then ((dF.f a0 false t168 (shl .u32 1 (IntKind.u64.wrap (wrap64 (t167 - 1))))).bind fun t169 => (some t169)) else (none))) = some r := H
 have A2 := Aside0.mk A20
 clear A20
 replace H := bq_ H
 obtain ⟨t168, A30, H⟩ := H
 replace H : (if 0 ≤ (IntKind.u64.wrap (wrap64 (t167 - 1))) then ((dF.f a0 false t168 (shl .u32 1 (IntKind.u64.wrap (wrap64 (t167 - 1))))).bind fun t169 => (some t169)) else (none)) = some r := H
 have A3 := Aside0.mk A30
 clear A30
 obtain ⟨ji4, hji4⟩ : ∃ j_ : Int, (IntKind.u64.wrap (wrap64 (t167 - 1))) = j_ := ⟨_, rfl⟩
 replace H : (if 0 ≤ (ji4) then ((dF.f a0 false t168 (shl .u32 1 (ji4))).bind fun t169 => (some t169)) else (none)) = some r := by first | (rw [hji4] at H; exact H) | (simp only [hji4] at H ⊢; exact H)
 (try rw [hji4] at A2)
 (try rw [hji4] at A3)
 by_cases c5 : 0 ≤ (ji4)
 ·rw [if_pos c5] at H
  have c5b0 := eq_true c5
  have c5b1 : decide (0 ≤ (ji4)) = true := decide_eq_true c5
  clear c5
  obtain ⟨ji6, hji6⟩ : ∃ j_ : Int, (shl .u32 1 (ji4)) = j_ := ⟨_, rfl⟩
  replace H : ((dF.f a0 false t168 (ji6)).bind fun t169 => (some t169)) = some r := by first | (rw [hji6] at H; exact H) | (simp only [hji6] at H ⊢; exact H)
  (try rw [hji6] at A2)
  (try rw [hji6] at A3)
  have hji6_ : (IntKind.u32.wrap (1 * 2 ^ min (ji4).toNat 32)) = ji6 := hji6
  have hji6z : (ji4) ≤ 32 → (IntKind.u32.wrap (1 * 2 ^ (ji4).toNat)) = ji6 := shl_small hji6
  have hji6u : (IntKind.u32.wrap (2 ^ min (ji4).toNat 32)) = ji6 := by have h_ := hji6_; rw [Int.one_mul] at h_; exact h_
  have hji6v : (ji4) ≤ 32 → (IntKind.u32.wrap (2 ^ (ji4).toNat)) = ji6 := fun hle_ => by have h_ := hji6z hle_; rw [Int.one_mul] at h_; exact h_
  replace H := bq_ H
  obtain ⟨t169, A70, H⟩ := H
  replace H : (some t169) = some r := H
  have A7 := Aside0.mk A70
  clear A70
  obtain rfl := Option.some.inj H
  go_enter Tryz.func170, Tryz.ntmps170
  go_wp2_with (first | ((with_reducible refine gate_callee (f := 149) rfl ?_); refine goesL_ (some 7) rfl rfl Tryz.func149 kr rfl #[.int .i64 a0] rfl gl ?_; (with_reducible refine (bJ.calls a0 t166 t167 _ A2.out).mono ?_); rintro e w' ⟨rfl, ⟨nd, rfl⟩⟩; refine ⟨_, rfl, ?_⟩) | ((with_reducible refine gate_callee (f := 116) rfl ?_); refine goesL_ (some 12) rfl rfl Tryz.func116 kr rfl #[.int .i64 a0] rfl gl ?_; (with_reducible refine (dY.calls a0 t168 _ A3.out).mono ?_); rintro e w' ⟨rfl, ⟨nd, rfl⟩⟩; refine ⟨_, rfl, ?_⟩) | ((with_reducible refine gate_callee (f := 155) rfl ?_); refine goesL_ (some 17) rfl rfl Tryz.func155 kr rfl #[.int .i64 a0, .bool false, .int .i64 t168, .int .u32 ji6] rfl (by (try simp only [List.map_toArray, List.map_cons, List.map_nil]); first | done | (simp only [hji6]; rfl) | rfl | (simp only [List.length_drop, List.length_take]; rfl)) ?_; (with_reducible refine (dF.calls a0 false t168 ji6 t169 _ A7.out).mono ?_); rintro e w' ⟨rfl, ⟨nd, rfl⟩⟩; refine ⟨_, rfl, ?_⟩))
  go_ret
  exact ⟨by first | rfl | (simp; done) | (simp only [← hji4, ← hji6] <;> (first | rfl | (simp; done))) | (simp [*]; done) | (congr 1; (try unfold wrap64); omega) | (congr 1; rw [IntKind.wrap_u64]; omega), gd_⟩
 ·rw [if_neg c5] at H
  exact absurd H (by simp)
def bM.f (k : Nat) (a0 a1 : Int) : Option (Bool) := (aY.f k a0 a1).bind fun t187 => (some (t187 == 0))
theorem bM.mono : ∀ a0 a1 k, LeO (bM.f k a0 a1) (bM.f (k + 1) a0 a1) := by
 intro a0 a1 k
 unfold bM.f
 repeat' first
   |(with_reducible first|exact aY.mono _ _ _|exact LeO.refl _|exact LeO.none _|refine LeO.ite ?_ ?_|refine LeO.bind ?_ (fun _ => ?_))
   |exact aY.mono _ _ _
   |exact LeO.none _
   |refine LeO.ite ?_ ?_
   |refine LeO.bind ?_ (fun _ => ?_)
theorem bM.calls (k : Nat) (a0 a1 : Int) (r : Bool) (w : World) (h : bM.f k a0 a1 = some r) :
  Calls Tryz.prog 138 #[.int .i64 a0, .int .u32 a1] w fun e w' => e = .returned (.bool r) ∧ Drawn0 w w' := by
 have H : ((aY.f k a0 a1).bind fun t187 => (some (t187 == 0))) = some r := h
 clear h
 replace H := bq_ H
 obtain ⟨t187, A30, H⟩ := H
 replace H : (some (t187 == 0)) = some r := H
 have A3 := Aside0.mk A30
 clear A30
 obtain rfl := Option.some.inj H
 go_enter Tryz.func138, Tryz.ntmps138
 go_wp2_with (first | ((with_reducible refine gate_callee (f := 147) rfl ?_); refine goesL_ (some 7) rfl rfl Tryz.func147 kr rfl #[.int .i64 a0, .int .u32 a1] rfl gl ?_; (with_reducible refine (aY.calls k a0 a1 t187 _ A3.out).mono ?_); rintro e w' ⟨rfl, ⟨nd, rfl⟩⟩; refine ⟨_, rfl, ?_⟩))
 go_ret
 exact ⟨gr_, gd_⟩
def fM.f (a0 : Int) : Option (Int × Bool × Bool × Bool × Bool × Bool) := (iP.f a0).bind fun t189 => (some (t189, true, false, false, false, false))
theorem fM.calls (a0 r1 : Int) (r2 r3 : Bool) (r4 r5 r6 : Bool) (w : World) (h : fM.f a0 = some (r1, r2, r3, r4, r5, r6)) :
  Calls Tryz.prog 140 #[.int .i64 a0] w fun e w' => e = .returned (.tuple #[.int .u32 r1, .agg #[.bool r2, .bool r3, .bool r4, .bool r5, .bool r6]]) ∧ Below w.heap.size w w' := by
 have hu62 := Tryz.underlying62
 have HB := Aside0.mk (Below.refl w.heap.size w)
 have H : ((iP.f a0).bind fun t189 => (some (t189, true, false, false, false, false))) = some (r1, r2, r3, r4, r5, r6) := h
 clear h
 replace H := bq_ H
 obtain ⟨t189, A20, H⟩ := H
 replace H : (some (t189, true, false, false, false, false)) = some (r1, r2, r3, r4, r5, r6) := H
 have A2 := Aside0.mk A20
 clear A20
 simp only [Option.some.injEq, Prod.mk.injEq] at H
 obtain ⟨rfl, rfl, rfl, rfl, rfl, rfl⟩ := H
 go_enter Tryz.func140, Tryz.ntmps140
 go_wp2_with (first | ((with_reducible refine gate_dst (N := 3) rfl ?_); refine box_event ?hg (N := 3) ?hd (cs := F5) (t := 62) ?hr ?_; (case hd => rfl); (case hg => rfl); (case hr => first | (go_simp; done) | (go_simp; rfl)); intro gb188 hg w3 hbox hb; have n0_ := Aside0.mk (below_step (bl0 HB.out) hb); have n1_ := Aside0.mk (hbox); have n2_ := Aside0.mk ((by rw [hg]; exact (below_size (bl0 HB.out)) : w.heap.size ≤ gb188)); have n3_ := n2_; clear HB; have HB := n0_; have BK188 := n1_; have GW188 := n2_; have GE188 := n3_; clear n0_ n1_ n2_ n3_; clear hb hbox hg) | ((with_reducible refine gate_callee (f := 170) rfl ?_); refine goesL_ (some 5) rfl rfl Tryz.func170 kr rfl #[.int .i64 a0] rfl gl ?_; (with_reducible refine (iP.calls a0 t189 _ A2.out).mono ?_); rintro e w' ⟨rfl, ⟨nd, rfl⟩⟩; refine ⟨_, rfl, ?_⟩; (try (rw [drewN_self w3]; generalize hq_ : World.drewN w3 _ = w3; have n0_ : Aside0 (w3.heap[gb188]? = some (o5_ false false false false false 62)) := ⟨by rw [← hq_]; exact (bv BK188.out)⟩; have n1_ : Aside0 (Below w.heap.size w w3) := ⟨by rw [← hq_]; exact (bl1 HB.out GE188.out)⟩; clear BK188 HB hq_; have BK188 := n0_; have HB := n1_; clear n0_ n1_)); obtain ⟨hcz4_0, hcz4_1, hcz4_2, hcz4_3, hcz4_4⟩ := bc5 BK188.out; obtain ⟨hfz4_0, hfz4_1, hfz4_2, hfz4_3, hfz4_4⟩ := bf5 BK188.out))
 refine bodyPost_ret (results_tc rfl _ _ gb188 62 #[.bool true, .bool false, .bool false, .bool false, .bool false] (0, 0) _ rfl (by (with_reducible repeat first | apply bd | apply be | apply ba); refine blk_put (cs := q5_ true false false false false) ?_ 4 _ rfl; (with_reducible repeat first | apply bd | apply be | apply ba); refine blk_put (cs := q5_ true false false false false) ?_ 3 _ rfl; (with_reducible repeat first | apply bd | apply be | apply ba); refine blk_put (cs := q5_ true false false false false) ?_ 2 _ rfl; (with_reducible repeat first | apply bd | apply be | apply ba); refine blk_put (cs := q5_ true false false false false) ?_ 1 _ rfl; (with_reducible repeat first | apply bd | apply be | apply ba); refine blk_put (cs := F5) ?_ 0 _ rfl; (with_reducible repeat first | apply bd | apply be | apply ba); exact BK188.out) Tryz.underlying62 rfl kr) rfl ?_
 exact ⟨by first | rfl | (simp [eG, eO] <;> rfl) | (simp [*, eG, eO] <;> rfl), bl1 HB.out GE188.out⟩
def aW.f (k : Nat) (a0 a1 : Int) : Option (Bool) := (aY.f k a0 a1).bind fun t190 => (some (t190 == 3))
theorem aW.mono : ∀ a0 a1 k, LeO (aW.f k a0 a1) (aW.f (k + 1) a0 a1) := by
 intro a0 a1 k
 unfold aW.f
 repeat' first
   |(with_reducible first|exact aY.mono _ _ _|exact LeO.refl _|exact LeO.none _|refine LeO.ite ?_ ?_|refine LeO.bind ?_ (fun _ => ?_))
   |exact aY.mono _ _ _
   |exact LeO.none _
   |refine LeO.ite ?_ ?_
   |refine LeO.bind ?_ (fun _ => ?_)
theorem aW.calls (k : Nat) (a0 a1 : Int) (r : Bool) (w : World) (h : aW.f k a0 a1 = some r) :
  Calls Tryz.prog 141 #[.int .i64 a0, .int .u32 a1] w fun e w' => e = .returned (.bool r) ∧ Drawn0 w w' := by
 have H : ((aY.f k a0 a1).bind fun t190 => (some (t190 == 3))) = some r := h
 clear h
 replace H := bq_ H
 obtain ⟨t190, A30, H⟩ := H
 replace H : (some (t190 == 3)) = some r := H
 have A3 := Aside0.mk A30
 clear A30
 obtain rfl := Option.some.inj H
 go_enter Tryz.func141, Tryz.ntmps141
 go_wp2_with (first | ((with_reducible refine gate_callee (f := 147) rfl ?_); refine goesL_ (some 7) rfl rfl Tryz.func147 kr rfl #[.int .i64 a0, .int .u32 a1] rfl gl ?_; (with_reducible refine (aY.calls k a0 a1 t190 _ A3.out).mono ?_); rintro e w' ⟨rfl, ⟨nd, rfl⟩⟩; refine ⟨_, rfl, ?_⟩))
 go_ret
 exact ⟨gr_, gd_⟩
def dZ.l0 : Nat → Int → Int → Int → Option (Int × Bool)
 |0, _, _, _ => none
 |k + 1, x0, x4, x5 => if x5 > 0 then (if (IntKind.u64.wrap ((Go.bits .or .u64 x4 x5) * (Go.bits .or .u64 x4 x5))) ≤ x0 then (dZ.l0 k x0 (Go.bits .or .u64 x4 x5) (x5 / 2)) else (dZ.l0 k x0 x4 (x5 / 2))) else (some ((x4) % 4294967296, ((IntKind.u64.wrap (x4 * x4)) == x0)))
def dZ.f (k : Nat) (a0 : Int) : Option (Int × Bool) := dZ.l0 k a0 0 2147483648
theorem dZ.gM : ∀ k, (∀ y0 y1 y2, LeO (dZ.l0 k y0 y1 y2) (dZ.l0 (k + 1) y0 y1 y2))
 |0 => fun _ _ _ r h => by simp [dZ.l0] at h
 |k + 1 => by
  have ih0 := dZ.gM k
  ·intro y0 y1 y2
   unfold dZ.l0
   repeat' first
   |(with_reducible first|exact ih0 _ _ _|exact LeO.refl _|exact LeO.none _|refine LeO.ite ?_ ?_|refine LeO.bind ?_ (fun _ => ?_))
   |exact ih0 _ _ _
   |exact LeO.none _
   |refine LeO.ite ?_ ?_
   |refine LeO.bind ?_ (fun _ => ?_)
theorem dZ.mono : ∀ a0 k, LeO (dZ.f k a0) (dZ.f (k + 1) a0) := by
 intro a0 k
 have ih0 := dZ.gM k
 unfold dZ.f
 repeat' first
   |(with_reducible first|exact ih0 _ _ _|exact LeO.refl _|exact LeO.none _|refine LeO.ite ?_ ?_|refine LeO.bind ?_ (fun _ => ?_))
   |exact ih0 _ _ _
   |exact LeO.none _
   |refine LeO.ite ?_ ?_
   |refine LeO.bind ?_ (fun _ => ?_)
theorem dZ.calls (k : Nat) (a0 r1 : Int) (r2 : Bool) (w : World) (h : dZ.f k a0 = some (r1, r2)) :
  Calls Tryz.prog 145 #[.int .u64 a0] w fun e w' => e = .returned (.tuple #[.int .u32 r1, .bool r2]) ∧ Drawn0 w w' := by
 have H : (dZ.l0 k a0 0 2147483648) = some (r1, r2) := h
 clear h
 have H' := Aside0.mk H
 clear H
 go_enter Tryz.func145, Tryz.ntmps145
 go_wp2
 go_loopg [4, 5] k (fun kq v4 v5 w' => ∃ (x4_1 : Int) (x5_1 : Int), v4 = .int .u64 x4_1 ∧ v5 = .int .u64 x5_1 ∧ Aside0 (dZ.l0 kq a0 x4_1 x5_1 = some (r1, r2)) ∧ Aside0 (kq ≤ k) ∧ Drawn0 w w')
 case atStart => exact ⟨(0), (2147483648), (gr_), (gr_), H', ⟨Nat.le_refl _⟩, gd_⟩
 case round =>
  clear H'
  try clear c1
  obtain ⟨x4_1, x5_1, rfl, rfl, HA, HK1, ⟨m1, rfl⟩⟩ := hrel
  cases gk with
  |zero => exact absurd HA.out (by simp [dZ.l0])
  |succ k1 =>
   have H := HA.out
   clear HA
   simp only [dZ.l0] at H
   by_cases c2 : x5_1 > 0
   ·rw [if_pos c2] at H
    have c2b0 : decide (0 < x5_1) = true := decide_eq_true c2
    clear c2
    by_cases c3 : (IntKind.u64.wrap ((Go.bits .or .u64 x4_1 x5_1) * (Go.bits .or .u64 x4_1 x5_1))) ≤ a0
    ·rw [if_pos c3] at H
     have c3b0 : decide ((IntKind.u64.wrap ((Go.bits .or .u64 x4_1 x5_1) * (Go.bits .or .u64 x4_1 x5_1))) ≤ a0) = true := decide_eq_true c3
     clear c3
     have H' := Aside0.mk H
     clear H
     go_wp2
     go_roundg k1
     case measure => have := HK1.out; omega
     case rel => exact ⟨(Go.bits .or .u64 x4_1 x5_1), (x5_1 / 2), (gr_), (gr_), H', ⟨by have := HK1.out; omega⟩, gd_⟩
    ·rw [if_neg c3] at H
     have c3b0 : decide ((IntKind.u64.wrap ((Go.bits .or .u64 x4_1 x5_1) * (Go.bits .or .u64 x4_1 x5_1))) ≤ a0) = false := decide_eq_false c3
     clear c3
     have H' := Aside0.mk H
     clear H
     go_wp2
     go_roundg k1
     case measure => have := HK1.out; omega
     case rel => exact ⟨(x4_1), (x5_1 / 2), (gr_), (gr_), H', ⟨by have := HK1.out; omega⟩, gd_⟩
   ·rw [if_neg c2] at H
    have c2b0 : decide (0 < x5_1) = false := decide_eq_false c2
    clear c2
    simp only [Option.some.injEq, Prod.mk.injEq] at H
    obtain ⟨rfl, rfl⟩ := H
    go_wp2
    go_ret2
    exact ⟨gr_, gd_⟩
def dL.f (a0 a1 : Int) : Option (Bool) := (eT.f a0 a1).bind fun bt246 => (some bt246.1)
theorem dL.calls (a0 a1 : Int) (r : Bool) (w : World) (h : dL.f a0 a1 = some r) :
  Calls Tryz.prog 146 #[.int .i64 a0, .int .u32 a1] w fun e w' => e = .returned (.bool r) ∧ Drawn0 w w' := by
 have H : ((eT.f a0 a1).bind fun bt246 => (some bt246.1)) = some r := h
 clear h
 replace H := bq_ H
 obtain ⟨⟨t246, t247, t248⟩, A30, H⟩ := H
 replace H : (some t246) = some r := H
 have A3 := Aside0.mk A30
 clear A30
 obtain rfl := Option.some.inj H
 go_enter Tryz.func146, Tryz.ntmps146
 go_wp2_with (first | ((with_reducible refine gate_callee (f := 115) rfl ?_); refine goesL_ (some 11) rfl rfl Tryz.func115 kr rfl #[.int .i64 a0, .int .u32 a1] rfl gl ?_; (with_reducible refine (eT.calls a0 a1 t246 t247 t248 _ A3.out).mono ?_); rintro e w' ⟨rfl, ⟨nd, rfl⟩⟩; refine ⟨_, rfl, ?_⟩))
 go_ret
 exact ⟨gr_, gd_⟩
def dS.f (k : Nat) (a0 a1 a2 : Int) : Option (Bool) := (bM.f k a0 a1).bind fun t249 => (if t249 = true then ((aW.f k a0 a2).bind fun t250 => (if t250 = true then (some true) else ((aW.f k a0 a1).bind fun t251 => (if t251 = true then ((bM.f k a0 a2).bind fun t252 => (some t252)) else (some false))))) else ((aW.f k a0 a1).bind fun t253 => (if t253 = true then ((bM.f k a0 a2).bind fun t254 => (some t254)) else (some false))))
def bH.l0 : Nat → Int → Bool → List Int → Int → Int → Bool → Bool → Bool → Bool → Bool → Option (Int × Bool × Bool × Bool × Bool × Bool × Bool)
 |0, _, _, _, _, _, _, _, _, _, _ => none
 |k + 1, x0, x7, x12, x13, x14, x172000, x172001, x172002, x172003, x172004 => if x14 < x13 then (if 0 ≤ x14 then (if x14 < (x12.length : Int) then ((aY.f k x0 (rd x12 x14)).bind fun t173 => (if x7 = true then (if x172000 = true then (bH.l0 k x0 true x12 x13 (wrap64 (x14 + 1)) true x172001 x172002 x172003 x172004) else (bH.l0 k x0 true x12 x13 (wrap64 (x14 + 1)) (t173 == 5) x172001 x172002 x172003 x172004)) else (if x172000 = true then (bH.l0 k x0 (decide (t173 ≥ 4)) x12 x13 (wrap64 (x14 + 1)) true x172001 x172002 x172003 x172004) else (bH.l0 k x0 (decide (t173 ≥ 4)) x12 x13 (wrap64 (x14 + 1)) (t173 == 5) x172001 x172002 x172003 x172004)))) else (none)) else (none)) else ((iP.f x0).bind fun t174 => (some (t174, x172000, x172001, x172002, x172003, x172004, x7)))
def bH.f (k : Nat) (a0 : Int) (l1 : List Int) : Option (Int × Bool × Bool × Bool × Bool × Bool × Bool) := bH.l0 k a0 false l1 (l1.length : Int) 0 false false false false false
theorem bH.gM : ∀ k, (∀ y0 y1 y2 y3 y4 y5 y6 y7 y8 y9, LeO (bH.l0 k y0 y1 y2 y3 y4 y5 y6 y7 y8 y9) (bH.l0 (k + 1) y0 y1 y2 y3 y4 y5 y6 y7 y8 y9))
 |0 => fun _ _ _ _ _ _ _ _ _ _ r h => by simp [bH.l0] at h
 |k + 1 => by
  have ih0 := bH.gM k
  ·intro y0 y1 y2 y3 y4 y5 y6 y7 y8 y9
   unfold bH.l0
   repeat' first
   |(with_reducible first|exact ih0 _ _ _ _ _ _ _ _ _ _|exact aY.mono _ _ _|exact LeO.refl _|exact LeO.none _|refine LeO.ite ?_ ?_|refine LeO.bind ?_ (fun _ => ?_))
   |exact ih0 _ _ _ _ _ _ _ _ _ _
   |exact aY.mono _ _ _
   |exact LeO.none _
   |refine LeO.ite ?_ ?_
   |refine LeO.bind ?_ (fun _ => ?_)
theorem bH.mono : ∀ a0 a1 k, LeO (bH.f k a0 a1) (bH.f (k + 1) a0 a1) := by
 intro a0 a1 k
 have ih0 := bH.gM k
 unfold bH.f
 repeat' first
   |(with_reducible first|exact ih0 _ _ _ _ _ _ _ _ _ _|exact aY.mono _ _ _|exact LeO.refl _|exact LeO.none _|refine LeO.ite ?_ ?_|refine LeO.bind ?_ (fun _ => ?_))
   |exact ih0 _ _ _ _ _ _ _ _ _ _
   |exact aY.mono _ _ _
   |exact LeO.none _
   |refine LeO.ite ?_ ?_
   |refine LeO.bind ?_ (fun _ => ?_)
theorem bH.calls (k : Nat) (a0 : Int) (A1 : Option Addr) (c1 : Nat) (l1 : List Int) (r1 : Int) (r2 r3 : Bool) (r4 r5 : Bool) (r6 r7 : Bool) (w : World) (hr1 : Kd.C (Kd.int .u32) w A1 l1.length l1) (hc1 : l1.length ≤ c1) (h : bH.f k a0 l1 = some (r1, r2, r3, r4, r5, r6, r7)) :
  Calls Tryz.prog 136 #[.int .i64 a0, .slice A1 l1.length c1] w fun e w' => e = .returned (.tuple #[.int .u32 r1, .agg #[.bool r2, .bool r3, .bool r4, .bool r5, .bool r6], .bool r7]) ∧ Below w.heap.size w w' := by
 have hu62 := Tryz.underlying62
 have HR1 := Aside0.mk hr1
 have HC1 := Aside0.mk hc1
 clear hr1 hc1
 have HB := Aside0.mk (Below.refl w.heap.size w)
 have H : (bH.l0 k a0 false l1 (l1.length : Int) 0 false false false false false) = some (r1, r2, r3, r4, r5, r6, r7) := h
 clear h
 have H' := Aside0.mk H
 clear H
 go_enter Tryz.func136, Tryz.ntmps136
 go_wp2_with (first | ((with_reducible refine gate_dst (N := 5) rfl ?_); refine box_event ?hg (N := 5) ?hd (cs := F5) (t := 62) ?hr ?_; (case hd => rfl); (case hg => rfl); (case hr => first | (go_simp; done) | (go_simp; rfl)); intro gb170 hg w3 hbox hb; have n0_ := Aside0.mk (below_step (bl0 HB.out) hb); have n1_ := Aside0.mk (hbox); have n2_ := Aside0.mk ((by rw [hg]; exact (below_size (bl0 HB.out)) : w.heap.size ≤ gb170)); have n3_ := n2_; clear HB; have HB := n0_; have BK170 := n1_; have GW170 := n2_; have GE170 := n3_; clear n0_ n1_ n2_ n3_; clear hb hbox hg) | ((with_reducible refine gate_dst (N := 8) rfl ?_); refine box_event ?hg (N := 8) ?hd (cs := F5) (t := 62) ?hr ?_; (case hd => rfl); (case hg => rfl); (case hr => first | (go_simp; done) | (go_simp; rfl)); intro gb171 hg w4 hbox hb; have n0_ := Aside0.mk (blk_below (g := gb170) (o := o5_ false false false false false 62) (bv BK170.out) hb); have n1_ := Aside0.mk (below_step (bl1 HB.out GE170.out) hb); have n2_ := Aside0.mk (hbox); have n3_ := Aside0.mk ((by rw [hg]; exact (below_size (bl1 HB.out GE170.out)) : w.heap.size ≤ gb171)); have n4_ := n3_; have n5_ := Aside0.mk ((by rw [hg]; exact Nat.ne_of_lt (blk_lt (g := gb170) (o := .cells F5 62 (0, 0)) (bv BK170.out)) : gb170 ≠ gb171)); have n6_ := Aside0.mk (Ne.symm n5_.out); clear BK170; clear HB; have BK170 := n0_; have HB := n1_; have BK171 := n2_; have GW171 := n3_; have GE171 := n4_; have NB170_171 := n5_; have NB171_170 := n6_; clear n0_ n1_ n2_ n3_ n4_ n5_ n6_; clear hb hbox hg))
 go_loopg [7, 14] k (fun kq v7 v14 w' => ∃ (x7_1 : Bool) (x14_1 : Int) (x172000_1 : Bool), v7 = .bool x7_1 ∧ v14 = .int .i64 x14_1 ∧ Aside0 (bH.l0 kq a0 x7_1 l1 (l1.length : Int) x14_1 x172000_1 false false false false = some (r1, r2, r3, r4, r5, r6, r7)) ∧ Aside0 (kq ≤ k) ∧ Aside0 (w'.heap[gb170]? = some (o5_ false false false false false 62)) ∧ Aside0 (w'.heap[gb171]? = some (o5_ x172000_1 false false false false 62)) ∧ Aside0 (Below w.heap.size w w'))
 case atStart => exact ⟨(false), (0), (false), (gr_), (gr_), H', ⟨Nat.le_refl _⟩, ⟨by (with_reducible repeat first | apply bd | apply be | apply ba); exact BK170.out⟩, ⟨by (with_reducible repeat first | apply bd | apply be | apply ba); exact BK171.out⟩, ⟨bl2 HB.out GE170.out GE171.out⟩⟩
 case round =>
  clear H'
  try clear c1 p2
  obtain ⟨x7_1, x14_1, x172000_1, rfl, rfl, HA, HK1, BK170, BK171, HB⟩ := hrel
  cases gk with
  |zero => exact absurd HA.out (by simp [bH.l0])
  |succ k1 =>
   have H := HA.out
   clear HA
   simp only [bH.l0] at H
   by_cases c5 : x14_1 < (l1.length : Int)
   ·rw [if_pos c5] at H
    have c5b0 : decide (x14_1 < (l1.length : Int)) = true := decide_eq_true c5
    clear c5
    by_cases c6 : 0 ≤ x14_1
    ·rw [if_pos c6] at H
     have c6b0 : decide (0 ≤ x14_1) = true := decide_eq_true c6
     clear c6
     by_cases c7 : x14_1 < (l1.length : Int)
     ·rw [if_pos c7] at H
      have c7b0 : decide (x14_1 < (l1.length : Int)) = true := decide_eq_true c7
      clear c7
      replace H := bq_ H
      obtain ⟨t173, A80, H⟩ := H
      replace H : (if x7_1 = true then (if x172000_1 = true then (bH.l0 k1 a0 true l1 (l1.length : Int) (wrap64 (x14_1 + 1)) true false false false false) else (bH.l0 k1 a0 true l1 (l1.length : Int) (wrap64 (x14_1 + 1)) (t173 == 5) false false false false)) else (if x172000_1 = true then (bH.l0 k1 a0 (decide (t173 ≥ 4)) l1 (l1.length : Int) (wrap64 (x14_1 + 1)) true false false false false) else (bH.l0 k1 a0 (decide (t173 ≥ 4)) l1 (l1.length : Int) (wrap64 (x14_1 + 1)) (t173 == 5) false false false false))) = some (r1, r2, r3, r4, r5, r6, r7) := H
      have A8 := Aside0.mk A80
      clear A80
      by_cases c9 : x7_1 = true
      ·subst c9
       have H1 : (if x172000_1 = true then (bH.l0 k1 a0 true l1 (l1.length : Int) (wrap64 (x14_1 + 1)) true false false false false) else (bH.l0 k1 a0 true l1 (l1.length : Int) (wrap64 (x14_1 + 1)) (t173 == 5) false false false false)) = some (r1, r2, r3, r4, r5, r6, r7) := by rw [if_pos rfl] at H; exact H
       clear H
       have H := H1
       clear H1
       by_cases c10 : x172000_1 = true
       ·subst c10
        have H1 : (bH.l0 k1 a0 true l1 (l1.length : Int) (wrap64 (x14_1 + 1)) true false false false false) = some (r1, r2, r3, r4, r5, r6, r7) := by rw [if_pos rfl] at H; exact H
        clear H
        have H := H1
        clear H1
        have H' := Aside0.mk H
        clear H
        have p172 : 0 ≤ (x14_1 : Int) := of_decide_eq_true (by first | (with_reducible assumption) | assumption)
        have q172 : x14_1 < (l1.length : Int) := of_decide_eq_true (by first | (with_reducible assumption) | assumption)
        obtain ⟨ad172, e172, hx172_0⟩ := Kd.at_int HR1.out x14_1 p172 q172
        cases e172
        replace hx172_0 := (HB.out.cell (World.block_lt_of_cell? w _ hx172_0)).trans hx172_0
        replace p172 := eq_true p172
        replace q172 := eq_true q172
        go_wp2_with (first | ((with_reducible refine gate_callee (f := 147) rfl ?_); refine goesL_ (some 20) rfl rfl Tryz.func147 kr rfl #[.int .i64 a0, .int .u32 (rd l1 x14_1)] rfl gl ?_; (with_reducible refine (aY.calls k1 a0 (rd l1 x14_1) t173 _ A8.out).mono ?_); rintro e w' ⟨rfl, ⟨nd, rfl⟩⟩; refine ⟨_, rfl, ?_⟩; (try (rw [drewN_self wr]; generalize hq_ : World.drewN wr _ = wr; have n0_ : Aside0 (wr.heap[gb170]? = some (o5_ false false false false false 62)) := ⟨by rw [← hq_]; exact (bv BK170.out)⟩; have n1_ : Aside0 (wr.heap[gb171]? = some (o5_ true false false false false 62)) := ⟨by rw [← hq_]; exact (bv BK171.out)⟩; have n2_ : Aside0 (Below w.heap.size w wr) := ⟨by rw [← hq_]; exact (bl2 HB.out GE170.out GE171.out)⟩; clear BK170 BK171 HB hq_; have BK170 := n0_; have BK171 := n1_; have HB := n2_; clear n0_ n1_ n2_)); have hnb11 := NB171_170.out; have hnc11 := NB170_171.out; obtain ⟨hcz12_0, hcz12_1, hcz12_2, hcz12_3, hcz12_4⟩ := bc5 BK171.out; obtain ⟨hfz12_0, hfz12_1, hfz12_2, hfz12_3, hfz12_4⟩ := bf5 BK171.out))
        go_roundg k1
        case measure => have := HK1.out; omega
        case rel => exact ⟨(true), (wrap64 (x14_1 + 1)), (true), (gr_), (gr_), H', ⟨by have := HK1.out; omega⟩, ⟨by (with_reducible repeat first | apply bd | apply be | apply ba); refine blk_far ?_ NB170_171.out _; (with_reducible repeat first | apply bd | apply be | apply ba); exact BK170.out⟩, ⟨by (with_reducible repeat first | apply bd | apply be | apply ba); refine blk_put (cs := q5_ true false false false false) ?_ 0 _ rfl; (with_reducible repeat first | apply bd | apply be | apply ba); exact BK171.out⟩, ⟨bl2 HB.out GE170.out GE171.out⟩⟩
       ·replace c10 := Bool.eq_false_iff.mpr c10
        subst c10
        have H1 : (bH.l0 k1 a0 true l1 (l1.length : Int) (wrap64 (x14_1 + 1)) (t173 == 5) false false false false) = some (r1, r2, r3, r4, r5, r6, r7) := by rw [if_neg (show ¬ (false = true) by decide)] at H; exact H
        clear H
        have H := H1
        clear H1
        have H' := Aside0.mk H
        clear H
        have p172 : 0 ≤ (x14_1 : Int) := of_decide_eq_true (by first | (with_reducible assumption) | assumption)
        have q172 : x14_1 < (l1.length : Int) := of_decide_eq_true (by first | (with_reducible assumption) | assumption)
        obtain ⟨ad172, e172, hx172_0⟩ := Kd.at_int HR1.out x14_1 p172 q172
        cases e172
        replace hx172_0 := (HB.out.cell (World.block_lt_of_cell? w _ hx172_0)).trans hx172_0
        replace p172 := eq_true p172
        replace q172 := eq_true q172
        go_wp2_with (first | ((with_reducible refine gate_callee (f := 147) rfl ?_); refine goesL_ (some 20) rfl rfl Tryz.func147 kr rfl #[.int .i64 a0, .int .u32 (rd l1 x14_1)] rfl gl ?_; (with_reducible refine (aY.calls k1 a0 (rd l1 x14_1) t173 _ A8.out).mono ?_); rintro e w' ⟨rfl, ⟨nd, rfl⟩⟩; refine ⟨_, rfl, ?_⟩; (try (rw [drewN_self wr]; generalize hq_ : World.drewN wr _ = wr; have n0_ : Aside0 (wr.heap[gb170]? = some (o5_ false false false false false 62)) := ⟨by rw [← hq_]; exact (bv BK170.out)⟩; have n1_ : Aside0 (wr.heap[gb171]? = some (o5_ false false false false false 62)) := ⟨by rw [← hq_]; exact (bv BK171.out)⟩; have n2_ : Aside0 (Below w.heap.size w wr) := ⟨by rw [← hq_]; exact (bl2 HB.out GE170.out GE171.out)⟩; clear BK170 BK171 HB hq_; have BK170 := n0_; have BK171 := n1_; have HB := n2_; clear n0_ n1_ n2_)); have hnb13 := NB171_170.out; have hnc13 := NB170_171.out; obtain ⟨hcz14_0, hcz14_1, hcz14_2, hcz14_3, hcz14_4⟩ := bc5 BK171.out; obtain ⟨hfz14_0, hfz14_1, hfz14_2, hfz14_3, hfz14_4⟩ := bf5 BK171.out))
        go_roundg k1
        case measure => have := HK1.out; omega
        case rel => exact ⟨(true), (wrap64 (x14_1 + 1)), ((t173 == 5)), (gr_), (gr_), H', ⟨by have := HK1.out; omega⟩, ⟨by (with_reducible repeat first | apply bd | apply be | apply ba); refine blk_far ?_ NB170_171.out _; (with_reducible repeat first | apply bd | apply be | apply ba); exact BK170.out⟩, ⟨by (with_reducible repeat first | apply bd | apply be | apply ba); refine blk_put (cs := F5) ?_ 0 _ rfl; (with_reducible repeat first | apply bd | apply be | apply ba); exact BK171.out⟩, ⟨bl2 HB.out GE170.out GE171.out⟩⟩
      ·replace c9 := Bool.eq_false_iff.mpr c9
       subst c9
       have H1 : (if x172000_1 = true then (bH.l0 k1 a0 (decide (t173 ≥ 4)) l1 (l1.length : Int) (wrap64 (x14_1 + 1)) true false false false false) else (bH.l0 k1 a0 (decide (t173 ≥ 4)) l1 (l1.length : Int) (wrap64 (x14_1 + 1)) (t173 == 5) false false false false)) = some (r1, r2, r3, r4, r5, r6, r7) := by rw [if_neg (show ¬ (false = true) by decide)] at H; exact H
       clear H
       have H := H1
       clear H1
       by_cases c15 : x172000_1 = true
       ·subst c15
        have H1 : (bH.l0 k1 a0 (decide (t173 ≥ 4)) l1 (l1.length : Int) (wrap64 (x14_1 + 1)) true false false false false) = some (r1, r2, r3, r4, r5, r6, r7) := by rw [if_pos rfl] at H; exact H
        clear H
        have H := H1
        clear H1
        have H' := Aside0.mk H
        clear H
        have p172 : 0 ≤ (x14_1 : Int) := of_decide_eq_true (by first | (with_reducible assumption) | assumption)
        have q172 : x14_1 < (l1.length : Int) := of_decide_eq_true (by first | (with_reducible assumption) | assumption)
        obtain ⟨ad172, e172, hx172_0⟩ := Kd.at_int HR1.out x14_1 p172 q172
        cases e172
        replace hx172_0 := (HB.out.cell (World.block_lt_of_cell? w _ hx172_0)).trans hx172_0
        replace p172 := eq_true p172
        replace q172 := eq_true q172
        go_wp2_with (first | ((with_reducible refine gate_callee (f := 147) rfl ?_); refine goesL_ (some 20) rfl rfl Tryz.func147 kr rfl #[.int .i64 a0, .int .u32 (rd l1 x14_1)] rfl gl ?_; (with_reducible refine (aY.calls k1 a0 (rd l1 x14_1) t173 _ A8.out).mono ?_); rintro e w' ⟨rfl, ⟨nd, rfl⟩⟩; refine ⟨_, rfl, ?_⟩; (try (rw [drewN_self wr]; generalize hq_ : World.drewN wr _ = wr; have n0_ : Aside0 (wr.heap[gb170]? = some (o5_ false false false false false 62)) := ⟨by rw [← hq_]; exact (bv BK170.out)⟩; have n1_ : Aside0 (wr.heap[gb171]? = some (o5_ true false false false false 62)) := ⟨by rw [← hq_]; exact (bv BK171.out)⟩; have n2_ : Aside0 (Below w.heap.size w wr) := ⟨by rw [← hq_]; exact (bl2 HB.out GE170.out GE171.out)⟩; clear BK170 BK171 HB hq_; have BK170 := n0_; have BK171 := n1_; have HB := n2_; clear n0_ n1_ n2_)); have hnb16 := NB171_170.out; have hnc16 := NB170_171.out; obtain ⟨hcz17_0, hcz17_1, hcz17_2, hcz17_3, hcz17_4⟩ := bc5 BK171.out; obtain ⟨hfz17_0, hfz17_1, hfz17_2, hfz17_3, hfz17_4⟩ := bf5 BK171.out))
        go_roundg k1
        case measure => have := HK1.out; omega
        case rel => exact ⟨(decide (t173 ≥ 4)), (wrap64 (x14_1 + 1)), (true), (gr_), (gr_), H', ⟨by have := HK1.out; omega⟩, ⟨by (with_reducible repeat first | apply bd | apply be | apply ba); refine blk_far ?_ NB170_171.out _; (with_reducible repeat first | apply bd | apply be | apply ba); exact BK170.out⟩, ⟨by (with_reducible repeat first | apply bd | apply be | apply ba); refine blk_put (cs := q5_ true false false false false) ?_ 0 _ rfl; (with_reducible repeat first | apply bd | apply be | apply ba); exact BK171.out⟩, ⟨bl2 HB.out GE170.out GE171.out⟩⟩
       ·replace c15 := Bool.eq_false_iff.mpr c15
        subst c15
        have H1 : (bH.l0 k1 a0 (decide (t173 ≥ 4)) l1 (l1.length : Int) (wrap64 (x14_1 + 1)) (t173 == 5) false false false false) = some (r1, r2, r3, r4, r5, r6, r7) := by rw [if_neg (show ¬ (false = true) by decide)] at H; exact H
        clear H
        have H := H1
        clear H1
        have H' := Aside0.mk H
        clear H
        have p172 : 0 ≤ (x14_1 : Int) := of_decide_eq_true (by first | (with_reducible assumption) | assumption)
        have q172 : x14_1 < (l1.length : Int) := of_decide_eq_true (by first | (with_reducible assumption) | assumption)
        obtain ⟨ad172, e172, hx172_0⟩ := Kd.at_int HR1.out x14_1 p172 q172
        cases e172
        replace hx172_0 := (HB.out.cell (World.block_lt_of_cell? w _ hx172_0)).trans hx172_0
        replace p172 := eq_true p172
        replace q172 := eq_true q172
        go_wp2_with (first | ((with_reducible refine gate_callee (f := 147) rfl ?_); refine goesL_ (some 20) rfl rfl Tryz.func147 kr rfl #[.int .i64 a0, .int .u32 (rd l1 x14_1)] rfl gl ?_; (with_reducible refine (aY.calls k1 a0 (rd l1 x14_1) t173 _ A8.out).mono ?_); rintro e w' ⟨rfl, ⟨nd, rfl⟩⟩; refine ⟨_, rfl, ?_⟩; (try (rw [drewN_self wr]; generalize hq_ : World.drewN wr _ = wr; have n0_ : Aside0 (wr.heap[gb170]? = some (o5_ false false false false false 62)) := ⟨by rw [← hq_]; exact (bv BK170.out)⟩; have n1_ : Aside0 (wr.heap[gb171]? = some (o5_ false false false false false 62)) := ⟨by rw [← hq_]; exact (bv BK171.out)⟩; have n2_ : Aside0 (Below w.heap.size w wr) := ⟨by rw [← hq_]; exact (bl2 HB.out GE170.out GE171.out)⟩; clear BK170 BK171 HB hq_; have BK170 := n0_; have BK171 := n1_; have HB := n2_; clear n0_ n1_ n2_)); have hnb18 := NB171_170.out; have hnc18 := NB170_171.out; obtain ⟨hcz19_0, hcz19_1, hcz19_2, hcz19_3, hcz19_4⟩ := bc5 BK171.out; obtain ⟨hfz19_0, hfz19_1, hfz19_2, hfz19_3, hfz19_4⟩ := bf5 BK171.out))
        go_roundg k1
        case measure => have := HK1.out; omega
        case rel => exact ⟨(decide (t173 ≥ 4)), (wrap64 (x14_1 + 1)), ((t173 == 5)), (gr_), (gr_), H', ⟨by have := HK1.out; omega⟩, ⟨by (with_reducible repeat first | apply bd | apply be | apply ba); refine blk_far ?_ NB170_171.out _; (with_reducible repeat first | apply bd | apply be | apply ba); exact BK170.out⟩, ⟨by (with_reducible repeat first | apply bd | apply be | apply ba); refine blk_put (cs := F5) ?_ 0 _ rfl; (with_reducible repeat first | apply bd | apply be | apply ba); exact BK171.out⟩, ⟨bl2 HB.out GE170.out GE171.out⟩⟩
     ·rw [if_neg c7] at H
      exact absurd H (by simp)
    ·rw [if_neg c6] at H
     exact absurd H (by simp)
   ·rw [if_neg c5] at H
    have c5b0 : decide (x14_1 < (l1.length : Int)) = false := decide_eq_false c5
    clear c5
    replace H := bq_ H
    obtain ⟨t174, A200, H⟩ := H
    replace H : (some (t174, x172000_1, false, false, false, false, x7_1)) = some (r1, r2, r3, r4, r5, r6, r7) := H
    have A20 := Aside0.mk A200
    clear A200
    simp only [Option.some.injEq, Prod.mk.injEq] at H
    obtain ⟨rfl, rfl, rfl, rfl, rfl, rfl, rfl⟩ := H
    try go_wp2
    have n0_ := Aside0.mk (blk_drew BK170.out)
    have n1_ := Aside0.mk (blk_drew BK171.out)
    have n2_ := Aside0.mk (below_drew1 HB.out)
    clear BK170
    clear BK171
    clear HB
    have BK170 := n0_
    have BK171 := n1_
    have HB := n2_
    clear n0_ n1_ n2_
    refine start_ (n := 7) (S := fun w' => w'.cell? ⟨gb171, 0, none⟩ = some (.bool x172000_1) ∧ w'.cell? ⟨gb171, 1, none⟩ = some (.bool false) ∧ w'.cell? ⟨gb171, 2, none⟩ = some (.bool false) ∧ w'.cell? ⟨gb171, 3, none⟩ = some (.bool false) ∧ w'.cell? ⟨gb171, 4, none⟩ = some (.bool false)) (ds := []) (tf 0 7) kr rfl rfl ⟨(blk_cell BK171.out 0).trans rfl, (blk_cell BK171.out 1).trans rfl, (blk_cell BK171.out 2).trans rfl, (blk_cell BK171.out 3).trans rfl, (blk_cell BK171.out 4).trans rfl⟩ (fun hHeld => ?_)
    generalize wr.drew = w21 at BK170 BK171 HB hHeld ⊢
    refine pure_ (i := 0) (N := some 34) (v := ?_) (a' := ?_) (tf 1 6) rfl rfl kr (fun _ _ _ h => h) (Or.inl ⟨by rfl, ?_⟩) ?_ ?_
    rotate_left
    ·intro w'
     go_simp
     with_reducible rfl
    rotate_left
    ·simp only [Act.put, sb, sz, ss, i64_w, i32_w]
     rfl
    refine pure_ (i := 3) (N := some 37) (v := ?_) (a' := ?_) #[true, false, false, true, false, false, false] rfl rfl kr (fun _ _ _ h => h) (Or.inl ⟨by rfl, ?_⟩) ?_ ?_
    rotate_left
    ·intro w'
     go_simp
     with_reducible rfl
    rotate_left
    ·simp only [Act.put, sb, sz, ss, i64_w, i32_w]
     rfl
    refine take_ (i := 2) (N := some 36) (v := ?_) (a' := ?_) #[true, false, true, true, false, false, false] rfl rfl kr (fun _ _ _ h => h) (Or.inl ⟨by rfl, ?_⟩) hHeld ?_ ?_
    rotate_left
    ·rintro w' ⟨s0, s1, s2, s3, s4⟩
     go_simp
     with_reducible rfl
    rotate_left
    ·simp only [Act.put, sb, sz, ss, i64_w, i32_w]
     rfl
    refine one_ (i := 1) (N := some 35) (tf 4 3) rfl rfl kr (by decide) (fun K hK => ?_)
    refine goes_ Tryz.func170 kr rfl #[.int .i64 a0] (by rfl) rfl rfl gl ?_
    with_reducible refine (iP.calls a0 t174 _ A20.out).mono ?_
    rintro e w' ⟨rfl, ⟨nd, rfl⟩⟩
    refine ⟨_, rfl, ?_⟩
    refine hK.out _ _ ⟨(blk_cell BK171.out 0).trans rfl, (blk_cell BK171.out 1).trans rfl, (blk_cell BK171.out 2).trans rfl, (blk_cell BK171.out 3).trans rfl, (blk_cell BK171.out 4).trans rfl⟩ (fun hHeld => ?_)
    clear hK K
    refine norm_ (a' := ?_) ?_ ?_
    rotate_left
    ·show Act.put _ (some 35) _ = _
     simp only [Act.put, sb, sz, ss, i64_w, i32_w]
     rfl
    refine pure_ (i := 4) (N := some 4) (v := ?_) (a' := ?_) (tf 5 2) rfl rfl kr (fun _ _ _ h => h) (Or.inl ⟨by rfl, ?_⟩) ?_ ?_
    rotate_left
    ·intro w'
     go_simp
     with_reducible rfl
    rotate_left
    ·simp only [Act.put, sb, sz, ss, i64_w, i32_w]
     rfl
    refine one_ (i := 5) (N := none) (tf 6 1) rfl rfl kr (by decide) (fun K hK => ?_)
    have hs22 : w21.cell? ⟨gb170, 0, none⟩ = some (.bool false) := (blk_cell BK170.out 0).trans rfl
    have hfs22 := blk_frozen BK170.out 0
    have hns22_1 := NB171_170.out
    have hms22_1 := NB170_171.out
    have hs23 : w21.cell? ⟨gb170, 1, none⟩ = some (.bool false) := (blk_cell BK170.out 1).trans rfl
    have hfs23 := blk_frozen BK170.out 1
    have hns23_1 := NB171_170.out
    have hms23_1 := NB170_171.out
    have hs24 : w21.cell? ⟨gb170, 2, none⟩ = some (.bool false) := (blk_cell BK170.out 2).trans rfl
    have hfs24 := blk_frozen BK170.out 2
    have hns24_1 := NB171_170.out
    have hms24_1 := NB170_171.out
    have hs25 : w21.cell? ⟨gb170, 3, none⟩ = some (.bool false) := (blk_cell BK170.out 3).trans rfl
    have hfs25 := blk_frozen BK170.out 3
    have hns25_1 := NB171_170.out
    have hms25_1 := NB170_171.out
    have hs26 : w21.cell? ⟨gb170, 4, none⟩ = some (.bool false) := (blk_cell BK170.out 4).trans rfl
    have hfs26 := blk_frozen BK170.out 4
    have hns26_1 := NB171_170.out
    have hms26_1 := NB170_171.out
    refine skip_ (w1 := ?_) (by rfl) rfl ?_ ?_
    rotate_left
    ·go_simp
     rfl
    refine hK.out _ _ ⟨(cf5 NB171_170.out (hHeld.1)), (cf5 NB171_170.out (hHeld.2.1)), (cf5 NB171_170.out (hHeld.2.2.1)), (cf5 NB171_170.out (hHeld.2.2.2.1)), (cf5 NB171_170.out (hHeld.2.2.2.2))⟩ (fun hHeld => ?_)
    clear hK K
    refine pure_ (i := 6) (N := some 6) (v := ?_) (a' := ?_) (tf 7 0) rfl rfl kr (fun _ _ _ h => h) (Or.inl ⟨by rfl, ?_⟩) ?_ ?_
    rotate_left
    ·intro w'
     go_simp
     with_reducible rfl
    rotate_left
    ·simp only [Act.put, sb, sz, ss, i64_w, i32_w]
     rfl
    refine done_ kr ?_
    try go_wp2
    refine bodyPost_ret (results_list (rs := [.tmp 4, .cell 5 62, .tmp 6]) rfl (by simp) (.tmp (.cell gb170 62 #[.bool x172000_1, .bool false, .bool false, .bool false, .bool false] (0, 0) _ rfl (by (with_reducible repeat first | apply bd | apply be | apply ba); refine blk_put (cs := q5_ x172000_1 false false false false) ?_ 4 _ rfl; (with_reducible repeat first | apply bd | apply be | apply ba); refine blk_put (cs := q5_ x172000_1 false false false false) ?_ 3 _ rfl; (with_reducible repeat first | apply bd | apply be | apply ba); refine blk_put (cs := q5_ x172000_1 false false false false) ?_ 2 _ rfl; (with_reducible repeat first | apply bd | apply be | apply ba); refine blk_put (cs := q5_ x172000_1 false false false false) ?_ 1 _ rfl; (with_reducible repeat first | apply bd | apply be | apply ba); refine blk_put (cs := F5) ?_ 0 _ rfl; (with_reducible repeat first | apply bd | apply be | apply ba); exact BK170.out) Tryz.underlying62 rfl kr (.tmp .nil)))) rfl ?_
    exact ⟨by first | rfl | (simp [eG, eO] <;> rfl) | (simp [*, eG, eO] <;> rfl), bl2 HB.out GE170.out GE171.out⟩
def dG.f (a0 a1 : Int) : Option (Bool × Int × Int) := (bJ.f a0).bind fun bt175 => ((eT.f a0 a1).bind fun bt177 => (if bt177.2.1 = 0 then ((dX.f a0).bind fun t180 => (some (bt177.1, wrap64 (t180 - bt175.2), IntKind.u64.wrap (bt177.2.2)))) else ((dY.f a0).bind fun t181 => (if bt177.2.1 = t181 then (some (bt177.1, 0, 0)) else ((dX.f a0).bind fun t182 => (if 0 ≤ (IntKind.u64.wrap (bt175.2)) then (some (bt177.1, wrap64 ((wrap64 ((wrap64 (t182 - bt175.2)) + bt177.2.1)) - 1), Go.bits .or .u64 (IntKind.u64.wrap (bt177.2.2)) (shl .u64 1 (IntKind.u64.wrap (bt175.2))))) else (none)))))))
theorem LeO.fT {α : Type} {c d : Prop} [Decidable c] [Decidable d] (e : c ↔ d) {a a' b b' : Option α} (h : c → LeO a a') (k : ¬ c → LeO b b') : LeO (if c then a else b) (if d then a' else b') := by
 by_cases x : c
 ·rw [if_pos x, if_pos (e.mp x)]; exact h x
 ·rw [if_neg x, if_neg (fun y => x (e.mpr y))]; exact k x
theorem LeO.pos {α : Type} {c : Prop} [Decidable c] (x : c) {a b b' : Option α} (h : LeO a b) : LeO a (if c then b else b') := by rw [if_pos x]; exact h
theorem LeO.neg {α : Type} {c : Prop} [Decidable c] (x : ¬ c) {a b b' : Option α} (h : LeO a b') : LeO a (if c then b else b') := by rw [if_neg x]; exact h
theorem LeO.jT {α : Type} {c : Prop} [Decidable c] (x : c) {a b b' : Option α} (h : LeO b a) : LeO (if c then b else b') a := by rw [if_pos x]; exact h
theorem LeO.jW {α : Type} {c : Prop} [Decidable c] (x : ¬ c) {a b b' : Option α} (h : LeO b' a) : LeO (if c then b else b') a := by rw [if_neg x]; exact h
theorem LeO.swap {α β : Type} {c : Prop} [Decidable c] {X : Option α} {f : α → Option β} : LeO (X.bind fun t => if c then f t else none) (if c then X.bind f else none) := by
 by_cases x : c
 ·simp only [if_pos x]; exact LeO.refl _
 ·simp only [if_neg x]
  intro r h
  cases X <;> cases h
end P
namespace Ek
abbrev cnd {α : Type _} (b : Bool) (t e : α) : α := match b with
 |true => t
 |false => e
inductive IE where
 |l (n : Int)
 |x (n : Int)
def IE.d : IE → Int
 |.l n => n
 |.x n => n
inductive BE where
 |tt | ff
 |q (b : Bool)
 |lt (x y : Int)
 |le (x y : Int)
 |eq (x y : Int)
 |no (b : BE)
def BE.d : BE → Bool
 |.tt => true
 |.ff => false
 |.q b => b
 |.lt x y => decide (x < y)
 |.le x y => decide (x ≤ y)
 |.eq x y => x == y
 |.no b => !b.d
def BE.ite {α : Type _} : BE → α → α → α
 |.tt, t, _ => t
 |.ff, _, e => e
 |.q b, t, e => if b = true then t else e
 |.lt x y, t, e => if x < y then t else e
 |.le x y, t, e => if x ≤ y then t else e
 |.eq x y, t, e => if x = y then t else e
 |.no b, t, e => b.ite e t
def BE.neg : BE → BE
 |.tt => .ff
 |.ff => .tt
 |.no b => b
 |b => .no b
def BE.lit (b : Bool) : BE := cnd (b) (.tt) <| .ff
inductive C where
 |i (k : IntKind) (x : IE)
 |b (x : BE)
 |p (g o : Nat)
 |pd (g o : Nat) (i : Int) (n : Nat)
 |sl (g o n c : Nat)
inductive S where
 |c (c : C)
 |a (k : IntKind) (xs : List Int) (n : Nat)
def S.len : S → Nat
 |.c _ => 1
 |.a _ _ n => n
inductive PV where
 |one (c : C)
 |agg (ss : List S)
inductive SV where
 |pv (v : PV)
 |tup (vs : List PV)
 |und
def look {α : Type _} : List (Nat × α) → Nat → Option α
 |[], _ => none
 |(k, v) :: r, t => cnd (Nat.beq k t) (some v) <| look r t
def upd {α : Type _} : List (Nat × α) → Nat → α → List (Nat × α)
 |[], _, _ => []
 |(k, v) :: r, t, u => cnd (Nat.beq k t) ((k, u) :: r) <| (k, v) :: upd r t u
structure St where
 env : List (Nat × SV)
 heap : List (Nat × Nat × List S)
 next : Nat
abbrev St.put (s : St) (d : Option Nat) (v : SV) : St := match d with
 |some d => ⟨(d, v) :: s.env, s.heap, s.next⟩
 |none => s
def uG : Value → Option S
 |.int k n => some (.c (.i k (.l n)))
 |.bool b => some (.c (.b (.lit b)))
 |_ => none
def mQ : List Value → Option (List S)
 |[] => some []
 |v :: r => match uG v, mQ r with
  |some c, some cs => some (c :: cs)
  |_, _ => none
def ofV : Value → Option SV
 |.int k n => some (.pv (.one (.i k (.l n))))
 |.bool b => some (.pv (.one (.b (.lit b))))
 |.agg cs => match mQ cs.toList with
  |some ss => some (.pv (.agg ss))
  |none => none
 |_ => none
def ev (env : List (Nat × SV)) : Operand → Option SV
 |.tmp t => look env t
 |.const v => ofV v
 |_ => none
def evs (env : List (Nat × SV)) : List Operand → Option (List PV)
 |[] => some []
 |x :: r => match ev env x, evs env r with
  |some (.pv v), some vs => some (v :: vs)
  |_, _ => none
def pW : List S → Nat → Option (List S × List S)
 |[], m => cnd (Nat.beq m 0) (some ([], [])) <| none
 |s :: r, m => cnd (Nat.beq m 0) (some ([], s :: r)) <|     cnd (Nat.ble s.len m) ((match pW r (m - s.len) with
   |some (a, b) => some (s :: a, b)
   |none => none)) <| none
def qG : List S → Nat
 |[] => 0
 |s :: r => s.len + qG r
def sub (ss : List S) (o n : Nat) : Option (List S) := match pW ss o with
 |some (_, r) => match pW r n with
  |some (a, _) => some a
  |none => none
 |none => none
def cellAt : List S → Nat → Option C
 |[], _ => none
 |.c c :: r, o => cnd (Nat.beq o 0) (some c) <| cellAt r (o - 1)
 |.a k xs n :: r, o => cnd (Nat.blt o n) (some (.i k (.x (rd xs (Int.ofNat o))))) <| cellAt r (o - n)
def setAt : List S → Nat → C → Option (List S)
 |[], _, _ => none
 |.c c :: r, o, u => cnd (Nat.beq o 0) (some (.c u :: r)) <| (match setAt r (o - 1) u with
  |some r' => some (.c c :: r')
  |none => none)
 |.a k xs n :: r, o, u => cnd (Nat.blt o n) ((match u with
   |.i k' v => cnd (decide (k' = k)) (some (.a k (xs.set o v.d) n :: r)) <| none
   |_ => none)) <| (match setAt r (o - n) u with
   |some r' => some (.a k xs n :: r')
   |none => none)
def vM : List S → Nat → Option (IntKind × List Int × Nat)
 |[], _ => none
 |.c _ :: r, o => cnd (Nat.beq o 0) (none) <| vM r (o - 1)
 |.a k xs n :: r, o => cnd (Nat.beq o 0) (some (k, xs, n)) <| cnd (Nat.ble n o) (vM r (o - n)) <| none
def mH : List S → Nat → List Int → List S
 |[], _, _ => []
 |.c c :: r, o, ys => .c c :: (cnd (Nat.beq o 0) (r) <| mH r (o - 1) ys)
 |.a k xs n :: r, o, ys => cnd (Nat.beq o 0) (.a k ys n :: r) <| .a k xs n :: mH r (o - n) ys
def aAz (ss : List S) (o : Nat) (new : List S) : Option (List S) := match pW ss o with
 |some (a, r) => match pW r (qG new) with
  |some (_, b) => some (a ++ (new ++ b))
  |none => none
 |none => none
def iW (k : IntKind) (n : Int) : Int := match k with
 |.i64 => wrap64 n
 |.i32 => wrap32 n
 |.u32 => n % 4294967296
 |.u8 => n % 256
 |k => k.wrap n
def IE.mk2 (a b : IE) (n : Int) : IE := match a, b with
 |.l _, .l _ => .l n
 |_, _ => .x n
def IE.cmp (a b : IE) (e : BE) : BE := match a, b with
 |.l _, .l _ => .lit e.d
 |_, _ => e
def IE.nz (a : IE) : BE := match a with
 |.l n => .lit (n == 0)
 |.x n => .eq n 0
def IE.ge0 (a : IE) : BE := match a with
 |.l n => .lit (decide (0 ≤ n))
 |.x n => .le 0 n
def binI {R : Type} (op : BinOp) (k : IntKind) (k' : IntKind) (a b : IE) (K : C → Option R) : Option R := match op with
 |.shl => b.ge0.ite (K (.i k (IE.mk2 a b (shl k a.d b.d)))) none
 |.shr => b.ge0.ite (K (.i k (IE.mk2 a b (shr k a.d b.d)))) none
 |op => cnd (decide (k = k')) ((match op with
  |.add => K (.i k (IE.mk2 a b (iW k (a.d + b.d))))
  |.sub => K (.i k (IE.mk2 a b (iW k (a.d - b.d))))
  |.mul => K (.i k (IE.mk2 a b (iW k (a.d * b.d))))
  |.quo => b.nz.ite none (K (.i k (IE.mk2 a b (iW k (Int.tdiv a.d b.d)))))
  |.rem => b.nz.ite none (K (.i k (IE.mk2 a b (Int.tmod a.d b.d))))
  |.and => K (.i k (IE.mk2 a b (Go.bits .and k a.d b.d)))
  |.or => K (.i k (IE.mk2 a b (Go.bits .or k a.d b.d)))
  |.xor => K (.i k (IE.mk2 a b (Go.bits .xor k a.d b.d)))
  |.andNot => K (.i k (IE.mk2 a b (Go.bits .andNot k a.d b.d)))
  |.eql => K (.b (IE.cmp a b (.eq a.d b.d)))
  |.neq => K (.b (IE.cmp a b (.eq a.d b.d)).neg)
  |.lss => K (.b (IE.cmp a b (.lt a.d b.d)))
  |.leq => K (.b (IE.cmp a b (.le a.d b.d)))
  |.gtr => K (.b (IE.cmp a b (.lt b.d a.d)))
  |.geq => K (.b (IE.cmp a b (.le b.d a.d)))
  |_ => none)) <| none
def eqB (a b : BE) : BE := match a, b with
 |.tt, b => b
 |.ff, b => b.neg
 |a, .tt => a
 |a, .ff => a.neg
 |a, b => .q (a.d == b.d)
def wN (k : IntKind) : List S → Option (List Int)
 |[] => some []
 |.c (.i k' x) :: r => match wN k r with
  |some xs => cnd (decide (k' = k)) (some (x.d :: xs)) <| none
  |none => none
 |.a k' xs _ :: r => match wN k r with
  |some ys => cnd (decide (k' = k)) (some (xs ++ ys)) <| none
  |none => none
 |_ => none
section
variable (P : Program)
def lay : Nat → Nat → Option (List S)
 |0, _ => none
 |d + 1, t => match P.underlying t with
  |some (.int k) => some [.c (.i k (.l 0))]
  |some .bool => some [.c (.b .ff)]
  |some (.struct fs) => fs.toList.foldr (fun f r => match lay d f.type, r with
   |some a, some b => some (a ++ b)
   |_, _ => none) (some [])
  |some (.array n e) => match P.underlying e with
   |some (.int k) => some [.a k (List.replicate n 0) n]
   |_ => none
  |_ => none
def isLit : S → List Value → Option (List Value)
 |.c (.i k (.l n)), .int k' n' :: r => cnd (decide (k = k') && (n == n')) (some r) <| none
 |.c (.b .ff), .bool false :: r => some r
 |.a k xs n, vs => go k xs n vs
 |_, _ => none
 where go (k : IntKind) : List Int → Nat → List Value → Option (List Value)
 |[], 0, vs => some vs
 |x :: xs, n + 1, .int k' y :: vs => cnd (decide (k = k') && (x == y)) (go k xs n vs) <| none
 |_, _, _ => none
def aAF : List S → List Value → Bool
 |[], [] => true
 |s :: r, vs => match isLit s vs with
  |some q => aAF r q
  |none => false
 |_, _ => false
def oN (t : Nat) : Option (List S) := match P.info? t with
 |some i => match i.zero with
  |some v => match lay P 8 t with
   |some ss => cnd (aAF ss v.cells.toList) (some ss) <| none
   |none => none
  |none => none
 |none => none
def jV (t : Nat) : Option Bool := match P.underlying t with
 |some (.struct _) => some true
 |some (.array _ _) => some true
 |some _ => some false
 |none => none
def jH (t : Nat) : Option Nat := match P.info? t with
 |some i => some i.size
 |none => none
def sH (t : Nat) (ss : List S) (o : Nat) : Option PV := match jV P t, jH P t with
 |some true, some n => match sub ss o n with
  |some r => some (.agg r)
  |none => none
 |some false, some _ => match cellAt ss o with
  |some c => some (.one c)
  |none => none
 |_, _ => none
def eqF : List Field → Nat → List S → List S → Option Bool
 |[], _, a, b => match a, b with
  |[], [] => some true
  |_, _ => none
 |f :: fs, i, a, b => match a, b with
  |.c (.i k x) :: r, .c (.i k' y) :: q => match P.underlying f.type with
   |some (.int _) => match eqF fs (i + 1) r q with
    |some t => cnd ((f.name != "_") && Nat.beq f.offset i && decide (k = k')) (some ((x.d == y.d) && t)) <| none
    |none => none
   |_ => none
  |.c (.b x) :: r, .c (.b y) :: q => match P.underlying f.type with
   |some .bool => match eqF fs (i + 1) r q with
    |some t => cnd ((f.name != "_") && Nat.beq f.offset i) (some ((x.d == y.d) && t)) <| none
    |none => none
   |_ => none
  |_, _ => none
def eqT (t : Nat) (a b : List S) : Option Bool := match P.underlying t with
 |some (.struct fs) => cnd (!P.stoodInHeld t && !P.eqGuardType P.depth t) (eqF P fs.toList 0 a b) <| none
 |some (.array n e) => match P.underlying e, jH P e with
  |some (.int k), some 1 => cnd (!P.eqGuardType P.depth t) ((match wN k a, wN k b with
   |some xs, some ys => cnd (Nat.beq (qG a) n && Nat.beq (qG b) n) (some (xs == ys)) <| none
   |_, _ => none)) <| none
  |_, _ => none
 |_ => none
def pM (env : List (Nat × SV)) (places : List (Nat × Nat)) : List S → List (Nat × Operand) → Option (List S)
 |ss, [] => some ss
 |ss, (j, x) :: r => match places[j]?, ev env x with
  |some (o, 1), some (.pv (.one c)) => match setAt ss o c with
   |some ss' => pM env places ss' r
   |none => none
  |some (o, n), some (.pv (.agg new)) => cnd (Nat.beq n (qG new)) ((match aAz ss o new with
   |some ss' => pM env places ss' r
   |none => none)) <| none
  |_, _ => none
def sJ {R : Type} (op : Op) (env : List (Nat × SV)) (K : SV → Option R) : Option R := match op with
 |.move x => match ev env x with
  |some v => K v
  |none => none
 |.assign x => match ev env x with
  |some v => K v
  |none => none
 |.pick c a b => match ev env c with
  |some (.pv (.one (.b e))) => e.ite (match ev env a with
    |some v => K v
    |none => none) (match ev env b with
    |some v => K v
    |none => none)
  |_ => none
 |.binOp op t x y _ => match ev env x, ev env y with
  |some (.pv (.one (.i k a))), some (.pv (.one (.i k' b))) => binI op k k' a b (fun c => K (.pv (.one c)))
  |some (.pv (.one (.b a))), some (.pv (.one (.b b))) => match P.underlying t with
   |some .bool => match op with
    |.eql => K (.pv (.one (.b (eqB a b))))
    |.neq => K (.pv (.one (.b (eqB a b).neg)))
    |_ => none
   |_ => none
  |some (.pv (.agg a)), some (.pv (.agg b)) => match eqT P t a b with
   |some e => match op with
    |.eql => K (.pv (.one (.b (.q e))))
    |.neq => K (.pv (.one (.b (.no (.q e)))))
    |_ => none
   |none => none
  |_, _ => none
 |.unOp op _ x => match op, ev env x with
  |.neg, some (.pv (.one (.i k a))) => K (.pv (.one (.i k (IE.mk2 a a (iW k (-a.d))))))
  |.xor, some (.pv (.one (.i k a))) => K (.pv (.one (.i k (IE.mk2 a a (Go.bits .xor k (if k.signed then -1 else k.max) a.d)))))
  |.not, some (.pv (.one (.b a))) => K (.pv (.one (.b a.neg)))
  |_, _ => none
 |.convert s t x => match P.underlying s, P.underlying t, ev env x with
  |some _, some (.int k), some (.pv (.one (.i _ a))) => K (.pv (.one (.i k (IE.mk2 a a (iW k a.d)))))
  |_, _, _ => none
 |.fieldAddr t x f => match P.underlying t, ev env x with
  |some (.struct fs), some (.pv (.one (.p g o))) => match fs[f]? with
   |some fd => match jH P fd.type with
    |some (_ + 1) => K (.pv (.one (.p g (o + fd.offset))))
    |_ => none
   |none => none
  |_, _ => none
 |.field t x f => match P.underlying t, ev env x with
  |some (.struct fs), some (.pv (.agg ss)) => match fs[f]? with
   |some fd => match sH P fd.type ss fd.offset with
    |some v => K (.pv v)
    |none => none
   |none => none
  |_, _ => none
 |.indexAddr t x i => match P.underlying t, ev env x, ev env i with
  |some (.array n e), some (.pv (.one (.p g o))), some (.pv (.one (.i _ (.l j)))) => match jH P e with
   |some z => cnd (decide (0 ≤ j) && decide (j < (n : Int))) (K (.pv (.one (.p g (o + j.toNat * z))))) <| none
   |none => none
  |some (.array n e), some (.pv (.one (.p g o))), some (.pv (.one (.i _ (.x j)))) => match jH P e with
   |some 1 => if 0 ≤ j then (if j < (n : Int) then K (.pv (.one (.pd g o j n))) else none) else none
   |_ => none
  |some (.slice e), some (.pv (.one (.sl g o n _))), some (.pv (.one (.i _ j))) => match jH P e with
   |some 1 => if 0 ≤ j.d then (if j.d < (n : Int) then K (.pv (.one (.pd g o j.d n))) else none) else none
   |_ => none
  |_, _, _ => none
 |.index t x i => match P.underlying t, ev env x, ev env i with
  |some (.array n e), some (.pv (.agg ss)), some (.pv (.one (.i _ j))) => match jV P e, ss with
   |some false, [.a k xs m] => cnd (Nat.beq m n) ((match jH P e with
     |some 1 => if 0 ≤ j.d then (if j.d < (n : Int) then K (.pv (.one (.i k (.x (rd xs j.d))))) else none) else none
     |_ => none)) <| none
   |_, _ => none
  |_, _, _ => none
 |.extract x i => match ev env x with
  |some (.tup vs) => match vs[i]? with
   |some v => K (.pv v)
   |none => none
  |_ => none
 |.nilCheck x => match ev env x with
  |some (.pv (.one (.p g o))) => K (.pv (.one (.p g o)))
  |_ => none
 |.build t ps => match P.underlying t, oN P t with
  |some (.struct fs), some ss => match fs.toList.mapM (fun f => (P.info? f.type).map fun i => (f.offset, i.size)) with
   |some places => match pM env places ss ps.toList with
    |some ss => K (.pv (.agg ss))
    |none => none
   |none => none
  |some (.array n e), some ss => match P.info? e with
   |some ie => match pM env ((List.range n).map fun i => (i * ie.size, ie.size)) ss ps.toList with
    |some ss => K (.pv (.agg ss))
    |none => none
   |none => none
  |_, _ => none
 |.call { callee := .builtin .len, args, argTypes } => match argTypes[0]?, args[0]? with
  |some t, some x => match P.underlying t, ev env x with
   |some (.slice _), some (.pv (.one (.sl _ _ n _))) => K (.pv (.one (.i .i64 (.x (n : Int)))))
   |_, _ => none
  |_, _ => none
 |.call { callee := .builtin .min, args, .. } => match evs env args.toList with
  |some [.one (.i k a), .one (.i k' b)] => cnd (decide (k = k')) (K (.pv (.one (.i k (IE.mk2 a b (mn a.d b.d)))))) <| none
  |_ => none
 |.call { callee := .builtin .max, args, .. } => match evs env args.toList with
  |some [.one (.i k a), .one (.i k' b)] => cnd (decide (k = k')) (K (.pv (.one (.i k (IE.mk2 a b (mx a.d b.d)))))) <| none
  |_ => none
 |_ => none
structure Fc where
 run : (R : Type) → Nat → List (Nat × Nat × List S) → List PV → (SV → Option R) → Option R
abbrev Cls := List (Nat × Fc)
def PV.segs : PV → List S
 |.one c => [.c c]
 |.agg ss => ss
def sF (t : Nat) (heap : List (Nat × Nat × List S)) : C → Option PV
 |.p g o => match look heap g with
  |some (_, ss) => sH P t ss o
  |none => none
 |.pd g o i n => match jV P t, look heap g with
  |some false, some (_, ss) => match vM ss o with
   |some (k, xs, m) => cnd (Nat.beq m n) (some (.one (.i k (.x (rd xs i))))) <| none
   |none => none
  |_, _ => none
 |_ => none
def aDb (t : Nat) (heap : List (Nat × Nat × List S)) (v : PV) : C → Option (List (Nat × Nat × List S))
 |.p g o => match look heap g, jH P t, v with
  |some (e, ss), some 1, .one c => match setAt ss o c with
   |some ss' => some (upd heap g (e, ss'))
   |none => none
  |some (e, ss), some n, .agg new => cnd (Nat.beq n (qG new)) ((match aAz ss o new with
   |some ss' => some (upd heap g (e, ss'))
   |none => none)) <| none
  |_, _, _ => none
 |.pd g o i n => match look heap g, jH P t, v with
  |some (e, ss), some 1, .one (.i k x) => match vM ss o with
   |some (k', xs, m) => cnd (Nat.beq m n && decide (k = k')) (some (upd heap g (e, mH ss o (xs.set i.toNat x.d)))) <| none
   |none => none
  |_, _, _ => none
 |_ => none
def ints (k : IntKind) : List PV → Option (List Int)
 |[] => some []
 |.one (.i k' x) :: r => match ints k r with
  |some xs => cnd (decide (k' = k)) (some (x.d :: xs)) <| none
  |none => none
 |_ => none
variable (nt : Nat) (cl : Cls)
def okD (nt : Nat) : Option Nat → Bool
 |some d => Nat.blt d nt
 |none => true
def aCY {R : Type} (n : Nat) (o : Oper) (s : St) (K : St → Option R) : Option R := cnd (okD nt o.dst) ((match o.op with
 |.alloc t => match oN P t with
  |some ss => K ⟨match o.dst with
   |some d => (d, .pv (.one (.p s.next 0))) :: s.env
   |none => s.env, (s.next, t, ss) :: s.heap, s.next + 1⟩
  |none => none
 |.box t x => match ev s.env x with
  |some (.pv v) => K ⟨match o.dst with
   |some d => (d, .pv (.one (.p s.next 0))) :: s.env
   |none => s.env, (s.next, t, v.segs) :: s.heap, s.next + 1⟩
  |_ => none
 |.load t x => match ev s.env x with
  |some (.pv (.one c)) => match sF P t s.heap c with
   |some v => K (s.put o.dst (.pv v))
   |none => none
  |_ => none
 |.store t x y => match ev s.env x, ev s.env y with
  |some (.pv (.one c)), some (.pv v) => match aDb P t s.heap v c with
   |some h => K ((⟨s.env, h, s.next⟩ : St).put o.dst .und)
   |none => none
  |_, _ => none
 |.buildSlice t len ps => match P.underlying t, evs s.env (ps.toList.map (·.2)) with
  |some (.slice e), some vs => match P.underlying e, oN P e with
   |some (.int k), some [.c (.i k' (.l 0))] => match ints k vs with
    |some xs => cnd (decide (k = k') && (ps.toList.map (·.1) == List.range len) && Nat.ble len 1000 && Nat.blt 0 len && (match jH P e with
      |some 1 => true
      |_ => false)) (K ⟨match o.dst with
      |some d => (d, .pv (.one (.sl s.next 0 len len))) :: s.env
      |none => s.env, (s.next, e, [.a k xs len]) :: s.heap, s.next + 1⟩) <| none
    |none => none
   |_, _ => none
  |_, _ => none
 |.call { callee := .value (.func f), args, .. } => match look cl f, evs s.env args.toList with
  |some c, some vs => c.run R n s.heap vs (fun v => K (s.put o.dst v))
  |_, _ => none
 |op => sJ P op s.env (fun v => K (s.put o.dst v)))) <| none
def guarded {R : Type} (ops : Array Oper) (o : Oper) (s : St) (yes : St → Option R) (no : St → Option R) : Option R := match o.guard with
 |none => yes s
 |some (j, want) => match (ops[j]?).bind (·.dst) with
  |none => none
  |some t => match look s.env t with
   |some .und => no s
   |some (.pv (.one (.b e))) => e.ite (cnd (want) (yes ⟨(t, .pv (.one (.b .tt))) :: s.env, s.heap, s.next⟩) <| no ⟨(t, .pv (.one (.b .tt))) :: s.env, s.heap, s.next⟩)
     (cnd (want) (no ⟨(t, .pv (.one (.b .ff))) :: s.env, s.heap, s.next⟩) <| yes ⟨(t, .pv (.one (.b .ff))) :: s.env, s.heap, s.next⟩)
   |_ => none
def jS {R : Type} (o : Oper) (s : St) (K : St → Option R) : Option R := cnd (okD nt o.dst) (K (s.put o.dst .und)) <| none
def uC {R : Type} (n : Nat) (ops : Array Oper) : List Oper → St → (St → Option R) → Option R
 |[], s, K => K s
 |o :: r, s, K => guarded ops o s (fun s => aCY P nt cl n o s (fun s => uC n ops r s K)) (fun s => jS nt o s (fun s => uC n ops r s K))
def o9 : Op → Bool
 |.move _ | .assign _ | .pick .. | .binOp .. | .unOp .. | .convert .. | .fieldAddr .. | .field .. | .indexAddr .. | .index .. | .extract .. | .nilCheck _ | .build .. => true
 |.call { callee := .builtin .len, .. } => true
 |.call { callee := .builtin .min, .. } => true
 |.call { callee := .builtin .max, .. } => true
 |_ => false
def isLoad : Op → Bool
 |.load .. => true
 |_ => false
def iV : Op → Bool
 |.store .. => true
 |_ => false
def pE (ops : Array Oper) (i : Nat) : Bool := match ops[i]? with
 |some o => o9 o.op
 |none => false
def loadAt (ops : Array Oper) (i : Nat) : Bool := match ops[i]? with
 |some o => isLoad o.op
 |none => false
def dN (ops : Array Oper) : List Nat := (List.range ops.size).filter fun i => match ops[i]? with
 |some o => iV o.op
 |none => false
def masks (T : List (List Nat × List Nat)) : List Nat := T.foldl (fun acc r => acc ++ [upM acc acc.length r.1]) []
def jN {R : Type} (n : Nat) (ops : Array Oper) (T : Bool × List (List Nat × List Nat)) (B : List Nat) (ds : List Nat) (heap0 : List (Nat × Nat × List S)) : Nat → List Bool → St → (St → Option R) → Option R
 |0, l, s, K => match readyT T.2 l with
  |[] => K s
  |_ => none
 |f + 1, l, s, K => match readyT T.2 l with
  |[] => K s
  |rs => match rs.find? (fun i => pE ops i && anyT T l (l.set i true) i) with
   |some i => match ops[i]? with
    |some o => guarded ops o s (fun s => cnd (okD nt o.dst) (sJ P o.op s.env (fun v => jN n ops T B ds heap0 f (l.set i true) (s.put o.dst v) K)) <| none) (fun s => jS nt o s (fun s => jN n ops T B ds heap0 f (l.set i true) s K))
    |none => none
   |none => match rs.find? (fun i => loadAt ops i && takeW T B ds l (l.set i true) i && ds.all (fun d => !(l.getD d true))) with
    |some i => match ops[i]? with
     |some o => guarded ops o s (fun s => cnd (okD nt o.dst) ((match o.op with
       |.load t x => match ev s.env x with
        |some (.pv (.one c)) => match sF P t heap0 c with
         |some v => jN n ops T B ds heap0 f (l.set i true) (s.put o.dst (.pv v)) K
         |none => none
        |_ => none
       |_ => none)) <| none) (fun s => jS nt o s (fun s => jN n ops T B ds heap0 f (l.set i true) s K))
     |none => none
    |none => match rs with
     |[i] => match ops[i]? with
      |some o => guarded ops o s (fun s => aCY P nt cl n o s (fun s => jN n ops T B ds heap0 f (l.set i true) s K)) (fun s => jS nt o s (fun s => jN n ops T B ds heap0 f (l.set i true) s K))
      |none => none
     |_ => none
def z8 {R : Type} (n : Nat) (ops : Array Oper) (draw : Bool) (s : St) (K : St → Option R) : Option R := match draw with
 |false => uC P nt cl n ops ops.toList s K
 |true => cnd (P.follows .mixedOrders && waitsOk (rtab .any ops).2 (masks (rtab .any ops).2)) (jN P nt cl n ops (rtab .any ops) (masks (rtab .any ops).2) (dN ops) s.heap ops.size (List.replicate ops.size false) s K) <| none
def bit (t : Nat) : Nat := 2 ^ t
def onB (m t : Nat) : Nat := Nat.lor m (bit t)
def offB (m t : Nat) : Nat := Nat.xor m (Nat.land m (bit t))
def opdsB : List Operand → Nat → Nat
 |[], m => m
 |.tmp t :: r, m => opdsB r (onB m t)
 |_ :: r, m => opdsB r m
def lvOps (ops : Array Oper) : List Oper → Nat → Nat
 |[], m => m
 |o :: r, m =>
  let m := lvOps ops r m
  let m := match o.dst with
   |some d => offB m d
   |none => m
  let m := opdsB o.op.operands.toList m
  match o.guard with
  |some (j, _) => match (ops[j]?).bind (·.dst) with
   |some t => onB m t
   |none => m
  |none => m
def lvC (rm : Nat) : Code → Nat → List (Nat × Nat) → Nat
 |.skip, m, _ => m
 |.region _ ops _, m, _ => lvOps ops ops.toList m
 |.seq a b, m, ex => lvC rm a (lvC rm b m ex) ex
 |.cond c a b, m, ex => opdsB [c] (Nat.lor (lvC rm a m ex) (lvC rm b m ex))
 |.block id c, m, ex => lvC rm c m ((id, m) :: ex)
 |.loop c, _, ex => lvC rm c 0 ex
 |.exit id, _, ex => (look ex id).getD 0
 |.ret, _, _ => rm
 |_, _, _ => 0
def BE.gen (b : BE) : BE := .q b.d
def C.gen : C → C
 |.i k x => .i k (.x x.d)
 |.b x => .b x.gen
 |u => u
def S.gen : S → S
 |.c u => .c u.gen
 |s => s
def PV.gen : PV → PV
 |.one c => .one c.gen
 |.agg ss => .agg (ss.map S.gen)
def SV.gen : SV → SV
 |.pv v => .pv v.gen
 |.tup vs => .tup (vs.map PV.gen)
 |.und => .und
def vR (env : List (Nat × SV)) (m : Nat) : Nat → List (Nat × SV)
 |0 => []
 |t + 1 => cnd (Nat.beq (Nat.land (Nat.shiftRight m t) 1) 1) ((match look env t with
   |some v => (t, v.gen) :: vR env m t
   |none => vR env m t)) <| vR env m t
def idsC : C → Nat
 |.p g _ => bit g
 |.pd g _ _ _ => bit g
 |.sl g _ _ _ => bit g
 |_ => 0
def idsS : List S → Nat
 |[] => 0
 |.c c :: r => Nat.lor (idsC c) (idsS r)
 |_ :: r => idsS r
def idsE : List (Nat × SV) → Nat
 |[] => 0
 |(_, .pv v) :: r => Nat.lor (idsS v.segs) (idsE r)
 |_ :: r => idsE r
def idsH (m : Nat) : List (Nat × Nat × List S) → Nat
 |[] => m
 |(g, _, ss) :: r => cnd (Nat.beq (Nat.land (Nat.shiftRight m g) 1) 1) (Nat.lor (idsS ss) (idsH m r)) <| idsH m r
def rU (m : Nat) : List (Nat × Nat × List S) → List (Nat × Nat × List S)
 |[] => []
 |(g, t, ss) :: r => cnd (Nat.beq (Nat.land (Nat.shiftRight m g) 1) 1) ((g, t, ss.map S.gen) :: rU m r) <| rU m r
def aCL (a b : Nat) : Nat := cnd (Nat.ble a b) (b) <| a
def C.top : C → Nat
 |.p g _ => g + 1
 |.pd g _ _ _ => g + 1
 |.sl g _ _ _ => g + 1
 |_ => 0
def tops : List S → Nat
 |[] => 0
 |.c u :: r => aCL u.top (tops r)
 |_ :: r => tops r
def topsV : List PV → Nat
 |[] => 0
 |v :: r => aCL (tops v.segs) (topsV r)
def SV.top : SV → Nat
 |.pv v => tops v.segs
 |.tup vs => topsV vs
 |.und => 0
def topE : List (Nat × SV) → Nat
 |[] => 0
 |(_, v) :: r => aCL v.top (topE r)
def topH : List (Nat × Nat × List S) → Nat
 |[] => 0
 |(g, _, ss) :: r => aCL (g + 1) (aCL (tops ss) (topH r))
def clean (m : Nat) (s : St) : St :=
 let e := vR s.env m nt
 let h := rU (idsH (idsH (idsE e) s.heap) s.heap) s.heap
 ⟨e, h, aCL (topE e) (topH h)⟩
inductive Out where
 |nor | ret
 |ex (id : Nat)
def vJ {R : Type} (f : Nat → St → (Out → St → Option R) → Option R) (m : Nat) : Nat → St → (Out → St → Option R) → Option R
 |0, _, _ => none
 |n + 1, s, K => f n s (fun o s' => match o with
  |.nor => vJ f m n (clean nt m s') K
  |o => K o s')
def evJ {R : Type} (f : St → Option R) (s : St) : Option R := f s
abbrev kseq {R : Type} (g : St → (Out → St → Option R) → Option R) (K : Out → St → Option R) : Out → St → Option R
 |.nor, s => g s K
 |o, s => K o s
abbrev kblk {R : Type} (id : Nat) (K : Out → St → Option R) : Out → St → Option R
 |.ex j, s => cnd (Nat.beq j id) (K .nor s) <| K (.ex j) s
 |o, s => K o s
def aCx : Code → Option Nat
 |.region id _ _ => some id
 |.seq a _ => aCx a
 |.block _ c => aCx c
 |.loop c => aCx c
 |.cond _ a _ => aCx a
 |_ => none
variable (rm : Nat) (cuts : List Nat)
def cutAt (cuts : List Nat) (b : Code) : Bool := match aCx b with
 |some i => cuts.any (Nat.beq i)
 |none => false
def evC {R : Type} : Code → Nat → List (Nat × Nat) → Nat → St → (Out → St → Option R) → Option R
 |.skip, _, _, _, s, K => K .nor s
 |.region _ ops d, _, _, n, s, K => z8 P nt cl n ops d s (K .nor)
 |.seq a b, lv, ex, n, s, K => evC a (lvC rm b lv ex) ex n s (kseq (fun s K => cnd (cutAt cuts b) (evJ (fun s => evC b lv ex n s K) (clean nt (lvC rm b lv ex) s)) <| evC b lv ex n s K) K)
 |.cond c a b, lv, ex, n, s, K => match ev s.env c with
  |some (.pv (.one (.b e))) => e.ite (evC a lv ex n s K) (evC b lv ex n s K)
  |_ => none
 |.block id c, lv, ex, n, s, K => evC c lv ((id, lv) :: ex) n s (kblk id K)
 |.loop c, _, ex, n, s, K => vJ nt (fun n s K => evC c (lvC rm c 0 ex) ex n s K) (lvC rm c 0 ex) n (clean nt (lvC rm c 0 ex) s) K
 |.exit id, _, _, _, s, K => K (.ex id) s
 |.ret, _, _, _, s, K => K .ret s
 |_, _, _, _, _, _ => none
end
section
variable (P : Program) (nt : Nat) (cl : Cls) (rm : Nat) (cuts : List Nat)
def evAt {R : Type} : List Nat → Code → Nat → List (Nat × Nat) → List Nat → Nat → St → (Out → St → Option R) → Option R
 |[], c, lv, ex, _, n, s, K => evC P nt cl rm cuts c lv ex n s K
 |0 :: p, .seq a b, lv, ex, m :: fs, n, s, K => evAt p a (lvC rm b lv ex) ex (m :: fs) n s (kseq (fun s K => cnd (cutAt cuts b) (evJ (fun s => evC P nt cl rm cuts b lv ex m s K) (clean nt (lvC rm b lv ex) s)) <| evC P nt cl rm cuts b lv ex m s K) K)
 |_ :: p, .seq _ b, lv, ex, fs, n, s, K => evAt p b lv ex fs n s K
 |0 :: p, .cond _ a _, lv, ex, fs, n, s, K => evAt p a lv ex fs n s K
 |_ :: p, .cond _ _ b, lv, ex, fs, n, s, K => evAt p b lv ex fs n s K
 |_ :: p, .block id c, lv, ex, fs, n, s, K => evAt p c lv ((id, lv) :: ex) fs n s (kblk id K)
 |_ :: p, .loop c, _, ex, _ :: m :: fs, n, s, K => evAt p c (lvC rm c 0 ex) ex (m :: fs) n s (fun o s' => match o with
  |.nor => vJ nt (fun n s K => evC P nt cl rm cuts c (lvC rm c 0 ex) ex n s K) (lvC rm c 0 ex) m (clean nt (lvC rm c 0 ex) s') K
  |o => K o s')
 |_, _, _, _, _, _, _, _ => none
end
def aDo (P : Program) (s : St) : ResultVar → Option PV
 |.tmp t => match look s.env t with
  |some (.pv v) => some v
  |_ => none
 |.cell a t => match look s.env a with
  |some (.pv (.one c)) => sF P t s.heap c
  |_ => none
def oK (P : Program) (s : St) : List ResultVar → Option (List PV)
 |[] => some []
 |r :: rs => match aDo P s r, oK P s rs with
  |some v, some vs => some (v :: vs)
  |_, _ => none
def tO (P : Program) (fn : Func) (s : St) : Option SV := match oK P s fn.results.toList with
 |some [v] => some (.pv v)
 |some vs => some (.tup vs)
 |none => none
def resB (fn : Func) : Nat := fn.results.toList.foldl (fun m r => match r with
 |.tmp t => onB m t
 |.cell a _ => onB m a) 0
def argE : List PV → Nat → List (Nat × SV)
 |[], _ => []
 |v :: r, i => (i, .pv v) :: argE r (i + 1)
def kfin {R : Type} (P : Program) (fn : Func) (K : SV → Option R) : Out → St → Option R
 |.nor, s => (match tO P fn s with
  |some v => K v
  |none => none)
 |.ret, s => (match tO P fn s with
  |some v => K v
  |none => none)
 |_, _ => none
def evF {R : Type} (P : Program) (cl : Cls) (fn : Func) (cuts : List Nat) (n : Nat) (args : List PV) (K : SV → Option R) : Option R := match fn.body with
 |some c => cnd (Nat.beq fn.params.size args.length && Nat.ble args.length fn.ntmps) (evC P fn.ntmps cl (resB fn) cuts c (resB fn) [] n ⟨argE args 0, [], 0⟩ (kfin P fn K)) <| none
 |none => none
def evIn {R : Type} (P : Program) (cl : Cls) (fn : Func) (cuts : List Nat) (p fs : List Nat) (n : Nat) (s : St) (K : SV → Option R) : Option R := match fn.body with
 |some c => evAt P fn.ntmps cl (resB fn) cuts p c (resB fn) [] fs n s (kfin P fn K)
 |none => none
def jK {R : Type} (P : Program) (cl : Cls) (fn : Func) (cuts : List Nat) (p fs : List Nat) (n : Nat) (s : St) (K : SV → Option R) : Option R := match fn.body with
 |some c => evJ (fun s => evAt P fn.ntmps cl (resB fn) cuts p c (resB fn) [] fs n s (kfin P fn K)) s
 |none => none
end Ek
end
end Go.Proofs.YtolpdiifmacdbaaGreat
