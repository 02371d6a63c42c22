import Derived.Test.YtejkemahdincjaaQftZ
import Derived.Test.YtejkemahdincjaaQftM1
import Derived.Test.YtejkemahdincjaaQftM4
import Derived.Test.YtejkemahdincjaaProg
import Derived.Test.YtejkemahdincjaaQftM2
import Derived.Test.YtejkemahdincjaaQftM3
-- Printed by a program of this session's out of Lean's print of the translation; Lean checks it.
set_option linter.unusedVariables false
set_option linter.unusedSimpArgs false
namespace Go.Proofs.Ytejkemahdincjaa.P
open Go.RowKit Go.Proofs.YtejkemahdincjaaW.PrintWords Go.Proofs.YtejkemahdincjaaW.PrintLast Go.Proofs.YtejkemahdincjaaW.PrintMore
attribute [local go_sem] max2_int min2_int max_two min_two max_three min_three max_four min_four

-- NEED 0
/-! ### annealref1_Pack: function 43 -/
mutual
def annealref1_Pack.j0 : Nat → Int → Int → Bool → Int → Int → Bool → Bool → Option (Int × Bool × Bool × Bool × Bool × Bool)
 |0, _, _, _, _, _, _, _ => none
 |k + 1, x0, x1, x2, x3, x4, x5, x35 => if x35 = true then ((annealref1_Zero.f x0 x2).bind fun t367 => (some (t367, false, false, false, false, false))) else ((annealref1_Widths.f x0).bind fun bt368 => ((annealref1_bias.f x0).bind fun t370 => ((annealref1_Len.f k x4).bind fun t371 => (if x4 = 0 then (annealref1_Pack.j1 k x0 x1 x2 x3 x4 x5 bt368.2 (wrap64 (1 - t370)) (-20000)) else (annealref1_Pack.j1 k x0 x1 x2 x3 x4 x5 bt368.2 (wrap64 (1 - t370)) (wrap64 ((wrap64 (x3 + t371)) - 1)))))))
def annealref1_Pack.j1 : Nat → Int → Int → Bool → Int → Int → Bool → Int → Int → Int → Option (Int × Bool × Bool × Bool × Bool × Bool)
 |0, _, _, _, _, _, _, _, _, _ => none
 |k + 1, x0, x1, x2, x3, x4, x5, x15, x16, x17 => (annealref1_divide.f k x4 (wrap64 ((wrap64 ((mx x17 x16) - x15)) - x3))).bind fun bt372 => (if bt372.2.2 = true then (annealref1_Pack.j2 k x0 x1 x2 x15 x16 x17 (wrap64 ((mx x17 x16) - x15)) bt372.1 bt372.2.1 true) else (annealref1_Pack.j2 k x0 x1 x2 x15 x16 x17 (wrap64 ((mx x17 x16) - x15)) bt372.1 bt372.2.1 x5))
def annealref1_Pack.j2 : Nat → Int → Int → Bool → Int → Int → Int → Int → Int → Bool → Bool → Option (Int × Bool × Bool × Bool × Bool × Bool)
 |0, _, _, _, _, _, _, _, _, _, _ => none
 |k + 1, x0, x1, x2, x15, x16, x17, x18, x19, x20, x21 => if x20 = true then (annealref1_Pack.j3 k x0 x1 x2 x15 x16 x17 x18 x19 x20 x21 true) else (annealref1_Pack.j3 k x0 x1 x2 x15 x16 x17 x18 x19 x20 x21 x21)
def annealref1_Pack.j3 : Nat → Int → Int → Bool → Int → Int → Int → Int → Int → Bool → Bool → Bool → Option (Int × Bool × Bool × Bool × Bool × Bool)
 |0, _, _, _, _, _, _, _, _, _, _, _ => none
 |k + 1, x0, x1, x2, x15, x16, x17, x18, x19, x20, x21, x22 => (annealref1_up.f x1 x2 ((Go.bits .and .u64 x19 1) == 1) x20 x21).bind fun t375 => (if t375 = true then (annealref1_Pack.j4 k x0 x1 x2 x15 x16 x17 x18 (IntKind.u64.wrap (x19 + 1)) x22) else (annealref1_Pack.j4 k x0 x1 x2 x15 x16 x17 x18 x19 x22))
def annealref1_Pack.j4 : Nat → Int → Int → Bool → Int → Int → Int → Int → Int → Bool → Option (Int × Bool × Bool × Bool × Bool × Bool)
 |0, _, _, _, _, _, _, _, _, _ => none
 |k + 1, x0, x1, x2, x15, x16, x17, x18, x19, x22 => if x22 = true then (if 0 ≤ (wrap64 (x15 + 1)) then (if x19 = (shl .u64 1 (wrap64 (x15 + 1))) then (annealref1_Pack.j5 k x0 x1 x2 x15 (wrap64 (x18 + 1)) (x19 / 2) false false false (decide (x17 < x16)) x22) else (annealref1_Pack.j5 k x0 x1 x2 x15 x18 x19 false false false (decide (x17 < x16)) x22)) else (none)) else (if 0 ≤ (wrap64 (x15 + 1)) then (if x19 = (shl .u64 1 (wrap64 (x15 + 1))) then (annealref1_Pack.j6 k x0 x1 x2 x15 (wrap64 (x18 + 1)) (x19 / 2) false false false false x22) else (annealref1_Pack.j6 k x0 x1 x2 x15 x18 x19 false false false false x22)) else (none))
def annealref1_Pack.j5 : Nat → Int → Int → Bool → Int → Int → Int → Bool → Bool → Bool → Bool → Bool → Option (Int × Bool × Bool × Bool × Bool × Bool)
 |0, _, _, _, _, _, _, _, _, _, _, _ => none
 |k + 1, x0, x1, x2, x15, x18, x19, x377000, x377001, x377002, x377003, x377004 => if 0 ≤ x15 then (if x19 < (shl .u64 1 x15) then ((annealref1_sign.f x0 x2).bind fun t377 => (some (Go.bits .or .u32 t377 ((x19) % 4294967296), x377000, x377001, x377002, x377003, x377004))) else ((annealref1_bias.f x0).bind fun t378 => ((annealref1_Widths.f x0).bind fun bt379 => (if 0 ≤ bt379.1 then (if (wrap64 ((wrap64 (x18 + x15)) + t378)) ≥ (wrap64 ((shl .i64 1 bt379.1) - 1)) then ((annealref1_over.f k x0 x1 x2).bind fun t381 => (some (t381, false, false, true, false, true))) else ((annealref1_sign.f x0 x2).bind fun t382 => (some (Go.bits .or .u32 (Go.bits .or .u32 t382 (shl .u32 ((wrap64 ((wrap64 (x18 + x15)) + t378)) % 4294967296) x15)) ((Go.bits .and .u64 x19 (IntKind.u64.wrap ((shl .u64 1 x15) - 1))) % 4294967296), x377000, x377001, x377002, x377003, x377004)))) else (none))))) else (none)
def annealref1_Pack.j6 : Nat → Int → Int → Bool → Int → Int → Int → Bool → Bool → Bool → Bool → Bool → Option (Int × Bool × Bool × Bool × Bool × Bool)
 |0, _, _, _, _, _, _, _, _, _, _, _ => none
 |k + 1, x0, x1, x2, x15, x18, x19, x384000, x384001, x384002, x384003, x384004 => if 0 ≤ x15 then (if x19 < (shl .u64 1 x15) then ((annealref1_sign.f x0 x2).bind fun t384 => (some (Go.bits .or .u32 t384 ((x19) % 4294967296), x384000, x384001, x384002, x384003, x384004))) else ((annealref1_bias.f x0).bind fun t385 => ((annealref1_Widths.f x0).bind fun bt386 => (if 0 ≤ bt386.1 then (if (wrap64 ((wrap64 (x18 + x15)) + t385)) ≥ (wrap64 ((shl .i64 1 bt386.1) - 1)) then ((annealref1_over.f k x0 x1 x2).bind fun t388 => (some (t388, false, false, true, false, true))) else ((annealref1_sign.f x0 x2).bind fun t389 => (some (Go.bits .or .u32 (Go.bits .or .u32 t389 (shl .u32 ((wrap64 ((wrap64 (x18 + x15)) + t385)) % 4294967296) x15)) ((Go.bits .and .u64 x19 (IntKind.u64.wrap ((shl .u64 1 x15) - 1))) % 4294967296), x384000, x384001, x384002, x384003, x384004)))) else (none))))) else (none)
end
def annealref1_Pack.f (k : Nat) (a0 : Int) (a1 : Int) (a2 : Bool) (a3 : Int) (a4 : Int) (a5 : Bool) : Option (Int × Bool × Bool × Bool × Bool × Bool) := if a4 = 0 then (annealref1_Pack.j0 k a0 a1 a2 (mn (mx a3 (-10000)) 10000) a4 a5 (!a5)) else (annealref1_Pack.j0 k a0 a1 a2 (mn (mx a3 (-10000)) 10000) a4 a5 false)
-- NOT PRINTED: function 70 (annealref1_rounded)

-- NOT PRINTED: function 38 (annealref1_total)

-- NOT PRINTED: function 39 (annealref1_spread)

-- NEED 0
/-! ### annealref1_Unpack: function 40 -/
def annealref1_Unpack.f (k : Nat) (a0 : Int) (a1 : Int) : Option (Bool × Int × Int) := (annealref1_Widths.f a0).bind fun bt439 => ((annealref1_parts.f a0 a1).bind fun bt441 => ((annealref1_Class.f k a0 a1).bind fun t444 => (if t444 = 2 then ((annealref1_bias.f a0).bind fun t445 => (if 0 ≤ bt439.2 then (some (bt441.1, wrap64 ((wrap64 (bt441.2.1 - t445)) - bt439.2), Go.bits .or .u64 bt441.2.2 (shl .u64 1 bt439.2))) else (none))) else (if t444 = 0 then ((annealref1_bias.f a0).bind fun t446 => (some (bt441.1, wrap64 ((wrap64 (1 - t446)) - bt439.2), bt441.2.2))) else (if t444 = 1 then ((annealref1_bias.f a0).bind fun t447 => (some (bt441.1, wrap64 ((wrap64 (1 - t447)) - bt439.2), bt441.2.2))) else (some (bt441.1, 0, 0)))))))
theorem annealref1_Unpack.mono : ∀ a0 a1 k, LeO (annealref1_Unpack.f k a0 a1) (annealref1_Unpack.f (k + 1) a0 a1) := by
 intro a0 a1 k
 unfold annealref1_Unpack.f
 repeat' first
   |(with_reducible exact annealref1_Class.mono _ _ _)
   |(with_reducible exact LeO.refl _)
   |(with_reducible exact LeO.none _)
   |(with_reducible refine LeO.ite ?_ ?_)
   |(with_reducible refine LeO.bind ?_ (fun _ => ?_))
   |exact annealref1_Class.mono _ _ _
   |exact LeO.none _
   |refine LeO.ite ?_ ?_
   |refine LeO.bind ?_ (fun _ => ?_)
set_option maxHeartbeats 8000000 in
set_option maxRecDepth 100000 in
theorem annealref1_Unpack.calls (k : Nat) (a0 : Int) (a1 : Int) (r1 : Bool) (r2 : Int) (r3 : Int) (w : World) (h : annealref1_Unpack.f k a0 a1 = some (r1, r2, r3)) :
  Calls Try.prog 40 #[.int .i64 a0, .int .u32 a1] w fun e w' => e = .returned (.tuple #[.bool r1, .int .i64 r2, .int .u64 r3]) ∧ Drawn0 w w' := by
 have H : ((annealref1_Widths.f a0).bind fun bt439 => ((annealref1_parts.f a0 a1).bind fun bt441 => ((annealref1_Class.f k a0 a1).bind fun t444 => (if t444 = 2 then ((annealref1_bias.f a0).bind fun t445 => (if 0 ≤ bt439.2 then (some (bt441.1, wrap64 ((wrap64 (bt441.2.1 - t445)) - bt439.2), Go.bits .or .u64 bt441.2.2 (shl .u64 1 bt439.2))) else (none))) else (if t444 = 0 then ((annealref1_bias.f a0).bind fun t446 => (some (bt441.1, wrap64 ((wrap64 (1 - t446)) - bt439.2), bt441.2.2))) else (if t444 = 1 then ((annealref1_bias.f a0).bind fun t447 => (some (bt441.1, wrap64 ((wrap64 (1 - t447)) - bt439.2), bt441.2.2))) else (some (bt441.1, 0, 0)))))))) = some (r1, r2, r3) := h
 clear h
 replace H := Option.bind_eq_some_iff.mp H
 obtain ⟨⟨t439, t440⟩, A30, H⟩ := H
 replace H : ((annealref1_parts.f a0 a1).bind fun bt441 => ((annealref1_Class.f k a0 a1).bind fun t444 => (if t444 = 2 then ((annealref1_bias.f a0).bind fun t445 => (if 0 ≤ t440 then (some (bt441.1, wrap64 ((wrap64 (bt441.2.1 - t445)) - t440), Go.bits .or .u64 bt441.2.2 (shl .u64 1 t440))) else (none))) else (if t444 = 0 then ((annealref1_bias.f a0).bind fun t446 => (some (bt441.1, wrap64 ((wrap64 (1 - t446)) - t440), bt441.2.2))) else (if t444 = 1 then ((annealref1_bias.f a0).bind fun t447 => (some (bt441.1, wrap64 ((wrap64 (1 - t447)) - t440), bt441.2.2))) else (some (bt441.1, 0, 0))))))) = some (r1, r2, r3) := H
 have A3 := Aside0.mk A30
 clear A30
 replace H := Option.bind_eq_some_iff.mp H
 obtain ⟨⟨t441, t442, t443⟩, A40, H⟩ := H
 replace H : ((annealref1_Class.f k a0 a1).bind fun t444 => (if t444 = 2 then ((annealref1_bias.f a0).bind fun t445 => (if 0 ≤ t440 then (some (t441, wrap64 ((wrap64 (t442 - t445)) - t440), Go.bits .or .u64 t443 (shl .u64 1 t440))) else (none))) else (if t444 = 0 then ((annealref1_bias.f a0).bind fun t446 => (some (t441, wrap64 ((wrap64 (1 - t446)) - t440), t443))) else (if t444 = 1 then ((annealref1_bias.f a0).bind fun t447 => (some (t441, wrap64 ((wrap64 (1 - t447)) - t440), t443))) else (some (t441, 0, 0)))))) = some (r1, r2, r3) := H
 have A4 := Aside0.mk A40
 clear A40
 replace H := Option.bind_eq_some_iff.mp H
 obtain ⟨t444, A50, H⟩ := H
 replace H : (if t444 = 2 then ((annealref1_bias.f a0).bind fun t445 => (if 0 ≤ t440 then (some (t441, wrap64 ((wrap64 (t442 - t445)) - t440), Go.bits .or .u64 t443 (shl .u64 1 t440))) else (none))) else (if t444 = 0 then ((annealref1_bias.f a0).bind fun t446 => (some (t441, wrap64 ((wrap64 (1 - t446)) - t440), t443))) else (if t444 = 1 then ((annealref1_bias.f a0).bind fun t447 => (some (t441, wrap64 ((wrap64 (1 - t447)) - t440), t443))) else (some (t441, 0, 0))))) = some (r1, r2, r3) := H
 have A5 := Aside0.mk A50
 clear A50
 by_cases c6 : t444 = 2
 ·rw [if_pos c6] at H
  have c6b0 : (t444 == 2) = true := beq_iff_eq.mpr c6
  have c6b1 : (t444 != 2) = false := bne_eq_false_iff_eq.mpr c6
  clear c6
  replace H := Option.bind_eq_some_iff.mp H
  obtain ⟨t445, A70, H⟩ := H
  replace H : (if 0 ≤ t440 then (some (t441, wrap64 ((wrap64 (t442 - t445)) - t440), Go.bits .or .u64 t443 (shl .u64 1 t440))) else (none)) = some (r1, r2, r3) := H
  have A7 := Aside0.mk A70
  clear A70
  by_cases c8 : 0 ≤ t440
  ·rw [if_pos c8] at H
   have c8b0 := eq_true c8
   have c8b1 : decide (0 ≤ t440) = true := decide_eq_true c8
   clear c8
   obtain ⟨ji9, hji9⟩ : ∃ j_ : Int, (shl .u64 1 t440) = j_ := ⟨_, rfl⟩
   replace H : (some (t441, wrap64 ((wrap64 (t442 - t445)) - t440), Go.bits .or .u64 t443 (ji9))) = some (r1, r2, r3) := by first | (rw [hji9] at H; exact H) | (simp only [hji9] at H ⊢; exact H)
   (try rw [hji9] at A3)
   (try rw [hji9] at A4)
   (try rw [hji9] at A5)
   (try rw [hji9] at A7)
   have hji9_ : (IntKind.u64.wrap (1 * 2 ^ min t440.toNat 64)) = ji9 := hji9
   have hji9z : t440 ≤ 64 → (IntKind.u64.wrap (1 * 2 ^ t440.toNat)) = ji9 := shl_small hji9
   have hji9u : (IntKind.u64.wrap (2 ^ min t440.toNat 64)) = ji9 := by have h_ := hji9_; rw [Int.one_mul] at h_; exact h_
   have hji9v : t440 ≤ 64 → (IntKind.u64.wrap (2 ^ t440.toNat)) = ji9 := fun hle_ => by have h_ := hji9z hle_; rw [Int.one_mul] at h_; exact h_
   simp only [Option.some.injEq, Prod.mk.injEq] at H
   obtain ⟨rfl, rfl, rfl⟩ := H
   go_enter Try.func40, Try.ntmps40
   go_wp2_with (first | (go_at_call 23; (with_reducible refine (annealref1_Widths.calls a0 t439 t440 _ A3.out).mono ?_); rintro e w' ⟨rfl, ⟨nd, rfl⟩⟩; (try first | exact ⟨rfl, _, World.drewN_drewN _ _ _⟩ | exact ⟨rfl, _, Eq.trans (World.drewN_drewN _ _ _) (congrArg (World.drewN _) (Nat.add_assoc _ _ _))⟩)) | (go_at_call 67; (with_reducible refine (annealref1_parts.calls a0 a1 t441 t442 t443 _ A4.out).mono ?_); rintro e w' ⟨rfl, ⟨nd, rfl⟩⟩; (try first | exact ⟨rfl, _, World.drewN_drewN _ _ _⟩ | exact ⟨rfl, _, Eq.trans (World.drewN_drewN _ _ _) (congrArg (World.drewN _) (Nat.add_assoc _ _ _))⟩)) | (go_at_call 66; (with_reducible refine (annealref1_Class.calls k a0 a1 t444 _ A5.out).mono ?_); rintro e w' ⟨rfl, ⟨nd, rfl⟩⟩; (try first | exact ⟨rfl, _, World.drewN_drewN _ _ _⟩ | exact ⟨rfl, _, Eq.trans (World.drewN_drewN _ _ _) (congrArg (World.drewN _) (Nat.add_assoc _ _ _))⟩)) | (go_at_call 71; (with_reducible refine (annealref1_bias.calls a0 t445 _ A7.out).mono ?_); rintro e w' ⟨rfl, ⟨nd, rfl⟩⟩; (try first | exact ⟨rfl, _, World.drewN_drewN _ _ _⟩ | exact ⟨rfl, _, Eq.trans (World.drewN_drewN _ _ _) (congrArg (World.drewN _) (Nat.add_assoc _ _ _))⟩)))
   repeat (go_quiet (first | (go_at_call 23; (with_reducible refine (annealref1_Widths.calls a0 t439 t440 _ A3.out).mono ?_); rintro e w' ⟨rfl, ⟨nd, rfl⟩⟩; (try first | exact ⟨rfl, _, World.drewN_drewN _ _ _⟩ | exact ⟨rfl, _, Eq.trans (World.drewN_drewN _ _ _) (congrArg (World.drewN _) (Nat.add_assoc _ _ _))⟩)) | (go_at_call 67; (with_reducible refine (annealref1_parts.calls a0 a1 t441 t442 t443 _ A4.out).mono ?_); rintro e w' ⟨rfl, ⟨nd, rfl⟩⟩; (try first | exact ⟨rfl, _, World.drewN_drewN _ _ _⟩ | exact ⟨rfl, _, Eq.trans (World.drewN_drewN _ _ _) (congrArg (World.drewN _) (Nat.add_assoc _ _ _))⟩)) | (go_at_call 66; (with_reducible refine (annealref1_Class.calls k a0 a1 t444 _ A5.out).mono ?_); rintro e w' ⟨rfl, ⟨nd, rfl⟩⟩; (try first | exact ⟨rfl, _, World.drewN_drewN _ _ _⟩ | exact ⟨rfl, _, Eq.trans (World.drewN_drewN _ _ _) (congrArg (World.drewN _) (Nat.add_assoc _ _ _))⟩)) | (go_at_call 71; (with_reducible refine (annealref1_bias.calls a0 t445 _ A7.out).mono ?_); rintro e w' ⟨rfl, ⟨nd, rfl⟩⟩; (try first | exact ⟨rfl, _, World.drewN_drewN _ _ _⟩ | exact ⟨rfl, _, Eq.trans (World.drewN_drewN _ _ _) (congrArg (World.drewN _) (Nat.add_assoc _ _ _))⟩))); try go_wp2_with (first | (go_at_call 23; (with_reducible refine (annealref1_Widths.calls a0 t439 t440 _ A3.out).mono ?_); rintro e w' ⟨rfl, ⟨nd, rfl⟩⟩; (try first | exact ⟨rfl, _, World.drewN_drewN _ _ _⟩ | exact ⟨rfl, _, Eq.trans (World.drewN_drewN _ _ _) (congrArg (World.drewN _) (Nat.add_assoc _ _ _))⟩)) | (go_at_call 67; (with_reducible refine (annealref1_parts.calls a0 a1 t441 t442 t443 _ A4.out).mono ?_); rintro e w' ⟨rfl, ⟨nd, rfl⟩⟩; (try first | exact ⟨rfl, _, World.drewN_drewN _ _ _⟩ | exact ⟨rfl, _, Eq.trans (World.drewN_drewN _ _ _) (congrArg (World.drewN _) (Nat.add_assoc _ _ _))⟩)) | (go_at_call 66; (with_reducible refine (annealref1_Class.calls k a0 a1 t444 _ A5.out).mono ?_); rintro e w' ⟨rfl, ⟨nd, rfl⟩⟩; (try first | exact ⟨rfl, _, World.drewN_drewN _ _ _⟩ | exact ⟨rfl, _, Eq.trans (World.drewN_drewN _ _ _) (congrArg (World.drewN _) (Nat.add_assoc _ _ _))⟩)) | (go_at_call 71; (with_reducible refine (annealref1_bias.calls a0 t445 _ A7.out).mono ?_); rintro e w' ⟨rfl, ⟨nd, rfl⟩⟩; (try first | exact ⟨rfl, _, World.drewN_drewN _ _ _⟩ | exact ⟨rfl, _, Eq.trans (World.drewN_drewN _ _ _) (congrArg (World.drewN _) (Nat.add_assoc _ _ _))⟩))))
   go_ret3
   exact ⟨by first | rfl | (simp; done) | (simp only [← hji9] <;> (first | rfl | (simp; done))) | (simp [*]; done) | (congr 1; (try unfold wrap64); omega) | (congr 1; rw [IntKind.wrap_u64]; omega), by repeat (first | exact Drawn0.refl _ | apply Drawn0.step)⟩
  ·rw [if_neg c8] at H
   exact absurd H (by simp)
 ·rw [if_neg c6] at H
  have c6b0 : (t444 == 2) = false := beq_eq_false_iff_ne.mpr c6
  have c6b1 : (t444 != 2) = true := bne_iff_ne.mpr c6
  by_cases c10 : t444 = 0
  ·rw [if_pos c10] at H
   have c10b0 : (t444 == 0) = true := beq_iff_eq.mpr c10
   have c10b1 : (t444 != 0) = false := bne_eq_false_iff_eq.mpr c10
   clear c10
   replace H := Option.bind_eq_some_iff.mp H
   obtain ⟨t446, A110, H⟩ := H
   replace H : (some (t441, wrap64 ((wrap64 (1 - t446)) - t440), t443)) = some (r1, r2, r3) := H
   have A11 := Aside0.mk A110
   clear A110
   simp only [Option.some.injEq, Prod.mk.injEq] at H
   obtain ⟨rfl, rfl, rfl⟩ := H
   go_enter Try.func40, Try.ntmps40
   go_wp2_with (first | (go_at_call 23; (with_reducible refine (annealref1_Widths.calls a0 t439 t440 _ A3.out).mono ?_); rintro e w' ⟨rfl, ⟨nd, rfl⟩⟩; (try first | exact ⟨rfl, _, World.drewN_drewN _ _ _⟩ | exact ⟨rfl, _, Eq.trans (World.drewN_drewN _ _ _) (congrArg (World.drewN _) (Nat.add_assoc _ _ _))⟩)) | (go_at_call 67; (with_reducible refine (annealref1_parts.calls a0 a1 t441 t442 t443 _ A4.out).mono ?_); rintro e w' ⟨rfl, ⟨nd, rfl⟩⟩; (try first | exact ⟨rfl, _, World.drewN_drewN _ _ _⟩ | exact ⟨rfl, _, Eq.trans (World.drewN_drewN _ _ _) (congrArg (World.drewN _) (Nat.add_assoc _ _ _))⟩)) | (go_at_call 66; (with_reducible refine (annealref1_Class.calls k a0 a1 t444 _ A5.out).mono ?_); rintro e w' ⟨rfl, ⟨nd, rfl⟩⟩; (try first | exact ⟨rfl, _, World.drewN_drewN _ _ _⟩ | exact ⟨rfl, _, Eq.trans (World.drewN_drewN _ _ _) (congrArg (World.drewN _) (Nat.add_assoc _ _ _))⟩)) | (go_at_call 71; (with_reducible refine (annealref1_bias.calls a0 t446 _ A11.out).mono ?_); rintro e w' ⟨rfl, ⟨nd, rfl⟩⟩; (try first | exact ⟨rfl, _, World.drewN_drewN _ _ _⟩ | exact ⟨rfl, _, Eq.trans (World.drewN_drewN _ _ _) (congrArg (World.drewN _) (Nat.add_assoc _ _ _))⟩)))
   repeat (go_quiet (first | (go_at_call 23; (with_reducible refine (annealref1_Widths.calls a0 t439 t440 _ A3.out).mono ?_); rintro e w' ⟨rfl, ⟨nd, rfl⟩⟩; (try first | exact ⟨rfl, _, World.drewN_drewN _ _ _⟩ | exact ⟨rfl, _, Eq.trans (World.drewN_drewN _ _ _) (congrArg (World.drewN _) (Nat.add_assoc _ _ _))⟩)) | (go_at_call 67; (with_reducible refine (annealref1_parts.calls a0 a1 t441 t442 t443 _ A4.out).mono ?_); rintro e w' ⟨rfl, ⟨nd, rfl⟩⟩; (try first | exact ⟨rfl, _, World.drewN_drewN _ _ _⟩ | exact ⟨rfl, _, Eq.trans (World.drewN_drewN _ _ _) (congrArg (World.drewN _) (Nat.add_assoc _ _ _))⟩)) | (go_at_call 66; (with_reducible refine (annealref1_Class.calls k a0 a1 t444 _ A5.out).mono ?_); rintro e w' ⟨rfl, ⟨nd, rfl⟩⟩; (try first | exact ⟨rfl, _, World.drewN_drewN _ _ _⟩ | exact ⟨rfl, _, Eq.trans (World.drewN_drewN _ _ _) (congrArg (World.drewN _) (Nat.add_assoc _ _ _))⟩)) | (go_at_call 71; (with_reducible refine (annealref1_bias.calls a0 t446 _ A11.out).mono ?_); rintro e w' ⟨rfl, ⟨nd, rfl⟩⟩; (try first | exact ⟨rfl, _, World.drewN_drewN _ _ _⟩ | exact ⟨rfl, _, Eq.trans (World.drewN_drewN _ _ _) (congrArg (World.drewN _) (Nat.add_assoc _ _ _))⟩))); try go_wp2_with (first | (go_at_call 23; (with_reducible refine (annealref1_Widths.calls a0 t439 t440 _ A3.out).mono ?_); rintro e w' ⟨rfl, ⟨nd, rfl⟩⟩; (try first | exact ⟨rfl, _, World.drewN_drewN _ _ _⟩ | exact ⟨rfl, _, Eq.trans (World.drewN_drewN _ _ _) (congrArg (World.drewN _) (Nat.add_assoc _ _ _))⟩)) | (go_at_call 67; (with_reducible refine (annealref1_parts.calls a0 a1 t441 t442 t443 _ A4.out).mono ?_); rintro e w' ⟨rfl, ⟨nd, rfl⟩⟩; (try first | exact ⟨rfl, _, World.drewN_drewN _ _ _⟩ | exact ⟨rfl, _, Eq.trans (World.drewN_drewN _ _ _) (congrArg (World.drewN _) (Nat.add_assoc _ _ _))⟩)) | (go_at_call 66; (with_reducible refine (annealref1_Class.calls k a0 a1 t444 _ A5.out).mono ?_); rintro e w' ⟨rfl, ⟨nd, rfl⟩⟩; (try first | exact ⟨rfl, _, World.drewN_drewN _ _ _⟩ | exact ⟨rfl, _, Eq.trans (World.drewN_drewN _ _ _) (congrArg (World.drewN _) (Nat.add_assoc _ _ _))⟩)) | (go_at_call 71; (with_reducible refine (annealref1_bias.calls a0 t446 _ A11.out).mono ?_); rintro e w' ⟨rfl, ⟨nd, rfl⟩⟩; (try first | exact ⟨rfl, _, World.drewN_drewN _ _ _⟩ | exact ⟨rfl, _, Eq.trans (World.drewN_drewN _ _ _) (congrArg (World.drewN _) (Nat.add_assoc _ _ _))⟩))))
   go_ret3
   exact ⟨by first | rfl | (simp; done) | (simp [*]; done) | (congr 1; (try unfold wrap64); omega) | (congr 1; rw [IntKind.wrap_u64]; omega), by repeat (first | exact Drawn0.refl _ | apply Drawn0.step)⟩
  ·rw [if_neg c10] at H
   have c10b0 : (t444 == 0) = false := beq_eq_false_iff_ne.mpr c10
   have c10b1 : (t444 != 0) = true := bne_iff_ne.mpr c10
   by_cases c12 : t444 = 1
   ·rw [if_pos c12] at H
    have c12b0 : (t444 == 1) = true := beq_iff_eq.mpr c12
    have c12b1 : (t444 != 1) = false := bne_eq_false_iff_eq.mpr c12
    clear c12
    replace H := Option.bind_eq_some_iff.mp H
    obtain ⟨t447, A130, H⟩ := H
    replace H : (some (t441, wrap64 ((wrap64 (1 - t447)) - t440), t443)) = some (r1, r2, r3) := H
    have A13 := Aside0.mk A130
    clear A130
    simp only [Option.some.injEq, Prod.mk.injEq] at H
    obtain ⟨rfl, rfl, rfl⟩ := H
    go_enter Try.func40, Try.ntmps40
    go_wp2_with (first | (go_at_call 23; (with_reducible refine (annealref1_Widths.calls a0 t439 t440 _ A3.out).mono ?_); rintro e w' ⟨rfl, ⟨nd, rfl⟩⟩; (try first | exact ⟨rfl, _, World.drewN_drewN _ _ _⟩ | exact ⟨rfl, _, Eq.trans (World.drewN_drewN _ _ _) (congrArg (World.drewN _) (Nat.add_assoc _ _ _))⟩)) | (go_at_call 67; (with_reducible refine (annealref1_parts.calls a0 a1 t441 t442 t443 _ A4.out).mono ?_); rintro e w' ⟨rfl, ⟨nd, rfl⟩⟩; (try first | exact ⟨rfl, _, World.drewN_drewN _ _ _⟩ | exact ⟨rfl, _, Eq.trans (World.drewN_drewN _ _ _) (congrArg (World.drewN _) (Nat.add_assoc _ _ _))⟩)) | (go_at_call 66; (with_reducible refine (annealref1_Class.calls k a0 a1 t444 _ A5.out).mono ?_); rintro e w' ⟨rfl, ⟨nd, rfl⟩⟩; (try first | exact ⟨rfl, _, World.drewN_drewN _ _ _⟩ | exact ⟨rfl, _, Eq.trans (World.drewN_drewN _ _ _) (congrArg (World.drewN _) (Nat.add_assoc _ _ _))⟩)) | (go_at_call 71; (with_reducible refine (annealref1_bias.calls a0 t447 _ A13.out).mono ?_); rintro e w' ⟨rfl, ⟨nd, rfl⟩⟩; (try first | exact ⟨rfl, _, World.drewN_drewN _ _ _⟩ | exact ⟨rfl, _, Eq.trans (World.drewN_drewN _ _ _) (congrArg (World.drewN _) (Nat.add_assoc _ _ _))⟩)))
    repeat (go_quiet (first | (go_at_call 23; (with_reducible refine (annealref1_Widths.calls a0 t439 t440 _ A3.out).mono ?_); rintro e w' ⟨rfl, ⟨nd, rfl⟩⟩; (try first | exact ⟨rfl, _, World.drewN_drewN _ _ _⟩ | exact ⟨rfl, _, Eq.trans (World.drewN_drewN _ _ _) (congrArg (World.drewN _) (Nat.add_assoc _ _ _))⟩)) | (go_at_call 67; (with_reducible refine (annealref1_parts.calls a0 a1 t441 t442 t443 _ A4.out).mono ?_); rintro e w' ⟨rfl, ⟨nd, rfl⟩⟩; (try first | exact ⟨rfl, _, World.drewN_drewN _ _ _⟩ | exact ⟨rfl, _, Eq.trans (World.drewN_drewN _ _ _) (congrArg (World.drewN _) (Nat.add_assoc _ _ _))⟩)) | (go_at_call 66; (with_reducible refine (annealref1_Class.calls k a0 a1 t444 _ A5.out).mono ?_); rintro e w' ⟨rfl, ⟨nd, rfl⟩⟩; (try first | exact ⟨rfl, _, World.drewN_drewN _ _ _⟩ | exact ⟨rfl, _, Eq.trans (World.drewN_drewN _ _ _) (congrArg (World.drewN _) (Nat.add_assoc _ _ _))⟩)) | (go_at_call 71; (with_reducible refine (annealref1_bias.calls a0 t447 _ A13.out).mono ?_); rintro e w' ⟨rfl, ⟨nd, rfl⟩⟩; (try first | exact ⟨rfl, _, World.drewN_drewN _ _ _⟩ | exact ⟨rfl, _, Eq.trans (World.drewN_drewN _ _ _) (congrArg (World.drewN _) (Nat.add_assoc _ _ _))⟩))); try go_wp2_with (first | (go_at_call 23; (with_reducible refine (annealref1_Widths.calls a0 t439 t440 _ A3.out).mono ?_); rintro e w' ⟨rfl, ⟨nd, rfl⟩⟩; (try first | exact ⟨rfl, _, World.drewN_drewN _ _ _⟩ | exact ⟨rfl, _, Eq.trans (World.drewN_drewN _ _ _) (congrArg (World.drewN _) (Nat.add_assoc _ _ _))⟩)) | (go_at_call 67; (with_reducible refine (annealref1_parts.calls a0 a1 t441 t442 t443 _ A4.out).mono ?_); rintro e w' ⟨rfl, ⟨nd, rfl⟩⟩; (try first | exact ⟨rfl, _, World.drewN_drewN _ _ _⟩ | exact ⟨rfl, _, Eq.trans (World.drewN_drewN _ _ _) (congrArg (World.drewN _) (Nat.add_assoc _ _ _))⟩)) | (go_at_call 66; (with_reducible refine (annealref1_Class.calls k a0 a1 t444 _ A5.out).mono ?_); rintro e w' ⟨rfl, ⟨nd, rfl⟩⟩; (try first | exact ⟨rfl, _, World.drewN_drewN _ _ _⟩ | exact ⟨rfl, _, Eq.trans (World.drewN_drewN _ _ _) (congrArg (World.drewN _) (Nat.add_assoc _ _ _))⟩)) | (go_at_call 71; (with_reducible refine (annealref1_bias.calls a0 t447 _ A13.out).mono ?_); rintro e w' ⟨rfl, ⟨nd, rfl⟩⟩; (try first | exact ⟨rfl, _, World.drewN_drewN _ _ _⟩ | exact ⟨rfl, _, Eq.trans (World.drewN_drewN _ _ _) (congrArg (World.drewN _) (Nat.add_assoc _ _ _))⟩))))
    go_ret3
    exact ⟨by first | rfl | (simp; done) | (simp [*]; done) | (congr 1; (try unfold wrap64); omega) | (congr 1; rw [IntKind.wrap_u64]; omega), by repeat (first | exact Drawn0.refl _ | apply Drawn0.step)⟩
   ·rw [if_neg c12] at H
    have c12b0 : (t444 == 1) = false := beq_eq_false_iff_ne.mpr c12
    have c12b1 : (t444 != 1) = true := bne_iff_ne.mpr c12
    simp only [Option.some.injEq, Prod.mk.injEq] at H
    obtain ⟨rfl, rfl, rfl⟩ := H
    go_enter Try.func40, Try.ntmps40
    go_wp2_with (first | (go_at_call 23; (with_reducible refine (annealref1_Widths.calls a0 t439 t440 _ A3.out).mono ?_); rintro e w' ⟨rfl, ⟨nd, rfl⟩⟩; (try first | exact ⟨rfl, _, World.drewN_drewN _ _ _⟩ | exact ⟨rfl, _, Eq.trans (World.drewN_drewN _ _ _) (congrArg (World.drewN _) (Nat.add_assoc _ _ _))⟩)) | (go_at_call 67; (with_reducible refine (annealref1_parts.calls a0 a1 t441 t442 t443 _ A4.out).mono ?_); rintro e w' ⟨rfl, ⟨nd, rfl⟩⟩; (try first | exact ⟨rfl, _, World.drewN_drewN _ _ _⟩ | exact ⟨rfl, _, Eq.trans (World.drewN_drewN _ _ _) (congrArg (World.drewN _) (Nat.add_assoc _ _ _))⟩)) | (go_at_call 66; (with_reducible refine (annealref1_Class.calls k a0 a1 t444 _ A5.out).mono ?_); rintro e w' ⟨rfl, ⟨nd, rfl⟩⟩; (try first | exact ⟨rfl, _, World.drewN_drewN _ _ _⟩ | exact ⟨rfl, _, Eq.trans (World.drewN_drewN _ _ _) (congrArg (World.drewN _) (Nat.add_assoc _ _ _))⟩)))
    repeat (go_quiet (first | (go_at_call 23; (with_reducible refine (annealref1_Widths.calls a0 t439 t440 _ A3.out).mono ?_); rintro e w' ⟨rfl, ⟨nd, rfl⟩⟩; (try first | exact ⟨rfl, _, World.drewN_drewN _ _ _⟩ | exact ⟨rfl, _, Eq.trans (World.drewN_drewN _ _ _) (congrArg (World.drewN _) (Nat.add_assoc _ _ _))⟩)) | (go_at_call 67; (with_reducible refine (annealref1_parts.calls a0 a1 t441 t442 t443 _ A4.out).mono ?_); rintro e w' ⟨rfl, ⟨nd, rfl⟩⟩; (try first | exact ⟨rfl, _, World.drewN_drewN _ _ _⟩ | exact ⟨rfl, _, Eq.trans (World.drewN_drewN _ _ _) (congrArg (World.drewN _) (Nat.add_assoc _ _ _))⟩)) | (go_at_call 66; (with_reducible refine (annealref1_Class.calls k a0 a1 t444 _ A5.out).mono ?_); rintro e w' ⟨rfl, ⟨nd, rfl⟩⟩; (try first | exact ⟨rfl, _, World.drewN_drewN _ _ _⟩ | exact ⟨rfl, _, Eq.trans (World.drewN_drewN _ _ _) (congrArg (World.drewN _) (Nat.add_assoc _ _ _))⟩))); try go_wp2_with (first | (go_at_call 23; (with_reducible refine (annealref1_Widths.calls a0 t439 t440 _ A3.out).mono ?_); rintro e w' ⟨rfl, ⟨nd, rfl⟩⟩; (try first | exact ⟨rfl, _, World.drewN_drewN _ _ _⟩ | exact ⟨rfl, _, Eq.trans (World.drewN_drewN _ _ _) (congrArg (World.drewN _) (Nat.add_assoc _ _ _))⟩)) | (go_at_call 67; (with_reducible refine (annealref1_parts.calls a0 a1 t441 t442 t443 _ A4.out).mono ?_); rintro e w' ⟨rfl, ⟨nd, rfl⟩⟩; (try first | exact ⟨rfl, _, World.drewN_drewN _ _ _⟩ | exact ⟨rfl, _, Eq.trans (World.drewN_drewN _ _ _) (congrArg (World.drewN _) (Nat.add_assoc _ _ _))⟩)) | (go_at_call 66; (with_reducible refine (annealref1_Class.calls k a0 a1 t444 _ A5.out).mono ?_); rintro e w' ⟨rfl, ⟨nd, rfl⟩⟩; (try first | exact ⟨rfl, _, World.drewN_drewN _ _ _⟩ | exact ⟨rfl, _, Eq.trans (World.drewN_drewN _ _ _) (congrArg (World.drewN _) (Nat.add_assoc _ _ _))⟩))))
    go_ret3
    exact ⟨by first | rfl | (simp; done) | (simp [*]; done) | (congr 1; (try unfold wrap64); omega) | (congr 1; rw [IntKind.wrap_u64]; omega), by repeat (first | exact Drawn0.refl _ | apply Drawn0.step)⟩

end Go.Proofs.Ytejkemahdincjaa.P

/- Entries of functions. -/
namespace Go.Proofs.Ytejkemahdincjaa.L
open Go.RowKit Go.Proofs.Ytejkemahdincjaa.P Go.Proofs.Ytejkemahdincjaa.Ek Go.Proofs.YtejkemahdincjaaW.PrintWords Go.Proofs.YtejkemahdincjaaW.PrintLast Go.Proofs.YtejkemahdincjaaW.PrintMore
noncomputable def format_Zero.c : Fc := mkFc [hI .i64, hB] [hI .u32] (T := Int) (fun y => ((y, ()), ())) fun n x => format_Zero.f x.1.1 x.2.1.1
theorem format_Zero.ok : FcOk Try.prog 55 format_Zero.c := old_ok Try.func55 (by kernel_rfl) (by kernel_rfl) (by decide) (fun _ => giveR_ok (by decide) _) fun n x y h m w => (format_Zero.calls x.1.1 x.2.1.1 y w h).mono fun e w' he => ⟨he.1, he.2.below⟩
noncomputable def format_Widths.c : Fc := mkFc [hI .i64] [hI .i64, hI .i64] (T := Int × Int) (fun y => ((y.1, ()), (y.2, ()), ())) fun n x => format_Widths.f x.1.1
theorem format_Widths.ok : FcOk Try.prog 56 format_Widths.c := old_ok Try.func56 (by kernel_rfl) (by kernel_rfl) (by decide) (fun _ => giveR_ok (by decide) _) fun n x y h m w => (format_Widths.calls x.1.1 y.1 y.2 w h).mono fun e w' he => ⟨he.1, he.2.below⟩
noncomputable def round_Unit.c : Fc := mkFc [hI .i64, hI .i64, hI .u64] [hI .i64] (T := Int) (fun y => ((y, ()), ())) fun n x => round_Unit.f n x.1.1 x.2.1.1 x.2.2.1.1
theorem round_Unit.ok : FcOk Try.prog 57 round_Unit.c := old_ok Try.func57 (by kernel_rfl) (by kernel_rfl) (by decide) (fun _ => giveR_ok (by decide) _) fun n x y h m w => (round_Unit.calls n x.1.1 x.2.1.1 x.2.2.1.1 y w h).mono fun e w' he => ⟨he.1, he.2⟩
noncomputable def round_Units.c : Fc := mkFc [hI .u64, hI .i64, hB] [hI .u64, hI .i64] (T := Int × Int) (fun y => ((y.1, ()), (y.2, ()), ())) fun n x => round_Units.f n x.1.1 x.2.1.1 x.2.2.1.1
theorem round_Units.ok : FcOk Try.prog 58 round_Units.c := old_ok Try.func58 (by kernel_rfl) (by kernel_rfl) (by decide) (fun _ => giveR_ok (by decide) _) fun n x y h m w => (round_Units.calls n x.1.1 x.2.1.1 x.2.2.1.1 y.1 y.2 w h).mono fun e w' he => ⟨he.1, he.2.below⟩
noncomputable def round_Up.c : Fc := mkFc [hI .i64, hB, hI .u64, hI .i64] [hB] (T := Bool) (fun y => ((y, ()), ())) fun n x => round_Up.f x.1.1 x.2.1.1 x.2.2.1.1 x.2.2.2.1.1
theorem round_Up.ok : FcOk Try.prog 59 round_Up.c := old_ok Try.func59 (by kernel_rfl) (by kernel_rfl) (by decide) (fun _ => giveR_ok (by decide) _) fun n x y h m w => (round_Up.calls x.1.1 x.2.1.1 x.2.2.1.1 x.2.2.2.1.1 y w h).mono fun e w' he => ⟨he.1, he.2.below⟩
noncomputable def format_Least.c : Fc := mkFc [hI .i64] [hI .i64] (T := Int) (fun y => ((y, ()), ())) fun n x => format_Least.f x.1.1
theorem format_Least.ok : FcOk Try.prog 60 format_Least.c := old_ok Try.func60 (by kernel_rfl) (by kernel_rfl) (by decide) (fun _ => giveR_ok (by decide) _) fun n x y h m w => (format_Least.calls x.1.1 y w h).mono fun e w' he => ⟨he.1, he.2.below⟩
noncomputable def format_Top.c : Fc := mkFc [hI .i64] [hI .i64] (T := Int) (fun y => ((y, ()), ())) fun n x => format_Top.f x.1.1
theorem format_Top.ok : FcOk Try.prog 61 format_Top.c := old_ok Try.func61 (by kernel_rfl) (by kernel_rfl) (by decide) (fun _ => giveR_ok (by decide) _) fun n x y h m w => (format_Top.calls x.1.1 y w h).mono fun e w' he => ⟨he.1, he.2.below⟩
noncomputable def bits_Len.c : Fc := mkFc [hI .u64] [hI .i64] (T := Int) (fun y => ((y, ()), ())) fun n x => bits_Len.f n x.1.1
theorem bits_Len.ok : FcOk Try.prog 63 bits_Len.c := old_ok Try.func63 (by kernel_rfl) (by kernel_rfl) (by decide) (fun _ => giveR_ok (by decide) _) fun n x y h m w => (bits_Len.calls n x.1.1 y w h).mono fun e w' he => ⟨he.1, he.2.below⟩
noncomputable def bits_Cut.c : Fc := mkFc [hI .u64, hI .i64] [hI .u64] (T := Int) (fun y => ((y, ()), ())) fun n x => bits_Cut.f x.1.1 x.2.1.1
theorem bits_Cut.ok : FcOk Try.prog 65 bits_Cut.c := old_ok Try.func65 (by kernel_rfl) (by kernel_rfl) (by decide) (fun _ => giveR_ok (by decide) _) fun n x y h m w => (bits_Cut.calls x.1.1 x.2.1.1 y w h).mono fun e w' he => ⟨he.1, he.2.below⟩
noncomputable def format_Join.c : Fc := mkFc [hI .i64, hB, hI .i64, hI .u32] [hI .u32] (T := Int) (fun y => ((y, ()), ())) fun n x => format_Join.f x.1.1 x.2.1.1 x.2.2.1.1 x.2.2.2.1.1
theorem format_Join.ok : FcOk Try.prog 64 format_Join.c := old_ok Try.func64 (by kernel_rfl) (by kernel_rfl) (by decide) (fun _ => giveR_ok (by decide) _) fun n x y h m w => (format_Join.calls x.1.1 x.2.1.1 x.2.2.1.1 x.2.2.2.1.1 y w h).mono fun e w' he => ⟨he.1, he.2.below⟩
noncomputable def round_Pack.cls : Cls := [(55, format_Zero.c), (56, format_Widths.c), (57, round_Unit.c), (58, round_Units.c), (59, round_Up.c), (60, format_Least.c), (61, format_Top.c), (62, round_beyond.c), (63, bits_Len.c), (65, bits_Cut.c), (64, format_Join.c)]
theorem round_Pack.clsOk : ClsOk Try.prog round_Pack.cls := ClsOk.cons format_Zero.ok (ClsOk.cons format_Widths.ok (ClsOk.cons round_Unit.ok (ClsOk.cons round_Units.ok (ClsOk.cons round_Up.ok (ClsOk.cons format_Least.ok (ClsOk.cons format_Top.ok (ClsOk.cons round_beyond.ok (ClsOk.cons bits_Len.ok (ClsOk.cons bits_Cut.ok (ClsOk.cons format_Join.ok (ClsOk.nil)))))))))))
noncomputable def round_Pack.K (v : SV) : Option (Int × Bool × Bool × Bool × Bool × Bool) := (takeR [hI .u32, .agg [.b, .b, .b, .b, .b]] v).map (fun z => (z.1.1, z.2.1.1, z.2.1.2.1, z.2.1.2.2.1, z.2.1.2.2.2.1, z.2.1.2.2.2.2.1))
noncomputable def round_Pack.cuts : List Nat := [3, 9, 11, 14]
noncomputable def round_Pack.f (k : Nat) (a0 : Int) (a1 : Int) (a2 : Bool) (a3 : Int) (a4 : Int) (a5 : Bool) : Option (Int × Bool × Bool × Bool × Bool × Bool) := evF Try.prog round_Pack.cls Try.f32 round_Pack.cuts k [.one (.i .i64 (.x a0)), .one (.i .i64 (.x a1)), .one (.b (.q a2)), .one (.i .i64 (.x a3)), .one (.i .u64 (.x a4)), .one (.b (.q a5))] round_Pack.K
noncomputable def round_Pack.c : Fc := mkFc [hI .i64, hI .i64, hB, hI .i64, hI .u64, hB] [hI .u32, .agg [.b, .b, .b, .b, .b]] (T := Int × Bool × Bool × Bool × Bool × Bool) (fun y => ((y.1, ()), (y.2.1, y.2.2.1, y.2.2.2.1, y.2.2.2.2.1, y.2.2.2.2.2, ()), ())) fun n x => round_Pack.f n x.1.1 x.2.1.1 x.2.2.1.1 x.2.2.2.1.1 x.2.2.2.2.1.1 x.2.2.2.2.2.1.1
theorem round_Pack.ok : FcOk Try.prog 32 round_Pack.c := mkOk round_Pack.clsOk Try.func32 (by kernel_rfl) (by kernel_rfl) (by decide) (fun _ => rfl) (fun _ _ => rfl)
noncomputable def annealref1_nans.c : Fc := mkFcA [.s (hI .i64), .sl .u32] [hB, hB] (T := Bool × Bool) (fun y => ((y.1, ()), (y.2, ()), ())) fun n x => annealref1_nans.f n x.1.1 x.2.1
theorem annealref1_nans.ok : FcOk Try.prog 33 annealref1_nans.c := oldA_ok Try.func33 (by kernel_rfl) (by kernel_rfl) (by decide) (fun _ => giveR_ok (by decide) _) fun n x y h m w vs ha => by obtain ⟨q0, e0, ha⟩ := ha; subst e0; obtain ⟨A1, c1, q1, e1, R1, D1, ha⟩ := ha; subst e1; subst ha; exact (annealref1_nans.calls n x.1.1 A1 c1 x.2.1 y.1 y.2 w R1 D1 h).mono fun e w' he => ⟨he.1, he.2.below⟩
noncomputable def annealref1_Nan.c : Fc := mkFc [hI .i64] [hI .u32] (T := Int) (fun y => ((y, ()), ())) fun n x => annealref1_Nan.f x.1.1
theorem annealref1_Nan.ok : FcOk Try.prog 34 annealref1_Nan.c := old_ok Try.func34 (by kernel_rfl) (by kernel_rfl) (by decide) (fun _ => giveR_ok (by decide) _) fun n x y h m w => (annealref1_Nan.calls x.1.1 y w h).mono fun e w' he => ⟨he.1, he.2.below⟩
noncomputable def annealref1_neg.c : Fc := mkFc [hI .i64, hI .u32] [hB] (T := Bool) (fun y => ((y, ()), ())) fun n x => annealref1_neg.f x.1.1 x.2.1.1
theorem annealref1_neg.ok : FcOk Try.prog 36 annealref1_neg.c := old_ok Try.func36 (by kernel_rfl) (by kernel_rfl) (by decide) (fun _ => giveR_ok (by decide) _) fun n x y h m w => (annealref1_neg.calls x.1.1 x.2.1.1 y w h).mono fun e w' he => ⟨he.1, he.2.below⟩
noncomputable def annealref1_zero.c : Fc := mkFc [hI .i64, hI .u32] [hB] (T := Bool) (fun y => ((y, ()), ())) fun n x => annealref1_zero.f n x.1.1 x.2.1.1
theorem annealref1_zero.ok : FcOk Try.prog 37 annealref1_zero.c := old_ok Try.func37 (by kernel_rfl) (by kernel_rfl) (by decide) (fun _ => giveR_ok (by decide) _) fun n x y h m w => (annealref1_zero.calls n x.1.1 x.2.1.1 y w h).mono fun e w' he => ⟨he.1, he.2.below⟩
noncomputable def annealref1_inf.c : Fc := mkFc [hI .i64, hI .u32] [hB] (T := Bool) (fun y => ((y, ()), ())) fun n x => annealref1_inf.f n x.1.1 x.2.1.1
theorem annealref1_inf.ok : FcOk Try.prog 35 annealref1_inf.c := old_ok Try.func35 (by kernel_rfl) (by kernel_rfl) (by decide) (fun _ => giveR_ok (by decide) _) fun n x y h m w => (annealref1_inf.calls n x.1.1 x.2.1.1 y w h).mono fun e w' he => ⟨he.1, he.2.below⟩
noncomputable def annealref1_Inf.c : Fc := mkFc [hI .i64, hB] [hI .u32] (T := Int) (fun y => ((y, ()), ())) fun n x => annealref1_Inf.f x.1.1 x.2.1.1
theorem annealref1_Inf.ok : FcOk Try.prog 42 annealref1_Inf.c := old_ok Try.func42 (by kernel_rfl) (by kernel_rfl) (by decide) (fun _ => giveR_ok (by decide) _) fun n x y h m w => (annealref1_Inf.calls x.1.1 x.2.1.1 y w h).mono fun e w' he => ⟨he.1, he.2.below⟩
noncomputable def annealref1_Unpack.c : Fc := mkFc [hI .i64, hI .u32] [hB, hI .i64, hI .u64] (T := Bool × Int × Int) (fun y => ((y.1, ()), (y.2.1, ()), (y.2.2, ()), ())) fun n x => annealref1_Unpack.f n x.1.1 x.2.1.1
theorem annealref1_Unpack.ok : FcOk Try.prog 40 annealref1_Unpack.c := old_ok Try.func40 (by kernel_rfl) (by kernel_rfl) (by decide) (fun _ => giveR_ok (by decide) _) fun n x y h m w => (annealref1_Unpack.calls n x.1.1 x.2.1.1 y.1 y.2.1 y.2.2 w h).mono fun e w' he => ⟨he.1, he.2.below⟩
noncomputable def annealref1_Mul.cls : Cls := [(33, annealref1_nans.c), (34, annealref1_Nan.c), (36, annealref1_neg.c), (37, annealref1_zero.c), (35, annealref1_inf.c), (42, annealref1_Inf.c), (40, annealref1_Unpack.c), (43, annealref1_Pack.c)]
theorem annealref1_Mul.clsOk : ClsOk Try.prog annealref1_Mul.cls := ClsOk.cons annealref1_nans.ok (ClsOk.cons annealref1_Nan.ok (ClsOk.cons annealref1_neg.ok (ClsOk.cons annealref1_zero.ok (ClsOk.cons annealref1_inf.ok (ClsOk.cons annealref1_Inf.ok (ClsOk.cons annealref1_Unpack.ok (ClsOk.cons annealref1_Pack.ok (ClsOk.nil))))))))
noncomputable def annealref1_Mul.K (v : SV) : Option (Int × Bool × Bool × Bool × Bool × Bool) := (takeR [hI .u32, .agg [.b, .b, .b, .b, .b]] v).map (fun z => (z.1.1, z.2.1.1, z.2.1.2.1, z.2.1.2.2.1, z.2.1.2.2.2.1, z.2.1.2.2.2.2.1))
noncomputable def annealref1_Mul.cuts : List Nat := [6, 8]
noncomputable def annealref1_Mul.f (k : Nat) (a0 : Int) (a1 : Int) (a2 : Int) (a3 : Int) : Option (Int × Bool × Bool × Bool × Bool × Bool) := evF Try.prog annealref1_Mul.cls Try.f16 annealref1_Mul.cuts k [.one (.i .i64 (.x a0)), .one (.i .i64 (.x a1)), .one (.i .u32 (.x a2)), .one (.i .u32 (.x a3))] annealref1_Mul.K
noncomputable def annealref1_Mul.c : Fc := mkFc [hI .i64, hI .i64, hI .u32, hI .u32] [hI .u32, .agg [.b, .b, .b, .b, .b]] (T := Int × Bool × Bool × Bool × Bool × Bool) (fun y => ((y.1, ()), (y.2.1, y.2.2.1, y.2.2.2.1, y.2.2.2.2.1, y.2.2.2.2.2, ()), ())) fun n x => annealref1_Mul.f n x.1.1 x.2.1.1 x.2.2.1.1 x.2.2.2.1.1
theorem annealref1_Mul.ok : FcOk Try.prog 16 annealref1_Mul.c := mkOk annealref1_Mul.clsOk Try.func16 (by kernel_rfl) (by kernel_rfl) (by decide) (fun _ => rfl) (fun _ _ => rfl)
/- Entries of functions. -/
noncomputable def sum_Nans.c : Fc := mkFcA [.s (hI .i64), .sl .u32] [hI .u32, .agg [.b, .b, .b, .b, .b], hB] (T := Int × Bool × Bool × Bool × Bool × Bool × Bool) (fun y => ((y.1, ()), (y.2.1, y.2.2.1, y.2.2.2.1, y.2.2.2.2.1, y.2.2.2.2.2.1, ()), (y.2.2.2.2.2.2, ()), ())) fun n x => sum_Nans.f n x.1.1 x.2.1
theorem sum_Nans.ok : FcOk Try.prog 25 sum_Nans.c := oldA_ok Try.func25 (by kernel_rfl) (by kernel_rfl) (by decide) (fun _ => giveR_ok (by decide) _) fun n x y h m w vs ha => by obtain ⟨q0, e0, ha⟩ := ha; subst e0; obtain ⟨A1, c1, q1, e1, R1, D1, ha⟩ := ha; subst e1; subst ha; exact (sum_Nans.calls n x.1.1 A1 c1 x.2.1 y.1 y.2.1 y.2.2.1 y.2.2.2.1 y.2.2.2.2.1 y.2.2.2.2.2.1 y.2.2.2.2.2.2 w R1 D1 h).mono fun e w' he => ⟨he.1, he.2⟩
noncomputable def format_IsInf.c : Fc := mkFc [hI .i64, hI .u32] [hB] (T := Bool) (fun y => ((y, ()), ())) fun n x => format_IsInf.f n x.1.1 x.2.1.1
theorem format_IsInf.ok : FcOk Try.prog 26 format_IsInf.c := old_ok Try.func26 (by kernel_rfl) (by kernel_rfl) (by decide) (fun _ => giveR_ok (by decide) _) fun n x y h m w => (format_IsInf.calls n x.1.1 x.2.1.1 y w h).mono fun e w' he => ⟨he.1, he.2.below⟩
noncomputable def format_Neg.c : Fc := mkFc [hI .i64, hI .u32] [hB] (T := Bool) (fun y => ((y, ()), ())) fun n x => format_Neg.f x.1.1 x.2.1.1
theorem format_Neg.ok : FcOk Try.prog 28 format_Neg.c := old_ok Try.func28 (by kernel_rfl) (by kernel_rfl) (by decide) (fun _ => giveR_ok (by decide) _) fun n x y h m w => (format_Neg.calls x.1.1 x.2.1.1 y w h).mono fun e w' he => ⟨he.1, he.2.below⟩
noncomputable def sum_Infinite.c : Fc := mkFc [hI .i64, hB, hB, hB, hB] [hI .u32, .agg [.b, .b, .b, .b, .b]] (T := Int × Bool × Bool × Bool × Bool × Bool) (fun y => ((y.1, ()), (y.2.1, y.2.2.1, y.2.2.2.1, y.2.2.2.2.1, y.2.2.2.2.2, ()), ())) fun n x => sum_Infinite.f n x.1.1 x.2.1.1 x.2.2.1.1 x.2.2.2.1.1 x.2.2.2.2.1.1
theorem sum_Infinite.ok : FcOk Try.prog 27 sum_Infinite.c := old_ok Try.func27 (by kernel_rfl) (by kernel_rfl) (by decide) (fun _ => giveR_ok (by decide) _) fun n x y h m w => (sum_Infinite.calls n x.1.1 x.2.1.1 x.2.2.1.1 x.2.2.2.1.1 x.2.2.2.2.1.1 y.1 y.2.1 y.2.2.1 y.2.2.2.1 y.2.2.2.2.1 y.2.2.2.2.2 w h).mono fun e w' he => ⟨he.1, he.2⟩
noncomputable def sum_Of.c : Fc := mkFc [hI .i64, hI .u32] [.agg [.b, .i .i64, .i .u64, .b]] (T := Bool × Int × Int × Bool) (fun y => ((y.1, y.2.1, y.2.2.1, y.2.2.2, ()), ())) fun n x => sum_Of.f x.1.1 x.2.1.1
theorem sum_Of.ok : FcOk Try.prog 29 sum_Of.c := old_ok Try.func29 (by kernel_rfl) (by kernel_rfl) (by decide) (fun _ => giveR_ok (by decide) _) fun n x y h m w => (sum_Of.calls x.1.1 x.2.1.1 y.1 y.2.1 y.2.2.1 y.2.2.2 w h).mono fun e w' he => ⟨he.1, he.2⟩
noncomputable def sum_Nought.c : Fc := mkFc [hI .i64, hI .i64, hB, hB] [hI .u32] (T := Int) (fun y => ((y, ()), ())) fun n x => sum_Nought.f x.1.1 x.2.1.1 x.2.2.1.1 x.2.2.2.1.1
theorem sum_Nought.ok : FcOk Try.prog 31 sum_Nought.c := old_ok Try.func31 (by kernel_rfl) (by kernel_rfl) (by decide) (fun _ => giveR_ok (by decide) _) fun n x y h m w => (sum_Nought.calls x.1.1 x.2.1.1 x.2.2.1.1 x.2.2.2.1.1 y w h).mono fun e w' he => ⟨he.1, he.2.below⟩
noncomputable def sum_Add.cls : Cls := [(25, sum_Nans.c), (26, format_IsInf.c), (28, format_Neg.c), (27, sum_Infinite.c), (29, sum_Of.c), (30, sum_Exact.c), (31, sum_Nought.c), (32, round_Pack.c)]
theorem sum_Add.clsOk : ClsOk Try.prog sum_Add.cls := ClsOk.cons sum_Nans.ok (ClsOk.cons format_IsInf.ok (ClsOk.cons format_Neg.ok (ClsOk.cons sum_Infinite.ok (ClsOk.cons sum_Of.ok (ClsOk.cons sum_Exact.ok (ClsOk.cons sum_Nought.ok (ClsOk.cons round_Pack.ok (ClsOk.nil))))))))
noncomputable def sum_Add.K (v : SV) : Option (Int × Bool × Bool × Bool × Bool × Bool) := (takeR [hI .u32, .agg [.b, .b, .b, .b, .b]] v).map (fun z => (z.1.1, z.2.1.1, z.2.1.2.1, z.2.1.2.2.1, z.2.1.2.2.2.1, z.2.1.2.2.2.2.1))
noncomputable def sum_Add.cuts : List Nat := [6, 10]
noncomputable def sum_Add.f (k : Nat) (a0 : Int) (a1 : Int) (a2 : Int) (a3 : Int) : Option (Int × Bool × Bool × Bool × Bool × Bool) := evF Try.prog sum_Add.cls Try.f10 sum_Add.cuts k [.one (.i .i64 (.x a0)), .one (.i .i64 (.x a1)), .one (.i .u32 (.x a2)), .one (.i .u32 (.x a3))] sum_Add.K
noncomputable def sum_Add.c : Fc := mkFc [hI .i64, hI .i64, hI .u32, hI .u32] [hI .u32, .agg [.b, .b, .b, .b, .b]] (T := Int × Bool × Bool × Bool × Bool × Bool) (fun y => ((y.1, ()), (y.2.1, y.2.2.1, y.2.2.2.1, y.2.2.2.2.1, y.2.2.2.2.2, ()), ())) fun n x => sum_Add.f n x.1.1 x.2.1.1 x.2.2.1.1 x.2.2.2.1.1
theorem sum_Add.ok : FcOk Try.prog 10 sum_Add.c := mkOk sum_Add.clsOk Try.func10 (by kernel_rfl) (by kernel_rfl) (by decide) (fun _ => rfl) (fun _ _ => rfl)
noncomputable def prod_torn.c : Fc := mkFc [hI .i64, hI .u32, hI .u32] [hB] (T := Bool) (fun y => ((y, ()), ())) fun n x => prod_torn.f n x.1.1 x.2.1.1 x.2.2.1.1
theorem prod_torn.ok : FcOk Try.prog 45 prod_torn.c := old_ok Try.func45 (by kernel_rfl) (by kernel_rfl) (by decide) (fun _ => giveR_ok (by decide) _) fun n x y h m w => (prod_torn.calls n x.1.1 x.2.1.1 x.2.2.1.1 y w h).mono fun e w' he => ⟨he.1, he.2.below⟩
noncomputable def sum_Bad.c : Fc := mkFc [hI .i64] [hI .u32, .agg [.b, .b, .b, .b, .b]] (T := Int × Bool × Bool × Bool × Bool × Bool) (fun y => ((y.1, ()), (y.2.1, y.2.2.1, y.2.2.2.1, y.2.2.2.2.1, y.2.2.2.2.2, ()), ())) fun n x => sum_Bad.f x.1.1
theorem sum_Bad.ok : FcOk Try.prog 46 sum_Bad.c := old_ok Try.func46 (by kernel_rfl) (by kernel_rfl) (by decide) (fun _ => giveR_ok (by decide) _) fun n x y h m w => (sum_Bad.calls x.1.1 y.1 y.2.1 y.2.2.1 y.2.2.2.1 y.2.2.2.2.1 y.2.2.2.2.2 w h).mono fun e w' he => ⟨he.1, he.2⟩
noncomputable def prod_product.c : Fc := mkFc [hI .i64, hI .u32, hI .u32] [.agg [.b, .i .i64, .i .u64, .b]] (T := Bool × Int × Int × Bool) (fun y => ((y.1, y.2.1, y.2.2.1, y.2.2.2, ()), ())) fun n x => prod_product.f x.1.1 x.2.1.1 x.2.2.1.1
theorem prod_product.ok : FcOk Try.prog 47 prod_product.c := old_ok Try.func47 (by kernel_rfl) (by kernel_rfl) (by decide) (fun _ => giveR_ok (by decide) _) fun n x y h m w => (prod_product.calls x.1.1 x.2.1.1 x.2.2.1.1 y.1 y.2.1 y.2.2.1 y.2.2.2 w h).mono fun e w' he => ⟨he.1, he.2⟩
noncomputable def prod_Fma.cls : Cls := [(45, prod_torn.c), (25, sum_Nans.c), (46, sum_Bad.c), (28, format_Neg.c), (26, format_IsInf.c), (27, sum_Infinite.c), (47, prod_product.c), (29, sum_Of.c), (30, sum_Exact.c), (31, sum_Nought.c), (32, round_Pack.c)]
theorem prod_Fma.clsOk : ClsOk Try.prog prod_Fma.cls := ClsOk.cons prod_torn.ok (ClsOk.cons sum_Nans.ok (ClsOk.cons sum_Bad.ok (ClsOk.cons format_Neg.ok (ClsOk.cons format_IsInf.ok (ClsOk.cons sum_Infinite.ok (ClsOk.cons prod_product.ok (ClsOk.cons sum_Of.ok (ClsOk.cons sum_Exact.ok (ClsOk.cons sum_Nought.ok (ClsOk.cons round_Pack.ok (ClsOk.nil)))))))))))
noncomputable def prod_Fma.K (v : SV) : Option (Int × Bool × Bool × Bool × Bool × Bool) := (takeR [hI .u32, .agg [.b, .b, .b, .b, .b]] v).map (fun z => (z.1.1, z.2.1.1, z.2.1.2.1, z.2.1.2.2.1, z.2.1.2.2.2.1, z.2.1.2.2.2.2.1))
noncomputable def prod_Fma.cuts : List Nat := [10, 11, 15]
noncomputable def prod_Fma.f (k : Nat) (a0 : Int) (a1 : Int) (a2 : Int) (a3 : Int) (a4 : Int) : Option (Int × Bool × Bool × Bool × Bool × Bool) := evF Try.prog prod_Fma.cls Try.f18 prod_Fma.cuts k [.one (.i .i64 (.x a0)), .one (.i .i64 (.x a1)), .one (.i .u32 (.x a2)), .one (.i .u32 (.x a3)), .one (.i .u32 (.x a4))] prod_Fma.K
noncomputable def prod_Fma.c : Fc := mkFc [hI .i64, hI .i64, hI .u32, hI .u32, hI .u32] [hI .u32, .agg [.b, .b, .b, .b, .b]] (T := Int × Bool × Bool × Bool × Bool × Bool) (fun y => ((y.1, ()), (y.2.1, y.2.2.1, y.2.2.2.1, y.2.2.2.2.1, y.2.2.2.2.2, ()), ())) fun n x => prod_Fma.f n x.1.1 x.2.1.1 x.2.2.1.1 x.2.2.2.1.1 x.2.2.2.2.1.1
theorem prod_Fma.ok : FcOk Try.prog 18 prod_Fma.c := mkOk prod_Fma.clsOk Try.func18 (by kernel_rfl) (by kernel_rfl) (by decide) (fun _ => rfl) (fun _ _ => rfl)
noncomputable def prod_Mul.cls : Cls := [(25, sum_Nans.c), (45, prod_torn.c), (46, sum_Bad.c), (28, format_Neg.c), (26, format_IsInf.c), (48, format_Inf.c), (47, prod_product.c), (32, round_Pack.c)]
theorem prod_Mul.clsOk : ClsOk Try.prog prod_Mul.cls := ClsOk.cons sum_Nans.ok (ClsOk.cons prod_torn.ok (ClsOk.cons sum_Bad.ok (ClsOk.cons format_Neg.ok (ClsOk.cons format_IsInf.ok (ClsOk.cons format_Inf.ok (ClsOk.cons prod_product.ok (ClsOk.cons round_Pack.ok (ClsOk.nil))))))))
noncomputable def prod_Mul.K (v : SV) : Option (Int × Bool × Bool × Bool × Bool × Bool) := (takeR [hI .u32, .agg [.b, .b, .b, .b, .b]] v).map (fun z => (z.1.1, z.2.1.1, z.2.1.2.1, z.2.1.2.2.1, z.2.1.2.2.2.1, z.2.1.2.2.2.2.1))
noncomputable def prod_Mul.cuts : List Nat := [8]
noncomputable def prod_Mul.f (k : Nat) (a0 : Int) (a1 : Int) (a2 : Int) (a3 : Int) : Option (Int × Bool × Bool × Bool × Bool × Bool) := evF Try.prog prod_Mul.cls Try.f21 prod_Mul.cuts k [.one (.i .i64 (.x a0)), .one (.i .i64 (.x a1)), .one (.i .u32 (.x a2)), .one (.i .u32 (.x a3))] prod_Mul.K
noncomputable def prod_Mul.c : Fc := mkFc [hI .i64, hI .i64, hI .u32, hI .u32] [hI .u32, .agg [.b, .b, .b, .b, .b]] (T := Int × Bool × Bool × Bool × Bool × Bool) (fun y => ((y.1, ()), (y.2.1, y.2.2.1, y.2.2.2.1, y.2.2.2.2.1, y.2.2.2.2.2, ()), ())) fun n x => prod_Mul.f n x.1.1 x.2.1.1 x.2.2.1.1 x.2.2.2.1.1
theorem prod_Mul.ok : FcOk Try.prog 21 prod_Mul.c := mkOk prod_Mul.clsOk Try.func21 (by kernel_rfl) (by kernel_rfl) (by decide) (fun _ => rfl) (fun _ _ => rfl)
/- Functions' trees, printed by a tool of mine out of the reckoner; Lean's kernel checks each. -/
set_option maxRecDepth 100000
noncomputable def sum_Add.j6 (n0 : Nat) (x0 : Bool) (x1 : Bool) (x2 : Bool) (x3 : Int) (x4 : Int) (x5 : Int) (x6 : Int) (x7 : Bool) (x8 : Bool) (x9 : Bool) (x10 : Bool) (x11 : Bool) := evInJ Try.prog sum_Add.cls Try.f10 sum_Add.cuts [1, 1, 1, 0, 1] [n0] n0 ⟨[(39, (.pv (.one (.b (.q x0))))), (14, (.pv (.one (.b (.q x1))))), (13, (.pv (.one (.b (.q x2))))), (9, (.pv (.one (.p 0 0)))), (3, (.pv (.one (.i .u32 (.x x3))))), (2, (.pv (.one (.i .u32 (.x x4))))), (1, (.pv (.one (.i .i64 (.x x5))))), (0, (.pv (.one (.i .i64 (.x x6)))))], [(0, (29, [(.c (.b (.q x7))), (.c (.b (.q x8))), (.c (.b (.q x9))), (.c (.b (.q x10))), (.c (.b (.q x11)))]))], 1⟩ sum_Add.K
noncomputable def sum_Add.j10 (n0 : Nat) (x0 : Bool) (x1 : Int) (x2 : Int) (x3 : Bool) (x4 : Int) (x5 : Int) (x6 : Bool) (x7 : Bool) (x8 : Int) (x9 : Int) (x10 : Bool) (x11 : Bool) (x12 : Int) (x13 : Int) (x14 : Bool) (x15 : Bool) (x16 : Bool) (x17 : Bool) (x18 : Bool) (x19 : Bool) := evInJ Try.prog sum_Add.cls Try.f10 sum_Add.cuts [1, 1, 1, 1, 1, 1, 0, 1] [n0] n0 ⟨[(68, (.pv (.one (.b (.q x0))))), (17, (.pv (.one (.p 3 0)))), (16, (.pv (.one (.p 2 0)))), (15, (.pv (.one (.p 1 0)))), (9, (.pv (.one (.p 0 0)))), (1, (.pv (.one (.i .i64 (.x x1))))), (0, (.pv (.one (.i .i64 (.x x2)))))], [(3, (52, [(.c (.b (.q x3))), (.c (.i .i64 (.x x4))), (.c (.i .u64 (.x x5))), (.c (.b (.q x6)))])), (2, (52, [(.c (.b (.q x7))), (.c (.i .i64 (.x x8))), (.c (.i .u64 (.x x9))), (.c (.b (.q x10)))])), (1, (52, [(.c (.b (.q x11))), (.c (.i .i64 (.x x12))), (.c (.i .u64 (.x x13))), (.c (.b (.q x14)))])), (0, (29, [(.c (.b (.q x15))), (.c (.b (.q x16))), (.c (.b (.q x17))), (.c (.b (.q x18))), (.c (.b (.q x19)))]))], 4⟩ sum_Add.K
theorem sum_Add.eq (n0 : Nat) (a0 : Int) (a1 : Int) (a2 : Int) (a3 : Int) : sum_Add.f n0 a0 a1 a2 a3 = ((sum_Nans.f n0 a0 [a2, a3]).bind fun t0 => (if Prod.snd (Prod.snd (Prod.snd (Prod.snd (Prod.snd (Prod.snd t0))))) = true then (some ((Prod.fst t0, Prod.fst (Prod.snd t0), Prod.fst (Prod.snd (Prod.snd t0)), Prod.fst (Prod.snd (Prod.snd (Prod.snd t0))), Prod.fst (Prod.snd (Prod.snd (Prod.snd (Prod.snd t0)))), Prod.fst (Prod.snd (Prod.snd (Prod.snd (Prod.snd (Prod.snd t0)))))))) else ((format_IsInf.f n0 a0 a2).bind fun t1 => ((format_IsInf.f n0 a0 a3).bind fun t2 => (if t1 = true then (sum_Add.j6 n0 (true) (t2) (t1) (a3) (a2) (a1) (a0) (false) (false) (false) (false) (false)) else (sum_Add.j6 n0 (t2) (t2) (t1) (a3) (a2) (a1) (a0) (false) (false) (false) (false) (false))))))) := by kernel_rfl
theorem sum_Add.j6_eq (n0 : Nat) (x0 : Bool) (x1 : Bool) (x2 : Bool) (x3 : Int) (x4 : Int) (x5 : Int) (x6 : Int) (x7 : Bool) (x8 : Bool) (x9 : Bool) (x10 : Bool) (x11 : Bool) : sum_Add.j6 n0 x0 x1 x2 x3 x4 x5 x6 x7 x8 x9 x10 x11 = (if x0 = true then ((format_Neg.f x6 x4).bind fun t0 => ((format_Neg.f x6 x3).bind fun t1 => ((sum_Infinite.f n0 x6 t0 t1 x2 x1).bind fun t2 => (some ((Prod.fst t2, Prod.fst (Prod.snd t2), Prod.fst (Prod.snd (Prod.snd t2)), Prod.fst (Prod.snd (Prod.snd (Prod.snd t2))), Prod.fst (Prod.snd (Prod.snd (Prod.snd (Prod.snd t2)))), Prod.snd (Prod.snd (Prod.snd (Prod.snd (Prod.snd t2)))))))))) else ((sum_Of.f x6 x4).bind fun t0 => ((sum_Of.f x6 x3).bind fun t1 => ((Ytejkemahdincjaa.L.sum_Exact.f n0 (Prod.fst t0) (Prod.fst (Prod.snd t0)) (Prod.fst (Prod.snd (Prod.snd t0))) (Prod.snd (Prod.snd (Prod.snd t0))) (Prod.fst t1) (Prod.fst (Prod.snd t1)) (Prod.fst (Prod.snd (Prod.snd t1))) (Prod.snd (Prod.snd (Prod.snd t1)))).bind fun t2 => (if Prod.fst (Prod.snd (Prod.snd t2)) = 0 then (sum_Add.j10 n0 (!(Prod.snd (Prod.snd (Prod.snd t2)))) (x5) (x6) (t2.1) (Prod.fst (Prod.snd t2)) (Prod.fst (Prod.snd (Prod.snd t2))) ((Prod.snd (Prod.snd t2)).2) (t1.1) (Prod.fst (Prod.snd t1)) (Prod.fst (Prod.snd (Prod.snd t1))) ((Prod.snd (Prod.snd t1)).2) (t0.1) (Prod.fst (Prod.snd t0)) (Prod.fst (Prod.snd (Prod.snd t0))) ((Prod.snd (Prod.snd t0)).2) (x7) (x8) (x9) (x10) (x11)) else (sum_Add.j10 n0 (false) (x5) (x6) (t2.1) (Prod.fst (Prod.snd t2)) (Prod.fst (Prod.snd (Prod.snd t2))) ((Prod.snd (Prod.snd t2)).2) (t1.1) (Prod.fst (Prod.snd t1)) (Prod.fst (Prod.snd (Prod.snd t1))) ((Prod.snd (Prod.snd t1)).2) (t0.1) (Prod.fst (Prod.snd t0)) (Prod.fst (Prod.snd (Prod.snd t0))) ((Prod.snd (Prod.snd t0)).2) (x7) (x8) (x9) (x10) (x11))))))) := by kernel_rfl
theorem sum_Add.j10_eq (n0 : Nat) (x0 : Bool) (x1 : Int) (x2 : Int) (x3 : Bool) (x4 : Int) (x5 : Int) (x6 : Bool) (x7 : Bool) (x8 : Int) (x9 : Int) (x10 : Bool) (x11 : Bool) (x12 : Int) (x13 : Int) (x14 : Bool) (x15 : Bool) (x16 : Bool) (x17 : Bool) (x18 : Bool) (x19 : Bool) : sum_Add.j10 n0 x0 x1 x2 x3 x4 x5 x6 x7 x8 x9 x10 x11 x12 x13 x14 x15 x16 x17 x18 x19 = (if x0 = true then ((sum_Nought.f x2 x1 x11 x7).bind fun t0 => (some ((t0, false, false, false, false, false)))) else ((round_Pack.f n0 x2 x1 x3 x4 x5 x6).bind fun t0 => (some ((Prod.fst t0, Prod.fst (Prod.snd t0), Prod.fst (Prod.snd (Prod.snd t0)), Prod.fst (Prod.snd (Prod.snd (Prod.snd t0))), Prod.fst (Prod.snd (Prod.snd (Prod.snd (Prod.snd t0)))), Prod.snd (Prod.snd (Prod.snd (Prod.snd (Prod.snd t0))))))))) := by kernel_rfl
noncomputable def prod_Fma.j10 (n0 : Nat) (x0 : Bool) (x1 : Bool) (x2 : Bool) (x3 : Int) (x4 : Int) (x5 : Int) (x6 : Int) (x7 : Int) (x8 : Bool) (x9 : Bool) (x10 : Bool) (x11 : Bool) (x12 : Bool) := evInJ Try.prog prod_Fma.cls Try.f18 prod_Fma.cuts [1, 1, 1, 1, 1, 1] [n0] n0 ⟨[(18, (.pv (.one (.b (.q x0))))), (17, (.pv (.one (.b (.q x1))))), (16, (.pv (.one (.b (.q x2))))), (11, (.pv (.one (.p 0 0)))), (4, (.pv (.one (.i .u32 (.x x3))))), (3, (.pv (.one (.i .u32 (.x x4))))), (2, (.pv (.one (.i .u32 (.x x5))))), (1, (.pv (.one (.i .i64 (.x x6))))), (0, (.pv (.one (.i .i64 (.x x7)))))], [(0, (29, [(.c (.b (.q x8))), (.c (.b (.q x9))), (.c (.b (.q x10))), (.c (.b (.q x11))), (.c (.b (.q x12)))]))], 1⟩ prod_Fma.K
noncomputable def prod_Fma.j11 (n0 : Nat) (x0 : Bool) (x1 : Bool) (x2 : Bool) (x3 : Bool) (x4 : Int) (x5 : Int) (x6 : Int) (x7 : Int) (x8 : Int) (x9 : Bool) (x10 : Bool) (x11 : Bool) (x12 : Bool) (x13 : Bool) := evInJ Try.prog prod_Fma.cls Try.f18 prod_Fma.cuts [1, 1, 1, 1, 1, 1, 0, 1] [n0] n0 ⟨[(71, (.pv (.one (.b (.q x0))))), (18, (.pv (.one (.b (.q x1))))), (17, (.pv (.one (.b (.q x2))))), (16, (.pv (.one (.b (.q x3))))), (11, (.pv (.one (.p 0 0)))), (4, (.pv (.one (.i .u32 (.x x4))))), (3, (.pv (.one (.i .u32 (.x x5))))), (2, (.pv (.one (.i .u32 (.x x6))))), (1, (.pv (.one (.i .i64 (.x x7))))), (0, (.pv (.one (.i .i64 (.x x8)))))], [(0, (29, [(.c (.b (.q x9))), (.c (.b (.q x10))), (.c (.b (.q x11))), (.c (.b (.q x12))), (.c (.b (.q x13)))]))], 1⟩ prod_Fma.K
noncomputable def prod_Fma.j15 (n0 : Nat) (x0 : Bool) (x1 : Bool) (x2 : Int) (x3 : Int) (x4 : Bool) (x5 : Int) (x6 : Int) (x7 : Bool) (x8 : Bool) (x9 : Int) (x10 : Int) (x11 : Bool) (x12 : Bool) (x13 : Bool) (x14 : Bool) (x15 : Bool) (x16 : Bool) := evInJ Try.prog prod_Fma.cls Try.f18 prod_Fma.cuts [1, 1, 1, 1, 1, 1, 1, 1, 1, 0, 1] [n0] n0 ⟨[(99, (.pv (.one (.b (.q x0))))), (21, (.pv (.one (.p 3 0)))), (20, (.pv (.one (.p 2 0)))), (16, (.pv (.one (.b (.q x1))))), (11, (.pv (.one (.p 0 0)))), (1, (.pv (.one (.i .i64 (.x x2))))), (0, (.pv (.one (.i .i64 (.x x3)))))], [(3, (52, [(.c (.b (.q x4))), (.c (.i .i64 (.x x5))), (.c (.i .u64 (.x x6))), (.c (.b (.q x7)))])), (2, (52, [(.c (.b (.q x8))), (.c (.i .i64 (.x x9))), (.c (.i .u64 (.x x10))), (.c (.b (.q x11)))])), (0, (29, [(.c (.b (.q x12))), (.c (.b (.q x13))), (.c (.b (.q x14))), (.c (.b (.q x15))), (.c (.b (.q x16)))]))], 4⟩ prod_Fma.K
theorem prod_Fma.eq (n0 : Nat) (a0 : Int) (a1 : Int) (a2 : Int) (a3 : Int) (a4 : Int) : prod_Fma.f n0 a0 a1 a2 a3 a4 = ((prod_torn.f n0 a0 a2 a3).bind fun t0 => ((sum_Nans.f n0 a0 [a2, a3, a4]).bind fun t1 => (if Prod.snd (Prod.snd (Prod.snd (Prod.snd (Prod.snd (Prod.snd t1))))) = true then (if Prod.fst (Prod.snd t1) = true then (some ((Prod.fst t1, true, Prod.fst (Prod.snd (Prod.snd t1)), Prod.fst (Prod.snd (Prod.snd (Prod.snd t1))), Prod.fst (Prod.snd (Prod.snd (Prod.snd (Prod.snd t1)))), Prod.fst (Prod.snd (Prod.snd (Prod.snd (Prod.snd (Prod.snd t1)))))))) else (some ((Prod.fst t1, t0, Prod.fst (Prod.snd (Prod.snd t1)), Prod.fst (Prod.snd (Prod.snd (Prod.snd t1))), Prod.fst (Prod.snd (Prod.snd (Prod.snd (Prod.snd t1)))), Prod.fst (Prod.snd (Prod.snd (Prod.snd (Prod.snd (Prod.snd t1))))))))) else (if t0 = true then ((sum_Bad.f a0).bind fun t2 => (some ((Prod.fst t2, Prod.fst (Prod.snd t2), Prod.fst (Prod.snd (Prod.snd t2)), Prod.fst (Prod.snd (Prod.snd (Prod.snd t2))), Prod.fst (Prod.snd (Prod.snd (Prod.snd (Prod.snd t2)))), Prod.snd (Prod.snd (Prod.snd (Prod.snd (Prod.snd t2)))))))) else ((format_Neg.f a0 a2).bind fun t2 => ((format_Neg.f a0 a3).bind fun t3 => ((format_IsInf.f n0 a0 a2).bind fun t4 => (if t4 = true then ((format_IsInf.f n0 a0 a4).bind fun t5 => (prod_Fma.j10 n0 (t5) (true) (!(t2 == t3)) (a4) (a3) (a2) (a1) (a0) (false) (false) (false) (false) (false))) else ((format_IsInf.f n0 a0 a3).bind fun t5 => ((format_IsInf.f n0 a0 a4).bind fun t6 => (prod_Fma.j10 n0 (t6) (t5) (!(t2 == t3)) (a4) (a3) (a2) (a1) (a0) (false) (false) (false) (false) (false)))))))))))) := by kernel_rfl
theorem prod_Fma.j10_eq (n0 : Nat) (x0 : Bool) (x1 : Bool) (x2 : Bool) (x3 : Int) (x4 : Int) (x5 : Int) (x6 : Int) (x7 : Int) (x8 : Bool) (x9 : Bool) (x10 : Bool) (x11 : Bool) (x12 : Bool) : prod_Fma.j10 n0 x0 x1 x2 x3 x4 x5 x6 x7 x8 x9 x10 x11 x12 = (if x1 = true then (prod_Fma.j11 n0 (true) (x0) (x1) (x2) (x3) (x4) (x5) (x6) (x7) (x8) (x9) (x10) (x11) (x12)) else (prod_Fma.j11 n0 (x0) (x0) (x1) (x2) (x3) (x4) (x5) (x6) (x7) (x8) (x9) (x10) (x11) (x12))) := by kernel_rfl
theorem prod_Fma.j11_eq (n0 : Nat) (x0 : Bool) (x1 : Bool) (x2 : Bool) (x3 : Bool) (x4 : Int) (x5 : Int) (x6 : Int) (x7 : Int) (x8 : Int) (x9 : Bool) (x10 : Bool) (x11 : Bool) (x12 : Bool) (x13 : Bool) : prod_Fma.j11 n0 x0 x1 x2 x3 x4 x5 x6 x7 x8 x9 x10 x11 x12 x13 = (if x0 = true then ((format_Neg.f x8 x4).bind fun t0 => ((sum_Infinite.f n0 x8 x3 t0 x2 x1).bind fun t1 => (some ((Prod.fst t1, Prod.fst (Prod.snd t1), Prod.fst (Prod.snd (Prod.snd t1)), Prod.fst (Prod.snd (Prod.snd (Prod.snd t1))), Prod.fst (Prod.snd (Prod.snd (Prod.snd (Prod.snd t1)))), Prod.snd (Prod.snd (Prod.snd (Prod.snd (Prod.snd t1))))))))) else ((prod_product.f x8 x6 x5).bind fun t0 => ((sum_Of.f x8 x4).bind fun t1 => ((Ytejkemahdincjaa.L.sum_Exact.f n0 (Prod.fst t0) (Prod.fst (Prod.snd t0)) (Prod.fst (Prod.snd (Prod.snd t0))) (Prod.snd (Prod.snd (Prod.snd t0))) (Prod.fst t1) (Prod.fst (Prod.snd t1)) (Prod.fst (Prod.snd (Prod.snd t1))) (Prod.snd (Prod.snd (Prod.snd t1)))).bind fun t2 => (if Prod.fst (Prod.snd (Prod.snd t2)) = 0 then (prod_Fma.j15 n0 (!(Prod.snd (Prod.snd (Prod.snd t2)))) (x3) (x7) (x8) (t2.1) (Prod.fst (Prod.snd t2)) (Prod.fst (Prod.snd (Prod.snd t2))) ((Prod.snd (Prod.snd t2)).2) (t1.1) (Prod.fst (Prod.snd t1)) (Prod.fst (Prod.snd (Prod.snd t1))) ((Prod.snd (Prod.snd t1)).2) (x9) (x10) (x11) (x12) (x13)) else (prod_Fma.j15 n0 (false) (x3) (x7) (x8) (t2.1) (Prod.fst (Prod.snd t2)) (Prod.fst (Prod.snd (Prod.snd t2))) ((Prod.snd (Prod.snd t2)).2) (t1.1) (Prod.fst (Prod.snd t1)) (Prod.fst (Prod.snd (Prod.snd t1))) ((Prod.snd (Prod.snd t1)).2) (x9) (x10) (x11) (x12) (x13))))))) := by kernel_rfl
theorem prod_Fma.j15_eq (n0 : Nat) (x0 : Bool) (x1 : Bool) (x2 : Int) (x3 : Int) (x4 : Bool) (x5 : Int) (x6 : Int) (x7 : Bool) (x8 : Bool) (x9 : Int) (x10 : Int) (x11 : Bool) (x12 : Bool) (x13 : Bool) (x14 : Bool) (x15 : Bool) (x16 : Bool) : prod_Fma.j15 n0 x0 x1 x2 x3 x4 x5 x6 x7 x8 x9 x10 x11 x12 x13 x14 x15 x16 = (if x0 = true then ((sum_Nought.f x3 x2 x1 x8).bind fun t0 => (some ((t0, false, false, false, false, false)))) else ((round_Pack.f n0 x3 x2 x4 x5 x6 x7).bind fun t0 => (some ((Prod.fst t0, Prod.fst (Prod.snd t0), Prod.fst (Prod.snd (Prod.snd t0)), Prod.fst (Prod.snd (Prod.snd (Prod.snd t0))), Prod.fst (Prod.snd (Prod.snd (Prod.snd (Prod.snd t0)))), Prod.snd (Prod.snd (Prod.snd (Prod.snd (Prod.snd t0))))))))) := by kernel_rfl
noncomputable def prod_Mul.j8 (n0 : Nat) (x0 : Bool) (x1 : Bool) (x2 : Int) (x3 : Int) (x4 : Int) (x5 : Int) (x6 : Bool) (x7 : Bool) (x8 : Bool) (x9 : Bool) (x10 : Bool) := evInJ Try.prog prod_Mul.cls Try.f21 prod_Mul.cuts [1, 1, 1, 1, 0, 1] [n0] n0 ⟨[(49, (.pv (.one (.b (.q x0))))), (13, (.pv (.one (.b (.q x1))))), (9, (.pv (.one (.p 0 0)))), (3, (.pv (.one (.i .u32 (.x x2))))), (2, (.pv (.one (.i .u32 (.x x3))))), (1, (.pv (.one (.i .i64 (.x x4))))), (0, (.pv (.one (.i .i64 (.x x5)))))], [(0, (29, [(.c (.b (.q x6))), (.c (.b (.q x7))), (.c (.b (.q x8))), (.c (.b (.q x9))), (.c (.b (.q x10)))]))], 1⟩ prod_Mul.K
theorem prod_Mul.eq (n0 : Nat) (a0 : Int) (a1 : Int) (a2 : Int) (a3 : Int) : prod_Mul.f n0 a0 a1 a2 a3 = ((sum_Nans.f n0 a0 [a2, a3]).bind fun t0 => (if Prod.snd (Prod.snd (Prod.snd (Prod.snd (Prod.snd (Prod.snd t0))))) = true then (some ((Prod.fst t0, Prod.fst (Prod.snd t0), Prod.fst (Prod.snd (Prod.snd t0)), Prod.fst (Prod.snd (Prod.snd (Prod.snd t0))), Prod.fst (Prod.snd (Prod.snd (Prod.snd (Prod.snd t0)))), Prod.fst (Prod.snd (Prod.snd (Prod.snd (Prod.snd (Prod.snd t0)))))))) else ((prod_torn.f n0 a0 a2 a3).bind fun t1 => (if t1 = true then ((sum_Bad.f a0).bind fun t2 => (some ((Prod.fst t2, Prod.fst (Prod.snd t2), Prod.fst (Prod.snd (Prod.snd t2)), Prod.fst (Prod.snd (Prod.snd (Prod.snd t2))), Prod.fst (Prod.snd (Prod.snd (Prod.snd (Prod.snd t2)))), Prod.snd (Prod.snd (Prod.snd (Prod.snd (Prod.snd t2)))))))) else ((format_Neg.f a0 a2).bind fun t2 => ((format_Neg.f a0 a3).bind fun t3 => ((format_IsInf.f n0 a0 a2).bind fun t4 => (if t4 = true then (prod_Mul.j8 n0 (true) (!(t2 == t3)) (a3) (a2) (a1) (a0) (false) (false) (false) (false) (false)) else ((format_IsInf.f n0 a0 a3).bind fun t5 => (prod_Mul.j8 n0 (t5) (!(t2 == t3)) (a3) (a2) (a1) (a0) (false) (false) (false) (false) (false))))))))))) := by kernel_rfl
theorem prod_Mul.j8_eq (n0 : Nat) (x0 : Bool) (x1 : Bool) (x2 : Int) (x3 : Int) (x4 : Int) (x5 : Int) (x6 : Bool) (x7 : Bool) (x8 : Bool) (x9 : Bool) (x10 : Bool) : prod_Mul.j8 n0 x0 x1 x2 x3 x4 x5 x6 x7 x8 x9 x10 = (if x0 = true then ((format_Inf.f x5 x1).bind fun t0 => (some ((t0, false, false, false, false, false)))) else ((prod_product.f x5 x3 x2).bind fun t0 => ((round_Pack.f n0 x5 x4 x1 (Prod.fst (Prod.snd t0)) (Prod.fst (Prod.snd (Prod.snd t0))) false).bind fun t1 => (some ((Prod.fst t1, Prod.fst (Prod.snd t1), Prod.fst (Prod.snd (Prod.snd t1)), Prod.fst (Prod.snd (Prod.snd (Prod.snd t1))), Prod.fst (Prod.snd (Prod.snd (Prod.snd (Prod.snd t1)))), Prod.snd (Prod.snd (Prod.snd (Prod.snd (Prod.snd t1)))))))))) := by kernel_rfl
/- Functions' trees, printed by a tool of mine out of the reckoner; Lean's kernel checks each. -/
set_option maxRecDepth 100000
noncomputable def sum_Exact.j7 (n0 : Nat) (x0 : Bool) (x1 : Bool) (x2 : Int) (x3 : Int) (x4 : Bool) (x5 : Bool) (x6 : Int) (x7 : Int) (x8 : Bool) (x9 : Bool) (x10 : Int) (x11 : Int) (x12 : Bool) := evInJ Try.prog sum_Exact.cls Try.f30 sum_Exact.cuts [1, 1, 1, 0, 1] [n0] n0 ⟨[(39, (.pv (.one (.b (.q x0))))), (4, (.pv (.one (.p 2 0)))), (3, (.pv (.one (.p 1 0)))), (2, (.pv (.one (.p 0 0))))], [(2, (52, [(.c (.b (.q x1))), (.c (.i .i64 (.x x2))), (.c (.i .u64 (.x x3))), (.c (.b (.q x4)))])), (1, (52, [(.c (.b (.q x5))), (.c (.i .i64 (.x x6))), (.c (.i .u64 (.x x7))), (.c (.b (.q x8)))])), (0, (52, [(.c (.b (.q x9))), (.c (.i .i64 (.x x10))), (.c (.i .u64 (.x x11))), (.c (.b (.q x12)))]))], 3⟩ sum_Exact.K
noncomputable def sum_Exact.j8 (n0 : Nat) (x0 : Bool) (x1 : Int) (x2 : Int) (x3 : Bool) (x4 : Bool) (x5 : Int) (x6 : Int) (x7 : Bool) (x8 : Bool) (x9 : Int) (x10 : Int) (x11 : Bool) := evInJ Try.prog sum_Exact.cls Try.f30 sum_Exact.cuts [1, 1, 1, 1] [n0] n0 ⟨[(4, (.pv (.one (.p 2 0)))), (3, (.pv (.one (.p 1 0)))), (2, (.pv (.one (.p 0 0))))], [(2, (52, [(.c (.b (.q x0))), (.c (.i .i64 (.x x1))), (.c (.i .u64 (.x x2))), (.c (.b (.q x3)))])), (1, (52, [(.c (.b (.q x4))), (.c (.i .i64 (.x x5))), (.c (.i .u64 (.x x6))), (.c (.b (.q x7)))])), (0, (52, [(.c (.b (.q x8))), (.c (.i .i64 (.x x9))), (.c (.i .u64 (.x x10))), (.c (.b (.q x11)))]))], 3⟩ sum_Exact.K
noncomputable def sum_Exact.j16 (n0 : Nat) (x0 : Bool) (x1 : Int) (x2 : Int) (x3 : Bool) (x4 : Bool) (x5 : Int) (x6 : Int) (x7 : Bool) := evInJ Try.prog sum_Exact.cls Try.f30 sum_Exact.cuts [1, 1, 1, 1, 1, 1, 1, 1, 1] [n0] n0 ⟨[(4, (.pv (.one (.p 2 0)))), (2, (.pv (.one (.p 0 0))))], [(2, (52, [(.c (.b (.q x0))), (.c (.i .i64 (.x x1))), (.c (.i .u64 (.x x2))), (.c (.b (.q x3)))])), (0, (52, [(.c (.b (.q x4))), (.c (.i .i64 (.x x5))), (.c (.i .u64 (.x x6))), (.c (.b (.q x7)))]))], 3⟩ sum_Exact.K
theorem sum_Exact.eq (n0 : Nat) (a0_0 : Bool) (a0_1 : Int) (a0_2 : Int) (a0_3 : Bool) (a1_0 : Bool) (a1_1 : Int) (a1_2 : Int) (a1_3 : Bool) : sum_Exact.f n0 a0_0 a0_1 a0_2 a0_3 a1_0 a1_1 a1_2 a1_3 = (if a0_2 = 0 then (some ((a1_0, a1_1, a1_2, a1_3))) else (if a1_2 = 0 then (some ((a0_0, a0_1, a0_2, a0_3))) else ((sum_full.f n0 a0_0 a0_1 a0_2 a0_3).bind fun t0 => ((sum_full.f n0 a1_0 a1_1 a1_2 a1_3).bind fun t1 => (if Prod.fst (Prod.snd t0) < Prod.fst (Prod.snd t1) then (sum_Exact.j7 n0 (true) (false) (Int.ofNat 0) (Int.ofNat 0) (false) (t1.1) (Prod.fst (Prod.snd t1)) (Prod.fst (Prod.snd (Prod.snd t1))) ((Prod.snd (Prod.snd t1)).2) (t0.1) (Prod.fst (Prod.snd t0)) (Prod.fst (Prod.snd (Prod.snd t0))) ((Prod.snd (Prod.snd t0)).2)) else (if Prod.fst (Prod.snd t0) = Prod.fst (Prod.snd t1) then (sum_Exact.j7 n0 (Decidable.rec (fun h => false) (fun h => true) (Int.decLt (Prod.fst (Prod.snd (Prod.snd t0))) (Prod.fst (Prod.snd (Prod.snd t1))))) (false) (Int.ofNat 0) (Int.ofNat 0) (false) (t1.1) (Prod.fst (Prod.snd t1)) (Prod.fst (Prod.snd (Prod.snd t1))) ((Prod.snd (Prod.snd t1)).2) (t0.1) (Prod.fst (Prod.snd t0)) (Prod.fst (Prod.snd (Prod.snd t0))) ((Prod.snd (Prod.snd t0)).2)) else (sum_Exact.j7 n0 (false) (false) (Int.ofNat 0) (Int.ofNat 0) (false) (t1.1) (Prod.fst (Prod.snd t1)) (Prod.fst (Prod.snd (Prod.snd t1))) ((Prod.snd (Prod.snd t1)).2) (t0.1) (Prod.fst (Prod.snd t0)) (Prod.fst (Prod.snd (Prod.snd t0))) ((Prod.snd (Prod.snd t0)).2)))))))) := by kernel_rfl
theorem sum_Exact.j7_eq (n0 : Nat) (x0 : Bool) (x1 : Bool) (x2 : Int) (x3 : Int) (x4 : Bool) (x5 : Bool) (x6 : Int) (x7 : Int) (x8 : Bool) (x9 : Bool) (x10 : Int) (x11 : Int) (x12 : Bool) : sum_Exact.j7 n0 x0 x1 x2 x3 x4 x5 x6 x7 x8 x9 x10 x11 x12 = (if x0 = true then (sum_Exact.j8 n0 (x1) (x2) (x3) (x4) (x9) (x10) (x11) (x12) (x5) (x6) (x7) (x8)) else (sum_Exact.j8 n0 (x1) (x2) (x3) (x4) (x5) (x6) (x7) (x8) (x9) (x10) (x11) (x12))) := by kernel_rfl
theorem sum_Exact.j8_eq (n0 : Nat) (x0 : Bool) (x1 : Int) (x2 : Int) (x3 : Bool) (x4 : Bool) (x5 : Int) (x6 : Int) (x7 : Bool) (x8 : Bool) (x9 : Int) (x10 : Int) (x11 : Bool) : sum_Exact.j8 n0 x0 x1 x2 x3 x4 x5 x6 x7 x8 x9 x10 x11 = ((bits_Shift.f n0 x6 (wrap64 (x9 - x5))).bind fun t0 => (if (x8 == x4) = true then (some ((x8, x9, IntKind.wrap IntKind.u64 (x10 + Prod.fst t0), Prod.snd t0))) else (if Prod.snd t0 = true then (sum_Exact.j16 n0 (x0) (x1) (x2) (x3) (x8) (x9) (IntKind.wrap IntKind.u64 (IntKind.wrap IntKind.u64 (x10 - Prod.fst t0) - 1)) (t0.2)) else (sum_Exact.j16 n0 (x0) (x1) (x2) (x3) (x8) (x9) (IntKind.wrap IntKind.u64 (x10 - Prod.fst t0)) (t0.2))))) := by kernel_rfl
theorem sum_Exact.j16_eq (n0 : Nat) (x0 : Bool) (x1 : Int) (x2 : Int) (x3 : Bool) (x4 : Bool) (x5 : Int) (x6 : Int) (x7 : Bool) : sum_Exact.j16 n0 x0 x1 x2 x3 x4 x5 x6 x7 = (some ((x4, x5, x6, x7))) := by kernel_rfl
theorem round_beyond.eq (n0 : Nat) (a0 : Int) (a1 : Int) (a2 : Bool) : round_beyond.f n0 a0 a1 a2 = (if a1 = 1 then ((format_Greatest.f a0 a2).bind fun t0 => (some ((t0, false, false, true, false, true)))) else (if a1 = 2 then (if a2 = true then ((format_Greatest.f a0 a2).bind fun t0 => (some ((t0, false, false, true, false, true)))) else ((format_Inf.f a0 a2).bind fun t0 => (some ((t0, false, false, true, false, true))))) else (if a1 = 3 then (if a2 = true then ((format_Inf.f a0 a2).bind fun t0 => (some ((t0, false, false, true, false, true)))) else ((format_Greatest.f a0 a2).bind fun t0 => (some ((t0, false, false, true, false, true))))) else ((format_Inf.f a0 a2).bind fun t0 => (some ((t0, false, false, true, false, true))))))) := by kernel_rfl
theorem annealseat_Num.eq (n0 : Nat) (a0 : Int) (a1 : Int) : annealseat_Num.f n0 a0 a1 = ((annealref1_Widths.f a0).bind fun t0 => (if 0 ≤ Prod.fst t0 then (if 0 ≤ Prod.snd t0 then (if 0 ≤ Prod.snd t0 then (if 0 ≤ Prod.snd t0 then (if 0 ≤ Prod.snd t0 then (if 0 ≤ Prod.snd t0 then (if shl IntKind.u32 3 (Prod.snd t0) = 0 then none else (if 0 ≤ Prod.snd t0 then (if 0 ≤ Prod.snd t0 then (if 0 ≤ Prod.snd t0 then (if 0 ≤ Prod.snd t0 then (if 0 ≤ wrap64 (Prod.snd t0 - 1) then (if 0 ≤ Prod.snd t0 then (if shl IntKind.u32 9 (Prod.snd t0) = 0 then none else (if 0 ≤ Int.tmod a1 15 then (if Int.tmod a1 15 < ↑15 then ((annealref1_Mask.f a0).bind fun t1 => (if shr IntKind.u32 a1 31 = 1 then ((annealref1_Zero.f a0 true).bind fun t2 => (some (bits BinOp.or IntKind.u32 (bits BinOp.and IntKind.u32 (rd [0, 1, (shl IntKind.u32 1 (Prod.snd t0) - 1) % 4294967296, shl IntKind.u32 1 (Prod.snd t0), shl IntKind.u32 (shr IntKind.u32 ((shl IntKind.u32 1 (Prod.fst t0) - 1) % 4294967296) 1) (Prod.snd t0), (shl IntKind.u32 (shr IntKind.u32 ((shl IntKind.u32 1 (Prod.fst t0) - 1) % 4294967296) 1) (Prod.snd t0) + 1) % 4294967296, (shl IntKind.u32 (shr IntKind.u32 ((shl IntKind.u32 1 (Prod.fst t0) - 1) % 4294967296) 1) (Prod.snd t0) - 1) % 4294967296, (shl IntKind.u32 (shr IntKind.u32 ((shl IntKind.u32 1 (Prod.fst t0) - 1) % 4294967296) 1) (Prod.snd t0) + shl IntKind.u32 1 (Prod.snd t0)) % 4294967296, (shl IntKind.u32 (shr IntKind.u32 ((shl IntKind.u32 1 (Prod.fst t0) - 1) % 4294967296) 1) (Prod.snd t0) + Int.tmod (shr IntKind.u32 a1 4) (shl IntKind.u32 3 (Prod.snd t0))) % 4294967296, (shl IntKind.u32 ((shl IntKind.u32 1 (Prod.fst t0) - 1) % 4294967296) (Prod.snd t0) - 1) % 4294967296, shl IntKind.u32 ((shl IntKind.u32 1 (Prod.fst t0) - 1) % 4294967296) (Prod.snd t0), bits BinOp.or IntKind.u32 (shl IntKind.u32 ((shl IntKind.u32 1 (Prod.fst t0) - 1) % 4294967296) (Prod.snd t0)) 1, bits BinOp.or IntKind.u32 (shl IntKind.u32 ((shl IntKind.u32 1 (Prod.fst t0) - 1) % 4294967296) (Prod.snd t0)) (shl IntKind.u32 1 (wrap64 (Prod.snd t0 - 1))), (shl IntKind.u32 (shr IntKind.u32 ((shl IntKind.u32 1 (Prod.fst t0) - 1) % 4294967296) 1) (Prod.snd t0) - Int.tmod (shr IntKind.u32 a1 4) (shl IntKind.u32 9 (Prod.snd t0))) % 4294967296, shr IntKind.u32 a1 4] (Int.tmod a1 15)) t1) t2))) else (some (bits BinOp.and IntKind.u32 (rd [0, 1, (shl IntKind.u32 1 (Prod.snd t0) - 1) % 4294967296, shl IntKind.u32 1 (Prod.snd t0), shl IntKind.u32 (shr IntKind.u32 ((shl IntKind.u32 1 (Prod.fst t0) - 1) % 4294967296) 1) (Prod.snd t0), (shl IntKind.u32 (shr IntKind.u32 ((shl IntKind.u32 1 (Prod.fst t0) - 1) % 4294967296) 1) (Prod.snd t0) + 1) % 4294967296, (shl IntKind.u32 (shr IntKind.u32 ((shl IntKind.u32 1 (Prod.fst t0) - 1) % 4294967296) 1) (Prod.snd t0) - 1) % 4294967296, (shl IntKind.u32 (shr IntKind.u32 ((shl IntKind.u32 1 (Prod.fst t0) - 1) % 4294967296) 1) (Prod.snd t0) + shl IntKind.u32 1 (Prod.snd t0)) % 4294967296, (shl IntKind.u32 (shr IntKind.u32 ((shl IntKind.u32 1 (Prod.fst t0) - 1) % 4294967296) 1) (Prod.snd t0) + Int.tmod (shr IntKind.u32 a1 4) (shl IntKind.u32 3 (Prod.snd t0))) % 4294967296, (shl IntKind.u32 ((shl IntKind.u32 1 (Prod.fst t0) - 1) % 4294967296) (Prod.snd t0) - 1) % 4294967296, shl IntKind.u32 ((shl IntKind.u32 1 (Prod.fst t0) - 1) % 4294967296) (Prod.snd t0), bits BinOp.or IntKind.u32 (shl IntKind.u32 ((shl IntKind.u32 1 (Prod.fst t0) - 1) % 4294967296) (Prod.snd t0)) 1, bits BinOp.or IntKind.u32 (shl IntKind.u32 ((shl IntKind.u32 1 (Prod.fst t0) - 1) % 4294967296) (Prod.snd t0)) (shl IntKind.u32 1 (wrap64 (Prod.snd t0 - 1))), (shl IntKind.u32 (shr IntKind.u32 ((shl IntKind.u32 1 (Prod.fst t0) - 1) % 4294967296) 1) (Prod.snd t0) - Int.tmod (shr IntKind.u32 a1 4) (shl IntKind.u32 9 (Prod.snd t0))) % 4294967296, shr IntKind.u32 a1 4] (Int.tmod a1 15)) t1)))) else none) else none)) else none) else none) else none) else none) else none) else none)) else none) else none) else none) else none) else none) else none)) := by kernel_rfl
noncomputable def annealref1_Pack.j3 (n0 : Nat) (x0 : Bool) (x1 : Bool) (x2 : Int) (x3 : Int) (x4 : Bool) (x5 : Int) (x6 : Int) (x7 : Bool) (x8 : Bool) (x9 : Bool) (x10 : Bool) (x11 : Bool) := evInJ Try.prog annealref1_Pack.cls Try.f43 annealref1_Pack.cuts [1, 1, 0, 1] [n0] n0 ⟨[(35, (.pv (.one (.b (.q x0))))), (13, (.pv (.one (.p 0 0)))), (5, (.pv (.one (.b (.q x1))))), (4, (.pv (.one (.i .u64 (.x x2))))), (3, (.pv (.one (.i .i64 (.x x3))))), (2, (.pv (.one (.b (.q x4))))), (1, (.pv (.one (.i .i64 (.x x5))))), (0, (.pv (.one (.i .i64 (.x x6)))))], [(0, (29, [(.c (.b (.q x7))), (.c (.b (.q x8))), (.c (.b (.q x9))), (.c (.b (.q x10))), (.c (.b (.q x11)))]))], 1⟩ annealref1_Pack.K
noncomputable def annealref1_Pack.j9 (n0 : Nat) (x0 : Int) (x1 : Int) (x2 : Int) (x3 : Bool) (x4 : Int) (x5 : Int) (x6 : Bool) (x7 : Int) (x8 : Int) (x9 : Bool) (x10 : Bool) (x11 : Bool) (x12 : Bool) (x13 : Bool) := evInJ Try.prog annealref1_Pack.cls Try.f43 annealref1_Pack.cuts [1, 1, 1, 1, 1, 1, 1] [n0] n0 ⟨[(17, (.pv (.one (.i .i64 (.x x0))))), (16, (.pv (.one (.i .i64 (.x x1))))), (15, (.pv (.one (.i .i64 (.x x2))))), (13, (.pv (.one (.p 0 0)))), (5, (.pv (.one (.b (.q x3))))), (4, (.pv (.one (.i .u64 (.x x4))))), (3, (.pv (.one (.i .i64 (.x x5))))), (2, (.pv (.one (.b (.q x6))))), (1, (.pv (.one (.i .i64 (.x x7))))), (0, (.pv (.one (.i .i64 (.x x8)))))], [(0, (29, [(.c (.b (.q x9))), (.c (.b (.q x10))), (.c (.b (.q x11))), (.c (.b (.q x12))), (.c (.b (.q x13)))]))], 1⟩ annealref1_Pack.K
noncomputable def annealref1_Pack.j12 (n0 : Nat) (x0 : Bool) (x1 : Bool) (x2 : Int) (x3 : Int) (x4 : Int) (x5 : Int) (x6 : Int) (x7 : Bool) (x8 : Int) (x9 : Int) (x10 : Bool) (x11 : Bool) (x12 : Bool) (x13 : Bool) (x14 : Bool) := evInJ Try.prog annealref1_Pack.cls Try.f43 annealref1_Pack.cuts [1, 1, 1, 1, 1, 1, 1, 1, 1, 1] [n0] n0 ⟨[(21, (.pv (.one (.b (.q x0))))), (20, (.pv (.one (.b (.q x1))))), (19, (.pv (.one (.i .u64 (.x x2))))), (18, (.pv (.one (.i .i64 (.x x3))))), (17, (.pv (.one (.i .i64 (.x x4))))), (16, (.pv (.one (.i .i64 (.x x5))))), (15, (.pv (.one (.i .i64 (.x x6))))), (13, (.pv (.one (.p 0 0)))), (2, (.pv (.one (.b (.q x7))))), (1, (.pv (.one (.i .i64 (.x x8))))), (0, (.pv (.one (.i .i64 (.x x9)))))], [(0, (29, [(.c (.b (.q x10))), (.c (.b (.q x11))), (.c (.b (.q x12))), (.c (.b (.q x13))), (.c (.b (.q x14)))]))], 1⟩ annealref1_Pack.K
noncomputable def annealref1_Pack.j13 (n0 : Nat) (x0 : Bool) (x1 : Bool) (x2 : Bool) (x3 : Int) (x4 : Int) (x5 : Int) (x6 : Int) (x7 : Int) (x8 : Bool) (x9 : Int) (x10 : Int) (x11 : Bool) (x12 : Bool) (x13 : Bool) (x14 : Bool) (x15 : Bool) := evInJ Try.prog annealref1_Pack.cls Try.f43 annealref1_Pack.cuts [1, 1, 1, 1, 1, 1, 1, 1, 1, 1, 1] [n0] n0 ⟨[(22, (.pv (.one (.b (.q x0))))), (21, (.pv (.one (.b (.q x1))))), (20, (.pv (.one (.b (.q x2))))), (19, (.pv (.one (.i .u64 (.x x3))))), (18, (.pv (.one (.i .i64 (.x x4))))), (17, (.pv (.one (.i .i64 (.x x5))))), (16, (.pv (.one (.i .i64 (.x x6))))), (15, (.pv (.one (.i .i64 (.x x7))))), (13, (.pv (.one (.p 0 0)))), (2, (.pv (.one (.b (.q x8))))), (1, (.pv (.one (.i .i64 (.x x9))))), (0, (.pv (.one (.i .i64 (.x x10)))))], [(0, (29, [(.c (.b (.q x11))), (.c (.b (.q x12))), (.c (.b (.q x13))), (.c (.b (.q x14))), (.c (.b (.q x15)))]))], 1⟩ annealref1_Pack.K
noncomputable def annealref1_Pack.j15 (n0 : Nat) (x0 : Bool) (x1 : Int) (x2 : Int) (x3 : Int) (x4 : Int) (x5 : Int) (x6 : Bool) (x7 : Int) (x8 : Int) (x9 : Bool) (x10 : Bool) (x11 : Bool) (x12 : Bool) (x13 : Bool) := evInJ Try.prog annealref1_Pack.cls Try.f43 annealref1_Pack.cuts [1, 1, 1, 1, 1, 1, 1, 1, 1, 1, 1, 1] [n0] n0 ⟨[(22, (.pv (.one (.b (.q x0))))), (19, (.pv (.one (.i .u64 (.x x1))))), (18, (.pv (.one (.i .i64 (.x x2))))), (17, (.pv (.one (.i .i64 (.x x3))))), (16, (.pv (.one (.i .i64 (.x x4))))), (15, (.pv (.one (.i .i64 (.x x5))))), (13, (.pv (.one (.p 0 0)))), (2, (.pv (.one (.b (.q x6))))), (1, (.pv (.one (.i .i64 (.x x7))))), (0, (.pv (.one (.i .i64 (.x x8)))))], [(0, (29, [(.c (.b (.q x9))), (.c (.b (.q x10))), (.c (.b (.q x11))), (.c (.b (.q x12))), (.c (.b (.q x13)))]))], 1⟩ annealref1_Pack.K
noncomputable def annealref1_Pack.j18 (n0 : Nat) (x0 : Int) (x1 : Int) (x2 : Int) (x3 : Bool) (x4 : Int) (x5 : Int) (x6 : Bool) (x7 : Bool) (x8 : Bool) (x9 : Bool) (x10 : Bool) (x11 : Bool) (x12 : Bool) (x13 : Bool) (x14 : Bool) (x15 : Bool) := evInJ Try.prog annealref1_Pack.cls Try.f43 annealref1_Pack.cuts [1, 1, 1, 1, 1, 1, 1, 1, 1, 1, 1, 1, 1, 1] [n0] n0 ⟨[(23, (.pv (.one (.p 1 0)))), (19, (.pv (.one (.i .u64 (.x x0))))), (18, (.pv (.one (.i .i64 (.x x1))))), (15, (.pv (.one (.i .i64 (.x x2))))), (13, (.pv (.one (.p 0 0)))), (2, (.pv (.one (.b (.q x3))))), (1, (.pv (.one (.i .i64 (.x x4))))), (0, (.pv (.one (.i .i64 (.x x5)))))], [(1, (29, [(.c (.b (.q x6))), (.c (.b (.q x7))), (.c (.b (.q x8))), (.c (.b (.q x9))), (.c (.b (.q x10)))])), (0, (29, [(.c (.b (.q x11))), (.c (.b (.q x12))), (.c (.b (.q x13))), (.c (.b (.q x14))), (.c (.b (.q x15)))]))], 2⟩ annealref1_Pack.K
theorem annealref1_Pack.eq (n0 : Nat) (a0 : Int) (a1 : Int) (a2 : Bool) (a3 : Int) (a4 : Int) (a5 : Bool) : annealref1_Pack.f n0 a0 a1 a2 a3 a4 a5 = (if a4 = 0 then (annealref1_Pack.j3 n0 (!(a5)) (a5) (a4) (mn (mx a3 (-10000)) 10000) (a2) (a1) (a0) (false) (false) (false) (false) (false)) else (annealref1_Pack.j3 n0 (false) (a5) (a4) (mn (mx a3 (-10000)) 10000) (a2) (a1) (a0) (false) (false) (false) (false) (false))) := by kernel_rfl
theorem annealref1_Pack.j3_eq (n0 : Nat) (x0 : Bool) (x1 : Bool) (x2 : Int) (x3 : Int) (x4 : Bool) (x5 : Int) (x6 : Int) (x7 : Bool) (x8 : Bool) (x9 : Bool) (x10 : Bool) (x11 : Bool) : annealref1_Pack.j3 n0 x0 x1 x2 x3 x4 x5 x6 x7 x8 x9 x10 x11 = (if x0 = true then ((annealref1_Zero.f x6 x4).bind fun t0 => (some ((t0, false, false, false, false, false)))) else ((annealref1_Widths.f x6).bind fun t0 => ((annealref1_bias.f x6).bind fun t1 => ((annealref1_Len.f n0 x2).bind fun t2 => (if x2 = 0 then (annealref1_Pack.j9 n0 (Int.negSucc 19999) (wrap64 (1 - t1)) (Prod.snd t0) (x1) (x2) (x3) (x4) (x5) (x6) (x7) (x8) (x9) (x10) (x11)) else (annealref1_Pack.j9 n0 (wrap64 (wrap64 (x3 + t2) - 1)) (wrap64 (1 - t1)) (Prod.snd t0) (x1) (x2) (x3) (x4) (x5) (x6) (x7) (x8) (x9) (x10) (x11))))))) := by kernel_rfl
theorem annealref1_Pack.j9_eq (n0 : Nat) (x0 : Int) (x1 : Int) (x2 : Int) (x3 : Bool) (x4 : Int) (x5 : Int) (x6 : Bool) (x7 : Int) (x8 : Int) (x9 : Bool) (x10 : Bool) (x11 : Bool) (x12 : Bool) (x13 : Bool) : annealref1_Pack.j9 n0 x0 x1 x2 x3 x4 x5 x6 x7 x8 x9 x10 x11 x12 x13 = ((annealref1_divide.f n0 x4 (wrap64 (wrap64 (mx x0 x1 - x2) - x5))).bind fun t0 => (if Prod.snd (Prod.snd t0) = true then (annealref1_Pack.j12 n0 (true) ((Prod.snd t0).1) (Prod.fst t0) (wrap64 (mx x0 x1 - x2)) (x0) (x1) (x2) (x6) (x7) (x8) (x9) (x10) (x11) (x12) (x13)) else (annealref1_Pack.j12 n0 (x3) ((Prod.snd t0).1) (Prod.fst t0) (wrap64 (mx x0 x1 - x2)) (x0) (x1) (x2) (x6) (x7) (x8) (x9) (x10) (x11) (x12) (x13)))) := by kernel_rfl
theorem annealref1_Pack.j12_eq (n0 : Nat) (x0 : Bool) (x1 : Bool) (x2 : Int) (x3 : Int) (x4 : Int) (x5 : Int) (x6 : Int) (x7 : Bool) (x8 : Int) (x9 : Int) (x10 : Bool) (x11 : Bool) (x12 : Bool) (x13 : Bool) (x14 : Bool) : annealref1_Pack.j12 n0 x0 x1 x2 x3 x4 x5 x6 x7 x8 x9 x10 x11 x12 x13 x14 = (if x1 = true then (annealref1_Pack.j13 n0 (true) (x0) (x1) (x2) (x3) (x4) (x5) (x6) (x7) (x8) (x9) (x10) (x11) (x12) (x13) (x14)) else (annealref1_Pack.j13 n0 (x0) (x0) (x1) (x2) (x3) (x4) (x5) (x6) (x7) (x8) (x9) (x10) (x11) (x12) (x13) (x14))) := by kernel_rfl
theorem annealref1_Pack.j13_eq (n0 : Nat) (x0 : Bool) (x1 : Bool) (x2 : Bool) (x3 : Int) (x4 : Int) (x5 : Int) (x6 : Int) (x7 : Int) (x8 : Bool) (x9 : Int) (x10 : Int) (x11 : Bool) (x12 : Bool) (x13 : Bool) (x14 : Bool) (x15 : Bool) : annealref1_Pack.j13 n0 x0 x1 x2 x3 x4 x5 x6 x7 x8 x9 x10 x11 x12 x13 x14 x15 = ((annealref1_up.f x9 x8 (bits BinOp.and IntKind.u64 x3 1 == 1) x2 x1).bind fun t0 => (if t0 = true then (annealref1_Pack.j15 n0 (x0) (IntKind.wrap IntKind.u64 (x3 + 1)) (x4) (x5) (x6) (x7) (x8) (x9) (x10) (x11) (x12) (x13) (x14) (x15)) else (annealref1_Pack.j15 n0 (x0) (x3) (x4) (x5) (x6) (x7) (x8) (x9) (x10) (x11) (x12) (x13) (x14) (x15)))) := by kernel_rfl
theorem annealref1_Pack.j15_eq (n0 : Nat) (x0 : Bool) (x1 : Int) (x2 : Int) (x3 : Int) (x4 : Int) (x5 : Int) (x6 : Bool) (x7 : Int) (x8 : Int) (x9 : Bool) (x10 : Bool) (x11 : Bool) (x12 : Bool) (x13 : Bool) : annealref1_Pack.j15 n0 x0 x1 x2 x3 x4 x5 x6 x7 x8 x9 x10 x11 x12 x13 = (if x0 = true then (if 0 ≤ wrap64 (x5 + 1) then (if x1 = shl IntKind.u64 1 (wrap64 (x5 + 1)) then (annealref1_Pack.j18 n0 (shr IntKind.u64 x1 1) (wrap64 (x2 + 1)) (x5) (x6) (x7) (x8) (false) (false) (false) (Decidable.rec (fun h => false) (fun h => true) (Int.decLt x3 x4)) (x0) (x9) (x10) (x11) (x12) (x13)) else (annealref1_Pack.j18 n0 (x1) (x2) (x5) (x6) (x7) (x8) (false) (false) (false) (Decidable.rec (fun h => false) (fun h => true) (Int.decLt x3 x4)) (x0) (x9) (x10) (x11) (x12) (x13))) else none) else (if 0 ≤ wrap64 (x5 + 1) then (if x1 = shl IntKind.u64 1 (wrap64 (x5 + 1)) then (annealref1_Pack.j18 n0 (shr IntKind.u64 x1 1) (wrap64 (x2 + 1)) (x5) (x6) (x7) (x8) (false) (false) (false) (false) (x0) (x9) (x10) (x11) (x12) (x13)) else (annealref1_Pack.j18 n0 (x1) (x2) (x5) (x6) (x7) (x8) (false) (false) (false) (false) (x0) (x9) (x10) (x11) (x12) (x13))) else none)) := by kernel_rfl
theorem annealref1_Pack.j18_eq (n0 : Nat) (x0 : Int) (x1 : Int) (x2 : Int) (x3 : Bool) (x4 : Int) (x5 : Int) (x6 : Bool) (x7 : Bool) (x8 : Bool) (x9 : Bool) (x10 : Bool) (x11 : Bool) (x12 : Bool) (x13 : Bool) (x14 : Bool) (x15 : Bool) : annealref1_Pack.j18 n0 x0 x1 x2 x3 x4 x5 x6 x7 x8 x9 x10 x11 x12 x13 x14 x15 = (if 0 ≤ x2 then (if x0 < shl IntKind.u64 1 x2 then ((annealref1_sign.f x5 x3).bind fun t0 => (some ((bits BinOp.or IntKind.u32 t0 (x0 % 4294967296), x6, x7, x8, x9, x10)))) else ((annealref1_bias.f x5).bind fun t0 => ((annealref1_Widths.f x5).bind fun t1 => (if 0 ≤ Prod.fst t1 then (if wrap64 (shl IntKind.i64 1 (Prod.fst t1) - 1) ≤ wrap64 (wrap64 (x1 + x2) + t0) then ((annealref1_over.f n0 x5 x4 x3).bind fun t2 => (some ((t2, false, false, true, false, true)))) else (if 0 ≤ x2 then (if 0 ≤ x2 then ((annealref1_sign.f x5 x3).bind fun t2 => (some ((bits BinOp.or IntKind.u32 (bits BinOp.or IntKind.u32 t2 (shl IntKind.u32 (wrap64 (wrap64 (x1 + x2) + t0) % 4294967296) x2)) (bits BinOp.and IntKind.u64 x0 (IntKind.wrap IntKind.u64 (shl IntKind.u64 1 x2 - 1)) % 4294967296), x6, x7, x8, x9, x10)))) else none) else none)) else none)))) else none) := by kernel_rfl
end Go.Proofs.Ytejkemahdincjaa.L

/- What the reckoner tells of printed functions. -/
namespace Go.Proofs.Ytejkemahdincjaa.P
open Go.RowKit Go.Proofs.YtejkemahdincjaaW.PrintWords Go.Proofs.YtejkemahdincjaaW.PrintLast Go.Proofs.YtejkemahdincjaaW.PrintMore
theorem sum_Exact.j2_le {k n : Nat} (hk : k ≤ n) {x160000 : Bool} {x160001 : Int} {x160002 : Int} {x160003 : Bool} {ex0 : Bool} {ex1 : Int} {ex2 : Int} {ex3 : Bool} : LeO (sum_Exact.j2 k x160000 x160001 x160002 x160003) (L.sum_Exact.j16 n ex0 ex1 ex2 ex3 x160000 x160001 x160002 x160003) := by
 cases k with
 |zero => rw [sum_Exact.j2]; exact LeO.none _
 |succ k =>
 replace hk := Nat.le_of_succ_le hk
 rw [sum_Exact.j2, L.sum_Exact.j16_eq]
 repeat' first
  |(with_reducible exact LeO.refl _)
  |exact LeO.none _
  |(with_reducible exact fun r h => at_rounds (sum_full.mono _ _ _ _) hk h)
  |(with_reducible exact fun r h => at_rounds (bits_Shift.mono _ _) hk h)
  |(with_reducible refine LeO.bind ?_ (fun _ => ?_))
  |(with_reducible refine LeO.ite3 Iff.rfl (fun _ => ?_) (fun _ => ?_))
  |exact fun r h => at_rounds (sum_full.mono _ _ _ _) hk h
  |exact fun r h => at_rounds (bits_Shift.mono _ _) hk h
  |exact LeO.refl _
  |(with_reducible refine LeO.pos (by assumption) ?_)
  |(with_reducible refine LeO.neg (by assumption) ?_)
  |(with_reducible refine LeO.posl (by assumption) ?_)
  |(with_reducible refine LeO.negl (by assumption) ?_)
  |(with_reducible refine LeO.ite3 (by omega) (fun _ => ?_) (fun _ => ?_))
theorem sum_Exact.j1_le {k n : Nat} (hk : k ≤ n) {x160000 : Bool} {x160001 : Int} {x160002 : Int} {x160003 : Bool} {x161000 : Bool} {x161001 : Int} {x161002 : Int} {x161003 : Bool} {ex0 : Bool} {ex1 : Int} {ex2 : Int} {ex3 : Bool} : LeO (sum_Exact.j1 k x160000 x160001 x160002 x160003 x161000 x161001 x161002 x161003) (L.sum_Exact.j8 n ex0 ex1 ex2 ex3 x161000 x161001 x161002 x161003 x160000 x160001 x160002 x160003) := by
 cases k with
 |zero => rw [sum_Exact.j1]; exact LeO.none _
 |succ k =>
 replace hk := Nat.le_of_succ_le hk
 rw [sum_Exact.j1, L.sum_Exact.j8_eq]
 repeat' first
  |(with_reducible exact LeO.refl _)
  |exact LeO.none _
  |(with_reducible exact sum_Exact.j2_le hk)
  |(with_reducible exact fun r h => at_rounds (sum_full.mono _ _ _ _) hk h)
  |(with_reducible exact fun r h => at_rounds (bits_Shift.mono _ _) hk h)
  |(with_reducible refine LeO.bind ?_ (fun _ => ?_))
  |(with_reducible refine LeO.ite3 Iff.rfl (fun _ => ?_) (fun _ => ?_))
  |exact sum_Exact.j2_le hk
  |exact fun r h => at_rounds (sum_full.mono _ _ _ _) hk h
  |exact fun r h => at_rounds (bits_Shift.mono _ _) hk h
  |exact LeO.refl _
  |(with_reducible refine LeO.pos (by assumption) ?_)
  |(with_reducible refine LeO.neg (by assumption) ?_)
  |(with_reducible refine LeO.posl (by assumption) ?_)
  |(with_reducible refine LeO.negl (by assumption) ?_)
  |(with_reducible refine LeO.ite3 (by omega) (fun _ => ?_) (fun _ => ?_))
theorem sum_Exact.j0_le {k n : Nat} (hk : k ≤ n) {x39 : Bool} {x160000 : Bool} {x160001 : Int} {x160002 : Int} {x160003 : Bool} {x161000 : Bool} {x161001 : Int} {x161002 : Int} {x161003 : Bool} {ex1 : Bool} {ex2 : Int} {ex3 : Int} {ex4 : Bool} : LeO (sum_Exact.j0 k x39 x160000 x160001 x160002 x160003 x161000 x161001 x161002 x161003) (L.sum_Exact.j7 n x39 ex1 ex2 ex3 ex4 x161000 x161001 x161002 x161003 x160000 x160001 x160002 x160003) := by
 cases k with
 |zero => rw [sum_Exact.j0]; exact LeO.none _
 |succ k =>
 replace hk := Nat.le_of_succ_le hk
 rw [sum_Exact.j0, L.sum_Exact.j7_eq]
 repeat' first
  |(with_reducible exact LeO.refl _)
  |exact LeO.none _
  |(with_reducible exact sum_Exact.j2_le hk)
  |(with_reducible exact sum_Exact.j1_le hk)
  |(with_reducible exact fun r h => at_rounds (sum_full.mono _ _ _ _) hk h)
  |(with_reducible exact fun r h => at_rounds (bits_Shift.mono _ _) hk h)
  |(with_reducible refine LeO.bind ?_ (fun _ => ?_))
  |(with_reducible refine LeO.ite3 Iff.rfl (fun _ => ?_) (fun _ => ?_))
  |exact sum_Exact.j2_le hk
  |exact sum_Exact.j1_le hk
  |exact fun r h => at_rounds (sum_full.mono _ _ _ _) hk h
  |exact fun r h => at_rounds (bits_Shift.mono _ _) hk h
  |exact LeO.refl _
  |(with_reducible refine LeO.pos (by assumption) ?_)
  |(with_reducible refine LeO.neg (by assumption) ?_)
  |(with_reducible refine LeO.posl (by assumption) ?_)
  |(with_reducible refine LeO.negl (by assumption) ?_)
  |(with_reducible refine LeO.ite3 (by omega) (fun _ => ?_) (fun _ => ?_))
theorem sum_Exact.le {k n : Nat} (hk : k ≤ n) {a0_0 : Bool} {a0_1 : Int} {a0_2 : Int} {a0_3 : Bool} {a1_0 : Bool} {a1_1 : Int} {a1_2 : Int} {a1_3 : Bool} : LeO (sum_Exact.f k a0_0 a0_1 a0_2 a0_3 a1_0 a1_1 a1_2 a1_3) (L.sum_Exact.f n a0_0 a0_1 a0_2 a0_3 a1_0 a1_1 a1_2 a1_3) := by
 unfold sum_Exact.f
 rw [L.sum_Exact.eq]
 repeat' first
  |(with_reducible exact LeO.refl _)
  |exact LeO.none _
  |(with_reducible exact sum_Exact.j2_le hk)
  |(with_reducible exact sum_Exact.j1_le hk)
  |(with_reducible exact sum_Exact.j0_le hk)
  |(with_reducible exact fun r h => at_rounds (sum_full.mono _ _ _ _) hk h)
  |(with_reducible exact fun r h => at_rounds (bits_Shift.mono _ _) hk h)
  |(with_reducible refine LeO.bind ?_ (fun _ => ?_))
  |(with_reducible refine LeO.ite3 Iff.rfl (fun _ => ?_) (fun _ => ?_))
  |exact sum_Exact.j2_le hk
  |exact sum_Exact.j1_le hk
  |exact sum_Exact.j0_le hk
  |exact fun r h => at_rounds (sum_full.mono _ _ _ _) hk h
  |exact fun r h => at_rounds (bits_Shift.mono _ _) hk h
  |exact LeO.refl _
  |(with_reducible refine LeO.pos (by assumption) ?_)
  |(with_reducible refine LeO.neg (by assumption) ?_)
  |(with_reducible refine LeO.posl (by assumption) ?_)
  |(with_reducible refine LeO.negl (by assumption) ?_)
  |(with_reducible refine LeO.ite3 (by omega) (fun _ => ?_) (fun _ => ?_))
theorem sum_Exact.calls (k : Nat) (a0_0 : Bool) (a0_1 : Int) (a0_2 : Int) (a0_3 : Bool) (a1_0 : Bool) (a1_1 : Int) (a1_2 : Int) (a1_3 : Bool) (r1 : Bool) (r2 : Int) (r3 : Int) (r4 : Bool) (w : World) (h : sum_Exact.f k a0_0 a0_1 a0_2 a0_3 a1_0 a1_1 a1_2 a1_3 = some (r1, r2, r3, r4)) :
  Calls Try.prog 30 #[.agg #[.bool a0_0, .int .i64 a0_1, .int .u64 a0_2, .bool a0_3], .agg #[.bool a1_0, .int .i64 a1_1, .int .u64 a1_2, .bool a1_3]] w fun e w' => e = .returned (.agg #[.bool r1, .int .i64 r2, .int .u64 r3, .bool r4]) ∧ Below w.heap.size w w' :=
 Go.Proofs.Ytejkemahdincjaa.Ek.calls_of L.sum_Exact.ok k ((a0_0, a0_1, a0_2, a0_3, ()), (a1_0, a1_1, a1_2, a1_3, ()), ()) (r1, r2, r3, r4) rfl (sum_Exact.le (Nat.le_refl _) _ h) w
theorem round_beyond.le {k n : Nat} (hk : k ≤ n) {a0 : Int} {a1 : Int} {a2 : Bool} : LeO (round_beyond.f a0 a1 a2) (L.round_beyond.f n a0 a1 a2) := by
 unfold round_beyond.f
 rw [L.round_beyond.eq]
 repeat' first
  |(with_reducible exact LeO.refl _)
  |exact LeO.none _
  |(with_reducible refine LeO.bind ?_ (fun _ => ?_))
  |(with_reducible refine LeO.ite3 Iff.rfl (fun _ => ?_) (fun _ => ?_))
  |exact LeO.refl _
  |(with_reducible refine LeO.pos (by assumption) ?_)
  |(with_reducible refine LeO.neg (by assumption) ?_)
  |(with_reducible refine LeO.posl (by assumption) ?_)
  |(with_reducible refine LeO.negl (by assumption) ?_)
  |(with_reducible refine LeO.ite3 (by omega) (fun _ => ?_) (fun _ => ?_))
theorem round_beyond.calls (a0 : Int) (a1 : Int) (a2 : Bool) (r1 : Int) (r2 : Bool) (r3 : Bool) (r4 : Bool) (r5 : Bool) (r6 : Bool) (w : World) (h : round_beyond.f a0 a1 a2 = some (r1, r2, r3, r4, r5, r6)) :
  Calls Try.prog 62 #[.int .i64 a0, .int .i64 a1, .bool a2] w fun e w' => e = .returned (.tuple #[.int .u32 r1, .agg #[.bool r2, .bool r3, .bool r4, .bool r5, .bool r6]]) ∧ Below w.heap.size w w' :=
 Go.Proofs.Ytejkemahdincjaa.Ek.calls_of L.round_beyond.ok 0 ((a0, ()), (a1, ()), (a2, ()), ()) (r1, r2, r3, r4, r5, r6) rfl (round_beyond.le (Nat.le_refl _) _ h) w
theorem annealseat_Num.le {k n : Nat} (hk : k ≤ n) {a0 : Int} {a1 : Int} : LeO (annealseat_Num.f a0 a1) (L.annealseat_Num.f n a0 a1) := by
 unfold annealseat_Num.f
 rw [L.annealseat_Num.eq]
 repeat' first
  |(with_reducible exact LeO.refl _)
  |exact LeO.none _
  |(with_reducible refine LeO.bind ?_ (fun _ => ?_))
  |(with_reducible refine LeO.ite3 Iff.rfl (fun _ => ?_) (fun _ => ?_))
  |exact LeO.refl _
  |(with_reducible refine LeO.pos (by assumption) ?_)
  |(with_reducible refine LeO.neg (by assumption) ?_)
  |(with_reducible refine LeO.posl (by assumption) ?_)
  |(with_reducible refine LeO.negl (by assumption) ?_)
  |(with_reducible refine LeO.ite3 (by omega) (fun _ => ?_) (fun _ => ?_))
theorem annealseat_Num.calls (a0 : Int) (a1 : Int) (r : Int) (w : World) (h : annealseat_Num.f a0 a1 = some r) :
  Calls Try.prog 8 #[.int .i64 a0, .int .u32 a1] w fun e w' => e = .returned (.int .u32 r) ∧ Below w.heap.size w w' :=
 Go.Proofs.Ytejkemahdincjaa.Ek.calls_of L.annealseat_Num.ok 0 ((a0, ()), (a1, ()), ()) r rfl (annealseat_Num.le (Nat.le_refl _) _ h) w
theorem annealref1_Pack.j6_le {k n : Nat} (hk : k ≤ n) {x0 : Int} {x1 : Int} {x2 : Bool} {x15 : Int} {x18 : Int} {x19 : Int} {x384000 : Bool} {x384001 : Bool} {x384002 : Bool} {x384003 : Bool} {x384004 : Bool} {ex11 : Bool} {ex12 : Bool} {ex13 : Bool} {ex14 : Bool} {ex15 : Bool} : LeO (annealref1_Pack.j6 k x0 x1 x2 x15 x18 x19 x384000 x384001 x384002 x384003 x384004) (L.annealref1_Pack.j18 n x19 x18 x15 x2 x1 x0 x384000 x384001 x384002 x384003 x384004 ex11 ex12 ex13 ex14 ex15) := by
 cases k with
 |zero => rw [annealref1_Pack.j6]; exact LeO.none _
 |succ k =>
 replace hk := Nat.le_of_succ_le hk
 rw [annealref1_Pack.j6, L.annealref1_Pack.j18_eq]
 repeat' first
  |(with_reducible exact LeO.refl _)
  |exact LeO.none _
  |(with_reducible exact fun r h => at_rounds (annealref1_Len.mono _) hk h)
  |(with_reducible exact fun r h => at_rounds (annealref1_divide.mono _ _) hk h)
  |(with_reducible exact fun r h => at_rounds (annealref1_over.mono _ _ _) hk h)
  |(with_reducible refine LeO.bind ?_ (fun _ => ?_))
  |(with_reducible refine LeO.ite3 Iff.rfl (fun _ => ?_) (fun _ => ?_))
  |exact fun r h => at_rounds (annealref1_Len.mono _) hk h
  |exact fun r h => at_rounds (annealref1_divide.mono _ _) hk h
  |exact fun r h => at_rounds (annealref1_over.mono _ _ _) hk h
  |exact LeO.refl _
  |(with_reducible refine LeO.pos (by assumption) ?_)
  |(with_reducible refine LeO.neg (by assumption) ?_)
  |(with_reducible refine LeO.posl (by assumption) ?_)
  |(with_reducible refine LeO.negl (by assumption) ?_)
  |(with_reducible refine LeO.ite3 (by omega) (fun _ => ?_) (fun _ => ?_))
theorem annealref1_Pack.j5_le {k n : Nat} (hk : k ≤ n) {x0 : Int} {x1 : Int} {x2 : Bool} {x15 : Int} {x18 : Int} {x19 : Int} {x377000 : Bool} {x377001 : Bool} {x377002 : Bool} {x377003 : Bool} {x377004 : Bool} {ex11 : Bool} {ex12 : Bool} {ex13 : Bool} {ex14 : Bool} {ex15 : Bool} : LeO (annealref1_Pack.j5 k x0 x1 x2 x15 x18 x19 x377000 x377001 x377002 x377003 x377004) (L.annealref1_Pack.j18 n x19 x18 x15 x2 x1 x0 x377000 x377001 x377002 x377003 x377004 ex11 ex12 ex13 ex14 ex15) := by
 cases k with
 |zero => rw [annealref1_Pack.j5]; exact LeO.none _
 |succ k =>
 replace hk := Nat.le_of_succ_le hk
 rw [annealref1_Pack.j5, L.annealref1_Pack.j18_eq]
 repeat' first
  |(with_reducible exact LeO.refl _)
  |exact LeO.none _
  |(with_reducible exact annealref1_Pack.j6_le hk)
  |(with_reducible exact fun r h => at_rounds (annealref1_Len.mono _) hk h)
  |(with_reducible exact fun r h => at_rounds (annealref1_divide.mono _ _) hk h)
  |(with_reducible exact fun r h => at_rounds (annealref1_over.mono _ _ _) hk h)
  |(with_reducible refine LeO.bind ?_ (fun _ => ?_))
  |(with_reducible refine LeO.ite3 Iff.rfl (fun _ => ?_) (fun _ => ?_))
  |exact annealref1_Pack.j6_le hk
  |exact fun r h => at_rounds (annealref1_Len.mono _) hk h
  |exact fun r h => at_rounds (annealref1_divide.mono _ _) hk h
  |exact fun r h => at_rounds (annealref1_over.mono _ _ _) hk h
  |exact LeO.refl _
  |(with_reducible refine LeO.pos (by assumption) ?_)
  |(with_reducible refine LeO.neg (by assumption) ?_)
  |(with_reducible refine LeO.posl (by assumption) ?_)
  |(with_reducible refine LeO.negl (by assumption) ?_)
  |(with_reducible refine LeO.ite3 (by omega) (fun _ => ?_) (fun _ => ?_))
theorem annealref1_Pack.j4_le {k n : Nat} (hk : k ≤ n) {x0 : Int} {x1 : Int} {x2 : Bool} {x15 : Int} {x16 : Int} {x17 : Int} {x18 : Int} {x19 : Int} {x22 : Bool} {ex9 : Bool} {ex10 : Bool} {ex11 : Bool} {ex12 : Bool} {ex13 : Bool} : LeO (annealref1_Pack.j4 k x0 x1 x2 x15 x16 x17 x18 x19 x22) (L.annealref1_Pack.j15 n x22 x19 x18 x17 x16 x15 x2 x1 x0 ex9 ex10 ex11 ex12 ex13) := by
 cases k with
 |zero => rw [annealref1_Pack.j4]; exact LeO.none _
 |succ k =>
 replace hk := Nat.le_of_succ_le hk
 rw [annealref1_Pack.j4, L.annealref1_Pack.j15_eq]
 repeat' first
  |(with_reducible exact LeO.refl _)
  |exact LeO.none _
  |(with_reducible exact annealref1_Pack.j6_le hk)
  |(with_reducible exact annealref1_Pack.j5_le hk)
  |(with_reducible exact fun r h => at_rounds (annealref1_Len.mono _) hk h)
  |(with_reducible exact fun r h => at_rounds (annealref1_divide.mono _ _) hk h)
  |(with_reducible exact fun r h => at_rounds (annealref1_over.mono _ _ _) hk h)
  |(with_reducible refine LeO.bind ?_ (fun _ => ?_))
  |(with_reducible refine LeO.ite3 Iff.rfl (fun _ => ?_) (fun _ => ?_))
  |exact annealref1_Pack.j6_le hk
  |exact annealref1_Pack.j5_le hk
  |exact fun r h => at_rounds (annealref1_Len.mono _) hk h
  |exact fun r h => at_rounds (annealref1_divide.mono _ _) hk h
  |exact fun r h => at_rounds (annealref1_over.mono _ _ _) hk h
  |exact LeO.refl _
  |(with_reducible refine LeO.pos (by assumption) ?_)
  |(with_reducible refine LeO.neg (by assumption) ?_)
  |(with_reducible refine LeO.posl (by assumption) ?_)
  |(with_reducible refine LeO.negl (by assumption) ?_)
  |(with_reducible refine LeO.ite3 (by omega) (fun _ => ?_) (fun _ => ?_))
theorem annealref1_Pack.j3_le {k n : Nat} (hk : k ≤ n) {x0 : Int} {x1 : Int} {x2 : Bool} {x15 : Int} {x16 : Int} {x17 : Int} {x18 : Int} {x19 : Int} {x20 : Bool} {x21 : Bool} {x22 : Bool} {ex11 : Bool} {ex12 : Bool} {ex13 : Bool} {ex14 : Bool} {ex15 : Bool} : LeO (annealref1_Pack.j3 k x0 x1 x2 x15 x16 x17 x18 x19 x20 x21 x22) (L.annealref1_Pack.j13 n x22 x21 x20 x19 x18 x17 x16 x15 x2 x1 x0 ex11 ex12 ex13 ex14 ex15) := by
 cases k with
 |zero => rw [annealref1_Pack.j3]; exact LeO.none _
 |succ k =>
 replace hk := Nat.le_of_succ_le hk
 rw [annealref1_Pack.j3, L.annealref1_Pack.j13_eq]
 repeat' first
  |(with_reducible exact LeO.refl _)
  |exact LeO.none _
  |(with_reducible exact annealref1_Pack.j6_le hk)
  |(with_reducible exact annealref1_Pack.j5_le hk)
  |(with_reducible exact annealref1_Pack.j4_le hk)
  |(with_reducible exact fun r h => at_rounds (annealref1_Len.mono _) hk h)
  |(with_reducible exact fun r h => at_rounds (annealref1_divide.mono _ _) hk h)
  |(with_reducible exact fun r h => at_rounds (annealref1_over.mono _ _ _) hk h)
  |(with_reducible refine LeO.bind ?_ (fun _ => ?_))
  |(with_reducible refine LeO.ite3 Iff.rfl (fun _ => ?_) (fun _ => ?_))
  |exact annealref1_Pack.j6_le hk
  |exact annealref1_Pack.j5_le hk
  |exact annealref1_Pack.j4_le hk
  |exact fun r h => at_rounds (annealref1_Len.mono _) hk h
  |exact fun r h => at_rounds (annealref1_divide.mono _ _) hk h
  |exact fun r h => at_rounds (annealref1_over.mono _ _ _) hk h
  |exact LeO.refl _
  |(with_reducible refine LeO.pos (by assumption) ?_)
  |(with_reducible refine LeO.neg (by assumption) ?_)
  |(with_reducible refine LeO.posl (by assumption) ?_)
  |(with_reducible refine LeO.negl (by assumption) ?_)
  |(with_reducible refine LeO.ite3 (by omega) (fun _ => ?_) (fun _ => ?_))
theorem annealref1_Pack.j2_le {k n : Nat} (hk : k ≤ n) {x0 : Int} {x1 : Int} {x2 : Bool} {x15 : Int} {x16 : Int} {x17 : Int} {x18 : Int} {x19 : Int} {x20 : Bool} {x21 : Bool} {ex10 : Bool} {ex11 : Bool} {ex12 : Bool} {ex13 : Bool} {ex14 : Bool} : LeO (annealref1_Pack.j2 k x0 x1 x2 x15 x16 x17 x18 x19 x20 x21) (L.annealref1_Pack.j12 n x21 x20 x19 x18 x17 x16 x15 x2 x1 x0 ex10 ex11 ex12 ex13 ex14) := by
 cases k with
 |zero => rw [annealref1_Pack.j2]; exact LeO.none _
 |succ k =>
 replace hk := Nat.le_of_succ_le hk
 rw [annealref1_Pack.j2, L.annealref1_Pack.j12_eq]
 repeat' first
  |(with_reducible exact LeO.refl _)
  |exact LeO.none _
  |(with_reducible exact annealref1_Pack.j6_le hk)
  |(with_reducible exact annealref1_Pack.j5_le hk)
  |(with_reducible exact annealref1_Pack.j4_le hk)
  |(with_reducible exact annealref1_Pack.j3_le hk)
  |(with_reducible exact fun r h => at_rounds (annealref1_Len.mono _) hk h)
  |(with_reducible exact fun r h => at_rounds (annealref1_divide.mono _ _) hk h)
  |(with_reducible exact fun r h => at_rounds (annealref1_over.mono _ _ _) hk h)
  |(with_reducible refine LeO.bind ?_ (fun _ => ?_))
  |(with_reducible refine LeO.ite3 Iff.rfl (fun _ => ?_) (fun _ => ?_))
  |exact annealref1_Pack.j6_le hk
  |exact annealref1_Pack.j5_le hk
  |exact annealref1_Pack.j4_le hk
  |exact annealref1_Pack.j3_le hk
  |exact fun r h => at_rounds (annealref1_Len.mono _) hk h
  |exact fun r h => at_rounds (annealref1_divide.mono _ _) hk h
  |exact fun r h => at_rounds (annealref1_over.mono _ _ _) hk h
  |exact LeO.refl _
  |(with_reducible refine LeO.pos (by assumption) ?_)
  |(with_reducible refine LeO.neg (by assumption) ?_)
  |(with_reducible refine LeO.posl (by assumption) ?_)
  |(with_reducible refine LeO.negl (by assumption) ?_)
  |(with_reducible refine LeO.ite3 (by omega) (fun _ => ?_) (fun _ => ?_))
theorem annealref1_Pack.j1_le {k n : Nat} (hk : k ≤ n) {x0 : Int} {x1 : Int} {x2 : Bool} {x3 : Int} {x4 : Int} {x5 : Bool} {x15 : Int} {x16 : Int} {x17 : Int} {ex9 : Bool} {ex10 : Bool} {ex11 : Bool} {ex12 : Bool} {ex13 : Bool} : LeO (annealref1_Pack.j1 k x0 x1 x2 x3 x4 x5 x15 x16 x17) (L.annealref1_Pack.j9 n x17 x16 x15 x5 x4 x3 x2 x1 x0 ex9 ex10 ex11 ex12 ex13) := by
 cases k with
 |zero => rw [annealref1_Pack.j1]; exact LeO.none _
 |succ k =>
 replace hk := Nat.le_of_succ_le hk
 rw [annealref1_Pack.j1, L.annealref1_Pack.j9_eq]
 repeat' first
  |(with_reducible exact LeO.refl _)
  |exact LeO.none _
  |(with_reducible exact annealref1_Pack.j6_le hk)
  |(with_reducible exact annealref1_Pack.j5_le hk)
  |(with_reducible exact annealref1_Pack.j4_le hk)
  |(with_reducible exact annealref1_Pack.j3_le hk)
  |(with_reducible exact annealref1_Pack.j2_le hk)
  |(with_reducible exact fun r h => at_rounds (annealref1_Len.mono _) hk h)
  |(with_reducible exact fun r h => at_rounds (annealref1_divide.mono _ _) hk h)
  |(with_reducible exact fun r h => at_rounds (annealref1_over.mono _ _ _) hk h)
  |(with_reducible refine LeO.bind ?_ (fun _ => ?_))
  |(with_reducible refine LeO.ite3 Iff.rfl (fun _ => ?_) (fun _ => ?_))
  |exact annealref1_Pack.j6_le hk
  |exact annealref1_Pack.j5_le hk
  |exact annealref1_Pack.j4_le hk
  |exact annealref1_Pack.j3_le hk
  |exact annealref1_Pack.j2_le hk
  |exact fun r h => at_rounds (annealref1_Len.mono _) hk h
  |exact fun r h => at_rounds (annealref1_divide.mono _ _) hk h
  |exact fun r h => at_rounds (annealref1_over.mono _ _ _) hk h
  |exact LeO.refl _
  |(with_reducible refine LeO.pos (by assumption) ?_)
  |(with_reducible refine LeO.neg (by assumption) ?_)
  |(with_reducible refine LeO.posl (by assumption) ?_)
  |(with_reducible refine LeO.negl (by assumption) ?_)
  |(with_reducible refine LeO.ite3 (by omega) (fun _ => ?_) (fun _ => ?_))
theorem annealref1_Pack.j0_le {k n : Nat} (hk : k ≤ n) {x0 : Int} {x1 : Int} {x2 : Bool} {x3 : Int} {x4 : Int} {x5 : Bool} {x35 : Bool} {ex7 : Bool} {ex8 : Bool} {ex9 : Bool} {ex10 : Bool} {ex11 : Bool} : LeO (annealref1_Pack.j0 k x0 x1 x2 x3 x4 x5 x35) (L.annealref1_Pack.j3 n x35 x5 x4 x3 x2 x1 x0 ex7 ex8 ex9 ex10 ex11) := by
 cases k with
 |zero => rw [annealref1_Pack.j0]; exact LeO.none _
 |succ k =>
 replace hk := Nat.le_of_succ_le hk
 rw [annealref1_Pack.j0, L.annealref1_Pack.j3_eq]
 repeat' first
  |(with_reducible exact LeO.refl _)
  |exact LeO.none _
  |(with_reducible exact annealref1_Pack.j6_le hk)
  |(with_reducible exact annealref1_Pack.j5_le hk)
  |(with_reducible exact annealref1_Pack.j4_le hk)
  |(with_reducible exact annealref1_Pack.j3_le hk)
  |(with_reducible exact annealref1_Pack.j2_le hk)
  |(with_reducible exact annealref1_Pack.j1_le hk)
  |(with_reducible exact fun r h => at_rounds (annealref1_Len.mono _) hk h)
  |(with_reducible exact fun r h => at_rounds (annealref1_divide.mono _ _) hk h)
  |(with_reducible exact fun r h => at_rounds (annealref1_over.mono _ _ _) hk h)
  |(with_reducible refine LeO.bind ?_ (fun _ => ?_))
  |(with_reducible refine LeO.ite3 Iff.rfl (fun _ => ?_) (fun _ => ?_))
  |exact annealref1_Pack.j6_le hk
  |exact annealref1_Pack.j5_le hk
  |exact annealref1_Pack.j4_le hk
  |exact annealref1_Pack.j3_le hk
  |exact annealref1_Pack.j2_le hk
  |exact annealref1_Pack.j1_le hk
  |exact fun r h => at_rounds (annealref1_Len.mono _) hk h
  |exact fun r h => at_rounds (annealref1_divide.mono _ _) hk h
  |exact fun r h => at_rounds (annealref1_over.mono _ _ _) hk h
  |exact LeO.refl _
  |(with_reducible refine LeO.pos (by assumption) ?_)
  |(with_reducible refine LeO.neg (by assumption) ?_)
  |(with_reducible refine LeO.posl (by assumption) ?_)
  |(with_reducible refine LeO.negl (by assumption) ?_)
  |(with_reducible refine LeO.ite3 (by omega) (fun _ => ?_) (fun _ => ?_))
theorem annealref1_Pack.le {k n : Nat} (hk : k ≤ n) {a0 : Int} {a1 : Int} {a2 : Bool} {a3 : Int} {a4 : Int} {a5 : Bool} : LeO (annealref1_Pack.f k a0 a1 a2 a3 a4 a5) (L.annealref1_Pack.f n a0 a1 a2 a3 a4 a5) := by
 unfold annealref1_Pack.f
 rw [L.annealref1_Pack.eq]
 repeat' first
  |(with_reducible exact LeO.refl _)
  |exact LeO.none _
  |(with_reducible exact annealref1_Pack.j6_le hk)
  |(with_reducible exact annealref1_Pack.j5_le hk)
  |(with_reducible exact annealref1_Pack.j4_le hk)
  |(with_reducible exact annealref1_Pack.j3_le hk)
  |(with_reducible exact annealref1_Pack.j2_le hk)
  |(with_reducible exact annealref1_Pack.j1_le hk)
  |(with_reducible exact annealref1_Pack.j0_le hk)
  |(with_reducible exact fun r h => at_rounds (annealref1_Len.mono _) hk h)
  |(with_reducible exact fun r h => at_rounds (annealref1_divide.mono _ _) hk h)
  |(with_reducible exact fun r h => at_rounds (annealref1_over.mono _ _ _) hk h)
  |(with_reducible refine LeO.bind ?_ (fun _ => ?_))
  |(with_reducible refine LeO.ite3 Iff.rfl (fun _ => ?_) (fun _ => ?_))
  |exact annealref1_Pack.j6_le hk
  |exact annealref1_Pack.j5_le hk
  |exact annealref1_Pack.j4_le hk
  |exact annealref1_Pack.j3_le hk
  |exact annealref1_Pack.j2_le hk
  |exact annealref1_Pack.j1_le hk
  |exact annealref1_Pack.j0_le hk
  |exact fun r h => at_rounds (annealref1_Len.mono _) hk h
  |exact fun r h => at_rounds (annealref1_divide.mono _ _) hk h
  |exact fun r h => at_rounds (annealref1_over.mono _ _ _) hk h
  |exact LeO.refl _
  |(with_reducible refine LeO.pos (by assumption) ?_)
  |(with_reducible refine LeO.neg (by assumption) ?_)
  |(with_reducible refine LeO.posl (by assumption) ?_)
  |(with_reducible refine LeO.negl (by assumption) ?_)
  |(with_reducible refine LeO.ite3 (by omega) (fun _ => ?_) (fun _ => ?_))
theorem annealref1_Pack.calls (k : Nat) (a0 : Int) (a1 : Int) (a2 : Bool) (a3 : Int) (a4 : Int) (a5 : Bool) (r1 : Int) (r2 : Bool) (r3 : Bool) (r4 : Bool) (r5 : Bool) (r6 : Bool) (w : World) (h : annealref1_Pack.f k a0 a1 a2 a3 a4 a5 = some (r1, r2, r3, r4, r5, r6)) :
  Calls Try.prog 43 #[.int .i64 a0, .int .i64 a1, .bool a2, .int .i64 a3, .int .u64 a4, .bool a5] w fun e w' => e = .returned (.tuple #[.int .u32 r1, .agg #[.bool r2, .bool r3, .bool r4, .bool r5, .bool r6]]) ∧ Below w.heap.size w w' :=
 Go.Proofs.Ytejkemahdincjaa.Ek.calls_of L.annealref1_Pack.ok k ((a0, ()), (a1, ()), (a2, ()), (a3, ()), (a4, ()), (a5, ()), ()) (r1, r2, r3, r4, r5, r6) rfl (annealref1_Pack.le (Nat.le_refl _) _ h) w
end Go.Proofs.Ytejkemahdincjaa.P

/- Functions' trees, printed by a tool of mine out of the reckoner; Lean's kernel checks each. -/
namespace Go.Proofs.Ytejkemahdincjaa.L
open Go.RowKit Go.Proofs.Ytejkemahdincjaa.P Go.Proofs.Ytejkemahdincjaa.Ek Go.Proofs.YtejkemahdincjaaW.PrintWords Go.Proofs.YtejkemahdincjaaW.PrintLast Go.Proofs.YtejkemahdincjaaW.PrintMore
set_option maxRecDepth 100000
noncomputable def round_Pack.j3 (n0 : Nat) (x0 : Bool) (x1 : Bool) (x2 : Int) (x3 : Int) (x4 : Bool) (x5 : Int) (x6 : Int) (x7 : Bool) (x8 : Bool) (x9 : Bool) (x10 : Bool) (x11 : Bool) := evInJ Try.prog round_Pack.cls Try.f32 round_Pack.cuts [1, 1, 0, 1] [n0] n0 ⟨[(29, (.pv (.one (.b (.q x0))))), (13, (.pv (.one (.p 0 0)))), (5, (.pv (.one (.b (.q x1))))), (4, (.pv (.one (.i .u64 (.x x2))))), (3, (.pv (.one (.i .i64 (.x x3))))), (2, (.pv (.one (.b (.q x4))))), (1, (.pv (.one (.i .i64 (.x x5))))), (0, (.pv (.one (.i .i64 (.x x6)))))], [(0, (29, [(.c (.b (.q x7))), (.c (.b (.q x8))), (.c (.b (.q x9))), (.c (.b (.q x10))), (.c (.b (.q x11)))]))], 1⟩ round_Pack.K
noncomputable def round_Pack.j9 (n0 : Nat) (x0 : Int) (x1 : Int) (x2 : Int) (x3 : Int) (x4 : Int) (x5 : Int) (x6 : Bool) (x7 : Int) (x8 : Int) (x9 : Bool) (x10 : Bool) (x11 : Bool) (x12 : Bool) (x13 : Bool) := evInJ Try.prog round_Pack.cls Try.f32 round_Pack.cuts [1, 1, 1, 1, 1, 1, 1] [n0] n0 ⟨[(18, (.pv (.one (.i .i64 (.x x0))))), (17, (.pv (.one (.i .u64 (.x x1))))), (16, (.pv (.one (.i .i64 (.x x2))))), (15, (.pv (.one (.i .i64 (.x x3))))), (13, (.pv (.one (.p 0 0)))), (4, (.pv (.one (.i .u64 (.x x4))))), (3, (.pv (.one (.i .i64 (.x x5))))), (2, (.pv (.one (.b (.q x6))))), (1, (.pv (.one (.i .i64 (.x x7))))), (0, (.pv (.one (.i .i64 (.x x8)))))], [(0, (29, [(.c (.b (.q x9))), (.c (.b (.q x10))), (.c (.b (.q x11))), (.c (.b (.q x12))), (.c (.b (.q x13)))]))], 1⟩ round_Pack.K
noncomputable def round_Pack.j11 (n0 : Nat) (x0 : Int) (x1 : Int) (x2 : Int) (x3 : Int) (x4 : Int) (x5 : Int) (x6 : Bool) (x7 : Int) (x8 : Int) (x9 : Bool) (x10 : Bool) (x11 : Bool) (x12 : Bool) (x13 : Bool) := evInJ Try.prog round_Pack.cls Try.f32 round_Pack.cuts [1, 1, 1, 1, 1, 1, 1, 1] [n0] n0 ⟨[(18, (.pv (.one (.i .i64 (.x x0))))), (17, (.pv (.one (.i .u64 (.x x1))))), (16, (.pv (.one (.i .i64 (.x x2))))), (15, (.pv (.one (.i .i64 (.x x3))))), (13, (.pv (.one (.p 0 0)))), (4, (.pv (.one (.i .u64 (.x x4))))), (3, (.pv (.one (.i .i64 (.x x5))))), (2, (.pv (.one (.b (.q x6))))), (1, (.pv (.one (.i .i64 (.x x7))))), (0, (.pv (.one (.i .i64 (.x x8)))))], [(0, (29, [(.c (.b (.q x9))), (.c (.b (.q x10))), (.c (.b (.q x11))), (.c (.b (.q x12))), (.c (.b (.q x13)))]))], 1⟩ round_Pack.K
noncomputable def round_Pack.j14 (n0 : Nat) (x0 : Int) (x1 : Int) (x2 : Int) (x3 : Int) (x4 : Int) (x5 : Int) (x6 : Bool) (x7 : Int) (x8 : Int) (x9 : Bool) (x10 : Bool) (x11 : Bool) (x12 : Bool) (x13 : Bool) := evInJ Try.prog round_Pack.cls Try.f32 round_Pack.cuts [1, 1, 1, 1, 1, 1, 1, 1, 1, 1] [n0] n0 ⟨[(19, (.pv (.one (.i .i64 (.x x0))))), (18, (.pv (.one (.i .i64 (.x x1))))), (17, (.pv (.one (.i .u64 (.x x2))))), (15, (.pv (.one (.i .i64 (.x x3))))), (13, (.pv (.one (.p 0 0)))), (4, (.pv (.one (.i .u64 (.x x4))))), (3, (.pv (.one (.i .i64 (.x x5))))), (2, (.pv (.one (.b (.q x6))))), (1, (.pv (.one (.i .i64 (.x x7))))), (0, (.pv (.one (.i .i64 (.x x8)))))], [(0, (29, [(.c (.b (.q x9))), (.c (.b (.q x10))), (.c (.b (.q x11))), (.c (.b (.q x12))), (.c (.b (.q x13)))]))], 1⟩ round_Pack.K
theorem round_Pack.eq (n0 : Nat) (a0 : Int) (a1 : Int) (a2 : Bool) (a3 : Int) (a4 : Int) (a5 : Bool) : round_Pack.f n0 a0 a1 a2 a3 a4 a5 = (if a4 = 0 then (round_Pack.j3 n0 (!(a5)) (a5) (a4) (mn (mx a3 (-10000)) 10000) (a2) (a1) (a0) (false) (false) (false) (false) (false)) else (round_Pack.j3 n0 (false) (a5) (a4) (mn (mx a3 (-10000)) 10000) (a2) (a1) (a0) (false) (false) (false) (false) (false))) := by kernel_rfl
theorem round_Pack.j3_eq (n0 : Nat) (x0 : Bool) (x1 : Bool) (x2 : Int) (x3 : Int) (x4 : Bool) (x5 : Int) (x6 : Int) (x7 : Bool) (x8 : Bool) (x9 : Bool) (x10 : Bool) (x11 : Bool) : round_Pack.j3 n0 x0 x1 x2 x3 x4 x5 x6 x7 x8 x9 x10 x11 = (if x0 = true then ((format_Zero.f x6 x4).bind fun t0 => (some ((t0, false, false, false, false, false)))) else ((format_Widths.f x6).bind fun t0 => ((round_Unit.f n0 x6 x3 x2).bind fun t1 => ((round_Units.f n0 x2 (wrap64 (t1 - x3)) x1).bind fun t2 => ((round_Up.f x5 x4 (Prod.fst t2) (Prod.snd t2)).bind fun t3 => (if t3 = true then (round_Pack.j9 n0 (Prod.snd t2) (IntKind.wrap IntKind.u64 (Prod.fst t2 + 1)) (t1) (Prod.snd t0) (x2) (x3) (x4) (x5) (x6) (x7) (x8) (x9) (x10) (x11)) else (round_Pack.j9 n0 (Prod.snd t2) (Prod.fst t2) (t1) (Prod.snd t0) (x2) (x3) (x4) (x5) (x6) (x7) (x8) (x9) (x10) (x11)))))))) := by kernel_rfl
theorem round_Pack.j9_eq (n0 : Nat) (x0 : Int) (x1 : Int) (x2 : Int) (x3 : Int) (x4 : Int) (x5 : Int) (x6 : Bool) (x7 : Int) (x8 : Int) (x9 : Bool) (x10 : Bool) (x11 : Bool) (x12 : Bool) (x13 : Bool) : round_Pack.j9 n0 x0 x1 x2 x3 x4 x5 x6 x7 x8 x9 x10 x11 x12 x13 = (if 0 ≤ IntKind.wrap IntKind.u64 (wrap64 (x3 + 1)) then (if shr IntKind.u64 x1 (IntKind.wrap IntKind.u64 (wrap64 (x3 + 1))) = 0 then (round_Pack.j11 n0 (x0) (x1) (x2) (x3) (x4) (x5) (x6) (x7) (x8) (x9) (x10) (x11) (x12) (x13)) else (round_Pack.j11 n0 (x0) (shr IntKind.u64 x1 1) (wrap64 (x2 + 1)) (x3) (x4) (x5) (x6) (x7) (x8) (x9) (x10) (x11) (x12) (x13))) else none) := by kernel_rfl
theorem round_Pack.j11_eq (n0 : Nat) (x0 : Int) (x1 : Int) (x2 : Int) (x3 : Int) (x4 : Int) (x5 : Int) (x6 : Bool) (x7 : Int) (x8 : Int) (x9 : Bool) (x10 : Bool) (x11 : Bool) (x12 : Bool) (x13 : Bool) : round_Pack.j11 n0 x0 x1 x2 x3 x4 x5 x6 x7 x8 x9 x10 x11 x12 x13 = ((format_Least.f x8).bind fun t0 => (if 0 ≤ IntKind.wrap IntKind.u64 x3 then (if shr IntKind.u64 x1 (IntKind.wrap IntKind.u64 x3) = 0 then (round_Pack.j14 n0 (Int.ofNat 0) (x0) (x1) (x3) (x4) (x5) (x6) (x7) (x8) (x9) (x10) (x11) (x12) (x13)) else (round_Pack.j14 n0 (wrap64 (wrap64 (wrap64 (x2 + x3) - t0) + 1)) (x0) (x1) (x3) (x4) (x5) (x6) (x7) (x8) (x9) (x10) (x11) (x12) (x13))) else none)) := by kernel_rfl
theorem round_Pack.j14_eq (n0 : Nat) (x0 : Int) (x1 : Int) (x2 : Int) (x3 : Int) (x4 : Int) (x5 : Int) (x6 : Bool) (x7 : Int) (x8 : Int) (x9 : Bool) (x10 : Bool) (x11 : Bool) (x12 : Bool) (x13 : Bool) : round_Pack.j14 n0 x0 x1 x2 x3 x4 x5 x6 x7 x8 x9 x10 x11 x12 x13 = ((format_Top.f x8).bind fun t0 => (if t0 ≤ x0 then ((Ytejkemahdincjaa.L.round_beyond.f n0 x8 x7 x6).bind fun t1 => (some ((Prod.fst t1, Prod.fst (Prod.snd t1), Prod.fst (Prod.snd (Prod.snd t1)), Prod.fst (Prod.snd (Prod.snd (Prod.snd t1))), Prod.fst (Prod.snd (Prod.snd (Prod.snd (Prod.snd t1)))), Prod.snd (Prod.snd (Prod.snd (Prod.snd (Prod.snd t1)))))))) else (if x1 = 0 then ((bits_Cut.f x2 x3).bind fun t1 => ((format_Join.f x8 x6 x0 (t1 % 4294967296)).bind fun t2 => (some ((t2, false, false, false, false, !x1 == 0))))) else (if x4 = 0 then ((bits_Cut.f x2 x3).bind fun t1 => ((format_Join.f x8 x6 x0 (t1 % 4294967296)).bind fun t2 => (some ((t2, false, false, false, true, !x1 == 0))))) else ((bits_Len.f n0 x4).bind fun t1 => ((format_Least.f x8).bind fun t2 => ((bits_Cut.f x2 x3).bind fun t3 => ((format_Join.f x8 x6 x0 (t3 % 4294967296)).bind fun t4 => (some ((t4, false, false, false, decide (wrap64 (wrap64 (x5 + t1) - 1) < t2), !x1 == 0))))))))))) := by kernel_rfl
noncomputable def annealref1_Mul.j6 (n0 : Nat) (x0 : Bool) (x1 : Bool) (x2 : Int) (x3 : Int) (x4 : Int) (x5 : Int) (x6 : Bool) (x7 : Bool) (x8 : Bool) (x9 : Bool) (x10 : Bool) := evInJ Try.prog annealref1_Mul.cls Try.f16 annealref1_Mul.cuts [1, 1, 1, 0, 1] [n0] n0 ⟨[(56, (.pv (.one (.b (.q x0))))), (12, (.pv (.one (.b (.q x1))))), (9, (.pv (.one (.p 0 0)))), (3, (.pv (.one (.i .u32 (.x x2))))), (2, (.pv (.one (.i .u32 (.x x3))))), (1, (.pv (.one (.i .i64 (.x x4))))), (0, (.pv (.one (.i .i64 (.x x5)))))], [(0, (29, [(.c (.b (.q x6))), (.c (.b (.q x7))), (.c (.b (.q x8))), (.c (.b (.q x9))), (.c (.b (.q x10)))]))], 1⟩ annealref1_Mul.K
noncomputable def annealref1_Mul.j8 (n0 : Nat) (x0 : Bool) (x1 : Bool) (x2 : Int) (x3 : Int) (x4 : Int) (x5 : Int) (x6 : Bool) (x7 : Bool) (x8 : Bool) (x9 : Bool) (x10 : Bool) := evInJ Try.prog annealref1_Mul.cls Try.f16 annealref1_Mul.cuts [1, 1, 1, 1, 0, 1] [n0] n0 ⟨[(67, (.pv (.one (.b (.q x0))))), (12, (.pv (.one (.b (.q x1))))), (9, (.pv (.one (.p 0 0)))), (3, (.pv (.one (.i .u32 (.x x2))))), (2, (.pv (.one (.i .u32 (.x x3))))), (1, (.pv (.one (.i .i64 (.x x4))))), (0, (.pv (.one (.i .i64 (.x x5)))))], [(0, (29, [(.c (.b (.q x6))), (.c (.b (.q x7))), (.c (.b (.q x8))), (.c (.b (.q x9))), (.c (.b (.q x10)))]))], 1⟩ annealref1_Mul.K
theorem annealref1_Mul.eq (n0 : Nat) (a0 : Int) (a1 : Int) (a2 : Int) (a3 : Int) : annealref1_Mul.f n0 a0 a1 a2 a3 = ((annealref1_nans.f n0 a0 [a2, a3]).bind fun t0 => (if Prod.fst t0 = true then ((annealref1_Nan.f a0).bind fun t1 => (some ((t1, Prod.snd t0, false, false, false, false)))) else ((annealref1_neg.f a0 a2).bind fun t1 => ((annealref1_neg.f a0 a3).bind fun t2 => ((annealref1_zero.f n0 a0 a2).bind fun t3 => (if t3 = true then ((annealref1_inf.f n0 a0 a3).bind fun t4 => (if t4 = true then (annealref1_Mul.j6 n0 (true) (!(t1 == t2)) (a3) (a2) (a1) (a0) (false) (false) (false) (false) (false)) else ((annealref1_inf.f n0 a0 a2).bind fun t5 => (if t5 = true then ((annealref1_zero.f n0 a0 a3).bind fun t6 => (annealref1_Mul.j6 n0 (t6) (!(t1 == t2)) (a3) (a2) (a1) (a0) (false) (false) (false) (false) (false))) else (annealref1_Mul.j6 n0 (false) (!(t1 == t2)) (a3) (a2) (a1) (a0) (false) (false) (false) (false) (false)))))) else ((annealref1_inf.f n0 a0 a2).bind fun t4 => (if t4 = true then ((annealref1_zero.f n0 a0 a3).bind fun t5 => (annealref1_Mul.j6 n0 (t5) (!(t1 == t2)) (a3) (a2) (a1) (a0) (false) (false) (false) (false) (false))) else (annealref1_Mul.j6 n0 (false) (!(t1 == t2)) (a3) (a2) (a1) (a0) (false) (false) (false) (false) (false)))))))))) := by kernel_rfl
theorem annealref1_Mul.j6_eq (n0 : Nat) (x0 : Bool) (x1 : Bool) (x2 : Int) (x3 : Int) (x4 : Int) (x5 : Int) (x6 : Bool) (x7 : Bool) (x8 : Bool) (x9 : Bool) (x10 : Bool) : annealref1_Mul.j6 n0 x0 x1 x2 x3 x4 x5 x6 x7 x8 x9 x10 = (if x0 = true then ((annealref1_Nan.f x5).bind fun t0 => (some ((t0, true, false, false, false, false)))) else ((annealref1_inf.f n0 x5 x3).bind fun t0 => (if t0 = true then (annealref1_Mul.j8 n0 (true) (x1) (x2) (x3) (x4) (x5) (x6) (x7) (x8) (x9) (x10)) else ((annealref1_inf.f n0 x5 x2).bind fun t1 => (annealref1_Mul.j8 n0 (t1) (x1) (x2) (x3) (x4) (x5) (x6) (x7) (x8) (x9) (x10)))))) := by kernel_rfl
theorem annealref1_Mul.j8_eq (n0 : Nat) (x0 : Bool) (x1 : Bool) (x2 : Int) (x3 : Int) (x4 : Int) (x5 : Int) (x6 : Bool) (x7 : Bool) (x8 : Bool) (x9 : Bool) (x10 : Bool) : annealref1_Mul.j8 n0 x0 x1 x2 x3 x4 x5 x6 x7 x8 x9 x10 = (if x0 = true then ((annealref1_Inf.f x5 x1).bind fun t0 => (some ((t0, false, false, false, false, false)))) else ((annealref1_Unpack.f n0 x5 x3).bind fun t0 => ((annealref1_Unpack.f n0 x5 x2).bind fun t1 => ((Ytejkemahdincjaa.L.annealref1_Pack.f n0 x5 x4 x1 (wrap64 (Prod.fst (Prod.snd t0) + Prod.fst (Prod.snd t1))) (IntKind.wrap IntKind.u64 (Prod.snd (Prod.snd t0) * Prod.snd (Prod.snd t1))) false).bind fun t2 => (some ((Prod.fst t2, Prod.fst (Prod.snd t2), Prod.fst (Prod.snd (Prod.snd t2)), Prod.fst (Prod.snd (Prod.snd (Prod.snd t2))), Prod.fst (Prod.snd (Prod.snd (Prod.snd (Prod.snd t2)))), Prod.snd (Prod.snd (Prod.snd (Prod.snd (Prod.snd t2))))))))))) := by kernel_rfl
end Go.Proofs.Ytejkemahdincjaa.L

-- Printed by a program of this session's out of Lean's print of the translation; Lean checks it.
namespace Go.Proofs.Ytejkemahdincjaa.P
open Go.RowKit Go.Proofs.YtejkemahdincjaaW.PrintWords Go.Proofs.YtejkemahdincjaaW.PrintLast Go.Proofs.YtejkemahdincjaaW.PrintMore
attribute [local go_sem] max2_int min2_int max_two min_two max_three min_three max_four min_four

-- NEED 1
/-! ### annealref1_Mul: function 16 -/
mutual
def annealref1_Mul.j0 : Nat → Int → Int → Int → Int → Bool → Bool → Option (Int × Bool × Bool × Bool × Bool × Bool)
 |0, _, _, _, _, _, _ => none
 |k + 1, x0, x1, x2, x3, x12, x56 => if x56 = true then ((annealref1_Nan.f x0).bind fun t649 => (some (t649, true, false, false, false, false))) else ((annealref1_inf.f k x0 x2).bind fun t650 => (if t650 = true then (annealref1_Mul.j1 k x0 x1 x2 x3 x12 true) else ((annealref1_inf.f k x0 x3).bind fun t651 => (annealref1_Mul.j1 k x0 x1 x2 x3 x12 t651))))
def annealref1_Mul.j1 : Nat → Int → Int → Int → Int → Bool → Bool → Option (Int × Bool × Bool × Bool × Bool × Bool)
 |0, _, _, _, _, _, _ => none
 |k + 1, x0, x1, x2, x3, x12, x67 => if x67 = true then ((annealref1_Inf.f x0 x12).bind fun t652 => (some (t652, false, false, false, false, false))) else ((annealref1_Unpack.f k x0 x2).bind fun bt653 => ((annealref1_Unpack.f k x0 x3).bind fun bt656 => ((annealref1_Pack.f k x0 x1 x12 (wrap64 (bt653.2.1 + bt656.2.1)) (IntKind.u64.wrap (bt653.2.2 * bt656.2.2)) false).bind fun bt659 => (some (bt659.1, bt659.2.1, bt659.2.2.1, bt659.2.2.2.1, bt659.2.2.2.2.1, bt659.2.2.2.2.2)))))
end
def annealref1_Mul.f (k : Nat) (a0 : Int) (a1 : Int) (a2 : Int) (a3 : Int) : Option (Int × Bool × Bool × Bool × Bool × Bool) := (annealref1_nans.f k a0 (([a2, a3] : List Int))).bind fun bt638 => (if bt638.1 = true then ((annealref1_Nan.f a0).bind fun t640 => (some (t640, bt638.2, false, false, false, false))) else ((annealref1_neg.f a0 a2).bind fun t641 => ((annealref1_neg.f a0 a3).bind fun t642 => ((annealref1_zero.f k a0 a2).bind fun t643 => (if t643 = true then ((annealref1_inf.f k a0 a3).bind fun t644 => (if t644 = true then (annealref1_Mul.j0 k a0 a1 a2 a3 (t641 != t642) true) else ((annealref1_inf.f k a0 a2).bind fun t645 => (if t645 = true then ((annealref1_zero.f k a0 a3).bind fun t646 => (annealref1_Mul.j0 k a0 a1 a2 a3 (t641 != t642) t646)) else (annealref1_Mul.j0 k a0 a1 a2 a3 (t641 != t642) false))))) else ((annealref1_inf.f k a0 a2).bind fun t647 => (if t647 = true then ((annealref1_zero.f k a0 a3).bind fun t648 => (annealref1_Mul.j0 k a0 a1 a2 a3 (t641 != t642) t648)) else (annealref1_Mul.j0 k a0 a1 a2 a3 (t641 != t642) false))))))))
/- What the reckoner tells of printed functions. -/
set_option maxRecDepth 100000
theorem round_Pack.j3_le {k n : Nat} (hk : k ≤ n) {x0 : Int} {x1 : Int} {x2 : Bool} {x3 : Int} {x4 : Int} {x15 : Int} {x17 : Int} {x18 : Int} {x19 : Int} {ex9 : Bool} {ex10 : Bool} {ex11 : Bool} {ex12 : Bool} {ex13 : Bool} : LeO (round_Pack.j3 k x0 x1 x2 x3 x4 x15 x17 x18 x19) (L.round_Pack.j14 n x19 x18 x17 x15 x4 x3 x2 x1 x0 ex9 ex10 ex11 ex12 ex13) := by
 cases k with
 |zero => rw [round_Pack.j3]; exact LeO.none _
 |succ k =>
 replace hk := Nat.le_of_succ_le hk
 rw [round_Pack.j3, L.round_Pack.j14_eq]
 repeat' first
  |(with_reducible exact LeO.refl _)
  |exact LeO.none _
  |(with_reducible exact fun r h => at_rounds (round_Unit.mono _ _ _) hk h)
  |(with_reducible exact fun r h => at_rounds (round_Units.mono _ _ _) hk h)
  |(with_reducible exact round_beyond.le hk)
  |(with_reducible exact fun r h => at_rounds (bits_Len.mono _) hk h)
  |(with_reducible refine LeO.bind ?_ (fun _ => ?_))
  |(with_reducible refine LeO.ite3 Iff.rfl (fun _ => ?_) (fun _ => ?_))
  |exact fun r h => at_rounds (round_Unit.mono _ _ _) hk h
  |exact fun r h => at_rounds (round_Units.mono _ _ _) hk h
  |exact round_beyond.le hk
  |exact fun r h => at_rounds (bits_Len.mono _) hk h
  |exact LeO.refl _
  |(with_reducible refine LeO.pos (by assumption) ?_)
  |(with_reducible refine LeO.neg (by assumption) ?_)
  |(with_reducible refine LeO.posl (by assumption) ?_)
  |(with_reducible refine LeO.negl (by assumption) ?_)
  |(with_reducible refine LeO.ite3 (by omega) (fun _ => ?_) (fun _ => ?_))
theorem round_Pack.j2_le {k n : Nat} (hk : k ≤ n) {x0 : Int} {x1 : Int} {x2 : Bool} {x3 : Int} {x4 : Int} {x15 : Int} {x16 : Int} {x17 : Int} {x18 : Int} {ex9 : Bool} {ex10 : Bool} {ex11 : Bool} {ex12 : Bool} {ex13 : Bool} : LeO (round_Pack.j2 k x0 x1 x2 x3 x4 x15 x16 x17 x18) (L.round_Pack.j11 n x18 x17 x16 x15 x4 x3 x2 x1 x0 ex9 ex10 ex11 ex12 ex13) := by
 cases k with
 |zero => rw [round_Pack.j2]; exact LeO.none _
 |succ k =>
 replace hk := Nat.le_of_succ_le hk
 rw [round_Pack.j2, L.round_Pack.j11_eq]
 repeat' first
  |(with_reducible exact LeO.refl _)
  |exact LeO.none _
  |(with_reducible exact round_Pack.j3_le hk)
  |(with_reducible exact fun r h => at_rounds (round_Unit.mono _ _ _) hk h)
  |(with_reducible exact fun r h => at_rounds (round_Units.mono _ _ _) hk h)
  |(with_reducible exact round_beyond.le hk)
  |(with_reducible exact fun r h => at_rounds (bits_Len.mono _) hk h)
  |(with_reducible refine LeO.bind ?_ (fun _ => ?_))
  |(with_reducible refine LeO.ite3 Iff.rfl (fun _ => ?_) (fun _ => ?_))
  |exact round_Pack.j3_le hk
  |exact fun r h => at_rounds (round_Unit.mono _ _ _) hk h
  |exact fun r h => at_rounds (round_Units.mono _ _ _) hk h
  |exact round_beyond.le hk
  |exact fun r h => at_rounds (bits_Len.mono _) hk h
  |exact LeO.refl _
  |(with_reducible refine LeO.pos (by assumption) ?_)
  |(with_reducible refine LeO.neg (by assumption) ?_)
  |(with_reducible refine LeO.posl (by assumption) ?_)
  |(with_reducible refine LeO.negl (by assumption) ?_)
  |(with_reducible refine LeO.ite3 (by omega) (fun _ => ?_) (fun _ => ?_))
theorem round_Pack.j1_le {k n : Nat} (hk : k ≤ n) {x0 : Int} {x1 : Int} {x2 : Bool} {x3 : Int} {x4 : Int} {x15 : Int} {x16 : Int} {x17 : Int} {x18 : Int} {ex9 : Bool} {ex10 : Bool} {ex11 : Bool} {ex12 : Bool} {ex13 : Bool} : LeO (round_Pack.j1 k x0 x1 x2 x3 x4 x15 x16 x17 x18) (L.round_Pack.j9 n x18 x17 x16 x15 x4 x3 x2 x1 x0 ex9 ex10 ex11 ex12 ex13) := by
 cases k with
 |zero => rw [round_Pack.j1]; exact LeO.none _
 |succ k =>
 replace hk := Nat.le_of_succ_le hk
 rw [round_Pack.j1, L.round_Pack.j9_eq]
 repeat' first
  |(with_reducible exact LeO.refl _)
  |exact LeO.none _
  |(with_reducible exact round_Pack.j3_le hk)
  |(with_reducible exact round_Pack.j2_le hk)
  |(with_reducible exact fun r h => at_rounds (round_Unit.mono _ _ _) hk h)
  |(with_reducible exact fun r h => at_rounds (round_Units.mono _ _ _) hk h)
  |(with_reducible exact round_beyond.le hk)
  |(with_reducible exact fun r h => at_rounds (bits_Len.mono _) hk h)
  |(with_reducible refine LeO.bind ?_ (fun _ => ?_))
  |(with_reducible refine LeO.ite3 Iff.rfl (fun _ => ?_) (fun _ => ?_))
  |exact round_Pack.j3_le hk
  |exact round_Pack.j2_le hk
  |exact fun r h => at_rounds (round_Unit.mono _ _ _) hk h
  |exact fun r h => at_rounds (round_Units.mono _ _ _) hk h
  |exact round_beyond.le hk
  |exact fun r h => at_rounds (bits_Len.mono _) hk h
  |exact LeO.refl _
  |(with_reducible refine LeO.pos (by assumption) ?_)
  |(with_reducible refine LeO.neg (by assumption) ?_)
  |(with_reducible refine LeO.posl (by assumption) ?_)
  |(with_reducible refine LeO.negl (by assumption) ?_)
  |(with_reducible refine LeO.ite3 (by omega) (fun _ => ?_) (fun _ => ?_))
theorem round_Pack.j0_le {k n : Nat} (hk : k ≤ n) {x0 : Int} {x1 : Int} {x2 : Bool} {x3 : Int} {x4 : Int} {x5 : Bool} {x29 : Bool} {ex7 : Bool} {ex8 : Bool} {ex9 : Bool} {ex10 : Bool} {ex11 : Bool} : LeO (round_Pack.j0 k x0 x1 x2 x3 x4 x5 x29) (L.round_Pack.j3 n x29 x5 x4 x3 x2 x1 x0 ex7 ex8 ex9 ex10 ex11) := by
 cases k with
 |zero => rw [round_Pack.j0]; exact LeO.none _
 |succ k =>
 replace hk := Nat.le_of_succ_le hk
 rw [round_Pack.j0, L.round_Pack.j3_eq]
 repeat' first
  |(with_reducible exact LeO.refl _)
  |exact LeO.none _
  |(with_reducible exact round_Pack.j3_le hk)
  |(with_reducible exact round_Pack.j2_le hk)
  |(with_reducible exact round_Pack.j1_le hk)
  |(with_reducible exact fun r h => at_rounds (round_Unit.mono _ _ _) hk h)
  |(with_reducible exact fun r h => at_rounds (round_Units.mono _ _ _) hk h)
  |(with_reducible exact round_beyond.le hk)
  |(with_reducible exact fun r h => at_rounds (bits_Len.mono _) hk h)
  |(with_reducible refine LeO.bind ?_ (fun _ => ?_))
  |(with_reducible refine LeO.ite3 Iff.rfl (fun _ => ?_) (fun _ => ?_))
  |exact round_Pack.j3_le hk
  |exact round_Pack.j2_le hk
  |exact round_Pack.j1_le hk
  |exact fun r h => at_rounds (round_Unit.mono _ _ _) hk h
  |exact fun r h => at_rounds (round_Units.mono _ _ _) hk h
  |exact round_beyond.le hk
  |exact fun r h => at_rounds (bits_Len.mono _) hk h
  |exact LeO.refl _
  |(with_reducible refine LeO.pos (by assumption) ?_)
  |(with_reducible refine LeO.neg (by assumption) ?_)
  |(with_reducible refine LeO.posl (by assumption) ?_)
  |(with_reducible refine LeO.negl (by assumption) ?_)
  |(with_reducible refine LeO.ite3 (by omega) (fun _ => ?_) (fun _ => ?_))
theorem round_Pack.le {k n : Nat} (hk : k ≤ n) {a0 : Int} {a1 : Int} {a2 : Bool} {a3 : Int} {a4 : Int} {a5 : Bool} : LeO (round_Pack.f k a0 a1 a2 a3 a4 a5) (L.round_Pack.f n a0 a1 a2 a3 a4 a5) := by
 unfold round_Pack.f
 rw [L.round_Pack.eq]
 repeat' first
  |(with_reducible exact LeO.refl _)
  |exact LeO.none _
  |(with_reducible exact round_Pack.j3_le hk)
  |(with_reducible exact round_Pack.j2_le hk)
  |(with_reducible exact round_Pack.j1_le hk)
  |(with_reducible exact round_Pack.j0_le hk)
  |(with_reducible exact fun r h => at_rounds (round_Unit.mono _ _ _) hk h)
  |(with_reducible exact fun r h => at_rounds (round_Units.mono _ _ _) hk h)
  |(with_reducible exact round_beyond.le hk)
  |(with_reducible exact fun r h => at_rounds (bits_Len.mono _) hk h)
  |(with_reducible refine LeO.bind ?_ (fun _ => ?_))
  |(with_reducible refine LeO.ite3 Iff.rfl (fun _ => ?_) (fun _ => ?_))
  |exact round_Pack.j3_le hk
  |exact round_Pack.j2_le hk
  |exact round_Pack.j1_le hk
  |exact round_Pack.j0_le hk
  |exact fun r h => at_rounds (round_Unit.mono _ _ _) hk h
  |exact fun r h => at_rounds (round_Units.mono _ _ _) hk h
  |exact round_beyond.le hk
  |exact fun r h => at_rounds (bits_Len.mono _) hk h
  |exact LeO.refl _
  |(with_reducible refine LeO.pos (by assumption) ?_)
  |(with_reducible refine LeO.neg (by assumption) ?_)
  |(with_reducible refine LeO.posl (by assumption) ?_)
  |(with_reducible refine LeO.negl (by assumption) ?_)
  |(with_reducible refine LeO.ite3 (by omega) (fun _ => ?_) (fun _ => ?_))
theorem round_Pack.calls (k : Nat) (a0 : Int) (a1 : Int) (a2 : Bool) (a3 : Int) (a4 : Int) (a5 : Bool) (r1 : Int) (r2 : Bool) (r3 : Bool) (r4 : Bool) (r5 : Bool) (r6 : Bool) (w : World) (h : round_Pack.f k a0 a1 a2 a3 a4 a5 = some (r1, r2, r3, r4, r5, r6)) :
  Calls Try.prog 32 #[.int .i64 a0, .int .i64 a1, .bool a2, .int .i64 a3, .int .u64 a4, .bool a5] w fun e w' => e = .returned (.tuple #[.int .u32 r1, .agg #[.bool r2, .bool r3, .bool r4, .bool r5, .bool r6]]) ∧ Below w.heap.size w w' :=
 Go.Proofs.Ytejkemahdincjaa.Ek.calls_of L.round_Pack.ok k ((a0, ()), (a1, ()), (a2, ()), (a3, ()), (a4, ()), (a5, ()), ()) (r1, r2, r3, r4, r5, r6) rfl (round_Pack.le (Nat.le_refl _) _ h) w
theorem annealref1_Mul.j1_le {k n : Nat} (hk : k ≤ n) {x0 : Int} {x1 : Int} {x2 : Int} {x3 : Int} {x12 : Bool} {x67 : Bool} {ex6 : Bool} {ex7 : Bool} {ex8 : Bool} {ex9 : Bool} {ex10 : Bool} : LeO (annealref1_Mul.j1 k x0 x1 x2 x3 x12 x67) (L.annealref1_Mul.j8 n x67 x12 x3 x2 x1 x0 ex6 ex7 ex8 ex9 ex10) := by
 cases k with
 |zero => rw [annealref1_Mul.j1]; exact LeO.none _
 |succ k =>
 replace hk := Nat.le_of_succ_le hk
 rw [annealref1_Mul.j1, L.annealref1_Mul.j8_eq]
 repeat' first
  |(with_reducible exact LeO.refl _)
  |exact LeO.none _
  |(with_reducible exact fun r h => at_rounds (annealref1_nans.mono _ _) hk h)
  |(with_reducible exact fun r h => at_rounds (annealref1_zero.mono _ _) hk h)
  |(with_reducible exact fun r h => at_rounds (annealref1_inf.mono _ _) hk h)
  |(with_reducible exact fun r h => at_rounds (annealref1_Unpack.mono _ _) hk h)
  |(with_reducible exact annealref1_Pack.le hk)
  |(with_reducible refine LeO.bind ?_ (fun _ => ?_))
  |(with_reducible refine LeO.ite3 Iff.rfl (fun _ => ?_) (fun _ => ?_))
  |exact fun r h => at_rounds (annealref1_nans.mono _ _) hk h
  |exact fun r h => at_rounds (annealref1_zero.mono _ _) hk h
  |exact fun r h => at_rounds (annealref1_inf.mono _ _) hk h
  |exact fun r h => at_rounds (annealref1_Unpack.mono _ _) hk h
  |exact annealref1_Pack.le hk
  |exact LeO.refl _
  |(with_reducible refine LeO.pos (by assumption) ?_)
  |(with_reducible refine LeO.neg (by assumption) ?_)
  |(with_reducible refine LeO.posl (by assumption) ?_)
  |(with_reducible refine LeO.negl (by assumption) ?_)
  |(with_reducible refine LeO.ite3 (by omega) (fun _ => ?_) (fun _ => ?_))
theorem annealref1_Mul.j0_le {k n : Nat} (hk : k ≤ n) {x0 : Int} {x1 : Int} {x2 : Int} {x3 : Int} {x12 : Bool} {x56 : Bool} {ex6 : Bool} {ex7 : Bool} {ex8 : Bool} {ex9 : Bool} {ex10 : Bool} : LeO (annealref1_Mul.j0 k x0 x1 x2 x3 x12 x56) (L.annealref1_Mul.j6 n x56 x12 x3 x2 x1 x0 ex6 ex7 ex8 ex9 ex10) := by
 cases k with
 |zero => rw [annealref1_Mul.j0]; exact LeO.none _
 |succ k =>
 replace hk := Nat.le_of_succ_le hk
 rw [annealref1_Mul.j0, L.annealref1_Mul.j6_eq]
 repeat' first
  |(with_reducible exact LeO.refl _)
  |exact LeO.none _
  |(with_reducible exact annealref1_Mul.j1_le hk)
  |(with_reducible exact fun r h => at_rounds (annealref1_nans.mono _ _) hk h)
  |(with_reducible exact fun r h => at_rounds (annealref1_zero.mono _ _) hk h)
  |(with_reducible exact fun r h => at_rounds (annealref1_inf.mono _ _) hk h)
  |(with_reducible exact fun r h => at_rounds (annealref1_Unpack.mono _ _) hk h)
  |(with_reducible exact annealref1_Pack.le hk)
  |(with_reducible refine LeO.bind ?_ (fun _ => ?_))
  |(with_reducible refine LeO.ite3 Iff.rfl (fun _ => ?_) (fun _ => ?_))
  |exact annealref1_Mul.j1_le hk
  |exact fun r h => at_rounds (annealref1_nans.mono _ _) hk h
  |exact fun r h => at_rounds (annealref1_zero.mono _ _) hk h
  |exact fun r h => at_rounds (annealref1_inf.mono _ _) hk h
  |exact fun r h => at_rounds (annealref1_Unpack.mono _ _) hk h
  |exact annealref1_Pack.le hk
  |exact LeO.refl _
  |(with_reducible refine LeO.pos (by assumption) ?_)
  |(with_reducible refine LeO.neg (by assumption) ?_)
  |(with_reducible refine LeO.posl (by assumption) ?_)
  |(with_reducible refine LeO.negl (by assumption) ?_)
  |(with_reducible refine LeO.ite3 (by omega) (fun _ => ?_) (fun _ => ?_))
theorem annealref1_Mul.le {k n : Nat} (hk : k ≤ n) {a0 : Int} {a1 : Int} {a2 : Int} {a3 : Int} : LeO (annealref1_Mul.f k a0 a1 a2 a3) (L.annealref1_Mul.f n a0 a1 a2 a3) := by
 unfold annealref1_Mul.f
 rw [L.annealref1_Mul.eq]
 repeat' first
  |(with_reducible exact LeO.refl _)
  |exact LeO.none _
  |(with_reducible exact annealref1_Mul.j1_le hk)
  |(with_reducible exact annealref1_Mul.j0_le hk)
  |(with_reducible exact fun r h => at_rounds (annealref1_nans.mono _ _) hk h)
  |(with_reducible exact fun r h => at_rounds (annealref1_zero.mono _ _) hk h)
  |(with_reducible exact fun r h => at_rounds (annealref1_inf.mono _ _) hk h)
  |(with_reducible exact fun r h => at_rounds (annealref1_Unpack.mono _ _) hk h)
  |(with_reducible exact annealref1_Pack.le hk)
  |(with_reducible refine LeO.bind ?_ (fun _ => ?_))
  |(with_reducible refine LeO.ite3 Iff.rfl (fun _ => ?_) (fun _ => ?_))
  |exact annealref1_Mul.j1_le hk
  |exact annealref1_Mul.j0_le hk
  |exact fun r h => at_rounds (annealref1_nans.mono _ _) hk h
  |exact fun r h => at_rounds (annealref1_zero.mono _ _) hk h
  |exact fun r h => at_rounds (annealref1_inf.mono _ _) hk h
  |exact fun r h => at_rounds (annealref1_Unpack.mono _ _) hk h
  |exact annealref1_Pack.le hk
  |exact LeO.refl _
  |(with_reducible refine LeO.pos (by assumption) ?_)
  |(with_reducible refine LeO.neg (by assumption) ?_)
  |(with_reducible refine LeO.posl (by assumption) ?_)
  |(with_reducible refine LeO.negl (by assumption) ?_)
  |(with_reducible refine LeO.ite3 (by omega) (fun _ => ?_) (fun _ => ?_))
theorem annealref1_Mul.calls (k : Nat) (a0 : Int) (a1 : Int) (a2 : Int) (a3 : Int) (r1 : Int) (r2 : Bool) (r3 : Bool) (r4 : Bool) (r5 : Bool) (r6 : Bool) (w : World) (h : annealref1_Mul.f k a0 a1 a2 a3 = some (r1, r2, r3, r4, r5, r6)) :
  Calls Try.prog 16 #[.int .i64 a0, .int .i64 a1, .int .u32 a2, .int .u32 a3] w fun e w' => e = .returned (.tuple #[.int .u32 r1, .agg #[.bool r2, .bool r3, .bool r4, .bool r5, .bool r6]]) ∧ Below w.heap.size w w' :=
 Go.Proofs.Ytejkemahdincjaa.Ek.calls_of L.annealref1_Mul.ok k ((a0, ()), (a1, ()), (a2, ()), (a3, ()), ()) (r1, r2, r3, r4, r5, r6) rfl (annealref1_Mul.le (Nat.le_refl _) _ h) w

-- NEED 2
/-! ### sum_Add: function 10 -/
mutual
def sum_Add.j0 : Nat → Int → Int → Int → Int → Bool → Bool → Bool → Option (Int × Bool × Bool × Bool × Bool × Bool)
 |0, _, _, _, _, _, _, _ => none
 |k + 1, x0, x1, x2, x3, x13, x14, x39 => if x39 = true then ((format_Neg.f x0 x2).bind fun t236 => ((format_Neg.f x0 x3).bind fun t237 => ((sum_Infinite.f k x0 t236 t237 x13 x14).bind fun bt238 => (some (bt238.1, bt238.2.1, bt238.2.2.1, bt238.2.2.2.1, bt238.2.2.2.2.1, bt238.2.2.2.2.2))))) else ((sum_Of.f x0 x2).bind fun bt244 => ((sum_Of.f x0 x3).bind fun bt248 => ((sum_Exact.f k bt244.1 bt244.2.1 bt244.2.2.1 bt244.2.2.2 bt248.1 bt248.2.1 bt248.2.2.1 bt248.2.2.2).bind fun bt254 => (if bt254.2.2.1 = 0 then (sum_Add.j1 k x0 x1 (!bt254.2.2.2) bt244.1 bt244.2.1 bt244.2.2.1 bt244.2.2.2 bt248.1 bt248.2.1 bt248.2.2.1 bt248.2.2.2 bt254.1 bt254.2.1 bt254.2.2.1 bt254.2.2.2) else (sum_Add.j1 k x0 x1 false bt244.1 bt244.2.1 bt244.2.2.1 bt244.2.2.2 bt248.1 bt248.2.1 bt248.2.2.1 bt248.2.2.2 bt254.1 bt254.2.1 bt254.2.2.1 bt254.2.2.2)))))
def sum_Add.j1 : Nat → Int → Int → Bool → Bool → Int → Int → Bool → Bool → Int → Int → Bool → Bool → Int → Int → Bool → Option (Int × Bool × Bool × Bool × Bool × Bool)
 |0, _, _, _, _, _, _, _, _, _, _, _, _, _, _, _ => none
 |k + 1, x0, x1, x68, x253000, x253001, x253002, x253003, x254000, x254001, x254002, x254003, x259000, x259001, x259002, x259003 => if x68 = true then ((sum_Nought.f x0 x1 x253000 x254000).bind fun t259 => (some (t259, false, false, false, false, false))) else ((round_Pack.f k x0 x1 x259000 x259001 x259002 x259003).bind fun bt260 => (some (bt260.1, bt260.2.1, bt260.2.2.1, bt260.2.2.2.1, bt260.2.2.2.2.1, bt260.2.2.2.2.2)))
end
def sum_Add.f (k : Nat) (a0 : Int) (a1 : Int) (a2 : Int) (a3 : Int) : Option (Int × Bool × Bool × Bool × Bool × Bool) := (sum_Nans.f k a0 (([a2, a3] : List Int))).bind fun bt226 => (if bt226.2.2.2.2.2.2 = true then (some (bt226.1, bt226.2.1, bt226.2.2.1, bt226.2.2.2.1, bt226.2.2.2.2.1, bt226.2.2.2.2.2.1)) else ((format_IsInf.f k a0 a2).bind fun t234 => ((format_IsInf.f k a0 a3).bind fun t235 => (if t234 = true then (sum_Add.j0 k a0 a1 a2 a3 t234 t235 true) else (sum_Add.j0 k a0 a1 a2 a3 t234 t235 t235)))))
/- What the reckoner tells of printed functions. -/
set_option maxRecDepth 100000
theorem sum_Add.j1_le {k n : Nat} (hk : k ≤ n) {x0 : Int} {x1 : Int} {x68 : Bool} {x253000 : Bool} {x253001 : Int} {x253002 : Int} {x253003 : Bool} {x254000 : Bool} {x254001 : Int} {x254002 : Int} {x254003 : Bool} {x259000 : Bool} {x259001 : Int} {x259002 : Int} {x259003 : Bool} {ex15 : Bool} {ex16 : Bool} {ex17 : Bool} {ex18 : Bool} {ex19 : Bool} : LeO (sum_Add.j1 k x0 x1 x68 x253000 x253001 x253002 x253003 x254000 x254001 x254002 x254003 x259000 x259001 x259002 x259003) (L.sum_Add.j10 n x68 x1 x0 x259000 x259001 x259002 x259003 x254000 x254001 x254002 x254003 x253000 x253001 x253002 x253003 ex15 ex16 ex17 ex18 ex19) := by
 cases k with
 |zero => rw [sum_Add.j1]; exact LeO.none _
 |succ k =>
 replace hk := Nat.le_of_succ_le hk
 rw [sum_Add.j1, L.sum_Add.j10_eq]
 repeat' first
  |(with_reducible exact LeO.refl _)
  |exact LeO.none _
  |(with_reducible exact fun r h => at_rounds (sum_Nans.mono _ _) hk h)
  |(with_reducible exact fun r h => at_rounds (format_IsInf.mono _ _) hk h)
  |(with_reducible exact fun r h => at_rounds (sum_Infinite.mono _ _ _ _ _) hk h)
  |(with_reducible exact sum_Exact.le hk)
  |(with_reducible exact round_Pack.le hk)
  |(with_reducible refine LeO.bind ?_ (fun _ => ?_))
  |(with_reducible refine LeO.ite3 Iff.rfl (fun _ => ?_) (fun _ => ?_))
  |exact fun r h => at_rounds (sum_Nans.mono _ _) hk h
  |exact fun r h => at_rounds (format_IsInf.mono _ _) hk h
  |exact fun r h => at_rounds (sum_Infinite.mono _ _ _ _ _) hk h
  |exact sum_Exact.le hk
  |exact round_Pack.le hk
  |exact LeO.refl _
  |(with_reducible refine LeO.pos (by assumption) ?_)
  |(with_reducible refine LeO.neg (by assumption) ?_)
  |(with_reducible refine LeO.posl (by assumption) ?_)
  |(with_reducible refine LeO.negl (by assumption) ?_)
  |(with_reducible refine LeO.ite3 (by omega) (fun _ => ?_) (fun _ => ?_))
theorem sum_Add.j0_le {k n : Nat} (hk : k ≤ n) {x0 : Int} {x1 : Int} {x2 : Int} {x3 : Int} {x13 : Bool} {x14 : Bool} {x39 : Bool} {ex7 : Bool} {ex8 : Bool} {ex9 : Bool} {ex10 : Bool} {ex11 : Bool} : LeO (sum_Add.j0 k x0 x1 x2 x3 x13 x14 x39) (L.sum_Add.j6 n x39 x14 x13 x3 x2 x1 x0 ex7 ex8 ex9 ex10 ex11) := by
 cases k with
 |zero => rw [sum_Add.j0]; exact LeO.none _
 |succ k =>
 replace hk := Nat.le_of_succ_le hk
 rw [sum_Add.j0, L.sum_Add.j6_eq]
 repeat' first
  |(with_reducible exact LeO.refl _)
  |exact LeO.none _
  |(with_reducible exact sum_Add.j1_le hk)
  |(with_reducible exact fun r h => at_rounds (sum_Nans.mono _ _) hk h)
  |(with_reducible exact fun r h => at_rounds (format_IsInf.mono _ _) hk h)
  |(with_reducible exact fun r h => at_rounds (sum_Infinite.mono _ _ _ _ _) hk h)
  |(with_reducible exact sum_Exact.le hk)
  |(with_reducible exact round_Pack.le hk)
  |(with_reducible refine LeO.bind ?_ (fun _ => ?_))
  |(with_reducible refine LeO.ite3 Iff.rfl (fun _ => ?_) (fun _ => ?_))
  |exact sum_Add.j1_le hk
  |exact fun r h => at_rounds (sum_Nans.mono _ _) hk h
  |exact fun r h => at_rounds (format_IsInf.mono _ _) hk h
  |exact fun r h => at_rounds (sum_Infinite.mono _ _ _ _ _) hk h
  |exact sum_Exact.le hk
  |exact round_Pack.le hk
  |exact LeO.refl _
  |(with_reducible refine LeO.pos (by assumption) ?_)
  |(with_reducible refine LeO.neg (by assumption) ?_)
  |(with_reducible refine LeO.posl (by assumption) ?_)
  |(with_reducible refine LeO.negl (by assumption) ?_)
  |(with_reducible refine LeO.ite3 (by omega) (fun _ => ?_) (fun _ => ?_))
theorem sum_Add.le {k n : Nat} (hk : k ≤ n) {a0 : Int} {a1 : Int} {a2 : Int} {a3 : Int} : LeO (sum_Add.f k a0 a1 a2 a3) (L.sum_Add.f n a0 a1 a2 a3) := by
 unfold sum_Add.f
 rw [L.sum_Add.eq]
 repeat' first
  |(with_reducible exact LeO.refl _)
  |exact LeO.none _
  |(with_reducible exact sum_Add.j1_le hk)
  |(with_reducible exact sum_Add.j0_le hk)
  |(with_reducible exact fun r h => at_rounds (sum_Nans.mono _ _) hk h)
  |(with_reducible exact fun r h => at_rounds (format_IsInf.mono _ _) hk h)
  |(with_reducible exact fun r h => at_rounds (sum_Infinite.mono _ _ _ _ _) hk h)
  |(with_reducible exact sum_Exact.le hk)
  |(with_reducible exact round_Pack.le hk)
  |(with_reducible refine LeO.bind ?_ (fun _ => ?_))
  |(with_reducible refine LeO.ite3 Iff.rfl (fun _ => ?_) (fun _ => ?_))
  |exact sum_Add.j1_le hk
  |exact sum_Add.j0_le hk
  |exact fun r h => at_rounds (sum_Nans.mono _ _) hk h
  |exact fun r h => at_rounds (format_IsInf.mono _ _) hk h
  |exact fun r h => at_rounds (sum_Infinite.mono _ _ _ _ _) hk h
  |exact sum_Exact.le hk
  |exact round_Pack.le hk
  |exact LeO.refl _
  |(with_reducible refine LeO.pos (by assumption) ?_)
  |(with_reducible refine LeO.neg (by assumption) ?_)
  |(with_reducible refine LeO.posl (by assumption) ?_)
  |(with_reducible refine LeO.negl (by assumption) ?_)
  |(with_reducible refine LeO.ite3 (by omega) (fun _ => ?_) (fun _ => ?_))
theorem sum_Add.calls (k : Nat) (a0 : Int) (a1 : Int) (a2 : Int) (a3 : Int) (r1 : Int) (r2 : Bool) (r3 : Bool) (r4 : Bool) (r5 : Bool) (r6 : Bool) (w : World) (h : sum_Add.f k a0 a1 a2 a3 = some (r1, r2, r3, r4, r5, r6)) :
  Calls Try.prog 10 #[.int .i64 a0, .int .i64 a1, .int .u32 a2, .int .u32 a3] w fun e w' => e = .returned (.tuple #[.int .u32 r1, .agg #[.bool r2, .bool r3, .bool r4, .bool r5, .bool r6]]) ∧ Below w.heap.size w w' :=
 Go.Proofs.Ytejkemahdincjaa.Ek.calls_of L.sum_Add.ok k ((a0, ()), (a1, ()), (a2, ()), (a3, ()), ()) (r1, r2, r3, r4, r5, r6) rfl (sum_Add.le (Nat.le_refl _) _ h) w
theorem prod_Fma.j2_le {k n : Nat} (hk : k ≤ n) {x0 : Int} {x1 : Int} {x16 : Bool} {x99 : Bool} {x569000 : Bool} {x569001 : Int} {x569002 : Int} {x569003 : Bool} {x574000 : Bool} {x574001 : Int} {x574002 : Int} {x574003 : Bool} {ex12 : Bool} {ex13 : Bool} {ex14 : Bool} {ex15 : Bool} {ex16 : Bool} : LeO (prod_Fma.j2 k x0 x1 x16 x99 x569000 x569001 x569002 x569003 x574000 x574001 x574002 x574003) (L.prod_Fma.j15 n x99 x16 x1 x0 x574000 x574001 x574002 x574003 x569000 x569001 x569002 x569003 ex12 ex13 ex14 ex15 ex16) := by
 cases k with
 |zero => rw [prod_Fma.j2]; exact LeO.none _
 |succ k =>
 replace hk := Nat.le_of_succ_le hk
 rw [prod_Fma.j2, L.prod_Fma.j15_eq]
 repeat' first
  |(with_reducible exact LeO.refl _)
  |exact LeO.none _
  |(with_reducible exact fun r h => at_rounds (prod_torn.mono _ _ _) hk h)
  |(with_reducible exact fun r h => at_rounds (sum_Nans.mono _ _) hk h)
  |(with_reducible exact fun r h => at_rounds (format_IsInf.mono _ _) hk h)
  |(with_reducible exact fun r h => at_rounds (sum_Infinite.mono _ _ _ _ _) hk h)
  |(with_reducible exact sum_Exact.le hk)
  |(with_reducible exact round_Pack.le hk)
  |(with_reducible refine LeO.bind ?_ (fun _ => ?_))
  |(with_reducible refine LeO.ite3 Iff.rfl (fun _ => ?_) (fun _ => ?_))
  |exact fun r h => at_rounds (prod_torn.mono _ _ _) hk h
  |exact fun r h => at_rounds (sum_Nans.mono _ _) hk h
  |exact fun r h => at_rounds (format_IsInf.mono _ _) hk h
  |exact fun r h => at_rounds (sum_Infinite.mono _ _ _ _ _) hk h
  |exact sum_Exact.le hk
  |exact round_Pack.le hk
  |exact LeO.refl _
  |(with_reducible refine LeO.pos (by assumption) ?_)
  |(with_reducible refine LeO.neg (by assumption) ?_)
  |(with_reducible refine LeO.posl (by assumption) ?_)
  |(with_reducible refine LeO.negl (by assumption) ?_)
  |(with_reducible refine LeO.ite3 (by omega) (fun _ => ?_) (fun _ => ?_))
theorem prod_Fma.j1_le {k n : Nat} (hk : k ≤ n) {x0 : Int} {x1 : Int} {x2 : Int} {x3 : Int} {x4 : Int} {x16 : Bool} {x17 : Bool} {x18 : Bool} {x71 : Bool} {ex9 : Bool} {ex10 : Bool} {ex11 : Bool} {ex12 : Bool} {ex13 : Bool} : LeO (prod_Fma.j1 k x0 x1 x2 x3 x4 x16 x17 x18 x71) (L.prod_Fma.j11 n x71 x18 x17 x16 x4 x3 x2 x1 x0 ex9 ex10 ex11 ex12 ex13) := by
 cases k with
 |zero => rw [prod_Fma.j1]; exact LeO.none _
 |succ k =>
 replace hk := Nat.le_of_succ_le hk
 rw [prod_Fma.j1, L.prod_Fma.j11_eq]
 repeat' first
  |(with_reducible exact LeO.refl _)
  |exact LeO.none _
  |(with_reducible exact prod_Fma.j2_le hk)
  |(with_reducible exact fun r h => at_rounds (prod_torn.mono _ _ _) hk h)
  |(with_reducible exact fun r h => at_rounds (sum_Nans.mono _ _) hk h)
  |(with_reducible exact fun r h => at_rounds (format_IsInf.mono _ _) hk h)
  |(with_reducible exact fun r h => at_rounds (sum_Infinite.mono _ _ _ _ _) hk h)
  |(with_reducible exact sum_Exact.le hk)
  |(with_reducible exact round_Pack.le hk)
  |(with_reducible refine LeO.bind ?_ (fun _ => ?_))
  |(with_reducible refine LeO.ite3 Iff.rfl (fun _ => ?_) (fun _ => ?_))
  |exact prod_Fma.j2_le hk
  |exact fun r h => at_rounds (prod_torn.mono _ _ _) hk h
  |exact fun r h => at_rounds (sum_Nans.mono _ _) hk h
  |exact fun r h => at_rounds (format_IsInf.mono _ _) hk h
  |exact fun r h => at_rounds (sum_Infinite.mono _ _ _ _ _) hk h
  |exact sum_Exact.le hk
  |exact round_Pack.le hk
  |exact LeO.refl _
  |(with_reducible refine LeO.pos (by assumption) ?_)
  |(with_reducible refine LeO.neg (by assumption) ?_)
  |(with_reducible refine LeO.posl (by assumption) ?_)
  |(with_reducible refine LeO.negl (by assumption) ?_)
  |(with_reducible refine LeO.ite3 (by omega) (fun _ => ?_) (fun _ => ?_))
theorem prod_Fma.j0_le {k n : Nat} (hk : k ≤ n) {x0 : Int} {x1 : Int} {x2 : Int} {x3 : Int} {x4 : Int} {x16 : Bool} {x17 : Bool} {x18 : Bool} {ex8 : Bool} {ex9 : Bool} {ex10 : Bool} {ex11 : Bool} {ex12 : Bool} : LeO (prod_Fma.j0 k x0 x1 x2 x3 x4 x16 x17 x18) (L.prod_Fma.j10 n x18 x17 x16 x4 x3 x2 x1 x0 ex8 ex9 ex10 ex11 ex12) := by
 cases k with
 |zero => rw [prod_Fma.j0]; exact LeO.none _
 |succ k =>
 replace hk := Nat.le_of_succ_le hk
 rw [prod_Fma.j0, L.prod_Fma.j10_eq]
 repeat' first
  |(with_reducible exact LeO.refl _)
  |exact LeO.none _
  |(with_reducible exact prod_Fma.j2_le hk)
  |(with_reducible exact prod_Fma.j1_le hk)
  |(with_reducible exact fun r h => at_rounds (prod_torn.mono _ _ _) hk h)
  |(with_reducible exact fun r h => at_rounds (sum_Nans.mono _ _) hk h)
  |(with_reducible exact fun r h => at_rounds (format_IsInf.mono _ _) hk h)
  |(with_reducible exact fun r h => at_rounds (sum_Infinite.mono _ _ _ _ _) hk h)
  |(with_reducible exact sum_Exact.le hk)
  |(with_reducible exact round_Pack.le hk)
  |(with_reducible refine LeO.bind ?_ (fun _ => ?_))
  |(with_reducible refine LeO.ite3 Iff.rfl (fun _ => ?_) (fun _ => ?_))
  |exact prod_Fma.j2_le hk
  |exact prod_Fma.j1_le hk
  |exact fun r h => at_rounds (prod_torn.mono _ _ _) hk h
  |exact fun r h => at_rounds (sum_Nans.mono _ _) hk h
  |exact fun r h => at_rounds (format_IsInf.mono _ _) hk h
  |exact fun r h => at_rounds (sum_Infinite.mono _ _ _ _ _) hk h
  |exact sum_Exact.le hk
  |exact round_Pack.le hk
  |exact LeO.refl _
  |(with_reducible refine LeO.pos (by assumption) ?_)
  |(with_reducible refine LeO.neg (by assumption) ?_)
  |(with_reducible refine LeO.posl (by assumption) ?_)
  |(with_reducible refine LeO.negl (by assumption) ?_)
  |(with_reducible refine LeO.ite3 (by omega) (fun _ => ?_) (fun _ => ?_))
theorem prod_Fma.le {k n : Nat} (hk : k ≤ n) {a0 : Int} {a1 : Int} {a2 : Int} {a3 : Int} {a4 : Int} : LeO (prod_Fma.f k a0 a1 a2 a3 a4) (L.prod_Fma.f n a0 a1 a2 a3 a4) := by
 unfold prod_Fma.f
 rw [L.prod_Fma.eq]
 repeat' first
  |(with_reducible exact LeO.refl _)
  |exact LeO.none _
  |(with_reducible exact prod_Fma.j2_le hk)
  |(with_reducible exact prod_Fma.j1_le hk)
  |(with_reducible exact prod_Fma.j0_le hk)
  |(with_reducible exact fun r h => at_rounds (prod_torn.mono _ _ _) hk h)
  |(with_reducible exact fun r h => at_rounds (sum_Nans.mono _ _) hk h)
  |(with_reducible exact fun r h => at_rounds (format_IsInf.mono _ _) hk h)
  |(with_reducible exact fun r h => at_rounds (sum_Infinite.mono _ _ _ _ _) hk h)
  |(with_reducible exact sum_Exact.le hk)
  |(with_reducible exact round_Pack.le hk)
  |(with_reducible refine LeO.bind ?_ (fun _ => ?_))
  |(with_reducible refine LeO.ite3 Iff.rfl (fun _ => ?_) (fun _ => ?_))
  |exact prod_Fma.j2_le hk
  |exact prod_Fma.j1_le hk
  |exact prod_Fma.j0_le hk
  |exact fun r h => at_rounds (prod_torn.mono _ _ _) hk h
  |exact fun r h => at_rounds (sum_Nans.mono _ _) hk h
  |exact fun r h => at_rounds (format_IsInf.mono _ _) hk h
  |exact fun r h => at_rounds (sum_Infinite.mono _ _ _ _ _) hk h
  |exact sum_Exact.le hk
  |exact round_Pack.le hk
  |exact LeO.refl _
  |(with_reducible refine LeO.pos (by assumption) ?_)
  |(with_reducible refine LeO.neg (by assumption) ?_)
  |(with_reducible refine LeO.posl (by assumption) ?_)
  |(with_reducible refine LeO.negl (by assumption) ?_)
  |(with_reducible refine LeO.ite3 (by omega) (fun _ => ?_) (fun _ => ?_))
theorem prod_Fma.calls (k : Nat) (a0 : Int) (a1 : Int) (a2 : Int) (a3 : Int) (a4 : Int) (r1 : Int) (r2 : Bool) (r3 : Bool) (r4 : Bool) (r5 : Bool) (r6 : Bool) (w : World) (h : prod_Fma.f k a0 a1 a2 a3 a4 = some (r1, r2, r3, r4, r5, r6)) :
  Calls Try.prog 18 #[.int .i64 a0, .int .i64 a1, .int .u32 a2, .int .u32 a3, .int .u32 a4] w fun e w' => e = .returned (.tuple #[.int .u32 r1, .agg #[.bool r2, .bool r3, .bool r4, .bool r5, .bool r6]]) ∧ Below w.heap.size w w' :=
 Go.Proofs.Ytejkemahdincjaa.Ek.calls_of L.prod_Fma.ok k ((a0, ()), (a1, ()), (a2, ()), (a3, ()), (a4, ()), ()) (r1, r2, r3, r4, r5, r6) rfl (prod_Fma.le (Nat.le_refl _) _ h) w
theorem prod_Mul.j0_le {k n : Nat} (hk : k ≤ n) {x0 : Int} {x1 : Int} {x2 : Int} {x3 : Int} {x13 : Bool} {x49 : Bool} {ex6 : Bool} {ex7 : Bool} {ex8 : Bool} {ex9 : Bool} {ex10 : Bool} : LeO (prod_Mul.j0 k x0 x1 x2 x3 x13 x49) (L.prod_Mul.j8 n x49 x13 x3 x2 x1 x0 ex6 ex7 ex8 ex9 ex10) := by
 cases k with
 |zero => rw [prod_Mul.j0]; exact LeO.none _
 |succ k =>
 replace hk := Nat.le_of_succ_le hk
 rw [prod_Mul.j0, L.prod_Mul.j8_eq]
 repeat' first
  |(with_reducible exact LeO.refl _)
  |exact LeO.none _
  |(with_reducible exact fun r h => at_rounds (sum_Nans.mono _ _) hk h)
  |(with_reducible exact fun r h => at_rounds (prod_torn.mono _ _ _) hk h)
  |(with_reducible exact fun r h => at_rounds (format_IsInf.mono _ _) hk h)
  |(with_reducible exact round_Pack.le hk)
  |(with_reducible refine LeO.bind ?_ (fun _ => ?_))
  |(with_reducible refine LeO.ite3 Iff.rfl (fun _ => ?_) (fun _ => ?_))
  |exact fun r h => at_rounds (sum_Nans.mono _ _) hk h
  |exact fun r h => at_rounds (prod_torn.mono _ _ _) hk h
  |exact fun r h => at_rounds (format_IsInf.mono _ _) hk h
  |exact round_Pack.le hk
  |exact LeO.refl _
  |(with_reducible refine LeO.pos (by assumption) ?_)
  |(with_reducible refine LeO.neg (by assumption) ?_)
  |(with_reducible refine LeO.posl (by assumption) ?_)
  |(with_reducible refine LeO.negl (by assumption) ?_)
  |(with_reducible refine LeO.ite3 (by omega) (fun _ => ?_) (fun _ => ?_))
theorem prod_Mul.le {k n : Nat} (hk : k ≤ n) {a0 : Int} {a1 : Int} {a2 : Int} {a3 : Int} : LeO (prod_Mul.f k a0 a1 a2 a3) (L.prod_Mul.f n a0 a1 a2 a3) := by
 unfold prod_Mul.f
 rw [L.prod_Mul.eq]
 repeat' first
  |(with_reducible exact LeO.refl _)
  |exact LeO.none _
  |(with_reducible exact prod_Mul.j0_le hk)
  |(with_reducible exact fun r h => at_rounds (sum_Nans.mono _ _) hk h)
  |(with_reducible exact fun r h => at_rounds (prod_torn.mono _ _ _) hk h)
  |(with_reducible exact fun r h => at_rounds (format_IsInf.mono _ _) hk h)
  |(with_reducible exact round_Pack.le hk)
  |(with_reducible refine LeO.bind ?_ (fun _ => ?_))
  |(with_reducible refine LeO.ite3 Iff.rfl (fun _ => ?_) (fun _ => ?_))
  |exact prod_Mul.j0_le hk
  |exact fun r h => at_rounds (sum_Nans.mono _ _) hk h
  |exact fun r h => at_rounds (prod_torn.mono _ _ _) hk h
  |exact fun r h => at_rounds (format_IsInf.mono _ _) hk h
  |exact round_Pack.le hk
  |exact LeO.refl _
  |(with_reducible refine LeO.pos (by assumption) ?_)
  |(with_reducible refine LeO.neg (by assumption) ?_)
  |(with_reducible refine LeO.posl (by assumption) ?_)
  |(with_reducible refine LeO.negl (by assumption) ?_)
  |(with_reducible refine LeO.ite3 (by omega) (fun _ => ?_) (fun _ => ?_))
theorem prod_Mul.calls (k : Nat) (a0 : Int) (a1 : Int) (a2 : Int) (a3 : Int) (r1 : Int) (r2 : Bool) (r3 : Bool) (r4 : Bool) (r5 : Bool) (r6 : Bool) (w : World) (h : prod_Mul.f k a0 a1 a2 a3 = some (r1, r2, r3, r4, r5, r6)) :
  Calls Try.prog 21 #[.int .i64 a0, .int .i64 a1, .int .u32 a2, .int .u32 a3] w fun e w' => e = .returned (.tuple #[.int .u32 r1, .agg #[.bool r2, .bool r3, .bool r4, .bool r5, .bool r6]]) ∧ Below w.heap.size w w' :=
 Go.Proofs.Ytejkemahdincjaa.Ek.calls_of L.prod_Mul.ok k ((a0, ()), (a1, ()), (a2, ()), (a3, ()), ()) (r1, r2, r3, r4, r5, r6) rfl (prod_Mul.le (Nat.le_refl _) _ h) w
end Go.Proofs.Ytejkemahdincjaa.P
