import Derived.Test.YtfapjegkilljnaaGreatQotZ
import Derived.Test.YtfapjegkilljnaaGreatProg
import Derived.Below
import Derived.Deep.Draws
import Derived.Deep.AppendLies
import Derived.Maps.AppendAt
import Derived.OwnWalk
import Derived.Laws.BytesArg
import Derived.Laws.MakeOwn
import Derived.Laws.OwnMore
import Derived.Deep.OwnRows
import Derived.Tactics
import Derived.Lib.ConvBytes
import Derived.Laws.Slices
import Derived.WalkKit
import Derived.KernelRfl
import Derived.RowKit3
import Derived.Deep.LoopGhost
import Derived.Deep.QuietTactic
import Derived.BigQuiet
import Derived.WideLaws
import Derived.Deep.DeepCutAuto
import Derived.Deep.CutBlock
import Derived.Deep.RegionHeld3
import Derived.Laws.Rows
import Derived.Lib.AppendStr
import Derived.ArgAppend
import Derived.Laws.IdiomCopy
import Derived.OrdersHeld
import Derived.Laws.BitsLemmas
import Derived.RowKit
import Derived.ChangeKeysEq
import Derived.Test.YtfapjegkilljnaaGreatQotWWords
import Derived.Test.YtfapjegkilljnaaGreatQotWLast
import Derived.Test.YtfapjegkilljnaaGreatQotWTab
import Derived.Test.YtfapjegkilljnaaGreatQotWFour
import Derived.Test.YtfapjegkilljnaaGreatQotWQPut
import Derived.Test.YtfapjegkilljnaaGreatQotWApart
import Derived.Test.YtfapjegkilljnaaGreatQotWArr
import Derived.Test.YtfapjegkilljnaaGreatQotWZeros
import Derived.Test.YtfapjegkilljnaaGreatQotWFoot
import Derived.Test.YtfapjegkilljnaaGreatQotWKept
import Derived.Test.YtfapjegkilljnaaGreatQotWShare
import Derived.Test.YtfapjegkilljnaaGreatQotWN
import Derived.Test.YtfapjegkilljnaaGreatQotWFootNe
import Derived.Test.YtfapjegkilljnaaGreatQotWAt
import Derived.Test.YtfapjegkilljnaaGreatQotWEqStruct
import Derived.Test.YtfapjegkilljnaaGreatQotWRepsOne
import Derived.Test.YtfapjegkilljnaaGreatQotWInv
import Derived.Test.YtfapjegkilljnaaGreatQotWInvWords
import Derived.Test.YtfapjegkilljnaaGreatQotWGuard
import Derived.Test.YtfapjegkilljnaaGreatQotWNEv
import Derived.Test.YtfapjegkilljnaaGreatQotWMore
-- Printed by a program of this session's out of Lean's print of the translation; Lean checks it.
set_option linter.unusedVariables false
set_option linter.unusedSimpArgs false
set_option maxRecDepth 100000
set_option maxHeartbeats 8000000
namespace Go.Proofs.YtfapjegkilljnaaGreat.P
open Go.RowKit Go.Proofs.YtfapjegkilljnaaGreatW.PrintWords Go.Proofs.YtfapjegkilljnaaGreatW.PrintLast Go.Proofs.YtfapjegkilljnaaGreatW.PrintMore
attribute [local go_sem] max2_int min2_int max_two min_two max_three min_three max_four min_four

theorem sH (n : Int) : IntKind.u32.wrap n = n % 4294967296 := IntKind.wrap_u32 n



def errW : Option Int → Value
 |none => .nilIface
 |some c => .iface 0 (.int .i64 c)
theorem bT : errW none = .nilIface := rfl
theorem bU (c : Int) : errW (some c) = .iface 0 (.int .i64 c) := rfl

-- the values' own types

-- NOT PRINTED: function 43 (birth_each)

-- NOT PRINTED: function 25 (birth_Noughts)

-- NOT PRINTED: function 10 (opt_Begin)

-- NOT PRINTED: function 45 (api_Param)

-- NOT PRINTED: function 26 (clip_Alike)

-- NEED 0
/-! ### bD: function 51 -/
def bD.f (a0 : Int) : Option (Int × Int) := if a0 = 0 then (some (5, 10)) else (if a0 = 1 then (some (8, 7)) else (some (8, 23)))
theorem bD.calls (a0 r1 r2 : Int) (w : World) (h : bD.f a0 = some (r1, r2)) :
  Calls Tryz.prog 51 #[.int .i64 a0] w fun e w' => e = .returned (.tuple #[.int .i64 r1, .int .i64 r2]) ∧ Drawn0 w w' := by
 have H : (if a0 = 0 then (some (5, 10)) else (if a0 = 1 then (some (8, 7)) else (some (8, 23)))) = some (r1, r2) := h
 clear h
 by_cases c2 : a0 = 0
 ·rw [if_pos c2] at H
  have c2b0 : (a0 == 0) = true := beq_iff_eq.mpr c2
  have c2b1 : (a0 != 0) = false := bne_eq_false_iff_eq.mpr c2
  clear c2
  simp only [Option.some.injEq, Prod.mk.injEq] at H
  obtain ⟨rfl, rfl⟩ := H
  go_enter Tryz.func51, Tryz.ntmps51
  go_wp2
  go_ret2
  exact ⟨gr_, gd_⟩
 ·rw [if_neg c2] at H
  have c2b0 : (a0 == 0) = false := beq_eq_false_iff_ne.mpr c2
  have c2b1 : (a0 != 0) = true := bne_iff_ne.mpr c2
  by_cases c3 : a0 = 1
  ·rw [if_pos c3] at H
   have c3b0 : (a0 == 1) = true := beq_iff_eq.mpr c3
   have c3b1 : (a0 != 1) = false := bne_eq_false_iff_eq.mpr c3
   clear c3
   simp only [Option.some.injEq, Prod.mk.injEq] at H
   obtain ⟨rfl, rfl⟩ := H
   go_enter Tryz.func51, Tryz.ntmps51
   go_wp2
   go_ret2
   exact ⟨gr_, gd_⟩
  ·rw [if_neg c3] at H
   have c3b0 : (a0 == 1) = false := beq_eq_false_iff_ne.mpr c3
   have c3b1 : (a0 != 1) = true := bne_iff_ne.mpr c3
   simp only [Option.some.injEq, Prod.mk.injEq] at H
   obtain ⟨rfl, rfl⟩ := H
   go_enter Tryz.func51, Tryz.ntmps51
   go_wp2
   go_ret2
   exact ⟨gr_, gd_⟩

-- NEED 0
/-! ### dY: function 85 -/
def dY.f (a0 a1 : Int) : Option (Bool × Int × Int) := (bD.f a0).bind fun bt154 => (if 0 ≤ (IntKind.u64.wrap (wrap64 (bt154.1 + bt154.2))) then (if 0 ≤ (IntKind.u64.wrap (bt154.2)) then (if 0 ≤ (IntKind.u64.wrap (bt154.1)) then (some (((Go.bits .and .u32 (shr .u32 a1 (IntKind.u64.wrap (wrap64 (bt154.1 + bt154.2)))) 1) == 1), wrap64 (Go.bits .and .u32 (shr .u32 a1 (IntKind.u64.wrap (bt154.2))) (((shl .u32 1 (IntKind.u64.wrap (bt154.1))) - 1) % 4294967296)), Go.bits .and .u32 a1 (((shl .u32 1 (IntKind.u64.wrap (bt154.2))) - 1) % 4294967296))) else (none)) else (none)) else (none))
theorem dY.calls (a0 a1 : Int) (r1 : Bool) (r2 r3 : Int) (w : World) (h : dY.f a0 a1 = some (r1, r2, r3)) :
  Calls Tryz.prog 85 #[.int .i64 a0, .int .u32 a1] w fun e w' => e = .returned (.tuple #[.bool r1, .int .i64 r2, .int .u32 r3]) ∧ Drawn0 w w' := by
 have H : ((bD.f a0).bind fun bt154 => (if 0 ≤ (IntKind.u64.wrap (wrap64 (bt154.1 + bt154.2))) then (if 0 ≤ (IntKind.u64.wrap (bt154.2)) then (if 0 ≤ (IntKind.u64.wrap (bt154.1)) then (some (((Go.bits .and .u32 (shr .u32 a1 (IntKind.u64.wrap (wrap64 (bt154.1 + bt154.2)))) 1) == 1), wrap64 (Go.bits .and .u32 (shr .u32 a1 (IntKind.u64.wrap (bt154.2))) (((shl .u32 1 (IntKind.u64.wrap (bt154.1))) - 1) % 4294967296)), Go.bits .and .u32 a1 (((shl .u32 1 (IntKind.u64.wrap (bt154.2))) - 1) % 4294967296))) else (none)) else (none)) else (none))) = some (r1, r2, r3) := h
 clear h
 replace H := bq_ H
 obtain ⟨⟨t154, t155⟩, A30, H⟩ := H
 replace H : (if 0 ≤ (IntKind.u64.wrap (wrap64 (t154 + t155))) then (if 0 ≤ (IntKind.u64.wrap (t155)) then (if 0 ≤ (IntKind.u64.wrap (t154)) then (some (((Go.bits .and .u32 (shr .u32 a1 (IntKind.u64.wrap (wrap64 (t154 + t155)))) 1) == 1), wrap64 (Go.bits .and .u32 (shr .u32 a1 (IntKind.u64.wrap (t155))) (((shl .u32 1 (IntKind.u64.wrap (t154))) - 1) % 4294967296)), Go.bits .and .u32 a1 (((shl .u32 1 (IntKind.u64.wrap (t155))) - 1) % 4294967296))) else (none)) else (none)) else (none)) = some (r1, r2, r3) := H
 have A3 := Aside0.mk A30
 clear A30
 obtain ⟨ji4, hji4⟩ : ∃ j_ : Int, (IntKind.u64.wrap (wrap64 (t154 + t155))) = j_ := ⟨_, rfl⟩
 replace H : (if 0 ≤ (ji4) then (if 0 ≤ (IntKind.u64.wrap (t155)) then (if 0 ≤ (IntKind.u64.wrap (t154)) then (some (((Go.bits .and .u32 (shr .u32 a1 (ji4)) 1) == 1), wrap64 (Go.bits .and .u32 (shr .u32 a1 (IntKind.u64.wrap (t155))) (((shl .u32 1 (IntKind.u64.wrap (t154))) - 1) % 4294967296)), Go.bits .and .u32 a1 (((shl .u32 1 (IntKind.u64.wrap (t155))) - 1) % 4294967296))) else (none)) else (none)) else (none)) = some (r1, r2, r3) := by first | (rw [hji4] at H; exact H) | (simp only [hji4] at H ⊢; exact H)
 (try rw [hji4] at A3)
 by_cases c5 : 0 ≤ (ji4)
 ·rw [if_pos c5] at H
  have c5b0 := eq_true c5
  have c5b1 : decide (0 ≤ (ji4)) = true := decide_eq_true c5
  clear c5
  obtain ⟨ji6, hji6⟩ : ∃ j_ : Int, (shr .u32 a1 (ji4)) = j_ := ⟨_, rfl⟩
  replace H : (if 0 ≤ (IntKind.u64.wrap (t155)) then (if 0 ≤ (IntKind.u64.wrap (t154)) then (some (((Go.bits .and .u32 (ji6) 1) == 1), wrap64 (Go.bits .and .u32 (shr .u32 a1 (IntKind.u64.wrap (t155))) (((shl .u32 1 (IntKind.u64.wrap (t154))) - 1) % 4294967296)), Go.bits .and .u32 a1 (((shl .u32 1 (IntKind.u64.wrap (t155))) - 1) % 4294967296))) else (none)) else (none)) = some (r1, r2, r3) := by first | (rw [hji6] at H; exact H) | (simp only [hji6] at H ⊢; exact H)
  (try rw [hji6] at A3)
  have hji6_ : (a1 / 2 ^ min (ji4).toNat 32) = ji6 := hji6
  have hji6z : (ji4) ≤ 32 → (a1 / 2 ^ (ji4).toNat) = ji6 := shr_small hji6
  obtain ⟨ji7, hji7⟩ : ∃ j_ : Int, (IntKind.u64.wrap (t155)) = j_ := ⟨_, rfl⟩
  replace H : (if 0 ≤ (ji7) then (if 0 ≤ (IntKind.u64.wrap (t154)) then (some (((Go.bits .and .u32 (ji6) 1) == 1), wrap64 (Go.bits .and .u32 (shr .u32 a1 (ji7)) (((shl .u32 1 (IntKind.u64.wrap (t154))) - 1) % 4294967296)), Go.bits .and .u32 a1 (((shl .u32 1 (ji7)) - 1) % 4294967296))) else (none)) else (none)) = some (r1, r2, r3) := by first | (rw [hji7] at H; exact H) | (simp only [hji7] at H ⊢; exact H)
  (try rw [hji7] at A3)
  by_cases c8 : 0 ≤ (ji7)
  ·rw [if_pos c8] at H
   have c8b0 := eq_true c8
   have c8b1 : decide (0 ≤ (ji7)) = true := decide_eq_true c8
   clear c8
   obtain ⟨ji9, hji9⟩ : ∃ j_ : Int, (shr .u32 a1 (ji7)) = j_ := ⟨_, rfl⟩
   replace H : (if 0 ≤ (IntKind.u64.wrap (t154)) then (some (((Go.bits .and .u32 (ji6) 1) == 1), wrap64 (Go.bits .and .u32 (ji9) (((shl .u32 1 (IntKind.u64.wrap (t154))) - 1) % 4294967296)), Go.bits .and .u32 a1 (((shl .u32 1 (ji7)) - 1) % 4294967296))) else (none)) = some (r1, r2, r3) := by first | (rw [hji9] at H; exact H) | (simp only [hji9] at H ⊢; exact H)
   (try rw [hji9] at A3)
   have hji9_ : (a1 / 2 ^ min (ji7).toNat 32) = ji9 := hji9
   have hji9z : (ji7) ≤ 32 → (a1 / 2 ^ (ji7).toNat) = ji9 := shr_small hji9
   obtain ⟨ji10, hji10⟩ : ∃ j_ : Int, (IntKind.u64.wrap (t154)) = j_ := ⟨_, rfl⟩
   replace H : (if 0 ≤ (ji10) then (some (((Go.bits .and .u32 (ji6) 1) == 1), wrap64 (Go.bits .and .u32 (ji9) (((shl .u32 1 (ji10)) - 1) % 4294967296)), Go.bits .and .u32 a1 (((shl .u32 1 (ji7)) - 1) % 4294967296))) else (none)) = some (r1, r2, r3) := by first | (rw [hji10] at H; exact H) | (simp only [hji10] at H ⊢; exact H)
   (try rw [hji10] at A3)
   by_cases c11 : 0 ≤ (ji10)
   ·rw [if_pos c11] at H
    have c11b0 := eq_true c11
    have c11b1 : decide (0 ≤ (ji10)) = true := decide_eq_true c11
    clear c11
    obtain ⟨ji12, hji12⟩ : ∃ j_ : Int, (shl .u32 1 (ji10)) = j_ := ⟨_, rfl⟩
    replace H : (some (((Go.bits .and .u32 (ji6) 1) == 1), wrap64 (Go.bits .and .u32 (ji9) (((ji12) - 1) % 4294967296)), Go.bits .and .u32 a1 (((shl .u32 1 (ji7)) - 1) % 4294967296))) = some (r1, r2, r3) := by first | (rw [hji12] at H; exact H) | (simp only [hji12] at H ⊢; exact H)
    (try rw [hji12] at A3)
    have hji12_ : (IntKind.u32.wrap (1 * 2 ^ min (ji10).toNat 32)) = ji12 := hji12
    have hji12z : (ji10) ≤ 32 → (IntKind.u32.wrap (1 * 2 ^ (ji10).toNat)) = ji12 := shl_small hji12
    have hji12u : (IntKind.u32.wrap (2 ^ min (ji10).toNat 32)) = ji12 := by have h_ := hji12_; rw [Int.one_mul] at h_; exact h_
    have hji12v : (ji10) ≤ 32 → (IntKind.u32.wrap (2 ^ (ji10).toNat)) = ji12 := fun hle_ => by have h_ := hji12z hle_; rw [Int.one_mul] at h_; exact h_
    obtain ⟨ji13, hji13⟩ : ∃ j_ : Int, (((ji12) - 1) % 4294967296) = j_ := ⟨_, rfl⟩
    replace H : (some (((Go.bits .and .u32 (ji6) 1) == 1), wrap64 (Go.bits .and .u32 (ji9) (ji13)), Go.bits .and .u32 a1 (((shl .u32 1 (ji7)) - 1) % 4294967296))) = some (r1, r2, r3) := by first | (rw [hji13] at H; exact H) | (simp only [hji13] at H ⊢; exact H)
    (try rw [hji13] at A3)
    have hji13l : 0 ≤ ji13 := by rw [← hji13]; exact Int.emod_nonneg _ (by decide)
    have hji13h : ji13 ≤ 4294967295 := by have := Int.emod_lt_of_pos (((ji12) - 1)) (show (0 : Int) < 4294967296 by decide); omega
    have hji13w : (IntKind.u32.wrap ((ji12) - 1)) = ji13 := (sH _).trans hji13
    (try (have hji13_ := hji13; simp only [Int.add_emod_emod, Int.emod_add_emod, Int.sub_emod_emod, Int.emod_sub_emod] at hji13_))
    have c14b0 := eq_true (of_decide_eq_true (by first | (with_reducible assumption) | assumption) : 0 ≤ (ji7))
    obtain ⟨ji15, hji15⟩ : ∃ j_ : Int, (shl .u32 1 (ji7)) = j_ := ⟨_, rfl⟩
    replace H : (some (((Go.bits .and .u32 (ji6) 1) == 1), wrap64 (Go.bits .and .u32 (ji9) (ji13)), Go.bits .and .u32 a1 (((ji15) - 1) % 4294967296))) = some (r1, r2, r3) := by first | (rw [hji15] at H; exact H) | (simp only [hji15] at H ⊢; exact H)
    (try rw [hji15] at A3)
    have hji15_ : (IntKind.u32.wrap (1 * 2 ^ min (ji7).toNat 32)) = ji15 := hji15
    have hji15z : (ji7) ≤ 32 → (IntKind.u32.wrap (1 * 2 ^ (ji7).toNat)) = ji15 := shl_small hji15
    have hji15u : (IntKind.u32.wrap (2 ^ min (ji7).toNat 32)) = ji15 := by have h_ := hji15_; rw [Int.one_mul] at h_; exact h_
    have hji15v : (ji7) ≤ 32 → (IntKind.u32.wrap (2 ^ (ji7).toNat)) = ji15 := fun hle_ => by have h_ := hji15z hle_; rw [Int.one_mul] at h_; exact h_
    obtain ⟨ji16, hji16⟩ : ∃ j_ : Int, (((ji15) - 1) % 4294967296) = j_ := ⟨_, rfl⟩
    replace H : (some (((Go.bits .and .u32 (ji6) 1) == 1), wrap64 (Go.bits .and .u32 (ji9) (ji13)), Go.bits .and .u32 a1 (ji16))) = some (r1, r2, r3) := by first | (rw [hji16] at H; exact H) | (simp only [hji16] at H ⊢; exact H)
    (try rw [hji16] at A3)
    have hji16l : 0 ≤ ji16 := by rw [← hji16]; exact Int.emod_nonneg _ (by decide)
    have hji16h : ji16 ≤ 4294967295 := by have := Int.emod_lt_of_pos (((ji15) - 1)) (show (0 : Int) < 4294967296 by decide); omega
    have hji16w : (IntKind.u32.wrap ((ji15) - 1)) = ji16 := (sH _).trans hji16
    (try (have hji16_ := hji16; simp only [Int.add_emod_emod, Int.emod_add_emod, Int.sub_emod_emod, Int.emod_sub_emod] at hji16_))
    simp only [Option.some.injEq, Prod.mk.injEq] at H
    obtain ⟨rfl, rfl, rfl⟩ := H
    go_enter Tryz.func85, Tryz.ntmps85
    go_wp2_with (first | ((with_reducible refine gate_callee (f := 51) rfl ?_); refine goesL_ (some 11) rfl rfl Tryz.func51 (by kernel_rfl) rfl #[.int .i64 a0] rfl gl ?_; (with_reducible refine (bD.calls a0 t154 t155 _ A3.out).mono ?_); rintro e w' ⟨rfl, ⟨nd, rfl⟩⟩; refine ⟨_, rfl, ?_⟩))
    go_ret3
    exact ⟨by first | rfl | (simp; done) | (simp only [← hji4, ← hji6, ← hji7, ← hji9, ← hji10, ← hji12, ← hji13, ← hji15, ← hji16] <;> (first | rfl | (simp; done))) | (simp [*]; done) | (congr 1; (try unfold wrap64); omega) | (congr 1; rw [IntKind.wrap_u64]; omega), gd_⟩
   ·rw [if_neg c11] at H
    exact absurd H (by simp)
  ·rw [if_neg c8] at H
   exact absurd H (by simp)
 ·rw [if_neg c5] at H
  exact absurd H (by simp)

-- NEED 0
/-! ### dI: function 94 -/
def dI.f (a0 : Int) : Option (Int) := (bD.f a0).bind fun bt156 => (if 0 ≤ (IntKind.u64.wrap (bt156.1)) then (some (wrap64 ((shl .i64 1 (IntKind.u64.wrap (bt156.1))) - 1))) else (none))
theorem dI.calls (a0 r : Int) (w : World) (h : dI.f a0 = some r) :
  Calls Tryz.prog 94 #[.int .i64 a0] w fun e w' => e = .returned (.int .i64 r) ∧ Drawn0 w w' := by
 have H : ((bD.f a0).bind fun bt156 => (if 0 ≤ (IntKind.u64.wrap (bt156.1)) then (some (wrap64 ((shl .i64 1 (IntKind.u64.wrap (bt156.1))) - 1))) else (none))) = some r := h
 clear h
 replace H := bq_ H
 obtain ⟨⟨t156, t157⟩, A20, H⟩ := H
 replace H : (if 0 ≤ (IntKind.u64.wrap (t156)) then (some (wrap64 ((shl .i64 1 (IntKind.u64.wrap (t156))) - 1))) else (none)) = some r := H
 have A2 := Aside0.mk A20
 clear A20
 obtain ⟨ji3, hji3⟩ : ∃ j_ : Int, (IntKind.u64.wrap (t156)) = j_ := ⟨_, rfl⟩
 replace H : (if 0 ≤ (ji3) then (some (wrap64 ((shl .i64 1 (ji3)) - 1))) else (none)) = some r := by first | (rw [hji3] at H; exact H) | (simp only [hji3] at H ⊢; exact H)
 (try rw [hji3] at A2)
 by_cases c4 : 0 ≤ (ji3)
 ·rw [if_pos c4] at H
  have c4b0 := eq_true c4
  have c4b1 : decide (0 ≤ (ji3)) = true := decide_eq_true c4
  clear c4
  obtain ⟨ji5, hji5⟩ : ∃ j_ : Int, (shl .i64 1 (ji3)) = j_ := ⟨_, rfl⟩
  replace H : (some (wrap64 ((ji5) - 1))) = some r := by first | (rw [hji5] at H; exact H) | (simp only [hji5] at H ⊢; exact H)
  (try rw [hji5] at A2)
  have hji5_ : (IntKind.i64.wrap (1 * 2 ^ min (ji3).toNat 64)) = ji5 := hji5
  have hji5z : (ji3) ≤ 64 → (IntKind.i64.wrap (1 * 2 ^ (ji3).toNat)) = ji5 := shl_small hji5
  have hji5u : (IntKind.i64.wrap (2 ^ min (ji3).toNat 64)) = ji5 := by have h_ := hji5_; rw [Int.one_mul] at h_; exact h_
  have hji5v : (ji3) ≤ 64 → (IntKind.i64.wrap (2 ^ (ji3).toNat)) = ji5 := fun hle_ => by have h_ := hji5z hle_; rw [Int.one_mul] at h_; exact h_
  have hji5y : (wrap64 (1 * 2 ^ min (ji3).toNat 64)) = ji5 := (i64_w _).symm.trans hji5_
  have hji5x : (ji3) ≤ 64 → (wrap64 (1 * 2 ^ (ji3).toNat)) = ji5 := fun h_ => (i64_w _).symm.trans (hji5z h_)
  obtain rfl := Option.some.inj H
  go_enter Tryz.func94, Tryz.ntmps94
  go_wp2_with (first | ((with_reducible refine gate_callee (f := 51) rfl ?_); refine goesL_ (some 7) rfl rfl Tryz.func51 (by kernel_rfl) rfl #[.int .i64 a0] rfl gl ?_; (with_reducible refine (bD.calls a0 t156 t157 _ A2.out).mono ?_); rintro e w' ⟨rfl, ⟨nd, rfl⟩⟩; refine ⟨_, rfl, ?_⟩))
  go_ret
  exact ⟨by first | rfl | (simp; done) | (simp only [← hji3, ← hji5] <;> (first | rfl | (simp; done))) | (simp [*]; done) | (congr 1; (try unfold wrap64); omega) | (congr 1; rw [IntKind.wrap_u64]; omega), gd_⟩
 ·rw [if_neg c4] at H
  exact absurd H (by simp)

-- NEED 0
/-! ### aV: function 83 -/
def aV.j0 : Nat → Int → Int → Int → Int → Bool → Option (Int)
 |0, _, _, _, _, _ => none
 |k + 1, x0, x6, x8, x9, x22 => if x22 = true then (some 0) else (if x8 = 0 then (some 1) else ((dI.f x0).bind fun t163 => (if x8 < t163 then (some 2) else (if x9 = 0 then (some 3) else (if 0 ≤ (IntKind.u64.wrap (wrap64 (x6 - 1))) then (if (shr .u32 x9 (IntKind.u64.wrap (wrap64 (x6 - 1)))) = 1 then (some 4) else (some 5)) else (none))))))
def aV.f (k : Nat) (a0 a1 : Int) : Option (Int) := (bD.f a0).bind fun bt158 => ((dY.f a0 a1).bind fun bt160 => (if bt160.2.1 = 0 then (aV.j0 k a0 bt158.2 bt160.2.1 bt160.2.2 (bt160.2.2 == 0)) else (aV.j0 k a0 bt158.2 bt160.2.1 bt160.2.2 false)))
theorem aV.fB : ∀ k, (∀ y0 y1 y2 y3 y4, LeO (aV.j0 k y0 y1 y2 y3 y4) (aV.j0 (k + 1) y0 y1 y2 y3 y4))
 |0 => fun _ _ _ _ _ r h => by simp [aV.j0] at h
 |k + 1 => by
  have ih0 := aV.fB k
  ·intro y0 y1 y2 y3 y4
   unfold aV.j0
   repeat' first
   |(with_reducible first|exact ih0 _ _ _ _ _|exact LeO.refl _|exact LeO.none _|refine LeO.ite ?_ ?_|refine LeO.bind ?_ (fun _ => ?_))
   |exact ih0 _ _ _ _ _
   |exact LeO.none _
   |refine LeO.ite ?_ ?_
   |refine LeO.bind ?_ (fun _ => ?_)
theorem aV.mono : ∀ a0 a1 k, LeO (aV.f k a0 a1) (aV.f (k + 1) a0 a1) := by
 intro a0 a1 k
 have ih0 := aV.fB k
 unfold aV.f
 repeat' first
   |(with_reducible first|exact ih0 _ _ _ _ _|exact LeO.refl _|exact LeO.none _|refine LeO.ite ?_ ?_|refine LeO.bind ?_ (fun _ => ?_))
   |exact ih0 _ _ _ _ _
   |exact LeO.none _
   |refine LeO.ite ?_ ?_
   |refine LeO.bind ?_ (fun _ => ?_)
theorem aV.calls (k : Nat) (a0 a1 r : Int) (w : World) (h : aV.f k a0 a1 = some r) :
  Calls Tryz.prog 83 #[.int .i64 a0, .int .u32 a1] w fun e w' => e = .returned (.int .i64 r) ∧ Drawn0 w w' := by
 have H : ((bD.f a0).bind fun bt158 => ((dY.f a0 a1).bind fun bt160 => (if bt160.2.1 = 0 then (aV.j0 k a0 bt158.2 bt160.2.1 bt160.2.2 (bt160.2.2 == 0)) else (aV.j0 k a0 bt158.2 bt160.2.1 bt160.2.2 false)))) = some r := h
 clear h
 replace H := bq_ H
 obtain ⟨⟨t158, t159⟩, A30, H⟩ := H
 replace H : ((dY.f a0 a1).bind fun bt160 => (if bt160.2.1 = 0 then (aV.j0 k a0 t159 bt160.2.1 bt160.2.2 (bt160.2.2 == 0)) else (aV.j0 k a0 t159 bt160.2.1 bt160.2.2 false))) = some r := H
 have A3 := Aside0.mk A30
 clear A30
 replace H := bq_ H
 obtain ⟨⟨t160, t161, t162⟩, A40, H⟩ := H
 replace H : (if t161 = 0 then (aV.j0 k a0 t159 t161 t162 (t162 == 0)) else (aV.j0 k a0 t159 t161 t162 false)) = some r := H
 have A4 := Aside0.mk A40
 clear A40
 have HC5 := Aside0.mk H
 clear H
 go_enter Tryz.func83, Tryz.ntmps83
 go_upto_region 3 with (first | ((with_reducible refine gate_callee (f := 51) rfl ?_); refine goesL_ (some 12) rfl rfl Tryz.func51 (by kernel_rfl) rfl #[.int .i64 a0] rfl gl ?_; (with_reducible refine (bD.calls a0 t158 t159 _ A3.out).mono ?_); rintro e w' ⟨rfl, ⟨nd, rfl⟩⟩; refine ⟨_, rfl, ?_⟩) | ((with_reducible refine gate_callee (f := 85) rfl ?_); refine goesL_ (some 18) rfl rfl Tryz.func85 (by kernel_rfl) rfl #[.int .i64 a0, .int .u32 a1] rfl gl ?_; (with_reducible refine (dY.calls a0 a1 t160 t161 t162 _ A4.out).mono ?_); rintro e w' ⟨rfl, ⟨nd, rfl⟩⟩; refine ⟨_, rfl, ?_⟩))
 (try simp only [Act.put, sb, sz, ss])
 go_cut [22] (fun v22 wc => ∃ (kq : Nat) (x22_4 : Bool), v22 = .bool x22_4 ∧ Aside0 (aV.j0 kq a0 t159 t161 t162 x22_4 = some r) ∧ Aside0 (kq ≤ k) ∧ Drawn0 w wc)
 case first =>
  have H := HC5.out
  clear HC5
  by_cases c6 : t161 = 0
  ·rw [if_pos c6] at H
   have c6b0 : (t161 == 0) = true := beq_iff_eq.mpr c6
   have c6b1 : (t161 != 0) = false := bne_eq_false_iff_eq.mpr c6
   clear c6
   (first | rw [c6b0] | (simp only [i64_w, i32_w]; rw [c6b0]) | skip)
   have H' := Aside0.mk H
   clear H
   go_wp2
   go_meet
   case rel => exact ⟨_, ((t162 == 0)), (gr_), H', ⟨by first | omega | exact Nat.le_refl _⟩, gd_⟩
  ·rw [if_neg c6] at H
   have c6b0 : (t161 == 0) = false := beq_eq_false_iff_ne.mpr c6
   have c6b1 : (t161 != 0) = true := bne_iff_ne.mpr c6
   (first | rw [c6b0] | (simp only [i64_w, i32_w]; rw [c6b0]) | skip)
   have H' := Aside0.mk H
   clear H
   go_wp2
   go_meet
   case rel => exact ⟨_, (false), (gr_), H', ⟨by first | omega | exact Nat.le_refl _⟩, gd_⟩
 case rest =>
  clear HC5
  try clear p2 c5 c6 c6b0 c6b1 p6
  obtain ⟨kq, x22_4, rfl, HA, HJ4, ⟨mc4, rfl⟩⟩ := hcut
  cases kq with
  |zero => exact absurd HA.out (by simp [aV.j0])
  |succ kj4 =>
   have H := HA.out
   clear HA
   simp only [aV.j0] at H
   by_cases c7 : x22_4 = true
   ·subst c7
    have H1 : (some 0) = some r := by rw [if_pos rfl] at H; exact H
    clear H
    have H := H1
    clear H1
    obtain rfl := Option.some.inj H
    go_wp2
    go_ret
    exact ⟨gr_, gd_⟩
   ·replace c7 := Bool.eq_false_iff.mpr c7
    subst c7
    have H1 : (if t161 = 0 then (some 1) else ((dI.f a0).bind fun t163 => (if t161 < t163 then (some 2) else (if t162 = 0 then (some 3) else (if 0 ≤ (IntKind.u64.wrap (wrap64 (t159 - 1))) then (if (shr .u32 t162 (IntKind.u64.wrap (wrap64 (t159 - 1)))) = 1 then (some 4) else (some 5)) else (none)))))) = some r := by rw [if_neg (show ¬ (false = true) by decide)] at H; exact H
    clear H
    have H := H1
    clear H1
    by_cases c8 : t161 = 0
    ·rw [if_pos c8] at H
     have c8b0 : (t161 == 0) = true := beq_iff_eq.mpr c8
     have c8b1 : (t161 != 0) = false := bne_eq_false_iff_eq.mpr c8
     clear c8
     obtain rfl := Option.some.inj H
     go_wp2
     go_ret
     exact ⟨gr_, gd_⟩
    ·rw [if_neg c8] at H
     have c8b0 : (t161 == 0) = false := beq_eq_false_iff_ne.mpr c8
     have c8b1 : (t161 != 0) = true := bne_iff_ne.mpr c8
     replace H := bq_ H
     obtain ⟨t163, A90, H⟩ := H
     replace H : (if t161 < t163 then (some 2) else (if t162 = 0 then (some 3) else (if 0 ≤ (IntKind.u64.wrap (wrap64 (t159 - 1))) then (if (shr .u32 t162 (IntKind.u64.wrap (wrap64 (t159 - 1)))) = 1 then (some 4) else (some 5)) else (none)))) = some r := H
     have A9 := Aside0.mk A90
     clear A90
     by_cases c10 : t161 < t163
     ·rw [if_pos c10] at H
      have c10b0 : decide (t161 < t163) = true := decide_eq_true c10
      clear c10
      obtain rfl := Option.some.inj H
      go_wp2_with (first | ((with_reducible refine gate_callee (f := 94) rfl ?_); refine goesL_ (some 35) rfl rfl Tryz.func94 (by kernel_rfl) rfl #[.int .i64 a0] rfl gl ?_; (with_reducible refine (dI.calls a0 t163 _ A9.out).mono ?_); rintro e w' ⟨rfl, ⟨nd, rfl⟩⟩; refine ⟨_, rfl, ?_⟩))
      go_ret
      exact ⟨gr_, gd_⟩
     ·rw [if_neg c10] at H
      have c10b0 : decide (t161 < t163) = false := decide_eq_false c10
      clear c10
      by_cases c11 : t162 = 0
      ·rw [if_pos c11] at H
       have c11b0 : (t162 == 0) = true := beq_iff_eq.mpr c11
       have c11b1 : (t162 != 0) = false := bne_eq_false_iff_eq.mpr c11
       clear c11
       obtain rfl := Option.some.inj H
       go_wp2_with (first | ((with_reducible refine gate_callee (f := 94) rfl ?_); refine goesL_ (some 35) rfl rfl Tryz.func94 (by kernel_rfl) rfl #[.int .i64 a0] rfl gl ?_; (with_reducible refine (dI.calls a0 t163 _ A9.out).mono ?_); rintro e w' ⟨rfl, ⟨nd, rfl⟩⟩; refine ⟨_, rfl, ?_⟩))
       go_ret
       exact ⟨gr_, gd_⟩
      ·rw [if_neg c11] at H
       have c11b0 : (t162 == 0) = false := beq_eq_false_iff_ne.mpr c11
       have c11b1 : (t162 != 0) = true := bne_iff_ne.mpr c11
       obtain ⟨ji12, hji12⟩ : ∃ j_ : Int, (IntKind.u64.wrap (wrap64 (t159 - 1))) = j_ := ⟨_, rfl⟩
       replace H : (if 0 ≤ (ji12) then (if (shr .u32 t162 (ji12)) = 1 then (some 4) else (some 5)) else (none)) = some r := by first | (rw [hji12] at H; exact H) | (simp only [hji12] at H ⊢; exact H)
       (try rw [hji12] at A9)
       by_cases c13 : 0 ≤ (ji12)
       ·rw [if_pos c13] at H
        have c13b0 := eq_true c13
        have c13b1 : decide (0 ≤ (ji12)) = true := decide_eq_true c13
        clear c13
        obtain ⟨ji14, hji14⟩ : ∃ j_ : Int, (shr .u32 t162 (ji12)) = j_ := ⟨_, rfl⟩
        replace H : (if (ji14) = 1 then (some 4) else (some 5)) = some r := by first | (rw [hji14] at H; exact H) | (simp only [hji14] at H ⊢; exact H)
        (try rw [hji14] at A9)
        have hji14_ : (t162 / 2 ^ min (ji12).toNat 32) = ji14 := hji14
        have hji14z : (ji12) ≤ 32 → (t162 / 2 ^ (ji12).toNat) = ji14 := shr_small hji14
        by_cases c15 : (ji14) = 1
        ·rw [if_pos c15] at H
         have c15b0 : ((ji14) == 1) = true := beq_iff_eq.mpr c15
         have c15b1 : ((ji14) != 1) = false := bne_eq_false_iff_eq.mpr c15
         clear c15
         obtain rfl := Option.some.inj H
         go_wp2_with (first | ((with_reducible refine gate_callee (f := 94) rfl ?_); refine goesL_ (some 35) rfl rfl Tryz.func94 (by kernel_rfl) rfl #[.int .i64 a0] rfl gl ?_; (with_reducible refine (dI.calls a0 t163 _ A9.out).mono ?_); rintro e w' ⟨rfl, ⟨nd, rfl⟩⟩; refine ⟨_, rfl, ?_⟩))
         go_ret
         exact ⟨by first | rfl | (simp; done) | (simp only [← hji12, ← hji14] <;> (first | rfl | (simp; done))) | (simp [*]; done) | (congr 1; (try unfold wrap64); omega) | (congr 1; rw [IntKind.wrap_u64]; omega), gd_⟩
        ·rw [if_neg c15] at H
         have c15b0 : ((ji14) == 1) = false := beq_eq_false_iff_ne.mpr c15
         have c15b1 : ((ji14) != 1) = true := bne_iff_ne.mpr c15
         obtain rfl := Option.some.inj H
         go_wp2_with (first | ((with_reducible refine gate_callee (f := 94) rfl ?_); refine goesL_ (some 35) rfl rfl Tryz.func94 (by kernel_rfl) rfl #[.int .i64 a0] rfl gl ?_; (with_reducible refine (dI.calls a0 t163 _ A9.out).mono ?_); rintro e w' ⟨rfl, ⟨nd, rfl⟩⟩; refine ⟨_, rfl, ?_⟩))
         go_ret
         exact ⟨by first | rfl | (simp; done) | (simp only [← hji12, ← hji14] <;> (first | rfl | (simp; done))) | (simp [*]; done) | (congr 1; (try unfold wrap64); omega) | (congr 1; rw [IntKind.wrap_u64]; omega), gd_⟩
       ·rw [if_neg c13] at H
        exact absurd H (by simp)

-- NEED 0
/-! ### aO: function 57 -/
def aO.f (k : Nat) (a0 a1 : Int) : Option (Bool) := (aV.f k a0 a1).bind fun t164 => (some (t164 == 3))
theorem aO.mono : ∀ a0 a1 k, LeO (aO.f k a0 a1) (aO.f (k + 1) a0 a1) := by
 intro a0 a1 k
 unfold aO.f
 repeat' first
   |(with_reducible first|exact aV.mono _ _ _|exact LeO.refl _|exact LeO.none _|refine LeO.ite ?_ ?_|refine LeO.bind ?_ (fun _ => ?_))
   |exact aV.mono _ _ _
   |exact LeO.none _
   |refine LeO.ite ?_ ?_
   |refine LeO.bind ?_ (fun _ => ?_)
theorem aO.calls (k : Nat) (a0 a1 : Int) (r : Bool) (w : World) (h : aO.f k a0 a1 = some r) :
  Calls Tryz.prog 57 #[.int .i64 a0, .int .u32 a1] w fun e w' => e = .returned (.bool r) ∧ Drawn0 w w' := by
 have H : ((aV.f k a0 a1).bind fun t164 => (some (t164 == 3))) = some r := h
 clear h
 replace H := bq_ H
 obtain ⟨t164, A30, H⟩ := H
 replace H : (some (t164 == 3)) = some r := H
 have A3 := Aside0.mk A30
 clear A30
 obtain rfl := Option.some.inj H
 go_enter Tryz.func57, Tryz.ntmps57
 go_wp2_with (first | ((with_reducible refine gate_callee (f := 83) rfl ?_); refine goesL_ (some 7) rfl rfl Tryz.func83 (by kernel_rfl) rfl #[.int .i64 a0, .int .u32 a1] rfl gl ?_; (with_reducible refine (aV.calls k a0 a1 t164 _ A3.out).mono ?_); rintro e w' ⟨rfl, ⟨nd, rfl⟩⟩; refine ⟨_, rfl, ?_⟩))
 go_ret
 exact ⟨gr_, gd_⟩


-- NEED 0
/-! ### bL: function 82 -/
def bL.f (k : Nat) (a0 a1 : Int) : Option (Bool) := (aV.f k a0 a1).bind fun t165 => (some (t165 == 0))
theorem bL.mono : ∀ a0 a1 k, LeO (bL.f k a0 a1) (bL.f (k + 1) a0 a1) := by
 intro a0 a1 k
 unfold bL.f
 repeat' first
   |(with_reducible first|exact aV.mono _ _ _|exact LeO.refl _|exact LeO.none _|refine LeO.ite ?_ ?_|refine LeO.bind ?_ (fun _ => ?_))
   |exact aV.mono _ _ _
   |exact LeO.none _
   |refine LeO.ite ?_ ?_
   |refine LeO.bind ?_ (fun _ => ?_)
theorem bL.calls (k : Nat) (a0 a1 : Int) (r : Bool) (w : World) (h : bL.f k a0 a1 = some r) :
  Calls Tryz.prog 82 #[.int .i64 a0, .int .u32 a1] w fun e w' => e = .returned (.bool r) ∧ Drawn0 w w' := by
 have H : ((aV.f k a0 a1).bind fun t165 => (some (t165 == 0))) = some r := h
 clear h
 replace H := bq_ H
 obtain ⟨t165, A30, H⟩ := H
 replace H : (some (t165 == 0)) = some r := H
 have A3 := Aside0.mk A30
 clear A30
 obtain rfl := Option.some.inj H
 go_enter Tryz.func82, Tryz.ntmps82
 go_wp2_with (first | ((with_reducible refine gate_callee (f := 83) rfl ?_); refine goesL_ (some 7) rfl rfl Tryz.func83 (by kernel_rfl) rfl #[.int .i64 a0, .int .u32 a1] rfl gl ?_; (with_reducible refine (aV.calls k a0 a1 t165 _ A3.out).mono ?_); rintro e w' ⟨rfl, ⟨nd, rfl⟩⟩; refine ⟨_, rfl, ?_⟩))
 go_ret
 exact ⟨gr_, gd_⟩

-- NEED 0
/-! ### dR: function 53 -/
def dR.f (k : Nat) (a0 a1 a2 : Int) : Option (Bool) := (bL.f k a0 a1).bind fun t166 => (if t166 = true then ((aO.f k a0 a2).bind fun t167 => (if t167 = true then (some true) else ((aO.f k a0 a1).bind fun t168 => (if t168 = true then ((bL.f k a0 a2).bind fun t169 => (some t169)) else (some false))))) else ((aO.f k a0 a1).bind fun t170 => (if t170 = true then ((bL.f k a0 a2).bind fun t171 => (some t171)) else (some false))))
theorem dR.mono : ∀ a0 a1 a2 k, LeO (dR.f k a0 a1 a2) (dR.f (k + 1) a0 a1 a2) := by
 intro a0 a1 a2 k
 unfold dR.f
 repeat' first
   |(with_reducible first|exact aO.mono _ _ _|exact bL.mono _ _ _|exact LeO.refl _|exact LeO.none _|refine LeO.ite ?_ ?_|refine LeO.bind ?_ (fun _ => ?_))
   |exact aO.mono _ _ _
   |exact bL.mono _ _ _
   |exact LeO.none _
   |refine LeO.ite ?_ ?_
   |refine LeO.bind ?_ (fun _ => ?_)
theorem dR.calls (k : Nat) (a0 a1 a2 : Int) (r : Bool) (w : World) (h : dR.f k a0 a1 a2 = some r) :
  Calls Tryz.prog 53 #[.int .i64 a0, .int .u32 a1, .int .u32 a2] w fun e w' => e = .returned (.bool r) ∧ Drawn0 w w' := by
 have H : ((bL.f k a0 a1).bind fun t166 => (if t166 = true then ((aO.f k a0 a2).bind fun t167 => (if t167 = true then (some true) else ((aO.f k a0 a1).bind fun t168 => (if t168 = true then ((bL.f k a0 a2).bind fun t169 => (some t169)) else (some false))))) else ((aO.f k a0 a1).bind fun t170 => (if t170 = true then ((bL.f k a0 a2).bind fun t171 => (some t171)) else (some false))))) = some r := h
 clear h
 replace H := bq_ H
 obtain ⟨t166, A40, H⟩ := H
 replace H : (if t166 = true then ((aO.f k a0 a2).bind fun t167 => (if t167 = true then (some true) else ((aO.f k a0 a1).bind fun t168 => (if t168 = true then ((bL.f k a0 a2).bind fun t169 => (some t169)) else (some false))))) else ((aO.f k a0 a1).bind fun t170 => (if t170 = true then ((bL.f k a0 a2).bind fun t171 => (some t171)) else (some false)))) = some r := H
 have A4 := Aside0.mk A40
 clear A40
 by_cases c5 : t166 = true
 ·subst c5
  have H1 : ((aO.f k a0 a2).bind fun t167 => (if t167 = true then (some true) else ((aO.f k a0 a1).bind fun t168 => (if t168 = true then ((bL.f k a0 a2).bind fun t169 => (some t169)) else (some false))))) = some r := by rw [if_pos rfl] at H; exact H
  clear H
  have H := H1
  clear H1
  replace H := bq_ H
  obtain ⟨t167, A60, H⟩ := H
  replace H : (if t167 = true then (some true) else ((aO.f k a0 a1).bind fun t168 => (if t168 = true then ((bL.f k a0 a2).bind fun t169 => (some t169)) else (some false)))) = some r := H
  have A6 := Aside0.mk A60
  clear A60
  by_cases c7 : t167 = true
  ·subst c7
   have H1 : (some true) = some r := by rw [if_pos rfl] at H; exact H
   clear H
   have H := H1
   clear H1
   obtain rfl := Option.some.inj H
   go_enter Tryz.func53, Tryz.ntmps53
   go_wp2_with (first | ((with_reducible refine gate_callee (f := 82) rfl ?_); refine goesL_ (some 9) rfl rfl Tryz.func82 (by kernel_rfl) rfl #[.int .i64 a0, .int .u32 a1] rfl gl ?_; (with_reducible refine (bL.calls k a0 a1 true _ A4.out).mono ?_); rintro e w' ⟨rfl, ⟨nd, rfl⟩⟩; refine ⟨_, rfl, ?_⟩) | (go_at_call 57; (with_reducible refine (aO.calls k a0 a2 true _ A6.out).mono ?_); rintro e w' ⟨rfl, ⟨nd, rfl⟩⟩))
   go_ret
   exact ⟨gr_, gd_⟩
  ·replace c7 := Bool.eq_false_iff.mpr c7
   subst c7
   have H1 : ((aO.f k a0 a1).bind fun t168 => (if t168 = true then ((bL.f k a0 a2).bind fun t169 => (some t169)) else (some false))) = some r := by rw [if_neg (show ¬ (false = true) by decide)] at H; exact H
   clear H
   have H := H1
   clear H1
   replace H := bq_ H
   obtain ⟨t168, A80, H⟩ := H
   replace H : (if t168 = true then ((bL.f k a0 a2).bind fun t169 => (some t169)) else (some false)) = some r := H
   have A8 := Aside0.mk A80
   clear A80
   by_cases c9 : t168 = true
   ·subst c9
    have H1 : ((bL.f k a0 a2).bind fun t169 => (some t169)) = some r := by rw [if_pos rfl] at H; exact H
    clear H
    have H := H1
    clear H1
    replace H := bq_ H
    obtain ⟨t169, A100, H⟩ := H
    replace H : (some t169) = some r := H
    have A10 := Aside0.mk A100
    clear A100
    obtain rfl := Option.some.inj H
    go_enter Tryz.func53, Tryz.ntmps53
    go_wp2_with (first | ((with_reducible refine gate_callee (f := 82) rfl ?_); refine goesL_ (some 9) rfl rfl Tryz.func82 (by kernel_rfl) rfl #[.int .i64 a0, .int .u32 a1] rfl gl ?_; (with_reducible refine (bL.calls k a0 a1 true _ A4.out).mono ?_); rintro e w' ⟨rfl, ⟨nd, rfl⟩⟩; refine ⟨_, rfl, ?_⟩) | (go_at_call 57; (with_reducible refine (aO.calls k a0 a2 false _ A6.out).mono ?_); rintro e w' ⟨rfl, ⟨nd, rfl⟩⟩) | (go_at_call 57; (with_reducible refine (aO.calls k a0 a1 true _ A8.out).mono ?_); rintro e w' ⟨rfl, ⟨nd, rfl⟩⟩) | (go_at_call 82; (with_reducible refine (bL.calls k a0 a2 t169 _ A10.out).mono ?_); rintro e w' ⟨rfl, ⟨nd, rfl⟩⟩))
    go_ret
    exact ⟨gr_, gd_⟩
   ·replace c9 := Bool.eq_false_iff.mpr c9
    subst c9
    have H1 : (some false) = some r := by rw [if_neg (show ¬ (false = true) by decide)] at H; exact H
    clear H
    have H := H1
    clear H1
    obtain rfl := Option.some.inj H
    go_enter Tryz.func53, Tryz.ntmps53
    go_wp2_with (first | ((with_reducible refine gate_callee (f := 82) rfl ?_); refine goesL_ (some 9) rfl rfl Tryz.func82 (by kernel_rfl) rfl #[.int .i64 a0, .int .u32 a1] rfl gl ?_; (with_reducible refine (bL.calls k a0 a1 true _ A4.out).mono ?_); rintro e w' ⟨rfl, ⟨nd, rfl⟩⟩; refine ⟨_, rfl, ?_⟩) | (go_at_call 57; (with_reducible refine (aO.calls k a0 a2 false _ A6.out).mono ?_); rintro e w' ⟨rfl, ⟨nd, rfl⟩⟩) | (go_at_call 57; (with_reducible refine (aO.calls k a0 a1 false _ A8.out).mono ?_); rintro e w' ⟨rfl, ⟨nd, rfl⟩⟩))
    go_ret
    exact ⟨gr_, gd_⟩
 ·replace c5 := Bool.eq_false_iff.mpr c5
  subst c5
  have H1 : ((aO.f k a0 a1).bind fun t170 => (if t170 = true then ((bL.f k a0 a2).bind fun t171 => (some t171)) else (some false))) = some r := by rw [if_neg (show ¬ (false = true) by decide)] at H; exact H
  clear H
  have H := H1
  clear H1
  replace H := bq_ H
  obtain ⟨t170, A110, H⟩ := H
  replace H : (if t170 = true then ((bL.f k a0 a2).bind fun t171 => (some t171)) else (some false)) = some r := H
  have A11 := Aside0.mk A110
  clear A110
  by_cases c12 : t170 = true
  ·subst c12
   have H1 : ((bL.f k a0 a2).bind fun t171 => (some t171)) = some r := by rw [if_pos rfl] at H; exact H
   clear H
   have H := H1
   clear H1
   replace H := bq_ H
   obtain ⟨t171, A130, H⟩ := H
   replace H : (some t171) = some r := H
   have A13 := Aside0.mk A130
   clear A130
   obtain rfl := Option.some.inj H
   go_enter Tryz.func53, Tryz.ntmps53
   go_wp2_with (first | ((with_reducible refine gate_callee (f := 82) rfl ?_); refine goesL_ (some 9) rfl rfl Tryz.func82 (by kernel_rfl) rfl #[.int .i64 a0, .int .u32 a1] rfl gl ?_; (with_reducible refine (bL.calls k a0 a1 false _ A4.out).mono ?_); rintro e w' ⟨rfl, ⟨nd, rfl⟩⟩; refine ⟨_, rfl, ?_⟩) | (go_at_call 57; (with_reducible refine (aO.calls k a0 a1 true _ A11.out).mono ?_); rintro e w' ⟨rfl, ⟨nd, rfl⟩⟩) | (go_at_call 82; (with_reducible refine (bL.calls k a0 a2 t171 _ A13.out).mono ?_); rintro e w' ⟨rfl, ⟨nd, rfl⟩⟩))
   go_ret
   exact ⟨gr_, gd_⟩
  ·replace c12 := Bool.eq_false_iff.mpr c12
   subst c12
   have H1 : (some false) = some r := by rw [if_neg (show ¬ (false = true) by decide)] at H; exact H
   clear H
   have H := H1
   clear H1
   obtain rfl := Option.some.inj H
   go_enter Tryz.func53, Tryz.ntmps53
   go_wp2_with (first | ((with_reducible refine gate_callee (f := 82) rfl ?_); refine goesL_ (some 9) rfl rfl Tryz.func82 (by kernel_rfl) rfl #[.int .i64 a0, .int .u32 a1] rfl gl ?_; (with_reducible refine (bL.calls k a0 a1 false _ A4.out).mono ?_); rintro e w' ⟨rfl, ⟨nd, rfl⟩⟩; refine ⟨_, rfl, ?_⟩) | (go_at_call 57; (with_reducible refine (aO.calls k a0 a1 false _ A11.out).mono ?_); rintro e w' ⟨rfl, ⟨nd, rfl⟩⟩))
   go_ret
   exact ⟨gr_, gd_⟩

-- NEED 0
/-! ### cB: function 97 -/
def cB.f (a0 : Int) (a1 : Bool) (a2 a3 : Int) : Option (Int) := (bD.f a0).bind fun bt172 => (if 0 ≤ (IntKind.u64.wrap (bt172.2)) then (if a1 = true then (if 0 ≤ (IntKind.u64.wrap (wrap64 (bt172.1 + bt172.2))) then (some (Go.bits .or .u32 (Go.bits .or .u32 (shl .u32 ((a2) % 4294967296) (IntKind.u64.wrap (bt172.2))) a3) (shl .u32 1 (IntKind.u64.wrap (wrap64 (bt172.1 + bt172.2)))))) else (none)) else (some (Go.bits .or .u32 (shl .u32 ((a2) % 4294967296) (IntKind.u64.wrap (bt172.2))) a3))) else (none))
theorem cB.calls (a0 : Int) (a1 : Bool) (a2 a3 r : Int) (w : World) (h : cB.f a0 a1 a2 a3 = some r) :
  Calls Tryz.prog 97 #[.int .i64 a0, .bool a1, .int .i64 a2, .int .u32 a3] w fun e w' => e = .returned (.int .u32 r) ∧ Drawn0 w w' := by
 have H : ((bD.f a0).bind fun bt172 => (if 0 ≤ (IntKind.u64.wrap (bt172.2)) then (if a1 = true then (if 0 ≤ (IntKind.u64.wrap (wrap64 (bt172.1 + bt172.2))) then (some (Go.bits .or .u32 (Go.bits .or .u32 (shl .u32 ((a2) % 4294967296) (IntKind.u64.wrap (bt172.2))) a3) (shl .u32 1 (IntKind.u64.wrap (wrap64 (bt172.1 + bt172.2)))))) else (none)) else (some (Go.bits .or .u32 (shl .u32 ((a2) % 4294967296) (IntKind.u64.wrap (bt172.2))) a3))) else (none))) = some r := h
 clear h
 replace H := bq_ H
 obtain ⟨⟨t172, t173⟩, A50, H⟩ := H
 replace H : (if 0 ≤ (IntKind.u64.wrap (t173)) then (if a1 = true then (if 0 ≤ (IntKind.u64.wrap (wrap64 (t172 + t173))) then (some (Go.bits .or .u32 (Go.bits .or .u32 (shl .u32 ((a2) % 4294967296) (IntKind.u64.wrap (t173))) a3) (shl .u32 1 (IntKind.u64.wrap (wrap64 (t172 + t173)))))) else (none)) else (some (Go.bits .or .u32 (shl .u32 ((a2) % 4294967296) (IntKind.u64.wrap (t173))) a3))) else (none)) = some r := H
 have A5 := Aside0.mk A50
 clear A50
 obtain ⟨ji6, hji6⟩ : ∃ j_ : Int, (IntKind.u64.wrap (t173)) = j_ := ⟨_, rfl⟩
 replace H : (if 0 ≤ (ji6) then (if a1 = true then (if 0 ≤ (IntKind.u64.wrap (wrap64 (t172 + t173))) then (some (Go.bits .or .u32 (Go.bits .or .u32 (shl .u32 ((a2) % 4294967296) (ji6)) a3) (shl .u32 1 (IntKind.u64.wrap (wrap64 (t172 + t173)))))) else (none)) else (some (Go.bits .or .u32 (shl .u32 ((a2) % 4294967296) (ji6)) a3))) else (none)) = some r := by first | (rw [hji6] at H; exact H) | (simp only [hji6] at H ⊢; exact H)
 (try rw [hji6] at A5)
 by_cases c7 : 0 ≤ (ji6)
 ·rw [if_pos c7] at H
  have c7b0 := eq_true c7
  have c7b1 : decide (0 ≤ (ji6)) = true := decide_eq_true c7
  clear c7
  obtain ⟨ji8, hji8⟩ : ∃ j_ : Int, (shl .u32 ((a2) % 4294967296) (ji6)) = j_ := ⟨_, rfl⟩
  replace H : (if a1 = true then (if 0 ≤ (IntKind.u64.wrap (wrap64 (t172 + t173))) then (some (Go.bits .or .u32 (Go.bits .or .u32 (ji8) a3) (shl .u32 1 (IntKind.u64.wrap (wrap64 (t172 + t173)))))) else (none)) else (some (Go.bits .or .u32 (ji8) a3))) = some r := by first | (rw [hji8] at H; exact H) | (simp only [hji8] at H ⊢; exact H)
  (try rw [hji8] at A5)
  have hji8_ : (IntKind.u32.wrap (((a2) % 4294967296) * 2 ^ min (ji6).toNat 32)) = ji8 := hji8
  have hji8z : (ji6) ≤ 32 → (IntKind.u32.wrap (((a2) % 4294967296) * 2 ^ (ji6).toNat)) = ji8 := shl_small hji8
  by_cases c9 : a1 = true
  ·subst c9
   have H1 : (if 0 ≤ (IntKind.u64.wrap (wrap64 (t172 + t173))) then (some (Go.bits .or .u32 (Go.bits .or .u32 (ji8) a3) (shl .u32 1 (IntKind.u64.wrap (wrap64 (t172 + t173)))))) else (none)) = some r := by rw [if_pos rfl] at H; exact H
   clear H
   have H := H1
   clear H1
   obtain ⟨ji10, hji10⟩ : ∃ j_ : Int, (IntKind.u64.wrap (wrap64 (t172 + t173))) = j_ := ⟨_, rfl⟩
   replace H : (if 0 ≤ (ji10) then (some (Go.bits .or .u32 (Go.bits .or .u32 (ji8) a3) (shl .u32 1 (ji10)))) else (none)) = some r := by first | (rw [hji10] at H; exact H) | (simp only [hji10] at H ⊢; exact H)
   (try rw [hji10] at A5)
   by_cases c11 : 0 ≤ (ji10)
   ·rw [if_pos c11] at H
    have c11b0 := eq_true c11
    have c11b1 : decide (0 ≤ (ji10)) = true := decide_eq_true c11
    clear c11
    obtain ⟨ji12, hji12⟩ : ∃ j_ : Int, (shl .u32 1 (ji10)) = j_ := ⟨_, rfl⟩
    replace H : (some (Go.bits .or .u32 (Go.bits .or .u32 (ji8) a3) (ji12))) = some r := by first | (rw [hji12] at H; exact H) | (simp only [hji12] at H ⊢; exact H)
    (try rw [hji12] at A5)
    have hji12_ : (IntKind.u32.wrap (1 * 2 ^ min (ji10).toNat 32)) = ji12 := hji12
    have hji12z : (ji10) ≤ 32 → (IntKind.u32.wrap (1 * 2 ^ (ji10).toNat)) = ji12 := shl_small hji12
    have hji12u : (IntKind.u32.wrap (2 ^ min (ji10).toNat 32)) = ji12 := by have h_ := hji12_; rw [Int.one_mul] at h_; exact h_
    have hji12v : (ji10) ≤ 32 → (IntKind.u32.wrap (2 ^ (ji10).toNat)) = ji12 := fun hle_ => by have h_ := hji12z hle_; rw [Int.one_mul] at h_; exact h_
    obtain rfl := Option.some.inj H
    go_enter Tryz.func97, Tryz.ntmps97
    go_wp2_with (first | ((with_reducible refine gate_callee (f := 51) rfl ?_); refine goesL_ (some 14) rfl rfl Tryz.func51 (by kernel_rfl) rfl #[.int .i64 a0] rfl gl ?_; (with_reducible refine (bD.calls a0 t172 t173 _ A5.out).mono ?_); rintro e w' ⟨rfl, ⟨nd, rfl⟩⟩; refine ⟨_, rfl, ?_⟩))
    go_ret
    exact ⟨by first | rfl | (simp; done) | (simp only [← hji6, ← hji8, ← hji10, ← hji12] <;> (first | rfl | (simp; done))) | (simp [*]; done) | (congr 1; (try unfold wrap64); omega) | (congr 1; rw [IntKind.wrap_u64]; omega), gd_⟩
   ·rw [if_neg c11] at H
    exact absurd H (by simp)
  ·replace c9 := Bool.eq_false_iff.mpr c9
   subst c9
   have H1 : (some (Go.bits .or .u32 (ji8) a3)) = some r := by rw [if_neg (show ¬ (false = true) by decide)] at H; exact H
   clear H
   have H := H1
   clear H1
   obtain rfl := Option.some.inj H
   go_enter Tryz.func97, Tryz.ntmps97
   go_wp2_with (first | ((with_reducible refine gate_callee (f := 51) rfl ?_); refine goesL_ (some 14) rfl rfl Tryz.func51 (by kernel_rfl) rfl #[.int .i64 a0] rfl gl ?_; (with_reducible refine (bD.calls a0 t172 t173 _ A5.out).mono ?_); rintro e w' ⟨rfl, ⟨nd, rfl⟩⟩; refine ⟨_, rfl, ?_⟩))
   go_ret
   exact ⟨by first | rfl | (simp; done) | (simp only [← hji6, ← hji8] <;> (first | rfl | (simp; done))) | (simp [*]; done) | (congr 1; (try unfold wrap64); omega) | (congr 1; rw [IntKind.wrap_u64]; omega), gd_⟩
 ·rw [if_neg c7] at H
  exact absurd H (by simp)

-- NEED 0
/-! ### iI: function 84 -/
def iI.f (a0 : Int) : Option (Int) := (bD.f a0).bind fun bt174 => ((dI.f a0).bind fun t176 => (if 0 ≤ (IntKind.u64.wrap (wrap64 (bt174.2 - 1))) then ((cB.f a0 false t176 (shl .u32 1 (IntKind.u64.wrap (wrap64 (bt174.2 - 1))))).bind fun t177 => (some t177)) else (none)))
theorem iI.calls (a0 r : Int) (w : World) (h : iI.f a0 = some r) :
  Calls Tryz.prog 84 #[.int .i64 a0] w fun e w' => e = .returned (.int .u32 r) ∧ Drawn0 w w' := by
 have H : ((bD.f a0).bind fun bt174 => ((dI.f a0).bind fun t176 => (if 0 ≤ (IntKind.u64.wrap (wrap64 (bt174.2 - 1))) then ((cB.f a0 false t176 (shl .u32 1 (IntKind.u64.wrap (wrap64 (bt174.2 - 1))))).bind fun t177 => (some t177)) else (none)))) = some r := h
 clear h
 replace H := bq_ H
 obtain ⟨⟨t174, t175⟩, A20, H⟩ := H
 replace H : ((dI.f a0).bind fun t176 => (if 0 ≤ (IntKind.u64.wrap (wrap64 (t175 - 1))) then ((cB.f a0 false t176 (shl .u32 1 (IntKind.u64.wrap (wrap64 (t175 - 1))))).bind fun t177 => (some t177)) else (none))) = some r := H
 have A2 := Aside0.mk A20
 clear A20
 replace H := bq_ H
 obtain ⟨t176, A30, H⟩ := H
 replace H : (if 0 ≤ (IntKind.u64.wrap (wrap64 (t175 - 1))) then ((cB.f a0 false t176 (shl .u32 1 (IntKind.u64.wrap (wrap64 (t175 - 1))))).bind fun t177 => (some t177)) else (none)) = some r := H
 have A3 := Aside0.mk A30
 clear A30
 obtain ⟨ji4, hji4⟩ : ∃ j_ : Int, (IntKind.u64.wrap (wrap64 (t175 - 1))) = j_ := ⟨_, rfl⟩
 replace H : (if 0 ≤ (ji4) then ((cB.f a0 false t176 (shl .u32 1 (ji4))).bind fun t177 => (some t177)) else (none)) = some r := by first | (rw [hji4] at H; exact H) | (simp only [hji4] at H ⊢; exact H)
 (try rw [hji4] at A2)
 (try rw [hji4] at A3)
 by_cases c5 : 0 ≤ (ji4)
 ·rw [if_pos c5] at H
  have c5b0 := eq_true c5
  have c5b1 : decide (0 ≤ (ji4)) = true := decide_eq_true c5
  clear c5
  obtain ⟨ji6, hji6⟩ : ∃ j_ : Int, (shl .u32 1 (ji4)) = j_ := ⟨_, rfl⟩
  replace H : ((cB.f a0 false t176 (ji6)).bind fun t177 => (some t177)) = some r := by first | (rw [hji6] at H; exact H) | (simp only [hji6] at H ⊢; exact H)
  (try rw [hji6] at A2)
  (try rw [hji6] at A3)
  have hji6_ : (IntKind.u32.wrap (1 * 2 ^ min (ji4).toNat 32)) = ji6 := hji6
  have hji6z : (ji4) ≤ 32 → (IntKind.u32.wrap (1 * 2 ^ (ji4).toNat)) = ji6 := shl_small hji6
  have hji6u : (IntKind.u32.wrap (2 ^ min (ji4).toNat 32)) = ji6 := by have h_ := hji6_; rw [Int.one_mul] at h_; exact h_
  have hji6v : (ji4) ≤ 32 → (IntKind.u32.wrap (2 ^ (ji4).toNat)) = ji6 := fun hle_ => by have h_ := hji6z hle_; rw [Int.one_mul] at h_; exact h_
  replace H := bq_ H
  obtain ⟨t177, A70, H⟩ := H
  replace H : (some t177) = some r := H
  have A7 := Aside0.mk A70
  clear A70
  obtain rfl := Option.some.inj H
  go_enter Tryz.func84, Tryz.ntmps84
  go_wp2_with (first | ((with_reducible refine gate_callee (f := 51) rfl ?_); refine goesL_ (some 7) rfl rfl Tryz.func51 (by kernel_rfl) rfl #[.int .i64 a0] rfl gl ?_; (with_reducible refine (bD.calls a0 t174 t175 _ A2.out).mono ?_); rintro e w' ⟨rfl, ⟨nd, rfl⟩⟩; refine ⟨_, rfl, ?_⟩) | ((with_reducible refine gate_callee (f := 94) rfl ?_); refine goesL_ (some 12) rfl rfl Tryz.func94 (by kernel_rfl) rfl #[.int .i64 a0] rfl gl ?_; (with_reducible refine (dI.calls a0 t176 _ A3.out).mono ?_); rintro e w' ⟨rfl, ⟨nd, rfl⟩⟩; refine ⟨_, rfl, ?_⟩) | ((with_reducible refine gate_callee (f := 97) rfl ?_); refine goesL_ (some 17) rfl rfl Tryz.func97 (by kernel_rfl) rfl #[.int .i64 a0, .bool false, .int .i64 t176, .int .u32 ji6] rfl (by (try simp only [List.map_toArray, List.map_cons, List.map_nil]); first | done | (simp only [hji6]; rfl) | rfl | (simp only [List.length_drop, List.length_take]; rfl)) ?_; (with_reducible refine (cB.calls a0 false t176 ji6 t177 _ A7.out).mono ?_); rintro e w' ⟨rfl, ⟨nd, rfl⟩⟩; refine ⟨_, rfl, ?_⟩))
  go_ret
  exact ⟨by first | rfl | (simp; done) | (simp only [← hji4, ← hji6] <;> (first | rfl | (simp; done))) | (simp [*]; done) | (congr 1; (try unfold wrap64); omega) | (congr 1; rw [IntKind.wrap_u64]; omega), gd_⟩
 ·rw [if_neg c5] at H
  exact absurd H (by simp)


-- NEED 0
/-! ### bC: function 54 -/
def bC.l0 : Nat → Int → Bool → List Int → Int → Int → Bool → Bool → Bool → Bool → Bool → Option (Int × Bool × Bool × Bool × Bool × Bool × Bool)
 |0, _, _, _, _, _, _, _, _, _, _ => none
 |k + 1, x0, x7, x12, x13, x14, x180000, x180001, x180002, x180003, x180004 => if x14 < x13 then (if 0 ≤ x14 then (if x14 < (x12.length : Int) then ((aV.f k x0 (rd x12 x14)).bind fun t181 => (if x7 = true then (if x180000 = true then (bC.l0 k x0 true x12 x13 (wrap64 (x14 + 1)) true x180001 x180002 x180003 x180004) else (bC.l0 k x0 true x12 x13 (wrap64 (x14 + 1)) (t181 == 5) x180001 x180002 x180003 x180004)) else (if x180000 = true then (bC.l0 k x0 (decide (t181 ≥ 4)) x12 x13 (wrap64 (x14 + 1)) true x180001 x180002 x180003 x180004) else (bC.l0 k x0 (decide (t181 ≥ 4)) x12 x13 (wrap64 (x14 + 1)) (t181 == 5) x180001 x180002 x180003 x180004)))) else (none)) else (none)) else ((iI.f x0).bind fun t182 => (some (t182, x180000, x180001, x180002, x180003, x180004, x7)))
def bC.f (k : Nat) (a0 : Int) (l1 : List Int) : Option (Int × Bool × Bool × Bool × Bool × Bool × Bool) := bC.l0 k a0 false l1 (l1.length : Int) 0 false false false false false
theorem bC.fB : ∀ k, (∀ y0 y1 y2 y3 y4 y5 y6 y7 y8 y9, LeO (bC.l0 k y0 y1 y2 y3 y4 y5 y6 y7 y8 y9) (bC.l0 (k + 1) y0 y1 y2 y3 y4 y5 y6 y7 y8 y9))
 |0 => fun _ _ _ _ _ _ _ _ _ _ r h => by simp [bC.l0] at h
 |k + 1 => by
  have ih0 := bC.fB k
  ·intro y0 y1 y2 y3 y4 y5 y6 y7 y8 y9
   unfold bC.l0
   repeat' first
   |(with_reducible first|exact ih0 _ _ _ _ _ _ _ _ _ _|exact aV.mono _ _ _|exact LeO.refl _|exact LeO.none _|refine LeO.ite ?_ ?_|refine LeO.bind ?_ (fun _ => ?_))
   |exact ih0 _ _ _ _ _ _ _ _ _ _
   |exact aV.mono _ _ _
   |exact LeO.none _
   |refine LeO.ite ?_ ?_
   |refine LeO.bind ?_ (fun _ => ?_)
theorem bC.mono : ∀ a0 a1 k, LeO (bC.f k a0 a1) (bC.f (k + 1) a0 a1) := by
 intro a0 a1 k
 have ih0 := bC.fB k
 unfold bC.f
 repeat' first
   |(with_reducible first|exact ih0 _ _ _ _ _ _ _ _ _ _|exact aV.mono _ _ _|exact LeO.refl _|exact LeO.none _|refine LeO.ite ?_ ?_|refine LeO.bind ?_ (fun _ => ?_))
   |exact ih0 _ _ _ _ _ _ _ _ _ _
   |exact aV.mono _ _ _
   |exact LeO.none _
   |refine LeO.ite ?_ ?_
   |refine LeO.bind ?_ (fun _ => ?_)
theorem bC.calls (k : Nat) (a0 : Int) (A1 : Option Addr) (c1 : Nat) (l1 : List Int) (r1 : Int) (r2 r3 : Bool) (r4 r5 : Bool) (r6 r7 : Bool) (w : World) (hr1 : Kd.C (Kd.int .u32) w A1 l1.length l1) (hc1 : l1.length ≤ c1) (h : bC.f k a0 l1 = some (r1, r2, r3, r4, r5, r6, r7)) :
  Calls Tryz.prog 54 #[.int .i64 a0, .slice A1 l1.length c1] w fun e w' => e = .returned (.tuple #[.int .u32 r1, .agg #[.bool r2, .bool r3, .bool r4, .bool r5, .bool r6], .bool r7]) ∧ Below w.heap.size w w' := by
 have hu60 := Tryz.underlying60
 have HR1 := Aside0.mk hr1
 have HC1 := Aside0.mk hc1
 clear hr1 hc1
 have HB := Aside0.mk (Below.refl w.heap.size w)
 have H : (bC.l0 k a0 false l1 (l1.length : Int) 0 false false false false false) = some (r1, r2, r3, r4, r5, r6, r7) := h
 clear h
 have H' := Aside0.mk H
 clear H
 go_enter Tryz.func54, Tryz.ntmps54
 go_wp2_with (first | ((with_reducible refine gate_dst (N := 5) rfl ?_); refine box_event ?hg (N := 5) ?hd (cs := F5) (t := 60) ?hr ?_; (case hd => rfl); (case hg => rfl); (case hr => first | (go_simp; done) | (go_simp; rfl)); intro gb178 hg w3 hbox hb; have n0_ := Aside0.mk (below_step (bl0 HB.out) hb); have n1_ := Aside0.mk (hbox); have n2_ := Aside0.mk ((by rw [hg]; exact (below_size (bl0 HB.out)) : w.heap.size ≤ gb178)); have n3_ := n2_; clear HB; have HB := n0_; have BK178 := n1_; have GW178 := n2_; have GE178 := n3_; clear n0_ n1_ n2_ n3_; clear hb hbox hg) | ((with_reducible refine gate_dst (N := 8) rfl ?_); refine box_event ?hg (N := 8) ?hd (cs := F5) (t := 60) ?hr ?_; (case hd => rfl); (case hg => rfl); (case hr => first | (go_simp; done) | (go_simp; rfl)); intro gb179 hg w4 hbox hb; have n0_ := Aside0.mk (blk_below (g := gb178) (o := o5_ false false false false false 60) (bv BK178.out) hb); have n1_ := Aside0.mk (below_step (bl1 HB.out GE178.out) hb); have n2_ := Aside0.mk (hbox); have n3_ := Aside0.mk ((by rw [hg]; exact (below_size (bl1 HB.out GE178.out)) : w.heap.size ≤ gb179)); have n4_ := n3_; have n5_ := Aside0.mk ((by rw [hg]; exact Nat.ne_of_lt (blk_lt (g := gb178) (o := .cells F5 60 (0, 0)) (bv BK178.out)) : gb178 ≠ gb179)); have n6_ := Aside0.mk (Ne.symm n5_.out); clear BK178; clear HB; have BK178 := n0_; have HB := n1_; have BK179 := n2_; have GW179 := n3_; have GE179 := n4_; have NB178_179 := n5_; have NB179_178 := n6_; clear n0_ n1_ n2_ n3_ n4_ n5_ n6_; clear hb hbox hg))
 go_loopg [7, 14] k (fun kq v7 v14 w' => ∃ (x7_1 : Bool) (x14_1 : Int) (x180000_1 : Bool), v7 = .bool x7_1 ∧ v14 = .int .i64 x14_1 ∧ Aside0 (bC.l0 kq a0 x7_1 l1 (l1.length : Int) x14_1 x180000_1 false false false false = some (r1, r2, r3, r4, r5, r6, r7)) ∧ Aside0 (kq ≤ k) ∧ Aside0 (w'.heap[gb178]? = some (o5_ false false false false false 60)) ∧ Aside0 (w'.heap[gb179]? = some (o5_ x180000_1 false false false false 60)) ∧ Aside0 (Below w.heap.size w w'))
 case atStart => exact ⟨(false), (0), (false), (gr_), (gr_), H', ⟨Nat.le_refl _⟩, ⟨by (with_reducible repeat first | apply bd | apply be | apply ba); exact BK178.out⟩, ⟨by (with_reducible repeat first | apply bd | apply be | apply ba); exact BK179.out⟩, ⟨bl2 HB.out GE178.out GE179.out⟩⟩
 case round =>
  clear H'
  try clear c1 p2
  obtain ⟨x7_1, x14_1, x180000_1, rfl, rfl, HA, HK1, BK178, BK179, HB⟩ := hrel
  cases gk with
  |zero => exact absurd HA.out (by simp [bC.l0])
  |succ k1 =>
   have H := HA.out
   clear HA
   simp only [bC.l0] at H
   by_cases c5 : x14_1 < (l1.length : Int)
   ·rw [if_pos c5] at H
    have c5b0 : decide (x14_1 < (l1.length : Int)) = true := decide_eq_true c5
    clear c5
    by_cases c6 : 0 ≤ x14_1
    ·rw [if_pos c6] at H
     have c6b0 : decide (0 ≤ x14_1) = true := decide_eq_true c6
     clear c6
     by_cases c7 : x14_1 < (l1.length : Int)
     ·rw [if_pos c7] at H
      have c7b0 : decide (x14_1 < (l1.length : Int)) = true := decide_eq_true c7
      clear c7
      replace H := bq_ H
      obtain ⟨t181, A80, H⟩ := H
      replace H : (if x7_1 = true then (if x180000_1 = true then (bC.l0 k1 a0 true l1 (l1.length : Int) (wrap64 (x14_1 + 1)) true false false false false) else (bC.l0 k1 a0 true l1 (l1.length : Int) (wrap64 (x14_1 + 1)) (t181 == 5) false false false false)) else (if x180000_1 = true then (bC.l0 k1 a0 (decide (t181 ≥ 4)) l1 (l1.length : Int) (wrap64 (x14_1 + 1)) true false false false false) else (bC.l0 k1 a0 (decide (t181 ≥ 4)) l1 (l1.length : Int) (wrap64 (x14_1 + 1)) (t181 == 5) false false false false))) = some (r1, r2, r3, r4, r5, r6, r7) := H
      have A8 := Aside0.mk A80
      clear A80
      by_cases c9 : x7_1 = true
      ·subst c9
       have H1 : (if x180000_1 = true then (bC.l0 k1 a0 true l1 (l1.length : Int) (wrap64 (x14_1 + 1)) true false false false false) else (bC.l0 k1 a0 true l1 (l1.length : Int) (wrap64 (x14_1 + 1)) (t181 == 5) false false false false)) = some (r1, r2, r3, r4, r5, r6, r7) := by rw [if_pos rfl] at H; exact H
       clear H
       have H := H1
       clear H1
       by_cases c10 : x180000_1 = true
       ·subst c10
        have H1 : (bC.l0 k1 a0 true l1 (l1.length : Int) (wrap64 (x14_1 + 1)) true false false false false) = some (r1, r2, r3, r4, r5, r6, r7) := by rw [if_pos rfl] at H; exact H
        clear H
        have H := H1
        clear H1
        have H' := Aside0.mk H
        clear H
        have p180 : 0 ≤ (x14_1 : Int) := of_decide_eq_true (by first | (with_reducible assumption) | assumption)
        have q180 : x14_1 < (l1.length : Int) := of_decide_eq_true (by first | (with_reducible assumption) | assumption)
        obtain ⟨ad180, e180, hx180_0⟩ := Kd.at_int HR1.out x14_1 p180 q180
        cases e180
        replace hx180_0 := (HB.out.cell (World.block_lt_of_cell? w _ hx180_0)).trans hx180_0
        replace p180 := eq_true p180
        replace q180 := eq_true q180
        go_wp2_with (first | ((with_reducible refine gate_callee (f := 83) rfl ?_); refine goesL_ (some 20) rfl rfl Tryz.func83 (by kernel_rfl) rfl #[.int .i64 a0, .int .u32 (rd l1 x14_1)] rfl gl ?_; (with_reducible refine (aV.calls k1 a0 (rd l1 x14_1) t181 _ A8.out).mono ?_); rintro e w' ⟨rfl, ⟨nd, rfl⟩⟩; refine ⟨_, rfl, ?_⟩; (try (rw [drewN_self wr]; generalize hq_ : World.drewN wr _ = wr; have n0_ : Aside0 (wr.heap[gb178]? = some (o5_ false false false false false 60)) := ⟨by rw [← hq_]; exact (bv BK178.out)⟩; have n1_ : Aside0 (wr.heap[gb179]? = some (o5_ true false false false false 60)) := ⟨by rw [← hq_]; exact (bv BK179.out)⟩; have n2_ : Aside0 (Below w.heap.size w wr) := ⟨by rw [← hq_]; exact (bl2 HB.out GE178.out GE179.out)⟩; clear BK178 BK179 HB hq_; have BK178 := n0_; have BK179 := n1_; have HB := n2_; clear n0_ n1_ n2_)); have hnb11 := NB179_178.out; have hnc11 := NB178_179.out; obtain ⟨hcz12_0, hcz12_1, hcz12_2, hcz12_3, hcz12_4⟩ := bc5 BK179.out; obtain ⟨hfz12_0, hfz12_1, hfz12_2, hfz12_3, hfz12_4⟩ := bf5 BK179.out))
        go_roundg k1
        case measure => have := HK1.out; omega
        case rel => exact ⟨(true), (wrap64 (x14_1 + 1)), (true), (gr_), (gr_), H', ⟨by have := HK1.out; omega⟩, ⟨by (with_reducible repeat first | apply bd | apply be | apply ba); refine blk_far ?_ NB178_179.out _; (with_reducible repeat first | apply bd | apply be | apply ba); exact BK178.out⟩, ⟨by (with_reducible repeat first | apply bd | apply be | apply ba); refine blk_put (cs := q5_ true false false false false) ?_ 0 _ rfl; (with_reducible repeat first | apply bd | apply be | apply ba); exact BK179.out⟩, ⟨bl2 HB.out GE178.out GE179.out⟩⟩
       ·replace c10 := Bool.eq_false_iff.mpr c10
        subst c10
        have H1 : (bC.l0 k1 a0 true l1 (l1.length : Int) (wrap64 (x14_1 + 1)) (t181 == 5) false false false false) = some (r1, r2, r3, r4, r5, r6, r7) := by rw [if_neg (show ¬ (false = true) by decide)] at H; exact H
        clear H
        have H := H1
        clear H1
        have H' := Aside0.mk H
        clear H
        have p180 : 0 ≤ (x14_1 : Int) := of_decide_eq_true (by first | (with_reducible assumption) | assumption)
        have q180 : x14_1 < (l1.length : Int) := of_decide_eq_true (by first | (with_reducible assumption) | assumption)
        obtain ⟨ad180, e180, hx180_0⟩ := Kd.at_int HR1.out x14_1 p180 q180
        cases e180
        replace hx180_0 := (HB.out.cell (World.block_lt_of_cell? w _ hx180_0)).trans hx180_0
        replace p180 := eq_true p180
        replace q180 := eq_true q180
        go_wp2_with (first | ((with_reducible refine gate_callee (f := 83) rfl ?_); refine goesL_ (some 20) rfl rfl Tryz.func83 (by kernel_rfl) rfl #[.int .i64 a0, .int .u32 (rd l1 x14_1)] rfl gl ?_; (with_reducible refine (aV.calls k1 a0 (rd l1 x14_1) t181 _ A8.out).mono ?_); rintro e w' ⟨rfl, ⟨nd, rfl⟩⟩; refine ⟨_, rfl, ?_⟩; (try (rw [drewN_self wr]; generalize hq_ : World.drewN wr _ = wr; have n0_ : Aside0 (wr.heap[gb178]? = some (o5_ false false false false false 60)) := ⟨by rw [← hq_]; exact (bv BK178.out)⟩; have n1_ : Aside0 (wr.heap[gb179]? = some (o5_ false false false false false 60)) := ⟨by rw [← hq_]; exact (bv BK179.out)⟩; have n2_ : Aside0 (Below w.heap.size w wr) := ⟨by rw [← hq_]; exact (bl2 HB.out GE178.out GE179.out)⟩; clear BK178 BK179 HB hq_; have BK178 := n0_; have BK179 := n1_; have HB := n2_; clear n0_ n1_ n2_)); have hnb13 := NB179_178.out; have hnc13 := NB178_179.out; obtain ⟨hcz14_0, hcz14_1, hcz14_2, hcz14_3, hcz14_4⟩ := bc5 BK179.out; obtain ⟨hfz14_0, hfz14_1, hfz14_2, hfz14_3, hfz14_4⟩ := bf5 BK179.out))
        go_roundg k1
        case measure => have := HK1.out; omega
        case rel => exact ⟨(true), (wrap64 (x14_1 + 1)), ((t181 == 5)), (gr_), (gr_), H', ⟨by have := HK1.out; omega⟩, ⟨by (with_reducible repeat first | apply bd | apply be | apply ba); refine blk_far ?_ NB178_179.out _; (with_reducible repeat first | apply bd | apply be | apply ba); exact BK178.out⟩, ⟨by (with_reducible repeat first | apply bd | apply be | apply ba); refine blk_put (cs := F5) ?_ 0 _ rfl; (with_reducible repeat first | apply bd | apply be | apply ba); exact BK179.out⟩, ⟨bl2 HB.out GE178.out GE179.out⟩⟩
      ·replace c9 := Bool.eq_false_iff.mpr c9
       subst c9
       have H1 : (if x180000_1 = true then (bC.l0 k1 a0 (decide (t181 ≥ 4)) l1 (l1.length : Int) (wrap64 (x14_1 + 1)) true false false false false) else (bC.l0 k1 a0 (decide (t181 ≥ 4)) l1 (l1.length : Int) (wrap64 (x14_1 + 1)) (t181 == 5) false false false false)) = some (r1, r2, r3, r4, r5, r6, r7) := by rw [if_neg (show ¬ (false = true) by decide)] at H; exact H
       clear H
       have H := H1
       clear H1
       by_cases c15 : x180000_1 = true
       ·subst c15
        have H1 : (bC.l0 k1 a0 (decide (t181 ≥ 4)) l1 (l1.length : Int) (wrap64 (x14_1 + 1)) true false false false false) = some (r1, r2, r3, r4, r5, r6, r7) := by rw [if_pos rfl] at H; exact H
        clear H
        have H := H1
        clear H1
        have H' := Aside0.mk H
        clear H
        have p180 : 0 ≤ (x14_1 : Int) := of_decide_eq_true (by first | (with_reducible assumption) | assumption)
        have q180 : x14_1 < (l1.length : Int) := of_decide_eq_true (by first | (with_reducible assumption) | assumption)
        obtain ⟨ad180, e180, hx180_0⟩ := Kd.at_int HR1.out x14_1 p180 q180
        cases e180
        replace hx180_0 := (HB.out.cell (World.block_lt_of_cell? w _ hx180_0)).trans hx180_0
        replace p180 := eq_true p180
        replace q180 := eq_true q180
        go_wp2_with (first | ((with_reducible refine gate_callee (f := 83) rfl ?_); refine goesL_ (some 20) rfl rfl Tryz.func83 (by kernel_rfl) rfl #[.int .i64 a0, .int .u32 (rd l1 x14_1)] rfl gl ?_; (with_reducible refine (aV.calls k1 a0 (rd l1 x14_1) t181 _ A8.out).mono ?_); rintro e w' ⟨rfl, ⟨nd, rfl⟩⟩; refine ⟨_, rfl, ?_⟩; (try (rw [drewN_self wr]; generalize hq_ : World.drewN wr _ = wr; have n0_ : Aside0 (wr.heap[gb178]? = some (o5_ false false false false false 60)) := ⟨by rw [← hq_]; exact (bv BK178.out)⟩; have n1_ : Aside0 (wr.heap[gb179]? = some (o5_ true false false false false 60)) := ⟨by rw [← hq_]; exact (bv BK179.out)⟩; have n2_ : Aside0 (Below w.heap.size w wr) := ⟨by rw [← hq_]; exact (bl2 HB.out GE178.out GE179.out)⟩; clear BK178 BK179 HB hq_; have BK178 := n0_; have BK179 := n1_; have HB := n2_; clear n0_ n1_ n2_)); have hnb16 := NB179_178.out; have hnc16 := NB178_179.out; obtain ⟨hcz17_0, hcz17_1, hcz17_2, hcz17_3, hcz17_4⟩ := bc5 BK179.out; obtain ⟨hfz17_0, hfz17_1, hfz17_2, hfz17_3, hfz17_4⟩ := bf5 BK179.out))
        go_roundg k1
        case measure => have := HK1.out; omega
        case rel => exact ⟨(decide (t181 ≥ 4)), (wrap64 (x14_1 + 1)), (true), (gr_), (gr_), H', ⟨by have := HK1.out; omega⟩, ⟨by (with_reducible repeat first | apply bd | apply be | apply ba); refine blk_far ?_ NB178_179.out _; (with_reducible repeat first | apply bd | apply be | apply ba); exact BK178.out⟩, ⟨by (with_reducible repeat first | apply bd | apply be | apply ba); refine blk_put (cs := q5_ true false false false false) ?_ 0 _ rfl; (with_reducible repeat first | apply bd | apply be | apply ba); exact BK179.out⟩, ⟨bl2 HB.out GE178.out GE179.out⟩⟩
       ·replace c15 := Bool.eq_false_iff.mpr c15
        subst c15
        have H1 : (bC.l0 k1 a0 (decide (t181 ≥ 4)) l1 (l1.length : Int) (wrap64 (x14_1 + 1)) (t181 == 5) false false false false) = some (r1, r2, r3, r4, r5, r6, r7) := by rw [if_neg (show ¬ (false = true) by decide)] at H; exact H
        clear H
        have H := H1
        clear H1
        have H' := Aside0.mk H
        clear H
        have p180 : 0 ≤ (x14_1 : Int) := of_decide_eq_true (by first | (with_reducible assumption) | assumption)
        have q180 : x14_1 < (l1.length : Int) := of_decide_eq_true (by first | (with_reducible assumption) | assumption)
        obtain ⟨ad180, e180, hx180_0⟩ := Kd.at_int HR1.out x14_1 p180 q180
        cases e180
        replace hx180_0 := (HB.out.cell (World.block_lt_of_cell? w _ hx180_0)).trans hx180_0
        replace p180 := eq_true p180
        replace q180 := eq_true q180
        go_wp2_with (first | ((with_reducible refine gate_callee (f := 83) rfl ?_); refine goesL_ (some 20) rfl rfl Tryz.func83 (by kernel_rfl) rfl #[.int .i64 a0, .int .u32 (rd l1 x14_1)] rfl gl ?_; (with_reducible refine (aV.calls k1 a0 (rd l1 x14_1) t181 _ A8.out).mono ?_); rintro e w' ⟨rfl, ⟨nd, rfl⟩⟩; refine ⟨_, rfl, ?_⟩; (try (rw [drewN_self wr]; generalize hq_ : World.drewN wr _ = wr; have n0_ : Aside0 (wr.heap[gb178]? = some (o5_ false false false false false 60)) := ⟨by rw [← hq_]; exact (bv BK178.out)⟩; have n1_ : Aside0 (wr.heap[gb179]? = some (o5_ false false false false false 60)) := ⟨by rw [← hq_]; exact (bv BK179.out)⟩; have n2_ : Aside0 (Below w.heap.size w wr) := ⟨by rw [← hq_]; exact (bl2 HB.out GE178.out GE179.out)⟩; clear BK178 BK179 HB hq_; have BK178 := n0_; have BK179 := n1_; have HB := n2_; clear n0_ n1_ n2_)); have hnb18 := NB179_178.out; have hnc18 := NB178_179.out; obtain ⟨hcz19_0, hcz19_1, hcz19_2, hcz19_3, hcz19_4⟩ := bc5 BK179.out; obtain ⟨hfz19_0, hfz19_1, hfz19_2, hfz19_3, hfz19_4⟩ := bf5 BK179.out))
        go_roundg k1
        case measure => have := HK1.out; omega
        case rel => exact ⟨(decide (t181 ≥ 4)), (wrap64 (x14_1 + 1)), ((t181 == 5)), (gr_), (gr_), H', ⟨by have := HK1.out; omega⟩, ⟨by (with_reducible repeat first | apply bd | apply be | apply ba); refine blk_far ?_ NB178_179.out _; (with_reducible repeat first | apply bd | apply be | apply ba); exact BK178.out⟩, ⟨by (with_reducible repeat first | apply bd | apply be | apply ba); refine blk_put (cs := F5) ?_ 0 _ rfl; (with_reducible repeat first | apply bd | apply be | apply ba); exact BK179.out⟩, ⟨bl2 HB.out GE178.out GE179.out⟩⟩
     ·rw [if_neg c7] at H
      exact absurd H (by simp)
    ·rw [if_neg c6] at H
     exact absurd H (by simp)
   ·rw [if_neg c5] at H
    have c5b0 : decide (x14_1 < (l1.length : Int)) = false := decide_eq_false c5
    clear c5
    replace H := bq_ H
    obtain ⟨t182, A200, H⟩ := H
    replace H : (some (t182, x180000_1, false, false, false, false, x7_1)) = some (r1, r2, r3, r4, r5, r6, r7) := H
    have A20 := Aside0.mk A200
    clear A200
    simp only [Option.some.injEq, Prod.mk.injEq] at H
    obtain ⟨rfl, rfl, rfl, rfl, rfl, rfl, rfl⟩ := H
    try go_wp2
    have n0_ := Aside0.mk (blk_drew BK178.out)
    have n1_ := Aside0.mk (blk_drew BK179.out)
    have n2_ := Aside0.mk (below_drew1 HB.out)
    clear BK178
    clear BK179
    clear HB
    have BK178 := n0_
    have BK179 := n1_
    have HB := n2_
    clear n0_ n1_ n2_
    refine start_ (n := 7) (S := fun w' => w'.cell? ⟨gb179, 0, none⟩ = some (.bool x180000_1) ∧ w'.cell? ⟨gb179, 1, none⟩ = some (.bool false) ∧ w'.cell? ⟨gb179, 2, none⟩ = some (.bool false) ∧ w'.cell? ⟨gb179, 3, none⟩ = some (.bool false) ∧ w'.cell? ⟨gb179, 4, none⟩ = some (.bool false)) (ds := []) (tf 0 7) (by kernel_rfl) rfl rfl ⟨(blk_cell BK179.out 0).trans rfl, (blk_cell BK179.out 1).trans rfl, (blk_cell BK179.out 2).trans rfl, (blk_cell BK179.out 3).trans rfl, (blk_cell BK179.out 4).trans rfl⟩ (fun hHeld => ?_)
    generalize wr.drew = w21 at BK178 BK179 HB hHeld ⊢
    refine pure_ (i := 0) (N := some 34) (v := ?_) (a' := ?_) (tf 1 6) rfl rfl (by kernel_rfl) (fun _ _ _ h => h) (Or.inl ⟨by rfl, ?_⟩) ?_ ?_
    rotate_left
    ·intro w'
     go_simp
     with_reducible rfl
    rotate_left
    ·simp only [Act.put, sb, sz, ss, i64_w, i32_w]
     rfl
    refine pure_ (i := 3) (N := some 37) (v := ?_) (a' := ?_) #[true, false, false, true, false, false, false] rfl rfl (by kernel_rfl) (fun _ _ _ h => h) (Or.inl ⟨by rfl, ?_⟩) ?_ ?_
    rotate_left
    ·intro w'
     go_simp
     with_reducible rfl
    rotate_left
    ·simp only [Act.put, sb, sz, ss, i64_w, i32_w]
     rfl
    refine take_ (i := 2) (N := some 36) (v := ?_) (a' := ?_) #[true, false, true, true, false, false, false] rfl rfl (by kernel_rfl) (fun _ _ _ h => h) (Or.inl ⟨by rfl, ?_⟩) hHeld ?_ ?_
    rotate_left
    ·rintro w' ⟨s0, s1, s2, s3, s4⟩
     go_simp
     with_reducible rfl
    rotate_left
    ·simp only [Act.put, sb, sz, ss, i64_w, i32_w]
     rfl
    refine one_ (i := 1) (N := some 35) (tf 4 3) rfl rfl (by kernel_rfl) (by decide) (fun K hK => ?_)
    refine goes_ Tryz.func84 (by kernel_rfl) rfl #[.int .i64 a0] (by rfl) rfl rfl gl ?_
    with_reducible refine (iI.calls a0 t182 _ A20.out).mono ?_
    rintro e w' ⟨rfl, ⟨nd, rfl⟩⟩
    refine ⟨_, rfl, ?_⟩
    refine hK.out _ _ ⟨(blk_cell BK179.out 0).trans rfl, (blk_cell BK179.out 1).trans rfl, (blk_cell BK179.out 2).trans rfl, (blk_cell BK179.out 3).trans rfl, (blk_cell BK179.out 4).trans rfl⟩ (fun hHeld => ?_)
    clear hK K
    refine norm_ (a' := ?_) ?_ ?_
    rotate_left
    ·show Act.put _ (some 35) _ = _
     simp only [Act.put, sb, sz, ss, i64_w, i32_w]
     rfl
    refine pure_ (i := 4) (N := some 4) (v := ?_) (a' := ?_) (tf 5 2) rfl rfl (by kernel_rfl) (fun _ _ _ h => h) (Or.inl ⟨by rfl, ?_⟩) ?_ ?_
    rotate_left
    ·intro w'
     go_simp
     with_reducible rfl
    rotate_left
    ·simp only [Act.put, sb, sz, ss, i64_w, i32_w]
     rfl
    refine one_ (i := 5) (N := none) (tf 6 1) rfl rfl (by kernel_rfl) (by decide) (fun K hK => ?_)
    have hs22 : w21.cell? ⟨gb178, 0, none⟩ = some (.bool false) := (blk_cell BK178.out 0).trans rfl
    have hfs22 := blk_frozen BK178.out 0
    have hns22_1 := NB179_178.out
    have hms22_1 := NB178_179.out
    have hs23 : w21.cell? ⟨gb178, 1, none⟩ = some (.bool false) := (blk_cell BK178.out 1).trans rfl
    have hfs23 := blk_frozen BK178.out 1
    have hns23_1 := NB179_178.out
    have hms23_1 := NB178_179.out
    have hs24 : w21.cell? ⟨gb178, 2, none⟩ = some (.bool false) := (blk_cell BK178.out 2).trans rfl
    have hfs24 := blk_frozen BK178.out 2
    have hns24_1 := NB179_178.out
    have hms24_1 := NB178_179.out
    have hs25 : w21.cell? ⟨gb178, 3, none⟩ = some (.bool false) := (blk_cell BK178.out 3).trans rfl
    have hfs25 := blk_frozen BK178.out 3
    have hns25_1 := NB179_178.out
    have hms25_1 := NB178_179.out
    have hs26 : w21.cell? ⟨gb178, 4, none⟩ = some (.bool false) := (blk_cell BK178.out 4).trans rfl
    have hfs26 := blk_frozen BK178.out 4
    have hns26_1 := NB179_178.out
    have hms26_1 := NB178_179.out
    refine skip_ (w1 := ?_) (by rfl) rfl ?_ ?_
    rotate_left
    ·go_simp
     rfl
    refine hK.out _ _ ⟨(cf5 NB179_178.out (hHeld.1)), (cf5 NB179_178.out (hHeld.2.1)), (cf5 NB179_178.out (hHeld.2.2.1)), (cf5 NB179_178.out (hHeld.2.2.2.1)), (cf5 NB179_178.out (hHeld.2.2.2.2))⟩ (fun hHeld => ?_)
    clear hK K
    refine pure_ (i := 6) (N := some 6) (v := ?_) (a' := ?_) (tf 7 0) rfl rfl (by kernel_rfl) (fun _ _ _ h => h) (Or.inl ⟨by rfl, ?_⟩) ?_ ?_
    rotate_left
    ·intro w'
     go_simp
     with_reducible rfl
    rotate_left
    ·simp only [Act.put, sb, sz, ss, i64_w, i32_w]
     rfl
    refine done_ (by kernel_rfl) ?_
    try go_wp2
    refine bodyPost_ret (results_list (rs := [.tmp 4, .cell 5 60, .tmp 6]) rfl (by simp) (.tmp (.cell gb178 60 #[.bool x180000_1, .bool false, .bool false, .bool false, .bool false] (0, 0) _ rfl (by (with_reducible repeat first | apply bd | apply be | apply ba); refine blk_put (cs := q5_ x180000_1 false false false false) ?_ 4 _ rfl; (with_reducible repeat first | apply bd | apply be | apply ba); refine blk_put (cs := q5_ x180000_1 false false false false) ?_ 3 _ rfl; (with_reducible repeat first | apply bd | apply be | apply ba); refine blk_put (cs := q5_ x180000_1 false false false false) ?_ 2 _ rfl; (with_reducible repeat first | apply bd | apply be | apply ba); refine blk_put (cs := q5_ x180000_1 false false false false) ?_ 1 _ rfl; (with_reducible repeat first | apply bd | apply be | apply ba); refine blk_put (cs := F5) ?_ 0 _ rfl; (with_reducible repeat first | apply bd | apply be | apply ba); exact BK178.out) Tryz.underlying60 rfl (by kernel_rfl) (.tmp .nil)))) rfl ?_
    exact ⟨by first | rfl | (simp [bT, bU] <;> rfl) | (simp [*, bT, bU] <;> rfl), bl2 HB.out GE178.out GE179.out⟩

-- NEED 0
/-! ### eY: function 55 -/
def eY.f (a0 : Int) : Option (Int × Bool × Bool × Bool × Bool × Bool) := (iI.f a0).bind fun t184 => (some (t184, true, false, false, false, false))
theorem eY.calls (a0 r1 : Int) (r2 r3 : Bool) (r4 r5 r6 : Bool) (w : World) (h : eY.f a0 = some (r1, r2, r3, r4, r5, r6)) :
  Calls Tryz.prog 55 #[.int .i64 a0] w fun e w' => e = .returned (.tuple #[.int .u32 r1, .agg #[.bool r2, .bool r3, .bool r4, .bool r5, .bool r6]]) ∧ Below w.heap.size w w' := by
 have hu60 := Tryz.underlying60
 have HB := Aside0.mk (Below.refl w.heap.size w)
 have H : ((iI.f a0).bind fun t184 => (some (t184, true, false, false, false, false))) = some (r1, r2, r3, r4, r5, r6) := h
 clear h
 replace H := bq_ H
 obtain ⟨t184, A20, H⟩ := H
 replace H : (some (t184, true, false, false, false, false)) = some (r1, r2, r3, r4, r5, r6) := H
 have A2 := Aside0.mk A20
 clear A20
 simp only [Option.some.injEq, Prod.mk.injEq] at H
 obtain ⟨rfl, rfl, rfl, rfl, rfl, rfl⟩ := H
 go_enter Tryz.func55, Tryz.ntmps55
 go_wp2_with (first | ((with_reducible refine gate_dst (N := 3) rfl ?_); refine box_event ?hg (N := 3) ?hd (cs := F5) (t := 60) ?hr ?_; (case hd => rfl); (case hg => rfl); (case hr => first | (go_simp; done) | (go_simp; rfl)); intro gb183 hg w3 hbox hb; have n0_ := Aside0.mk (below_step (bl0 HB.out) hb); have n1_ := Aside0.mk (hbox); have n2_ := Aside0.mk ((by rw [hg]; exact (below_size (bl0 HB.out)) : w.heap.size ≤ gb183)); have n3_ := n2_; clear HB; have HB := n0_; have BK183 := n1_; have GW183 := n2_; have GE183 := n3_; clear n0_ n1_ n2_ n3_; clear hb hbox hg) | ((with_reducible refine gate_callee (f := 84) rfl ?_); refine goesL_ (some 5) rfl rfl Tryz.func84 (by kernel_rfl) rfl #[.int .i64 a0] rfl gl ?_; (with_reducible refine (iI.calls a0 t184 _ A2.out).mono ?_); rintro e w' ⟨rfl, ⟨nd, rfl⟩⟩; refine ⟨_, rfl, ?_⟩; (try (rw [drewN_self w3]; generalize hq_ : World.drewN w3 _ = w3; have n0_ : Aside0 (w3.heap[gb183]? = some (o5_ false false false false false 60)) := ⟨by rw [← hq_]; exact (bv BK183.out)⟩; have n1_ : Aside0 (Below w.heap.size w w3) := ⟨by rw [← hq_]; exact (bl1 HB.out GE183.out)⟩; clear BK183 HB hq_; have BK183 := n0_; have HB := n1_; clear n0_ n1_)); obtain ⟨hcz4_0, hcz4_1, hcz4_2, hcz4_3, hcz4_4⟩ := bc5 BK183.out; obtain ⟨hfz4_0, hfz4_1, hfz4_2, hfz4_3, hfz4_4⟩ := bf5 BK183.out))
 refine bodyPost_ret (results_tc rfl _ _ gb183 60 #[.bool true, .bool false, .bool false, .bool false, .bool false] (0, 0) _ rfl (by (with_reducible repeat first | apply bd | apply be | apply ba); refine blk_put (cs := q5_ true false false false false) ?_ 4 _ rfl; (with_reducible repeat first | apply bd | apply be | apply ba); refine blk_put (cs := q5_ true false false false false) ?_ 3 _ rfl; (with_reducible repeat first | apply bd | apply be | apply ba); refine blk_put (cs := q5_ true false false false false) ?_ 2 _ rfl; (with_reducible repeat first | apply bd | apply be | apply ba); refine blk_put (cs := q5_ true false false false false) ?_ 1 _ rfl; (with_reducible repeat first | apply bd | apply be | apply ba); refine blk_put (cs := F5) ?_ 0 _ rfl; (with_reducible repeat first | apply bd | apply be | apply ba); exact BK183.out) Tryz.underlying60 rfl (by kernel_rfl)) rfl ?_
 exact ⟨by first | rfl | (simp [bT, bU] <;> rfl) | (simp [*, bT, bU] <;> rfl), bl1 HB.out GE183.out⟩

-- NEED 0
/-! ### dJ: function 56 -/
def dJ.f (a0 a1 : Int) : Option (Bool) := (dY.f a0 a1).bind fun bt185 => (some bt185.1)
theorem dJ.calls (a0 a1 : Int) (r : Bool) (w : World) (h : dJ.f a0 a1 = some r) :
  Calls Tryz.prog 56 #[.int .i64 a0, .int .u32 a1] w fun e w' => e = .returned (.bool r) ∧ Drawn0 w w' := by
 have H : ((dY.f a0 a1).bind fun bt185 => (some bt185.1)) = some r := h
 clear h
 replace H := bq_ H
 obtain ⟨⟨t185, t186, t187⟩, A30, H⟩ := H
 replace H : (some t185) = some r := H
 have A3 := Aside0.mk A30
 clear A30
 obtain rfl := Option.some.inj H
 go_enter Tryz.func56, Tryz.ntmps56
 go_wp2_with (first | ((with_reducible refine gate_callee (f := 85) rfl ?_); refine goesL_ (some 11) rfl rfl Tryz.func85 (by kernel_rfl) rfl #[.int .i64 a0, .int .u32 a1] rfl gl ?_; (with_reducible refine (dY.calls a0 a1 t185 t186 t187 _ A3.out).mono ?_); rintro e w' ⟨rfl, ⟨nd, rfl⟩⟩; refine ⟨_, rfl, ?_⟩))
 go_ret
 exact ⟨gr_, gd_⟩

-- NEED 0
/-! ### dC: function 93 -/
def dC.f (a0 : Int) : Option (Int) := (bD.f a0).bind fun bt188 => (if 0 ≤ (IntKind.u64.wrap (wrap64 (bt188.1 - 1))) then (some (wrap64 (2 - (shl .i64 1 (IntKind.u64.wrap (wrap64 (bt188.1 - 1))))))) else (none))
theorem dC.calls (a0 r : Int) (w : World) (h : dC.f a0 = some r) :
  Calls Tryz.prog 93 #[.int .i64 a0] w fun e w' => e = .returned (.int .i64 r) ∧ Drawn0 w w' := by
 have H : ((bD.f a0).bind fun bt188 => (if 0 ≤ (IntKind.u64.wrap (wrap64 (bt188.1 - 1))) then (some (wrap64 (2 - (shl .i64 1 (IntKind.u64.wrap (wrap64 (bt188.1 - 1))))))) else (none))) = some r := h
 clear h
 replace H := bq_ H
 obtain ⟨⟨t188, t189⟩, A20, H⟩ := H
 replace H : (if 0 ≤ (IntKind.u64.wrap (wrap64 (t188 - 1))) then (some (wrap64 (2 - (shl .i64 1 (IntKind.u64.wrap (wrap64 (t188 - 1))))))) else (none)) = some r := H
 have A2 := Aside0.mk A20
 clear A20
 obtain ⟨ji3, hji3⟩ : ∃ j_ : Int, (IntKind.u64.wrap (wrap64 (t188 - 1))) = j_ := ⟨_, rfl⟩
 replace H : (if 0 ≤ (ji3) then (some (wrap64 (2 - (shl .i64 1 (ji3))))) else (none)) = some r := by first | (rw [hji3] at H; exact H) | (simp only [hji3] at H ⊢; exact H)
 (try rw [hji3] at A2)
 by_cases c4 : 0 ≤ (ji3)
 ·rw [if_pos c4] at H
  have c4b0 := eq_true c4
  have c4b1 : decide (0 ≤ (ji3)) = true := decide_eq_true c4
  clear c4
  obtain ⟨ji5, hji5⟩ : ∃ j_ : Int, (shl .i64 1 (ji3)) = j_ := ⟨_, rfl⟩
  replace H : (some (wrap64 (2 - (ji5)))) = some r := by first | (rw [hji5] at H; exact H) | (simp only [hji5] at H ⊢; exact H)
  (try rw [hji5] at A2)
  have hji5_ : (IntKind.i64.wrap (1 * 2 ^ min (ji3).toNat 64)) = ji5 := hji5
  have hji5z : (ji3) ≤ 64 → (IntKind.i64.wrap (1 * 2 ^ (ji3).toNat)) = ji5 := shl_small hji5
  have hji5u : (IntKind.i64.wrap (2 ^ min (ji3).toNat 64)) = ji5 := by have h_ := hji5_; rw [Int.one_mul] at h_; exact h_
  have hji5v : (ji3) ≤ 64 → (IntKind.i64.wrap (2 ^ (ji3).toNat)) = ji5 := fun hle_ => by have h_ := hji5z hle_; rw [Int.one_mul] at h_; exact h_
  have hji5y : (wrap64 (1 * 2 ^ min (ji3).toNat 64)) = ji5 := (i64_w _).symm.trans hji5_
  have hji5x : (ji3) ≤ 64 → (wrap64 (1 * 2 ^ (ji3).toNat)) = ji5 := fun h_ => (i64_w _).symm.trans (hji5z h_)
  obtain rfl := Option.some.inj H
  go_enter Tryz.func93, Tryz.ntmps93
  go_wp2_with (first | ((with_reducible refine gate_callee (f := 51) rfl ?_); refine goesL_ (some 7) rfl rfl Tryz.func51 (by kernel_rfl) rfl #[.int .i64 a0] rfl gl ?_; (with_reducible refine (bD.calls a0 t188 t189 _ A2.out).mono ?_); rintro e w' ⟨rfl, ⟨nd, rfl⟩⟩; refine ⟨_, rfl, ?_⟩))
  go_ret
  exact ⟨by first | rfl | (simp; done) | (simp only [← hji3, ← hji5] <;> (first | rfl | (simp; done))) | (simp [*]; done) | (congr 1; (try unfold wrap64); omega) | (congr 1; rw [IntKind.wrap_u64]; omega), gd_⟩
 ·rw [if_neg c4] at H
  exact absurd H (by simp)


-- NEED 0
/-! ### fM: function 86 -/
def fM.f (a0 a1 : Int) : Option (Bool × Int × Int) := (bD.f a0).bind fun bt190 => ((dY.f a0 a1).bind fun bt192 => (if bt192.2.1 = 0 then ((dC.f a0).bind fun t195 => (some (bt192.1, wrap64 (t195 - bt190.2), IntKind.u64.wrap (bt192.2.2)))) else ((dI.f a0).bind fun t196 => (if bt192.2.1 = t196 then (some (bt192.1, 0, 0)) else ((dC.f a0).bind fun t197 => (if 0 ≤ (IntKind.u64.wrap (bt190.2)) then (some (bt192.1, wrap64 ((wrap64 ((wrap64 (t197 - bt190.2)) + bt192.2.1)) - 1), Go.bits .or .u64 (IntKind.u64.wrap (bt192.2.2)) (shl .u64 1 (IntKind.u64.wrap (bt190.2))))) else (none)))))))
theorem fM.calls (a0 a1 : Int) (r1 : Bool) (r2 r3 : Int) (w : World) (h : fM.f a0 a1 = some (r1, r2, r3)) :
  Calls Tryz.prog 86 #[.int .i64 a0, .int .u32 a1] w fun e w' => e = .returned (.tuple #[.bool r1, .int .i64 r2, .int .u64 r3]) ∧ Drawn0 w w' := by
 have H : ((bD.f a0).bind fun bt190 => ((dY.f a0 a1).bind fun bt192 => (if bt192.2.1 = 0 then ((dC.f a0).bind fun t195 => (some (bt192.1, wrap64 (t195 - bt190.2), IntKind.u64.wrap (bt192.2.2)))) else ((dI.f a0).bind fun t196 => (if bt192.2.1 = t196 then (some (bt192.1, 0, 0)) else ((dC.f a0).bind fun t197 => (if 0 ≤ (IntKind.u64.wrap (bt190.2)) then (some (bt192.1, wrap64 ((wrap64 ((wrap64 (t197 - bt190.2)) + bt192.2.1)) - 1), Go.bits .or .u64 (IntKind.u64.wrap (bt192.2.2)) (shl .u64 1 (IntKind.u64.wrap (bt190.2))))) else (none)))))))) = some (r1, r2, r3) := h
 clear h
 replace H := bq_ H
 obtain ⟨⟨t190, t191⟩, A30, H⟩ := H
 replace H : ((dY.f a0 a1).bind fun bt192 => (if bt192.2.1 = 0 then ((dC.f a0).bind fun t195 => (some (bt192.1, wrap64 (t195 - t191), IntKind.u64.wrap (bt192.2.2)))) else ((dI.f a0).bind fun t196 => (if bt192.2.1 = t196 then (some (bt192.1, 0, 0)) else ((dC.f a0).bind fun t197 => (if 0 ≤ (IntKind.u64.wrap (t191)) then (some (bt192.1, wrap64 ((wrap64 ((wrap64 (t197 - t191)) + bt192.2.1)) - 1), Go.bits .or .u64 (IntKind.u64.wrap (bt192.2.2)) (shl .u64 1 (IntKind.u64.wrap (t191))))) else (none))))))) = some (r1, r2, r3) := H
 have A3 := Aside0.mk A30
 clear A30
 replace H := bq_ H
 obtain ⟨⟨t192, t193, t194⟩, A40, H⟩ := H
 replace H : (if t193 = 0 then ((dC.f a0).bind fun t195 => (some (t192, wrap64 (t195 - t191), IntKind.u64.wrap (t194)))) else ((dI.f a0).bind fun t196 => (if t193 = t196 then (some (t192, 0, 0)) else ((dC.f a0).bind fun t197 => (if 0 ≤ (IntKind.u64.wrap (t191)) then (some (t192, wrap64 ((wrap64 ((wrap64 (t197 - t191)) + t193)) - 1), Go.bits .or .u64 (IntKind.u64.wrap (t194)) (shl .u64 1 (IntKind.u64.wrap (t191))))) else (none)))))) = some (r1, r2, r3) := H
 have A4 := Aside0.mk A40
 clear A40
 by_cases c5 : t193 = 0
 ·rw [if_pos c5] at H
  have c5b0 : (t193 == 0) = true := beq_iff_eq.mpr c5
  have c5b1 : (t193 != 0) = false := bne_eq_false_iff_eq.mpr c5
  clear c5
  replace H := bq_ H
  obtain ⟨t195, A60, H⟩ := H
  replace H : (some (t192, wrap64 (t195 - t191), IntKind.u64.wrap (t194))) = some (r1, r2, r3) := H
  have A6 := Aside0.mk A60
  clear A60
  simp only [Option.some.injEq, Prod.mk.injEq] at H
  obtain ⟨rfl, rfl, rfl⟩ := H
  go_enter Tryz.func86, Tryz.ntmps86
  go_wp2_with (first | ((with_reducible refine gate_callee (f := 51) rfl ?_); refine goesL_ (some 14) rfl rfl Tryz.func51 (by kernel_rfl) rfl #[.int .i64 a0] rfl gl ?_; (with_reducible refine (bD.calls a0 t190 t191 _ A3.out).mono ?_); rintro e w' ⟨rfl, ⟨nd, rfl⟩⟩; refine ⟨_, rfl, ?_⟩) | ((with_reducible refine gate_callee (f := 85) rfl ?_); refine goesL_ (some 20) rfl rfl Tryz.func85 (by kernel_rfl) rfl #[.int .i64 a0, .int .u32 a1] rfl gl ?_; (with_reducible refine (dY.calls a0 a1 t192 t193 t194 _ A4.out).mono ?_); rintro e w' ⟨rfl, ⟨nd, rfl⟩⟩; refine ⟨_, rfl, ?_⟩) | ((with_reducible refine gate_callee (f := 93) rfl ?_); refine goesL_ (some 29) rfl rfl Tryz.func93 (by kernel_rfl) rfl #[.int .i64 a0] rfl gl ?_; (with_reducible refine (dC.calls a0 t195 _ A6.out).mono ?_); rintro e w' ⟨rfl, ⟨nd, rfl⟩⟩; refine ⟨_, rfl, ?_⟩))
  go_ret3
  exact ⟨gr_, gd_⟩
 ·rw [if_neg c5] at H
  have c5b0 : (t193 == 0) = false := beq_eq_false_iff_ne.mpr c5
  have c5b1 : (t193 != 0) = true := bne_iff_ne.mpr c5
  replace H := bq_ H
  obtain ⟨t196, A70, H⟩ := H
  replace H : (if t193 = t196 then (some (t192, 0, 0)) else ((dC.f a0).bind fun t197 => (if 0 ≤ (IntKind.u64.wrap (t191)) then (some (t192, wrap64 ((wrap64 ((wrap64 (t197 - t191)) + t193)) - 1), Go.bits .or .u64 (IntKind.u64.wrap (t194)) (shl .u64 1 (IntKind.u64.wrap (t191))))) else (none)))) = some (r1, r2, r3) := H
  have A7 := Aside0.mk A70
  clear A70
  by_cases c8 : t193 = t196
  ·rw [if_pos c8] at H
   have c8b0 : (t193 == t196) = true := beq_iff_eq.mpr c8
   have c8b1 : (t193 != t196) = false := bne_eq_false_iff_eq.mpr c8
   clear c8
   simp only [Option.some.injEq, Prod.mk.injEq] at H
   obtain ⟨rfl, rfl, rfl⟩ := H
   go_enter Tryz.func86, Tryz.ntmps86
   go_wp2_with (first | ((with_reducible refine gate_callee (f := 51) rfl ?_); refine goesL_ (some 14) rfl rfl Tryz.func51 (by kernel_rfl) rfl #[.int .i64 a0] rfl gl ?_; (with_reducible refine (bD.calls a0 t190 t191 _ A3.out).mono ?_); rintro e w' ⟨rfl, ⟨nd, rfl⟩⟩; refine ⟨_, rfl, ?_⟩) | ((with_reducible refine gate_callee (f := 85) rfl ?_); refine goesL_ (some 20) rfl rfl Tryz.func85 (by kernel_rfl) rfl #[.int .i64 a0, .int .u32 a1] rfl gl ?_; (with_reducible refine (dY.calls a0 a1 t192 t193 t194 _ A4.out).mono ?_); rintro e w' ⟨rfl, ⟨nd, rfl⟩⟩; refine ⟨_, rfl, ?_⟩) | ((with_reducible refine gate_callee (f := 94) rfl ?_); refine goesL_ (some 36) rfl rfl Tryz.func94 (by kernel_rfl) rfl #[.int .i64 a0] rfl gl ?_; (with_reducible refine (dI.calls a0 t196 _ A7.out).mono ?_); rintro e w' ⟨rfl, ⟨nd, rfl⟩⟩; refine ⟨_, rfl, ?_⟩))
   go_ret3
   exact ⟨gr_, gd_⟩
  ·rw [if_neg c8] at H
   have c8b0 : (t193 == t196) = false := beq_eq_false_iff_ne.mpr c8
   have c8b1 : (t193 != t196) = true := bne_iff_ne.mpr c8
   replace H := bq_ H
   obtain ⟨t197, A90, H⟩ := H
   replace H : (if 0 ≤ (IntKind.u64.wrap (t191)) then (some (t192, wrap64 ((wrap64 ((wrap64 (t197 - t191)) + t193)) - 1), Go.bits .or .u64 (IntKind.u64.wrap (t194)) (shl .u64 1 (IntKind.u64.wrap (t191))))) else (none)) = some (r1, r2, r3) := H
   have A9 := Aside0.mk A90
   clear A90
   obtain ⟨ji10, hji10⟩ : ∃ j_ : Int, (IntKind.u64.wrap (t191)) = j_ := ⟨_, rfl⟩
   replace H : (if 0 ≤ (ji10) then (some (t192, wrap64 ((wrap64 ((wrap64 (t197 - t191)) + t193)) - 1), Go.bits .or .u64 (IntKind.u64.wrap (t194)) (shl .u64 1 (ji10)))) else (none)) = some (r1, r2, r3) := by first | (rw [hji10] at H; exact H) | (simp only [hji10] at H ⊢; exact H)
   (try rw [hji10] at A3)
   (try rw [hji10] at A4)
   (try rw [hji10] at A7)
   (try rw [hji10] at A9)
   by_cases c11 : 0 ≤ (ji10)
   ·rw [if_pos c11] at H
    have c11b0 := eq_true c11
    have c11b1 : decide (0 ≤ (ji10)) = true := decide_eq_true c11
    clear c11
    obtain ⟨ji12, hji12⟩ : ∃ j_ : Int, (shl .u64 1 (ji10)) = j_ := ⟨_, rfl⟩
    replace H : (some (t192, wrap64 ((wrap64 ((wrap64 (t197 - t191)) + t193)) - 1), Go.bits .or .u64 (IntKind.u64.wrap (t194)) (ji12))) = some (r1, r2, r3) := by first | (rw [hji12] at H; exact H) | (simp only [hji12] at H ⊢; exact H)
    (try rw [hji12] at A3)
    (try rw [hji12] at A4)
    (try rw [hji12] at A7)
    (try rw [hji12] at A9)
    have hji12_ : (IntKind.u64.wrap (1 * 2 ^ min (ji10).toNat 64)) = ji12 := hji12
    have hji12z : (ji10) ≤ 64 → (IntKind.u64.wrap (1 * 2 ^ (ji10).toNat)) = ji12 := shl_small hji12
    have hji12u : (IntKind.u64.wrap (2 ^ min (ji10).toNat 64)) = ji12 := by have h_ := hji12_; rw [Int.one_mul] at h_; exact h_
    have hji12v : (ji10) ≤ 64 → (IntKind.u64.wrap (2 ^ (ji10).toNat)) = ji12 := fun hle_ => by have h_ := hji12z hle_; rw [Int.one_mul] at h_; exact h_
    simp only [Option.some.injEq, Prod.mk.injEq] at H
    obtain ⟨rfl, rfl, rfl⟩ := H
    go_enter Tryz.func86, Tryz.ntmps86
    go_wp2_with (first | ((with_reducible refine gate_callee (f := 51) rfl ?_); refine goesL_ (some 14) rfl rfl Tryz.func51 (by kernel_rfl) rfl #[.int .i64 a0] rfl gl ?_; (with_reducible refine (bD.calls a0 t190 t191 _ A3.out).mono ?_); rintro e w' ⟨rfl, ⟨nd, rfl⟩⟩; refine ⟨_, rfl, ?_⟩) | ((with_reducible refine gate_callee (f := 85) rfl ?_); refine goesL_ (some 20) rfl rfl Tryz.func85 (by kernel_rfl) rfl #[.int .i64 a0, .int .u32 a1] rfl gl ?_; (with_reducible refine (dY.calls a0 a1 t192 t193 t194 _ A4.out).mono ?_); rintro e w' ⟨rfl, ⟨nd, rfl⟩⟩; refine ⟨_, rfl, ?_⟩) | ((with_reducible refine gate_callee (f := 94) rfl ?_); refine goesL_ (some 36) rfl rfl Tryz.func94 (by kernel_rfl) rfl #[.int .i64 a0] rfl gl ?_; (with_reducible refine (dI.calls a0 t196 _ A7.out).mono ?_); rintro e w' ⟨rfl, ⟨nd, rfl⟩⟩; refine ⟨_, rfl, ?_⟩) | ((with_reducible refine gate_callee (f := 93) rfl ?_); refine goesL_ (some 41) rfl rfl Tryz.func93 (by kernel_rfl) rfl #[.int .i64 a0] rfl gl ?_; (with_reducible refine (dC.calls a0 t197 _ A9.out).mono ?_); rintro e w' ⟨rfl, ⟨nd, rfl⟩⟩; refine ⟨_, rfl, ?_⟩))
    go_ret3
    exact ⟨by first | rfl | (simp; done) | (simp only [← hji10, ← hji12] <;> (first | rfl | (simp; done))) | (simp [*]; done) | (congr 1; (try unfold wrap64); omega) | (congr 1; rw [IntKind.wrap_u64]; omega), gd_⟩
   ·rw [if_neg c11] at H
    exact absurd H (by simp)

-- NEED 0
/-! ### eZ: function 60 -/
def eZ.f (a0 a1 : Int) : Option (Bool × Int × Int × Bool) := (fM.f a0 a1).bind fun bt199 => (some (bt199.1, bt199.2.1, bt199.2.2, false))
theorem eZ.calls (a0 a1 : Int) (r1 : Bool) (r2 r3 : Int) (r4 : Bool) (w : World) (h : eZ.f a0 a1 = some (r1, r2, r3, r4)) :
  Calls Tryz.prog 60 #[.int .i64 a0, .int .u32 a1] w fun e w' => e = .returned (.agg #[.bool r1, .int .i64 r2, .int .u64 r3, .bool r4]) ∧ Below w.heap.size w w' := by
 have hu78 := Tryz.underlying78
 have HB := Aside0.mk (Below.refl w.heap.size w)
 have H : ((fM.f a0 a1).bind fun bt199 => (some (bt199.1, bt199.2.1, bt199.2.2, false))) = some (r1, r2, r3, r4) := h
 clear h
 replace H := bq_ H
 obtain ⟨⟨t199, t200, t201⟩, A30, H⟩ := H
 replace H : (some (t199, t200, t201, false)) = some (r1, r2, r3, r4) := H
 have A3 := Aside0.mk A30
 clear A30
 simp only [Option.some.injEq, Prod.mk.injEq] at H
 obtain ⟨rfl, rfl, rfl, rfl⟩ := H
 go_enter Tryz.func60, Tryz.ntmps60
 go_wp2_with (first | ((with_reducible refine gate_dst (N := 4) rfl ?_); refine box_event ?hg (N := 4) ?hd (cs := #[.bool false, .int .i64 0, .int .u64 0, .bool false]) (t := 78) ?hr ?_; (case hd => rfl); (case hg => rfl); (case hr => first | (go_simp; done) | (go_simp; rfl)); intro gb198 hg w4 hbox hb; have n0_ := Aside0.mk (below_step (bl0 HB.out) hb); have n1_ := Aside0.mk (hbox); have n2_ := Aside0.mk ((by rw [hg]; exact (below_size (bl0 HB.out)) : w.heap.size ≤ gb198)); have n3_ := n2_; clear HB; have HB := n0_; have BK198 := n1_; have GW198 := n2_; have GE198 := n3_; clear n0_ n1_ n2_ n3_; clear hb hbox hg) | ((with_reducible refine gate_callee (f := 86) rfl ?_); refine goesL_ (some 11) rfl rfl Tryz.func86 (by kernel_rfl) rfl #[.int .i64 a0, .int .u32 a1] rfl gl ?_; (with_reducible refine (fM.calls a0 a1 t199 t200 t201 _ A3.out).mono ?_); rintro e w' ⟨rfl, ⟨nd, rfl⟩⟩; refine ⟨_, rfl, ?_⟩; (try (rw [drewN_self w4]; generalize hq_ : World.drewN w4 _ = w4; have n0_ : Aside0 (w4.heap[gb198]? = some (.cells #[.bool false, .int .i64 0, .int .u64 0, .bool false] 78 (0, 0))) := ⟨by rw [← hq_]; exact (bv BK198.out)⟩; have n1_ : Aside0 (Below w.heap.size w w4) := ⟨by rw [← hq_]; exact (bl1 HB.out GE198.out)⟩; clear BK198 HB hq_; have BK198 := n0_; have HB := n1_; clear n0_ n1_)); obtain ⟨hcz5_0, hcz5_1, hcz5_2, hcz5_3⟩ := bc4 BK198.out; obtain ⟨hfz5_0, hfz5_1, hfz5_2, hfz5_3⟩ := bf4 BK198.out))
 refine bodyPost_ret (results_cell_row rfl _ _ gb198 78 #[.bool t199, .int .i64 t200, .int .u64 t201, .bool false] (0, 0) _ rfl (by (with_reducible repeat first | apply bd | apply be | apply ba); refine blk_put (cs := #[.bool t199, .int .i64 t200, .int .u64 t201, .bool false]) ?_ 3 _ rfl; (with_reducible repeat first | apply bd | apply be | apply ba); refine blk_put (cs := #[.bool t199, .int .i64 t200, .int .u64 0, .bool false]) ?_ 2 _ rfl; (with_reducible repeat first | apply bd | apply be | apply ba); refine blk_put (cs := #[.bool t199, .int .i64 0, .int .u64 0, .bool false]) ?_ 1 _ rfl; (with_reducible repeat first | apply bd | apply be | apply ba); refine blk_put (cs := #[.bool false, .int .i64 0, .int .u64 0, .bool false]) ?_ 0 _ rfl; (with_reducible repeat first | apply bd | apply be | apply ba); exact BK198.out) Tryz.underlying78 rfl (by kernel_rfl)) rfl ?_
 exact ⟨by first | rfl | (simp [bT, bU] <;> rfl) | (simp [*, bT, bU] <;> rfl), bl1 HB.out GE198.out⟩

-- NEED 0
/-! ### dZ: function 59 -/
def dZ.f (a0 a1 a2 : Int) : Option (Bool × Int × Int × Bool) := (eZ.f a0 a1).bind fun bt203 => ((eZ.f a0 a2).bind fun bt207 => (some ((bt203.1 != bt207.1), wrap64 (bt203.2.1 + bt207.2.1), IntKind.u64.wrap (bt203.2.2.1 * bt207.2.2.1), false)))
theorem dZ.calls (a0 a1 a2 : Int) (r1 : Bool) (r2 r3 : Int) (r4 : Bool) (w : World) (h : dZ.f a0 a1 a2 = some (r1, r2, r3, r4)) :
  Calls Tryz.prog 59 #[.int .i64 a0, .int .u32 a1, .int .u32 a2] w fun e w' => e = .returned (.agg #[.bool r1, .int .i64 r2, .int .u64 r3, .bool r4]) ∧ Below w.heap.size w w' := by
 have hu78 := Tryz.underlying78
 have HB := Aside0.mk (Below.refl w.heap.size w)
 have H : ((eZ.f a0 a1).bind fun bt203 => ((eZ.f a0 a2).bind fun bt207 => (some ((bt203.1 != bt207.1), wrap64 (bt203.2.1 + bt207.2.1), IntKind.u64.wrap (bt203.2.2.1 * bt207.2.2.1), false)))) = some (r1, r2, r3, r4) := h
 clear h
 replace H := bq_ H
 obtain ⟨⟨t203, t204, t205, t206⟩, A40, H⟩ := H
 replace H : ((eZ.f a0 a2).bind fun bt207 => (some ((t203 != bt207.1), wrap64 (t204 + bt207.2.1), IntKind.u64.wrap (t205 * bt207.2.2.1), false))) = some (r1, r2, r3, r4) := H
 have A4 := Aside0.mk A40
 clear A40
 replace H := bq_ H
 obtain ⟨⟨t207, t208, t209, t210⟩, A50, H⟩ := H
 replace H : (some ((t203 != t207), wrap64 (t204 + t208), IntKind.u64.wrap (t205 * t209), false)) = some (r1, r2, r3, r4) := H
 have A5 := Aside0.mk A50
 clear A50
 simp only [Option.some.injEq, Prod.mk.injEq] at H
 obtain ⟨rfl, rfl, rfl, rfl⟩ := H
 go_enter Tryz.func59, Tryz.ntmps59
 go_wp2_with (first | ((with_reducible refine gate_dst (N := 6) rfl ?_); refine box_event ?hg (N := 6) ?hd (cs := #[.bool false, .int .i64 0, .int .u64 0, .bool false]) (t := 78) ?hr ?_; (case hd => rfl); (case hg => rfl); (case hr => first | (go_simp; done) | (go_simp; rfl)); intro gb202 hg w6 hbox hb; have n0_ := Aside0.mk (below_step (bl0 HB.out) hb); have n1_ := Aside0.mk (hbox); have n2_ := Aside0.mk ((by rw [hg]; exact (below_size (bl0 HB.out)) : w.heap.size ≤ gb202)); have n3_ := n2_; clear HB; have HB := n0_; have BK202 := n1_; have GW202 := n2_; have GE202 := n3_; clear n0_ n1_ n2_ n3_; clear hb hbox hg) | ((with_reducible refine gate_callee (f := 60) rfl ?_); refine goesL_ (some 11) rfl rfl Tryz.func60 (by kernel_rfl) rfl #[.int .i64 a0, .int .u32 a1] rfl gl ?_; (with_reducible refine (eZ.calls a0 a1 t203 t204 t205 t206 _ A4.out).mono ?_); rintro e w7 ⟨rfl, hb⟩; refine ⟨_, rfl, ?_⟩; have n0_ := Aside0.mk (blk_below (g := gb202) (o := .cells #[.bool false, .int .i64 0, .int .u64 0, .bool false] 78 (0, 0)) (bv BK202.out) hb); have n1_ := Aside0.mk (below_step (bl1 HB.out GE202.out) hb); clear BK202; clear HB; have BK202 := n0_; have HB := n1_; clear n0_ n1_) | ((with_reducible refine gate_callee (f := 60) rfl ?_); refine goesL_ (some 14) rfl rfl Tryz.func60 (by kernel_rfl) rfl #[.int .i64 a0, .int .u32 a2] rfl gl ?_; (with_reducible refine (eZ.calls a0 a2 t207 t208 t209 t210 _ A5.out).mono ?_); rintro e w8 ⟨rfl, hb⟩; refine ⟨_, rfl, ?_⟩; have n0_ := Aside0.mk (blk_below (g := gb202) (o := .cells #[.bool false, .int .i64 0, .int .u64 0, .bool false] 78 (0, 0)) (bv BK202.out) hb); have n1_ := Aside0.mk (below_step (bl1 HB.out GE202.out) hb); clear BK202; clear HB; have BK202 := n0_; have HB := n1_; clear n0_ n1_) | ((with_reducible refine gate_dst (N := 7) rfl ?_); refine box_event ?hg (N := 7) ?hd (cs := #[.bool false, .int .i64 0, .int .u64 0, .bool false]) (t := 78) ?hr ?_; (case hd => rfl); (case hg => rfl); (case hr => first | (go_simp; done) | (go_simp; rfl)); intro gb211 hg w9 hbox hb; have n0_ := Aside0.mk (blk_below (g := gb202) (o := .cells #[.bool false, .int .i64 0, .int .u64 0, .bool false] 78 (0, 0)) (bv BK202.out) hb); have n1_ := Aside0.mk (below_step (bl1 HB.out GE202.out) hb); have n2_ := Aside0.mk (hbox); have n3_ := Aside0.mk ((by rw [hg]; exact (below_size (bl1 HB.out GE202.out)) : w.heap.size ≤ gb211)); have n4_ := n3_; have n5_ := Aside0.mk ((by rw [hg]; exact Nat.ne_of_lt (blk_lt (g := gb202) (o := .cells #[.bool false, .int .i64 0, .int .u64 0, .bool false] 78 (0, 0)) (bv BK202.out)) : gb202 ≠ gb211)); have n6_ := Aside0.mk (Ne.symm n5_.out); clear BK202; clear HB; have BK202 := n0_; have HB := n1_; have BK211 := n2_; have GW211 := n3_; have GE211 := n4_; have NB202_211 := n5_; have NB211_202 := n6_; clear n0_ n1_ n2_ n3_ n4_ n5_ n6_; clear hb hbox hg) | ((with_reducible refine gate_dst (N := 8) rfl ?_); refine box_event ?hg (N := 8) ?hd (cs := #[.bool false, .int .i64 0, .int .u64 0, .bool false]) (t := 78) ?hr ?_; (case hd => rfl); (case hg => rfl); (case hr => first | (go_simp; done) | (go_simp; rfl)); intro gb212 hg w10 hbox hb; have n0_ := Aside0.mk (blk_below (g := gb202) (o := .cells #[.bool false, .int .i64 0, .int .u64 0, .bool false] 78 (0, 0)) (bv BK202.out) hb); have n1_ := Aside0.mk (blk_below (g := gb211) (o := .cells #[.bool false, .int .i64 0, .int .u64 0, .bool false] 78 (0, 0)) (bv BK211.out) hb); have n2_ := Aside0.mk (below_step (bl2 HB.out GE202.out GE211.out) hb); have n3_ := Aside0.mk (hbox); have n4_ := Aside0.mk ((by rw [hg]; exact (below_size (bl2 HB.out GE202.out GE211.out)) : w.heap.size ≤ gb212)); have n5_ := n4_; have n6_ := Aside0.mk ((by rw [hg]; exact Nat.ne_of_lt (blk_lt (g := gb202) (o := .cells #[.bool false, .int .i64 0, .int .u64 0, .bool false] 78 (0, 0)) (bv BK202.out)) : gb202 ≠ gb212)); have n7_ := Aside0.mk (Ne.symm n6_.out); have n8_ := Aside0.mk ((by rw [hg]; exact Nat.ne_of_lt (blk_lt (g := gb211) (o := .cells #[.bool false, .int .i64 0, .int .u64 0, .bool false] 78 (0, 0)) (bv BK211.out)) : gb211 ≠ gb212)); have n9_ := Aside0.mk (Ne.symm n8_.out); clear BK202; clear BK211; clear HB; have BK202 := n0_; have BK211 := n1_; have HB := n2_; have BK212 := n3_; have GW212 := n4_; have GE212 := n5_; have NB202_212 := n6_; have NB212_202 := n7_; have NB211_212 := n8_; have NB212_211 := n9_; clear n0_ n1_ n2_ n3_ n4_ n5_ n6_ n7_ n8_ n9_; clear hb hbox hg; have hnb11 := NB211_202.out; have hnc11 := NB202_211.out; have hnb12 := NB211_212.out; have hnc12 := NB212_211.out; obtain ⟨hcz13_0, hcz13_1, hcz13_2, hcz13_3⟩ := bc4 BK211.out; obtain ⟨hfz13_0, hfz13_1, hfz13_2, hfz13_3⟩ := bf4 BK211.out; have hnb14 := NB212_202.out; have hnc14 := NB202_212.out; obtain ⟨hcz15_0, hcz15_1, hcz15_2, hcz15_3⟩ := bc4 BK212.out; obtain ⟨hfz15_0, hfz15_1, hfz15_2, hfz15_3⟩ := bf4 BK212.out; obtain ⟨hcz16_0, hcz16_1, hcz16_2, hcz16_3⟩ := bc4 BK202.out; obtain ⟨hfz16_0, hfz16_1, hfz16_2, hfz16_3⟩ := bf4 BK202.out))
 refine bodyPost_ret (results_cell_row rfl _ _ gb202 78 #[.bool (t203 != t207), .int .i64 (wrap64 (t204 + t208)), .int .u64 (IntKind.u64.wrap (t205 * t209)), .bool false] (0, 0) _ rfl (by (with_reducible repeat first | apply bd | apply be | apply ba); refine blk_put (cs := #[.bool (t203 != t207), .int .i64 (wrap64 (t204 + t208)), .int .u64 (IntKind.u64.wrap (t205 * t209)), .bool false]) ?_ 3 _ rfl; (with_reducible repeat first | apply bd | apply be | apply ba); refine blk_put (cs := #[.bool (t203 != t207), .int .i64 (wrap64 (t204 + t208)), .int .u64 0, .bool false]) ?_ 2 _ rfl; (with_reducible repeat first | apply bd | apply be | apply ba); refine blk_put (cs := #[.bool (t203 != t207), .int .i64 0, .int .u64 0, .bool false]) ?_ 1 _ rfl; (with_reducible repeat first | apply bd | apply be | apply ba); refine blk_put (cs := #[.bool false, .int .i64 0, .int .u64 0, .bool false]) ?_ 0 _ rfl; (with_reducible repeat first | apply bd | apply be | apply ba); refine blk_far ?_ NB202_212.out _; (with_reducible repeat first | apply bd | apply be | apply ba); refine blk_far ?_ NB202_212.out _; (with_reducible repeat first | apply bd | apply be | apply ba); refine blk_far ?_ NB202_212.out _; (with_reducible repeat first | apply bd | apply be | apply ba); refine blk_far ?_ NB202_212.out _; (with_reducible repeat first | apply bd | apply be | apply ba); refine blk_far ?_ NB202_211.out _; (with_reducible repeat first | apply bd | apply be | apply ba); refine blk_far ?_ NB202_211.out _; (with_reducible repeat first | apply bd | apply be | apply ba); refine blk_far ?_ NB202_211.out _; (with_reducible repeat first | apply bd | apply be | apply ba); refine blk_far ?_ NB202_211.out _; (with_reducible repeat first | apply bd | apply be | apply ba); exact BK202.out) Tryz.underlying78 rfl (by kernel_rfl)) rfl ?_
 exact ⟨by first | rfl | (simp [bT, bU] <;> rfl) | (simp [*, bT, bU] <;> rfl), bl3 HB.out GE202.out GE211.out GE212.out⟩

-- NEED 0
/-! ### dM: function 89 -/
def dM.f (a0 : Int) (a1 : Bool) : Option (Int) := (cB.f a0 a1 0 0).bind fun t213 => (some t213)
theorem dM.calls (a0 : Int) (a1 : Bool) (r : Int) (w : World) (h : dM.f a0 a1 = some r) :
  Calls Tryz.prog 89 #[.int .i64 a0, .bool a1] w fun e w' => e = .returned (.int .u32 r) ∧ Drawn0 w w' := by
 have H : ((cB.f a0 a1 0 0).bind fun t213 => (some t213)) = some r := h
 clear h
 replace H := bq_ H
 obtain ⟨t213, A30, H⟩ := H
 replace H : (some t213) = some r := H
 have A3 := Aside0.mk A30
 clear A30
 obtain rfl := Option.some.inj H
 go_enter Tryz.func89, Tryz.ntmps89
 go_wp2_with (first | ((with_reducible refine gate_callee (f := 97) rfl ?_); refine goesL_ (some 7) rfl rfl Tryz.func97 (by kernel_rfl) rfl #[.int .i64 a0, .bool a1, .int .i64 0, .int .u32 0] rfl gl ?_; (with_reducible refine (cB.calls a0 a1 0 0 t213 _ A3.out).mono ?_); rintro e w' ⟨rfl, ⟨nd, rfl⟩⟩; refine ⟨_, rfl, ?_⟩))
 go_ret
 exact ⟨gr_, gd_⟩

-- NEED 0
/-! ### bits_Len64: function 112 -/
def bits_Len64.j0 : Nat → Int → Int → Option (Int)
 |0, _, _ => none
 |k + 1, x0, x2 => if x0 ≥ 65536 then (if (x0 / 65536) ≥ 256 then (if 0 ≤ (((x0 / 65536) / 256) % 256) then (if (((x0 / 65536) / 256) % 256) < 256 then (some (wrap64 ((wrap64 ((wrap64 (x2 + 16)) + 8)) + (wrap64 (bt (⟨#[0, 1, 2, 2, 3, 3, 3, 3, 4, 4, 4, 4, 4, 4, 4, 4, 5, 5, 5, 5, 5, 5, 5, 5, 5, 5, 5, 5, 5, 5, 5, 5, 6, 6, 6, 6, 6, 6, 6, 6, 6, 6, 6, 6, 6, 6, 6, 6, 6, 6, 6, 6, 6, 6, 6, 6, 6, 6, 6, 6, 6, 6, 6, 6, 7, 7, 7, 7, 7, 7, 7, 7, 7, 7, 7, 7, 7, 7, 7, 7, 7, 7, 7, 7, 7, 7, 7, 7, 7, 7, 7, 7, 7, 7, 7, 7, 7, 7, 7, 7, 7, 7, 7, 7, 7, 7, 7, 7, 7, 7, 7, 7, 7, 7, 7, 7, 7, 7, 7, 7, 7, 7, 7, 7, 7, 7, 7, 7, 8, 8, 8, 8, 8, 8, 8, 8, 8, 8, 8, 8, 8, 8, 8, 8, 8, 8, 8, 8, 8, 8, 8, 8, 8, 8, 8, 8, 8, 8, 8, 8, 8, 8, 8, 8, 8, 8, 8, 8, 8, 8, 8, 8, 8, 8, 8, 8, 8, 8, 8, 8, 8, 8, 8, 8, 8, 8, 8, 8, 8, 8, 8, 8, 8, 8, 8, 8, 8, 8, 8, 8, 8, 8, 8, 8, 8, 8, 8, 8, 8, 8, 8, 8, 8, 8, 8, 8, 8, 8, 8, 8, 8, 8, 8, 8, 8, 8, 8, 8, 8, 8, 8, 8, 8, 8, 8, 8, 8, 8, 8, 8, 8, 8, 8, 8, 8, 8, 8, 8, 8, 8, 8, 8, 8, 8, 8, 8]⟩ : ByteArray) (((x0 / 65536) / 256) % 256)))))) else (none)) else (none)) else (if 0 ≤ ((x0 / 65536) % 256) then (if ((x0 / 65536) % 256) < 256 then (some (wrap64 ((wrap64 (x2 + 16)) + (wrap64 (bt (⟨#[0, 1, 2, 2, 3, 3, 3, 3, 4, 4, 4, 4, 4, 4, 4, 4, 5, 5, 5, 5, 5, 5, 5, 5, 5, 5, 5, 5, 5, 5, 5, 5, 6, 6, 6, 6, 6, 6, 6, 6, 6, 6, 6, 6, 6, 6, 6, 6, 6, 6, 6, 6, 6, 6, 6, 6, 6, 6, 6, 6, 6, 6, 6, 6, 7, 7, 7, 7, 7, 7, 7, 7, 7, 7, 7, 7, 7, 7, 7, 7, 7, 7, 7, 7, 7, 7, 7, 7, 7, 7, 7, 7, 7, 7, 7, 7, 7, 7, 7, 7, 7, 7, 7, 7, 7, 7, 7, 7, 7, 7, 7, 7, 7, 7, 7, 7, 7, 7, 7, 7, 7, 7, 7, 7, 7, 7, 7, 7, 8, 8, 8, 8, 8, 8, 8, 8, 8, 8, 8, 8, 8, 8, 8, 8, 8, 8, 8, 8, 8, 8, 8, 8, 8, 8, 8, 8, 8, 8, 8, 8, 8, 8, 8, 8, 8, 8, 8, 8, 8, 8, 8, 8, 8, 8, 8, 8, 8, 8, 8, 8, 8, 8, 8, 8, 8, 8, 8, 8, 8, 8, 8, 8, 8, 8, 8, 8, 8, 8, 8, 8, 8, 8, 8, 8, 8, 8, 8, 8, 8, 8, 8, 8, 8, 8, 8, 8, 8, 8, 8, 8, 8, 8, 8, 8, 8, 8, 8, 8, 8, 8, 8, 8, 8, 8, 8, 8, 8, 8, 8, 8, 8, 8, 8, 8, 8, 8, 8, 8, 8, 8, 8, 8, 8, 8, 8, 8]⟩ : ByteArray) ((x0 / 65536) % 256)))))) else (none)) else (none))) else (if x0 ≥ 256 then (if 0 ≤ ((x0 / 256) % 256) then (if ((x0 / 256) % 256) < 256 then (some (wrap64 ((wrap64 (x2 + 8)) + (wrap64 (bt (⟨#[0, 1, 2, 2, 3, 3, 3, 3, 4, 4, 4, 4, 4, 4, 4, 4, 5, 5, 5, 5, 5, 5, 5, 5, 5, 5, 5, 5, 5, 5, 5, 5, 6, 6, 6, 6, 6, 6, 6, 6, 6, 6, 6, 6, 6, 6, 6, 6, 6, 6, 6, 6, 6, 6, 6, 6, 6, 6, 6, 6, 6, 6, 6, 6, 7, 7, 7, 7, 7, 7, 7, 7, 7, 7, 7, 7, 7, 7, 7, 7, 7, 7, 7, 7, 7, 7, 7, 7, 7, 7, 7, 7, 7, 7, 7, 7, 7, 7, 7, 7, 7, 7, 7, 7, 7, 7, 7, 7, 7, 7, 7, 7, 7, 7, 7, 7, 7, 7, 7, 7, 7, 7, 7, 7, 7, 7, 7, 7, 8, 8, 8, 8, 8, 8, 8, 8, 8, 8, 8, 8, 8, 8, 8, 8, 8, 8, 8, 8, 8, 8, 8, 8, 8, 8, 8, 8, 8, 8, 8, 8, 8, 8, 8, 8, 8, 8, 8, 8, 8, 8, 8, 8, 8, 8, 8, 8, 8, 8, 8, 8, 8, 8, 8, 8, 8, 8, 8, 8, 8, 8, 8, 8, 8, 8, 8, 8, 8, 8, 8, 8, 8, 8, 8, 8, 8, 8, 8, 8, 8, 8, 8, 8, 8, 8, 8, 8, 8, 8, 8, 8, 8, 8, 8, 8, 8, 8, 8, 8, 8, 8, 8, 8, 8, 8, 8, 8, 8, 8, 8, 8, 8, 8, 8, 8, 8, 8, 8, 8, 8, 8, 8, 8, 8, 8, 8, 8]⟩ : ByteArray) ((x0 / 256) % 256)))))) else (none)) else (none)) else (if 0 ≤ ((x0) % 256) then (if ((x0) % 256) < 256 then (some (wrap64 (x2 + (wrap64 (bt (⟨#[0, 1, 2, 2, 3, 3, 3, 3, 4, 4, 4, 4, 4, 4, 4, 4, 5, 5, 5, 5, 5, 5, 5, 5, 5, 5, 5, 5, 5, 5, 5, 5, 6, 6, 6, 6, 6, 6, 6, 6, 6, 6, 6, 6, 6, 6, 6, 6, 6, 6, 6, 6, 6, 6, 6, 6, 6, 6, 6, 6, 6, 6, 6, 6, 7, 7, 7, 7, 7, 7, 7, 7, 7, 7, 7, 7, 7, 7, 7, 7, 7, 7, 7, 7, 7, 7, 7, 7, 7, 7, 7, 7, 7, 7, 7, 7, 7, 7, 7, 7, 7, 7, 7, 7, 7, 7, 7, 7, 7, 7, 7, 7, 7, 7, 7, 7, 7, 7, 7, 7, 7, 7, 7, 7, 7, 7, 7, 7, 8, 8, 8, 8, 8, 8, 8, 8, 8, 8, 8, 8, 8, 8, 8, 8, 8, 8, 8, 8, 8, 8, 8, 8, 8, 8, 8, 8, 8, 8, 8, 8, 8, 8, 8, 8, 8, 8, 8, 8, 8, 8, 8, 8, 8, 8, 8, 8, 8, 8, 8, 8, 8, 8, 8, 8, 8, 8, 8, 8, 8, 8, 8, 8, 8, 8, 8, 8, 8, 8, 8, 8, 8, 8, 8, 8, 8, 8, 8, 8, 8, 8, 8, 8, 8, 8, 8, 8, 8, 8, 8, 8, 8, 8, 8, 8, 8, 8, 8, 8, 8, 8, 8, 8, 8, 8, 8, 8, 8, 8, 8, 8, 8, 8, 8, 8, 8, 8, 8, 8, 8, 8, 8, 8, 8, 8, 8, 8]⟩ : ByteArray) ((x0) % 256)))))) else (none)) else (none)))
def bits_Len64.f (k : Nat) (a0 : Int) : Option (Int) := if a0 ≥ 4294967296 then (bits_Len64.j0 k (a0 / 4294967296) 32) else (bits_Len64.j0 k a0 0)
theorem bits_Len64.fB : ∀ k, (∀ y0 y1, LeO (bits_Len64.j0 k y0 y1) (bits_Len64.j0 (k + 1) y0 y1))
 |0 => fun _ _ r h => by simp [bits_Len64.j0] at h
 |k + 1 => by
  have ih0 := bits_Len64.fB k
  ·intro y0 y1
   unfold bits_Len64.j0
   repeat' first
   |(with_reducible first|exact ih0 _ _|exact LeO.refl _|exact LeO.none _|refine LeO.ite ?_ ?_|refine LeO.bind ?_ (fun _ => ?_))
   |exact ih0 _ _
   |exact LeO.none _
   |refine LeO.ite ?_ ?_
   |refine LeO.bind ?_ (fun _ => ?_)
theorem bits_Len64.mono : ∀ a0 k, LeO (bits_Len64.f k a0) (bits_Len64.f (k + 1) a0) := by
 intro a0 k
 have ih0 := bits_Len64.fB k
 unfold bits_Len64.f
 repeat' first
   |(with_reducible first|exact ih0 _ _|exact LeO.refl _|exact LeO.none _|refine LeO.ite ?_ ?_|refine LeO.bind ?_ (fun _ => ?_))
   |exact ih0 _ _
   |exact LeO.none _
   |refine LeO.ite ?_ ?_
   |refine LeO.bind ?_ (fun _ => ?_)
theorem bits_Len64.calls (k : Nat) (a0 r : Int) (w : World) (h : bits_Len64.f k a0 = some r) :
  Calls Tryz.prog 112 #[.int .u64 a0] w fun e w' => e = .returned (.int .i64 r) ∧ Drawn0 w w' := by
 have H : (if a0 ≥ 4294967296 then (bits_Len64.j0 k (a0 / 4294967296) 32) else (bits_Len64.j0 k a0 0)) = some r := h
 clear h
 have HC2 := Aside0.mk H
 clear H
 go_enter Tryz.func112, Tryz.ntmps112
 go_upto_if 4 with (fail)
 go_cut [0, 2] (fun v0 v2 wc => ∃ (kq : Nat) (x0_1 : Int) (x2_1 : Int), v0 = .int .u64 x0_1 ∧ v2 = .int .i64 x2_1 ∧ Aside0 (bits_Len64.j0 kq x0_1 x2_1 = some r) ∧ Aside0 (kq ≤ k) ∧ Drawn0 w wc)
 case first =>
  have H := HC2.out
  clear HC2
  by_cases c3 : a0 ≥ 4294967296
  ·rw [if_pos c3] at H
   have c3b0 : decide (4294967296 ≤ a0) = true := decide_eq_true c3
   clear c3
   (first | rw [c3b0] | (simp only [i64_w, i32_w]; rw [c3b0]) | skip)
   have H' := Aside0.mk H
   clear H
   go_wp2
   go_meet
   case rel => exact ⟨_, (a0 / 4294967296), (32), (gr_), (gr_), H', ⟨by first | omega | exact Nat.le_refl _⟩, gd_⟩
  ·rw [if_neg c3] at H
   have c3b0 : decide (4294967296 ≤ a0) = false := decide_eq_false c3
   clear c3
   (first | rw [c3b0] | (simp only [i64_w, i32_w]; rw [c3b0]) | skip)
   have H' := Aside0.mk H
   clear H
   go_wp2
   go_meet
   case rel => exact ⟨_, (a0), (0), (gr_), (gr_), H', ⟨by first | omega | exact Nat.le_refl _⟩, gd_⟩
 case rest =>
  clear HC2
  try clear c1 p2 c3 c3b0
  obtain ⟨kq, x0_1, x2_1, rfl, rfl, HA, HJ1, ⟨mc1, rfl⟩⟩ := hcut
  cases kq with
  |zero => exact absurd HA.out (by simp [bits_Len64.j0])
  |succ kj1 =>
   have H := HA.out
   clear HA
   simp only [bits_Len64.j0] at H
   by_cases c4 : x0_1 ≥ 65536
   ·rw [if_pos c4] at H
    have c4b0 : decide (65536 ≤ x0_1) = true := decide_eq_true c4
    clear c4
    by_cases c5 : (x0_1 / 65536) ≥ 256
    ·rw [if_pos c5] at H
     have c5b0 : decide (256 ≤ (x0_1 / 65536)) = true := decide_eq_true c5
     clear c5
     obtain ⟨ji6, hji6⟩ : ∃ j_ : Int, (((x0_1 / 65536) / 256) % 256) = j_ := ⟨_, rfl⟩
     replace H : (if 0 ≤ (ji6) then (if (ji6) < 256 then (some (wrap64 ((wrap64 ((wrap64 (x2_1 + 16)) + 8)) + (wrap64 (bt (⟨#[0, 1, 2, 2, 3, 3, 3, 3, 4, 4, 4, 4, 4, 4, 4, 4, 5, 5, 5, 5, 5, 5, 5, 5, 5, 5, 5, 5, 5, 5, 5, 5, 6, 6, 6, 6, 6, 6, 6, 6, 6, 6, 6, 6, 6, 6, 6, 6, 6, 6, 6, 6, 6, 6, 6, 6, 6, 6, 6, 6, 6, 6, 6, 6, 7, 7, 7, 7, 7, 7, 7, 7, 7, 7, 7, 7, 7, 7, 7, 7, 7, 7, 7, 7, 7, 7, 7, 7, 7, 7, 7, 7, 7, 7, 7, 7, 7, 7, 7, 7, 7, 7, 7, 7, 7, 7, 7, 7, 7, 7, 7, 7, 7, 7, 7, 7, 7, 7, 7, 7, 7, 7, 7, 7, 7, 7, 7, 7, 8, 8, 8, 8, 8, 8, 8, 8, 8, 8, 8, 8, 8, 8, 8, 8, 8, 8, 8, 8, 8, 8, 8, 8, 8, 8, 8, 8, 8, 8, 8, 8, 8, 8, 8, 8, 8, 8, 8, 8, 8, 8, 8, 8, 8, 8, 8, 8, 8, 8, 8, 8, 8, 8, 8, 8, 8, 8, 8, 8, 8, 8, 8, 8, 8, 8, 8, 8, 8, 8, 8, 8, 8, 8, 8, 8, 8, 8, 8, 8, 8, 8, 8, 8, 8, 8, 8, 8, 8, 8, 8, 8, 8, 8, 8, 8, 8, 8, 8, 8, 8, 8, 8, 8, 8, 8, 8, 8, 8, 8, 8, 8, 8, 8, 8, 8, 8, 8, 8, 8, 8, 8, 8, 8, 8, 8, 8, 8]⟩ : ByteArray) (ji6)))))) else (none)) else (none)) = some r := by first | (rw [hji6] at H; exact H) | (simp only [hji6] at H ⊢; exact H)
     by_cases c7 : 0 ≤ (ji6)
     ·rw [if_pos c7] at H
      have c7b0 : decide (0 ≤ (ji6)) = true := decide_eq_true c7
      clear c7
      by_cases c8 : (ji6) < 256
      ·rw [if_pos c8] at H
       have c8b0 : decide ((ji6) < 256) = true := decide_eq_true c8
       clear c8
       obtain rfl := Option.some.inj H
       have p9 : 0 ≤ ((ji6) : Int) := of_decide_eq_true (by first | (with_reducible assumption) | assumption)
       have q9 : (ji6) < (256 : Int) := of_decide_eq_true (by first | (with_reducible assumption) | assumption)
       have hx9 := bt_at (⟨#[0, 1, 2, 2, 3, 3, 3, 3, 4, 4, 4, 4, 4, 4, 4, 4, 5, 5, 5, 5, 5, 5, 5, 5, 5, 5, 5, 5, 5, 5, 5, 5, 6, 6, 6, 6, 6, 6, 6, 6, 6, 6, 6, 6, 6, 6, 6, 6, 6, 6, 6, 6, 6, 6, 6, 6, 6, 6, 6, 6, 6, 6, 6, 6, 7, 7, 7, 7, 7, 7, 7, 7, 7, 7, 7, 7, 7, 7, 7, 7, 7, 7, 7, 7, 7, 7, 7, 7, 7, 7, 7, 7, 7, 7, 7, 7, 7, 7, 7, 7, 7, 7, 7, 7, 7, 7, 7, 7, 7, 7, 7, 7, 7, 7, 7, 7, 7, 7, 7, 7, 7, 7, 7, 7, 7, 7, 7, 7, 8, 8, 8, 8, 8, 8, 8, 8, 8, 8, 8, 8, 8, 8, 8, 8, 8, 8, 8, 8, 8, 8, 8, 8, 8, 8, 8, 8, 8, 8, 8, 8, 8, 8, 8, 8, 8, 8, 8, 8, 8, 8, 8, 8, 8, 8, 8, 8, 8, 8, 8, 8, 8, 8, 8, 8, 8, 8, 8, 8, 8, 8, 8, 8, 8, 8, 8, 8, 8, 8, 8, 8, 8, 8, 8, 8, 8, 8, 8, 8, 8, 8, 8, 8, 8, 8, 8, 8, 8, 8, 8, 8, 8, 8, 8, 8, 8, 8, 8, 8, 8, 8, 8, 8, 8, 8, 8, 8, 8, 8, 8, 8, 8, 8, 8, 8, 8, 8, 8, 8, 8, 8, 8, 8, 8, 8, 8, 8]⟩ : ByteArray) (ji6)
       replace p9 := eq_true p9
       replace q9 := eq_true q9
       go_wp2
       go_ret
       exact ⟨by first | rfl | (simp; done) | (simp only [← hji6] <;> (first | rfl | (simp; done))) | (simp [*]; done) | (congr 1; (try unfold wrap64); omega) | (congr 1; rw [IntKind.wrap_u64]; omega), gd_⟩
      ·rw [if_neg c8] at H
       exact absurd H (by simp)
     ·rw [if_neg c7] at H
      exact absurd H (by simp)
    ·rw [if_neg c5] at H
     have c5b0 : decide (256 ≤ (x0_1 / 65536)) = false := decide_eq_false c5
     clear c5
     obtain ⟨ji10, hji10⟩ : ∃ j_ : Int, ((x0_1 / 65536) % 256) = j_ := ⟨_, rfl⟩
     replace H : (if 0 ≤ (ji10) then (if (ji10) < 256 then (some (wrap64 ((wrap64 (x2_1 + 16)) + (wrap64 (bt (⟨#[0, 1, 2, 2, 3, 3, 3, 3, 4, 4, 4, 4, 4, 4, 4, 4, 5, 5, 5, 5, 5, 5, 5, 5, 5, 5, 5, 5, 5, 5, 5, 5, 6, 6, 6, 6, 6, 6, 6, 6, 6, 6, 6, 6, 6, 6, 6, 6, 6, 6, 6, 6, 6, 6, 6, 6, 6, 6, 6, 6, 6, 6, 6, 6, 7, 7, 7, 7, 7, 7, 7, 7, 7, 7, 7, 7, 7, 7, 7, 7, 7, 7, 7, 7, 7, 7, 7, 7, 7, 7, 7, 7, 7, 7, 7, 7, 7, 7, 7, 7, 7, 7, 7, 7, 7, 7, 7, 7, 7, 7, 7, 7, 7, 7, 7, 7, 7, 7, 7, 7, 7, 7, 7, 7, 7, 7, 7, 7, 8, 8, 8, 8, 8, 8, 8, 8, 8, 8, 8, 8, 8, 8, 8, 8, 8, 8, 8, 8, 8, 8, 8, 8, 8, 8, 8, 8, 8, 8, 8, 8, 8, 8, 8, 8, 8, 8, 8, 8, 8, 8, 8, 8, 8, 8, 8, 8, 8, 8, 8, 8, 8, 8, 8, 8, 8, 8, 8, 8, 8, 8, 8, 8, 8, 8, 8, 8, 8, 8, 8, 8, 8, 8, 8, 8, 8, 8, 8, 8, 8, 8, 8, 8, 8, 8, 8, 8, 8, 8, 8, 8, 8, 8, 8, 8, 8, 8, 8, 8, 8, 8, 8, 8, 8, 8, 8, 8, 8, 8, 8, 8, 8, 8, 8, 8, 8, 8, 8, 8, 8, 8, 8, 8, 8, 8, 8, 8]⟩ : ByteArray) (ji10)))))) else (none)) else (none)) = some r := by first | (rw [hji10] at H; exact H) | (simp only [hji10] at H ⊢; exact H)
     by_cases c11 : 0 ≤ (ji10)
     ·rw [if_pos c11] at H
      have c11b0 : decide (0 ≤ (ji10)) = true := decide_eq_true c11
      clear c11
      by_cases c12 : (ji10) < 256
      ·rw [if_pos c12] at H
       have c12b0 : decide ((ji10) < 256) = true := decide_eq_true c12
       clear c12
       obtain rfl := Option.some.inj H
       have p13 : 0 ≤ ((ji10) : Int) := of_decide_eq_true (by first | (with_reducible assumption) | assumption)
       have q13 : (ji10) < (256 : Int) := of_decide_eq_true (by first | (with_reducible assumption) | assumption)
       have hx13 := bt_at (⟨#[0, 1, 2, 2, 3, 3, 3, 3, 4, 4, 4, 4, 4, 4, 4, 4, 5, 5, 5, 5, 5, 5, 5, 5, 5, 5, 5, 5, 5, 5, 5, 5, 6, 6, 6, 6, 6, 6, 6, 6, 6, 6, 6, 6, 6, 6, 6, 6, 6, 6, 6, 6, 6, 6, 6, 6, 6, 6, 6, 6, 6, 6, 6, 6, 7, 7, 7, 7, 7, 7, 7, 7, 7, 7, 7, 7, 7, 7, 7, 7, 7, 7, 7, 7, 7, 7, 7, 7, 7, 7, 7, 7, 7, 7, 7, 7, 7, 7, 7, 7, 7, 7, 7, 7, 7, 7, 7, 7, 7, 7, 7, 7, 7, 7, 7, 7, 7, 7, 7, 7, 7, 7, 7, 7, 7, 7, 7, 7, 8, 8, 8, 8, 8, 8, 8, 8, 8, 8, 8, 8, 8, 8, 8, 8, 8, 8, 8, 8, 8, 8, 8, 8, 8, 8, 8, 8, 8, 8, 8, 8, 8, 8, 8, 8, 8, 8, 8, 8, 8, 8, 8, 8, 8, 8, 8, 8, 8, 8, 8, 8, 8, 8, 8, 8, 8, 8, 8, 8, 8, 8, 8, 8, 8, 8, 8, 8, 8, 8, 8, 8, 8, 8, 8, 8, 8, 8, 8, 8, 8, 8, 8, 8, 8, 8, 8, 8, 8, 8, 8, 8, 8, 8, 8, 8, 8, 8, 8, 8, 8, 8, 8, 8, 8, 8, 8, 8, 8, 8, 8, 8, 8, 8, 8, 8, 8, 8, 8, 8, 8, 8, 8, 8, 8, 8, 8, 8]⟩ : ByteArray) (ji10)
       replace p13 := eq_true p13
       replace q13 := eq_true q13
       go_wp2
       go_ret
       exact ⟨by first | rfl | (simp; done) | (simp only [← hji10] <;> (first | rfl | (simp; done))) | (simp [*]; done) | (congr 1; (try unfold wrap64); omega) | (congr 1; rw [IntKind.wrap_u64]; omega), gd_⟩
      ·rw [if_neg c12] at H
       exact absurd H (by simp)
     ·rw [if_neg c11] at H
      exact absurd H (by simp)
   ·rw [if_neg c4] at H
    have c4b0 : decide (65536 ≤ x0_1) = false := decide_eq_false c4
    clear c4
    by_cases c14 : x0_1 ≥ 256
    ·rw [if_pos c14] at H
     have c14b0 : decide (256 ≤ x0_1) = true := decide_eq_true c14
     clear c14
     obtain ⟨ji15, hji15⟩ : ∃ j_ : Int, ((x0_1 / 256) % 256) = j_ := ⟨_, rfl⟩
     replace H : (if 0 ≤ (ji15) then (if (ji15) < 256 then (some (wrap64 ((wrap64 (x2_1 + 8)) + (wrap64 (bt (⟨#[0, 1, 2, 2, 3, 3, 3, 3, 4, 4, 4, 4, 4, 4, 4, 4, 5, 5, 5, 5, 5, 5, 5, 5, 5, 5, 5, 5, 5, 5, 5, 5, 6, 6, 6, 6, 6, 6, 6, 6, 6, 6, 6, 6, 6, 6, 6, 6, 6, 6, 6, 6, 6, 6, 6, 6, 6, 6, 6, 6, 6, 6, 6, 6, 7, 7, 7, 7, 7, 7, 7, 7, 7, 7, 7, 7, 7, 7, 7, 7, 7, 7, 7, 7, 7, 7, 7, 7, 7, 7, 7, 7, 7, 7, 7, 7, 7, 7, 7, 7, 7, 7, 7, 7, 7, 7, 7, 7, 7, 7, 7, 7, 7, 7, 7, 7, 7, 7, 7, 7, 7, 7, 7, 7, 7, 7, 7, 7, 8, 8, 8, 8, 8, 8, 8, 8, 8, 8, 8, 8, 8, 8, 8, 8, 8, 8, 8, 8, 8, 8, 8, 8, 8, 8, 8, 8, 8, 8, 8, 8, 8, 8, 8, 8, 8, 8, 8, 8, 8, 8, 8, 8, 8, 8, 8, 8, 8, 8, 8, 8, 8, 8, 8, 8, 8, 8, 8, 8, 8, 8, 8, 8, 8, 8, 8, 8, 8, 8, 8, 8, 8, 8, 8, 8, 8, 8, 8, 8, 8, 8, 8, 8, 8, 8, 8, 8, 8, 8, 8, 8, 8, 8, 8, 8, 8, 8, 8, 8, 8, 8, 8, 8, 8, 8, 8, 8, 8, 8, 8, 8, 8, 8, 8, 8, 8, 8, 8, 8, 8, 8, 8, 8, 8, 8, 8, 8]⟩ : ByteArray) (ji15)))))) else (none)) else (none)) = some r := by first | (rw [hji15] at H; exact H) | (simp only [hji15] at H ⊢; exact H)
     by_cases c16 : 0 ≤ (ji15)
     ·rw [if_pos c16] at H
      have c16b0 : decide (0 ≤ (ji15)) = true := decide_eq_true c16
      clear c16
      by_cases c17 : (ji15) < 256
      ·rw [if_pos c17] at H
       have c17b0 : decide ((ji15) < 256) = true := decide_eq_true c17
       clear c17
       obtain rfl := Option.some.inj H
       have p18 : 0 ≤ ((ji15) : Int) := of_decide_eq_true (by first | (with_reducible assumption) | assumption)
       have q18 : (ji15) < (256 : Int) := of_decide_eq_true (by first | (with_reducible assumption) | assumption)
       have hx18 := bt_at (⟨#[0, 1, 2, 2, 3, 3, 3, 3, 4, 4, 4, 4, 4, 4, 4, 4, 5, 5, 5, 5, 5, 5, 5, 5, 5, 5, 5, 5, 5, 5, 5, 5, 6, 6, 6, 6, 6, 6, 6, 6, 6, 6, 6, 6, 6, 6, 6, 6, 6, 6, 6, 6, 6, 6, 6, 6, 6, 6, 6, 6, 6, 6, 6, 6, 7, 7, 7, 7, 7, 7, 7, 7, 7, 7, 7, 7, 7, 7, 7, 7, 7, 7, 7, 7, 7, 7, 7, 7, 7, 7, 7, 7, 7, 7, 7, 7, 7, 7, 7, 7, 7, 7, 7, 7, 7, 7, 7, 7, 7, 7, 7, 7, 7, 7, 7, 7, 7, 7, 7, 7, 7, 7, 7, 7, 7, 7, 7, 7, 8, 8, 8, 8, 8, 8, 8, 8, 8, 8, 8, 8, 8, 8, 8, 8, 8, 8, 8, 8, 8, 8, 8, 8, 8, 8, 8, 8, 8, 8, 8, 8, 8, 8, 8, 8, 8, 8, 8, 8, 8, 8, 8, 8, 8, 8, 8, 8, 8, 8, 8, 8, 8, 8, 8, 8, 8, 8, 8, 8, 8, 8, 8, 8, 8, 8, 8, 8, 8, 8, 8, 8, 8, 8, 8, 8, 8, 8, 8, 8, 8, 8, 8, 8, 8, 8, 8, 8, 8, 8, 8, 8, 8, 8, 8, 8, 8, 8, 8, 8, 8, 8, 8, 8, 8, 8, 8, 8, 8, 8, 8, 8, 8, 8, 8, 8, 8, 8, 8, 8, 8, 8, 8, 8, 8, 8, 8, 8]⟩ : ByteArray) (ji15)
       replace p18 := eq_true p18
       replace q18 := eq_true q18
       go_wp2
       go_ret
       exact ⟨by first | rfl | (simp; done) | (simp only [← hji15] <;> (first | rfl | (simp; done))) | (simp [*]; done) | (congr 1; (try unfold wrap64); omega) | (congr 1; rw [IntKind.wrap_u64]; omega), gd_⟩
      ·rw [if_neg c17] at H
       exact absurd H (by simp)
     ·rw [if_neg c16] at H
      exact absurd H (by simp)
    ·rw [if_neg c14] at H
     have c14b0 : decide (256 ≤ x0_1) = false := decide_eq_false c14
     clear c14
     obtain ⟨ji19, hji19⟩ : ∃ j_ : Int, ((x0_1) % 256) = j_ := ⟨_, rfl⟩
     replace H : (if 0 ≤ (ji19) then (if (ji19) < 256 then (some (wrap64 (x2_1 + (wrap64 (bt (⟨#[0, 1, 2, 2, 3, 3, 3, 3, 4, 4, 4, 4, 4, 4, 4, 4, 5, 5, 5, 5, 5, 5, 5, 5, 5, 5, 5, 5, 5, 5, 5, 5, 6, 6, 6, 6, 6, 6, 6, 6, 6, 6, 6, 6, 6, 6, 6, 6, 6, 6, 6, 6, 6, 6, 6, 6, 6, 6, 6, 6, 6, 6, 6, 6, 7, 7, 7, 7, 7, 7, 7, 7, 7, 7, 7, 7, 7, 7, 7, 7, 7, 7, 7, 7, 7, 7, 7, 7, 7, 7, 7, 7, 7, 7, 7, 7, 7, 7, 7, 7, 7, 7, 7, 7, 7, 7, 7, 7, 7, 7, 7, 7, 7, 7, 7, 7, 7, 7, 7, 7, 7, 7, 7, 7, 7, 7, 7, 7, 8, 8, 8, 8, 8, 8, 8, 8, 8, 8, 8, 8, 8, 8, 8, 8, 8, 8, 8, 8, 8, 8, 8, 8, 8, 8, 8, 8, 8, 8, 8, 8, 8, 8, 8, 8, 8, 8, 8, 8, 8, 8, 8, 8, 8, 8, 8, 8, 8, 8, 8, 8, 8, 8, 8, 8, 8, 8, 8, 8, 8, 8, 8, 8, 8, 8, 8, 8, 8, 8, 8, 8, 8, 8, 8, 8, 8, 8, 8, 8, 8, 8, 8, 8, 8, 8, 8, 8, 8, 8, 8, 8, 8, 8, 8, 8, 8, 8, 8, 8, 8, 8, 8, 8, 8, 8, 8, 8, 8, 8, 8, 8, 8, 8, 8, 8, 8, 8, 8, 8, 8, 8, 8, 8, 8, 8, 8, 8]⟩ : ByteArray) (ji19)))))) else (none)) else (none)) = some r := by first | (rw [hji19] at H; exact H) | (simp only [hji19] at H ⊢; exact H)
     by_cases c20 : 0 ≤ (ji19)
     ·rw [if_pos c20] at H
      have c20b0 : decide (0 ≤ (ji19)) = true := decide_eq_true c20
      clear c20
      by_cases c21 : (ji19) < 256
      ·rw [if_pos c21] at H
       have c21b0 : decide ((ji19) < 256) = true := decide_eq_true c21
       clear c21
       obtain rfl := Option.some.inj H
       have p22 : 0 ≤ ((ji19) : Int) := of_decide_eq_true (by first | (with_reducible assumption) | assumption)
       have q22 : (ji19) < (256 : Int) := of_decide_eq_true (by first | (with_reducible assumption) | assumption)
       have hx22 := bt_at (⟨#[0, 1, 2, 2, 3, 3, 3, 3, 4, 4, 4, 4, 4, 4, 4, 4, 5, 5, 5, 5, 5, 5, 5, 5, 5, 5, 5, 5, 5, 5, 5, 5, 6, 6, 6, 6, 6, 6, 6, 6, 6, 6, 6, 6, 6, 6, 6, 6, 6, 6, 6, 6, 6, 6, 6, 6, 6, 6, 6, 6, 6, 6, 6, 6, 7, 7, 7, 7, 7, 7, 7, 7, 7, 7, 7, 7, 7, 7, 7, 7, 7, 7, 7, 7, 7, 7, 7, 7, 7, 7, 7, 7, 7, 7, 7, 7, 7, 7, 7, 7, 7, 7, 7, 7, 7, 7, 7, 7, 7, 7, 7, 7, 7, 7, 7, 7, 7, 7, 7, 7, 7, 7, 7, 7, 7, 7, 7, 7, 8, 8, 8, 8, 8, 8, 8, 8, 8, 8, 8, 8, 8, 8, 8, 8, 8, 8, 8, 8, 8, 8, 8, 8, 8, 8, 8, 8, 8, 8, 8, 8, 8, 8, 8, 8, 8, 8, 8, 8, 8, 8, 8, 8, 8, 8, 8, 8, 8, 8, 8, 8, 8, 8, 8, 8, 8, 8, 8, 8, 8, 8, 8, 8, 8, 8, 8, 8, 8, 8, 8, 8, 8, 8, 8, 8, 8, 8, 8, 8, 8, 8, 8, 8, 8, 8, 8, 8, 8, 8, 8, 8, 8, 8, 8, 8, 8, 8, 8, 8, 8, 8, 8, 8, 8, 8, 8, 8, 8, 8, 8, 8, 8, 8, 8, 8, 8, 8, 8, 8, 8, 8, 8, 8, 8, 8, 8, 8]⟩ : ByteArray) (ji19)
       replace p22 := eq_true p22
       replace q22 := eq_true q22
       go_wp2
       go_ret
       exact ⟨by first | rfl | (simp; done) | (simp only [← hji19] <;> (first | rfl | (simp; done))) | (simp [*]; done) | (congr 1; (try unfold wrap64); omega) | (congr 1; rw [IntKind.wrap_u64]; omega), gd_⟩
      ·rw [if_neg c21] at H
       exact absurd H (by simp)
     ·rw [if_neg c20] at H
      exact absurd H (by simp)

-- NEED 0
/-! ### bits_Len: function 96 -/
def bits_Len.f (k : Nat) (a0 : Int) : Option (Int) := (bits_Len64.f k a0).bind fun t214 => (some t214)
theorem bits_Len.mono : ∀ a0 k, LeO (bits_Len.f k a0) (bits_Len.f (k + 1) a0) := by
 intro a0 k
 unfold bits_Len.f
 repeat' first
   |(with_reducible first|exact bits_Len64.mono _ _|exact LeO.refl _|exact LeO.none _|refine LeO.ite ?_ ?_|refine LeO.bind ?_ (fun _ => ?_))
   |exact bits_Len64.mono _ _
   |exact LeO.none _
   |refine LeO.ite ?_ ?_
   |refine LeO.bind ?_ (fun _ => ?_)
theorem bits_Len.calls (k : Nat) (a0 r : Int) (w : World) (h : bits_Len.f k a0 = some r) :
  Calls Tryz.prog 96 #[.int .u64 a0] w fun e w' => e = .returned (.int .i64 r) ∧ Drawn0 w w' := by
 have H : ((bits_Len64.f k a0).bind fun t214 => (some t214)) = some r := h
 clear h
 replace H := bq_ H
 obtain ⟨t214, A20, H⟩ := H
 replace H : (some t214) = some r := H
 have A2 := Aside0.mk A20
 clear A20
 obtain rfl := Option.some.inj H
 go_enter Tryz.func96, Tryz.ntmps96
 go_wp2_with (first | ((with_reducible refine gate_callee (f := 112) rfl ?_); refine goesL_ (some 4) rfl rfl Tryz.func112 (by kernel_rfl) rfl #[.int .u64 a0] rfl gl ?_; (with_reducible refine (bits_Len64.calls k a0 t214 _ A2.out).mono ?_); rintro e w' ⟨rfl, ⟨nd, rfl⟩⟩; refine ⟨_, rfl, ?_⟩))
 go_ret
 exact ⟨gr_, gd_⟩

end Go.Proofs.YtfapjegkilljnaaGreat.P
