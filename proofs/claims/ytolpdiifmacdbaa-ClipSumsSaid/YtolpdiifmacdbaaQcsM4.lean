import Derived.Test.YtolpdiifmacdbaaQcsZ
import Derived.Test.YtolpdiifmacdbaaProg
import Derived.Below
import Derived.Deep.Draws
import Derived.Deep.AppendLies
import Derived.Maps.AppendAt
import Derived.OwnWalk
import Derived.Laws.BytesArg
import Derived.Laws.MakeOwn
import Derived.Laws.OwnMore
import Derived.Deep.OwnRows
import Derived.Tactics
import Derived.Lib.ConvBytes
import Derived.Laws.Slices
import Derived.WalkKit
import Derived.KernelRfl
import Derived.RowKit3
import Derived.Deep.LoopGhost
import Derived.Deep.QuietTactic
import Derived.BigQuiet
import Derived.WideLaws
import Derived.Deep.DeepCutAuto
import Derived.Deep.CutBlock
import Derived.Deep.RegionHeld3
import Derived.Laws.Rows
import Derived.Lib.AppendStr
import Derived.ArgAppend
import Derived.Laws.IdiomCopy
import Derived.OrdersHeld
import Derived.Laws.BitsLemmas
import Derived.RowKit
import Derived.ChangeKeysEq
import Derived.Test.YtolpdiifmacdbaaQcsWWords
import Derived.Test.YtolpdiifmacdbaaQcsWLast
import Derived.Test.YtolpdiifmacdbaaQcsWTab
import Derived.Test.YtolpdiifmacdbaaQcsWFour
import Derived.Test.YtolpdiifmacdbaaQcsWQPut
import Derived.Test.YtolpdiifmacdbaaQcsWApart
import Derived.Test.YtolpdiifmacdbaaQcsWArr
import Derived.Test.YtolpdiifmacdbaaQcsWZeros
import Derived.Test.YtolpdiifmacdbaaQcsWFoot
import Derived.Test.YtolpdiifmacdbaaQcsWKept
import Derived.Test.YtolpdiifmacdbaaQcsWShare
import Derived.Test.YtolpdiifmacdbaaQcsWN
import Derived.Test.YtolpdiifmacdbaaQcsWFootNe
import Derived.Test.YtolpdiifmacdbaaQcsWAt
import Derived.Test.YtolpdiifmacdbaaQcsWEqStruct
import Derived.Test.YtolpdiifmacdbaaQcsWRepsOne
import Derived.Test.YtolpdiifmacdbaaQcsWInv
import Derived.Test.YtolpdiifmacdbaaQcsWInvWords
import Derived.Test.YtolpdiifmacdbaaQcsWGuard
import Derived.Test.YtolpdiifmacdbaaQcsWNEv
import Derived.Test.YtolpdiifmacdbaaQcsWMore
import Derived.Test.YtolpdiifmacdbaaQcsM3
-- Printed by a program of this session's out of Lean's print of the translation; Lean checks it.
set_option linter.unusedVariables false
set_option linter.unusedSimpArgs false
set_option maxRecDepth 100000
set_option maxHeartbeats 8000000
namespace Go.Proofs.Ytolpdiifmacdbaa.P
open Go.RowKit Go.Proofs.YtolpdiifmacdbaaW.PrintWords Go.Proofs.YtolpdiifmacdbaaW.PrintLast Go.Proofs.YtolpdiifmacdbaaW.PrintMore
attribute [local go_sem] max2_int min2_int max_two min_two max_three min_three max_four min_four

theorem jY (n : Int) : IntKind.u32.wrap n = n % 4294967296 := IntKind.wrap_u32 n



def errW : Option Int → Value
 |none => .nilIface
 |some c => .iface 0 (.int .i64 c)
theorem bQ : errW none = .nilIface := rfl
theorem bP (c : Int) : errW (some c) = .iface 0 (.int .i64 c) := rfl

theorem info34 : (Try.prog.info? 34).map (fun i => (i.zero, i.size, i.bytes)) = some (some (.agg #[(.int .i64 0), (.int .i64 0), (.int .i64 0), (.slice none 0 0), (.int .i64 0), (.int .i64 0), (.int .i64 0), (.slice none 0 0)]), 8, 96) := by kernel_rfl
theorem xC : (Try.prog.info? 35).map (fun i => (i.zero, i.size, i.bytes)) = some (some (.int .u32 0), 1, 4) := by kernel_rfl
-- the values' own types
/-! #### struct type 32 -/
structure S32 where
 f0 : Int
 f1 : Int
 f2 : Int
 f3 : (List Int)
def k32 : Kd S32 := Kd.iso (Kd.pair (Kd.int .i64) (Kd.pair (Kd.int .i64) (Kd.pair (Kd.int .i64) (Kd.slice 35 (Kd.int .u32))))) (fun x : S32 => (x.f0, x.f1, x.f2, x.f3))
theorem qO {w : World} {base : Nat} {ok : Nat → Prop} {x : S32} {cs : List Value} (h : k32.M w base ok x cs) : ∃ v3, cs = [.int .i64 x.f0, .int .i64 x.f1, .int .i64 x.f2, v3] ∧ (Kd.int .u32).R 35 w base ok v3 x.f3 := by
 obtain ⟨_, _, rfl, rfl, ⟨_, _, rfl, rfl, ⟨_, _, rfl, rfl, ⟨v3, rfl, g3⟩⟩⟩⟩ := h
 exact ⟨v3, rfl, g3⟩
theorem wU (w : World) (base : Nat) (ok : Nat → Prop) (x : S32) {v3 : Value} (g3 : (Kd.int .u32).R 35 w base ok v3 x.f3) : k32.M w base ok x [.int .i64 x.f0, .int .i64 x.f1, .int .i64 x.f2, v3] := ⟨[.int .i64 x.f0], [.int .i64 x.f1, .int .i64 x.f2, v3], rfl, rfl, ⟨[.int .i64 x.f1], [.int .i64 x.f2, v3], rfl, rfl, ⟨[.int .i64 x.f2], [v3], rfl, rfl, ⟨v3, rfl, g3⟩⟩⟩⟩
/-! #### struct type 34 -/
structure S34 where
 f0 : S32
 f1 : S32
def k34 : Kd S34 := Kd.iso (Kd.pair k32 k32) (fun x : S34 => (x.f0, x.f1))
theorem yR {w : World} {base : Nat} {ok : Nat → Prop} {x : S34} {cs : List Value} (h : k34.M w base ok x cs) : ∃ v3 v7, cs = [.int .i64 x.f0.f0, .int .i64 x.f0.f1, .int .i64 x.f0.f2, v3, .int .i64 x.f1.f0, .int .i64 x.f1.f1, .int .i64 x.f1.f2, v7] ∧ (Kd.int .u32).R 35 w base ok v3 x.f0.f3 ∧ (Kd.int .u32).R 35 w base ok v7 x.f1.f3 := by
 obtain ⟨_, _, rfl, s0, s4⟩ := h
 obtain ⟨v3, rfl, g3⟩ := qO s0
 obtain ⟨v7, rfl, g7⟩ := qO s4
 exact ⟨v3, v7, rfl, g3, g7⟩
theorem k34_mkM (w : World) (base : Nat) (ok : Nat → Prop) (x : S34) {v3 : Value} (g3 : (Kd.int .u32).R 35 w base ok v3 x.f0.f3) {v7 : Value} (g7 : (Kd.int .u32).R 35 w base ok v7 x.f1.f3) : k34.M w base ok x [.int .i64 x.f0.f0, .int .i64 x.f0.f1, .int .i64 x.f0.f2, v3, .int .i64 x.f1.f0, .int .i64 x.f1.f1, .int .i64 x.f1.f2, v7] := ⟨[.int .i64 x.f0.f0, .int .i64 x.f0.f1, .int .i64 x.f0.f2, v3], [.int .i64 x.f1.f0, .int .i64 x.f1.f1, .int .i64 x.f1.f2, v7], rfl, (wU w base ok x.f0 g3), (wU w base ok x.f1 g7)⟩

-- NOT PRINTED: function 39 (annealref17_copied)

-- NOT PRINTED: function 27 (annealref17_Copy)

-- NOT PRINTED: function 13 (annealref17_Noughts)

-- NEED 0
/-! ### aR: function 83 -/
def aR.f (a0 : Int) : Option (Int × Int) := if a0 = 0 then (some (5, 10)) else (if a0 = 1 then (some (8, 7)) else (some (8, 23)))
theorem aR.calls (a0 r1 r2 : Int) (w : World) (h : aR.f a0 = some (r1, r2)) :
  Calls Try.prog 83 #[.int .i64 a0] w fun e w' => e = .returned (.tuple #[.int .i64 r1, .int .i64 r2]) ∧ Drawn0 w w' := by
 have H : (if a0 = 0 then (some (5, 10)) else (if a0 = 1 then (some (8, 7)) else (some (8, 23)))) = some (r1, r2) := h
 clear h
 by_cases c2 : a0 = 0
 ·rw [if_pos c2] at H
  have c2b0 : (a0 == 0) = true := beq_iff_eq.mpr c2
  have c2b1 : (a0 != 0) = false := bne_eq_false_iff_eq.mpr c2
  clear c2
  simp only [Option.some.injEq, Prod.mk.injEq] at H
  obtain ⟨rfl, rfl⟩ := H
  go_enter Try.func83, Try.ntmps83
  go_wp2
  go_ret2
  exact ⟨gr_, gd_⟩
 ·rw [if_neg c2] at H
  have c2b0 : (a0 == 0) = false := beq_eq_false_iff_ne.mpr c2
  have c2b1 : (a0 != 0) = true := bne_iff_ne.mpr c2
  by_cases c3 : a0 = 1
  ·rw [if_pos c3] at H
   have c3b0 : (a0 == 1) = true := beq_iff_eq.mpr c3
   have c3b1 : (a0 != 1) = false := bne_eq_false_iff_eq.mpr c3
   clear c3
   simp only [Option.some.injEq, Prod.mk.injEq] at H
   obtain ⟨rfl, rfl⟩ := H
   go_enter Try.func83, Try.ntmps83
   go_wp2
   go_ret2
   exact ⟨gr_, gd_⟩
  ·rw [if_neg c3] at H
   have c3b0 : (a0 == 1) = false := beq_eq_false_iff_ne.mpr c3
   have c3b1 : (a0 != 1) = true := bne_iff_ne.mpr c3
   simp only [Option.some.injEq, Prod.mk.injEq] at H
   obtain ⟨rfl, rfl⟩ := H
   go_enter Try.func83, Try.ntmps83
   go_wp2
   go_ret2
   exact ⟨gr_, gd_⟩

-- NEED 0
/-! ### bK: function 68 -/
def bK.f (a0 : Int) : Option (Int) := (aR.f a0).bind fun bt164 => (if 0 ≤ (IntKind.u64.wrap (bt164.1)) then (some (wrap64 ((shl .i64 1 (IntKind.u64.wrap (bt164.1))) - 1))) else (none))
theorem bK.calls (a0 r : Int) (w : World) (h : bK.f a0 = some r) :
  Calls Try.prog 68 #[.int .i64 a0] w fun e w' => e = .returned (.int .i64 r) ∧ Drawn0 w w' := by
 have H : ((aR.f a0).bind fun bt164 => (if 0 ≤ (IntKind.u64.wrap (bt164.1)) then (some (wrap64 ((shl .i64 1 (IntKind.u64.wrap (bt164.1))) - 1))) else (none))) = some r := h
 clear h
 replace H := bq_ H
 obtain ⟨⟨t164, t165⟩, A20, H⟩ := H
 replace H : (if 0 ≤ (IntKind.u64.wrap (t164)) then (some (wrap64 ((shl .i64 1 (IntKind.u64.wrap (t164))) - 1))) else (none)) = some r := H
 have A2 := Aside0.mk A20
 clear A20
 obtain ⟨ji3, hji3⟩ : ∃ j_ : Int, (IntKind.u64.wrap (t164)) = j_ := ⟨_, rfl⟩
 replace H : (if 0 ≤ (ji3) then (some (wrap64 ((shl .i64 1 (ji3)) - 1))) else (none)) = some r := by first | (rw [hji3] at H; exact H) | (simp only [hji3] at H ⊢; exact H)
 (try rw [hji3] at A2)
 by_cases c4 : 0 ≤ (ji3)
 ·rw [if_pos c4] at H
  have c4b0 := eq_true c4
  have c4b1 : decide (0 ≤ (ji3)) = true := decide_eq_true c4
  clear c4
  obtain ⟨ji5, hji5⟩ : ∃ j_ : Int, (shl .i64 1 (ji3)) = j_ := ⟨_, rfl⟩
  replace H : (some (wrap64 ((ji5) - 1))) = some r := by first | (rw [hji5] at H; exact H) | (simp only [hji5] at H ⊢; exact H)
  (try rw [hji5] at A2)
  have hji5_ : (IntKind.i64.wrap (1 * 2 ^ min (ji3).toNat 64)) = ji5 := hji5
  have hji5z : (ji3) ≤ 64 → (IntKind.i64.wrap (1 * 2 ^ (ji3).toNat)) = ji5 := shl_small hji5
  have hji5u : (IntKind.i64.wrap (2 ^ min (ji3).toNat 64)) = ji5 := by have h_ := hji5_; rw [Int.one_mul] at h_; exact h_
  have hji5v : (ji3) ≤ 64 → (IntKind.i64.wrap (2 ^ (ji3).toNat)) = ji5 := fun hle_ => by have h_ := hji5z hle_; rw [Int.one_mul] at h_; exact h_
  have hji5y : (wrap64 (1 * 2 ^ min (ji3).toNat 64)) = ji5 := (i64_w _).symm.trans hji5_
  have hji5x : (ji3) ≤ 64 → (wrap64 (1 * 2 ^ (ji3).toNat)) = ji5 := fun h_ => (i64_w _).symm.trans (hji5z h_)
  obtain rfl := Option.some.inj H
  go_enter Try.func68, Try.ntmps68
  go_wp2_with (first | ((with_reducible refine gate_callee (f := 83) rfl ?_); refine goesL_ (some 7) rfl rfl Try.func83 (by kernel_rfl) rfl #[.int .i64 a0] rfl gl ?_; (with_reducible refine (aR.calls a0 t164 t165 _ A2.out).mono ?_); rintro e w' ⟨rfl, ⟨nd, rfl⟩⟩; refine ⟨_, rfl, ?_⟩))
  go_ret
  exact ⟨by first | rfl | (simp; done) | (simp only [← hji3, ← hji5] <;> (first | rfl | (simp; done))) | (simp [*]; done) | (congr 1; (try unfold wrap64); omega) | (congr 1; rw [IntKind.wrap_u64]; omega), gd_⟩
 ·rw [if_neg c4] at H
  exact absurd H (by simp)

-- NEED 0
/-! ### aX: function 108 -/
def aX.f (a0 : Int) (a1 : Bool) (a2 a3 : Int) : Option (Int) := (aR.f a0).bind fun bt166 => (if 0 ≤ (IntKind.u64.wrap (bt166.2)) then (if a1 = true then (if 0 ≤ (IntKind.u64.wrap (wrap64 (bt166.1 + bt166.2))) then (some (Go.bits .or .u32 (Go.bits .or .u32 (shl .u32 ((a2) % 4294967296) (IntKind.u64.wrap (bt166.2))) a3) (shl .u32 1 (IntKind.u64.wrap (wrap64 (bt166.1 + bt166.2)))))) else (none)) else (some (Go.bits .or .u32 (shl .u32 ((a2) % 4294967296) (IntKind.u64.wrap (bt166.2))) a3))) else (none))
theorem aX.calls (a0 : Int) (a1 : Bool) (a2 a3 r : Int) (w : World) (h : aX.f a0 a1 a2 a3 = some r) :
  Calls Try.prog 108 #[.int .i64 a0, .bool a1, .int .i64 a2, .int .u32 a3] w fun e w' => e = .returned (.int .u32 r) ∧ Drawn0 w w' := by
 have H : ((aR.f a0).bind fun bt166 => (if 0 ≤ (IntKind.u64.wrap (bt166.2)) then (if a1 = true then (if 0 ≤ (IntKind.u64.wrap (wrap64 (bt166.1 + bt166.2))) then (some (Go.bits .or .u32 (Go.bits .or .u32 (shl .u32 ((a2) % 4294967296) (IntKind.u64.wrap (bt166.2))) a3) (shl .u32 1 (IntKind.u64.wrap (wrap64 (bt166.1 + bt166.2)))))) else (none)) else (some (Go.bits .or .u32 (shl .u32 ((a2) % 4294967296) (IntKind.u64.wrap (bt166.2))) a3))) else (none))) = some r := h
 clear h
 replace H := bq_ H
 obtain ⟨⟨t166, t167⟩, A50, H⟩ := H
 replace H : (if 0 ≤ (IntKind.u64.wrap (t167)) then (if a1 = true then (if 0 ≤ (IntKind.u64.wrap (wrap64 (t166 + t167))) then (some (Go.bits .or .u32 (Go.bits .or .u32 (shl .u32 ((a2) % 4294967296) (IntKind.u64.wrap (t167))) a3) (shl .u32 1 (IntKind.u64.wrap (wrap64 (t166 + t167)))))) else (none)) else (some (Go.bits .or .u32 (shl .u32 ((a2) % 4294967296) (IntKind.u64.wrap (t167))) a3))) else (none)) = some r := H
 have A5 := Aside0.mk A50
 clear A50
 obtain ⟨ji6, hji6⟩ : ∃ j_ : Int, (IntKind.u64.wrap (t167)) = j_ := ⟨_, rfl⟩
 replace H : (if 0 ≤ (ji6) then (if a1 = true then (if 0 ≤ (IntKind.u64.wrap (wrap64 (t166 + t167))) then (some (Go.bits .or .u32 (Go.bits .or .u32 (shl .u32 ((a2) % 4294967296) (ji6)) a3) (shl .u32 1 (IntKind.u64.wrap (wrap64 (t166 + t167)))))) else (none)) else (some (Go.bits .or .u32 (shl .u32 ((a2) % 4294967296) (ji6)) a3))) else (none)) = some r := by first | (rw [hji6] at H; exact H) | (simp only [hji6] at H ⊢; exact H)
 (try rw [hji6] at A5)
 by_cases c7 : 0 ≤ (ji6)
 ·rw [if_pos c7] at H
  have c7b0 := eq_true c7
  have c7b1 : decide (0 ≤ (ji6)) = true := decide_eq_true c7
  clear c7
  obtain ⟨ji8, hji8⟩ : ∃ j_ : Int, (shl .u32 ((a2) % 4294967296) (ji6)) = j_ := ⟨_, rfl⟩
  replace H : (if a1 = true then (if 0 ≤ (IntKind.u64.wrap (wrap64 (t166 + t167))) then (some (Go.bits .or .u32 (Go.bits .or .u32 (ji8) a3) (shl .u32 1 (IntKind.u64.wrap (wrap64 (t166 + t167)))))) else (none)) else (some (Go.bits .or .u32 (ji8) a3))) = some r := by first | (rw [hji8] at H; exact H) | (simp only [hji8] at H ⊢; exact H)
  (try rw [hji8] at A5)
  have hji8_ : (IntKind.u32.wrap (((a2) % 4294967296) * 2 ^ min (ji6).toNat 32)) = ji8 := hji8
  have hji8z : (ji6) ≤ 32 → (IntKind.u32.wrap (((a2) % 4294967296) * 2 ^ (ji6).toNat)) = ji8 := shl_small hji8
  by_cases c9 : a1 = true
  ·subst c9
   have H1 : (if 0 ≤ (IntKind.u64.wrap (wrap64 (t166 + t167))) then (some (Go.bits .or .u32 (Go.bits .or .u32 (ji8) a3) (shl .u32 1 (IntKind.u64.wrap (wrap64 (t166 + t167)))))) else (none)) = some r := by rw [if_pos rfl] at H; exact H
   clear H
   have H := H1
   clear H1
   obtain ⟨ji10, hji10⟩ : ∃ j_ : Int, (IntKind.u64.wrap (wrap64 (t166 + t167))) = j_ := ⟨_, rfl⟩
   replace H : (if 0 ≤ (ji10) then (some (Go.bits .or .u32 (Go.bits .or .u32 (ji8) a3) (shl .u32 1 (ji10)))) else (none)) = some r := by first | (rw [hji10] at H; exact H) | (simp only [hji10] at H ⊢; exact H)
   (try rw [hji10] at A5)
   by_cases c11 : 0 ≤ (ji10)
   ·rw [if_pos c11] at H
    have c11b0 := eq_true c11
    have c11b1 : decide (0 ≤ (ji10)) = true := decide_eq_true c11
    clear c11
    obtain ⟨ji12, hji12⟩ : ∃ j_ : Int, (shl .u32 1 (ji10)) = j_ := ⟨_, rfl⟩
    replace H : (some (Go.bits .or .u32 (Go.bits .or .u32 (ji8) a3) (ji12))) = some r := by first | (rw [hji12] at H; exact H) | (simp only [hji12] at H ⊢; exact H)
    (try rw [hji12] at A5)
    have hji12_ : (IntKind.u32.wrap (1 * 2 ^ min (ji10).toNat 32)) = ji12 := hji12
    have hji12z : (ji10) ≤ 32 → (IntKind.u32.wrap (1 * 2 ^ (ji10).toNat)) = ji12 := shl_small hji12
    have hji12u : (IntKind.u32.wrap (2 ^ min (ji10).toNat 32)) = ji12 := by have h_ := hji12_; rw [Int.one_mul] at h_; exact h_
    have hji12v : (ji10) ≤ 32 → (IntKind.u32.wrap (2 ^ (ji10).toNat)) = ji12 := fun hle_ => by have h_ := hji12z hle_; rw [Int.one_mul] at h_; exact h_
    obtain rfl := Option.some.inj H
    go_enter Try.func108, Try.ntmps108
    go_wp2_with (first | ((with_reducible refine gate_callee (f := 83) rfl ?_); refine goesL_ (some 14) rfl rfl Try.func83 (by kernel_rfl) rfl #[.int .i64 a0] rfl gl ?_; (with_reducible refine (aR.calls a0 t166 t167 _ A5.out).mono ?_); rintro e w' ⟨rfl, ⟨nd, rfl⟩⟩; refine ⟨_, rfl, ?_⟩))
    go_ret
    exact ⟨by first | rfl | (simp; done) | (simp only [← hji6, ← hji8, ← hji10, ← hji12] <;> (first | rfl | (simp; done))) | (simp [*]; done) | (congr 1; (try unfold wrap64); omega) | (congr 1; rw [IntKind.wrap_u64]; omega), gd_⟩
   ·rw [if_neg c11] at H
    exact absurd H (by simp)
  ·replace c9 := Bool.eq_false_iff.mpr c9
   subst c9
   have H1 : (some (Go.bits .or .u32 (ji8) a3)) = some r := by rw [if_neg (show ¬ (false = true) by decide)] at H; exact H
   clear H
   have H := H1
   clear H1
   obtain rfl := Option.some.inj H
   go_enter Try.func108, Try.ntmps108
   go_wp2_with (first | ((with_reducible refine gate_callee (f := 83) rfl ?_); refine goesL_ (some 14) rfl rfl Try.func83 (by kernel_rfl) rfl #[.int .i64 a0] rfl gl ?_; (with_reducible refine (aR.calls a0 t166 t167 _ A5.out).mono ?_); rintro e w' ⟨rfl, ⟨nd, rfl⟩⟩; refine ⟨_, rfl, ?_⟩))
   go_ret
   exact ⟨by first | rfl | (simp; done) | (simp only [← hji6, ← hji8] <;> (first | rfl | (simp; done))) | (simp [*]; done) | (congr 1; (try unfold wrap64); omega) | (congr 1; rw [IntKind.wrap_u64]; omega), gd_⟩
 ·rw [if_neg c7] at H
  exact absurd H (by simp)

-- NEED 0
/-! ### bN: function 89 -/
def bN.f (a0 : Int) (a1 : Bool) : Option (Int) := (aX.f a0 a1 0 0).bind fun t168 => (some t168)
theorem bN.calls (a0 : Int) (a1 : Bool) (r : Int) (w : World) (h : bN.f a0 a1 = some r) :
  Calls Try.prog 89 #[.int .i64 a0, .bool a1] w fun e w' => e = .returned (.int .u32 r) ∧ Drawn0 w w' := by
 have H : ((aX.f a0 a1 0 0).bind fun t168 => (some t168)) = some r := h
 clear h
 replace H := bq_ H
 obtain ⟨t168, A30, H⟩ := H
 replace H : (some t168) = some r := H
 have A3 := Aside0.mk A30
 clear A30
 obtain rfl := Option.some.inj H
 go_enter Try.func89, Try.ntmps89
 go_wp2_with (first | ((with_reducible refine gate_callee (f := 108) rfl ?_); refine goesL_ (some 7) rfl rfl Try.func108 (by kernel_rfl) rfl #[.int .i64 a0, .bool a1, .int .i64 0, .int .u32 0] rfl gl ?_; (with_reducible refine (aX.calls a0 a1 0 0 t168 _ A3.out).mono ?_); rintro e w' ⟨rfl, ⟨nd, rfl⟩⟩; refine ⟨_, rfl, ?_⟩))
 go_ret
 exact ⟨gr_, gd_⟩

-- NEED 0
/-! ### bits_Len64: function 116 -/
def bits_Len64.j0 : Nat → Int → Int → Option (Int)
 |0, _, _ => none
 |k + 1, x0, x2 => if x0 ≥ 65536 then (if (x0 / 65536) ≥ 256 then (if 0 ≤ (((x0 / 65536) / 256) % 256) then (if (((x0 / 65536) / 256) % 256) < 256 then (some (wrap64 ((wrap64 ((wrap64 (x2 + 16)) + 8)) + (wrap64 (bt (⟨#[0, 1, 2, 2, 3, 3, 3, 3, 4, 4, 4, 4, 4, 4, 4, 4, 5, 5, 5, 5, 5, 5, 5, 5, 5, 5, 5, 5, 5, 5, 5, 5, 6, 6, 6, 6, 6, 6, 6, 6, 6, 6, 6, 6, 6, 6, 6, 6, 6, 6, 6, 6, 6, 6, 6, 6, 6, 6, 6, 6, 6, 6, 6, 6, 7, 7, 7, 7, 7, 7, 7, 7, 7, 7, 7, 7, 7, 7, 7, 7, 7, 7, 7, 7, 7, 7, 7, 7, 7, 7, 7, 7, 7, 7, 7, 7, 7, 7, 7, 7, 7, 7, 7, 7, 7, 7, 7, 7, 7, 7, 7, 7, 7, 7, 7, 7, 7, 7, 7, 7, 7, 7, 7, 7, 7, 7, 7, 7, 8, 8, 8, 8, 8, 8, 8, 8, 8, 8, 8, 8, 8, 8, 8, 8, 8, 8, 8, 8, 8, 8, 8, 8, 8, 8, 8, 8, 8, 8, 8, 8, 8, 8, 8, 8, 8, 8, 8, 8, 8, 8, 8, 8, 8, 8, 8, 8, 8, 8, 8, 8, 8, 8, 8, 8, 8, 8, 8, 8, 8, 8, 8, 8, 8, 8, 8, 8, 8, 8, 8, 8, 8, 8, 8, 8, 8, 8, 8, 8, 8, 8, 8, 8, 8, 8, 8, 8, 8, 8, 8, 8, 8, 8, 8, 8, 8, 8, 8, 8, 8, 8, 8, 8, 8, 8, 8, 8, 8, 8, 8, 8, 8, 8, 8, 8, 8, 8, 8, 8, 8, 8, 8, 8, 8, 8, 8, 8]⟩ : ByteArray) (((x0 / 65536) / 256) % 256)))))) else (none)) else (none)) else (if 0 ≤ ((x0 / 65536) % 256) then (if ((x0 / 65536) % 256) < 256 then (some (wrap64 ((wrap64 (x2 + 16)) + (wrap64 (bt (⟨#[0, 1, 2, 2, 3, 3, 3, 3, 4, 4, 4, 4, 4, 4, 4, 4, 5, 5, 5, 5, 5, 5, 5, 5, 5, 5, 5, 5, 5, 5, 5, 5, 6, 6, 6, 6, 6, 6, 6, 6, 6, 6, 6, 6, 6, 6, 6, 6, 6, 6, 6, 6, 6, 6, 6, 6, 6, 6, 6, 6, 6, 6, 6, 6, 7, 7, 7, 7, 7, 7, 7, 7, 7, 7, 7, 7, 7, 7, 7, 7, 7, 7, 7, 7, 7, 7, 7, 7, 7, 7, 7, 7, 7, 7, 7, 7, 7, 7, 7, 7, 7, 7, 7, 7, 7, 7, 7, 7, 7, 7, 7, 7, 7, 7, 7, 7, 7, 7, 7, 7, 7, 7, 7, 7, 7, 7, 7, 7, 8, 8, 8, 8, 8, 8, 8, 8, 8, 8, 8, 8, 8, 8, 8, 8, 8, 8, 8, 8, 8, 8, 8, 8, 8, 8, 8, 8, 8, 8, 8, 8, 8, 8, 8, 8, 8, 8, 8, 8, 8, 8, 8, 8, 8, 8, 8, 8, 8, 8, 8, 8, 8, 8, 8, 8, 8, 8, 8, 8, 8, 8, 8, 8, 8, 8, 8, 8, 8, 8, 8, 8, 8, 8, 8, 8, 8, 8, 8, 8, 8, 8, 8, 8, 8, 8, 8, 8, 8, 8, 8, 8, 8, 8, 8, 8, 8, 8, 8, 8, 8, 8, 8, 8, 8, 8, 8, 8, 8, 8, 8, 8, 8, 8, 8, 8, 8, 8, 8, 8, 8, 8, 8, 8, 8, 8, 8, 8]⟩ : ByteArray) ((x0 / 65536) % 256)))))) else (none)) else (none))) else (if x0 ≥ 256 then (if 0 ≤ ((x0 / 256) % 256) then (if ((x0 / 256) % 256) < 256 then (some (wrap64 ((wrap64 (x2 + 8)) + (wrap64 (bt (⟨#[0, 1, 2, 2, 3, 3, 3, 3, 4, 4, 4, 4, 4, 4, 4, 4, 5, 5, 5, 5, 5, 5, 5, 5, 5, 5, 5, 5, 5, 5, 5, 5, 6, 6, 6, 6, 6, 6, 6, 6, 6, 6, 6, 6, 6, 6, 6, 6, 6, 6, 6, 6, 6, 6, 6, 6, 6, 6, 6, 6, 6, 6, 6, 6, 7, 7, 7, 7, 7, 7, 7, 7, 7, 7, 7, 7, 7, 7, 7, 7, 7, 7, 7, 7, 7, 7, 7, 7, 7, 7, 7, 7, 7, 7, 7, 7, 7, 7, 7, 7, 7, 7, 7, 7, 7, 7, 7, 7, 7, 7, 7, 7, 7, 7, 7, 7, 7, 7, 7, 7, 7, 7, 7, 7, 7, 7, 7, 7, 8, 8, 8, 8, 8, 8, 8, 8, 8, 8, 8, 8, 8, 8, 8, 8, 8, 8, 8, 8, 8, 8, 8, 8, 8, 8, 8, 8, 8, 8, 8, 8, 8, 8, 8, 8, 8, 8, 8, 8, 8, 8, 8, 8, 8, 8, 8, 8, 8, 8, 8, 8, 8, 8, 8, 8, 8, 8, 8, 8, 8, 8, 8, 8, 8, 8, 8, 8, 8, 8, 8, 8, 8, 8, 8, 8, 8, 8, 8, 8, 8, 8, 8, 8, 8, 8, 8, 8, 8, 8, 8, 8, 8, 8, 8, 8, 8, 8, 8, 8, 8, 8, 8, 8, 8, 8, 8, 8, 8, 8, 8, 8, 8, 8, 8, 8, 8, 8, 8, 8, 8, 8, 8, 8, 8, 8, 8, 8]⟩ : ByteArray) ((x0 / 256) % 256)))))) else (none)) else (none)) else (if 0 ≤ ((x0) % 256) then (if ((x0) % 256) < 256 then (some (wrap64 (x2 + (wrap64 (bt (⟨#[0, 1, 2, 2, 3, 3, 3, 3, 4, 4, 4, 4, 4, 4, 4, 4, 5, 5, 5, 5, 5, 5, 5, 5, 5, 5, 5, 5, 5, 5, 5, 5, 6, 6, 6, 6, 6, 6, 6, 6, 6, 6, 6, 6, 6, 6, 6, 6, 6, 6, 6, 6, 6, 6, 6, 6, 6, 6, 6, 6, 6, 6, 6, 6, 7, 7, 7, 7, 7, 7, 7, 7, 7, 7, 7, 7, 7, 7, 7, 7, 7, 7, 7, 7, 7, 7, 7, 7, 7, 7, 7, 7, 7, 7, 7, 7, 7, 7, 7, 7, 7, 7, 7, 7, 7, 7, 7, 7, 7, 7, 7, 7, 7, 7, 7, 7, 7, 7, 7, 7, 7, 7, 7, 7, 7, 7, 7, 7, 8, 8, 8, 8, 8, 8, 8, 8, 8, 8, 8, 8, 8, 8, 8, 8, 8, 8, 8, 8, 8, 8, 8, 8, 8, 8, 8, 8, 8, 8, 8, 8, 8, 8, 8, 8, 8, 8, 8, 8, 8, 8, 8, 8, 8, 8, 8, 8, 8, 8, 8, 8, 8, 8, 8, 8, 8, 8, 8, 8, 8, 8, 8, 8, 8, 8, 8, 8, 8, 8, 8, 8, 8, 8, 8, 8, 8, 8, 8, 8, 8, 8, 8, 8, 8, 8, 8, 8, 8, 8, 8, 8, 8, 8, 8, 8, 8, 8, 8, 8, 8, 8, 8, 8, 8, 8, 8, 8, 8, 8, 8, 8, 8, 8, 8, 8, 8, 8, 8, 8, 8, 8, 8, 8, 8, 8, 8, 8]⟩ : ByteArray) ((x0) % 256)))))) else (none)) else (none)))
def bits_Len64.f (k : Nat) (a0 : Int) : Option (Int) := if a0 ≥ 4294967296 then (bits_Len64.j0 k (a0 / 4294967296) 32) else (bits_Len64.j0 k a0 0)
theorem bits_Len64.fB : ∀ k, (∀ y0 y1, LeO (bits_Len64.j0 k y0 y1) (bits_Len64.j0 (k + 1) y0 y1))
 |0 => fun _ _ r h => by simp [bits_Len64.j0] at h
 |k + 1 => by
  have ih0 := bits_Len64.fB k
  ·intro y0 y1
   unfold bits_Len64.j0
   repeat' first
   |(with_reducible first|exact ih0 _ _|exact LeO.refl _|exact LeO.none _|refine LeO.ite ?_ ?_|refine LeO.bind ?_ (fun _ => ?_))
   |exact ih0 _ _
   |exact LeO.none _
   |refine LeO.ite ?_ ?_
   |refine LeO.bind ?_ (fun _ => ?_)
theorem bits_Len64.mono : ∀ a0 k, LeO (bits_Len64.f k a0) (bits_Len64.f (k + 1) a0) := by
 intro a0 k
 have ih0 := bits_Len64.fB k
 unfold bits_Len64.f
 repeat' first
   |(with_reducible first|exact ih0 _ _|exact LeO.refl _|exact LeO.none _|refine LeO.ite ?_ ?_|refine LeO.bind ?_ (fun _ => ?_))
   |exact ih0 _ _
   |exact LeO.none _
   |refine LeO.ite ?_ ?_
   |refine LeO.bind ?_ (fun _ => ?_)
theorem bits_Len64.calls (k : Nat) (a0 r : Int) (w : World) (h : bits_Len64.f k a0 = some r) :
  Calls Try.prog 116 #[.int .u64 a0] w fun e w' => e = .returned (.int .i64 r) ∧ Drawn0 w w' := by
 have H : (if a0 ≥ 4294967296 then (bits_Len64.j0 k (a0 / 4294967296) 32) else (bits_Len64.j0 k a0 0)) = some r := h
 clear h
 have HC2 := Aside0.mk H
 clear H
 go_enter Try.func116, Try.ntmps116
 go_upto_if 4 with (fail)
 go_cut [0, 2] (fun v0 v2 wc => ∃ (kq : Nat) (x0_1 : Int) (x2_1 : Int), v0 = .int .u64 x0_1 ∧ v2 = .int .i64 x2_1 ∧ Aside0 (bits_Len64.j0 kq x0_1 x2_1 = some r) ∧ Aside0 (kq ≤ k) ∧ Drawn0 w wc)
 case first =>
  have H := HC2.out
  clear HC2
  by_cases c3 : a0 ≥ 4294967296
  ·rw [if_pos c3] at H
   have c3b0 : decide (4294967296 ≤ a0) = true := decide_eq_true c3
   clear c3
   (first | rw [c3b0] | (simp only [i64_w, i32_w]; rw [c3b0]) | skip)
   have H' := Aside0.mk H
   clear H
   go_wp2
   go_meet
   case rel => exact ⟨_, (a0 / 4294967296), (32), (gr_), (gr_), H', ⟨by first | omega | exact Nat.le_refl _⟩, gd_⟩
  ·rw [if_neg c3] at H
   have c3b0 : decide (4294967296 ≤ a0) = false := decide_eq_false c3
   clear c3
   (first | rw [c3b0] | (simp only [i64_w, i32_w]; rw [c3b0]) | skip)
   have H' := Aside0.mk H
   clear H
   go_wp2
   go_meet
   case rel => exact ⟨_, (a0), (0), (gr_), (gr_), H', ⟨by first | omega | exact Nat.le_refl _⟩, gd_⟩
 case rest =>
  clear HC2
  try clear c1 p2 c3 c3b0
  obtain ⟨kq, x0_1, x2_1, rfl, rfl, HA, HJ1, ⟨mc1, rfl⟩⟩ := hcut
  cases kq with
  |zero => exact absurd HA.out (by simp [bits_Len64.j0])
  |succ kj1 =>
   have H := HA.out
   clear HA
   simp only [bits_Len64.j0] at H
   by_cases c4 : x0_1 ≥ 65536
   ·rw [if_pos c4] at H
    have c4b0 : decide (65536 ≤ x0_1) = true := decide_eq_true c4
    clear c4
    by_cases c5 : (x0_1 / 65536) ≥ 256
    ·rw [if_pos c5] at H
     have c5b0 : decide (256 ≤ (x0_1 / 65536)) = true := decide_eq_true c5
     clear c5
     obtain ⟨ji6, hji6⟩ : ∃ j_ : Int, (((x0_1 / 65536) / 256) % 256) = j_ := ⟨_, rfl⟩
     replace H : (if 0 ≤ (ji6) then (if (ji6) < 256 then (some (wrap64 ((wrap64 ((wrap64 (x2_1 + 16)) + 8)) + (wrap64 (bt (⟨#[0, 1, 2, 2, 3, 3, 3, 3, 4, 4, 4, 4, 4, 4, 4, 4, 5, 5, 5, 5, 5, 5, 5, 5, 5, 5, 5, 5, 5, 5, 5, 5, 6, 6, 6, 6, 6, 6, 6, 6, 6, 6, 6, 6, 6, 6, 6, 6, 6, 6, 6, 6, 6, 6, 6, 6, 6, 6, 6, 6, 6, 6, 6, 6, 7, 7, 7, 7, 7, 7, 7, 7, 7, 7, 7, 7, 7, 7, 7, 7, 7, 7, 7, 7, 7, 7, 7, 7, 7, 7, 7, 7, 7, 7, 7, 7, 7, 7, 7, 7, 7, 7, 7, 7, 7, 7, 7, 7, 7, 7, 7, 7, 7, 7, 7, 7, 7, 7, 7, 7, 7, 7, 7, 7, 7, 7, 7, 7, 8, 8, 8, 8, 8, 8, 8, 8, 8, 8, 8, 8, 8, 8, 8, 8, 8, 8, 8, 8, 8, 8, 8, 8, 8, 8, 8, 8, 8, 8, 8, 8, 8, 8, 8, 8, 8, 8, 8, 8, 8, 8, 8, 8, 8, 8, 8, 8, 8, 8, 8, 8, 8, 8, 8, 8, 8, 8, 8, 8, 8, 8, 8, 8, 8, 8, 8, 8, 8, 8, 8, 8, 8, 8, 8, 8, 8, 8, 8, 8, 8, 8, 8, 8, 8, 8, 8, 8, 8, 8, 8, 8, 8, 8, 8, 8, 8, 8, 8, 8, 8, 8, 8, 8, 8, 8, 8, 8, 8, 8, 8, 8, 8, 8, 8, 8, 8, 8, 8, 8, 8, 8, 8, 8, 8, 8, 8, 8]⟩ : ByteArray) (ji6)))))) else (none)) else (none)) = some r := by first | (rw [hji6] at H; exact H) | (simp only [hji6] at H ⊢; exact H)
     by_cases c7 : 0 ≤ (ji6)
     ·rw [if_pos c7] at H
      have c7b0 : decide (0 ≤ (ji6)) = true := decide_eq_true c7
      clear c7
      by_cases c8 : (ji6) < 256
      ·rw [if_pos c8] at H
       have c8b0 : decide ((ji6) < 256) = true := decide_eq_true c8
       clear c8
       obtain rfl := Option.some.inj H
       have p9 : 0 ≤ ((ji6) : Int) := of_decide_eq_true (by first | (with_reducible assumption) | assumption)
       have q9 : (ji6) < (256 : Int) := of_decide_eq_true (by first | (with_reducible assumption) | assumption)
       have hx9 := bt_at (⟨#[0, 1, 2, 2, 3, 3, 3, 3, 4, 4, 4, 4, 4, 4, 4, 4, 5, 5, 5, 5, 5, 5, 5, 5, 5, 5, 5, 5, 5, 5, 5, 5, 6, 6, 6, 6, 6, 6, 6, 6, 6, 6, 6, 6, 6, 6, 6, 6, 6, 6, 6, 6, 6, 6, 6, 6, 6, 6, 6, 6, 6, 6, 6, 6, 7, 7, 7, 7, 7, 7, 7, 7, 7, 7, 7, 7, 7, 7, 7, 7, 7, 7, 7, 7, 7, 7, 7, 7, 7, 7, 7, 7, 7, 7, 7, 7, 7, 7, 7, 7, 7, 7, 7, 7, 7, 7, 7, 7, 7, 7, 7, 7, 7, 7, 7, 7, 7, 7, 7, 7, 7, 7, 7, 7, 7, 7, 7, 7, 8, 8, 8, 8, 8, 8, 8, 8, 8, 8, 8, 8, 8, 8, 8, 8, 8, 8, 8, 8, 8, 8, 8, 8, 8, 8, 8, 8, 8, 8, 8, 8, 8, 8, 8, 8, 8, 8, 8, 8, 8, 8, 8, 8, 8, 8, 8, 8, 8, 8, 8, 8, 8, 8, 8, 8, 8, 8, 8, 8, 8, 8, 8, 8, 8, 8, 8, 8, 8, 8, 8, 8, 8, 8, 8, 8, 8, 8, 8, 8, 8, 8, 8, 8, 8, 8, 8, 8, 8, 8, 8, 8, 8, 8, 8, 8, 8, 8, 8, 8, 8, 8, 8, 8, 8, 8, 8, 8, 8, 8, 8, 8, 8, 8, 8, 8, 8, 8, 8, 8, 8, 8, 8, 8, 8, 8, 8, 8]⟩ : ByteArray) (ji6)
       replace p9 := eq_true p9
       replace q9 := eq_true q9
       go_wp2
       go_ret
       exact ⟨by first | rfl | (simp; done) | (simp only [← hji6] <;> (first | rfl | (simp; done))) | (simp [*]; done) | (congr 1; (try unfold wrap64); omega) | (congr 1; rw [IntKind.wrap_u64]; omega), gd_⟩
      ·rw [if_neg c8] at H
       exact absurd H (by simp)
     ·rw [if_neg c7] at H
      exact absurd H (by simp)
    ·rw [if_neg c5] at H
     have c5b0 : decide (256 ≤ (x0_1 / 65536)) = false := decide_eq_false c5
     clear c5
     obtain ⟨ji10, hji10⟩ : ∃ j_ : Int, ((x0_1 / 65536) % 256) = j_ := ⟨_, rfl⟩
     replace H : (if 0 ≤ (ji10) then (if (ji10) < 256 then (some (wrap64 ((wrap64 (x2_1 + 16)) + (wrap64 (bt (⟨#[0, 1, 2, 2, 3, 3, 3, 3, 4, 4, 4, 4, 4, 4, 4, 4, 5, 5, 5, 5, 5, 5, 5, 5, 5, 5, 5, 5, 5, 5, 5, 5, 6, 6, 6, 6, 6, 6, 6, 6, 6, 6, 6, 6, 6, 6, 6, 6, 6, 6, 6, 6, 6, 6, 6, 6, 6, 6, 6, 6, 6, 6, 6, 6, 7, 7, 7, 7, 7, 7, 7, 7, 7, 7, 7, 7, 7, 7, 7, 7, 7, 7, 7, 7, 7, 7, 7, 7, 7, 7, 7, 7, 7, 7, 7, 7, 7, 7, 7, 7, 7, 7, 7, 7, 7, 7, 7, 7, 7, 7, 7, 7, 7, 7, 7, 7, 7, 7, 7, 7, 7, 7, 7, 7, 7, 7, 7, 7, 8, 8, 8, 8, 8, 8, 8, 8, 8, 8, 8, 8, 8, 8, 8, 8, 8, 8, 8, 8, 8, 8, 8, 8, 8, 8, 8, 8, 8, 8, 8, 8, 8, 8, 8, 8, 8, 8, 8, 8, 8, 8, 8, 8, 8, 8, 8, 8, 8, 8, 8, 8, 8, 8, 8, 8, 8, 8, 8, 8, 8, 8, 8, 8, 8, 8, 8, 8, 8, 8, 8, 8, 8, 8, 8, 8, 8, 8, 8, 8, 8, 8, 8, 8, 8, 8, 8, 8, 8, 8, 8, 8, 8, 8, 8, 8, 8, 8, 8, 8, 8, 8, 8, 8, 8, 8, 8, 8, 8, 8, 8, 8, 8, 8, 8, 8, 8, 8, 8, 8, 8, 8, 8, 8, 8, 8, 8, 8]⟩ : ByteArray) (ji10)))))) else (none)) else (none)) = some r := by first | (rw [hji10] at H; exact H) | (simp only [hji10] at H ⊢; exact H)
     by_cases c11 : 0 ≤ (ji10)
     ·rw [if_pos c11] at H
      have c11b0 : decide (0 ≤ (ji10)) = true := decide_eq_true c11
      clear c11
      by_cases c12 : (ji10) < 256
      ·rw [if_pos c12] at H
       have c12b0 : decide ((ji10) < 256) = true := decide_eq_true c12
       clear c12
       obtain rfl := Option.some.inj H
       have p13 : 0 ≤ ((ji10) : Int) := of_decide_eq_true (by first | (with_reducible assumption) | assumption)
       have q13 : (ji10) < (256 : Int) := of_decide_eq_true (by first | (with_reducible assumption) | assumption)
       have hx13 := bt_at (⟨#[0, 1, 2, 2, 3, 3, 3, 3, 4, 4, 4, 4, 4, 4, 4, 4, 5, 5, 5, 5, 5, 5, 5, 5, 5, 5, 5, 5, 5, 5, 5, 5, 6, 6, 6, 6, 6, 6, 6, 6, 6, 6, 6, 6, 6, 6, 6, 6, 6, 6, 6, 6, 6, 6, 6, 6, 6, 6, 6, 6, 6, 6, 6, 6, 7, 7, 7, 7, 7, 7, 7, 7, 7, 7, 7, 7, 7, 7, 7, 7, 7, 7, 7, 7, 7, 7, 7, 7, 7, 7, 7, 7, 7, 7, 7, 7, 7, 7, 7, 7, 7, 7, 7, 7, 7, 7, 7, 7, 7, 7, 7, 7, 7, 7, 7, 7, 7, 7, 7, 7, 7, 7, 7, 7, 7, 7, 7, 7, 8, 8, 8, 8, 8, 8, 8, 8, 8, 8, 8, 8, 8, 8, 8, 8, 8, 8, 8, 8, 8, 8, 8, 8, 8, 8, 8, 8, 8, 8, 8, 8, 8, 8, 8, 8, 8, 8, 8, 8, 8, 8, 8, 8, 8, 8, 8, 8, 8, 8, 8, 8, 8, 8, 8, 8, 8, 8, 8, 8, 8, 8, 8, 8, 8, 8, 8, 8, 8, 8, 8, 8, 8, 8, 8, 8, 8, 8, 8, 8, 8, 8, 8, 8, 8, 8, 8, 8, 8, 8, 8, 8, 8, 8, 8, 8, 8, 8, 8, 8, 8, 8, 8, 8, 8, 8, 8, 8, 8, 8, 8, 8, 8, 8, 8, 8, 8, 8, 8, 8, 8, 8, 8, 8, 8, 8, 8, 8]⟩ : ByteArray) (ji10)
       replace p13 := eq_true p13
       replace q13 := eq_true q13
       go_wp2
       go_ret
       exact ⟨by first | rfl | (simp; done) | (simp only [← hji10] <;> (first | rfl | (simp; done))) | (simp [*]; done) | (congr 1; (try unfold wrap64); omega) | (congr 1; rw [IntKind.wrap_u64]; omega), gd_⟩
      ·rw [if_neg c12] at H
       exact absurd H (by simp)
     ·rw [if_neg c11] at H
      exact absurd H (by simp)
   ·rw [if_neg c4] at H
    have c4b0 : decide (65536 ≤ x0_1) = false := decide_eq_false c4
    clear c4
    by_cases c14 : x0_1 ≥ 256
    ·rw [if_pos c14] at H
     have c14b0 : decide (256 ≤ x0_1) = true := decide_eq_true c14
     clear c14
     obtain ⟨ji15, hji15⟩ : ∃ j_ : Int, ((x0_1 / 256) % 256) = j_ := ⟨_, rfl⟩
     replace H : (if 0 ≤ (ji15) then (if (ji15) < 256 then (some (wrap64 ((wrap64 (x2_1 + 8)) + (wrap64 (bt (⟨#[0, 1, 2, 2, 3, 3, 3, 3, 4, 4, 4, 4, 4, 4, 4, 4, 5, 5, 5, 5, 5, 5, 5, 5, 5, 5, 5, 5, 5, 5, 5, 5, 6, 6, 6, 6, 6, 6, 6, 6, 6, 6, 6, 6, 6, 6, 6, 6, 6, 6, 6, 6, 6, 6, 6, 6, 6, 6, 6, 6, 6, 6, 6, 6, 7, 7, 7, 7, 7, 7, 7, 7, 7, 7, 7, 7, 7, 7, 7, 7, 7, 7, 7, 7, 7, 7, 7, 7, 7, 7, 7, 7, 7, 7, 7, 7, 7, 7, 7, 7, 7, 7, 7, 7, 7, 7, 7, 7, 7, 7, 7, 7, 7, 7, 7, 7, 7, 7, 7, 7, 7, 7, 7, 7, 7, 7, 7, 7, 8, 8, 8, 8, 8, 8, 8, 8, 8, 8, 8, 8, 8, 8, 8, 8, 8, 8, 8, 8, 8, 8, 8, 8, 8, 8, 8, 8, 8, 8, 8, 8, 8, 8, 8, 8, 8, 8, 8, 8, 8, 8, 8, 8, 8, 8, 8, 8, 8, 8, 8, 8, 8, 8, 8, 8, 8, 8, 8, 8, 8, 8, 8, 8, 8, 8, 8, 8, 8, 8, 8, 8, 8, 8, 8, 8, 8, 8, 8, 8, 8, 8, 8, 8, 8, 8, 8, 8, 8, 8, 8, 8, 8, 8, 8, 8, 8, 8, 8, 8, 8, 8, 8, 8, 8, 8, 8, 8, 8, 8, 8, 8, 8, 8, 8, 8, 8, 8, 8, 8, 8, 8, 8, 8, 8, 8, 8, 8]⟩ : ByteArray) (ji15)))))) else (none)) else (none)) = some r := by first | (rw [hji15] at H; exact H) | (simp only [hji15] at H ⊢; exact H)
     by_cases c16 : 0 ≤ (ji15)
     ·rw [if_pos c16] at H
      have c16b0 : decide (0 ≤ (ji15)) = true := decide_eq_true c16
      clear c16
      by_cases c17 : (ji15) < 256
      ·rw [if_pos c17] at H
       have c17b0 : decide ((ji15) < 256) = true := decide_eq_true c17
       clear c17
       obtain rfl := Option.some.inj H
       have p18 : 0 ≤ ((ji15) : Int) := of_decide_eq_true (by first | (with_reducible assumption) | assumption)
       have q18 : (ji15) < (256 : Int) := of_decide_eq_true (by first | (with_reducible assumption) | assumption)
       have hx18 := bt_at (⟨#[0, 1, 2, 2, 3, 3, 3, 3, 4, 4, 4, 4, 4, 4, 4, 4, 5, 5, 5, 5, 5, 5, 5, 5, 5, 5, 5, 5, 5, 5, 5, 5, 6, 6, 6, 6, 6, 6, 6, 6, 6, 6, 6, 6, 6, 6, 6, 6, 6, 6, 6, 6, 6, 6, 6, 6, 6, 6, 6, 6, 6, 6, 6, 6, 7, 7, 7, 7, 7, 7, 7, 7, 7, 7, 7, 7, 7, 7, 7, 7, 7, 7, 7, 7, 7, 7, 7, 7, 7, 7, 7, 7, 7, 7, 7, 7, 7, 7, 7, 7, 7, 7, 7, 7, 7, 7, 7, 7, 7, 7, 7, 7, 7, 7, 7, 7, 7, 7, 7, 7, 7, 7, 7, 7, 7, 7, 7, 7, 8, 8, 8, 8, 8, 8, 8, 8, 8, 8, 8, 8, 8, 8, 8, 8, 8, 8, 8, 8, 8, 8, 8, 8, 8, 8, 8, 8, 8, 8, 8, 8, 8, 8, 8, 8, 8, 8, 8, 8, 8, 8, 8, 8, 8, 8, 8, 8, 8, 8, 8, 8, 8, 8, 8, 8, 8, 8, 8, 8, 8, 8, 8, 8, 8, 8, 8, 8, 8, 8, 8, 8, 8, 8, 8, 8, 8, 8, 8, 8, 8, 8, 8, 8, 8, 8, 8, 8, 8, 8, 8, 8, 8, 8, 8, 8, 8, 8, 8, 8, 8, 8, 8, 8, 8, 8, 8, 8, 8, 8, 8, 8, 8, 8, 8, 8, 8, 8, 8, 8, 8, 8, 8, 8, 8, 8, 8, 8]⟩ : ByteArray) (ji15)
       replace p18 := eq_true p18
       replace q18 := eq_true q18
       go_wp2
       go_ret
       exact ⟨by first | rfl | (simp; done) | (simp only [← hji15] <;> (first | rfl | (simp; done))) | (simp [*]; done) | (congr 1; (try unfold wrap64); omega) | (congr 1; rw [IntKind.wrap_u64]; omega), gd_⟩
      ·rw [if_neg c17] at H
       exact absurd H (by simp)
     ·rw [if_neg c16] at H
      exact absurd H (by simp)
    ·rw [if_neg c14] at H
     have c14b0 : decide (256 ≤ x0_1) = false := decide_eq_false c14
     clear c14
     obtain ⟨ji19, hji19⟩ : ∃ j_ : Int, ((x0_1) % 256) = j_ := ⟨_, rfl⟩
     replace H : (if 0 ≤ (ji19) then (if (ji19) < 256 then (some (wrap64 (x2_1 + (wrap64 (bt (⟨#[0, 1, 2, 2, 3, 3, 3, 3, 4, 4, 4, 4, 4, 4, 4, 4, 5, 5, 5, 5, 5, 5, 5, 5, 5, 5, 5, 5, 5, 5, 5, 5, 6, 6, 6, 6, 6, 6, 6, 6, 6, 6, 6, 6, 6, 6, 6, 6, 6, 6, 6, 6, 6, 6, 6, 6, 6, 6, 6, 6, 6, 6, 6, 6, 7, 7, 7, 7, 7, 7, 7, 7, 7, 7, 7, 7, 7, 7, 7, 7, 7, 7, 7, 7, 7, 7, 7, 7, 7, 7, 7, 7, 7, 7, 7, 7, 7, 7, 7, 7, 7, 7, 7, 7, 7, 7, 7, 7, 7, 7, 7, 7, 7, 7, 7, 7, 7, 7, 7, 7, 7, 7, 7, 7, 7, 7, 7, 7, 8, 8, 8, 8, 8, 8, 8, 8, 8, 8, 8, 8, 8, 8, 8, 8, 8, 8, 8, 8, 8, 8, 8, 8, 8, 8, 8, 8, 8, 8, 8, 8, 8, 8, 8, 8, 8, 8, 8, 8, 8, 8, 8, 8, 8, 8, 8, 8, 8, 8, 8, 8, 8, 8, 8, 8, 8, 8, 8, 8, 8, 8, 8, 8, 8, 8, 8, 8, 8, 8, 8, 8, 8, 8, 8, 8, 8, 8, 8, 8, 8, 8, 8, 8, 8, 8, 8, 8, 8, 8, 8, 8, 8, 8, 8, 8, 8, 8, 8, 8, 8, 8, 8, 8, 8, 8, 8, 8, 8, 8, 8, 8, 8, 8, 8, 8, 8, 8, 8, 8, 8, 8, 8, 8, 8, 8, 8, 8]⟩ : ByteArray) (ji19)))))) else (none)) else (none)) = some r := by first | (rw [hji19] at H; exact H) | (simp only [hji19] at H ⊢; exact H)
     by_cases c20 : 0 ≤ (ji19)
     ·rw [if_pos c20] at H
      have c20b0 : decide (0 ≤ (ji19)) = true := decide_eq_true c20
      clear c20
      by_cases c21 : (ji19) < 256
      ·rw [if_pos c21] at H
       have c21b0 : decide ((ji19) < 256) = true := decide_eq_true c21
       clear c21
       obtain rfl := Option.some.inj H
       have p22 : 0 ≤ ((ji19) : Int) := of_decide_eq_true (by first | (with_reducible assumption) | assumption)
       have q22 : (ji19) < (256 : Int) := of_decide_eq_true (by first | (with_reducible assumption) | assumption)
       have hx22 := bt_at (⟨#[0, 1, 2, 2, 3, 3, 3, 3, 4, 4, 4, 4, 4, 4, 4, 4, 5, 5, 5, 5, 5, 5, 5, 5, 5, 5, 5, 5, 5, 5, 5, 5, 6, 6, 6, 6, 6, 6, 6, 6, 6, 6, 6, 6, 6, 6, 6, 6, 6, 6, 6, 6, 6, 6, 6, 6, 6, 6, 6, 6, 6, 6, 6, 6, 7, 7, 7, 7, 7, 7, 7, 7, 7, 7, 7, 7, 7, 7, 7, 7, 7, 7, 7, 7, 7, 7, 7, 7, 7, 7, 7, 7, 7, 7, 7, 7, 7, 7, 7, 7, 7, 7, 7, 7, 7, 7, 7, 7, 7, 7, 7, 7, 7, 7, 7, 7, 7, 7, 7, 7, 7, 7, 7, 7, 7, 7, 7, 7, 8, 8, 8, 8, 8, 8, 8, 8, 8, 8, 8, 8, 8, 8, 8, 8, 8, 8, 8, 8, 8, 8, 8, 8, 8, 8, 8, 8, 8, 8, 8, 8, 8, 8, 8, 8, 8, 8, 8, 8, 8, 8, 8, 8, 8, 8, 8, 8, 8, 8, 8, 8, 8, 8, 8, 8, 8, 8, 8, 8, 8, 8, 8, 8, 8, 8, 8, 8, 8, 8, 8, 8, 8, 8, 8, 8, 8, 8, 8, 8, 8, 8, 8, 8, 8, 8, 8, 8, 8, 8, 8, 8, 8, 8, 8, 8, 8, 8, 8, 8, 8, 8, 8, 8, 8, 8, 8, 8, 8, 8, 8, 8, 8, 8, 8, 8, 8, 8, 8, 8, 8, 8, 8, 8, 8, 8, 8, 8]⟩ : ByteArray) (ji19)
       replace p22 := eq_true p22
       replace q22 := eq_true q22
       go_wp2
       go_ret
       exact ⟨by first | rfl | (simp; done) | (simp only [← hji19] <;> (first | rfl | (simp; done))) | (simp [*]; done) | (congr 1; (try unfold wrap64); omega) | (congr 1; rw [IntKind.wrap_u64]; omega), gd_⟩
      ·rw [if_neg c21] at H
       exact absurd H (by simp)
     ·rw [if_neg c20] at H
      exact absurd H (by simp)

-- NEED 0
/-! ### bits_Len: function 91 -/
def bits_Len.f (k : Nat) (a0 : Int) : Option (Int) := (bits_Len64.f k a0).bind fun t169 => (some t169)
theorem bits_Len.mono : ∀ a0 k, LeO (bits_Len.f k a0) (bits_Len.f (k + 1) a0) := by
 intro a0 k
 unfold bits_Len.f
 repeat' first
   |(with_reducible first|exact bits_Len64.mono _ _|exact LeO.refl _|exact LeO.none _|refine LeO.ite ?_ ?_|refine LeO.bind ?_ (fun _ => ?_))
   |exact bits_Len64.mono _ _
   |exact LeO.none _
   |refine LeO.ite ?_ ?_
   |refine LeO.bind ?_ (fun _ => ?_)
theorem bits_Len.calls (k : Nat) (a0 r : Int) (w : World) (h : bits_Len.f k a0 = some r) :
  Calls Try.prog 91 #[.int .u64 a0] w fun e w' => e = .returned (.int .i64 r) ∧ Drawn0 w w' := by
 have H : ((bits_Len64.f k a0).bind fun t169 => (some t169)) = some r := h
 clear h
 replace H := bq_ H
 obtain ⟨t169, A20, H⟩ := H
 replace H : (some t169) = some r := H
 have A2 := Aside0.mk A20
 clear A20
 obtain rfl := Option.some.inj H
 go_enter Try.func91, Try.ntmps91
 go_wp2_with (first | ((with_reducible refine gate_callee (f := 116) rfl ?_); refine goesL_ (some 4) rfl rfl Try.func116 (by kernel_rfl) rfl #[.int .u64 a0] rfl gl ?_; (with_reducible refine (bits_Len64.calls k a0 t169 _ A2.out).mono ?_); rintro e w' ⟨rfl, ⟨nd, rfl⟩⟩; refine ⟨_, rfl, ?_⟩))
 go_ret
 exact ⟨gr_, gd_⟩


-- NEED 0
/-! ### bD: function 106 -/
def bD.f (a0 : Int) : Option (Int) := (aR.f a0).bind fun bt170 => (if 0 ≤ (IntKind.u64.wrap (wrap64 (bt170.1 - 1))) then (some (wrap64 (2 - (shl .i64 1 (IntKind.u64.wrap (wrap64 (bt170.1 - 1))))))) else (none))
theorem bD.calls (a0 r : Int) (w : World) (h : bD.f a0 = some r) :
  Calls Try.prog 106 #[.int .i64 a0] w fun e w' => e = .returned (.int .i64 r) ∧ Drawn0 w w' := by
 have H : ((aR.f a0).bind fun bt170 => (if 0 ≤ (IntKind.u64.wrap (wrap64 (bt170.1 - 1))) then (some (wrap64 (2 - (shl .i64 1 (IntKind.u64.wrap (wrap64 (bt170.1 - 1))))))) else (none))) = some r := h
 clear h
 replace H := bq_ H
 obtain ⟨⟨t170, t171⟩, A20, H⟩ := H
 replace H : (if 0 ≤ (IntKind.u64.wrap (wrap64 (t170 - 1))) then (some (wrap64 (2 - (shl .i64 1 (IntKind.u64.wrap (wrap64 (t170 - 1))))))) else (none)) = some r := H
 have A2 := Aside0.mk A20
 clear A20
 obtain ⟨ji3, hji3⟩ : ∃ j_ : Int, (IntKind.u64.wrap (wrap64 (t170 - 1))) = j_ := ⟨_, rfl⟩
 replace H : (if 0 ≤ (ji3) then (some (wrap64 (2 - (shl .i64 1 (ji3))))) else (none)) = some r := by first | (rw [hji3] at H; exact H) | (simp only [hji3] at H ⊢; exact H)
 (try rw [hji3] at A2)
 by_cases c4 : 0 ≤ (ji3)
 ·rw [if_pos c4] at H
  have c4b0 := eq_true c4
  have c4b1 : decide (0 ≤ (ji3)) = true := decide_eq_true c4
  clear c4
  obtain ⟨ji5, hji5⟩ : ∃ j_ : Int, (shl .i64 1 (ji3)) = j_ := ⟨_, rfl⟩
  replace H : (some (wrap64 (2 - (ji5)))) = some r := by first | (rw [hji5] at H; exact H) | (simp only [hji5] at H ⊢; exact H)
  (try rw [hji5] at A2)
  have hji5_ : (IntKind.i64.wrap (1 * 2 ^ min (ji3).toNat 64)) = ji5 := hji5
  have hji5z : (ji3) ≤ 64 → (IntKind.i64.wrap (1 * 2 ^ (ji3).toNat)) = ji5 := shl_small hji5
  have hji5u : (IntKind.i64.wrap (2 ^ min (ji3).toNat 64)) = ji5 := by have h_ := hji5_; rw [Int.one_mul] at h_; exact h_
  have hji5v : (ji3) ≤ 64 → (IntKind.i64.wrap (2 ^ (ji3).toNat)) = ji5 := fun hle_ => by have h_ := hji5z hle_; rw [Int.one_mul] at h_; exact h_
  have hji5y : (wrap64 (1 * 2 ^ min (ji3).toNat 64)) = ji5 := (i64_w _).symm.trans hji5_
  have hji5x : (ji3) ≤ 64 → (wrap64 (1 * 2 ^ (ji3).toNat)) = ji5 := fun h_ => (i64_w _).symm.trans (hji5z h_)
  obtain rfl := Option.some.inj H
  go_enter Try.func106, Try.ntmps106
  go_wp2_with (first | ((with_reducible refine gate_callee (f := 83) rfl ?_); refine goesL_ (some 7) rfl rfl Try.func83 (by kernel_rfl) rfl #[.int .i64 a0] rfl gl ?_; (with_reducible refine (aR.calls a0 t170 t171 _ A2.out).mono ?_); rintro e w' ⟨rfl, ⟨nd, rfl⟩⟩; refine ⟨_, rfl, ?_⟩))
  go_ret
  exact ⟨by first | rfl | (simp; done) | (simp only [← hji3, ← hji5] <;> (first | rfl | (simp; done))) | (simp [*]; done) | (congr 1; (try unfold wrap64); omega) | (congr 1; rw [IntKind.wrap_u64]; omega), gd_⟩
 ·rw [if_neg c4] at H
  exact absurd H (by simp)

-- NEED 0
/-! ### bI: function 103 -/
def bI.f (k : Nat) (a0 a1 a2 : Int) : Option (Int) := (aR.f a0).bind fun bt172 => ((bD.f a0).bind fun t174 => (if a2 > 0 then ((bits_Len.f k a2).bind fun t175 => (some (wrap64 ((mx t174 (wrap64 ((wrap64 (a1 + t175)) - 1))) - bt172.2)))) else (some (wrap64 (t174 - bt172.2)))))
theorem bI.mono : ∀ a0 a1 a2 k, LeO (bI.f k a0 a1 a2) (bI.f (k + 1) a0 a1 a2) := by
 intro a0 a1 a2 k
 unfold bI.f
 repeat' first
   |(with_reducible first|exact bits_Len.mono _ _|exact LeO.refl _|exact LeO.none _|refine LeO.ite ?_ ?_|refine LeO.bind ?_ (fun _ => ?_))
   |exact bits_Len.mono _ _
   |exact LeO.none _
   |refine LeO.ite ?_ ?_
   |refine LeO.bind ?_ (fun _ => ?_)
theorem bI.calls (k : Nat) (a0 a1 : Int) (a2 r : Int) (w : World) (h : bI.f k a0 a1 a2 = some r) :
  Calls Try.prog 103 #[.int .i64 a0, .int .i64 a1, .int .u64 a2] w fun e w' => e = .returned (.int .i64 r) ∧ Below w.heap.size w w' := by
 have HB := Aside0.mk (Below.refl w.heap.size w)
 have H : ((aR.f a0).bind fun bt172 => ((bD.f a0).bind fun t174 => (if a2 > 0 then ((bits_Len.f k a2).bind fun t175 => (some (wrap64 ((mx t174 (wrap64 ((wrap64 (a1 + t175)) - 1))) - bt172.2)))) else (some (wrap64 (t174 - bt172.2)))))) = some r := h
 clear h
 replace H := bq_ H
 obtain ⟨⟨t172, t173⟩, A40, H⟩ := H
 replace H : ((bD.f a0).bind fun t174 => (if a2 > 0 then ((bits_Len.f k a2).bind fun t175 => (some (wrap64 ((mx t174 (wrap64 ((wrap64 (a1 + t175)) - 1))) - t173)))) else (some (wrap64 (t174 - t173))))) = some r := H
 have A4 := Aside0.mk A40
 clear A40
 replace H := bq_ H
 obtain ⟨t174, A50, H⟩ := H
 replace H : (if a2 > 0 then ((bits_Len.f k a2).bind fun t175 => (some (wrap64 ((mx t174 (wrap64 ((wrap64 (a1 + t175)) - 1))) - t173)))) else (some (wrap64 (t174 - t173)))) = some r := H
 have A5 := Aside0.mk A50
 clear A50
 by_cases c6 : a2 > 0
 ·rw [if_pos c6] at H
  have c6b0 : decide (0 < a2) = true := decide_eq_true c6
  clear c6
  replace H := bq_ H
  obtain ⟨t175, A70, H⟩ := H
  replace H : (some (wrap64 ((mx t174 (wrap64 ((wrap64 (a1 + t175)) - 1))) - t173))) = some r := H
  have A7 := Aside0.mk A70
  clear A70
  obtain ⟨ji8, hji8⟩ : ∃ j_ : Int, (mx t174 (wrap64 ((wrap64 (a1 + t175)) - 1))) = j_ := ⟨_, rfl⟩
  replace H : (some (wrap64 ((ji8) - t173))) = some r := by first | (rw [hji8] at H; exact H) | (simp only [hji8] at H ⊢; exact H)
  (try rw [hji8] at A4)
  (try rw [hji8] at A5)
  (try rw [hji8] at A7)
  have hji8_ : (if t174 < (wrap64 ((wrap64 (a1 + t175)) - 1)) then (wrap64 ((wrap64 (a1 + t175)) - 1)) else t174) = ji8 := hji8
  obtain rfl := Option.some.inj H
  go_enter Try.func103, Try.ntmps103
  go_wp2_with (first | ((with_reducible refine gate_callee (f := 83) rfl ?_); refine goesL_ (some 12) rfl rfl Try.func83 (by kernel_rfl) rfl #[.int .i64 a0] rfl gl ?_; (with_reducible refine (aR.calls a0 t172 t173 _ A4.out).mono ?_); rintro e w' ⟨rfl, ⟨nd, rfl⟩⟩; refine ⟨_, rfl, ?_⟩) | ((with_reducible refine gate_callee (f := 106) rfl ?_); refine goesL_ (some 16) rfl rfl Try.func106 (by kernel_rfl) rfl #[.int .i64 a0] rfl gl ?_; (with_reducible refine (bD.calls a0 t174 _ A5.out).mono ?_); rintro e w' ⟨rfl, ⟨nd, rfl⟩⟩; refine ⟨_, rfl, ?_⟩) | ((with_reducible refine gate_callee (f := 91) rfl ?_); refine goesL_ (some 22) rfl rfl Try.func91 (by kernel_rfl) rfl #[.int .u64 a2] rfl gl ?_; (with_reducible refine (bits_Len.calls k a2 t175 _ A7.out).mono ?_); rintro e w' ⟨rfl, ⟨nd, rfl⟩⟩; refine ⟨_, rfl, ?_⟩))
  go_ret
  exact ⟨by first | rfl | (simp [bQ, bP] <;> rfl) | (simp only [← hji8]; first | rfl | (simp [bQ, bP] <;> rfl)) | (simp [*, bQ, bP] <;> rfl), bl0 HB.out⟩
 ·rw [if_neg c6] at H
  have c6b0 : decide (0 < a2) = false := decide_eq_false c6
  clear c6
  obtain rfl := Option.some.inj H
  go_enter Try.func103, Try.ntmps103
  go_wp2_with (first | ((with_reducible refine gate_callee (f := 83) rfl ?_); refine goesL_ (some 12) rfl rfl Try.func83 (by kernel_rfl) rfl #[.int .i64 a0] rfl gl ?_; (with_reducible refine (aR.calls a0 t172 t173 _ A4.out).mono ?_); rintro e w' ⟨rfl, ⟨nd, rfl⟩⟩; refine ⟨_, rfl, ?_⟩) | ((with_reducible refine gate_callee (f := 106) rfl ?_); refine goesL_ (some 16) rfl rfl Try.func106 (by kernel_rfl) rfl #[.int .i64 a0] rfl gl ?_; (with_reducible refine (bD.calls a0 t174 _ A5.out).mono ?_); rintro e w' ⟨rfl, ⟨nd, rfl⟩⟩; refine ⟨_, rfl, ?_⟩))
  go_ret
  exact ⟨by first | rfl | (simp [bQ, bP] <;> rfl) | (simp [*, bQ, bP] <;> rfl), bl0 HB.out⟩

-- NEED 0
/-! ### aH: function 92 -/
def aH.j0 : Nat → Int → Int → Bool → Option (Int × Bool)
 |0, _, _, _ => none
 |k + 1, x0, x1, x8 => if x8 = true then (some (0, (x0 != 0))) else (if x1 ≥ 0 then (if 0 ≤ (IntKind.u64.wrap (x1)) then (some (shr .u64 x0 (IntKind.u64.wrap (x1)), ((shl .u64 (shr .u64 x0 (IntKind.u64.wrap (x1))) (IntKind.u64.wrap (x1))) != x0))) else (none)) else (if 0 ≤ (IntKind.u64.wrap (wrap64 (-x1))) then (some (shl .u64 x0 (IntKind.u64.wrap (wrap64 (-x1))), ((shr .u64 (shl .u64 x0 (IntKind.u64.wrap (wrap64 (-x1)))) (IntKind.u64.wrap (wrap64 (-x1)))) != x0))) else (none)))
def aH.f (k : Nat) (a0 a1 : Int) : Option (Int × Bool) := if a1 ≥ 64 then (aH.j0 k a0 a1 true) else (aH.j0 k a0 a1 (decide (a1 ≤ (-64))))
theorem aH.fB : ∀ k, (∀ y0 y1 y2, LeO (aH.j0 k y0 y1 y2) (aH.j0 (k + 1) y0 y1 y2))
 |0 => fun _ _ _ r h => by simp [aH.j0] at h
 |k + 1 => by
  have ih0 := aH.fB k
  ·intro y0 y1 y2
   unfold aH.j0
   repeat' first
   |(with_reducible first|exact ih0 _ _ _|exact LeO.refl _|exact LeO.none _|refine LeO.ite ?_ ?_|refine LeO.bind ?_ (fun _ => ?_))
   |exact ih0 _ _ _
   |exact LeO.none _
   |refine LeO.ite ?_ ?_
   |refine LeO.bind ?_ (fun _ => ?_)
theorem aH.mono : ∀ a0 a1 k, LeO (aH.f k a0 a1) (aH.f (k + 1) a0 a1) := by
 intro a0 a1 k
 have ih0 := aH.fB k
 unfold aH.f
 repeat' first
   |(with_reducible first|exact ih0 _ _ _|exact LeO.refl _|exact LeO.none _|refine LeO.ite ?_ ?_|refine LeO.bind ?_ (fun _ => ?_))
   |exact ih0 _ _ _
   |exact LeO.none _
   |refine LeO.ite ?_ ?_
   |refine LeO.bind ?_ (fun _ => ?_)
theorem aH.calls (k : Nat) (a0 a1 r1 : Int) (r2 : Bool) (w : World) (h : aH.f k a0 a1 = some (r1, r2)) :
  Calls Try.prog 92 #[.int .u64 a0, .int .i64 a1] w fun e w' => e = .returned (.tuple #[.int .u64 r1, .bool r2]) ∧ Drawn0 w w' := by
 have H : (if a1 ≥ 64 then (aH.j0 k a0 a1 true) else (aH.j0 k a0 a1 (decide (a1 ≤ (-64))))) = some (r1, r2) := h
 clear h
 have HC3 := Aside0.mk H
 clear H
 go_enter Try.func92, Try.ntmps92
 go_upto_region 1 with (fail)
 go_cut [8] (fun v8 wc => ∃ (kq : Nat) (x8_2 : Bool), v8 = .bool x8_2 ∧ Aside0 (aH.j0 kq a0 a1 x8_2 = some (r1, r2)) ∧ Aside0 (kq ≤ k) ∧ Drawn0 w wc)
 case first =>
  have H := HC3.out
  clear HC3
  by_cases c4 : a1 ≥ 64
  ·rw [if_pos c4] at H
   have c4b0 : decide (64 ≤ a1) = true := decide_eq_true c4
   clear c4
   (first | rw [c4b0] | (simp only [i64_w, i32_w]; rw [c4b0]) | skip)
   have H' := Aside0.mk H
   clear H
   go_wp2
   go_meet
   case rel => exact ⟨_, (true), (gr_), H', ⟨by first | omega | exact Nat.le_refl _⟩, gd_⟩
  ·rw [if_neg c4] at H
   have c4b0 : decide (64 ≤ a1) = false := decide_eq_false c4
   clear c4
   (first | rw [c4b0] | (simp only [i64_w, i32_w]; rw [c4b0]) | skip)
   have H' := Aside0.mk H
   clear H
   go_wp2
   go_meet
   case rel => exact ⟨_, (decide (a1 ≤ (-64))), (gr_), H', ⟨by first | omega | exact Nat.le_refl _⟩, gd_⟩
 case rest =>
  clear HC3
  try clear p2 c4 c4b0
  obtain ⟨kq, x8_2, rfl, HA, HJ2, ⟨mc2, rfl⟩⟩ := hcut
  cases kq with
  |zero => exact absurd HA.out (by simp [aH.j0])
  |succ kj2 =>
   have H := HA.out
   clear HA
   simp only [aH.j0] at H
   by_cases c5 : x8_2 = true
   ·subst c5
    have H1 : (some (0, (a0 != 0))) = some (r1, r2) := by rw [if_pos rfl] at H; exact H
    clear H
    have H := H1
    clear H1
    simp only [Option.some.injEq, Prod.mk.injEq] at H
    obtain ⟨rfl, rfl⟩ := H
    go_wp2
    go_ret2
    exact ⟨gr_, gd_⟩
   ·replace c5 := Bool.eq_false_iff.mpr c5
    subst c5
    have H1 : (if a1 ≥ 0 then (if 0 ≤ (IntKind.u64.wrap (a1)) then (some (shr .u64 a0 (IntKind.u64.wrap (a1)), ((shl .u64 (shr .u64 a0 (IntKind.u64.wrap (a1))) (IntKind.u64.wrap (a1))) != a0))) else (none)) else (if 0 ≤ (IntKind.u64.wrap (wrap64 (-a1))) then (some (shl .u64 a0 (IntKind.u64.wrap (wrap64 (-a1))), ((shr .u64 (shl .u64 a0 (IntKind.u64.wrap (wrap64 (-a1)))) (IntKind.u64.wrap (wrap64 (-a1)))) != a0))) else (none))) = some (r1, r2) := by rw [if_neg (show ¬ (false = true) by decide)] at H; exact H
    clear H
    have H := H1
    clear H1
    by_cases c6 : a1 ≥ 0
    ·rw [if_pos c6] at H
     have c6b0 : decide (0 ≤ a1) = true := decide_eq_true c6
     clear c6
     obtain ⟨ji7, hji7⟩ : ∃ j_ : Int, (IntKind.u64.wrap (a1)) = j_ := ⟨_, rfl⟩
     replace H : (if 0 ≤ (ji7) then (some (shr .u64 a0 (ji7), ((shl .u64 (shr .u64 a0 (ji7)) (ji7)) != a0))) else (none)) = some (r1, r2) := by first | (rw [hji7] at H; exact H) | (simp only [hji7] at H ⊢; exact H)
     by_cases c8 : 0 ≤ (ji7)
     ·rw [if_pos c8] at H
      have c8b0 := eq_true c8
      have c8b1 : decide (0 ≤ (ji7)) = true := decide_eq_true c8
      clear c8
      obtain ⟨ji9, hji9⟩ : ∃ j_ : Int, (shr .u64 a0 (ji7)) = j_ := ⟨_, rfl⟩
      replace H : (some (ji9, ((shl .u64 (ji9) (ji7)) != a0))) = some (r1, r2) := by first | (rw [hji9] at H; exact H) | (simp only [hji9] at H ⊢; exact H)
      have hji9_ : (a0 / 2 ^ min (ji7).toNat 64) = ji9 := hji9
      have hji9z : (ji7) ≤ 64 → (a0 / 2 ^ (ji7).toNat) = ji9 := shr_small hji9
      have c10b0 := eq_true (of_decide_eq_true (by first | (with_reducible assumption) | assumption) : 0 ≤ (ji7))
      obtain ⟨ji11, hji11⟩ : ∃ j_ : Int, (shl .u64 (ji9) (ji7)) = j_ := ⟨_, rfl⟩
      replace H : (some (ji9, ((ji11) != a0))) = some (r1, r2) := by first | (rw [hji11] at H; exact H) | (simp only [hji11] at H ⊢; exact H)
      have hji11_ : (IntKind.u64.wrap ((ji9) * 2 ^ min (ji7).toNat 64)) = ji11 := hji11
      have hji11z : (ji7) ≤ 64 → (IntKind.u64.wrap ((ji9) * 2 ^ (ji7).toNat)) = ji11 := shl_small hji11
      simp only [Option.some.injEq, Prod.mk.injEq] at H
      obtain ⟨rfl, rfl⟩ := H
      go_wp2
      go_ret2
      exact ⟨by first | rfl | (simp; done) | (simp only [← hji7, ← hji9, ← hji11] <;> (first | rfl | (simp; done))) | (simp [*]; done) | (congr 1; (try unfold wrap64); omega) | (congr 1; rw [IntKind.wrap_u64]; omega), gd_⟩
     ·rw [if_neg c8] at H
      exact absurd H (by simp)
    ·rw [if_neg c6] at H
     have c6b0 : decide (0 ≤ a1) = false := decide_eq_false c6
     clear c6
     obtain ⟨ji12, hji12⟩ : ∃ j_ : Int, (IntKind.u64.wrap (wrap64 (-a1))) = j_ := ⟨_, rfl⟩
     replace H : (if 0 ≤ (ji12) then (some (shl .u64 a0 (ji12), ((shr .u64 (shl .u64 a0 (ji12)) (ji12)) != a0))) else (none)) = some (r1, r2) := by first | (rw [hji12] at H; exact H) | (simp only [hji12] at H ⊢; exact H)
     by_cases c13 : 0 ≤ (ji12)
     ·rw [if_pos c13] at H
      have c13b0 := eq_true c13
      have c13b1 : decide (0 ≤ (ji12)) = true := decide_eq_true c13
      clear c13
      obtain ⟨ji14, hji14⟩ : ∃ j_ : Int, (shl .u64 a0 (ji12)) = j_ := ⟨_, rfl⟩
      replace H : (some (ji14, ((shr .u64 (ji14) (ji12)) != a0))) = some (r1, r2) := by first | (rw [hji14] at H; exact H) | (simp only [hji14] at H ⊢; exact H)
      have hji14_ : (IntKind.u64.wrap (a0 * 2 ^ min (ji12).toNat 64)) = ji14 := hji14
      have hji14z : (ji12) ≤ 64 → (IntKind.u64.wrap (a0 * 2 ^ (ji12).toNat)) = ji14 := shl_small hji14
      have c15b0 := eq_true (of_decide_eq_true (by first | (with_reducible assumption) | assumption) : 0 ≤ (ji12))
      obtain ⟨ji16, hji16⟩ : ∃ j_ : Int, (shr .u64 (ji14) (ji12)) = j_ := ⟨_, rfl⟩
      replace H : (some (ji14, ((ji16) != a0))) = some (r1, r2) := by first | (rw [hji16] at H; exact H) | (simp only [hji16] at H ⊢; exact H)
      have hji16_ : ((ji14) / 2 ^ min (ji12).toNat 64) = ji16 := hji16
      have hji16z : (ji12) ≤ 64 → ((ji14) / 2 ^ (ji12).toNat) = ji16 := shr_small hji16
      simp only [Option.some.injEq, Prod.mk.injEq] at H
      obtain ⟨rfl, rfl⟩ := H
      go_wp2
      go_ret2
      exact ⟨by first | rfl | (simp; done) | (simp only [← hji12, ← hji14, ← hji16] <;> (first | rfl | (simp; done))) | (simp [*]; done) | (congr 1; (try unfold wrap64); omega) | (congr 1; rw [IntKind.wrap_u64]; omega), gd_⟩
     ·rw [if_neg c13] at H
      exact absurd H (by simp)


-- NEED 0
/-! ### dQ: function 109 -/
def dQ.f (a0 a1 : Int) : Option (Int) := if a1 < 1 then (some 0) else (if a1 ≥ 64 then (some a0) else (if 0 ≤ (IntKind.u64.wrap (a1)) then (some (Go.bits .and .u64 a0 (IntKind.u64.wrap ((shl .u64 1 (IntKind.u64.wrap (a1))) - 1)))) else (none)))
theorem dQ.calls (a0 a1 r : Int) (w : World) (h : dQ.f a0 a1 = some r) :
  Calls Try.prog 109 #[.int .u64 a0, .int .i64 a1] w fun e w' => e = .returned (.int .u64 r) ∧ Drawn0 w w' := by
 have H : (if a1 < 1 then (some 0) else (if a1 ≥ 64 then (some a0) else (if 0 ≤ (IntKind.u64.wrap (a1)) then (some (Go.bits .and .u64 a0 (IntKind.u64.wrap ((shl .u64 1 (IntKind.u64.wrap (a1))) - 1)))) else (none)))) = some r := h
 clear h
 by_cases c3 : a1 < 1
 ·rw [if_pos c3] at H
  have c3b0 : decide (a1 < 1) = true := decide_eq_true c3
  clear c3
  obtain rfl := Option.some.inj H
  go_enter Try.func109, Try.ntmps109
  go_wp2
  go_ret
  exact ⟨gr_, gd_⟩
 ·rw [if_neg c3] at H
  have c3b0 : decide (a1 < 1) = false := decide_eq_false c3
  clear c3
  by_cases c4 : a1 ≥ 64
  ·rw [if_pos c4] at H
   have c4b0 : decide (64 ≤ a1) = true := decide_eq_true c4
   clear c4
   obtain rfl := Option.some.inj H
   go_enter Try.func109, Try.ntmps109
   go_wp2
   go_ret
   exact ⟨gr_, gd_⟩
  ·rw [if_neg c4] at H
   have c4b0 : decide (64 ≤ a1) = false := decide_eq_false c4
   clear c4
   obtain ⟨ji5, hji5⟩ : ∃ j_ : Int, (IntKind.u64.wrap (a1)) = j_ := ⟨_, rfl⟩
   replace H : (if 0 ≤ (ji5) then (some (Go.bits .and .u64 a0 (IntKind.u64.wrap ((shl .u64 1 (ji5)) - 1)))) else (none)) = some r := by first | (rw [hji5] at H; exact H) | (simp only [hji5] at H ⊢; exact H)
   by_cases c6 : 0 ≤ (ji5)
   ·rw [if_pos c6] at H
    have c6b0 := eq_true c6
    have c6b1 : decide (0 ≤ (ji5)) = true := decide_eq_true c6
    clear c6
    obtain ⟨ji7, hji7⟩ : ∃ j_ : Int, (shl .u64 1 (ji5)) = j_ := ⟨_, rfl⟩
    replace H : (some (Go.bits .and .u64 a0 (IntKind.u64.wrap ((ji7) - 1)))) = some r := by first | (rw [hji7] at H; exact H) | (simp only [hji7] at H ⊢; exact H)
    have hji7_ : (IntKind.u64.wrap (1 * 2 ^ min (ji5).toNat 64)) = ji7 := hji7
    have hji7z : (ji5) ≤ 64 → (IntKind.u64.wrap (1 * 2 ^ (ji5).toNat)) = ji7 := shl_small hji7
    have hji7u : (IntKind.u64.wrap (2 ^ min (ji5).toNat 64)) = ji7 := by have h_ := hji7_; rw [Int.one_mul] at h_; exact h_
    have hji7v : (ji5) ≤ 64 → (IntKind.u64.wrap (2 ^ (ji5).toNat)) = ji7 := fun hle_ => by have h_ := hji7z hle_; rw [Int.one_mul] at h_; exact h_
    obtain rfl := Option.some.inj H
    go_enter Try.func109, Try.ntmps109
    go_wp2
    go_ret
    exact ⟨by first | rfl | (simp; done) | (simp only [← hji5, ← hji7] <;> (first | rfl | (simp; done))) | (simp [*]; done) | (congr 1; (try unfold wrap64); omega) | (congr 1; rw [IntKind.wrap_u64]; omega), gd_⟩
   ·rw [if_neg c6] at H
    exact absurd H (by simp)

end Go.Proofs.Ytolpdiifmacdbaa.P

/- What the functions of layer 1 compute, as plain numbers. -/
namespace Go.Proofs.Ytolpdiifmacdbaa.BitsF
open Go.RowKit Go.Proofs.Ytolpdiifmacdbaa.P Go.Proofs.Ytolpdiifmacdbaa.Num Go.Proofs.YtolpdiifmacdbaaW.PrintWords Go.Proofs.YtolpdiifmacdbaaW.PrintLast Go.Proofs.YtolpdiifmacdbaaW.PrintMore

def iL (v : Nat) (n : Int) : Nat × Bool :=
 if 0 ≤ n then (v / 2 ^ n.toNat, decide (v % 2 ^ n.toNat ≠ 0)) else (v * 2 ^ (-n).toNat % 18446744073709551616, decide (18446744073709551616 ≤ v * 2 ^ (-n).toNat))
theorem gV (v n : Nat) : iL v (n : Int) = (v / 2 ^ n, decide (v % 2 ^ n ≠ 0)) := by
 unfold iL; rw [if_pos (by omega)]; simp
theorem iP (v n : Nat) (hv : v < 18446744073709551616) : iL v (-(n : Int)) = (v * 2 ^ n % 18446744073709551616, decide (18446744073709551616 ≤ v * 2 ^ n)) := by
 unfold iL
 by_cases h : n = 0
 ·subst h; simp [Nat.mod_one]; omega
 ·rw [if_neg (by omega)]; simp

theorem rR {n : Nat} (h : 64 ≤ n) : 18446744073709551616 ≤ 2 ^ n := by
 have : 2 ^ 64 ≤ 2 ^ n := Nat.pow_le_pow_right (by decide) h
 omega
theorem yT {n : Nat} (h : n ≤ 64) : 2 ^ n * 2 ^ (64 - n) = 18446744073709551616 := by
 rw [← Nat.pow_add, show n + (64 - n) = 64 by omega]
theorem back_ne (v n : Nat) : decide (v / 2 ^ n * 2 ^ n ≠ v) = decide (v % 2 ^ n ≠ 0) := by
 have := Nat.div_add_mod v (2 ^ n)
 rw [Nat.mul_comm] at this
 congr 1
 apply propext
 constructor <;> intro h <;> omega
theorem wJ (v n : Nat) (hn : n ≤ 64) : decide ((v * 2 ^ n % 18446744073709551616) / 2 ^ n ≠ v) = decide (18446744073709551616 ≤ v * 2 ^ n) := by
 have hp : 0 < 2 ^ n := Nat.two_pow_pos n
 have e : v * 2 ^ n % 18446744073709551616 = (v % 2 ^ (64 - n)) * 2 ^ n := by
  rw [← yT hn, Nat.mul_comm (2 ^ n), Nat.mul_mod_mul_right]
 rw [e, Nat.mul_div_cancel _ hp]
 congr 1
 apply propext
 have hq : 0 < 2 ^ (64 - n) := Nat.two_pow_pos _
 have d := yT hn
 constructor
 ·intro h
  have : 2 ^ (64 - n) ≤ v := by
   apply Nat.le_of_not_lt; intro hlt; exact h (Nat.mod_eq_of_lt hlt)
  calc 18446744073709551616 = 2 ^ (64 - n) * 2 ^ n := by rw [Nat.mul_comm]; exact d.symm
   _ ≤ v * 2 ^ n := Nat.mul_le_mul_right _ this
 ·intro h h'
  have hlt : v < 2 ^ (64 - n) := by rw [← h']; exact Nat.mod_lt _ hq
  have : v * 2 ^ n < 2 ^ (64 - n) * 2 ^ n := Nat.mul_lt_mul_of_pos_right hlt hp
  rw [Nat.mul_comm (2 ^ (64 - n)), d] at this
  omega
theorem bne_cast (a b : Nat) : (((a : Int) != (b : Int)) : Bool) = decide (a ≠ b) := by
 by_cases h : a = b
 ·subst h; simp
 ·rw [bne_iff_ne.mpr (by omega)]; simp [h]

theorem o8 (v : Nat) (hv : v < 18446744073709551616) (n : Int) (h1 : -9223372036854775808 ≤ n) (h2 : n ≤ 9223372036854775807) (k : Nat) :
  aH.f (k + 1) (v : Int) n = some ((((iL v n).1 : Nat) : Int), (iL v n).2) := by
 unfold aH.f
 by_cases c : n ≥ 64
 ·rw [if_pos c]
  simp only [aH.j0, if_true]
  obtain ⟨m, rfl⟩ := lU (show 0 ≤ n by omega)
  rw [gV]
  have := rR (show 64 ≤ m by omega)
  rw [Nat.div_eq_of_lt (by omega), Nat.mod_eq_of_lt (by omega), ← bne_cast]; rfl
 ·rw [if_neg c]
  by_cases c' : n ≤ -64
  ·rw [decide_eq_true c']
   simp only [aH.j0, if_true]
   obtain ⟨m, hm⟩ := lU (show 0 ≤ -n by omega)
   obtain rfl : n = -(m : Int) := by omega
   rw [iP _ _ hv]
   have hb := rR (show 64 ≤ m by omega)
   have e : (2 : Nat) ^ m = 18446744073709551616 * 2 ^ (m - 64) := by rw [show 18446744073709551616 = 2 ^ 64 from rfl, ← Nat.pow_add]; congr 1; omega
   have e1 : v * 2 ^ m % 18446744073709551616 = 0 := by rw [e, ← Nat.mul_assoc, Nat.mul_comm v, Nat.mul_assoc, Nat.mul_mod_right]
   have e2 : decide (18446744073709551616 ≤ v * 2 ^ m) = decide (v ≠ 0) := by
    congr 1; apply propext
    constructor
    ·intro h h0; subst h0; omega
    ·intro h
     calc 18446744073709551616 ≤ 2 ^ m := hb
      _ = 1 * 2 ^ m := (Nat.one_mul _).symm
      _ ≤ v * 2 ^ m := Nat.mul_le_mul_right _ (by omega)
   simp only [e1, e2]
   rw [← bne_cast]; rfl
  ·rw [decide_eq_false c']
   simp only [aH.j0, Bool.false_eq_true, if_false]
   by_cases c0 : n ≥ 0
   ·rw [if_pos c0]
    obtain ⟨m, rfl⟩ := lU c0
    rw [eG _ (by omega), if_pos (by omega), nJ _ _ hv, mU, bne_cast, gV]
    have hle : v / 2 ^ m * 2 ^ m ≤ v := Nat.div_mul_le_self _ _
    rw [Nat.mod_eq_of_lt (by omega), back_ne]
   ·rw [if_neg c0]
    obtain ⟨m, hm⟩ := lU (show 0 ≤ -n by omega)
    obtain rfl : n = -(m : Int) := by omega
    rw [Int.neg_neg, bS _ (by omega) (by omega), eG _ (by omega), if_pos (by omega), mU, nJ _ _ (Nat.mod_lt _ (by decide)), bne_cast, iP _ _ hv, wJ _ _ (by omega)]
theorem mP (v : Nat) (hv : v < 18446744073709551616) (n : Int) (h1 : -9223372036854775808 ≤ n) (h2 : n ≤ 9223372036854775807) :
  Ev (fun k => aH.f k (v : Int) n) ((((iL v n).1 : Nat) : Int), (iL v n).2) := Ev.of (aH.mono _ _) (o8 v hv n h1 h2 0)

def gD (v : Nat) : Nat := if v = 0 then 0 else v.log2 + 1
theorem pJ (v : Nat) : v < 2 ^ gD v := by
 unfold gD
 by_cases h : v = 0
 ·subst h; decide
 ·rw [if_neg h]; exact (Nat.log2_lt h).mp (Nat.lt_succ_self _)
theorem p8 (v : Nat) (h : v ≠ 0) : 2 ^ (gD v - 1) ≤ v := by
 unfold gD
 rw [if_neg h, Nat.add_sub_cancel]
 exact (Nat.le_log2 h).mp (Nat.le_refl _)
theorem kH (v : Nat) (h : v ≠ 0) : 1 ≤ gD v := by unfold gD; rw [if_neg h]; omega
theorem lenN_of (v n : Nat) (h : v < 2 ^ n) (h' : n = 0 ∨ 2 ^ (n - 1) ≤ v) : gD v = n := by
 by_cases hv : v = 0
 ·subst hv
  rcases h' with h' | h'
  ·subst h'; rfl
  ·have := Nat.two_pow_pos (n - 1); omega
 ·have hn : n ≠ 0 := by intro e; subst e; simp at h; omega
  have h' := h'.resolve_left hn
  unfold gD; rw [if_neg hv]
  have a := (Nat.log2_lt hv).mpr h
  have b := (Nat.le_log2 hv).mpr h'
  omega
theorem fA (v n : Nat) (h : v < 2 ^ n) : gD v ≤ n := by
 by_cases hv : v = 0
 ·subst hv; exact Nat.zero_le _
 ·unfold gD; rw [if_neg hv]; exact (Nat.log2_lt hv).mpr h
theorem lenN_ge (v n : Nat) (h : 2 ^ n ≤ v) : n < gD v := by
 have hv : v ≠ 0 := by have := Nat.two_pow_pos n; omega
 unfold gD; rw [if_neg hv]; have := (Nat.le_log2 hv).mpr h; omega
theorem kI (v n : Nat) (h : 2 ^ n ≤ v) : gD (v / 2 ^ n) + n = gD v := by
 have hp := Nat.two_pow_pos n
 have hq : v / 2 ^ n ≠ 0 := by have := Nat.div_pos h hp; omega
 symm
 apply lenN_of
 ·rw [Nat.pow_add, Nat.mul_comm]
  exact Nat.lt_mul_of_div_lt (pJ _) hp |> fun z => by rw [Nat.mul_comm] at z; exact z
 ·right
  have h1 := kH _ hq
  rw [show gD (v / 2 ^ n) + n - 1 = gD (v / 2 ^ n) - 1 + n by omega, Nat.pow_add]
  exact (Nat.le_div_iff_mul_le hp).mp (p8 _ hq)
theorem lenN_mul (v n : Nat) (h : v ≠ 0) : gD (v * 2 ^ n) = gD v + n := by
 have hp := Nat.two_pow_pos n
 have := kI (v * 2 ^ n) n (Nat.le_mul_of_pos_left _ (by omega))
 rw [Nat.mul_div_cancel _ hp] at this
 omega
theorem tab_all : ∀ i : Fin 256, bt (⟨#[0, 1, 2, 2, 3, 3, 3, 3, 4, 4, 4, 4, 4, 4, 4, 4, 5, 5, 5, 5, 5, 5, 5, 5, 5, 5, 5, 5, 5, 5, 5, 5, 6, 6, 6, 6, 6, 6, 6, 6, 6, 6, 6, 6, 6, 6, 6, 6, 6, 6, 6, 6, 6, 6, 6, 6, 6, 6, 6, 6, 6, 6, 6, 6, 7, 7, 7, 7, 7, 7, 7, 7, 7, 7, 7, 7, 7, 7, 7, 7, 7, 7, 7, 7, 7, 7, 7, 7, 7, 7, 7, 7, 7, 7, 7, 7, 7, 7, 7, 7, 7, 7, 7, 7, 7, 7, 7, 7, 7, 7, 7, 7, 7, 7, 7, 7, 7, 7, 7, 7, 7, 7, 7, 7, 7, 7, 7, 7, 8, 8, 8, 8, 8, 8, 8, 8, 8, 8, 8, 8, 8, 8, 8, 8, 8, 8, 8, 8, 8, 8, 8, 8, 8, 8, 8, 8, 8, 8, 8, 8, 8, 8, 8, 8, 8, 8, 8, 8, 8, 8, 8, 8, 8, 8, 8, 8, 8, 8, 8, 8, 8, 8, 8, 8, 8, 8, 8, 8, 8, 8, 8, 8, 8, 8, 8, 8, 8, 8, 8, 8, 8, 8, 8, 8, 8, 8, 8, 8, 8, 8, 8, 8, 8, 8, 8, 8, 8, 8, 8, 8, 8, 8, 8, 8, 8, 8, 8, 8, 8, 8, 8, 8, 8, 8, 8, 8, 8, 8, 8, 8, 8, 8, 8, 8, 8, 8, 8, 8, 8, 8, 8, 8, 8, 8, 8, 8]⟩ : ByteArray) ((i.val : Nat) : Int) = (gD i.val : Int) := by decide +kernel
theorem pU (i : Nat) (h : i < 256) : bt (⟨#[0, 1, 2, 2, 3, 3, 3, 3, 4, 4, 4, 4, 4, 4, 4, 4, 5, 5, 5, 5, 5, 5, 5, 5, 5, 5, 5, 5, 5, 5, 5, 5, 6, 6, 6, 6, 6, 6, 6, 6, 6, 6, 6, 6, 6, 6, 6, 6, 6, 6, 6, 6, 6, 6, 6, 6, 6, 6, 6, 6, 6, 6, 6, 6, 7, 7, 7, 7, 7, 7, 7, 7, 7, 7, 7, 7, 7, 7, 7, 7, 7, 7, 7, 7, 7, 7, 7, 7, 7, 7, 7, 7, 7, 7, 7, 7, 7, 7, 7, 7, 7, 7, 7, 7, 7, 7, 7, 7, 7, 7, 7, 7, 7, 7, 7, 7, 7, 7, 7, 7, 7, 7, 7, 7, 7, 7, 7, 7, 8, 8, 8, 8, 8, 8, 8, 8, 8, 8, 8, 8, 8, 8, 8, 8, 8, 8, 8, 8, 8, 8, 8, 8, 8, 8, 8, 8, 8, 8, 8, 8, 8, 8, 8, 8, 8, 8, 8, 8, 8, 8, 8, 8, 8, 8, 8, 8, 8, 8, 8, 8, 8, 8, 8, 8, 8, 8, 8, 8, 8, 8, 8, 8, 8, 8, 8, 8, 8, 8, 8, 8, 8, 8, 8, 8, 8, 8, 8, 8, 8, 8, 8, 8, 8, 8, 8, 8, 8, 8, 8, 8, 8, 8, 8, 8, 8, 8, 8, 8, 8, 8, 8, 8, 8, 8, 8, 8, 8, 8, 8, 8, 8, 8, 8, 8, 8, 8, 8, 8, 8, 8, 8, 8, 8, 8, 8, 8]⟩ : ByteArray) (i : Int) = (gD i : Int) := tab_all ⟨i, h⟩
theorem lD (v : Nat) (h : v < 18446744073709551616) : gD v ≤ 64 := fA v 64 h
theorem len_j0 (k x c : Nat) (hx : x < 4294967296) (hc : c ≤ 64) : bits_Len64.j0 (k + 1) (x : Int) (c : Int) = some ((c + gD x : Nat) : Int) := by
 rw [bits_Len64.j0]
 have e1 : (x : Int) / 65536 = ((x / 65536 : Nat) : Int) := by omega
 have e2 : (x : Int) / 65536 / 256 = ((x / 65536 / 256 : Nat) : Int) := by omega
 have e3 : (x : Int) / 256 = ((x / 256 : Nat) : Int) := by omega
 by_cases c1 : (x : Int) ≥ 65536
 ·rw [if_pos c1]
  by_cases c2 : (x : Int) / 65536 ≥ 256
  ·rw [if_pos c2, e2, show ((x / 65536 / 256 : Nat) : Int) % 256 = ((x / 65536 / 256 : Nat) : Int) by omega, if_pos (by omega), if_pos (by omega), pU _ (by omega)]
   have h := kI x 24 (by omega)
   rw [show x / 2 ^ 24 = x / 65536 / 256 by omega] at h
   have b := fA (x / 65536 / 256) 8 (by omega)
   rw [bS (c + 16) (by omega) (by omega), bS (c + 16 + 8) (by omega) (by omega), bS (gD _) (by omega) (by omega), bS _ (by omega) (by omega)]
   congr 1; omega
  ·rw [if_neg c2, e1, show ((x / 65536 : Nat) : Int) % 256 = ((x / 65536 : Nat) : Int) by omega, if_pos (by omega), if_pos (by omega), pU _ (by omega)]
   have h := kI x 16 (by omega)
   rw [show x / 2 ^ 16 = x / 65536 by omega] at h
   have b := fA (x / 65536) 8 (by omega)
   rw [bS (c + 16) (by omega) (by omega), bS (gD _) (by omega) (by omega), bS _ (by omega) (by omega)]
   congr 1; omega
 ·rw [if_neg c1]
  by_cases c2 : (x : Int) ≥ 256
  ·rw [if_pos c2, e3, show ((x / 256 : Nat) : Int) % 256 = ((x / 256 : Nat) : Int) by omega, if_pos (by omega), if_pos (by omega), pU _ (by omega)]
   have h := kI x 8 (by omega)
   rw [show x / 2 ^ 8 = x / 256 by omega] at h
   have b := fA (x / 256) 8 (by omega)
   rw [bS (c + 8) (by omega) (by omega), bS (gD _) (by omega) (by omega), bS _ (by omega) (by omega)]
   congr 1; omega
  ·rw [if_neg c2, show (x : Int) % 256 = (x : Int) by omega, if_pos (by omega), if_pos (by omega), pU _ (by omega)]
   have b := fA x 8 (by omega)
   rw [bS (gD _) (by omega) (by omega), bS _ (by omega) (by omega)]
   congr 1
theorem len64_f (k v : Nat) (hv : v < 18446744073709551616) : bits_Len64.f (k + 1) (v : Int) = some (gD v : Int) := by
 unfold bits_Len64.f
 by_cases c : (v : Int) ≥ 4294967296
 ·rw [if_pos c, show (v : Int) / 4294967296 = ((v / 4294967296 : Nat) : Int) by omega]
  have h := len_j0 k (v / 4294967296) 32 (by omega) (by decide)
  have e := kI v 32 (by omega)
  rw [show v / 2 ^ 32 = v / 4294967296 by omega] at e
  rw [show ((32 : Nat) : Int) = 32 from rfl] at h
  rw [h]; congr 1; omega
 ·rw [if_neg c]
  have h := len_j0 k v 0 (by omega) (by decide)
  rw [show ((0 : Nat) : Int) = 0 from rfl] at h
  rw [h, Nat.zero_add]
theorem len_f (k v : Nat) (hv : v < 18446744073709551616) : bits_Len.f (k + 1) (v : Int) = some (gD v : Int) := by
 unfold bits_Len.f; rw [len64_f k v hv]; rfl
theorem xV (v : Nat) (hv : v < 18446744073709551616) : Ev (fun k => bits_Len.f k (v : Int)) (gD v : Int) := Ev.of (bits_Len.mono _) (len_f 0 v hv)

def cutN (v : Nat) (n : Int) : Nat := if n < 1 then 0 else v % 2 ^ n.toNat
theorem cut_mask (v n : Nat) (hv : v < 18446744073709551616) (hn : n < 64) : Go.bits .and .u64 (v : Int) (IntKind.u64.wrap (shl .u64 1 (n : Int) - 1)) = ((v % 2 ^ n : Nat) : Int) := by
 have hp : 2 ^ n ≤ 2 ^ 63 := Nat.pow_le_pow_right (by decide) (by omega)
 have h0 := Nat.two_pow_pos n
 rw [show (1 : Int) = ((1 : Nat) : Int) from rfl, mU, Nat.one_mul, Nat.mod_eq_of_lt (by omega), show ((2 ^ n : Nat) : Int) - ((1 : Nat) : Int) = ((2 ^ n - 1 : Nat) : Int) by omega, eG _ (by omega), tY _ _ hv (by omega)]
theorem cut_f (v : Nat) (hv : v < 18446744073709551616) (n : Int) (h2 : n ≤ 9223372036854775807) : dQ.f (v : Int) n = some (cutN v n : Int) := by
 unfold dQ.f cutN
 by_cases c : n < 1
 ·rw [if_pos c, if_pos c]; rfl
 ·rw [if_neg c, if_neg c]
  obtain ⟨m, rfl⟩ := lU (show 0 ≤ n by omega)
  by_cases c' : (m : Int) ≥ 64
  ·rw [if_pos c', Int.toNat_natCast, Nat.mod_eq_of_lt (by have := rR (show 64 ≤ m by omega); omega)]
  ·rw [if_neg c', eG _ (by omega), if_pos (by omega), cut_mask _ _ hv (by omega), Int.toNat_natCast]
end Go.Proofs.Ytolpdiifmacdbaa.BitsF

-- Printed by a program of this session's out of Lean's print of the translation; Lean checks it.
namespace Go.Proofs.Ytolpdiifmacdbaa.P
open Go.RowKit Go.Proofs.YtolpdiifmacdbaaW.PrintWords Go.Proofs.YtolpdiifmacdbaaW.PrintLast Go.Proofs.YtolpdiifmacdbaaW.PrintMore
attribute [local go_sem] max2_int min2_int max_two min_two max_three min_three max_four min_four

-- NEED 0
/-! ### aZ: function 104 -/
def aZ.f (k : Nat) (a0 a1 : Int) (a2 : Bool) : Option (Int × Int) := if a1 ≤ 0 then ((aH.f k a0 a1).bind fun bt176 => (if a2 = true then (some (bt176.1, 1)) else (some (bt176.1, 0)))) else ((aH.f k a0 a1).bind fun bt178 => (if bt178.2 = true then ((aH.f k a0 (wrap64 (a1 - 1))).bind fun bt180 => (if (Go.bits .and .u64 bt180.1 1) = 0 then (some (bt178.1, 1)) else (if bt180.2 = true then (some (bt178.1, 3)) else (if a2 = true then (some (bt178.1, 3)) else (some (bt178.1, 2)))))) else (if a2 = true then (some (bt178.1, 1)) else (some (bt178.1, 0)))))
theorem aZ.mono : ∀ a0 a1 a2 k, LeO (aZ.f k a0 a1 a2) (aZ.f (k + 1) a0 a1 a2) := by
 intro a0 a1 a2 k
 unfold aZ.f
 repeat' first
   |(with_reducible first|exact aH.mono _ _ _|exact LeO.refl _|exact LeO.none _|refine LeO.ite ?_ ?_|refine LeO.bind ?_ (fun _ => ?_))
   |exact aH.mono _ _ _
   |exact LeO.none _
   |refine LeO.ite ?_ ?_
   |refine LeO.bind ?_ (fun _ => ?_)
theorem aZ.calls (k : Nat) (a0 a1 : Int) (a2 : Bool) (r1 r2 : Int) (w : World) (h : aZ.f k a0 a1 a2 = some (r1, r2)) :
  Calls Try.prog 104 #[.int .u64 a0, .int .i64 a1, .bool a2] w fun e w' => e = .returned (.tuple #[.int .u64 r1, .int .i64 r2]) ∧ Drawn0 w w' := by
 have H : (if a1 ≤ 0 then ((aH.f k a0 a1).bind fun bt176 => (if a2 = true then (some (bt176.1, 1)) else (some (bt176.1, 0)))) else ((aH.f k a0 a1).bind fun bt178 => (if bt178.2 = true then ((aH.f k a0 (wrap64 (a1 - 1))).bind fun bt180 => (if (Go.bits .and .u64 bt180.1 1) = 0 then (some (bt178.1, 1)) else (if bt180.2 = true then (some (bt178.1, 3)) else (if a2 = true then (some (bt178.1, 3)) else (some (bt178.1, 2)))))) else (if a2 = true then (some (bt178.1, 1)) else (some (bt178.1, 0)))))) = some (r1, r2) := h
 clear h
 by_cases c4 : a1 ≤ 0
 ·rw [if_pos c4] at H
  have c4b0 : decide (a1 ≤ 0) = true := decide_eq_true c4
  clear c4
  replace H := bq_ H
  obtain ⟨⟨t176, t177⟩, A50, H⟩ := H
  replace H : (if a2 = true then (some (t176, 1)) else (some (t176, 0))) = some (r1, r2) := H
  have A5 := Aside0.mk A50
  clear A50
  by_cases c6 : a2 = true
  ·subst c6
   have H1 : (some (t176, 1)) = some (r1, r2) := by rw [if_pos rfl] at H; exact H
   clear H
   have H := H1
   clear H1
   simp only [Option.some.injEq, Prod.mk.injEq] at H
   obtain ⟨rfl, rfl⟩ := H
   go_enter Try.func104, Try.ntmps104
   go_wp2_with (first | ((with_reducible refine gate_callee (f := 92) rfl ?_); refine goesL_ (some 19) rfl rfl Try.func92 (by kernel_rfl) rfl #[.int .u64 a0, .int .i64 a1] rfl gl ?_; (with_reducible refine (aH.calls k a0 a1 t176 t177 _ A5.out).mono ?_); rintro e w' ⟨rfl, ⟨nd, rfl⟩⟩; refine ⟨_, rfl, ?_⟩))
   go_ret2
   exact ⟨gr_, gd_⟩
  ·replace c6 := Bool.eq_false_iff.mpr c6
   subst c6
   have H1 : (some (t176, 0)) = some (r1, r2) := by rw [if_neg (show ¬ (false = true) by decide)] at H; exact H
   clear H
   have H := H1
   clear H1
   simp only [Option.some.injEq, Prod.mk.injEq] at H
   obtain ⟨rfl, rfl⟩ := H
   go_enter Try.func104, Try.ntmps104
   go_wp2_with (first | ((with_reducible refine gate_callee (f := 92) rfl ?_); refine goesL_ (some 19) rfl rfl Try.func92 (by kernel_rfl) rfl #[.int .u64 a0, .int .i64 a1] rfl gl ?_; (with_reducible refine (aH.calls k a0 a1 t176 t177 _ A5.out).mono ?_); rintro e w' ⟨rfl, ⟨nd, rfl⟩⟩; refine ⟨_, rfl, ?_⟩))
   go_ret2
   exact ⟨gr_, gd_⟩
 ·rw [if_neg c4] at H
  have c4b0 : decide (a1 ≤ 0) = false := decide_eq_false c4
  clear c4
  replace H := bq_ H
  obtain ⟨⟨t178, t179⟩, A70, H⟩ := H
  replace H : (if t179 = true then ((aH.f k a0 (wrap64 (a1 - 1))).bind fun bt180 => (if (Go.bits .and .u64 bt180.1 1) = 0 then (some (t178, 1)) else (if bt180.2 = true then (some (t178, 3)) else (if a2 = true then (some (t178, 3)) else (some (t178, 2)))))) else (if a2 = true then (some (t178, 1)) else (some (t178, 0)))) = some (r1, r2) := H
  have A7 := Aside0.mk A70
  clear A70
  by_cases c8 : t179 = true
  ·subst c8
   have H1 : ((aH.f k a0 (wrap64 (a1 - 1))).bind fun bt180 => (if (Go.bits .and .u64 bt180.1 1) = 0 then (some (t178, 1)) else (if bt180.2 = true then (some (t178, 3)) else (if a2 = true then (some (t178, 3)) else (some (t178, 2)))))) = some (r1, r2) := by rw [if_pos rfl] at H; exact H
   clear H
   have H := H1
   clear H1
   replace H := bq_ H
   obtain ⟨⟨t180, t181⟩, A90, H⟩ := H
   replace H : (if (Go.bits .and .u64 t180 1) = 0 then (some (t178, 1)) else (if t181 = true then (some (t178, 3)) else (if a2 = true then (some (t178, 3)) else (some (t178, 2))))) = some (r1, r2) := H
   have A9 := Aside0.mk A90
   clear A90
   by_cases c10 : (Go.bits .and .u64 t180 1) = 0
   ·rw [if_pos c10] at H
    have c10b0 : ((Go.bits .and .u64 t180 1) == 0) = true := beq_iff_eq.mpr c10
    have c10b1 : ((Go.bits .and .u64 t180 1) != 0) = false := bne_eq_false_iff_eq.mpr c10
    clear c10
    simp only [Option.some.injEq, Prod.mk.injEq] at H
    obtain ⟨rfl, rfl⟩ := H
    go_enter Try.func104, Try.ntmps104
    go_wp2_with (first | ((with_reducible refine gate_callee (f := 92) rfl ?_); refine goesL_ (some 28) rfl rfl Try.func92 (by kernel_rfl) rfl #[.int .u64 a0, .int .i64 a1] rfl gl ?_; (with_reducible refine (aH.calls k a0 a1 t178 true _ A7.out).mono ?_); rintro e w' ⟨rfl, ⟨nd, rfl⟩⟩; refine ⟨_, rfl, ?_⟩) | ((with_reducible refine gate_callee (f := 92) rfl ?_); refine goesL_ (some 40) rfl rfl Try.func92 (by kernel_rfl) rfl #[.int .u64 a0, .int .i64 (wrap64 (a1 - 1))] rfl gl ?_; (with_reducible refine (aH.calls k a0 (wrap64 (a1 - 1)) t180 t181 _ A9.out).mono ?_); rintro e w' ⟨rfl, ⟨nd, rfl⟩⟩; refine ⟨_, rfl, ?_⟩))
    go_ret2
    exact ⟨gr_, gd_⟩
   ·rw [if_neg c10] at H
    have c10b0 : ((Go.bits .and .u64 t180 1) == 0) = false := beq_eq_false_iff_ne.mpr c10
    have c10b1 : ((Go.bits .and .u64 t180 1) != 0) = true := bne_iff_ne.mpr c10
    by_cases c11 : t181 = true
    ·subst c11
     have H1 : (some (t178, 3)) = some (r1, r2) := by rw [if_pos rfl] at H; exact H
     clear H
     have H := H1
     clear H1
     simp only [Option.some.injEq, Prod.mk.injEq] at H
     obtain ⟨rfl, rfl⟩ := H
     go_enter Try.func104, Try.ntmps104
     go_wp2_with (first | ((with_reducible refine gate_callee (f := 92) rfl ?_); refine goesL_ (some 28) rfl rfl Try.func92 (by kernel_rfl) rfl #[.int .u64 a0, .int .i64 a1] rfl gl ?_; (with_reducible refine (aH.calls k a0 a1 t178 true _ A7.out).mono ?_); rintro e w' ⟨rfl, ⟨nd, rfl⟩⟩; refine ⟨_, rfl, ?_⟩) | ((with_reducible refine gate_callee (f := 92) rfl ?_); refine goesL_ (some 40) rfl rfl Try.func92 (by kernel_rfl) rfl #[.int .u64 a0, .int .i64 (wrap64 (a1 - 1))] rfl gl ?_; (with_reducible refine (aH.calls k a0 (wrap64 (a1 - 1)) t180 true _ A9.out).mono ?_); rintro e w' ⟨rfl, ⟨nd, rfl⟩⟩; refine ⟨_, rfl, ?_⟩))
     go_ret2
     exact ⟨gr_, gd_⟩
    ·replace c11 := Bool.eq_false_iff.mpr c11
     subst c11
     have H1 : (if a2 = true then (some (t178, 3)) else (some (t178, 2))) = some (r1, r2) := by rw [if_neg (show ¬ (false = true) by decide)] at H; exact H
     clear H
     have H := H1
     clear H1
     by_cases c12 : a2 = true
     ·subst c12
      have H1 : (some (t178, 3)) = some (r1, r2) := by rw [if_pos rfl] at H; exact H
      clear H
      have H := H1
      clear H1
      simp only [Option.some.injEq, Prod.mk.injEq] at H
      obtain ⟨rfl, rfl⟩ := H
      go_enter Try.func104, Try.ntmps104
      go_wp2_with (first | ((with_reducible refine gate_callee (f := 92) rfl ?_); refine goesL_ (some 28) rfl rfl Try.func92 (by kernel_rfl) rfl #[.int .u64 a0, .int .i64 a1] rfl gl ?_; (with_reducible refine (aH.calls k a0 a1 t178 true _ A7.out).mono ?_); rintro e w' ⟨rfl, ⟨nd, rfl⟩⟩; refine ⟨_, rfl, ?_⟩) | ((with_reducible refine gate_callee (f := 92) rfl ?_); refine goesL_ (some 40) rfl rfl Try.func92 (by kernel_rfl) rfl #[.int .u64 a0, .int .i64 (wrap64 (a1 - 1))] rfl gl ?_; (with_reducible refine (aH.calls k a0 (wrap64 (a1 - 1)) t180 false _ A9.out).mono ?_); rintro e w' ⟨rfl, ⟨nd, rfl⟩⟩; refine ⟨_, rfl, ?_⟩))
      go_ret2
      exact ⟨gr_, gd_⟩
     ·replace c12 := Bool.eq_false_iff.mpr c12
      subst c12
      have H1 : (some (t178, 2)) = some (r1, r2) := by rw [if_neg (show ¬ (false = true) by decide)] at H; exact H
      clear H
      have H := H1
      clear H1
      simp only [Option.some.injEq, Prod.mk.injEq] at H
      obtain ⟨rfl, rfl⟩ := H
      go_enter Try.func104, Try.ntmps104
      go_wp2_with (first | ((with_reducible refine gate_callee (f := 92) rfl ?_); refine goesL_ (some 28) rfl rfl Try.func92 (by kernel_rfl) rfl #[.int .u64 a0, .int .i64 a1] rfl gl ?_; (with_reducible refine (aH.calls k a0 a1 t178 true _ A7.out).mono ?_); rintro e w' ⟨rfl, ⟨nd, rfl⟩⟩; refine ⟨_, rfl, ?_⟩) | ((with_reducible refine gate_callee (f := 92) rfl ?_); refine goesL_ (some 40) rfl rfl Try.func92 (by kernel_rfl) rfl #[.int .u64 a0, .int .i64 (wrap64 (a1 - 1))] rfl gl ?_; (with_reducible refine (aH.calls k a0 (wrap64 (a1 - 1)) t180 false _ A9.out).mono ?_); rintro e w' ⟨rfl, ⟨nd, rfl⟩⟩; refine ⟨_, rfl, ?_⟩))
      go_ret2
      exact ⟨gr_, gd_⟩
  ·replace c8 := Bool.eq_false_iff.mpr c8
   subst c8
   have H1 : (if a2 = true then (some (t178, 1)) else (some (t178, 0))) = some (r1, r2) := by rw [if_neg (show ¬ (false = true) by decide)] at H; exact H
   clear H
   have H := H1
   clear H1
   by_cases c13 : a2 = true
   ·subst c13
    have H1 : (some (t178, 1)) = some (r1, r2) := by rw [if_pos rfl] at H; exact H
    clear H
    have H := H1
    clear H1
    simp only [Option.some.injEq, Prod.mk.injEq] at H
    obtain ⟨rfl, rfl⟩ := H
    go_enter Try.func104, Try.ntmps104
    go_wp2_with (first | ((with_reducible refine gate_callee (f := 92) rfl ?_); refine goesL_ (some 28) rfl rfl Try.func92 (by kernel_rfl) rfl #[.int .u64 a0, .int .i64 a1] rfl gl ?_; (with_reducible refine (aH.calls k a0 a1 t178 false _ A7.out).mono ?_); rintro e w' ⟨rfl, ⟨nd, rfl⟩⟩; refine ⟨_, rfl, ?_⟩))
    go_ret2
    exact ⟨gr_, gd_⟩
   ·replace c13 := Bool.eq_false_iff.mpr c13
    subst c13
    have H1 : (some (t178, 0)) = some (r1, r2) := by rw [if_neg (show ¬ (false = true) by decide)] at H; exact H
    clear H
    have H := H1
    clear H1
    simp only [Option.some.injEq, Prod.mk.injEq] at H
    obtain ⟨rfl, rfl⟩ := H
    go_enter Try.func104, Try.ntmps104
    go_wp2_with (first | ((with_reducible refine gate_callee (f := 92) rfl ?_); refine goesL_ (some 28) rfl rfl Try.func92 (by kernel_rfl) rfl #[.int .u64 a0, .int .i64 a1] rfl gl ?_; (with_reducible refine (aH.calls k a0 a1 t178 false _ A7.out).mono ?_); rintro e w' ⟨rfl, ⟨nd, rfl⟩⟩; refine ⟨_, rfl, ?_⟩))
    go_ret2
    exact ⟨gr_, gd_⟩

-- NEED 0
/-! ### eF: function 105 -/
def eF.f (a0 : Int) (a1 : Bool) (a2 a3 : Int) : Option (Bool) := if a0 = 1 then (some false) else (if a0 = 2 then (if a1 = true then (some false) else (some (a3 != 0))) else (if a0 = 3 then (if a1 = true then (some (a3 != 0)) else (some false)) else (if a0 = 4 then (some (decide (a3 ≥ 2))) else (if a3 = 3 then (some true) else (if a3 = 2 then (some ((Go.bits .and .u64 a2 1) == 1)) else (some false))))))
theorem eF.calls (a0 : Int) (a1 : Bool) (a2 a3 : Int) (r : Bool) (w : World) (h : eF.f a0 a1 a2 a3 = some r) :
  Calls Try.prog 105 #[.int .i64 a0, .bool a1, .int .u64 a2, .int .i64 a3] w fun e w' => e = .returned (.bool r) ∧ Drawn0 w w' := by
 have H : (if a0 = 1 then (some false) else (if a0 = 2 then (if a1 = true then (some false) else (some (a3 != 0))) else (if a0 = 3 then (if a1 = true then (some (a3 != 0)) else (some false)) else (if a0 = 4 then (some (decide (a3 ≥ 2))) else (if a3 = 3 then (some true) else (if a3 = 2 then (some ((Go.bits .and .u64 a2 1) == 1)) else (some false))))))) = some r := h
 clear h
 by_cases c5 : a0 = 1
 ·rw [if_pos c5] at H
  have c5b0 : (a0 == 1) = true := beq_iff_eq.mpr c5
  have c5b1 : (a0 != 1) = false := bne_eq_false_iff_eq.mpr c5
  clear c5
  obtain rfl := Option.some.inj H
  go_enter Try.func105, Try.ntmps105
  go_wp2
  go_ret
  exact ⟨gr_, gd_⟩
 ·rw [if_neg c5] at H
  have c5b0 : (a0 == 1) = false := beq_eq_false_iff_ne.mpr c5
  have c5b1 : (a0 != 1) = true := bne_iff_ne.mpr c5
  by_cases c6 : a0 = 2
  ·rw [if_pos c6] at H
   have c6b0 : (a0 == 2) = true := beq_iff_eq.mpr c6
   have c6b1 : (a0 != 2) = false := bne_eq_false_iff_eq.mpr c6
   clear c6
   by_cases c7 : a1 = true
   ·subst c7
    have H1 : (some false) = some r := by rw [if_pos rfl] at H; exact H
    clear H
    have H := H1
    clear H1
    obtain rfl := Option.some.inj H
    go_enter Try.func105, Try.ntmps105
    go_wp2
    go_ret
    exact ⟨gr_, gd_⟩
   ·replace c7 := Bool.eq_false_iff.mpr c7
    subst c7
    have H1 : (some (a3 != 0)) = some r := by rw [if_neg (show ¬ (false = true) by decide)] at H; exact H
    clear H
    have H := H1
    clear H1
    obtain rfl := Option.some.inj H
    go_enter Try.func105, Try.ntmps105
    go_wp2
    go_ret
    exact ⟨gr_, gd_⟩
  ·rw [if_neg c6] at H
   have c6b0 : (a0 == 2) = false := beq_eq_false_iff_ne.mpr c6
   have c6b1 : (a0 != 2) = true := bne_iff_ne.mpr c6
   by_cases c8 : a0 = 3
   ·rw [if_pos c8] at H
    have c8b0 : (a0 == 3) = true := beq_iff_eq.mpr c8
    have c8b1 : (a0 != 3) = false := bne_eq_false_iff_eq.mpr c8
    clear c8
    by_cases c9 : a1 = true
    ·subst c9
     have H1 : (some (a3 != 0)) = some r := by rw [if_pos rfl] at H; exact H
     clear H
     have H := H1
     clear H1
     obtain rfl := Option.some.inj H
     go_enter Try.func105, Try.ntmps105
     go_wp2
     go_ret
     exact ⟨gr_, gd_⟩
    ·replace c9 := Bool.eq_false_iff.mpr c9
     subst c9
     have H1 : (some false) = some r := by rw [if_neg (show ¬ (false = true) by decide)] at H; exact H
     clear H
     have H := H1
     clear H1
     obtain rfl := Option.some.inj H
     go_enter Try.func105, Try.ntmps105
     go_wp2
     go_ret
     exact ⟨gr_, gd_⟩
   ·rw [if_neg c8] at H
    have c8b0 : (a0 == 3) = false := beq_eq_false_iff_ne.mpr c8
    have c8b1 : (a0 != 3) = true := bne_iff_ne.mpr c8
    by_cases c10 : a0 = 4
    ·rw [if_pos c10] at H
     have c10b0 : (a0 == 4) = true := beq_iff_eq.mpr c10
     have c10b1 : (a0 != 4) = false := bne_eq_false_iff_eq.mpr c10
     clear c10
     obtain rfl := Option.some.inj H
     go_enter Try.func105, Try.ntmps105
     go_wp2
     go_ret
     exact ⟨gr_, gd_⟩
    ·rw [if_neg c10] at H
     have c10b0 : (a0 == 4) = false := beq_eq_false_iff_ne.mpr c10
     have c10b1 : (a0 != 4) = true := bne_iff_ne.mpr c10
     by_cases c11 : a3 = 3
     ·rw [if_pos c11] at H
      have c11b0 : (a3 == 3) = true := beq_iff_eq.mpr c11
      have c11b1 : (a3 != 3) = false := bne_eq_false_iff_eq.mpr c11
      clear c11
      obtain rfl := Option.some.inj H
      go_enter Try.func105, Try.ntmps105
      go_wp2
      go_ret
      exact ⟨gr_, gd_⟩
     ·rw [if_neg c11] at H
      have c11b0 : (a3 == 3) = false := beq_eq_false_iff_ne.mpr c11
      have c11b1 : (a3 != 3) = true := bne_iff_ne.mpr c11
      by_cases c12 : a3 = 2
      ·rw [if_pos c12] at H
       have c12b0 : (a3 == 2) = true := beq_iff_eq.mpr c12
       have c12b1 : (a3 != 2) = false := bne_eq_false_iff_eq.mpr c12
       clear c12
       obtain rfl := Option.some.inj H
       go_enter Try.func105, Try.ntmps105
       go_wp2
       go_ret
       exact ⟨gr_, gd_⟩
      ·rw [if_neg c12] at H
       have c12b0 : (a3 == 2) = false := beq_eq_false_iff_ne.mpr c12
       have c12b1 : (a3 != 2) = true := bne_iff_ne.mpr c12
       obtain rfl := Option.some.inj H
       go_enter Try.func105, Try.ntmps105
       go_wp2
       go_ret
       exact ⟨gr_, gd_⟩

-- NEED 0
/-! ### bF: function 88 -/
def bF.f (a0 : Int) (a1 : Bool) : Option (Int) := (bK.f a0).bind fun t182 => ((aX.f a0 a1 t182 0).bind fun t183 => (some t183))
theorem bF.calls (a0 : Int) (a1 : Bool) (r : Int) (w : World) (h : bF.f a0 a1 = some r) :
  Calls Try.prog 88 #[.int .i64 a0, .bool a1] w fun e w' => e = .returned (.int .u32 r) ∧ Drawn0 w w' := by
 have H : ((bK.f a0).bind fun t182 => ((aX.f a0 a1 t182 0).bind fun t183 => (some t183))) = some r := h
 clear h
 replace H := bq_ H
 obtain ⟨t182, A30, H⟩ := H
 replace H : ((aX.f a0 a1 t182 0).bind fun t183 => (some t183)) = some r := H
 have A3 := Aside0.mk A30
 clear A30
 replace H := bq_ H
 obtain ⟨t183, A40, H⟩ := H
 replace H : (some t183) = some r := H
 have A4 := Aside0.mk A40
 clear A40
 obtain rfl := Option.some.inj H
 go_enter Try.func88, Try.ntmps88
 go_wp2_with (first | ((with_reducible refine gate_callee (f := 68) rfl ?_); refine goesL_ (some 8) rfl rfl Try.func68 (by kernel_rfl) rfl #[.int .i64 a0] rfl gl ?_; (with_reducible refine (bK.calls a0 t182 _ A3.out).mono ?_); rintro e w' ⟨rfl, ⟨nd, rfl⟩⟩; refine ⟨_, rfl, ?_⟩) | ((with_reducible refine gate_callee (f := 108) rfl ?_); refine goesL_ (some 9) rfl rfl Try.func108 (by kernel_rfl) rfl #[.int .i64 a0, .bool a1, .int .i64 t182, .int .u32 0] rfl gl ?_; (with_reducible refine (aX.calls a0 a1 t182 0 t183 _ A4.out).mono ?_); rintro e w' ⟨rfl, ⟨nd, rfl⟩⟩; refine ⟨_, rfl, ?_⟩))
 go_ret
 exact ⟨gr_, gd_⟩

-- NEED 0
/-! ### bO: function 118 -/
def bO.f (a0 : Int) (a1 : Bool) : Option (Int) := (aR.f a0).bind fun bt184 => ((bK.f a0).bind fun t186 => (if 0 ≤ (IntKind.u64.wrap (bt184.2)) then ((aX.f a0 a1 (wrap64 (t186 - 1)) (((shl .u32 1 (IntKind.u64.wrap (bt184.2))) - 1) % 4294967296)).bind fun t187 => (some t187)) else (none)))
theorem bO.calls (a0 : Int) (a1 : Bool) (r : Int) (w : World) (h : bO.f a0 a1 = some r) :
  Calls Try.prog 118 #[.int .i64 a0, .bool a1] w fun e w' => e = .returned (.int .u32 r) ∧ Drawn0 w w' := by
 have H : ((aR.f a0).bind fun bt184 => ((bK.f a0).bind fun t186 => (if 0 ≤ (IntKind.u64.wrap (bt184.2)) then ((aX.f a0 a1 (wrap64 (t186 - 1)) (((shl .u32 1 (IntKind.u64.wrap (bt184.2))) - 1) % 4294967296)).bind fun t187 => (some t187)) else (none)))) = some r := h
 clear h
 replace H := bq_ H
 obtain ⟨⟨t184, t185⟩, A30, H⟩ := H
 replace H : ((bK.f a0).bind fun t186 => (if 0 ≤ (IntKind.u64.wrap (t185)) then ((aX.f a0 a1 (wrap64 (t186 - 1)) (((shl .u32 1 (IntKind.u64.wrap (t185))) - 1) % 4294967296)).bind fun t187 => (some t187)) else (none))) = some r := H
 have A3 := Aside0.mk A30
 clear A30
 replace H := bq_ H
 obtain ⟨t186, A40, H⟩ := H
 replace H : (if 0 ≤ (IntKind.u64.wrap (t185)) then ((aX.f a0 a1 (wrap64 (t186 - 1)) (((shl .u32 1 (IntKind.u64.wrap (t185))) - 1) % 4294967296)).bind fun t187 => (some t187)) else (none)) = some r := H
 have A4 := Aside0.mk A40
 clear A40
 obtain ⟨ji5, hji5⟩ : ∃ j_ : Int, (IntKind.u64.wrap (t185)) = j_ := ⟨_, rfl⟩
 replace H : (if 0 ≤ (ji5) then ((aX.f a0 a1 (wrap64 (t186 - 1)) (((shl .u32 1 (ji5)) - 1) % 4294967296)).bind fun t187 => (some t187)) else (none)) = some r := by first | (rw [hji5] at H; exact H) | (simp only [hji5] at H ⊢; exact H)
 (try rw [hji5] at A3)
 (try rw [hji5] at A4)
 by_cases c6 : 0 ≤ (ji5)
 ·rw [if_pos c6] at H
  have c6b0 := eq_true c6
  have c6b1 : decide (0 ≤ (ji5)) = true := decide_eq_true c6
  clear c6
  obtain ⟨ji7, hji7⟩ : ∃ j_ : Int, (shl .u32 1 (ji5)) = j_ := ⟨_, rfl⟩
  replace H : ((aX.f a0 a1 (wrap64 (t186 - 1)) (((ji7) - 1) % 4294967296)).bind fun t187 => (some t187)) = some r := by first | (rw [hji7] at H; exact H) | (simp only [hji7] at H ⊢; exact H)
  (try rw [hji7] at A3)
  (try rw [hji7] at A4)
  have hji7_ : (IntKind.u32.wrap (1 * 2 ^ min (ji5).toNat 32)) = ji7 := hji7
  have hji7z : (ji5) ≤ 32 → (IntKind.u32.wrap (1 * 2 ^ (ji5).toNat)) = ji7 := shl_small hji7
  have hji7u : (IntKind.u32.wrap (2 ^ min (ji5).toNat 32)) = ji7 := by have h_ := hji7_; rw [Int.one_mul] at h_; exact h_
  have hji7v : (ji5) ≤ 32 → (IntKind.u32.wrap (2 ^ (ji5).toNat)) = ji7 := fun hle_ => by have h_ := hji7z hle_; rw [Int.one_mul] at h_; exact h_
  obtain ⟨ji8, hji8⟩ : ∃ j_ : Int, (((ji7) - 1) % 4294967296) = j_ := ⟨_, rfl⟩
  replace H : ((aX.f a0 a1 (wrap64 (t186 - 1)) (ji8)).bind fun t187 => (some t187)) = some r := by first | (rw [hji8] at H; exact H) | (simp only [hji8] at H ⊢; exact H)
  (try rw [hji8] at A3)
  (try rw [hji8] at A4)
  have hji8l : 0 ≤ ji8 := by rw [← hji8]; exact Int.emod_nonneg _ (by decide)
  have hji8h : ji8 ≤ 4294967295 := by have := Int.emod_lt_of_pos (((ji7) - 1)) (show (0 : Int) < 4294967296 by decide); omega
  have hji8w : (IntKind.u32.wrap ((ji7) - 1)) = ji8 := (jY _).trans hji8
  (try (have hji8_ := hji8; simp only [Int.add_emod_emod, Int.emod_add_emod, Int.sub_emod_emod, Int.emod_sub_emod] at hji8_))
  replace H := bq_ H
  obtain ⟨t187, A90, H⟩ := H
  replace H : (some t187) = some r := H
  have A9 := Aside0.mk A90
  clear A90
  obtain rfl := Option.some.inj H
  go_enter Try.func118, Try.ntmps118
  go_wp2_with (first | ((with_reducible refine gate_callee (f := 83) rfl ?_); refine goesL_ (some 9) rfl rfl Try.func83 (by kernel_rfl) rfl #[.int .i64 a0] rfl gl ?_; (with_reducible refine (aR.calls a0 t184 t185 _ A3.out).mono ?_); rintro e w' ⟨rfl, ⟨nd, rfl⟩⟩; refine ⟨_, rfl, ?_⟩) | ((with_reducible refine gate_callee (f := 68) rfl ?_); refine goesL_ (some 15) rfl rfl Try.func68 (by kernel_rfl) rfl #[.int .i64 a0] rfl gl ?_; (with_reducible refine (bK.calls a0 t186 _ A4.out).mono ?_); rintro e w' ⟨rfl, ⟨nd, rfl⟩⟩; refine ⟨_, rfl, ?_⟩) | ((with_reducible refine gate_callee (f := 108) rfl ?_); refine goesL_ (some 21) rfl rfl Try.func108 (by kernel_rfl) rfl #[.int .i64 a0, .bool a1, .int .i64 (wrap64 (t186 - 1)), .int .u32 ji8] rfl (by (try simp only [List.map_toArray, List.map_cons, List.map_nil]); first | done | (simp only [hji8]; rfl) | rfl | (simp only [List.length_drop, List.length_take]; rfl)) ?_; (with_reducible refine (aX.calls a0 a1 (wrap64 (t186 - 1)) ji8 t187 _ A9.out).mono ?_); rintro e w' ⟨rfl, ⟨nd, rfl⟩⟩; refine ⟨_, rfl, ?_⟩))
  go_ret
  exact ⟨by first | rfl | (simp; done) | (simp only [← hji5, ← hji7, ← hji8] <;> (first | rfl | (simp; done))) | (simp [*]; done) | (congr 1; (try unfold wrap64); omega) | (congr 1; rw [IntKind.wrap_u64]; omega), gd_⟩
 ·rw [if_neg c6] at H
  exact absurd H (by simp)

-- NEED 0
/-! ### aW: function 107 -/
def aW.f (a0 a1 : Int) (a2 : Bool) : Option (Int × Bool × Bool × Bool × Bool × Bool) := if a1 = 1 then ((bO.f a0 a2).bind fun t190 => (some (t190, false, false, true, false, true))) else (if a1 = 2 then (if a2 = true then ((bO.f a0 a2).bind fun t191 => (some (t191, false, false, true, false, true))) else ((bF.f a0 a2).bind fun t192 => (some (t192, false, false, true, false, true)))) else (if a1 = 3 then (if a2 = true then ((bF.f a0 a2).bind fun t193 => (some (t193, false, false, true, false, true))) else ((bO.f a0 a2).bind fun t194 => (some (t194, false, false, true, false, true)))) else ((bF.f a0 a2).bind fun t195 => (some (t195, false, false, true, false, true)))))

end Go.Proofs.Ytolpdiifmacdbaa.P

/- What the program's package format computes, as plain numbers: widths, parts, classes, whole numbers and exponents. -/
namespace Go.Proofs.Ytolpdiifmacdbaa.Fmt
open Go.RowKit Go.Proofs.Ytolpdiifmacdbaa.P Go.Proofs.Ytolpdiifmacdbaa.Num Go.Proofs.Ytolpdiifmacdbaa.BitsF Go.Proofs.YtolpdiifmacdbaaW.PrintWords Go.Proofs.YtolpdiifmacdbaaW.PrintLast Go.Proofs.YtolpdiifmacdbaaW.PrintMore

def fe (f : Int) : Nat := if f = 0 then 5 else 8
def fm (f : Int) : Nat := if f = 0 then 10 else if f = 1 then 7 else 23
theorem oO (f : Int) : (fe f = 5 ∧ fm f = 10) ∨ (fe f = 8 ∧ fm f = 7) ∨ (fe f = 8 ∧ fm f = 23) := by
 unfold fe fm
 split
 ·exact .inl ⟨rfl, rfl⟩
 ·split
  ·exact .inr (.inl ⟨rfl, rfl⟩)
  ·exact .inr (.inr ⟨rfl, rfl⟩)
theorem dC (f : Int) : 5 ≤ fe f ∧ fe f ≤ 8 ∧ 7 ≤ fm f ∧ fm f ≤ 23 ∧ fe f + fm f ≤ 31 := by
 rcases oO f with ⟨h1, h2⟩ | ⟨h1, h2⟩ | ⟨h1, h2⟩ <;> rw [h1, h2] <;> decide
def fC (f : Int) : Nat := 2 ^ fe f - 1
def bW (f : Int) : Int := 2 - 2 ^ (fe f - 1)
theorem gT (f : Int) : bW f = -14 ∨ bW f = -126 := by
 unfold bW
 rcases oO f with ⟨h1, _⟩ | ⟨h1, _⟩ | ⟨h1, _⟩ <;> rw [h1] <;> simp
theorem fG (f : Int) : fC f = 31 ∨ fC f = 255 := by
 unfold fC
 rcases oO f with ⟨h1, _⟩ | ⟨h1, _⟩ | ⟨h1, _⟩ <;> rw [h1] <;> simp
def cK (f : Int) (neg : Bool) : Nat := if neg then 2 ^ (fe f + fm f) else 0
def bZ (f : Int) (v : Nat) : Bool := decide (v / 2 ^ (fe f + fm f) % 2 = 1)
def lK (f : Int) (v : Nat) : Nat := v / 2 ^ fm f % 2 ^ fe f
def iX (f : Int) (v : Nat) : Nat := v % 2 ^ fm f
theorem wM (f : Int) (v : Nat) : lK f v ≤ fC f := by
 unfold lK fC
 have := Nat.mod_lt (v / 2 ^ fm f) (Nat.two_pow_pos (fe f))
 omega
theorem sD (f : Int) (v : Nat) : iX f v < 2 ^ fm f := Nat.mod_lt _ (Nat.two_pow_pos _)

theorem wu (n : Nat) (h : n < 9223372036854775808) : IntKind.u64.wrap (wrap64 (n : Int)) = (n : Int) := by rw [bS _ (by omega) (by omega), eG _ (by omega)]
theorem dL {n : Nat} (h : n ≤ 31) : 2 ^ n ≤ 2147483648 := Nat.pow_le_pow_right (show 0 < 2 by decide) h
theorem pK {n : Nat} (h : n ≤ 32) : 2 ^ n ≤ 4294967296 := Nat.pow_le_pow_right (show 0 < 2 by decide) h
theorem mY (n : Nat) (h : n ≤ 31) : shl .u32 1 (n : Int) = ((2 ^ n : Nat) : Int) := by
 have := dL h
 rw [show (1 : Int) = ((1 : Nat) : Int) from rfl, zK, Nat.one_mul, Nat.mod_eq_of_lt (by omega)]
theorem uF (a n : Nat) (ha : a < 4294967296) (hn : n ≤ 31) : Go.bits .and .u32 (a : Int) ((shl .u32 1 (n : Int) - 1) % 4294967296) = ((a % 2 ^ n : Nat) : Int) := by
 have h1 := dL hn
 have h0 := Nat.two_pow_pos n
 rw [mY n hn, show (((2 ^ n : Nat) : Int) - 1) % 4294967296 = ((2 ^ n - 1 : Nat) : Int) by omega, xZ _ _ ha (by omega), Nat.and_two_pow_sub_one_eq_mod]
theorem and1_u32 (a : Nat) (ha : a < 4294967296) : Go.bits .and .u32 (a : Int) 1 = ((a % 2 : Nat) : Int) := by
 rw [show (1 : Int) = ((2 ^ 1 - 1 : Nat) : Int) from rfl, xZ _ _ ha (by decide), Nat.and_two_pow_sub_one_eq_mod]
theorem nN (n : Nat) (h : n ≤ 31) : shl .i64 1 (n : Int) = ((2 ^ n : Nat) : Int) := by
 have := dL h
 have := Nat.two_pow_pos n
 unfold shl
 rw [Int.toNat_natCast, Nat.min_eq_left (show n ≤ IntKind.i64.bits by show n ≤ 64; omega), i64_wrap, Int.one_mul, ← tZ, bS _ (by omega) (by omega)]

theorem fF (f : Int) : aR.f f = some ((fe f : Int), (fm f : Int)) := by
 unfold aR.f fe fm
 by_cases h : f = 0
 ·subst h; rfl
 ·rw [if_neg h, if_neg h, if_neg h]
  by_cases h1 : f = 1
  ·subst h1; rfl
  ·rw [if_neg h1, if_neg h1]; rfl
def uU (f : Int) (neg : Bool) (at_ frac : Nat) : Nat := at_ * 2 ^ fm f + frac + cK f neg
theorem qZ (f : Int) (neg : Bool) (a c : Nat) (ha : a ≤ fC f) (hc : c < 2 ^ fm f) : aX.f f neg (a : Int) (c : Int) = some (uU f neg a c : Int) := by
 unfold aX.f uU cK
 rw [fF]
 obtain ⟨b1, b2, b3, b4, b5⟩ := dC f
 have hp := Nat.two_pow_pos (fm f)
 have hle : a * 2 ^ fm f + 2 ^ fm f ≤ 2 ^ (fe f + fm f) := by
  rw [Nat.pow_add, ← Nat.succ_mul]
  apply Nat.mul_le_mul_right
  unfold fC at ha
  have := Nat.two_pow_pos (fe f); omega
 have h31 := dL b5
 have e1 : shl .u32 ((a : Int) % 4294967296) (fm f : Int) = ((a * 2 ^ fm f : Nat) : Int) := by
  have : a < 4294967296 := by have := fG f; omega
  rw [show (a : Int) % 4294967296 = ((a : Nat) : Int) by omega, zK, Nat.mod_eq_of_lt (by omega)]
 have e2 : Go.bits .or .u32 ((a * 2 ^ fm f : Nat) : Int) (c : Int) = ((a * 2 ^ fm f + c : Nat) : Int) := by
  rw [xM _ _ (by omega) (by omega), qU _ _ (fm f) (Nat.mul_mod_left ..) hc]
 simp only [Option.bind_some]
 rw [eG (fm f) (by omega), if_pos (by omega), e1, e2]
 cases neg
 ·simp
 ·simp only [if_true]
  rw [show (fe f : Int) + (fm f : Int) = ((fe f + fm f : Nat) : Int) by omega, wu _ (by omega), if_pos (by omega), mY _ b5, xM _ _ (by omega) (by omega), Nat.or_comm, qU _ (a * 2 ^ fm f + c) (fe f + fm f) (by simp) (by omega)]
  congr 2; omega
theorem rZ (f : Int) : bK.f f = some (fC f : Int) := by
 unfold bK.f fC
 rw [fF]
 obtain ⟨b1, b2, b3, b4, b5⟩ := dC f
 have hp := Nat.two_pow_pos (fe f)
 have h31 := dL (show fe f ≤ 31 by omega)
 simp only [Option.bind_some]
 rw [eG (fe f) (by omega), if_pos (by omega), nN _ (by omega), bS _ (by omega) (by omega)]
 congr 1; omega
theorem lQ (f : Int) : bD.f f = some (bW f) := by
 unfold bD.f bW
 rw [fF]
 obtain ⟨b1, b2, b3, b4, b5⟩ := dC f
 have h31 := dL (show fe f - 1 ≤ 31 by omega)
 have h0 := Nat.two_pow_pos (fe f - 1)
 simp only [Option.bind_some]
 rw [show (fe f : Int) - 1 = ((fe f - 1 : Nat) : Int) by omega, wu _ (by omega), if_pos (by omega), nN _ (by omega), bS _ (by omega) (by omega), tZ]
theorem qP (f : Int) (neg : Bool) : bN.f f neg = some (cK f neg : Int) := by
 unfold bN.f
 have h := qZ f neg 0 0 (Nat.zero_le _) (Nat.two_pow_pos _)
 rw [show ((0 : Nat) : Int) = 0 from rfl] at h
 rw [h]; unfold uU; simp
def mO (f : Int) (neg : Bool) : Nat := fC f * 2 ^ fm f + cK f neg
theorem sJ (f : Int) (neg : Bool) : bF.f f neg = some (mO f neg : Int) := by
 unfold bF.f mO
 have h := qZ f neg (fC f) 0 (Nat.le_refl _) (Nat.two_pow_pos _)
 rw [show ((0 : Nat) : Int) = 0 from rfl] at h
 rw [rZ]; simp only [Option.bind_some]; rw [h]; unfold uU; simp
def uK (f : Int) (neg : Bool) : Nat := fC f * 2 ^ fm f - 1 + cK f neg
theorem vM (f : Int) (neg : Bool) : bO.f f neg = some (uK f neg : Int) := by
 unfold bO.f uK
 obtain ⟨b1, b2, b3, b4, b5⟩ := dC f
 have hp := Nat.two_pow_pos (fm f)
 have h31 := dL (show fm f ≤ 31 by omega)
 have ht := fG f
 rw [fF, rZ]
 simp only [Option.bind_some]
 rw [eG (fm f) (by omega), if_pos (by omega), bS _ (by omega) (by omega), mY _ (by omega), show (((2 ^ fm f : Nat) : Int) - 1) % 4294967296 = ((2 ^ fm f - 1 : Nat) : Int) by omega, show (fC f : Int) - 1 = ((fC f - 1 : Nat) : Int) by omega, qZ f neg _ _ (by omega) (by omega)]
 simp only [Option.bind_some]
 unfold uU
 congr 2
 have : fC f * 2 ^ fm f = (fC f - 1) * 2 ^ fm f + 2 ^ fm f := by rw [← Nat.succ_mul]; congr 1; omega
 omega
end Go.Proofs.Ytolpdiifmacdbaa.Fmt

-- Printed by a program of this session's out of Lean's print of the translation; Lean checks it.
namespace Go.Proofs.Ytolpdiifmacdbaa.P
open Go.RowKit Go.Proofs.YtolpdiifmacdbaaW.PrintWords Go.Proofs.YtolpdiifmacdbaaW.PrintLast Go.Proofs.YtolpdiifmacdbaaW.PrintMore
attribute [local go_sem] max2_int min2_int max_two min_two max_three min_three max_four min_four

-- NEED 0
/-! ### aT: function 63 -/
def aT.f (a0 : Int) : Option (Int × Int) := if a0 = 0 then (some (5, 10)) else (if a0 = 1 then (some (8, 7)) else (some (8, 23)))
theorem aT.calls (a0 r1 r2 : Int) (w : World) (h : aT.f a0 = some (r1, r2)) :
  Calls Try.prog 63 #[.int .i64 a0] w fun e w' => e = .returned (.tuple #[.int .i64 r1, .int .i64 r2]) ∧ Drawn0 w w' := by
 have H : (if a0 = 0 then (some (5, 10)) else (if a0 = 1 then (some (8, 7)) else (some (8, 23)))) = some (r1, r2) := h
 clear h
 by_cases c2 : a0 = 0
 ·rw [if_pos c2] at H
  have c2b0 : (a0 == 0) = true := beq_iff_eq.mpr c2
  have c2b1 : (a0 != 0) = false := bne_eq_false_iff_eq.mpr c2
  clear c2
  simp only [Option.some.injEq, Prod.mk.injEq] at H
  obtain ⟨rfl, rfl⟩ := H
  go_enter Try.func63, Try.ntmps63
  go_wp2
  go_ret2
  exact ⟨gr_, gd_⟩
 ·rw [if_neg c2] at H
  have c2b0 : (a0 == 0) = false := beq_eq_false_iff_ne.mpr c2
  have c2b1 : (a0 != 0) = true := bne_iff_ne.mpr c2
  by_cases c3 : a0 = 1
  ·rw [if_pos c3] at H
   have c3b0 : (a0 == 1) = true := beq_iff_eq.mpr c3
   have c3b1 : (a0 != 1) = false := bne_eq_false_iff_eq.mpr c3
   clear c3
   simp only [Option.some.injEq, Prod.mk.injEq] at H
   obtain ⟨rfl, rfl⟩ := H
   go_enter Try.func63, Try.ntmps63
   go_wp2
   go_ret2
   exact ⟨gr_, gd_⟩
  ·rw [if_neg c3] at H
   have c3b0 : (a0 == 1) = false := beq_eq_false_iff_ne.mpr c3
   have c3b1 : (a0 != 1) = true := bne_iff_ne.mpr c3
   simp only [Option.some.injEq, Prod.mk.injEq] at H
   obtain ⟨rfl, rfl⟩ := H
   go_enter Try.func63, Try.ntmps63
   go_wp2
   go_ret2
   exact ⟨gr_, gd_⟩

-- NEED 0
/-! ### dK: function 81 -/
def dK.f (a0 : Int) (a1 : Bool) : Option (Int) := (aT.f a0).bind fun bt101 => (if a1 = true then (if 0 ≤ (wrap64 (bt101.1 + bt101.2)) then (some (shl .u32 1 (wrap64 (bt101.1 + bt101.2)))) else (none)) else (some 0))
theorem dK.calls (a0 : Int) (a1 : Bool) (r : Int) (w : World) (h : dK.f a0 a1 = some r) :
  Calls Try.prog 81 #[.int .i64 a0, .bool a1] w fun e w' => e = .returned (.int .u32 r) ∧ Drawn0 w w' := by
 have H : ((aT.f a0).bind fun bt101 => (if a1 = true then (if 0 ≤ (wrap64 (bt101.1 + bt101.2)) then (some (shl .u32 1 (wrap64 (bt101.1 + bt101.2)))) else (none)) else (some 0))) = some r := h
 clear h
 replace H := bq_ H
 obtain ⟨⟨t101, t102⟩, A30, H⟩ := H
 replace H : (if a1 = true then (if 0 ≤ (wrap64 (t101 + t102)) then (some (shl .u32 1 (wrap64 (t101 + t102)))) else (none)) else (some 0)) = some r := H
 have A3 := Aside0.mk A30
 clear A30
 by_cases c4 : a1 = true
 ·subst c4
  have H1 : (if 0 ≤ (wrap64 (t101 + t102)) then (some (shl .u32 1 (wrap64 (t101 + t102)))) else (none)) = some r := by rw [if_pos rfl] at H; exact H
  clear H
  have H := H1
  clear H1
  obtain ⟨ji5, hji5⟩ : ∃ j_ : Int, (wrap64 (t101 + t102)) = j_ := ⟨_, rfl⟩
  replace H : (if 0 ≤ (ji5) then (some (shl .u32 1 (ji5))) else (none)) = some r := by first | (rw [hji5] at H; exact H) | (simp only [hji5] at H ⊢; exact H)
  (try rw [hji5] at A3)
  have hji5w : (IntKind.i64.wrap (t101 + t102)) = ji5 := (i64_w _).trans hji5
  by_cases c6 : 0 ≤ (ji5)
  ·rw [if_pos c6] at H
   have c6b0 := eq_true c6
   have c6b1 : decide (0 ≤ (ji5)) = true := decide_eq_true c6
   clear c6
   obtain ⟨ji7, hji7⟩ : ∃ j_ : Int, (shl .u32 1 (ji5)) = j_ := ⟨_, rfl⟩
   replace H : (some ji7) = some r := by first | (rw [hji7] at H; exact H) | (simp only [hji7] at H ⊢; exact H)
   (try rw [hji7] at A3)
   have hji7_ : (IntKind.u32.wrap (1 * 2 ^ min (ji5).toNat 32)) = ji7 := hji7
   have hji7z : (ji5) ≤ 32 → (IntKind.u32.wrap (1 * 2 ^ (ji5).toNat)) = ji7 := shl_small hji7
   have hji7u : (IntKind.u32.wrap (2 ^ min (ji5).toNat 32)) = ji7 := by have h_ := hji7_; rw [Int.one_mul] at h_; exact h_
   have hji7v : (ji5) ≤ 32 → (IntKind.u32.wrap (2 ^ (ji5).toNat)) = ji7 := fun hle_ => by have h_ := hji7z hle_; rw [Int.one_mul] at h_; exact h_
   obtain rfl := Option.some.inj H
   go_enter Try.func81, Try.ntmps81
   go_wp2_with (first | ((with_reducible refine gate_callee (f := 63) rfl ?_); refine goesL_ (some 9) rfl rfl Try.func63 (by kernel_rfl) rfl #[.int .i64 a0] rfl gl ?_; (with_reducible refine (aT.calls a0 t101 t102 _ A3.out).mono ?_); rintro e w' ⟨rfl, ⟨nd, rfl⟩⟩; refine ⟨_, rfl, ?_⟩))
   go_ret
   exact ⟨by first | rfl | (simp; done) | (simp only [← hji5, ← hji7] <;> (first | rfl | (simp; done))) | (simp [*]; done) | (congr 1; (try unfold wrap64); omega) | (congr 1; rw [IntKind.wrap_u64]; omega), gd_⟩
  ·rw [if_neg c6] at H
   exact absurd H (by simp)
 ·replace c4 := Bool.eq_false_iff.mpr c4
  subst c4
  have H1 : (some 0) = some r := by rw [if_neg (show ¬ (false = true) by decide)] at H; exact H
  clear H
  have H := H1
  clear H1
  obtain rfl := Option.some.inj H
  go_enter Try.func81, Try.ntmps81
  go_wp2_with (first | ((with_reducible refine gate_callee (f := 63) rfl ?_); refine goesL_ (some 9) rfl rfl Try.func63 (by kernel_rfl) rfl #[.int .i64 a0] rfl gl ?_; (with_reducible refine (aT.calls a0 t101 t102 _ A3.out).mono ?_); rintro e w' ⟨rfl, ⟨nd, rfl⟩⟩; refine ⟨_, rfl, ?_⟩))
  go_ret
  exact ⟨gr_, gd_⟩

-- NEED 0
/-! ### aY: function 64 -/
def aY.f (a0 : Int) (a1 : Bool) : Option (Int) := (dK.f a0 a1).bind fun t103 => (some t103)
theorem aY.calls (a0 : Int) (a1 : Bool) (r : Int) (w : World) (h : aY.f a0 a1 = some r) :
  Calls Try.prog 64 #[.int .i64 a0, .bool a1] w fun e w' => e = .returned (.int .u32 r) ∧ Drawn0 w w' := by
 have H : ((dK.f a0 a1).bind fun t103 => (some t103)) = some r := h
 clear h
 replace H := bq_ H
 obtain ⟨t103, A30, H⟩ := H
 replace H : (some t103) = some r := H
 have A3 := Aside0.mk A30
 clear A30
 obtain rfl := Option.some.inj H
 go_enter Try.func64, Try.ntmps64
 go_wp2_with (first | ((with_reducible refine gate_callee (f := 81) rfl ?_); refine goesL_ (some 7) rfl rfl Try.func81 (by kernel_rfl) rfl #[.int .i64 a0, .bool a1] rfl gl ?_; (with_reducible refine (dK.calls a0 a1 t103 _ A3.out).mono ?_); rintro e w' ⟨rfl, ⟨nd, rfl⟩⟩; refine ⟨_, rfl, ?_⟩))
 go_ret
 exact ⟨gr_, gd_⟩

-- NEED 0
/-! ### dA: function 35 -/
def dA.f (a0 a1 : Int) : Option (Int) := if (Int.tmod a1 7) = 0 then (some 0) else ((aT.f a0).bind fun bt104 => (if 0 ≤ bt104.1 then (if 0 ≤ bt104.2 then (if (shl .u32 4 bt104.2) = 0 then (none) else (if (Go.bits .and .u32 a1 1) = 1 then ((aY.f a0 true).bind fun t106 => (some (Go.bits .or .u32 (((((shl .u32 ((((shl .u32 1 bt104.1) - 1) % 4294967296) / 2) bt104.2) - (shl .u32 2 bt104.2)) % 4294967296) + (Int.tmod (a1 / 8) (shl .u32 4 bt104.2))) % 4294967296) t106))) else (some (((((shl .u32 ((((shl .u32 1 bt104.1) - 1) % 4294967296) / 2) bt104.2) - (shl .u32 2 bt104.2)) % 4294967296) + (Int.tmod (a1 / 8) (shl .u32 4 bt104.2))) % 4294967296)))) else (none)) else (none)))
theorem dA.calls (a0 a1 r : Int) (w : World) (h : dA.f a0 a1 = some r) :
  Calls Try.prog 35 #[.int .i64 a0, .int .u32 a1] w fun e w' => e = .returned (.int .u32 r) ∧ Drawn0 w w' := by
 have H : (if (Int.tmod a1 7) = 0 then (some 0) else ((aT.f a0).bind fun bt104 => (if 0 ≤ bt104.1 then (if 0 ≤ bt104.2 then (if (shl .u32 4 bt104.2) = 0 then (none) else (if (Go.bits .and .u32 a1 1) = 1 then ((aY.f a0 true).bind fun t106 => (some (Go.bits .or .u32 (((((shl .u32 ((((shl .u32 1 bt104.1) - 1) % 4294967296) / 2) bt104.2) - (shl .u32 2 bt104.2)) % 4294967296) + (Int.tmod (a1 / 8) (shl .u32 4 bt104.2))) % 4294967296) t106))) else (some (((((shl .u32 ((((shl .u32 1 bt104.1) - 1) % 4294967296) / 2) bt104.2) - (shl .u32 2 bt104.2)) % 4294967296) + (Int.tmod (a1 / 8) (shl .u32 4 bt104.2))) % 4294967296)))) else (none)) else (none)))) = some r := h
 clear h
 by_cases c3 : (Int.tmod a1 7) = 0
 ·rw [if_pos c3] at H
  have c3b0 : ((Int.tmod a1 7) == 0) = true := beq_iff_eq.mpr c3
  have c3b1 : ((Int.tmod a1 7) != 0) = false := bne_eq_false_iff_eq.mpr c3
  clear c3
  obtain rfl := Option.some.inj H
  go_enter Try.func35, Try.ntmps35
  go_wp2
  repeat (go_quiet (fail); try go_wp2)
  go_ret
  exact ⟨gr_, gd_⟩
 ·rw [if_neg c3] at H
  have c3b0 : ((Int.tmod a1 7) == 0) = false := beq_eq_false_iff_ne.mpr c3
  have c3b1 : ((Int.tmod a1 7) != 0) = true := bne_iff_ne.mpr c3
  replace H := bq_ H
  obtain ⟨⟨t104, t105⟩, A40, H⟩ := H
  replace H : (if 0 ≤ t104 then (if 0 ≤ t105 then (if (shl .u32 4 t105) = 0 then (none) else (if (Go.bits .and .u32 a1 1) = 1 then ((aY.f a0 true).bind fun t106 => (some (Go.bits .or .u32 (((((shl .u32 ((((shl .u32 1 t104) - 1) % 4294967296) / 2) t105) - (shl .u32 2 t105)) % 4294967296) + (Int.tmod (a1 / 8) (shl .u32 4 t105))) % 4294967296) t106))) else (some (((((shl .u32 ((((shl .u32 1 t104) - 1) % 4294967296) / 2) t105) - (shl .u32 2 t105)) % 4294967296) + (Int.tmod (a1 / 8) (shl .u32 4 t105))) % 4294967296)))) else (none)) else (none)) = some r := H
  have A4 := Aside0.mk A40
  clear A40
  by_cases c5 : 0 ≤ t104
  ·rw [if_pos c5] at H
   have c5b0 := eq_true c5
   have c5b1 : decide (0 ≤ t104) = true := decide_eq_true c5
   clear c5
   obtain ⟨ji6, hji6⟩ : ∃ j_ : Int, (shl .u32 1 t104) = j_ := ⟨_, rfl⟩
   replace H : (if 0 ≤ t105 then (if (shl .u32 4 t105) = 0 then (none) else (if (Go.bits .and .u32 a1 1) = 1 then ((aY.f a0 true).bind fun t106 => (some (Go.bits .or .u32 (((((shl .u32 ((((ji6) - 1) % 4294967296) / 2) t105) - (shl .u32 2 t105)) % 4294967296) + (Int.tmod (a1 / 8) (shl .u32 4 t105))) % 4294967296) t106))) else (some (((((shl .u32 ((((ji6) - 1) % 4294967296) / 2) t105) - (shl .u32 2 t105)) % 4294967296) + (Int.tmod (a1 / 8) (shl .u32 4 t105))) % 4294967296)))) else (none)) = some r := by first | (rw [hji6] at H; exact H) | (simp only [hji6] at H ⊢; exact H)
   (try rw [hji6] at A4)
   have hji6_ : (IntKind.u32.wrap (1 * 2 ^ min t104.toNat 32)) = ji6 := hji6
   have hji6z : t104 ≤ 32 → (IntKind.u32.wrap (1 * 2 ^ t104.toNat)) = ji6 := shl_small hji6
   have hji6u : (IntKind.u32.wrap (2 ^ min t104.toNat 32)) = ji6 := by have h_ := hji6_; rw [Int.one_mul] at h_; exact h_
   have hji6v : t104 ≤ 32 → (IntKind.u32.wrap (2 ^ t104.toNat)) = ji6 := fun hle_ => by have h_ := hji6z hle_; rw [Int.one_mul] at h_; exact h_
   obtain ⟨ji7, hji7⟩ : ∃ j_ : Int, (((ji6) - 1) % 4294967296) = j_ := ⟨_, rfl⟩
   replace H : (if 0 ≤ t105 then (if (shl .u32 4 t105) = 0 then (none) else (if (Go.bits .and .u32 a1 1) = 1 then ((aY.f a0 true).bind fun t106 => (some (Go.bits .or .u32 (((((shl .u32 ((ji7) / 2) t105) - (shl .u32 2 t105)) % 4294967296) + (Int.tmod (a1 / 8) (shl .u32 4 t105))) % 4294967296) t106))) else (some (((((shl .u32 ((ji7) / 2) t105) - (shl .u32 2 t105)) % 4294967296) + (Int.tmod (a1 / 8) (shl .u32 4 t105))) % 4294967296)))) else (none)) = some r := by first | (rw [hji7] at H; exact H) | (simp only [hji7] at H ⊢; exact H)
   (try rw [hji7] at A4)
   have hji7l : 0 ≤ ji7 := by rw [← hji7]; exact Int.emod_nonneg _ (by decide)
   have hji7h : ji7 ≤ 4294967295 := by have := Int.emod_lt_of_pos (((ji6) - 1)) (show (0 : Int) < 4294967296 by decide); omega
   have hji7w : (IntKind.u32.wrap ((ji6) - 1)) = ji7 := (jY _).trans hji7
   (try (have hji7_ := hji7; simp only [Int.add_emod_emod, Int.emod_add_emod, Int.sub_emod_emod, Int.emod_sub_emod] at hji7_))
   by_cases c8 : 0 ≤ t105
   ·rw [if_pos c8] at H
    have c8b0 := eq_true c8
    have c8b1 : decide (0 ≤ t105) = true := decide_eq_true c8
    clear c8
    obtain ⟨ji9, hji9⟩ : ∃ j_ : Int, (shl .u32 ((ji7) / 2) t105) = j_ := ⟨_, rfl⟩
    replace H : (if (shl .u32 4 t105) = 0 then (none) else (if (Go.bits .and .u32 a1 1) = 1 then ((aY.f a0 true).bind fun t106 => (some (Go.bits .or .u32 (((((ji9) - (shl .u32 2 t105)) % 4294967296) + (Int.tmod (a1 / 8) (shl .u32 4 t105))) % 4294967296) t106))) else (some (((((ji9) - (shl .u32 2 t105)) % 4294967296) + (Int.tmod (a1 / 8) (shl .u32 4 t105))) % 4294967296)))) = some r := by first | (rw [hji9] at H; exact H) | (simp only [hji9] at H ⊢; exact H)
    (try rw [hji9] at A4)
    have hji9_ : (IntKind.u32.wrap (((ji7) / 2) * 2 ^ min t105.toNat 32)) = ji9 := hji9
    have hji9z : t105 ≤ 32 → (IntKind.u32.wrap (((ji7) / 2) * 2 ^ t105.toNat)) = ji9 := shl_small hji9
    have c10b0 := eq_true (of_decide_eq_true (by first | (with_reducible assumption) | assumption) : 0 ≤ t105)
    obtain ⟨ji11, hji11⟩ : ∃ j_ : Int, (shl .u32 2 t105) = j_ := ⟨_, rfl⟩
    replace H : (if (shl .u32 4 t105) = 0 then (none) else (if (Go.bits .and .u32 a1 1) = 1 then ((aY.f a0 true).bind fun t106 => (some (Go.bits .or .u32 (((((ji9) - (ji11)) % 4294967296) + (Int.tmod (a1 / 8) (shl .u32 4 t105))) % 4294967296) t106))) else (some (((((ji9) - (ji11)) % 4294967296) + (Int.tmod (a1 / 8) (shl .u32 4 t105))) % 4294967296)))) = some r := by first | (rw [hji11] at H; exact H) | (simp only [hji11] at H ⊢; exact H)
    (try rw [hji11] at A4)
    have hji11_ : (IntKind.u32.wrap (2 * 2 ^ min t105.toNat 32)) = ji11 := hji11
    have hji11z : t105 ≤ 32 → (IntKind.u32.wrap (2 * 2 ^ t105.toNat)) = ji11 := shl_small hji11
    obtain ⟨ji12, hji12⟩ : ∃ j_ : Int, (((ji9) - (ji11)) % 4294967296) = j_ := ⟨_, rfl⟩
    replace H : (if (shl .u32 4 t105) = 0 then (none) else (if (Go.bits .and .u32 a1 1) = 1 then ((aY.f a0 true).bind fun t106 => (some (Go.bits .or .u32 (((ji12) + (Int.tmod (a1 / 8) (shl .u32 4 t105))) % 4294967296) t106))) else (some (((ji12) + (Int.tmod (a1 / 8) (shl .u32 4 t105))) % 4294967296)))) = some r := by first | (rw [hji12] at H; exact H) | (simp only [hji12] at H ⊢; exact H)
    (try rw [hji12] at A4)
    have hji12l : 0 ≤ ji12 := by rw [← hji12]; exact Int.emod_nonneg _ (by decide)
    have hji12h : ji12 ≤ 4294967295 := by have := Int.emod_lt_of_pos (((ji9) - (ji11))) (show (0 : Int) < 4294967296 by decide); omega
    have hji12w : (IntKind.u32.wrap ((ji9) - (ji11))) = ji12 := (jY _).trans hji12
    (try (have hji12_ := hji12; simp only [Int.add_emod_emod, Int.emod_add_emod, Int.sub_emod_emod, Int.emod_sub_emod] at hji12_))
    have c13b0 := eq_true (of_decide_eq_true (by first | (with_reducible assumption) | assumption) : 0 ≤ t105)
    obtain ⟨ji14, hji14⟩ : ∃ j_ : Int, (shl .u32 4 t105) = j_ := ⟨_, rfl⟩
    replace H : (if (ji14) = 0 then (none) else (if (Go.bits .and .u32 a1 1) = 1 then ((aY.f a0 true).bind fun t106 => (some (Go.bits .or .u32 (((ji12) + (Int.tmod (a1 / 8) (ji14))) % 4294967296) t106))) else (some (((ji12) + (Int.tmod (a1 / 8) (ji14))) % 4294967296)))) = some r := by first | (rw [hji14] at H; exact H) | (simp only [hji14] at H ⊢; exact H)
    (try rw [hji14] at A4)
    have hji14_ : (IntKind.u32.wrap (4 * 2 ^ min t105.toNat 32)) = ji14 := hji14
    have hji14z : t105 ≤ 32 → (IntKind.u32.wrap (4 * 2 ^ t105.toNat)) = ji14 := shl_small hji14
    by_cases c15 : (ji14) = 0
    ·rw [if_pos c15] at H
     exact absurd H (by simp)
    ·rw [if_neg c15] at H
     have c15b0 : ((ji14) == 0) = false := beq_eq_false_iff_ne.mpr c15
     have c15b1 : ((ji14) != 0) = true := bne_iff_ne.mpr c15
     obtain ⟨ji16, hji16⟩ : ∃ j_ : Int, (((ji12) + (Int.tmod (a1 / 8) (ji14))) % 4294967296) = j_ := ⟨_, rfl⟩
     replace H : (if (Go.bits .and .u32 a1 1) = 1 then ((aY.f a0 true).bind fun t106 => (some (Go.bits .or .u32 (ji16) t106))) else (some ji16)) = some r := by first | (rw [hji16] at H; exact H) | (simp only [hji16] at H ⊢; exact H)
     (try rw [hji16] at A4)
     have hji16l : 0 ≤ ji16 := by rw [← hji16]; exact Int.emod_nonneg _ (by decide)
     have hji16h : ji16 ≤ 4294967295 := by have := Int.emod_lt_of_pos (((ji12) + (Int.tmod (a1 / 8) (ji14)))) (show (0 : Int) < 4294967296 by decide); omega
     have hji16w : (IntKind.u32.wrap ((ji12) + (Int.tmod (a1 / 8) (ji14)))) = ji16 := (jY _).trans hji16
     (try (have hji16_ := hji16; simp only [Int.add_emod_emod, Int.emod_add_emod, Int.sub_emod_emod, Int.emod_sub_emod] at hji16_))
     by_cases c17 : (Go.bits .and .u32 a1 1) = 1
     ·rw [if_pos c17] at H
      have c17b0 : ((Go.bits .and .u32 a1 1) == 1) = true := beq_iff_eq.mpr c17
      have c17b1 : ((Go.bits .and .u32 a1 1) != 1) = false := bne_eq_false_iff_eq.mpr c17
      clear c17
      replace H := bq_ H
      obtain ⟨t106, A180, H⟩ := H
      replace H : (some (Go.bits .or .u32 (ji16) t106)) = some r := H
      have A18 := Aside0.mk A180
      clear A180
      obtain rfl := Option.some.inj H
      go_enter Try.func35, Try.ntmps35
      go_wp2_with (first | (go_at_call 63; (with_reducible refine (aT.calls a0 t104 t105 _ A4.out).mono ?_); rintro e w' ⟨rfl, ⟨nd, rfl⟩⟩; (try first | exact ⟨rfl, _, World.drewN_drewN _ _ _⟩ | exact ⟨rfl, _, Eq.trans (World.drewN_drewN _ _ _) (congrArg (World.drewN _) (Nat.add_assoc _ _ _))⟩)) | (go_at_call 64; (with_reducible refine (aY.calls a0 true t106 _ A18.out).mono ?_); rintro e w' ⟨rfl, ⟨nd, rfl⟩⟩; (try first | exact ⟨rfl, _, World.drewN_drewN _ _ _⟩ | exact ⟨rfl, _, Eq.trans (World.drewN_drewN _ _ _) (congrArg (World.drewN _) (Nat.add_assoc _ _ _))⟩)))
      repeat (go_quiet (first | (go_at_call 63; (with_reducible refine (aT.calls a0 t104 t105 _ A4.out).mono ?_); rintro e w' ⟨rfl, ⟨nd, rfl⟩⟩; (try first | exact ⟨rfl, _, World.drewN_drewN _ _ _⟩ | exact ⟨rfl, _, Eq.trans (World.drewN_drewN _ _ _) (congrArg (World.drewN _) (Nat.add_assoc _ _ _))⟩)) | (go_at_call 64; (with_reducible refine (aY.calls a0 true t106 _ A18.out).mono ?_); rintro e w' ⟨rfl, ⟨nd, rfl⟩⟩; (try first | exact ⟨rfl, _, World.drewN_drewN _ _ _⟩ | exact ⟨rfl, _, Eq.trans (World.drewN_drewN _ _ _) (congrArg (World.drewN _) (Nat.add_assoc _ _ _))⟩))); try go_wp2_with (first | (go_at_call 63; (with_reducible refine (aT.calls a0 t104 t105 _ A4.out).mono ?_); rintro e w' ⟨rfl, ⟨nd, rfl⟩⟩; (try first | exact ⟨rfl, _, World.drewN_drewN _ _ _⟩ | exact ⟨rfl, _, Eq.trans (World.drewN_drewN _ _ _) (congrArg (World.drewN _) (Nat.add_assoc _ _ _))⟩)) | (go_at_call 64; (with_reducible refine (aY.calls a0 true t106 _ A18.out).mono ?_); rintro e w' ⟨rfl, ⟨nd, rfl⟩⟩; (try first | exact ⟨rfl, _, World.drewN_drewN _ _ _⟩ | exact ⟨rfl, _, Eq.trans (World.drewN_drewN _ _ _) (congrArg (World.drewN _) (Nat.add_assoc _ _ _))⟩))))
      go_ret
      exact ⟨by first | rfl | (simp; done) | (simp only [← hji6, ← hji7, ← hji9, ← hji11, ← hji12, ← hji14, ← hji16] <;> (first | rfl | (simp; done))) | (simp [*]; done) | (congr 1; (try unfold wrap64); omega) | (congr 1; rw [IntKind.wrap_u64]; omega), gd_⟩
     ·rw [if_neg c17] at H
      have c17b0 : ((Go.bits .and .u32 a1 1) == 1) = false := beq_eq_false_iff_ne.mpr c17
      have c17b1 : ((Go.bits .and .u32 a1 1) != 1) = true := bne_iff_ne.mpr c17
      obtain rfl := Option.some.inj H
      go_enter Try.func35, Try.ntmps35
      go_wp2_with (first | (go_at_call 63; (with_reducible refine (aT.calls a0 t104 t105 _ A4.out).mono ?_); rintro e w' ⟨rfl, ⟨nd, rfl⟩⟩; (try first | exact ⟨rfl, _, World.drewN_drewN _ _ _⟩ | exact ⟨rfl, _, Eq.trans (World.drewN_drewN _ _ _) (congrArg (World.drewN _) (Nat.add_assoc _ _ _))⟩)))
      repeat (go_quiet (first | (go_at_call 63; (with_reducible refine (aT.calls a0 t104 t105 _ A4.out).mono ?_); rintro e w' ⟨rfl, ⟨nd, rfl⟩⟩; (try first | exact ⟨rfl, _, World.drewN_drewN _ _ _⟩ | exact ⟨rfl, _, Eq.trans (World.drewN_drewN _ _ _) (congrArg (World.drewN _) (Nat.add_assoc _ _ _))⟩))); try go_wp2_with (first | (go_at_call 63; (with_reducible refine (aT.calls a0 t104 t105 _ A4.out).mono ?_); rintro e w' ⟨rfl, ⟨nd, rfl⟩⟩; (try first | exact ⟨rfl, _, World.drewN_drewN _ _ _⟩ | exact ⟨rfl, _, Eq.trans (World.drewN_drewN _ _ _) (congrArg (World.drewN _) (Nat.add_assoc _ _ _))⟩))))
      go_ret
      exact ⟨by first | rfl | (simp; done) | (simp only [← hji6, ← hji7, ← hji9, ← hji11, ← hji12, ← hji14, ← hji16] <;> (first | rfl | (simp; done))) | (simp [*]; done) | (congr 1; (try unfold wrap64); omega) | (congr 1; rw [IntKind.wrap_u64]; omega), gd_⟩
   ·rw [if_neg c8] at H
    exact absurd H (by simp)
  ·rw [if_neg c5] at H
   exact absurd H (by simp)

-- NEED 0
/-! ### bV: function 65 -/
def bV.f (a0 : Int) : Option (Int) := (aT.f a0).bind fun bt107 => (if 0 ≤ (wrap64 ((wrap64 (1 + bt107.1)) + bt107.2)) then (some ((IntKind.u64.wrap ((shl .u64 1 (wrap64 ((wrap64 (1 + bt107.1)) + bt107.2))) - 1)) % 4294967296)) else (none))
theorem bV.calls (a0 r : Int) (w : World) (h : bV.f a0 = some r) :
  Calls Try.prog 65 #[.int .i64 a0] w fun e w' => e = .returned (.int .u32 r) ∧ Drawn0 w w' := by
 have H : ((aT.f a0).bind fun bt107 => (if 0 ≤ (wrap64 ((wrap64 (1 + bt107.1)) + bt107.2)) then (some ((IntKind.u64.wrap ((shl .u64 1 (wrap64 ((wrap64 (1 + bt107.1)) + bt107.2))) - 1)) % 4294967296)) else (none))) = some r := h
 clear h
 replace H := bq_ H
 obtain ⟨⟨t107, t108⟩, A20, H⟩ := H
 replace H : (if 0 ≤ (wrap64 ((wrap64 (1 + t107)) + t108)) then (some ((IntKind.u64.wrap ((shl .u64 1 (wrap64 ((wrap64 (1 + t107)) + t108))) - 1)) % 4294967296)) else (none)) = some r := H
 have A2 := Aside0.mk A20
 clear A20
 obtain ⟨ji3, hji3⟩ : ∃ j_ : Int, (wrap64 ((wrap64 (1 + t107)) + t108)) = j_ := ⟨_, rfl⟩
 replace H : (if 0 ≤ (ji3) then (some ((IntKind.u64.wrap ((shl .u64 1 (ji3)) - 1)) % 4294967296)) else (none)) = some r := by first | (rw [hji3] at H; exact H) | (simp only [hji3] at H ⊢; exact H)
 (try rw [hji3] at A2)
 have hji3w : (IntKind.i64.wrap ((wrap64 (1 + t107)) + t108)) = ji3 := (i64_w _).trans hji3
 by_cases c4 : 0 ≤ (ji3)
 ·rw [if_pos c4] at H
  have c4b0 := eq_true c4
  have c4b1 : decide (0 ≤ (ji3)) = true := decide_eq_true c4
  clear c4
  obtain ⟨ji5, hji5⟩ : ∃ j_ : Int, (shl .u64 1 (ji3)) = j_ := ⟨_, rfl⟩
  replace H : (some ((IntKind.u64.wrap ((ji5) - 1)) % 4294967296)) = some r := by first | (rw [hji5] at H; exact H) | (simp only [hji5] at H ⊢; exact H)
  (try rw [hji5] at A2)
  have hji5_ : (IntKind.u64.wrap (1 * 2 ^ min (ji3).toNat 64)) = ji5 := hji5
  have hji5z : (ji3) ≤ 64 → (IntKind.u64.wrap (1 * 2 ^ (ji3).toNat)) = ji5 := shl_small hji5
  have hji5u : (IntKind.u64.wrap (2 ^ min (ji3).toNat 64)) = ji5 := by have h_ := hji5_; rw [Int.one_mul] at h_; exact h_
  have hji5v : (ji3) ≤ 64 → (IntKind.u64.wrap (2 ^ (ji3).toNat)) = ji5 := fun hle_ => by have h_ := hji5z hle_; rw [Int.one_mul] at h_; exact h_
  obtain rfl := Option.some.inj H
  go_enter Try.func65, Try.ntmps65
  go_wp2_with (first | ((with_reducible refine gate_callee (f := 63) rfl ?_); refine goesL_ (some 7) rfl rfl Try.func63 (by kernel_rfl) rfl #[.int .i64 a0] rfl gl ?_; (with_reducible refine (aT.calls a0 t107 t108 _ A2.out).mono ?_); rintro e w' ⟨rfl, ⟨nd, rfl⟩⟩; refine ⟨_, rfl, ?_⟩))
  go_ret
  exact ⟨by first | rfl | (simp; done) | (simp only [← hji3, ← hji5] <;> (first | rfl | (simp; done))) | (simp [*]; done) | (congr 1; (try unfold wrap64); omega) | (congr 1; rw [IntKind.wrap_u64]; omega), gd_⟩
 ·rw [if_neg c4] at H
  exact absurd H (by simp)

-- NEED 0
/-! ### aV: function 36 -/
def aV.f (a0 a1 : Int) : Option (Int) := (aT.f a0).bind fun bt109 => (if 0 ≤ bt109.1 then (if 0 ≤ bt109.2 then (if (shl .u32 3 bt109.2) = 0 then (none) else (if 0 ≤ (wrap64 (bt109.2 - 1)) then (if (shl .u32 9 bt109.2) = 0 then (none) else ((some (([0, 1, ((shl .u32 1 bt109.2) - 1) % 4294967296, shl .u32 1 bt109.2, shl .u32 ((((shl .u32 1 bt109.1) - 1) % 4294967296) / 2) bt109.2, ((shl .u32 ((((shl .u32 1 bt109.1) - 1) % 4294967296) / 2) bt109.2) + 1) % 4294967296, ((shl .u32 ((((shl .u32 1 bt109.1) - 1) % 4294967296) / 2) bt109.2) - 1) % 4294967296, ((shl .u32 ((((shl .u32 1 bt109.1) - 1) % 4294967296) / 2) bt109.2) + (shl .u32 1 bt109.2)) % 4294967296, ((shl .u32 ((((shl .u32 1 bt109.1) - 1) % 4294967296) / 2) bt109.2) + (Int.tmod (a1 / 16) (shl .u32 3 bt109.2))) % 4294967296, ((shl .u32 (((shl .u32 1 bt109.1) - 1) % 4294967296) bt109.2) - 1) % 4294967296, shl .u32 (((shl .u32 1 bt109.1) - 1) % 4294967296) bt109.2, Go.bits .or .u32 (shl .u32 (((shl .u32 1 bt109.1) - 1) % 4294967296) bt109.2) 1, Go.bits .or .u32 (shl .u32 (((shl .u32 1 bt109.1) - 1) % 4294967296) bt109.2) (shl .u32 1 (wrap64 (bt109.2 - 1))), ((shl .u32 ((((shl .u32 1 bt109.1) - 1) % 4294967296) / 2) bt109.2) - (Int.tmod (a1 / 16) (shl .u32 9 bt109.2))) % 4294967296, a1 / 16] : List Int) : List Int)).bind fun y111 => (if 0 ≤ (Int.tmod a1 15) then (if (Int.tmod a1 15) < (y111.length : Int) then ((bV.f a0).bind fun t115 => (if (a1 / 2147483648) = 1 then ((aY.f a0 true).bind fun t116 => (some (Go.bits .or .u32 (Go.bits .and .u32 (rd y111 (Int.tmod a1 15)) t115) t116))) else (some (Go.bits .and .u32 (rd y111 (Int.tmod a1 15)) t115)))) else (none)) else (none)))) else (none))) else (none)) else (none))

end Go.Proofs.Ytolpdiifmacdbaa.P

/- What the reference's formats are: the same plain numbers. -/
namespace Go.Proofs.Ytolpdiifmacdbaa.Round
open Go.RowKit Go.Proofs.Ytolpdiifmacdbaa.P Go.Proofs.Ytolpdiifmacdbaa.Num Go.Proofs.Ytolpdiifmacdbaa.BitsF Go.Proofs.Ytolpdiifmacdbaa.Fmt Go.Proofs.YtolpdiifmacdbaaW.PrintWords Go.Proofs.YtolpdiifmacdbaaW.PrintLast Go.Proofs.YtolpdiifmacdbaaW.PrintMore

theorem oP (a b : Nat) : (((a : Int) == (b : Int)) : Bool) = decide (a = b) := by
 by_cases h : a = b
 ·subst h; simp
 ·rw [beq_eq_false_iff_ne.mpr (by omega)]; simp [h]
theorem gW (f : Int) : aT.f f = some ((fe f : Int), (fm f : Int)) := by
 unfold aT.f fe fm
 by_cases h : f = 0
 ·subst h; rfl
 ·rw [if_neg h, if_neg h, if_neg h]
  by_cases h1 : f = 1
  ·subst h1; rfl
  ·rw [if_neg h1, if_neg h1]; rfl
theorem vL (f : Int) (neg : Bool) : dK.f f neg = some (cK f neg : Int) := by
 unfold dK.f cK
 obtain ⟨b1, b2, b3, b4, b5⟩ := dC f
 rw [gW]; simp only [Option.bind_some]
 cases neg
 ·rfl
 ·simp only [if_true]
  rw [show (fe f : Int) + (fm f : Int) = ((fe f + fm f : Nat) : Int) by omega, bS _ (by omega) (by omega), if_pos (by omega), mY _ b5]
theorem jS (f : Int) (neg : Bool) : aY.f f neg = some (cK f neg : Int) := by
 unfold aY.f; rw [vL]; rfl
theorem jV (f : Int) (neg : Bool) : mO f neg < 4294967296 ∧ fC f * 2 ^ fm f + 2 ^ fm f = 2 ^ (fe f + fm f) := by
 obtain ⟨b1, b2, b3, b4, b5⟩ := dC f
 have h31 := dL b5
 have hp := Nat.two_pow_pos (fm f)
 have e : fC f * 2 ^ fm f + 2 ^ fm f = 2 ^ (fe f + fm f) := by
  rw [Nat.pow_add, ← Nat.succ_mul]; congr 1
  unfold fC; have := Nat.two_pow_pos (fe f); omega
 refine ⟨?_, e⟩
 unfold mO cK; split <;> omega
/- The reference's parts of a number, its class, its whole number and exponent, its place in the order: as plain numbers. -/

def xA (f : Int) (v : Nat) : Nat := v % 2 ^ (fe f + fm f + 1)
theorem low_lt (f : Int) (v : Nat) : xA f v < 2 ^ (fe f + fm f + 1) := Nat.mod_lt _ (Nat.two_pow_pos _)
def maskN (f : Int) : Nat := 2 ^ (fe f + fm f + 1) - 1
theorem mask_lit (n : Nat) (hn : n ≤ 32) : (IntKind.u64.wrap (shl .u64 1 (n : Int) - 1)) % 4294967296 = ((2 ^ n - 1 : Nat) : Int) := by
 have h32 := pK hn
 have h0 := Nat.two_pow_pos n
 rw [show shl .u64 1 (n : Int) = _ from mU 1 n, Nat.one_mul]
 generalize 2 ^ n = P at *
 rw [Nat.mod_eq_of_lt (by omega), jT]
 omega
theorem width_f (f : Int) : wrap64 ((wrap64 (1 + (fe f : Int))) + (fm f : Int)) = ((fe f + fm f + 1 : Nat) : Int) := by
 obtain ⟨b1, b2, b3, b4, b5⟩ := dC f
 rw [bS (1 + (fe f : Int)) (by omega) (by omega), bS _ (by omega) (by omega)]; omega
theorem lC (f : Int) : bV.f f = some (maskN f : Int) := by
 unfold bV.f
 have h := dC f
 rw [gW, Option.bind_some]
 dsimp only
 rw [width_f, mask_lit _ (by omega)]
 exact if_pos (Int.natCast_nonneg _)
theorem yS (a n : Nat) (hn : n ≤ 31) : wrap64 ((a % 2 ^ n : Nat) : Int) = ((a % 2 ^ n : Nat) : Int) := by
 have h1 := dL hn
 have h2 := Nat.mod_lt a (Nat.two_pow_pos n)
 generalize a % 2 ^ n = q at *
 exact bS _ (by omega) (by omega)
def bE (f : Int) (v : Nat) : Nat :=
 if lK f v = 0 then (if iX f v = 0 then 0 else 1) else if lK f v < fC f then 2 else if iX f v = 0 then 3 else if iX f v / 2 ^ (fm f - 1) = 1 then 4 else 5
theorem oM (f : Int) (v : Nat) : bE f v < 3 ↔ lK f v < fC f := by
 have := fG f
 unfold bE
 split
 ·split <;> omega
 ·split
  ·omega
  ·split
   ·omega
   ·split <;> omega
def bG (f : Int) (v : Nat) : Nat := if lK f v = 0 then iX f v else iX f v + 2 ^ fm f
def bC (f : Int) (v : Nat) : Int := bW f - fm f + (lK f v - 1 : Nat)
theorem or_top (m n : Nat) (h : m < 2 ^ n) (hn : n ≤ 31) : Go.bits .or .u64 (m : Int) (shl .u64 1 (n : Int)) = ((m + 2 ^ n : Nat) : Int) := by
 have h31 := dL hn
 rw [show (1 : Int) = ((1 : Nat) : Int) from rfl, mU, Nat.one_mul, Nat.mod_eq_of_lt (by omega), or_u64 _ _ (by omega) (by omega), Nat.or_comm, qU _ _ n (by simp) h, Nat.add_comm]
theorem xD (f : Int) (v : Nat) : xA f v = lK f (xA f v) * 2 ^ fm f + iX f (xA f v) + cK f (bZ f (xA f v)) := by
 have hlt := low_lt f v
 generalize xA f v = x at *
 unfold lK iX cK bZ
 have h1 : x / 2 ^ (fe f + fm f) < 2 := by rw [Nat.div_lt_iff_lt_mul (Nat.two_pow_pos _), Nat.mul_comm, ← Nat.pow_succ]; exact hlt
 have h2 : x / 2 ^ fm f / 2 ^ fe f = x / 2 ^ (fe f + fm f) := by rw [Nat.div_div_eq_div_mul, ← Nat.pow_add, Nat.add_comm]
 have h3 := Nat.div_add_mod x (2 ^ fm f)
 have h4 := Nat.div_add_mod (x / 2 ^ fm f) (2 ^ fe f)
 rw [h2] at h4
 have h5 : 2 ^ (fe f + fm f) = 2 ^ fm f * 2 ^ fe f := by rw [← Nat.pow_add, Nat.add_comm]
 rw [Nat.mod_eq_of_lt h1]
 generalize x / 2 ^ (fe f + fm f) = b at *
 generalize hq : x / 2 ^ fm f % 2 ^ fe f = q at *
 generalize x % 2 ^ fm f = r at *
 rw [← h4, Nat.mul_add] at h3
 have h6 : b = 0 ∨ b = 1 := by omega
 rcases h6 with rfl | rfl
 ·rw [if_neg (by decide)]; rw [Nat.mul_comm q]; omega
 ·rw [if_pos (by decide), h5, Nat.mul_comm q]
  rw [Nat.mul_one] at h3
  omega
/- The reference's classes and order of any numbers: plain numbers. -/

theorem pE (v a b c : Nat) (h : b + c ≤ a) : v % 2 ^ a / 2 ^ b % 2 ^ c = v / 2 ^ b % 2 ^ c := by
 apply Nat.eq_of_testBit_eq
 intro i
 rw [Nat.testBit_mod_two_pow, Nat.testBit_mod_two_pow, Nat.testBit_div_two_pow, Nat.testBit_div_two_pow, Nat.testBit_mod_two_pow]
 by_cases h1 : i < c
 ·have : i + b < a := by omega
  simp [h1, this]
 ·simp [h1]
theorem neg_low (f : Int) (v : Nat) : bZ f (xA f v) = bZ f v := by
 unfold bZ xA
 have := pE v (fe f + fm f + 1) (fe f + fm f) 1 (Nat.le_refl _)
 rw [Nat.pow_one] at this
 rw [this]
theorem exp_low (f : Int) (v : Nat) : lK f (xA f v) = lK f v := pE v (fe f + fm f + 1) (fm f) (fe f) (by omega)
theorem frac_low (f : Int) (v : Nat) : iX f (xA f v) = iX f v := by
 have := pE v (fe f + fm f + 1) 0 (fm f) (by omega)
 rw [Nat.pow_zero, Nat.div_one, Nat.div_one] at this
 exact this
def dX (f : Int) (v : Nat) : Bool := decide (4 ≤ bE f v)
def eQ (f : Int) (v : Nat) : Bool := decide (bE f v = 5)
theorem oV (f : Int) (v : Nat) : bE f v ≤ 5 := by
 unfold bE
 repeat' split
 all_goals omega
/- The reference's finite numbers: their whole numbers and exponents. -/

end Go.Proofs.Ytolpdiifmacdbaa.Round
