import Derived.Test.YtolpdiifmacdbaaGreatQcoZ
import Derived.Test.YtolpdiifmacdbaaGreatProg
import Derived.Below
import Derived.Deep.Draws
import Derived.Deep.AppendLies
import Derived.Maps.AppendAt
import Derived.OwnWalk
import Derived.Laws.BytesArg
import Derived.Laws.MakeOwn
import Derived.Laws.OwnMore
import Derived.Deep.OwnRows
import Derived.Tactics
import Derived.Lib.ConvBytes
import Derived.Laws.Slices
import Derived.WalkKit
import Derived.KernelRfl
import Derived.RowKit3
import Derived.Deep.LoopGhost
import Derived.Deep.QuietTactic
import Derived.BigQuiet
import Derived.WideLaws
import Derived.Deep.DeepCutAuto
import Derived.Deep.CutBlock
import Derived.Deep.RegionHeld3
import Derived.Laws.Rows
import Derived.Lib.AppendStr
import Derived.ArgAppend
import Derived.Laws.IdiomCopy
import Derived.OrdersHeld
import Derived.Laws.BitsLemmas
import Derived.RowKit
import Derived.ChangeKeysEq
import Derived.Test.YtolpdiifmacdbaaGreatQcoWWords
import Derived.Test.YtolpdiifmacdbaaGreatQcoWLast
import Derived.Test.YtolpdiifmacdbaaGreatQcoWTab
import Derived.Test.YtolpdiifmacdbaaGreatQcoWFour
import Derived.Test.YtolpdiifmacdbaaGreatQcoWQPut
import Derived.Test.YtolpdiifmacdbaaGreatQcoWApart
import Derived.Test.YtolpdiifmacdbaaGreatQcoWArr
import Derived.Test.YtolpdiifmacdbaaGreatQcoWZeros
import Derived.Test.YtolpdiifmacdbaaGreatQcoWFoot
import Derived.Test.YtolpdiifmacdbaaGreatQcoWKept
import Derived.Test.YtolpdiifmacdbaaGreatQcoWShare
import Derived.Test.YtolpdiifmacdbaaGreatQcoWN
import Derived.Test.YtolpdiifmacdbaaGreatQcoWFootNe
import Derived.Test.YtolpdiifmacdbaaGreatQcoWAt
import Derived.Test.YtolpdiifmacdbaaGreatQcoWEqStruct
import Derived.Test.YtolpdiifmacdbaaGreatQcoWRepsOne
import Derived.Test.YtolpdiifmacdbaaGreatQcoWInv
import Derived.Test.YtolpdiifmacdbaaGreatQcoWInvWords
import Derived.Test.YtolpdiifmacdbaaGreatQcoWGuard
import Derived.Test.YtolpdiifmacdbaaGreatQcoWNEv
import Derived.Test.YtolpdiifmacdbaaGreatQcoWMore
-- Printed by a program of this session's out of Lean's print of the translation; Lean checks it.
set_option linter.unusedVariables false
set_option linter.unusedSimpArgs false
set_option maxRecDepth 100000
set_option maxHeartbeats 8000000
namespace Go.Proofs.YtolpdiifmacdbaaGreat.P
open Go.RowKit Go.Proofs.YtolpdiifmacdbaaGreatW.PrintWords Go.Proofs.YtolpdiifmacdbaaGreatW.PrintLast Go.Proofs.YtolpdiifmacdbaaGreatW.PrintMore
attribute [local go_sem] max2_int min2_int max_two min_two max_three min_three max_four min_four

theorem l7 (n : Int) : IntKind.u32.wrap n = n % 4294967296 := IntKind.wrap_u32 n



def errW : Option Int → Value
 |none => .nilIface
 |some c => .iface 0 (.int .i64 c)
theorem dE : errW none = .nilIface := rfl
theorem dD (c : Int) : errW (some c) = .iface 0 (.int .i64 c) := rfl

theorem aAh : (Tryz.prog.info? 27).map (fun i => (i.zero, i.size, i.bytes)) = some (some (.int .u32 0), 1, 4) := by kernel_rfl
theorem info31 : (Tryz.prog.info? 31).map (fun i => (i.zero, i.size, i.bytes)) = some (some (.agg #[(.int .i64 0), (.int .i64 0), (.int .i64 0), (.slice none 0 0), (.int .i64 0), (.int .i64 0), (.int .i64 0), (.slice none 0 0)]), 8, 96) := by kernel_rfl
-- the values' own types
/-! #### struct type 29 -/
structure S29 where
 f0 : Int
 f1 : Int
 f2 : Int
 f3 : (List Int)
def k29 : Kd S29 := Kd.iso (Kd.pair (Kd.int .i64) (Kd.pair (Kd.int .i64) (Kd.pair (Kd.int .i64) (Kd.slice 27 (Kd.int .u32))))) (fun x : S29 => (x.f0, x.f1, x.f2, x.f3))
theorem vC {w : World} {base : Nat} {ok : Nat → Prop} {x : S29} {cs : List Value} (h : k29.M w base ok x cs) : ∃ v3, cs = [.int .i64 x.f0, .int .i64 x.f1, .int .i64 x.f2, v3] ∧ (Kd.int .u32).R 27 w base ok v3 x.f3 := by
 obtain ⟨_, _, rfl, rfl, ⟨_, _, rfl, rfl, ⟨_, _, rfl, rfl, ⟨v3, rfl, g3⟩⟩⟩⟩ := h
 exact ⟨v3, rfl, g3⟩
theorem aBz (w : World) (base : Nat) (ok : Nat → Prop) (x : S29) {v3 : Value} (g3 : (Kd.int .u32).R 27 w base ok v3 x.f3) : k29.M w base ok x [.int .i64 x.f0, .int .i64 x.f1, .int .i64 x.f2, v3] := ⟨[.int .i64 x.f0], [.int .i64 x.f1, .int .i64 x.f2, v3], rfl, rfl, ⟨[.int .i64 x.f1], [.int .i64 x.f2, v3], rfl, rfl, ⟨[.int .i64 x.f2], [v3], rfl, rfl, ⟨v3, rfl, g3⟩⟩⟩⟩
/-! #### struct type 31 -/
structure S31 where
 f0 : S29
 f1 : S29
def k31 : Kd S31 := Kd.iso (Kd.pair k29 k29) (fun x : S31 => (x.f0, x.f1))
theorem aA2 {w : World} {base : Nat} {ok : Nat → Prop} {x : S31} {cs : List Value} (h : k31.M w base ok x cs) : ∃ v3 v7, cs = [.int .i64 x.f0.f0, .int .i64 x.f0.f1, .int .i64 x.f0.f2, v3, .int .i64 x.f1.f0, .int .i64 x.f1.f1, .int .i64 x.f1.f2, v7] ∧ (Kd.int .u32).R 27 w base ok v3 x.f0.f3 ∧ (Kd.int .u32).R 27 w base ok v7 x.f1.f3 := by
 obtain ⟨_, _, rfl, s0, s4⟩ := h
 obtain ⟨v3, rfl, g3⟩ := vC s0
 obtain ⟨v7, rfl, g7⟩ := vC s4
 exact ⟨v3, v7, rfl, g3, g7⟩
theorem k31_mkM (w : World) (base : Nat) (ok : Nat → Prop) (x : S31) {v3 : Value} (g3 : (Kd.int .u32).R 27 w base ok v3 x.f0.f3) {v7 : Value} (g7 : (Kd.int .u32).R 27 w base ok v7 x.f1.f3) : k31.M w base ok x [.int .i64 x.f0.f0, .int .i64 x.f0.f1, .int .i64 x.f0.f2, v3, .int .i64 x.f1.f0, .int .i64 x.f1.f1, .int .i64 x.f1.f2, v7] := ⟨[.int .i64 x.f0.f0, .int .i64 x.f0.f1, .int .i64 x.f0.f2, v3], [.int .i64 x.f1.f0, .int .i64 x.f1.f1, .int .i64 x.f1.f2, v7], rfl, (aBz w base ok x.f0 g3), (aBz w base ok x.f1 g7)⟩

-- NEED 0
/-! ### bI: function 149 -/
def bI.f (a0 : Int) : Option (Int × Int) := if a0 = 0 then (some (5, 10)) else (if a0 = 1 then (some (8, 7)) else (some (8, 23)))
theorem bI.calls (a0 r1 r2 : Int) (w : World) (h : bI.f a0 = some (r1, r2)) :
  Calls Tryz.prog 149 #[.int .i64 a0] w fun e w' => e = .returned (.tuple #[.int .i64 r1, .int .i64 r2]) ∧ Drawn0 w w' := by
 have H : (if a0 = 0 then (some (5, 10)) else (if a0 = 1 then (some (8, 7)) else (some (8, 23)))) = some (r1, r2) := h
 clear h
 by_cases c2 : a0 = 0
 ·rw [if_pos c2] at H
  have c2b0 : (a0 == 0) = true := beq_iff_eq.mpr c2
  have c2b1 : (a0 != 0) = false := bne_eq_false_iff_eq.mpr c2
  clear c2
  simp only [Option.some.injEq, Prod.mk.injEq] at H
  obtain ⟨rfl, rfl⟩ := H
  go_enter Tryz.func149, Tryz.ntmps149
  go_wp2
  go_ret2
  exact ⟨gr_, gd_⟩
 ·rw [if_neg c2] at H
  have c2b0 : (a0 == 0) = false := beq_eq_false_iff_ne.mpr c2
  have c2b1 : (a0 != 0) = true := bne_iff_ne.mpr c2
  by_cases c3 : a0 = 1
  ·rw [if_pos c3] at H
   have c3b0 : (a0 == 1) = true := beq_iff_eq.mpr c3
   have c3b1 : (a0 != 1) = false := bne_eq_false_iff_eq.mpr c3
   clear c3
   simp only [Option.some.injEq, Prod.mk.injEq] at H
   obtain ⟨rfl, rfl⟩ := H
   go_enter Tryz.func149, Tryz.ntmps149
   go_wp2
   go_ret2
   exact ⟨gr_, gd_⟩
  ·rw [if_neg c3] at H
   have c3b0 : (a0 == 1) = false := beq_eq_false_iff_ne.mpr c3
   have c3b1 : (a0 != 1) = true := bne_iff_ne.mpr c3
   simp only [Option.some.injEq, Prod.mk.injEq] at H
   obtain ⟨rfl, rfl⟩ := H
   go_enter Tryz.func149, Tryz.ntmps149
   go_wp2
   go_ret2
   exact ⟨gr_, gd_⟩

-- NEED 0
/-! ### dK: function 116 -/
def dK.f (a0 : Int) : Option (Int) := (bI.f a0).bind fun bt101 => (if 0 ≤ (IntKind.u64.wrap (bt101.1)) then (some (wrap64 ((shl .i64 1 (IntKind.u64.wrap (bt101.1))) - 1))) else (none))
theorem dK.calls (a0 r : Int) (w : World) (h : dK.f a0 = some r) :
  Calls Tryz.prog 116 #[.int .i64 a0] w fun e w' => e = .returned (.int .i64 r) ∧ Drawn0 w w' := by
 have H : ((bI.f a0).bind fun bt101 => (if 0 ≤ (IntKind.u64.wrap (bt101.1)) then (some (wrap64 ((shl .i64 1 (IntKind.u64.wrap (bt101.1))) - 1))) else (none))) = some r := h
 clear h
 replace H := bq_ H
 obtain ⟨⟨t101, t102⟩, A20, H⟩ := H
 replace H : (if 0 ≤ (IntKind.u64.wrap (t101)) then (some (wrap64 ((shl .i64 1 (IntKind.u64.wrap (t101))) - 1))) else (none)) = some r := H
 have A2 := Aside0.mk A20
 clear A20
 obtain ⟨ji3, hji3⟩ : ∃ j_ : Int, (IntKind.u64.wrap (t101)) = j_ := ⟨_, rfl⟩
 replace H : (if 0 ≤ (ji3) then (some (wrap64 ((shl .i64 1 (ji3)) - 1))) else (none)) = some r := by first | (rw [hji3] at H; exact H) | (simp only [hji3] at H ⊢; exact H)
 (try rw [hji3] at A2)
 by_cases c4 : 0 ≤ (ji3)
 ·rw [if_pos c4] at H
  have c4b0 := eq_true c4
  have c4b1 : decide (0 ≤ (ji3)) = true := decide_eq_true c4
  clear c4
  obtain ⟨ji5, hji5⟩ : ∃ j_ : Int, (shl .i64 1 (ji3)) = j_ := ⟨_, rfl⟩
  replace H : (some (wrap64 ((ji5) - 1))) = some r := by first | (rw [hji5] at H; exact H) | (simp only [hji5] at H ⊢; exact H)
  (try rw [hji5] at A2)
  have hji5_ : (IntKind.i64.wrap (1 * 2 ^ min (ji3).toNat 64)) = ji5 := hji5
  have hji5z : (ji3) ≤ 64 → (IntKind.i64.wrap (1 * 2 ^ (ji3).toNat)) = ji5 := shl_small hji5
  have hji5u : (IntKind.i64.wrap (2 ^ min (ji3).toNat 64)) = ji5 := by have h_ := hji5_; rw [Int.one_mul] at h_; exact h_
  have hji5v : (ji3) ≤ 64 → (IntKind.i64.wrap (2 ^ (ji3).toNat)) = ji5 := fun hle_ => by have h_ := hji5z hle_; rw [Int.one_mul] at h_; exact h_
  have hji5y : (wrap64 (1 * 2 ^ min (ji3).toNat 64)) = ji5 := (i64_w _).symm.trans hji5_
  have hji5x : (ji3) ≤ 64 → (wrap64 (1 * 2 ^ (ji3).toNat)) = ji5 := fun h_ => (i64_w _).symm.trans (hji5z h_)
  obtain rfl := Option.some.inj H
  go_enter Tryz.func116, Tryz.ntmps116
  go_wp2_with (first | ((with_reducible refine gate_callee (f := 149) rfl ?_); refine goesL_ (some 7) rfl rfl Tryz.func149 (by kernel_rfl) rfl #[.int .i64 a0] rfl gl ?_; (with_reducible refine (bI.calls a0 t101 t102 _ A2.out).mono ?_); rintro e w' ⟨rfl, ⟨nd, rfl⟩⟩; refine ⟨_, rfl, ?_⟩))
  go_ret
  exact ⟨by first | rfl | (simp; done) | (simp only [← hji3, ← hji5] <;> (first | rfl | (simp; done))) | (simp [*]; done) | (congr 1; (try unfold wrap64); omega) | (congr 1; rw [IntKind.wrap_u64]; omega), gd_⟩
 ·rw [if_neg c4] at H
  exact absurd H (by simp)

-- NEED 0
/-! ### bX: function 155 -/
def bX.f (a0 : Int) (a1 : Bool) (a2 a3 : Int) : Option (Int) := (bI.f a0).bind fun bt103 => (if 0 ≤ (IntKind.u64.wrap (bt103.2)) then (if a1 = true then (if 0 ≤ (IntKind.u64.wrap (wrap64 (bt103.1 + bt103.2))) then (some (Go.bits .or .u32 (Go.bits .or .u32 (shl .u32 ((a2) % 4294967296) (IntKind.u64.wrap (bt103.2))) a3) (shl .u32 1 (IntKind.u64.wrap (wrap64 (bt103.1 + bt103.2)))))) else (none)) else (some (Go.bits .or .u32 (shl .u32 ((a2) % 4294967296) (IntKind.u64.wrap (bt103.2))) a3))) else (none))
theorem bX.calls (a0 : Int) (a1 : Bool) (a2 a3 r : Int) (w : World) (h : bX.f a0 a1 a2 a3 = some r) :
  Calls Tryz.prog 155 #[.int .i64 a0, .bool a1, .int .i64 a2, .int .u32 a3] w fun e w' => e = .returned (.int .u32 r) ∧ Drawn0 w w' := by
 have H : ((bI.f a0).bind fun bt103 => (if 0 ≤ (IntKind.u64.wrap (bt103.2)) then (if a1 = true then (if 0 ≤ (IntKind.u64.wrap (wrap64 (bt103.1 + bt103.2))) then (some (Go.bits .or .u32 (Go.bits .or .u32 (shl .u32 ((a2) % 4294967296) (IntKind.u64.wrap (bt103.2))) a3) (shl .u32 1 (IntKind.u64.wrap (wrap64 (bt103.1 + bt103.2)))))) else (none)) else (some (Go.bits .or .u32 (shl .u32 ((a2) % 4294967296) (IntKind.u64.wrap (bt103.2))) a3))) else (none))) = some r := h
 clear h
 replace H := bq_ H
 obtain ⟨⟨t103, t104⟩, A50, H⟩ := H
 replace H : (if 0 ≤ (IntKind.u64.wrap (t104)) then (if a1 = true then (if 0 ≤ (IntKind.u64.wrap (wrap64 (t103 + t104))) then (some (Go.bits .or .u32 (Go.bits .or .u32 (shl .u32 ((a2) % 4294967296) (IntKind.u64.wrap (t104))) a3) (shl .u32 1 (IntKind.u64.wrap (wrap64 (t103 + t104)))))) else (none)) else (some (Go.bits .or .u32 (shl .u32 ((a2) % 4294967296) (IntKind.u64.wrap (t104))) a3))) else (none)) = some r := H
 have A5 := Aside0.mk A50
 clear A50
 obtain ⟨ji6, hji6⟩ : ∃ j_ : Int, (IntKind.u64.wrap (t104)) = j_ := ⟨_, rfl⟩
 replace H : (if 0 ≤ (ji6) then (if a1 = true then (if 0 ≤ (IntKind.u64.wrap (wrap64 (t103 + t104))) then (some (Go.bits .or .u32 (Go.bits .or .u32 (shl .u32 ((a2) % 4294967296) (ji6)) a3) (shl .u32 1 (IntKind.u64.wrap (wrap64 (t103 + t104)))))) else (none)) else (some (Go.bits .or .u32 (shl .u32 ((a2) % 4294967296) (ji6)) a3))) else (none)) = some r := by first | (rw [hji6] at H; exact H) | (simp only [hji6] at H ⊢; exact H)
 (try rw [hji6] at A5)
 by_cases c7 : 0 ≤ (ji6)
 ·rw [if_pos c7] at H
  have c7b0 := eq_true c7
  have c7b1 : decide (0 ≤ (ji6)) = true := decide_eq_true c7
  clear c7
  obtain ⟨ji8, hji8⟩ : ∃ j_ : Int, (shl .u32 ((a2) % 4294967296) (ji6)) = j_ := ⟨_, rfl⟩
  replace H : (if a1 = true then (if 0 ≤ (IntKind.u64.wrap (wrap64 (t103 + t104))) then (some (Go.bits .or .u32 (Go.bits .or .u32 (ji8) a3) (shl .u32 1 (IntKind.u64.wrap (wrap64 (t103 + t104)))))) else (none)) else (some (Go.bits .or .u32 (ji8) a3))) = some r := by first | (rw [hji8] at H; exact H) | (simp only [hji8] at H ⊢; exact H)
  (try rw [hji8] at A5)
  have hji8_ : (IntKind.u32.wrap (((a2) % 4294967296) * 2 ^ min (ji6).toNat 32)) = ji8 := hji8
  have hji8z : (ji6) ≤ 32 → (IntKind.u32.wrap (((a2) % 4294967296) * 2 ^ (ji6).toNat)) = ji8 := shl_small hji8
  by_cases c9 : a1 = true
  ·subst c9
   have H1 : (if 0 ≤ (IntKind.u64.wrap (wrap64 (t103 + t104))) then (some (Go.bits .or .u32 (Go.bits .or .u32 (ji8) a3) (shl .u32 1 (IntKind.u64.wrap (wrap64 (t103 + t104)))))) else (none)) = some r := by rw [if_pos rfl] at H; exact H
   clear H
   have H := H1
   clear H1
   obtain ⟨ji10, hji10⟩ : ∃ j_ : Int, (IntKind.u64.wrap (wrap64 (t103 + t104))) = j_ := ⟨_, rfl⟩
   replace H : (if 0 ≤ (ji10) then (some (Go.bits .or .u32 (Go.bits .or .u32 (ji8) a3) (shl .u32 1 (ji10)))) else (none)) = some r := by first | (rw [hji10] at H; exact H) | (simp only [hji10] at H ⊢; exact H)
   (try rw [hji10] at A5)
   by_cases c11 : 0 ≤ (ji10)
   ·rw [if_pos c11] at H
    have c11b0 := eq_true c11
    have c11b1 : decide (0 ≤ (ji10)) = true := decide_eq_true c11
    clear c11
    obtain ⟨ji12, hji12⟩ : ∃ j_ : Int, (shl .u32 1 (ji10)) = j_ := ⟨_, rfl⟩
    replace H : (some (Go.bits .or .u32 (Go.bits .or .u32 (ji8) a3) (ji12))) = some r := by first | (rw [hji12] at H; exact H) | (simp only [hji12] at H ⊢; exact H)
    (try rw [hji12] at A5)
    have hji12_ : (IntKind.u32.wrap (1 * 2 ^ min (ji10).toNat 32)) = ji12 := hji12
    have hji12z : (ji10) ≤ 32 → (IntKind.u32.wrap (1 * 2 ^ (ji10).toNat)) = ji12 := shl_small hji12
    have hji12u : (IntKind.u32.wrap (2 ^ min (ji10).toNat 32)) = ji12 := by have h_ := hji12_; rw [Int.one_mul] at h_; exact h_
    have hji12v : (ji10) ≤ 32 → (IntKind.u32.wrap (2 ^ (ji10).toNat)) = ji12 := fun hle_ => by have h_ := hji12z hle_; rw [Int.one_mul] at h_; exact h_
    obtain rfl := Option.some.inj H
    go_enter Tryz.func155, Tryz.ntmps155
    go_wp2_with (first | ((with_reducible refine gate_callee (f := 149) rfl ?_); refine goesL_ (some 14) rfl rfl Tryz.func149 (by kernel_rfl) rfl #[.int .i64 a0] rfl gl ?_; (with_reducible refine (bI.calls a0 t103 t104 _ A5.out).mono ?_); rintro e w' ⟨rfl, ⟨nd, rfl⟩⟩; refine ⟨_, rfl, ?_⟩))
    go_ret
    exact ⟨by first | rfl | (simp; done) | (simp only [← hji6, ← hji8, ← hji10, ← hji12] <;> (first | rfl | (simp; done))) | (simp [*]; done) | (congr 1; (try unfold wrap64); omega) | (congr 1; rw [IntKind.wrap_u64]; omega), gd_⟩
   ·rw [if_neg c11] at H
    exact absurd H (by simp)
  ·replace c9 := Bool.eq_false_iff.mpr c9
   subst c9
   have H1 : (some (Go.bits .or .u32 (ji8) a3)) = some r := by rw [if_neg (show ¬ (false = true) by decide)] at H; exact H
   clear H
   have H := H1
   clear H1
   obtain rfl := Option.some.inj H
   go_enter Tryz.func155, Tryz.ntmps155
   go_wp2_with (first | ((with_reducible refine gate_callee (f := 149) rfl ?_); refine goesL_ (some 14) rfl rfl Tryz.func149 (by kernel_rfl) rfl #[.int .i64 a0] rfl gl ?_; (with_reducible refine (bI.calls a0 t103 t104 _ A5.out).mono ?_); rintro e w' ⟨rfl, ⟨nd, rfl⟩⟩; refine ⟨_, rfl, ?_⟩))
   go_ret
   exact ⟨by first | rfl | (simp; done) | (simp only [← hji6, ← hji8] <;> (first | rfl | (simp; done))) | (simp [*]; done) | (congr 1; (try unfold wrap64); omega) | (congr 1; rw [IntKind.wrap_u64]; omega), gd_⟩
 ·rw [if_neg c7] at H
  exact absurd H (by simp)

-- NEED 0
/-! ### dN: function 139 -/
def dN.f (a0 : Int) (a1 : Bool) : Option (Int) := (bX.f a0 a1 0 0).bind fun t105 => (some t105)
theorem dN.calls (a0 : Int) (a1 : Bool) (r : Int) (w : World) (h : dN.f a0 a1 = some r) :
  Calls Tryz.prog 139 #[.int .i64 a0, .bool a1] w fun e w' => e = .returned (.int .u32 r) ∧ Drawn0 w w' := by
 have H : ((bX.f a0 a1 0 0).bind fun t105 => (some t105)) = some r := h
 clear h
 replace H := bq_ H
 obtain ⟨t105, A30, H⟩ := H
 replace H : (some t105) = some r := H
 have A3 := Aside0.mk A30
 clear A30
 obtain rfl := Option.some.inj H
 go_enter Tryz.func139, Tryz.ntmps139
 go_wp2_with (first | ((with_reducible refine gate_callee (f := 155) rfl ?_); refine goesL_ (some 7) rfl rfl Tryz.func155 (by kernel_rfl) rfl #[.int .i64 a0, .bool a1, .int .i64 0, .int .u32 0] rfl gl ?_; (with_reducible refine (bX.calls a0 a1 0 0 t105 _ A3.out).mono ?_); rintro e w' ⟨rfl, ⟨nd, rfl⟩⟩; refine ⟨_, rfl, ?_⟩))
 go_ret
 exact ⟨gr_, gd_⟩

-- NEED 0
/-! ### bits_Len64: function 172 -/
def bits_Len64.j0 : Nat → Int → Int → Option (Int)
 |0, _, _ => none
 |k + 1, x0, x2 => if x0 ≥ 65536 then (if (x0 / 65536) ≥ 256 then (if 0 ≤ (((x0 / 65536) / 256) % 256) then (if (((x0 / 65536) / 256) % 256) < 256 then (some (wrap64 ((wrap64 ((wrap64 (x2 + 16)) + 8)) + (wrap64 (bt (⟨#[0, 1, 2, 2, 3, 3, 3, 3, 4, 4, 4, 4, 4, 4, 4, 4, 5, 5, 5, 5, 5, 5, 5, 5, 5, 5, 5, 5, 5, 5, 5, 5, 6, 6, 6, 6, 6, 6, 6, 6, 6, 6, 6, 6, 6, 6, 6, 6, 6, 6, 6, 6, 6, 6, 6, 6, 6, 6, 6, 6, 6, 6, 6, 6, 7, 7, 7, 7, 7, 7, 7, 7, 7, 7, 7, 7, 7, 7, 7, 7, 7, 7, 7, 7, 7, 7, 7, 7, 7, 7, 7, 7, 7, 7, 7, 7, 7, 7, 7, 7, 7, 7, 7, 7, 7, 7, 7, 7, 7, 7, 7, 7, 7, 7, 7, 7, 7, 7, 7, 7, 7, 7, 7, 7, 7, 7, 7, 7, 8, 8, 8, 8, 8, 8, 8, 8, 8, 8, 8, 8, 8, 8, 8, 8, 8, 8, 8, 8, 8, 8, 8, 8, 8, 8, 8, 8, 8, 8, 8, 8, 8, 8, 8, 8, 8, 8, 8, 8, 8, 8, 8, 8, 8, 8, 8, 8, 8, 8, 8, 8, 8, 8, 8, 8, 8, 8, 8, 8, 8, 8, 8, 8, 8, 8, 8, 8, 8, 8, 8, 8, 8, 8, 8, 8, 8, 8, 8, 8, 8, 8, 8, 8, 8, 8, 8, 8, 8, 8, 8, 8, 8, 8, 8, 8, 8, 8, 8, 8, 8, 8, 8, 8, 8, 8, 8, 8, 8, 8, 8, 8, 8, 8, 8, 8, 8, 8, 8, 8, 8, 8, 8, 8, 8, 8, 8, 8]⟩ : ByteArray) (((x0 / 65536) / 256) % 256)))))) else (none)) else (none)) else (if 0 ≤ ((x0 / 65536) % 256) then (if ((x0 / 65536) % 256) < 256 then (some (wrap64 ((wrap64 (x2 + 16)) + (wrap64 (bt (⟨#[0, 1, 2, 2, 3, 3, 3, 3, 4, 4, 4, 4, 4, 4, 4, 4, 5, 5, 5, 5, 5, 5, 5, 5, 5, 5, 5, 5, 5, 5, 5, 5, 6, 6, 6, 6, 6, 6, 6, 6, 6, 6, 6, 6, 6, 6, 6, 6, 6, 6, 6, 6, 6, 6, 6, 6, 6, 6, 6, 6, 6, 6, 6, 6, 7, 7, 7, 7, 7, 7, 7, 7, 7, 7, 7, 7, 7, 7, 7, 7, 7, 7, 7, 7, 7, 7, 7, 7, 7, 7, 7, 7, 7, 7, 7, 7, 7, 7, 7, 7, 7, 7, 7, 7, 7, 7, 7, 7, 7, 7, 7, 7, 7, 7, 7, 7, 7, 7, 7, 7, 7, 7, 7, 7, 7, 7, 7, 7, 8, 8, 8, 8, 8, 8, 8, 8, 8, 8, 8, 8, 8, 8, 8, 8, 8, 8, 8, 8, 8, 8, 8, 8, 8, 8, 8, 8, 8, 8, 8, 8, 8, 8, 8, 8, 8, 8, 8, 8, 8, 8, 8, 8, 8, 8, 8, 8, 8, 8, 8, 8, 8, 8, 8, 8, 8, 8, 8, 8, 8, 8, 8, 8, 8, 8, 8, 8, 8, 8, 8, 8, 8, 8, 8, 8, 8, 8, 8, 8, 8, 8, 8, 8, 8, 8, 8, 8, 8, 8, 8, 8, 8, 8, 8, 8, 8, 8, 8, 8, 8, 8, 8, 8, 8, 8, 8, 8, 8, 8, 8, 8, 8, 8, 8, 8, 8, 8, 8, 8, 8, 8, 8, 8, 8, 8, 8, 8]⟩ : ByteArray) ((x0 / 65536) % 256)))))) else (none)) else (none))) else (if x0 ≥ 256 then (if 0 ≤ ((x0 / 256) % 256) then (if ((x0 / 256) % 256) < 256 then (some (wrap64 ((wrap64 (x2 + 8)) + (wrap64 (bt (⟨#[0, 1, 2, 2, 3, 3, 3, 3, 4, 4, 4, 4, 4, 4, 4, 4, 5, 5, 5, 5, 5, 5, 5, 5, 5, 5, 5, 5, 5, 5, 5, 5, 6, 6, 6, 6, 6, 6, 6, 6, 6, 6, 6, 6, 6, 6, 6, 6, 6, 6, 6, 6, 6, 6, 6, 6, 6, 6, 6, 6, 6, 6, 6, 6, 7, 7, 7, 7, 7, 7, 7, 7, 7, 7, 7, 7, 7, 7, 7, 7, 7, 7, 7, 7, 7, 7, 7, 7, 7, 7, 7, 7, 7, 7, 7, 7, 7, 7, 7, 7, 7, 7, 7, 7, 7, 7, 7, 7, 7, 7, 7, 7, 7, 7, 7, 7, 7, 7, 7, 7, 7, 7, 7, 7, 7, 7, 7, 7, 8, 8, 8, 8, 8, 8, 8, 8, 8, 8, 8, 8, 8, 8, 8, 8, 8, 8, 8, 8, 8, 8, 8, 8, 8, 8, 8, 8, 8, 8, 8, 8, 8, 8, 8, 8, 8, 8, 8, 8, 8, 8, 8, 8, 8, 8, 8, 8, 8, 8, 8, 8, 8, 8, 8, 8, 8, 8, 8, 8, 8, 8, 8, 8, 8, 8, 8, 8, 8, 8, 8, 8, 8, 8, 8, 8, 8, 8, 8, 8, 8, 8, 8, 8, 8, 8, 8, 8, 8, 8, 8, 8, 8, 8, 8, 8, 8, 8, 8, 8, 8, 8, 8, 8, 8, 8, 8, 8, 8, 8, 8, 8, 8, 8, 8, 8, 8, 8, 8, 8, 8, 8, 8, 8, 8, 8, 8, 8]⟩ : ByteArray) ((x0 / 256) % 256)))))) else (none)) else (none)) else (if 0 ≤ ((x0) % 256) then (if ((x0) % 256) < 256 then (some (wrap64 (x2 + (wrap64 (bt (⟨#[0, 1, 2, 2, 3, 3, 3, 3, 4, 4, 4, 4, 4, 4, 4, 4, 5, 5, 5, 5, 5, 5, 5, 5, 5, 5, 5, 5, 5, 5, 5, 5, 6, 6, 6, 6, 6, 6, 6, 6, 6, 6, 6, 6, 6, 6, 6, 6, 6, 6, 6, 6, 6, 6, 6, 6, 6, 6, 6, 6, 6, 6, 6, 6, 7, 7, 7, 7, 7, 7, 7, 7, 7, 7, 7, 7, 7, 7, 7, 7, 7, 7, 7, 7, 7, 7, 7, 7, 7, 7, 7, 7, 7, 7, 7, 7, 7, 7, 7, 7, 7, 7, 7, 7, 7, 7, 7, 7, 7, 7, 7, 7, 7, 7, 7, 7, 7, 7, 7, 7, 7, 7, 7, 7, 7, 7, 7, 7, 8, 8, 8, 8, 8, 8, 8, 8, 8, 8, 8, 8, 8, 8, 8, 8, 8, 8, 8, 8, 8, 8, 8, 8, 8, 8, 8, 8, 8, 8, 8, 8, 8, 8, 8, 8, 8, 8, 8, 8, 8, 8, 8, 8, 8, 8, 8, 8, 8, 8, 8, 8, 8, 8, 8, 8, 8, 8, 8, 8, 8, 8, 8, 8, 8, 8, 8, 8, 8, 8, 8, 8, 8, 8, 8, 8, 8, 8, 8, 8, 8, 8, 8, 8, 8, 8, 8, 8, 8, 8, 8, 8, 8, 8, 8, 8, 8, 8, 8, 8, 8, 8, 8, 8, 8, 8, 8, 8, 8, 8, 8, 8, 8, 8, 8, 8, 8, 8, 8, 8, 8, 8, 8, 8, 8, 8, 8, 8]⟩ : ByteArray) ((x0) % 256)))))) else (none)) else (none)))
def bits_Len64.f (k : Nat) (a0 : Int) : Option (Int) := if a0 ≥ 4294967296 then (bits_Len64.j0 k (a0 / 4294967296) 32) else (bits_Len64.j0 k a0 0)
theorem bits_Len64.eX : ∀ k, (∀ y0 y1, LeO (bits_Len64.j0 k y0 y1) (bits_Len64.j0 (k + 1) y0 y1))
 |0 => fun _ _ r h => by simp [bits_Len64.j0] at h
 |k + 1 => by
  have ih0 := bits_Len64.eX k
  ·intro y0 y1
   unfold bits_Len64.j0
   repeat' first
   |(with_reducible first|exact ih0 _ _|exact LeO.refl _|exact LeO.none _|refine LeO.ite ?_ ?_|refine LeO.bind ?_ (fun _ => ?_))
   |exact ih0 _ _
   |exact LeO.none _
   |refine LeO.ite ?_ ?_
   |refine LeO.bind ?_ (fun _ => ?_)
theorem bits_Len64.mono : ∀ a0 k, LeO (bits_Len64.f k a0) (bits_Len64.f (k + 1) a0) := by
 intro a0 k
 have ih0 := bits_Len64.eX k
 unfold bits_Len64.f
 repeat' first
   |(with_reducible first|exact ih0 _ _|exact LeO.refl _|exact LeO.none _|refine LeO.ite ?_ ?_|refine LeO.bind ?_ (fun _ => ?_))
   |exact ih0 _ _
   |exact LeO.none _
   |refine LeO.ite ?_ ?_
   |refine LeO.bind ?_ (fun _ => ?_)
theorem bits_Len64.calls (k : Nat) (a0 r : Int) (w : World) (h : bits_Len64.f k a0 = some r) :
  Calls Tryz.prog 172 #[.int .u64 a0] w fun e w' => e = .returned (.int .i64 r) ∧ Drawn0 w w' := by
 have H : (if a0 ≥ 4294967296 then (bits_Len64.j0 k (a0 / 4294967296) 32) else (bits_Len64.j0 k a0 0)) = some r := h
 clear h
 have HC2 := Aside0.mk H
 clear H
 go_enter Tryz.func172, Tryz.ntmps172
 go_upto_if 4 with (fail)
 go_cut [0, 2] (fun v0 v2 wc => ∃ (kq : Nat) (x0_1 : Int) (x2_1 : Int), v0 = .int .u64 x0_1 ∧ v2 = .int .i64 x2_1 ∧ Aside0 (bits_Len64.j0 kq x0_1 x2_1 = some r) ∧ Aside0 (kq ≤ k) ∧ Drawn0 w wc)
 case first =>
  have H := HC2.out
  clear HC2
  by_cases c3 : a0 ≥ 4294967296
  ·rw [if_pos c3] at H
   have c3b0 : decide (4294967296 ≤ a0) = true := decide_eq_true c3
   clear c3
   (first | rw [c3b0] | (simp only [i64_w, i32_w]; rw [c3b0]) | skip)
   have H' := Aside0.mk H
   clear H
   go_wp2
   go_meet
   case rel => exact ⟨_, (a0 / 4294967296), (32), (gr_), (gr_), H', ⟨by first | omega | exact Nat.le_refl _⟩, gd_⟩
  ·rw [if_neg c3] at H
   have c3b0 : decide (4294967296 ≤ a0) = false := decide_eq_false c3
   clear c3
   (first | rw [c3b0] | (simp only [i64_w, i32_w]; rw [c3b0]) | skip)
   have H' := Aside0.mk H
   clear H
   go_wp2
   go_meet
   case rel => exact ⟨_, (a0), (0), (gr_), (gr_), H', ⟨by first | omega | exact Nat.le_refl _⟩, gd_⟩
 case rest =>
  clear HC2
  try clear c1 p2 c3 c3b0
  obtain ⟨kq, x0_1, x2_1, rfl, rfl, HA, HJ1, ⟨mc1, rfl⟩⟩ := hcut
  cases kq with
  |zero => exact absurd HA.out (by simp [bits_Len64.j0])
  |succ kj1 =>
   have H := HA.out
   clear HA
   simp only [bits_Len64.j0] at H
   by_cases c4 : x0_1 ≥ 65536
   ·rw [if_pos c4] at H
    have c4b0 : decide (65536 ≤ x0_1) = true := decide_eq_true c4
    clear c4
    by_cases c5 : (x0_1 / 65536) ≥ 256
    ·rw [if_pos c5] at H
     have c5b0 : decide (256 ≤ (x0_1 / 65536)) = true := decide_eq_true c5
     clear c5
     obtain ⟨ji6, hji6⟩ : ∃ j_ : Int, (((x0_1 / 65536) / 256) % 256) = j_ := ⟨_, rfl⟩
     replace H : (if 0 ≤ (ji6) then (if (ji6) < 256 then (some (wrap64 ((wrap64 ((wrap64 (x2_1 + 16)) + 8)) + (wrap64 (bt (⟨#[0, 1, 2, 2, 3, 3, 3, 3, 4, 4, 4, 4, 4, 4, 4, 4, 5, 5, 5, 5, 5, 5, 5, 5, 5, 5, 5, 5, 5, 5, 5, 5, 6, 6, 6, 6, 6, 6, 6, 6, 6, 6, 6, 6, 6, 6, 6, 6, 6, 6, 6, 6, 6, 6, 6, 6, 6, 6, 6, 6, 6, 6, 6, 6, 7, 7, 7, 7, 7, 7, 7, 7, 7, 7, 7, 7, 7, 7, 7, 7, 7, 7, 7, 7, 7, 7, 7, 7, 7, 7, 7, 7, 7, 7, 7, 7, 7, 7, 7, 7, 7, 7, 7, 7, 7, 7, 7, 7, 7, 7, 7, 7, 7, 7, 7, 7, 7, 7, 7, 7, 7, 7, 7, 7, 7, 7, 7, 7, 8, 8, 8, 8, 8, 8, 8, 8, 8, 8, 8, 8, 8, 8, 8, 8, 8, 8, 8, 8, 8, 8, 8, 8, 8, 8, 8, 8, 8, 8, 8, 8, 8, 8, 8, 8, 8, 8, 8, 8, 8, 8, 8, 8, 8, 8, 8, 8, 8, 8, 8, 8, 8, 8, 8, 8, 8, 8, 8, 8, 8, 8, 8, 8, 8, 8, 8, 8, 8, 8, 8, 8, 8, 8, 8, 8, 8, 8, 8, 8, 8, 8, 8, 8, 8, 8, 8, 8, 8, 8, 8, 8, 8, 8, 8, 8, 8, 8, 8, 8, 8, 8, 8, 8, 8, 8, 8, 8, 8, 8, 8, 8, 8, 8, 8, 8, 8, 8, 8, 8, 8, 8, 8, 8, 8, 8, 8, 8]⟩ : ByteArray) (ji6)))))) else (none)) else (none)) = some r := by first | (rw [hji6] at H; exact H) | (simp only [hji6] at H ⊢; exact H)
     by_cases c7 : 0 ≤ (ji6)
     ·rw [if_pos c7] at H
      have c7b0 : decide (0 ≤ (ji6)) = true := decide_eq_true c7
      clear c7
      by_cases c8 : (ji6) < 256
      ·rw [if_pos c8] at H
       have c8b0 : decide ((ji6) < 256) = true := decide_eq_true c8
       clear c8
       obtain rfl := Option.some.inj H
       have p9 : 0 ≤ ((ji6) : Int) := of_decide_eq_true (by first | (with_reducible assumption) | assumption)
       have q9 : (ji6) < (256 : Int) := of_decide_eq_true (by first | (with_reducible assumption) | assumption)
       have hx9 := bt_at (⟨#[0, 1, 2, 2, 3, 3, 3, 3, 4, 4, 4, 4, 4, 4, 4, 4, 5, 5, 5, 5, 5, 5, 5, 5, 5, 5, 5, 5, 5, 5, 5, 5, 6, 6, 6, 6, 6, 6, 6, 6, 6, 6, 6, 6, 6, 6, 6, 6, 6, 6, 6, 6, 6, 6, 6, 6, 6, 6, 6, 6, 6, 6, 6, 6, 7, 7, 7, 7, 7, 7, 7, 7, 7, 7, 7, 7, 7, 7, 7, 7, 7, 7, 7, 7, 7, 7, 7, 7, 7, 7, 7, 7, 7, 7, 7, 7, 7, 7, 7, 7, 7, 7, 7, 7, 7, 7, 7, 7, 7, 7, 7, 7, 7, 7, 7, 7, 7, 7, 7, 7, 7, 7, 7, 7, 7, 7, 7, 7, 8, 8, 8, 8, 8, 8, 8, 8, 8, 8, 8, 8, 8, 8, 8, 8, 8, 8, 8, 8, 8, 8, 8, 8, 8, 8, 8, 8, 8, 8, 8, 8, 8, 8, 8, 8, 8, 8, 8, 8, 8, 8, 8, 8, 8, 8, 8, 8, 8, 8, 8, 8, 8, 8, 8, 8, 8, 8, 8, 8, 8, 8, 8, 8, 8, 8, 8, 8, 8, 8, 8, 8, 8, 8, 8, 8, 8, 8, 8, 8, 8, 8, 8, 8, 8, 8, 8, 8, 8, 8, 8, 8, 8, 8, 8, 8, 8, 8, 8, 8, 8, 8, 8, 8, 8, 8, 8, 8, 8, 8, 8, 8, 8, 8, 8, 8, 8, 8, 8, 8, 8, 8, 8, 8, 8, 8, 8, 8]⟩ : ByteArray) (ji6)
       replace p9 := eq_true p9
       replace q9 := eq_true q9
       go_wp2
       go_ret
       exact ⟨by first | rfl | (simp; done) | (simp only [← hji6] <;> (first | rfl | (simp; done))) | (simp [*]; done) | (congr 1; (try unfold wrap64); omega) | (congr 1; rw [IntKind.wrap_u64]; omega), gd_⟩
      ·rw [if_neg c8] at H
       exact absurd H (by simp)
     ·rw [if_neg c7] at H
      exact absurd H (by simp)
    ·rw [if_neg c5] at H
     have c5b0 : decide (256 ≤ (x0_1 / 65536)) = false := decide_eq_false c5
     clear c5
     obtain ⟨ji10, hji10⟩ : ∃ j_ : Int, ((x0_1 / 65536) % 256) = j_ := ⟨_, rfl⟩
     replace H : (if 0 ≤ (ji10) then (if (ji10) < 256 then (some (wrap64 ((wrap64 (x2_1 + 16)) + (wrap64 (bt (⟨#[0, 1, 2, 2, 3, 3, 3, 3, 4, 4, 4, 4, 4, 4, 4, 4, 5, 5, 5, 5, 5, 5, 5, 5, 5, 5, 5, 5, 5, 5, 5, 5, 6, 6, 6, 6, 6, 6, 6, 6, 6, 6, 6, 6, 6, 6, 6, 6, 6, 6, 6, 6, 6, 6, 6, 6, 6, 6, 6, 6, 6, 6, 6, 6, 7, 7, 7, 7, 7, 7, 7, 7, 7, 7, 7, 7, 7, 7, 7, 7, 7, 7, 7, 7, 7, 7, 7, 7, 7, 7, 7, 7, 7, 7, 7, 7, 7, 7, 7, 7, 7, 7, 7, 7, 7, 7, 7, 7, 7, 7, 7, 7, 7, 7, 7, 7, 7, 7, 7, 7, 7, 7, 7, 7, 7, 7, 7, 7, 8, 8, 8, 8, 8, 8, 8, 8, 8, 8, 8, 8, 8, 8, 8, 8, 8, 8, 8, 8, 8, 8, 8, 8, 8, 8, 8, 8, 8, 8, 8, 8, 8, 8, 8, 8, 8, 8, 8, 8, 8, 8, 8, 8, 8, 8, 8, 8, 8, 8, 8, 8, 8, 8, 8, 8, 8, 8, 8, 8, 8, 8, 8, 8, 8, 8, 8, 8, 8, 8, 8, 8, 8, 8, 8, 8, 8, 8, 8, 8, 8, 8, 8, 8, 8, 8, 8, 8, 8, 8, 8, 8, 8, 8, 8, 8, 8, 8, 8, 8, 8, 8, 8, 8, 8, 8, 8, 8, 8, 8, 8, 8, 8, 8, 8, 8, 8, 8, 8, 8, 8, 8, 8, 8, 8, 8, 8, 8]⟩ : ByteArray) (ji10)))))) else (none)) else (none)) = some r := by first | (rw [hji10] at H; exact H) | (simp only [hji10] at H ⊢; exact H)
     by_cases c11 : 0 ≤ (ji10)
     ·rw [if_pos c11] at H
      have c11b0 : decide (0 ≤ (ji10)) = true := decide_eq_true c11
      clear c11
      by_cases c12 : (ji10) < 256
      ·rw [if_pos c12] at H
       have c12b0 : decide ((ji10) < 256) = true := decide_eq_true c12
       clear c12
       obtain rfl := Option.some.inj H
       have p13 : 0 ≤ ((ji10) : Int) := of_decide_eq_true (by first | (with_reducible assumption) | assumption)
       have q13 : (ji10) < (256 : Int) := of_decide_eq_true (by first | (with_reducible assumption) | assumption)
       have hx13 := bt_at (⟨#[0, 1, 2, 2, 3, 3, 3, 3, 4, 4, 4, 4, 4, 4, 4, 4, 5, 5, 5, 5, 5, 5, 5, 5, 5, 5, 5, 5, 5, 5, 5, 5, 6, 6, 6, 6, 6, 6, 6, 6, 6, 6, 6, 6, 6, 6, 6, 6, 6, 6, 6, 6, 6, 6, 6, 6, 6, 6, 6, 6, 6, 6, 6, 6, 7, 7, 7, 7, 7, 7, 7, 7, 7, 7, 7, 7, 7, 7, 7, 7, 7, 7, 7, 7, 7, 7, 7, 7, 7, 7, 7, 7, 7, 7, 7, 7, 7, 7, 7, 7, 7, 7, 7, 7, 7, 7, 7, 7, 7, 7, 7, 7, 7, 7, 7, 7, 7, 7, 7, 7, 7, 7, 7, 7, 7, 7, 7, 7, 8, 8, 8, 8, 8, 8, 8, 8, 8, 8, 8, 8, 8, 8, 8, 8, 8, 8, 8, 8, 8, 8, 8, 8, 8, 8, 8, 8, 8, 8, 8, 8, 8, 8, 8, 8, 8, 8, 8, 8, 8, 8, 8, 8, 8, 8, 8, 8, 8, 8, 8, 8, 8, 8, 8, 8, 8, 8, 8, 8, 8, 8, 8, 8, 8, 8, 8, 8, 8, 8, 8, 8, 8, 8, 8, 8, 8, 8, 8, 8, 8, 8, 8, 8, 8, 8, 8, 8, 8, 8, 8, 8, 8, 8, 8, 8, 8, 8, 8, 8, 8, 8, 8, 8, 8, 8, 8, 8, 8, 8, 8, 8, 8, 8, 8, 8, 8, 8, 8, 8, 8, 8, 8, 8, 8, 8, 8, 8]⟩ : ByteArray) (ji10)
       replace p13 := eq_true p13
       replace q13 := eq_true q13
       go_wp2
       go_ret
       exact ⟨by first | rfl | (simp; done) | (simp only [← hji10] <;> (first | rfl | (simp; done))) | (simp [*]; done) | (congr 1; (try unfold wrap64); omega) | (congr 1; rw [IntKind.wrap_u64]; omega), gd_⟩
      ·rw [if_neg c12] at H
       exact absurd H (by simp)
     ·rw [if_neg c11] at H
      exact absurd H (by simp)
   ·rw [if_neg c4] at H
    have c4b0 : decide (65536 ≤ x0_1) = false := decide_eq_false c4
    clear c4
    by_cases c14 : x0_1 ≥ 256
    ·rw [if_pos c14] at H
     have c14b0 : decide (256 ≤ x0_1) = true := decide_eq_true c14
     clear c14
     obtain ⟨ji15, hji15⟩ : ∃ j_ : Int, ((x0_1 / 256) % 256) = j_ := ⟨_, rfl⟩
     replace H : (if 0 ≤ (ji15) then (if (ji15) < 256 then (some (wrap64 ((wrap64 (x2_1 + 8)) + (wrap64 (bt (⟨#[0, 1, 2, 2, 3, 3, 3, 3, 4, 4, 4, 4, 4, 4, 4, 4, 5, 5, 5, 5, 5, 5, 5, 5, 5, 5, 5, 5, 5, 5, 5, 5, 6, 6, 6, 6, 6, 6, 6, 6, 6, 6, 6, 6, 6, 6, 6, 6, 6, 6, 6, 6, 6, 6, 6, 6, 6, 6, 6, 6, 6, 6, 6, 6, 7, 7, 7, 7, 7, 7, 7, 7, 7, 7, 7, 7, 7, 7, 7, 7, 7, 7, 7, 7, 7, 7, 7, 7, 7, 7, 7, 7, 7, 7, 7, 7, 7, 7, 7, 7, 7, 7, 7, 7, 7, 7, 7, 7, 7, 7, 7, 7, 7, 7, 7, 7, 7, 7, 7, 7, 7, 7, 7, 7, 7, 7, 7, 7, 8, 8, 8, 8, 8, 8, 8, 8, 8, 8, 8, 8, 8, 8, 8, 8, 8, 8, 8, 8, 8, 8, 8, 8, 8, 8, 8, 8, 8, 8, 8, 8, 8, 8, 8, 8, 8, 8, 8, 8, 8, 8, 8, 8, 8, 8, 8, 8, 8, 8, 8, 8, 8, 8, 8, 8, 8, 8, 8, 8, 8, 8, 8, 8, 8, 8, 8, 8, 8, 8, 8, 8, 8, 8, 8, 8, 8, 8, 8, 8, 8, 8, 8, 8, 8, 8, 8, 8, 8, 8, 8, 8, 8, 8, 8, 8, 8, 8, 8, 8, 8, 8, 8, 8, 8, 8, 8, 8, 8, 8, 8, 8, 8, 8, 8, 8, 8, 8, 8, 8, 8, 8, 8, 8, 8, 8, 8, 8]⟩ : ByteArray) (ji15)))))) else (none)) else (none)) = some r := by first | (rw [hji15] at H; exact H) | (simp only [hji15] at H ⊢; exact H)
     by_cases c16 : 0 ≤ (ji15)
     ·rw [if_pos c16] at H
      have c16b0 : decide (0 ≤ (ji15)) = true := decide_eq_true c16
      clear c16
      by_cases c17 : (ji15) < 256
      ·rw [if_pos c17] at H
       have c17b0 : decide ((ji15) < 256) = true := decide_eq_true c17
       clear c17
       obtain rfl := Option.some.inj H
       have p18 : 0 ≤ ((ji15) : Int) := of_decide_eq_true (by first | (with_reducible assumption) | assumption)
       have q18 : (ji15) < (256 : Int) := of_decide_eq_true (by first | (with_reducible assumption) | assumption)
       have hx18 := bt_at (⟨#[0, 1, 2, 2, 3, 3, 3, 3, 4, 4, 4, 4, 4, 4, 4, 4, 5, 5, 5, 5, 5, 5, 5, 5, 5, 5, 5, 5, 5, 5, 5, 5, 6, 6, 6, 6, 6, 6, 6, 6, 6, 6, 6, 6, 6, 6, 6, 6, 6, 6, 6, 6, 6, 6, 6, 6, 6, 6, 6, 6, 6, 6, 6, 6, 7, 7, 7, 7, 7, 7, 7, 7, 7, 7, 7, 7, 7, 7, 7, 7, 7, 7, 7, 7, 7, 7, 7, 7, 7, 7, 7, 7, 7, 7, 7, 7, 7, 7, 7, 7, 7, 7, 7, 7, 7, 7, 7, 7, 7, 7, 7, 7, 7, 7, 7, 7, 7, 7, 7, 7, 7, 7, 7, 7, 7, 7, 7, 7, 8, 8, 8, 8, 8, 8, 8, 8, 8, 8, 8, 8, 8, 8, 8, 8, 8, 8, 8, 8, 8, 8, 8, 8, 8, 8, 8, 8, 8, 8, 8, 8, 8, 8, 8, 8, 8, 8, 8, 8, 8, 8, 8, 8, 8, 8, 8, 8, 8, 8, 8, 8, 8, 8, 8, 8, 8, 8, 8, 8, 8, 8, 8, 8, 8, 8, 8, 8, 8, 8, 8, 8, 8, 8, 8, 8, 8, 8, 8, 8, 8, 8, 8, 8, 8, 8, 8, 8, 8, 8, 8, 8, 8, 8, 8, 8, 8, 8, 8, 8, 8, 8, 8, 8, 8, 8, 8, 8, 8, 8, 8, 8, 8, 8, 8, 8, 8, 8, 8, 8, 8, 8, 8, 8, 8, 8, 8, 8]⟩ : ByteArray) (ji15)
       replace p18 := eq_true p18
       replace q18 := eq_true q18
       go_wp2
       go_ret
       exact ⟨by first | rfl | (simp; done) | (simp only [← hji15] <;> (first | rfl | (simp; done))) | (simp [*]; done) | (congr 1; (try unfold wrap64); omega) | (congr 1; rw [IntKind.wrap_u64]; omega), gd_⟩
      ·rw [if_neg c17] at H
       exact absurd H (by simp)
     ·rw [if_neg c16] at H
      exact absurd H (by simp)
    ·rw [if_neg c14] at H
     have c14b0 : decide (256 ≤ x0_1) = false := decide_eq_false c14
     clear c14
     obtain ⟨ji19, hji19⟩ : ∃ j_ : Int, ((x0_1) % 256) = j_ := ⟨_, rfl⟩
     replace H : (if 0 ≤ (ji19) then (if (ji19) < 256 then (some (wrap64 (x2_1 + (wrap64 (bt (⟨#[0, 1, 2, 2, 3, 3, 3, 3, 4, 4, 4, 4, 4, 4, 4, 4, 5, 5, 5, 5, 5, 5, 5, 5, 5, 5, 5, 5, 5, 5, 5, 5, 6, 6, 6, 6, 6, 6, 6, 6, 6, 6, 6, 6, 6, 6, 6, 6, 6, 6, 6, 6, 6, 6, 6, 6, 6, 6, 6, 6, 6, 6, 6, 6, 7, 7, 7, 7, 7, 7, 7, 7, 7, 7, 7, 7, 7, 7, 7, 7, 7, 7, 7, 7, 7, 7, 7, 7, 7, 7, 7, 7, 7, 7, 7, 7, 7, 7, 7, 7, 7, 7, 7, 7, 7, 7, 7, 7, 7, 7, 7, 7, 7, 7, 7, 7, 7, 7, 7, 7, 7, 7, 7, 7, 7, 7, 7, 7, 8, 8, 8, 8, 8, 8, 8, 8, 8, 8, 8, 8, 8, 8, 8, 8, 8, 8, 8, 8, 8, 8, 8, 8, 8, 8, 8, 8, 8, 8, 8, 8, 8, 8, 8, 8, 8, 8, 8, 8, 8, 8, 8, 8, 8, 8, 8, 8, 8, 8, 8, 8, 8, 8, 8, 8, 8, 8, 8, 8, 8, 8, 8, 8, 8, 8, 8, 8, 8, 8, 8, 8, 8, 8, 8, 8, 8, 8, 8, 8, 8, 8, 8, 8, 8, 8, 8, 8, 8, 8, 8, 8, 8, 8, 8, 8, 8, 8, 8, 8, 8, 8, 8, 8, 8, 8, 8, 8, 8, 8, 8, 8, 8, 8, 8, 8, 8, 8, 8, 8, 8, 8, 8, 8, 8, 8, 8, 8]⟩ : ByteArray) (ji19)))))) else (none)) else (none)) = some r := by first | (rw [hji19] at H; exact H) | (simp only [hji19] at H ⊢; exact H)
     by_cases c20 : 0 ≤ (ji19)
     ·rw [if_pos c20] at H
      have c20b0 : decide (0 ≤ (ji19)) = true := decide_eq_true c20
      clear c20
      by_cases c21 : (ji19) < 256
      ·rw [if_pos c21] at H
       have c21b0 : decide ((ji19) < 256) = true := decide_eq_true c21
       clear c21
       obtain rfl := Option.some.inj H
       have p22 : 0 ≤ ((ji19) : Int) := of_decide_eq_true (by first | (with_reducible assumption) | assumption)
       have q22 : (ji19) < (256 : Int) := of_decide_eq_true (by first | (with_reducible assumption) | assumption)
       have hx22 := bt_at (⟨#[0, 1, 2, 2, 3, 3, 3, 3, 4, 4, 4, 4, 4, 4, 4, 4, 5, 5, 5, 5, 5, 5, 5, 5, 5, 5, 5, 5, 5, 5, 5, 5, 6, 6, 6, 6, 6, 6, 6, 6, 6, 6, 6, 6, 6, 6, 6, 6, 6, 6, 6, 6, 6, 6, 6, 6, 6, 6, 6, 6, 6, 6, 6, 6, 7, 7, 7, 7, 7, 7, 7, 7, 7, 7, 7, 7, 7, 7, 7, 7, 7, 7, 7, 7, 7, 7, 7, 7, 7, 7, 7, 7, 7, 7, 7, 7, 7, 7, 7, 7, 7, 7, 7, 7, 7, 7, 7, 7, 7, 7, 7, 7, 7, 7, 7, 7, 7, 7, 7, 7, 7, 7, 7, 7, 7, 7, 7, 7, 8, 8, 8, 8, 8, 8, 8, 8, 8, 8, 8, 8, 8, 8, 8, 8, 8, 8, 8, 8, 8, 8, 8, 8, 8, 8, 8, 8, 8, 8, 8, 8, 8, 8, 8, 8, 8, 8, 8, 8, 8, 8, 8, 8, 8, 8, 8, 8, 8, 8, 8, 8, 8, 8, 8, 8, 8, 8, 8, 8, 8, 8, 8, 8, 8, 8, 8, 8, 8, 8, 8, 8, 8, 8, 8, 8, 8, 8, 8, 8, 8, 8, 8, 8, 8, 8, 8, 8, 8, 8, 8, 8, 8, 8, 8, 8, 8, 8, 8, 8, 8, 8, 8, 8, 8, 8, 8, 8, 8, 8, 8, 8, 8, 8, 8, 8, 8, 8, 8, 8, 8, 8, 8, 8, 8, 8, 8, 8]⟩ : ByteArray) (ji19)
       replace p22 := eq_true p22
       replace q22 := eq_true q22
       go_wp2
       go_ret
       exact ⟨by first | rfl | (simp; done) | (simp only [← hji19] <;> (first | rfl | (simp; done))) | (simp [*]; done) | (congr 1; (try unfold wrap64); omega) | (congr 1; rw [IntKind.wrap_u64]; omega), gd_⟩
      ·rw [if_neg c21] at H
       exact absurd H (by simp)
     ·rw [if_neg c20] at H
      exact absurd H (by simp)

-- NEED 0
/-! ### bits_Len: function 143 -/
def bits_Len.f (k : Nat) (a0 : Int) : Option (Int) := (bits_Len64.f k a0).bind fun t106 => (some t106)
theorem bits_Len.mono : ∀ a0 k, LeO (bits_Len.f k a0) (bits_Len.f (k + 1) a0) := by
 intro a0 k
 unfold bits_Len.f
 repeat' first
   |(with_reducible first|exact bits_Len64.mono _ _|exact LeO.refl _|exact LeO.none _|refine LeO.ite ?_ ?_|refine LeO.bind ?_ (fun _ => ?_))
   |exact bits_Len64.mono _ _
   |exact LeO.none _
   |refine LeO.ite ?_ ?_
   |refine LeO.bind ?_ (fun _ => ?_)
theorem bits_Len.calls (k : Nat) (a0 r : Int) (w : World) (h : bits_Len.f k a0 = some r) :
  Calls Tryz.prog 143 #[.int .u64 a0] w fun e w' => e = .returned (.int .i64 r) ∧ Drawn0 w w' := by
 have H : ((bits_Len64.f k a0).bind fun t106 => (some t106)) = some r := h
 clear h
 replace H := bq_ H
 obtain ⟨t106, A20, H⟩ := H
 replace H : (some t106) = some r := H
 have A2 := Aside0.mk A20
 clear A20
 obtain rfl := Option.some.inj H
 go_enter Tryz.func143, Tryz.ntmps143
 go_wp2_with (first | ((with_reducible refine gate_callee (f := 172) rfl ?_); refine goesL_ (some 4) rfl rfl Tryz.func172 (by kernel_rfl) rfl #[.int .u64 a0] rfl gl ?_; (with_reducible refine (bits_Len64.calls k a0 t106 _ A2.out).mono ?_); rintro e w' ⟨rfl, ⟨nd, rfl⟩⟩; refine ⟨_, rfl, ?_⟩))
 go_ret
 exact ⟨gr_, gd_⟩


-- NEED 0
/-! ### dC: function 153 -/
def dC.f (a0 : Int) : Option (Int) := (bI.f a0).bind fun bt107 => (if 0 ≤ (IntKind.u64.wrap (wrap64 (bt107.1 - 1))) then (some (wrap64 (2 - (shl .i64 1 (IntKind.u64.wrap (wrap64 (bt107.1 - 1))))))) else (none))
theorem dC.calls (a0 r : Int) (w : World) (h : dC.f a0 = some r) :
  Calls Tryz.prog 153 #[.int .i64 a0] w fun e w' => e = .returned (.int .i64 r) ∧ Drawn0 w w' := by
 have H : ((bI.f a0).bind fun bt107 => (if 0 ≤ (IntKind.u64.wrap (wrap64 (bt107.1 - 1))) then (some (wrap64 (2 - (shl .i64 1 (IntKind.u64.wrap (wrap64 (bt107.1 - 1))))))) else (none))) = some r := h
 clear h
 replace H := bq_ H
 obtain ⟨⟨t107, t108⟩, A20, H⟩ := H
 replace H : (if 0 ≤ (IntKind.u64.wrap (wrap64 (t107 - 1))) then (some (wrap64 (2 - (shl .i64 1 (IntKind.u64.wrap (wrap64 (t107 - 1))))))) else (none)) = some r := H
 have A2 := Aside0.mk A20
 clear A20
 obtain ⟨ji3, hji3⟩ : ∃ j_ : Int, (IntKind.u64.wrap (wrap64 (t107 - 1))) = j_ := ⟨_, rfl⟩
 replace H : (if 0 ≤ (ji3) then (some (wrap64 (2 - (shl .i64 1 (ji3))))) else (none)) = some r := by first | (rw [hji3] at H; exact H) | (simp only [hji3] at H ⊢; exact H)
 (try rw [hji3] at A2)
 by_cases c4 : 0 ≤ (ji3)
 ·rw [if_pos c4] at H
  have c4b0 := eq_true c4
  have c4b1 : decide (0 ≤ (ji3)) = true := decide_eq_true c4
  clear c4
  obtain ⟨ji5, hji5⟩ : ∃ j_ : Int, (shl .i64 1 (ji3)) = j_ := ⟨_, rfl⟩
  replace H : (some (wrap64 (2 - (ji5)))) = some r := by first | (rw [hji5] at H; exact H) | (simp only [hji5] at H ⊢; exact H)
  (try rw [hji5] at A2)
  have hji5_ : (IntKind.i64.wrap (1 * 2 ^ min (ji3).toNat 64)) = ji5 := hji5
  have hji5z : (ji3) ≤ 64 → (IntKind.i64.wrap (1 * 2 ^ (ji3).toNat)) = ji5 := shl_small hji5
  have hji5u : (IntKind.i64.wrap (2 ^ min (ji3).toNat 64)) = ji5 := by have h_ := hji5_; rw [Int.one_mul] at h_; exact h_
  have hji5v : (ji3) ≤ 64 → (IntKind.i64.wrap (2 ^ (ji3).toNat)) = ji5 := fun hle_ => by have h_ := hji5z hle_; rw [Int.one_mul] at h_; exact h_
  have hji5y : (wrap64 (1 * 2 ^ min (ji3).toNat 64)) = ji5 := (i64_w _).symm.trans hji5_
  have hji5x : (ji3) ≤ 64 → (wrap64 (1 * 2 ^ (ji3).toNat)) = ji5 := fun h_ => (i64_w _).symm.trans (hji5z h_)
  obtain rfl := Option.some.inj H
  go_enter Tryz.func153, Tryz.ntmps153
  go_wp2_with (first | ((with_reducible refine gate_callee (f := 149) rfl ?_); refine goesL_ (some 7) rfl rfl Tryz.func149 (by kernel_rfl) rfl #[.int .i64 a0] rfl gl ?_; (with_reducible refine (bI.calls a0 t107 t108 _ A2.out).mono ?_); rintro e w' ⟨rfl, ⟨nd, rfl⟩⟩; refine ⟨_, rfl, ?_⟩))
  go_ret
  exact ⟨by first | rfl | (simp; done) | (simp only [← hji3, ← hji5] <;> (first | rfl | (simp; done))) | (simp [*]; done) | (congr 1; (try unfold wrap64); omega) | (congr 1; rw [IntKind.wrap_u64]; omega), gd_⟩
 ·rw [if_neg c4] at H
  exact absurd H (by simp)

-- NEED 0
/-! ### dH: function 150 -/
def dH.f (k : Nat) (a0 a1 a2 : Int) : Option (Int) := (bI.f a0).bind fun bt109 => ((dC.f a0).bind fun t111 => (if a2 > 0 then ((bits_Len.f k a2).bind fun t112 => (some (wrap64 ((mx t111 (wrap64 ((wrap64 (a1 + t112)) - 1))) - bt109.2)))) else (some (wrap64 (t111 - bt109.2)))))
theorem dH.mono : ∀ a0 a1 a2 k, LeO (dH.f k a0 a1 a2) (dH.f (k + 1) a0 a1 a2) := by
 intro a0 a1 a2 k
 unfold dH.f
 repeat' first
   |(with_reducible first|exact bits_Len.mono _ _|exact LeO.refl _|exact LeO.none _|refine LeO.ite ?_ ?_|refine LeO.bind ?_ (fun _ => ?_))
   |exact bits_Len.mono _ _
   |exact LeO.none _
   |refine LeO.ite ?_ ?_
   |refine LeO.bind ?_ (fun _ => ?_)
theorem dH.calls (k : Nat) (a0 a1 : Int) (a2 r : Int) (w : World) (h : dH.f k a0 a1 a2 = some r) :
  Calls Tryz.prog 150 #[.int .i64 a0, .int .i64 a1, .int .u64 a2] w fun e w' => e = .returned (.int .i64 r) ∧ Below w.heap.size w w' := by
 have HB := Aside0.mk (Below.refl w.heap.size w)
 have H : ((bI.f a0).bind fun bt109 => ((dC.f a0).bind fun t111 => (if a2 > 0 then ((bits_Len.f k a2).bind fun t112 => (some (wrap64 ((mx t111 (wrap64 ((wrap64 (a1 + t112)) - 1))) - bt109.2)))) else (some (wrap64 (t111 - bt109.2)))))) = some r := h
 clear h
 replace H := bq_ H
 obtain ⟨⟨t109, t110⟩, A40, H⟩ := H
 replace H : ((dC.f a0).bind fun t111 => (if a2 > 0 then ((bits_Len.f k a2).bind fun t112 => (some (wrap64 ((mx t111 (wrap64 ((wrap64 (a1 + t112)) - 1))) - t110)))) else (some (wrap64 (t111 - t110))))) = some r := H
 have A4 := Aside0.mk A40
 clear A40
 replace H := bq_ H
 obtain ⟨t111, A50, H⟩ := H
 replace H : (if a2 > 0 then ((bits_Len.f k a2).bind fun t112 => (some (wrap64 ((mx t111 (wrap64 ((wrap64 (a1 + t112)) - 1))) - t110)))) else (some (wrap64 (t111 - t110)))) = some r := H
 have A5 := Aside0.mk A50
 clear A50
 by_cases c6 : a2 > 0
 ·rw [if_pos c6] at H
  have c6b0 : decide (0 < a2) = true := decide_eq_true c6
  clear c6
  replace H := bq_ H
  obtain ⟨t112, A70, H⟩ := H
  replace H : (some (wrap64 ((mx t111 (wrap64 ((wrap64 (a1 + t112)) - 1))) - t110))) = some r := H
  have A7 := Aside0.mk A70
  clear A70
  obtain ⟨ji8, hji8⟩ : ∃ j_ : Int, (mx t111 (wrap64 ((wrap64 (a1 + t112)) - 1))) = j_ := ⟨_, rfl⟩
  replace H : (some (wrap64 ((ji8) - t110))) = some r := by first | (rw [hji8] at H; exact H) | (simp only [hji8] at H ⊢; exact H)
  (try rw [hji8] at A4)
  (try rw [hji8] at A5)
  (try rw [hji8] at A7)
  have hji8_ : (if t111 < (wrap64 ((wrap64 (a1 + t112)) - 1)) then (wrap64 ((wrap64 (a1 + t112)) - 1)) else t111) = ji8 := hji8
  obtain rfl := Option.some.inj H
  go_enter Tryz.func150, Tryz.ntmps150
  go_wp2_with (first | ((with_reducible refine gate_callee (f := 149) rfl ?_); refine goesL_ (some 12) rfl rfl Tryz.func149 (by kernel_rfl) rfl #[.int .i64 a0] rfl gl ?_; (with_reducible refine (bI.calls a0 t109 t110 _ A4.out).mono ?_); rintro e w' ⟨rfl, ⟨nd, rfl⟩⟩; refine ⟨_, rfl, ?_⟩) | ((with_reducible refine gate_callee (f := 153) rfl ?_); refine goesL_ (some 16) rfl rfl Tryz.func153 (by kernel_rfl) rfl #[.int .i64 a0] rfl gl ?_; (with_reducible refine (dC.calls a0 t111 _ A5.out).mono ?_); rintro e w' ⟨rfl, ⟨nd, rfl⟩⟩; refine ⟨_, rfl, ?_⟩) | ((with_reducible refine gate_callee (f := 143) rfl ?_); refine goesL_ (some 22) rfl rfl Tryz.func143 (by kernel_rfl) rfl #[.int .u64 a2] rfl gl ?_; (with_reducible refine (bits_Len.calls k a2 t112 _ A7.out).mono ?_); rintro e w' ⟨rfl, ⟨nd, rfl⟩⟩; refine ⟨_, rfl, ?_⟩))
  go_ret
  exact ⟨by first | rfl | (simp [dE, dD] <;> rfl) | (simp only [← hji8]; first | rfl | (simp [dE, dD] <;> rfl)) | (simp [*, dE, dD] <;> rfl), bl0 HB.out⟩
 ·rw [if_neg c6] at H
  have c6b0 : decide (0 < a2) = false := decide_eq_false c6
  clear c6
  obtain rfl := Option.some.inj H
  go_enter Tryz.func150, Tryz.ntmps150
  go_wp2_with (first | ((with_reducible refine gate_callee (f := 149) rfl ?_); refine goesL_ (some 12) rfl rfl Tryz.func149 (by kernel_rfl) rfl #[.int .i64 a0] rfl gl ?_; (with_reducible refine (bI.calls a0 t109 t110 _ A4.out).mono ?_); rintro e w' ⟨rfl, ⟨nd, rfl⟩⟩; refine ⟨_, rfl, ?_⟩) | ((with_reducible refine gate_callee (f := 153) rfl ?_); refine goesL_ (some 16) rfl rfl Tryz.func153 (by kernel_rfl) rfl #[.int .i64 a0] rfl gl ?_; (with_reducible refine (dC.calls a0 t111 _ A5.out).mono ?_); rintro e w' ⟨rfl, ⟨nd, rfl⟩⟩; refine ⟨_, rfl, ?_⟩))
  go_ret
  exact ⟨by first | rfl | (simp [dE, dD] <;> rfl) | (simp [*, dE, dD] <;> rfl), bl0 HB.out⟩

-- NEED 0
/-! ### aU: function 144 -/
def aU.j0 : Nat → Int → Int → Bool → Option (Int × Bool)
 |0, _, _, _ => none
 |k + 1, x0, x1, x8 => if x8 = true then (some (0, (x0 != 0))) else (if x1 ≥ 0 then (if 0 ≤ (IntKind.u64.wrap (x1)) then (some (shr .u64 x0 (IntKind.u64.wrap (x1)), ((shl .u64 (shr .u64 x0 (IntKind.u64.wrap (x1))) (IntKind.u64.wrap (x1))) != x0))) else (none)) else (if 0 ≤ (IntKind.u64.wrap (wrap64 (-x1))) then (some (shl .u64 x0 (IntKind.u64.wrap (wrap64 (-x1))), ((shr .u64 (shl .u64 x0 (IntKind.u64.wrap (wrap64 (-x1)))) (IntKind.u64.wrap (wrap64 (-x1)))) != x0))) else (none)))
def aU.f (k : Nat) (a0 a1 : Int) : Option (Int × Bool) := if a1 ≥ 64 then (aU.j0 k a0 a1 true) else (aU.j0 k a0 a1 (decide (a1 ≤ (-64))))
theorem aU.eX : ∀ k, (∀ y0 y1 y2, LeO (aU.j0 k y0 y1 y2) (aU.j0 (k + 1) y0 y1 y2))
 |0 => fun _ _ _ r h => by simp [aU.j0] at h
 |k + 1 => by
  have ih0 := aU.eX k
  ·intro y0 y1 y2
   unfold aU.j0
   repeat' first
   |(with_reducible first|exact ih0 _ _ _|exact LeO.refl _|exact LeO.none _|refine LeO.ite ?_ ?_|refine LeO.bind ?_ (fun _ => ?_))
   |exact ih0 _ _ _
   |exact LeO.none _
   |refine LeO.ite ?_ ?_
   |refine LeO.bind ?_ (fun _ => ?_)
theorem aU.mono : ∀ a0 a1 k, LeO (aU.f k a0 a1) (aU.f (k + 1) a0 a1) := by
 intro a0 a1 k
 have ih0 := aU.eX k
 unfold aU.f
 repeat' first
   |(with_reducible first|exact ih0 _ _ _|exact LeO.refl _|exact LeO.none _|refine LeO.ite ?_ ?_|refine LeO.bind ?_ (fun _ => ?_))
   |exact ih0 _ _ _
   |exact LeO.none _
   |refine LeO.ite ?_ ?_
   |refine LeO.bind ?_ (fun _ => ?_)
theorem aU.calls (k : Nat) (a0 a1 r1 : Int) (r2 : Bool) (w : World) (h : aU.f k a0 a1 = some (r1, r2)) :
  Calls Tryz.prog 144 #[.int .u64 a0, .int .i64 a1] w fun e w' => e = .returned (.tuple #[.int .u64 r1, .bool r2]) ∧ Drawn0 w w' := by
 have H : (if a1 ≥ 64 then (aU.j0 k a0 a1 true) else (aU.j0 k a0 a1 (decide (a1 ≤ (-64))))) = some (r1, r2) := h
 clear h
 have HC3 := Aside0.mk H
 clear H
 go_enter Tryz.func144, Tryz.ntmps144
 go_upto_region 1 with (fail)
 go_cut [8] (fun v8 wc => ∃ (kq : Nat) (x8_2 : Bool), v8 = .bool x8_2 ∧ Aside0 (aU.j0 kq a0 a1 x8_2 = some (r1, r2)) ∧ Aside0 (kq ≤ k) ∧ Drawn0 w wc)
 case first =>
  have H := HC3.out
  clear HC3
  by_cases c4 : a1 ≥ 64
  ·rw [if_pos c4] at H
   have c4b0 : decide (64 ≤ a1) = true := decide_eq_true c4
   clear c4
   (first | rw [c4b0] | (simp only [i64_w, i32_w]; rw [c4b0]) | skip)
   have H' := Aside0.mk H
   clear H
   go_wp2
   go_meet
   case rel => exact ⟨_, (true), (gr_), H', ⟨by first | omega | exact Nat.le_refl _⟩, gd_⟩
  ·rw [if_neg c4] at H
   have c4b0 : decide (64 ≤ a1) = false := decide_eq_false c4
   clear c4
   (first | rw [c4b0] | (simp only [i64_w, i32_w]; rw [c4b0]) | skip)
   have H' := Aside0.mk H
   clear H
   go_wp2
   go_meet
   case rel => exact ⟨_, (decide (a1 ≤ (-64))), (gr_), H', ⟨by first | omega | exact Nat.le_refl _⟩, gd_⟩
 case rest =>
  clear HC3
  try clear c1 p2 c4 c4b0
  obtain ⟨kq, x8_2, rfl, HA, HJ2, ⟨mc2, rfl⟩⟩ := hcut
  cases kq with
  |zero => exact absurd HA.out (by simp [aU.j0])
  |succ kj2 =>
   have H := HA.out
   clear HA
   simp only [aU.j0] at H
   by_cases c5 : x8_2 = true
   ·subst c5
    have H1 : (some (0, (a0 != 0))) = some (r1, r2) := by rw [if_pos rfl] at H; exact H
    clear H
    have H := H1
    clear H1
    simp only [Option.some.injEq, Prod.mk.injEq] at H
    obtain ⟨rfl, rfl⟩ := H
    go_wp2
    go_ret2
    exact ⟨gr_, gd_⟩
   ·replace c5 := Bool.eq_false_iff.mpr c5
    subst c5
    have H1 : (if a1 ≥ 0 then (if 0 ≤ (IntKind.u64.wrap (a1)) then (some (shr .u64 a0 (IntKind.u64.wrap (a1)), ((shl .u64 (shr .u64 a0 (IntKind.u64.wrap (a1))) (IntKind.u64.wrap (a1))) != a0))) else (none)) else (if 0 ≤ (IntKind.u64.wrap (wrap64 (-a1))) then (some (shl .u64 a0 (IntKind.u64.wrap (wrap64 (-a1))), ((shr .u64 (shl .u64 a0 (IntKind.u64.wrap (wrap64 (-a1)))) (IntKind.u64.wrap (wrap64 (-a1)))) != a0))) else (none))) = some (r1, r2) := by rw [if_neg (show ¬ (false = true) by decide)] at H; exact H
    clear H
    have H := H1
    clear H1
    by_cases c6 : a1 ≥ 0
    ·rw [if_pos c6] at H
     have c6b0 : decide (0 ≤ a1) = true := decide_eq_true c6
     clear c6
     obtain ⟨ji7, hji7⟩ : ∃ j_ : Int, (IntKind.u64.wrap (a1)) = j_ := ⟨_, rfl⟩
     replace H : (if 0 ≤ (ji7) then (some (shr .u64 a0 (ji7), ((shl .u64 (shr .u64 a0 (ji7)) (ji7)) != a0))) else (none)) = some (r1, r2) := by first | (rw [hji7] at H; exact H) | (simp only [hji7] at H ⊢; exact H)
     by_cases c8 : 0 ≤ (ji7)
     ·rw [if_pos c8] at H
      have c8b0 := eq_true c8
      have c8b1 : decide (0 ≤ (ji7)) = true := decide_eq_true c8
      clear c8
      obtain ⟨ji9, hji9⟩ : ∃ j_ : Int, (shr .u64 a0 (ji7)) = j_ := ⟨_, rfl⟩
      replace H : (some (ji9, ((shl .u64 (ji9) (ji7)) != a0))) = some (r1, r2) := by first | (rw [hji9] at H; exact H) | (simp only [hji9] at H ⊢; exact H)
      have hji9_ : (a0 / 2 ^ min (ji7).toNat 64) = ji9 := hji9
      have hji9z : (ji7) ≤ 64 → (a0 / 2 ^ (ji7).toNat) = ji9 := shr_small hji9
      have c10b0 := eq_true (of_decide_eq_true (by first | (with_reducible assumption) | assumption) : 0 ≤ (ji7))
      obtain ⟨ji11, hji11⟩ : ∃ j_ : Int, (shl .u64 (ji9) (ji7)) = j_ := ⟨_, rfl⟩
      replace H : (some (ji9, ((ji11) != a0))) = some (r1, r2) := by first | (rw [hji11] at H; exact H) | (simp only [hji11] at H ⊢; exact H)
      have hji11_ : (IntKind.u64.wrap ((ji9) * 2 ^ min (ji7).toNat 64)) = ji11 := hji11
      have hji11z : (ji7) ≤ 64 → (IntKind.u64.wrap ((ji9) * 2 ^ (ji7).toNat)) = ji11 := shl_small hji11
      simp only [Option.some.injEq, Prod.mk.injEq] at H
      obtain ⟨rfl, rfl⟩ := H
      go_wp2
      go_ret2
      exact ⟨by first | rfl | (simp; done) | (simp only [← hji7, ← hji9, ← hji11] <;> (first | rfl | (simp; done))) | (simp [*]; done) | (congr 1; (try unfold wrap64); omega) | (congr 1; rw [IntKind.wrap_u64]; omega), gd_⟩
     ·rw [if_neg c8] at H
      exact absurd H (by simp)
    ·rw [if_neg c6] at H
     have c6b0 : decide (0 ≤ a1) = false := decide_eq_false c6
     clear c6
     obtain ⟨ji12, hji12⟩ : ∃ j_ : Int, (IntKind.u64.wrap (wrap64 (-a1))) = j_ := ⟨_, rfl⟩
     replace H : (if 0 ≤ (ji12) then (some (shl .u64 a0 (ji12), ((shr .u64 (shl .u64 a0 (ji12)) (ji12)) != a0))) else (none)) = some (r1, r2) := by first | (rw [hji12] at H; exact H) | (simp only [hji12] at H ⊢; exact H)
     by_cases c13 : 0 ≤ (ji12)
     ·rw [if_pos c13] at H
      have c13b0 := eq_true c13
      have c13b1 : decide (0 ≤ (ji12)) = true := decide_eq_true c13
      clear c13
      obtain ⟨ji14, hji14⟩ : ∃ j_ : Int, (shl .u64 a0 (ji12)) = j_ := ⟨_, rfl⟩
      replace H : (some (ji14, ((shr .u64 (ji14) (ji12)) != a0))) = some (r1, r2) := by first | (rw [hji14] at H; exact H) | (simp only [hji14] at H ⊢; exact H)
      have hji14_ : (IntKind.u64.wrap (a0 * 2 ^ min (ji12).toNat 64)) = ji14 := hji14
      have hji14z : (ji12) ≤ 64 → (IntKind.u64.wrap (a0 * 2 ^ (ji12).toNat)) = ji14 := shl_small hji14
      have c15b0 := eq_true (of_decide_eq_true (by first | (with_reducible assumption) | assumption) : 0 ≤ (ji12))
      obtain ⟨ji16, hji16⟩ : ∃ j_ : Int, (shr .u64 (ji14) (ji12)) = j_ := ⟨_, rfl⟩
      replace H : (some (ji14, ((ji16) != a0))) = some (r1, r2) := by first | (rw [hji16] at H; exact H) | (simp only [hji16] at H ⊢; exact H)
      have hji16_ : ((ji14) / 2 ^ min (ji12).toNat 64) = ji16 := hji16
      have hji16z : (ji12) ≤ 64 → ((ji14) / 2 ^ (ji12).toNat) = ji16 := shr_small hji16
      simp only [Option.some.injEq, Prod.mk.injEq] at H
      obtain ⟨rfl, rfl⟩ := H
      go_wp2
      go_ret2
      exact ⟨by first | rfl | (simp; done) | (simp only [← hji12, ← hji14, ← hji16] <;> (first | rfl | (simp; done))) | (simp [*]; done) | (congr 1; (try unfold wrap64); omega) | (congr 1; rw [IntKind.wrap_u64]; omega), gd_⟩
     ·rw [if_neg c13] at H
      exact absurd H (by simp)


-- NEED 0
/-! ### cO: function 151 -/
def cO.f (k : Nat) (a0 a1 : Int) (a2 : Bool) : Option (Int × Int) := if a1 ≤ 0 then ((aU.f k a0 a1).bind fun bt113 => (if a2 = true then (some (bt113.1, 1)) else (some (bt113.1, 0)))) else ((aU.f k a0 a1).bind fun bt115 => (if bt115.2 = true then ((aU.f k a0 (wrap64 (a1 - 1))).bind fun bt117 => (if (Go.bits .and .u64 bt117.1 1) = 0 then (some (bt115.1, 1)) else (if bt117.2 = true then (some (bt115.1, 3)) else (if a2 = true then (some (bt115.1, 3)) else (some (bt115.1, 2)))))) else (if a2 = true then (some (bt115.1, 1)) else (some (bt115.1, 0)))))
theorem cO.mono : ∀ a0 a1 a2 k, LeO (cO.f k a0 a1 a2) (cO.f (k + 1) a0 a1 a2) := by
 intro a0 a1 a2 k
 unfold cO.f
 repeat' first
   |(with_reducible first|exact aU.mono _ _ _|exact LeO.refl _|exact LeO.none _|refine LeO.ite ?_ ?_|refine LeO.bind ?_ (fun _ => ?_))
   |exact aU.mono _ _ _
   |exact LeO.none _
   |refine LeO.ite ?_ ?_
   |refine LeO.bind ?_ (fun _ => ?_)
theorem cO.calls (k : Nat) (a0 a1 : Int) (a2 : Bool) (r1 r2 : Int) (w : World) (h : cO.f k a0 a1 a2 = some (r1, r2)) :
  Calls Tryz.prog 151 #[.int .u64 a0, .int .i64 a1, .bool a2] w fun e w' => e = .returned (.tuple #[.int .u64 r1, .int .i64 r2]) ∧ Drawn0 w w' := by
 have H : (if a1 ≤ 0 then ((aU.f k a0 a1).bind fun bt113 => (if a2 = true then (some (bt113.1, 1)) else (some (bt113.1, 0)))) else ((aU.f k a0 a1).bind fun bt115 => (if bt115.2 = true then ((aU.f k a0 (wrap64 (a1 - 1))).bind fun bt117 => (if (Go.bits .and .u64 bt117.1 1) = 0 then (some (bt115.1, 1)) else (if bt117.2 = true then (some (bt115.1, 3)) else (if a2 = true then (some (bt115.1, 3)) else (some (bt115.1, 2)))))) else (if a2 = true then (some (bt115.1, 1)) else (some (bt115.1, 0)))))) = some (r1, r2) := h
 clear h
 by_cases c4 : a1 ≤ 0
 ·rw [if_pos c4] at H
  have c4b0 : decide (a1 ≤ 0) = true := decide_eq_true c4
  clear c4
  replace H := bq_ H
  obtain ⟨⟨t113, t114⟩, A50, H⟩ := H
  replace H : (if a2 = true then (some (t113, 1)) else (some (t113, 0))) = some (r1, r2) := H
  have A5 := Aside0.mk A50
  clear A50
  by_cases c6 : a2 = true
  ·subst c6
   have H1 : (some (t113, 1)) = some (r1, r2) := by rw [if_pos rfl] at H; exact H
   clear H
   have H := H1
   clear H1
   simp only [Option.some.injEq, Prod.mk.injEq] at H
   obtain ⟨rfl, rfl⟩ := H
   go_enter Tryz.func151, Tryz.ntmps151
   go_wp2_with (first | ((with_reducible refine gate_callee (f := 144) rfl ?_); refine goesL_ (some 19) rfl rfl Tryz.func144 (by kernel_rfl) rfl #[.int .u64 a0, .int .i64 a1] rfl gl ?_; (with_reducible refine (aU.calls k a0 a1 t113 t114 _ A5.out).mono ?_); rintro e w' ⟨rfl, ⟨nd, rfl⟩⟩; refine ⟨_, rfl, ?_⟩))
   go_ret2
   exact ⟨gr_, gd_⟩
  ·replace c6 := Bool.eq_false_iff.mpr c6
   subst c6
   have H1 : (some (t113, 0)) = some (r1, r2) := by rw [if_neg (show ¬ (false = true) by decide)] at H; exact H
   clear H
   have H := H1
   clear H1
   simp only [Option.some.injEq, Prod.mk.injEq] at H
   obtain ⟨rfl, rfl⟩ := H
   go_enter Tryz.func151, Tryz.ntmps151
   go_wp2_with (first | ((with_reducible refine gate_callee (f := 144) rfl ?_); refine goesL_ (some 19) rfl rfl Tryz.func144 (by kernel_rfl) rfl #[.int .u64 a0, .int .i64 a1] rfl gl ?_; (with_reducible refine (aU.calls k a0 a1 t113 t114 _ A5.out).mono ?_); rintro e w' ⟨rfl, ⟨nd, rfl⟩⟩; refine ⟨_, rfl, ?_⟩))
   go_ret2
   exact ⟨gr_, gd_⟩
 ·rw [if_neg c4] at H
  have c4b0 : decide (a1 ≤ 0) = false := decide_eq_false c4
  clear c4
  replace H := bq_ H
  obtain ⟨⟨t115, t116⟩, A70, H⟩ := H
  replace H : (if t116 = true then ((aU.f k a0 (wrap64 (a1 - 1))).bind fun bt117 => (if (Go.bits .and .u64 bt117.1 1) = 0 then (some (t115, 1)) else (if bt117.2 = true then (some (t115, 3)) else (if a2 = true then (some (t115, 3)) else (some (t115, 2)))))) else (if a2 = true then (some (t115, 1)) else (some (t115, 0)))) = some (r1, r2) := H
  have A7 := Aside0.mk A70
  clear A70
  by_cases c8 : t116 = true
  ·subst c8
   have H1 : ((aU.f k a0 (wrap64 (a1 - 1))).bind fun bt117 => (if (Go.bits .and .u64 bt117.1 1) = 0 then (some (t115, 1)) else (if bt117.2 = true then (some (t115, 3)) else (if a2 = true then (some (t115, 3)) else (some (t115, 2)))))) = some (r1, r2) := by rw [if_pos rfl] at H; exact H
   clear H
   have H := H1
   clear H1
   replace H := bq_ H
   obtain ⟨⟨t117, t118⟩, A90, H⟩ := H
   replace H : (if (Go.bits .and .u64 t117 1) = 0 then (some (t115, 1)) else (if t118 = true then (some (t115, 3)) else (if a2 = true then (some (t115, 3)) else (some (t115, 2))))) = some (r1, r2) := H
   have A9 := Aside0.mk A90
   clear A90
   by_cases c10 : (Go.bits .and .u64 t117 1) = 0
   ·rw [if_pos c10] at H
    have c10b0 : ((Go.bits .and .u64 t117 1) == 0) = true := beq_iff_eq.mpr c10
    have c10b1 : ((Go.bits .and .u64 t117 1) != 0) = false := bne_eq_false_iff_eq.mpr c10
    clear c10
    simp only [Option.some.injEq, Prod.mk.injEq] at H
    obtain ⟨rfl, rfl⟩ := H
    go_enter Tryz.func151, Tryz.ntmps151
    go_wp2_with (first | ((with_reducible refine gate_callee (f := 144) rfl ?_); refine goesL_ (some 28) rfl rfl Tryz.func144 (by kernel_rfl) rfl #[.int .u64 a0, .int .i64 a1] rfl gl ?_; (with_reducible refine (aU.calls k a0 a1 t115 true _ A7.out).mono ?_); rintro e w' ⟨rfl, ⟨nd, rfl⟩⟩; refine ⟨_, rfl, ?_⟩) | ((with_reducible refine gate_callee (f := 144) rfl ?_); refine goesL_ (some 40) rfl rfl Tryz.func144 (by kernel_rfl) rfl #[.int .u64 a0, .int .i64 (wrap64 (a1 - 1))] rfl gl ?_; (with_reducible refine (aU.calls k a0 (wrap64 (a1 - 1)) t117 t118 _ A9.out).mono ?_); rintro e w' ⟨rfl, ⟨nd, rfl⟩⟩; refine ⟨_, rfl, ?_⟩))
    go_ret2
    exact ⟨gr_, gd_⟩
   ·rw [if_neg c10] at H
    have c10b0 : ((Go.bits .and .u64 t117 1) == 0) = false := beq_eq_false_iff_ne.mpr c10
    have c10b1 : ((Go.bits .and .u64 t117 1) != 0) = true := bne_iff_ne.mpr c10
    by_cases c11 : t118 = true
    ·subst c11
     have H1 : (some (t115, 3)) = some (r1, r2) := by rw [if_pos rfl] at H; exact H
     clear H
     have H := H1
     clear H1
     simp only [Option.some.injEq, Prod.mk.injEq] at H
     obtain ⟨rfl, rfl⟩ := H
     go_enter Tryz.func151, Tryz.ntmps151
     go_wp2_with (first | ((with_reducible refine gate_callee (f := 144) rfl ?_); refine goesL_ (some 28) rfl rfl Tryz.func144 (by kernel_rfl) rfl #[.int .u64 a0, .int .i64 a1] rfl gl ?_; (with_reducible refine (aU.calls k a0 a1 t115 true _ A7.out).mono ?_); rintro e w' ⟨rfl, ⟨nd, rfl⟩⟩; refine ⟨_, rfl, ?_⟩) | ((with_reducible refine gate_callee (f := 144) rfl ?_); refine goesL_ (some 40) rfl rfl Tryz.func144 (by kernel_rfl) rfl #[.int .u64 a0, .int .i64 (wrap64 (a1 - 1))] rfl gl ?_; (with_reducible refine (aU.calls k a0 (wrap64 (a1 - 1)) t117 true _ A9.out).mono ?_); rintro e w' ⟨rfl, ⟨nd, rfl⟩⟩; refine ⟨_, rfl, ?_⟩))
     go_ret2
     exact ⟨gr_, gd_⟩
    ·replace c11 := Bool.eq_false_iff.mpr c11
     subst c11
     have H1 : (if a2 = true then (some (t115, 3)) else (some (t115, 2))) = some (r1, r2) := by rw [if_neg (show ¬ (false = true) by decide)] at H; exact H
     clear H
     have H := H1
     clear H1
     by_cases c12 : a2 = true
     ·subst c12
      have H1 : (some (t115, 3)) = some (r1, r2) := by rw [if_pos rfl] at H; exact H
      clear H
      have H := H1
      clear H1
      simp only [Option.some.injEq, Prod.mk.injEq] at H
      obtain ⟨rfl, rfl⟩ := H
      go_enter Tryz.func151, Tryz.ntmps151
      go_wp2_with (first | ((with_reducible refine gate_callee (f := 144) rfl ?_); refine goesL_ (some 28) rfl rfl Tryz.func144 (by kernel_rfl) rfl #[.int .u64 a0, .int .i64 a1] rfl gl ?_; (with_reducible refine (aU.calls k a0 a1 t115 true _ A7.out).mono ?_); rintro e w' ⟨rfl, ⟨nd, rfl⟩⟩; refine ⟨_, rfl, ?_⟩) | ((with_reducible refine gate_callee (f := 144) rfl ?_); refine goesL_ (some 40) rfl rfl Tryz.func144 (by kernel_rfl) rfl #[.int .u64 a0, .int .i64 (wrap64 (a1 - 1))] rfl gl ?_; (with_reducible refine (aU.calls k a0 (wrap64 (a1 - 1)) t117 false _ A9.out).mono ?_); rintro e w' ⟨rfl, ⟨nd, rfl⟩⟩; refine ⟨_, rfl, ?_⟩))
      go_ret2
      exact ⟨gr_, gd_⟩
     ·replace c12 := Bool.eq_false_iff.mpr c12
      subst c12
      have H1 : (some (t115, 2)) = some (r1, r2) := by rw [if_neg (show ¬ (false = true) by decide)] at H; exact H
      clear H
      have H := H1
      clear H1
      simp only [Option.some.injEq, Prod.mk.injEq] at H
      obtain ⟨rfl, rfl⟩ := H
      go_enter Tryz.func151, Tryz.ntmps151
      go_wp2_with (first | ((with_reducible refine gate_callee (f := 144) rfl ?_); refine goesL_ (some 28) rfl rfl Tryz.func144 (by kernel_rfl) rfl #[.int .u64 a0, .int .i64 a1] rfl gl ?_; (with_reducible refine (aU.calls k a0 a1 t115 true _ A7.out).mono ?_); rintro e w' ⟨rfl, ⟨nd, rfl⟩⟩; refine ⟨_, rfl, ?_⟩) | ((with_reducible refine gate_callee (f := 144) rfl ?_); refine goesL_ (some 40) rfl rfl Tryz.func144 (by kernel_rfl) rfl #[.int .u64 a0, .int .i64 (wrap64 (a1 - 1))] rfl gl ?_; (with_reducible refine (aU.calls k a0 (wrap64 (a1 - 1)) t117 false _ A9.out).mono ?_); rintro e w' ⟨rfl, ⟨nd, rfl⟩⟩; refine ⟨_, rfl, ?_⟩))
      go_ret2
      exact ⟨gr_, gd_⟩
  ·replace c8 := Bool.eq_false_iff.mpr c8
   subst c8
   have H1 : (if a2 = true then (some (t115, 1)) else (some (t115, 0))) = some (r1, r2) := by rw [if_neg (show ¬ (false = true) by decide)] at H; exact H
   clear H
   have H := H1
   clear H1
   by_cases c13 : a2 = true
   ·subst c13
    have H1 : (some (t115, 1)) = some (r1, r2) := by rw [if_pos rfl] at H; exact H
    clear H
    have H := H1
    clear H1
    simp only [Option.some.injEq, Prod.mk.injEq] at H
    obtain ⟨rfl, rfl⟩ := H
    go_enter Tryz.func151, Tryz.ntmps151
    go_wp2_with (first | ((with_reducible refine gate_callee (f := 144) rfl ?_); refine goesL_ (some 28) rfl rfl Tryz.func144 (by kernel_rfl) rfl #[.int .u64 a0, .int .i64 a1] rfl gl ?_; (with_reducible refine (aU.calls k a0 a1 t115 false _ A7.out).mono ?_); rintro e w' ⟨rfl, ⟨nd, rfl⟩⟩; refine ⟨_, rfl, ?_⟩))
    go_ret2
    exact ⟨gr_, gd_⟩
   ·replace c13 := Bool.eq_false_iff.mpr c13
    subst c13
    have H1 : (some (t115, 0)) = some (r1, r2) := by rw [if_neg (show ¬ (false = true) by decide)] at H; exact H
    clear H
    have H := H1
    clear H1
    simp only [Option.some.injEq, Prod.mk.injEq] at H
    obtain ⟨rfl, rfl⟩ := H
    go_enter Tryz.func151, Tryz.ntmps151
    go_wp2_with (first | ((with_reducible refine gate_callee (f := 144) rfl ?_); refine goesL_ (some 28) rfl rfl Tryz.func144 (by kernel_rfl) rfl #[.int .u64 a0, .int .i64 a1] rfl gl ?_; (with_reducible refine (aU.calls k a0 a1 t115 false _ A7.out).mono ?_); rintro e w' ⟨rfl, ⟨nd, rfl⟩⟩; refine ⟨_, rfl, ?_⟩))
    go_ret2
    exact ⟨gr_, gd_⟩

-- NEED 0
/-! ### gP: function 152 -/
def gP.f (a0 : Int) (a1 : Bool) (a2 a3 : Int) : Option (Bool) := if a0 = 1 then (some false) else (if a0 = 2 then (if a1 = true then (some false) else (some (a3 != 0))) else (if a0 = 3 then (if a1 = true then (some (a3 != 0)) else (some false)) else (if a0 = 4 then (some (decide (a3 ≥ 2))) else (if a3 = 3 then (some true) else (if a3 = 2 then (some ((Go.bits .and .u64 a2 1) == 1)) else (some false))))))
theorem gP.calls (a0 : Int) (a1 : Bool) (a2 a3 : Int) (r : Bool) (w : World) (h : gP.f a0 a1 a2 a3 = some r) :
  Calls Tryz.prog 152 #[.int .i64 a0, .bool a1, .int .u64 a2, .int .i64 a3] w fun e w' => e = .returned (.bool r) ∧ Drawn0 w w' := by
 have H : (if a0 = 1 then (some false) else (if a0 = 2 then (if a1 = true then (some false) else (some (a3 != 0))) else (if a0 = 3 then (if a1 = true then (some (a3 != 0)) else (some false)) else (if a0 = 4 then (some (decide (a3 ≥ 2))) else (if a3 = 3 then (some true) else (if a3 = 2 then (some ((Go.bits .and .u64 a2 1) == 1)) else (some false))))))) = some r := h
 clear h
 by_cases c5 : a0 = 1
 ·rw [if_pos c5] at H
  have c5b0 : (a0 == 1) = true := beq_iff_eq.mpr c5
  have c5b1 : (a0 != 1) = false := bne_eq_false_iff_eq.mpr c5
  clear c5
  obtain rfl := Option.some.inj H
  go_enter Tryz.func152, Tryz.ntmps152
  go_wp2
  go_ret
  exact ⟨gr_, gd_⟩
 ·rw [if_neg c5] at H
  have c5b0 : (a0 == 1) = false := beq_eq_false_iff_ne.mpr c5
  have c5b1 : (a0 != 1) = true := bne_iff_ne.mpr c5
  by_cases c6 : a0 = 2
  ·rw [if_pos c6] at H
   have c6b0 : (a0 == 2) = true := beq_iff_eq.mpr c6
   have c6b1 : (a0 != 2) = false := bne_eq_false_iff_eq.mpr c6
   clear c6
   by_cases c7 : a1 = true
   ·subst c7
    have H1 : (some false) = some r := by rw [if_pos rfl] at H; exact H
    clear H
    have H := H1
    clear H1
    obtain rfl := Option.some.inj H
    go_enter Tryz.func152, Tryz.ntmps152
    go_wp2
    go_ret
    exact ⟨gr_, gd_⟩
   ·replace c7 := Bool.eq_false_iff.mpr c7
    subst c7
    have H1 : (some (a3 != 0)) = some r := by rw [if_neg (show ¬ (false = true) by decide)] at H; exact H
    clear H
    have H := H1
    clear H1
    obtain rfl := Option.some.inj H
    go_enter Tryz.func152, Tryz.ntmps152
    go_wp2
    go_ret
    exact ⟨gr_, gd_⟩
  ·rw [if_neg c6] at H
   have c6b0 : (a0 == 2) = false := beq_eq_false_iff_ne.mpr c6
   have c6b1 : (a0 != 2) = true := bne_iff_ne.mpr c6
   by_cases c8 : a0 = 3
   ·rw [if_pos c8] at H
    have c8b0 : (a0 == 3) = true := beq_iff_eq.mpr c8
    have c8b1 : (a0 != 3) = false := bne_eq_false_iff_eq.mpr c8
    clear c8
    by_cases c9 : a1 = true
    ·subst c9
     have H1 : (some (a3 != 0)) = some r := by rw [if_pos rfl] at H; exact H
     clear H
     have H := H1
     clear H1
     obtain rfl := Option.some.inj H
     go_enter Tryz.func152, Tryz.ntmps152
     go_wp2
     go_ret
     exact ⟨gr_, gd_⟩
    ·replace c9 := Bool.eq_false_iff.mpr c9
     subst c9
     have H1 : (some false) = some r := by rw [if_neg (show ¬ (false = true) by decide)] at H; exact H
     clear H
     have H := H1
     clear H1
     obtain rfl := Option.some.inj H
     go_enter Tryz.func152, Tryz.ntmps152
     go_wp2
     go_ret
     exact ⟨gr_, gd_⟩
   ·rw [if_neg c8] at H
    have c8b0 : (a0 == 3) = false := beq_eq_false_iff_ne.mpr c8
    have c8b1 : (a0 != 3) = true := bne_iff_ne.mpr c8
    by_cases c10 : a0 = 4
    ·rw [if_pos c10] at H
     have c10b0 : (a0 == 4) = true := beq_iff_eq.mpr c10
     have c10b1 : (a0 != 4) = false := bne_eq_false_iff_eq.mpr c10
     clear c10
     obtain rfl := Option.some.inj H
     go_enter Tryz.func152, Tryz.ntmps152
     go_wp2
     go_ret
     exact ⟨gr_, gd_⟩
    ·rw [if_neg c10] at H
     have c10b0 : (a0 == 4) = false := beq_eq_false_iff_ne.mpr c10
     have c10b1 : (a0 != 4) = true := bne_iff_ne.mpr c10
     by_cases c11 : a3 = 3
     ·rw [if_pos c11] at H
      have c11b0 : (a3 == 3) = true := beq_iff_eq.mpr c11
      have c11b1 : (a3 != 3) = false := bne_eq_false_iff_eq.mpr c11
      clear c11
      obtain rfl := Option.some.inj H
      go_enter Tryz.func152, Tryz.ntmps152
      go_wp2
      go_ret
      exact ⟨gr_, gd_⟩
     ·rw [if_neg c11] at H
      have c11b0 : (a3 == 3) = false := beq_eq_false_iff_ne.mpr c11
      have c11b1 : (a3 != 3) = true := bne_iff_ne.mpr c11
      by_cases c12 : a3 = 2
      ·rw [if_pos c12] at H
       have c12b0 : (a3 == 2) = true := beq_iff_eq.mpr c12
       have c12b1 : (a3 != 2) = false := bne_eq_false_iff_eq.mpr c12
       clear c12
       obtain rfl := Option.some.inj H
       go_enter Tryz.func152, Tryz.ntmps152
       go_wp2
       go_ret
       exact ⟨gr_, gd_⟩
      ·rw [if_neg c12] at H
       have c12b0 : (a3 == 2) = false := beq_eq_false_iff_ne.mpr c12
       have c12b1 : (a3 != 2) = true := bne_iff_ne.mpr c12
       obtain rfl := Option.some.inj H
       go_enter Tryz.func152, Tryz.ntmps152
       go_wp2
       go_ret
       exact ⟨gr_, gd_⟩

-- NEED 0
/-! ### dF: function 142 -/
def dF.f (a0 : Int) (a1 : Bool) : Option (Int) := (dK.f a0).bind fun t119 => ((bX.f a0 a1 t119 0).bind fun t120 => (some t120))
theorem dF.calls (a0 : Int) (a1 : Bool) (r : Int) (w : World) (h : dF.f a0 a1 = some r) :
  Calls Tryz.prog 142 #[.int .i64 a0, .bool a1] w fun e w' => e = .returned (.int .u32 r) ∧ Drawn0 w w' := by
 have H : ((dK.f a0).bind fun t119 => ((bX.f a0 a1 t119 0).bind fun t120 => (some t120))) = some r := h
 clear h
 replace H := bq_ H
 obtain ⟨t119, A30, H⟩ := H
 replace H : ((bX.f a0 a1 t119 0).bind fun t120 => (some t120)) = some r := H
 have A3 := Aside0.mk A30
 clear A30
 replace H := bq_ H
 obtain ⟨t120, A40, H⟩ := H
 replace H : (some t120) = some r := H
 have A4 := Aside0.mk A40
 clear A40
 obtain rfl := Option.some.inj H
 go_enter Tryz.func142, Tryz.ntmps142
 go_wp2_with (first | ((with_reducible refine gate_callee (f := 116) rfl ?_); refine goesL_ (some 8) rfl rfl Tryz.func116 (by kernel_rfl) rfl #[.int .i64 a0] rfl gl ?_; (with_reducible refine (dK.calls a0 t119 _ A3.out).mono ?_); rintro e w' ⟨rfl, ⟨nd, rfl⟩⟩; refine ⟨_, rfl, ?_⟩) | ((with_reducible refine gate_callee (f := 155) rfl ?_); refine goesL_ (some 9) rfl rfl Tryz.func155 (by kernel_rfl) rfl #[.int .i64 a0, .bool a1, .int .i64 t119, .int .u32 0] rfl gl ?_; (with_reducible refine (bX.calls a0 a1 t119 0 t120 _ A4.out).mono ?_); rintro e w' ⟨rfl, ⟨nd, rfl⟩⟩; refine ⟨_, rfl, ?_⟩))
 go_ret
 exact ⟨gr_, gd_⟩

-- NEED 0
/-! ### dO: function 173 -/
def dO.f (a0 : Int) (a1 : Bool) : Option (Int) := (bI.f a0).bind fun bt121 => ((dK.f a0).bind fun t123 => (if 0 ≤ (IntKind.u64.wrap (bt121.2)) then ((bX.f a0 a1 (wrap64 (t123 - 1)) (((shl .u32 1 (IntKind.u64.wrap (bt121.2))) - 1) % 4294967296)).bind fun t124 => (some t124)) else (none)))
theorem dO.calls (a0 : Int) (a1 : Bool) (r : Int) (w : World) (h : dO.f a0 a1 = some r) :
  Calls Tryz.prog 173 #[.int .i64 a0, .bool a1] w fun e w' => e = .returned (.int .u32 r) ∧ Drawn0 w w' := by
 have H : ((bI.f a0).bind fun bt121 => ((dK.f a0).bind fun t123 => (if 0 ≤ (IntKind.u64.wrap (bt121.2)) then ((bX.f a0 a1 (wrap64 (t123 - 1)) (((shl .u32 1 (IntKind.u64.wrap (bt121.2))) - 1) % 4294967296)).bind fun t124 => (some t124)) else (none)))) = some r := h
 clear h
 replace H := bq_ H
 obtain ⟨⟨t121, t122⟩, A30, H⟩ := H
 replace H : ((dK.f a0).bind fun t123 => (if 0 ≤ (IntKind.u64.wrap (t122)) then ((bX.f a0 a1 (wrap64 (t123 - 1)) (((shl .u32 1 (IntKind.u64.wrap (t122))) - 1) % 4294967296)).bind fun t124 => (some t124)) else (none))) = some r := H
 have A3 := Aside0.mk A30
 clear A30
 replace H := bq_ H
 obtain ⟨t123, A40, H⟩ := H
 replace H : (if 0 ≤ (IntKind.u64.wrap (t122)) then ((bX.f a0 a1 (wrap64 (t123 - 1)) (((shl .u32 1 (IntKind.u64.wrap (t122))) - 1) % 4294967296)).bind fun t124 => (some t124)) else (none)) = some r := H
 have A4 := Aside0.mk A40
 clear A40
 obtain ⟨ji5, hji5⟩ : ∃ j_ : Int, (IntKind.u64.wrap (t122)) = j_ := ⟨_, rfl⟩
 replace H : (if 0 ≤ (ji5) then ((bX.f a0 a1 (wrap64 (t123 - 1)) (((shl .u32 1 (ji5)) - 1) % 4294967296)).bind fun t124 => (some t124)) else (none)) = some r := by first | (rw [hji5] at H; exact H) | (simp only [hji5] at H ⊢; exact H)
 (try rw [hji5] at A3)
 (try rw [hji5] at A4)
 by_cases c6 : 0 ≤ (ji5)
 ·rw [if_pos c6] at H
  have c6b0 := eq_true c6
  have c6b1 : decide (0 ≤ (ji5)) = true := decide_eq_true c6
  clear c6
  obtain ⟨ji7, hji7⟩ : ∃ j_ : Int, (shl .u32 1 (ji5)) = j_ := ⟨_, rfl⟩
  replace H : ((bX.f a0 a1 (wrap64 (t123 - 1)) (((ji7) - 1) % 4294967296)).bind fun t124 => (some t124)) = some r := by first | (rw [hji7] at H; exact H) | (simp only [hji7] at H ⊢; exact H)
  (try rw [hji7] at A3)
  (try rw [hji7] at A4)
  have hji7_ : (IntKind.u32.wrap (1 * 2 ^ min (ji5).toNat 32)) = ji7 := hji7
  have hji7z : (ji5) ≤ 32 → (IntKind.u32.wrap (1 * 2 ^ (ji5).toNat)) = ji7 := shl_small hji7
  have hji7u : (IntKind.u32.wrap (2 ^ min (ji5).toNat 32)) = ji7 := by have h_ := hji7_; rw [Int.one_mul] at h_; exact h_
  have hji7v : (ji5) ≤ 32 → (IntKind.u32.wrap (2 ^ (ji5).toNat)) = ji7 := fun hle_ => by have h_ := hji7z hle_; rw [Int.one_mul] at h_; exact h_
  obtain ⟨ji8, hji8⟩ : ∃ j_ : Int, (((ji7) - 1) % 4294967296) = j_ := ⟨_, rfl⟩
  replace H : ((bX.f a0 a1 (wrap64 (t123 - 1)) (ji8)).bind fun t124 => (some t124)) = some r := by first | (rw [hji8] at H; exact H) | (simp only [hji8] at H ⊢; exact H)
  (try rw [hji8] at A3)
  (try rw [hji8] at A4)
  have hji8l : 0 ≤ ji8 := by rw [← hji8]; exact Int.emod_nonneg _ (by decide)
  have hji8h : ji8 ≤ 4294967295 := by have := Int.emod_lt_of_pos (((ji7) - 1)) (show (0 : Int) < 4294967296 by decide); omega
  have hji8w : (IntKind.u32.wrap ((ji7) - 1)) = ji8 := (l7 _).trans hji8
  (try (have hji8_ := hji8; simp only [Int.add_emod_emod, Int.emod_add_emod, Int.sub_emod_emod, Int.emod_sub_emod] at hji8_))
  replace H := bq_ H
  obtain ⟨t124, A90, H⟩ := H
  replace H : (some t124) = some r := H
  have A9 := Aside0.mk A90
  clear A90
  obtain rfl := Option.some.inj H
  go_enter Tryz.func173, Tryz.ntmps173
  go_wp2_with (first | ((with_reducible refine gate_callee (f := 149) rfl ?_); refine goesL_ (some 9) rfl rfl Tryz.func149 (by kernel_rfl) rfl #[.int .i64 a0] rfl gl ?_; (with_reducible refine (bI.calls a0 t121 t122 _ A3.out).mono ?_); rintro e w' ⟨rfl, ⟨nd, rfl⟩⟩; refine ⟨_, rfl, ?_⟩) | ((with_reducible refine gate_callee (f := 116) rfl ?_); refine goesL_ (some 15) rfl rfl Tryz.func116 (by kernel_rfl) rfl #[.int .i64 a0] rfl gl ?_; (with_reducible refine (dK.calls a0 t123 _ A4.out).mono ?_); rintro e w' ⟨rfl, ⟨nd, rfl⟩⟩; refine ⟨_, rfl, ?_⟩) | ((with_reducible refine gate_callee (f := 155) rfl ?_); refine goesL_ (some 21) rfl rfl Tryz.func155 (by kernel_rfl) rfl #[.int .i64 a0, .bool a1, .int .i64 (wrap64 (t123 - 1)), .int .u32 ji8] rfl (by (try simp only [List.map_toArray, List.map_cons, List.map_nil]); first | done | (simp only [hji8]; rfl) | rfl | (simp only [List.length_drop, List.length_take]; rfl)) ?_; (with_reducible refine (bX.calls a0 a1 (wrap64 (t123 - 1)) ji8 t124 _ A9.out).mono ?_); rintro e w' ⟨rfl, ⟨nd, rfl⟩⟩; refine ⟨_, rfl, ?_⟩))
  go_ret
  exact ⟨by first | rfl | (simp; done) | (simp only [← hji5, ← hji7, ← hji8] <;> (first | rfl | (simp; done))) | (simp [*]; done) | (congr 1; (try unfold wrap64); omega) | (congr 1; rw [IntKind.wrap_u64]; omega), gd_⟩
 ·rw [if_neg c6] at H
  exact absurd H (by simp)

-- NEED 0
/-! ### bR: function 154 -/
def bR.f (a0 a1 : Int) (a2 : Bool) : Option (Int × Bool × Bool × Bool × Bool × Bool) := if a1 = 1 then ((dO.f a0 a2).bind fun t127 => (some (t127, false, false, true, false, true))) else (if a1 = 2 then (if a2 = true then ((dO.f a0 a2).bind fun t128 => (some (t128, false, false, true, false, true))) else ((dF.f a0 a2).bind fun t129 => (some (t129, false, false, true, false, true)))) else (if a1 = 3 then (if a2 = true then ((dF.f a0 a2).bind fun t130 => (some (t130, false, false, true, false, true))) else ((dO.f a0 a2).bind fun t131 => (some (t131, false, false, true, false, true)))) else ((dF.f a0 a2).bind fun t132 => (some (t132, false, false, true, false, true)))))


-- NEED 0
/-! ### dX: function 115 -/
def dX.f (a0 a1 : Int) : Option (Bool × Int × Int) := (bI.f a0).bind fun bt158 => (if 0 ≤ (IntKind.u64.wrap (wrap64 (bt158.1 + bt158.2))) then (if 0 ≤ (IntKind.u64.wrap (bt158.2)) then (if 0 ≤ (IntKind.u64.wrap (bt158.1)) then (some (((Go.bits .and .u32 (shr .u32 a1 (IntKind.u64.wrap (wrap64 (bt158.1 + bt158.2)))) 1) == 1), wrap64 (Go.bits .and .u32 (shr .u32 a1 (IntKind.u64.wrap (bt158.2))) (((shl .u32 1 (IntKind.u64.wrap (bt158.1))) - 1) % 4294967296)), Go.bits .and .u32 a1 (((shl .u32 1 (IntKind.u64.wrap (bt158.2))) - 1) % 4294967296))) else (none)) else (none)) else (none))
theorem dX.calls (a0 a1 : Int) (r1 : Bool) (r2 r3 : Int) (w : World) (h : dX.f a0 a1 = some (r1, r2, r3)) :
  Calls Tryz.prog 115 #[.int .i64 a0, .int .u32 a1] w fun e w' => e = .returned (.tuple #[.bool r1, .int .i64 r2, .int .u32 r3]) ∧ Drawn0 w w' := by
 have H : ((bI.f a0).bind fun bt158 => (if 0 ≤ (IntKind.u64.wrap (wrap64 (bt158.1 + bt158.2))) then (if 0 ≤ (IntKind.u64.wrap (bt158.2)) then (if 0 ≤ (IntKind.u64.wrap (bt158.1)) then (some (((Go.bits .and .u32 (shr .u32 a1 (IntKind.u64.wrap (wrap64 (bt158.1 + bt158.2)))) 1) == 1), wrap64 (Go.bits .and .u32 (shr .u32 a1 (IntKind.u64.wrap (bt158.2))) (((shl .u32 1 (IntKind.u64.wrap (bt158.1))) - 1) % 4294967296)), Go.bits .and .u32 a1 (((shl .u32 1 (IntKind.u64.wrap (bt158.2))) - 1) % 4294967296))) else (none)) else (none)) else (none))) = some (r1, r2, r3) := h
 clear h
 replace H := bq_ H
 obtain ⟨⟨t158, t159⟩, A30, H⟩ := H
 replace H : (if 0 ≤ (IntKind.u64.wrap (wrap64 (t158 + t159))) then (if 0 ≤ (IntKind.u64.wrap (t159)) then (if 0 ≤ (IntKind.u64.wrap (t158)) then (some (((Go.bits .and .u32 (shr .u32 a1 (IntKind.u64.wrap (wrap64 (t158 + t159)))) 1) == 1), wrap64 (Go.bits .and .u32 (shr .u32 a1 (IntKind.u64.wrap (t159))) (((shl .u32 1 (IntKind.u64.wrap (t158))) - 1) % 4294967296)), Go.bits .and .u32 a1 (((shl .u32 1 (IntKind.u64.wrap (t159))) - 1) % 4294967296))) else (none)) else (none)) else (none)) = some (r1, r2, r3) := H
 have A3 := Aside0.mk A30
 clear A30
 obtain ⟨ji4, hji4⟩ : ∃ j_ : Int, (IntKind.u64.wrap (wrap64 (t158 + t159))) = j_ := ⟨_, rfl⟩
 replace H : (if 0 ≤ (ji4) then (if 0 ≤ (IntKind.u64.wrap (t159)) then (if 0 ≤ (IntKind.u64.wrap (t158)) then (some (((Go.bits .and .u32 (shr .u32 a1 (ji4)) 1) == 1), wrap64 (Go.bits .and .u32 (shr .u32 a1 (IntKind.u64.wrap (t159))) (((shl .u32 1 (IntKind.u64.wrap (t158))) - 1) % 4294967296)), Go.bits .and .u32 a1 (((shl .u32 1 (IntKind.u64.wrap (t159))) - 1) % 4294967296))) else (none)) else (none)) else (none)) = some (r1, r2, r3) := by first | (rw [hji4] at H; exact H) | (simp only [hji4] at H ⊢; exact H)
 (try rw [hji4] at A3)
 by_cases c5 : 0 ≤ (ji4)
 ·rw [if_pos c5] at H
  have c5b0 := eq_true c5
  have c5b1 : decide (0 ≤ (ji4)) = true := decide_eq_true c5
  clear c5
  obtain ⟨ji6, hji6⟩ : ∃ j_ : Int, (shr .u32 a1 (ji4)) = j_ := ⟨_, rfl⟩
  replace H : (if 0 ≤ (IntKind.u64.wrap (t159)) then (if 0 ≤ (IntKind.u64.wrap (t158)) then (some (((Go.bits .and .u32 (ji6) 1) == 1), wrap64 (Go.bits .and .u32 (shr .u32 a1 (IntKind.u64.wrap (t159))) (((shl .u32 1 (IntKind.u64.wrap (t158))) - 1) % 4294967296)), Go.bits .and .u32 a1 (((shl .u32 1 (IntKind.u64.wrap (t159))) - 1) % 4294967296))) else (none)) else (none)) = some (r1, r2, r3) := by first | (rw [hji6] at H; exact H) | (simp only [hji6] at H ⊢; exact H)
  (try rw [hji6] at A3)
  have hji6_ : (a1 / 2 ^ min (ji4).toNat 32) = ji6 := hji6
  have hji6z : (ji4) ≤ 32 → (a1 / 2 ^ (ji4).toNat) = ji6 := shr_small hji6
  obtain ⟨ji7, hji7⟩ : ∃ j_ : Int, (IntKind.u64.wrap (t159)) = j_ := ⟨_, rfl⟩
  replace H : (if 0 ≤ (ji7) then (if 0 ≤ (IntKind.u64.wrap (t158)) then (some (((Go.bits .and .u32 (ji6) 1) == 1), wrap64 (Go.bits .and .u32 (shr .u32 a1 (ji7)) (((shl .u32 1 (IntKind.u64.wrap (t158))) - 1) % 4294967296)), Go.bits .and .u32 a1 (((shl .u32 1 (ji7)) - 1) % 4294967296))) else (none)) else (none)) = some (r1, r2, r3) := by first | (rw [hji7] at H; exact H) | (simp only [hji7] at H ⊢; exact H)
  (try rw [hji7] at A3)
  by_cases c8 : 0 ≤ (ji7)
  ·rw [if_pos c8] at H
   have c8b0 := eq_true c8
   have c8b1 : decide (0 ≤ (ji7)) = true := decide_eq_true c8
   clear c8
   obtain ⟨ji9, hji9⟩ : ∃ j_ : Int, (shr .u32 a1 (ji7)) = j_ := ⟨_, rfl⟩
   replace H : (if 0 ≤ (IntKind.u64.wrap (t158)) then (some (((Go.bits .and .u32 (ji6) 1) == 1), wrap64 (Go.bits .and .u32 (ji9) (((shl .u32 1 (IntKind.u64.wrap (t158))) - 1) % 4294967296)), Go.bits .and .u32 a1 (((shl .u32 1 (ji7)) - 1) % 4294967296))) else (none)) = some (r1, r2, r3) := by first | (rw [hji9] at H; exact H) | (simp only [hji9] at H ⊢; exact H)
   (try rw [hji9] at A3)
   have hji9_ : (a1 / 2 ^ min (ji7).toNat 32) = ji9 := hji9
   have hji9z : (ji7) ≤ 32 → (a1 / 2 ^ (ji7).toNat) = ji9 := shr_small hji9
   obtain ⟨ji10, hji10⟩ : ∃ j_ : Int, (IntKind.u64.wrap (t158)) = j_ := ⟨_, rfl⟩
   replace H : (if 0 ≤ (ji10) then (some (((Go.bits .and .u32 (ji6) 1) == 1), wrap64 (Go.bits .and .u32 (ji9) (((shl .u32 1 (ji10)) - 1) % 4294967296)), Go.bits .and .u32 a1 (((shl .u32 1 (ji7)) - 1) % 4294967296))) else (none)) = some (r1, r2, r3) := by first | (rw [hji10] at H; exact H) | (simp only [hji10] at H ⊢; exact H)
   (try rw [hji10] at A3)
   by_cases c11 : 0 ≤ (ji10)
   ·rw [if_pos c11] at H
    have c11b0 := eq_true c11
    have c11b1 : decide (0 ≤ (ji10)) = true := decide_eq_true c11
    clear c11
    obtain ⟨ji12, hji12⟩ : ∃ j_ : Int, (shl .u32 1 (ji10)) = j_ := ⟨_, rfl⟩
    replace H : (some (((Go.bits .and .u32 (ji6) 1) == 1), wrap64 (Go.bits .and .u32 (ji9) (((ji12) - 1) % 4294967296)), Go.bits .and .u32 a1 (((shl .u32 1 (ji7)) - 1) % 4294967296))) = some (r1, r2, r3) := by first | (rw [hji12] at H; exact H) | (simp only [hji12] at H ⊢; exact H)
    (try rw [hji12] at A3)
    have hji12_ : (IntKind.u32.wrap (1 * 2 ^ min (ji10).toNat 32)) = ji12 := hji12
    have hji12z : (ji10) ≤ 32 → (IntKind.u32.wrap (1 * 2 ^ (ji10).toNat)) = ji12 := shl_small hji12
    have hji12u : (IntKind.u32.wrap (2 ^ min (ji10).toNat 32)) = ji12 := by have h_ := hji12_; rw [Int.one_mul] at h_; exact h_
    have hji12v : (ji10) ≤ 32 → (IntKind.u32.wrap (2 ^ (ji10).toNat)) = ji12 := fun hle_ => by have h_ := hji12z hle_; rw [Int.one_mul] at h_; exact h_
    obtain ⟨ji13, hji13⟩ : ∃ j_ : Int, (((ji12) - 1) % 4294967296) = j_ := ⟨_, rfl⟩
    replace H : (some (((Go.bits .and .u32 (ji6) 1) == 1), wrap64 (Go.bits .and .u32 (ji9) (ji13)), Go.bits .and .u32 a1 (((shl .u32 1 (ji7)) - 1) % 4294967296))) = some (r1, r2, r3) := by first | (rw [hji13] at H; exact H) | (simp only [hji13] at H ⊢; exact H)
    (try rw [hji13] at A3)
    have hji13l : 0 ≤ ji13 := by rw [← hji13]; exact Int.emod_nonneg _ (by decide)
    have hji13h : ji13 ≤ 4294967295 := by have := Int.emod_lt_of_pos (((ji12) - 1)) (show (0 : Int) < 4294967296 by decide); omega
    have hji13w : (IntKind.u32.wrap ((ji12) - 1)) = ji13 := (l7 _).trans hji13
    (try (have hji13_ := hji13; simp only [Int.add_emod_emod, Int.emod_add_emod, Int.sub_emod_emod, Int.emod_sub_emod] at hji13_))
    have c14b0 := eq_true (of_decide_eq_true (by first | (with_reducible assumption) | assumption) : 0 ≤ (ji7))
    obtain ⟨ji15, hji15⟩ : ∃ j_ : Int, (shl .u32 1 (ji7)) = j_ := ⟨_, rfl⟩
    replace H : (some (((Go.bits .and .u32 (ji6) 1) == 1), wrap64 (Go.bits .and .u32 (ji9) (ji13)), Go.bits .and .u32 a1 (((ji15) - 1) % 4294967296))) = some (r1, r2, r3) := by first | (rw [hji15] at H; exact H) | (simp only [hji15] at H ⊢; exact H)
    (try rw [hji15] at A3)
    have hji15_ : (IntKind.u32.wrap (1 * 2 ^ min (ji7).toNat 32)) = ji15 := hji15
    have hji15z : (ji7) ≤ 32 → (IntKind.u32.wrap (1 * 2 ^ (ji7).toNat)) = ji15 := shl_small hji15
    have hji15u : (IntKind.u32.wrap (2 ^ min (ji7).toNat 32)) = ji15 := by have h_ := hji15_; rw [Int.one_mul] at h_; exact h_
    have hji15v : (ji7) ≤ 32 → (IntKind.u32.wrap (2 ^ (ji7).toNat)) = ji15 := fun hle_ => by have h_ := hji15z hle_; rw [Int.one_mul] at h_; exact h_
    obtain ⟨ji16, hji16⟩ : ∃ j_ : Int, (((ji15) - 1) % 4294967296) = j_ := ⟨_, rfl⟩
    replace H : (some (((Go.bits .and .u32 (ji6) 1) == 1), wrap64 (Go.bits .and .u32 (ji9) (ji13)), Go.bits .and .u32 a1 (ji16))) = some (r1, r2, r3) := by first | (rw [hji16] at H; exact H) | (simp only [hji16] at H ⊢; exact H)
    (try rw [hji16] at A3)
    have hji16l : 0 ≤ ji16 := by rw [← hji16]; exact Int.emod_nonneg _ (by decide)
    have hji16h : ji16 ≤ 4294967295 := by have := Int.emod_lt_of_pos (((ji15) - 1)) (show (0 : Int) < 4294967296 by decide); omega
    have hji16w : (IntKind.u32.wrap ((ji15) - 1)) = ji16 := (l7 _).trans hji16
    (try (have hji16_ := hji16; simp only [Int.add_emod_emod, Int.emod_add_emod, Int.sub_emod_emod, Int.emod_sub_emod] at hji16_))
    simp only [Option.some.injEq, Prod.mk.injEq] at H
    obtain ⟨rfl, rfl, rfl⟩ := H
    go_enter Tryz.func115, Tryz.ntmps115
    go_wp2_with (first | ((with_reducible refine gate_callee (f := 149) rfl ?_); refine goesL_ (some 11) rfl rfl Tryz.func149 (by kernel_rfl) rfl #[.int .i64 a0] rfl gl ?_; (with_reducible refine (bI.calls a0 t158 t159 _ A3.out).mono ?_); rintro e w' ⟨rfl, ⟨nd, rfl⟩⟩; refine ⟨_, rfl, ?_⟩))
    go_ret3
    exact ⟨by first | rfl | (simp; done) | (simp only [← hji4, ← hji6, ← hji7, ← hji9, ← hji10, ← hji12, ← hji13, ← hji15, ← hji16] <;> (first | rfl | (simp; done))) | (simp [*]; done) | (congr 1; (try unfold wrap64); omega) | (congr 1; rw [IntKind.wrap_u64]; omega), gd_⟩
   ·rw [if_neg c11] at H
    exact absurd H (by simp)
  ·rw [if_neg c8] at H
   exact absurd H (by simp)
 ·rw [if_neg c5] at H
  exact absurd H (by simp)

-- NEED 0
/-! ### aW: function 147 -/
def aW.j0 : Nat → Int → Int → Int → Int → Bool → Option (Int)
 |0, _, _, _, _, _ => none
 |k + 1, x0, x6, x8, x9, x22 => if x22 = true then (some 0) else (if x8 = 0 then (some 1) else ((dK.f x0).bind fun t165 => (if x8 < t165 then (some 2) else (if x9 = 0 then (some 3) else (if 0 ≤ (IntKind.u64.wrap (wrap64 (x6 - 1))) then (if (shr .u32 x9 (IntKind.u64.wrap (wrap64 (x6 - 1)))) = 1 then (some 4) else (some 5)) else (none))))))
def aW.f (k : Nat) (a0 a1 : Int) : Option (Int) := (bI.f a0).bind fun bt160 => ((dX.f a0 a1).bind fun bt162 => (if bt162.2.1 = 0 then (aW.j0 k a0 bt160.2 bt162.2.1 bt162.2.2 (bt162.2.2 == 0)) else (aW.j0 k a0 bt160.2 bt162.2.1 bt162.2.2 false)))
theorem aW.eX : ∀ k, (∀ y0 y1 y2 y3 y4, LeO (aW.j0 k y0 y1 y2 y3 y4) (aW.j0 (k + 1) y0 y1 y2 y3 y4))
 |0 => fun _ _ _ _ _ r h => by simp [aW.j0] at h
 |k + 1 => by
  have ih0 := aW.eX k
  ·intro y0 y1 y2 y3 y4
   unfold aW.j0
   repeat' first
   |(with_reducible first|exact ih0 _ _ _ _ _|exact LeO.refl _|exact LeO.none _|refine LeO.ite ?_ ?_|refine LeO.bind ?_ (fun _ => ?_))
   |exact ih0 _ _ _ _ _
   |exact LeO.none _
   |refine LeO.ite ?_ ?_
   |refine LeO.bind ?_ (fun _ => ?_)
theorem aW.mono : ∀ a0 a1 k, LeO (aW.f k a0 a1) (aW.f (k + 1) a0 a1) := by
 intro a0 a1 k
 have ih0 := aW.eX k
 unfold aW.f
 repeat' first
   |(with_reducible first|exact ih0 _ _ _ _ _|exact LeO.refl _|exact LeO.none _|refine LeO.ite ?_ ?_|refine LeO.bind ?_ (fun _ => ?_))
   |exact ih0 _ _ _ _ _
   |exact LeO.none _
   |refine LeO.ite ?_ ?_
   |refine LeO.bind ?_ (fun _ => ?_)
theorem aW.calls (k : Nat) (a0 a1 r : Int) (w : World) (h : aW.f k a0 a1 = some r) :
  Calls Tryz.prog 147 #[.int .i64 a0, .int .u32 a1] w fun e w' => e = .returned (.int .i64 r) ∧ Drawn0 w w' := by
 have H : ((bI.f a0).bind fun bt160 => ((dX.f a0 a1).bind fun bt162 => (if bt162.2.1 = 0 then (aW.j0 k a0 bt160.2 bt162.2.1 bt162.2.2 (bt162.2.2 == 0)) else (aW.j0 k a0 bt160.2 bt162.2.1 bt162.2.2 false)))) = some r := h
 clear h
 replace H := bq_ H
 obtain ⟨⟨t160, t161⟩, A30, H⟩ := H
 replace H : ((dX.f a0 a1).bind fun bt162 => (if bt162.2.1 = 0 then (aW.j0 k a0 t161 bt162.2.1 bt162.2.2 (bt162.2.2 == 0)) else (aW.j0 k a0 t161 bt162.2.1 bt162.2.2 false))) = some r := H
 have A3 := Aside0.mk A30
 clear A30
 replace H := bq_ H
 obtain ⟨⟨t162, t163, t164⟩, A40, H⟩ := H
 replace H : (if t163 = 0 then (aW.j0 k a0 t161 t163 t164 (t164 == 0)) else (aW.j0 k a0 t161 t163 t164 false)) = some r := H
 have A4 := Aside0.mk A40
 clear A40
 have HC5 := Aside0.mk H
 clear H
 go_enter Tryz.func147, Tryz.ntmps147
 go_upto_region 3 with (first | ((with_reducible refine gate_callee (f := 149) rfl ?_); refine goesL_ (some 12) rfl rfl Tryz.func149 (by kernel_rfl) rfl #[.int .i64 a0] rfl gl ?_; (with_reducible refine (bI.calls a0 t160 t161 _ A3.out).mono ?_); rintro e w' ⟨rfl, ⟨nd, rfl⟩⟩; refine ⟨_, rfl, ?_⟩) | ((with_reducible refine gate_callee (f := 115) rfl ?_); refine goesL_ (some 18) rfl rfl Tryz.func115 (by kernel_rfl) rfl #[.int .i64 a0, .int .u32 a1] rfl gl ?_; (with_reducible refine (dX.calls a0 a1 t162 t163 t164 _ A4.out).mono ?_); rintro e w' ⟨rfl, ⟨nd, rfl⟩⟩; refine ⟨_, rfl, ?_⟩))
 (try simp only [Act.put, sb, sz, ss])
 go_cut [22] (fun v22 wc => ∃ (kq : Nat) (x22_4 : Bool), v22 = .bool x22_4 ∧ Aside0 (aW.j0 kq a0 t161 t163 t164 x22_4 = some r) ∧ Aside0 (kq ≤ k) ∧ Drawn0 w wc)
 case first =>
  have H := HC5.out
  clear HC5
  by_cases c6 : t163 = 0
  ·rw [if_pos c6] at H
   have c6b0 : (t163 == 0) = true := beq_iff_eq.mpr c6
   have c6b1 : (t163 != 0) = false := bne_eq_false_iff_eq.mpr c6
   clear c6
   (first | rw [c6b0] | (simp only [i64_w, i32_w]; rw [c6b0]) | skip)
   have H' := Aside0.mk H
   clear H
   go_wp2
   go_meet
   case rel => exact ⟨_, ((t164 == 0)), (gr_), H', ⟨by first | omega | exact Nat.le_refl _⟩, gd_⟩
  ·rw [if_neg c6] at H
   have c6b0 : (t163 == 0) = false := beq_eq_false_iff_ne.mpr c6
   have c6b1 : (t163 != 0) = true := bne_iff_ne.mpr c6
   (first | rw [c6b0] | (simp only [i64_w, i32_w]; rw [c6b0]) | skip)
   have H' := Aside0.mk H
   clear H
   go_wp2
   go_meet
   case rel => exact ⟨_, (false), (gr_), H', ⟨by first | omega | exact Nat.le_refl _⟩, gd_⟩
 case rest =>
  clear HC5
  try clear c1 p2 c6 c6b0 c6b1 p6
  obtain ⟨kq, x22_4, rfl, HA, HJ4, ⟨mc4, rfl⟩⟩ := hcut
  cases kq with
  |zero => exact absurd HA.out (by simp [aW.j0])
  |succ kj4 =>
   have H := HA.out
   clear HA
   simp only [aW.j0] at H
   by_cases c7 : x22_4 = true
   ·subst c7
    have H1 : (some 0) = some r := by rw [if_pos rfl] at H; exact H
    clear H
    have H := H1
    clear H1
    obtain rfl := Option.some.inj H
    go_wp2
    go_ret
    exact ⟨gr_, gd_⟩
   ·replace c7 := Bool.eq_false_iff.mpr c7
    subst c7
    have H1 : (if t163 = 0 then (some 1) else ((dK.f a0).bind fun t165 => (if t163 < t165 then (some 2) else (if t164 = 0 then (some 3) else (if 0 ≤ (IntKind.u64.wrap (wrap64 (t161 - 1))) then (if (shr .u32 t164 (IntKind.u64.wrap (wrap64 (t161 - 1)))) = 1 then (some 4) else (some 5)) else (none)))))) = some r := by rw [if_neg (show ¬ (false = true) by decide)] at H; exact H
    clear H
    have H := H1
    clear H1
    by_cases c8 : t163 = 0
    ·rw [if_pos c8] at H
     have c8b0 : (t163 == 0) = true := beq_iff_eq.mpr c8
     have c8b1 : (t163 != 0) = false := bne_eq_false_iff_eq.mpr c8
     clear c8
     obtain rfl := Option.some.inj H
     go_wp2
     go_ret
     exact ⟨gr_, gd_⟩
    ·rw [if_neg c8] at H
     have c8b0 : (t163 == 0) = false := beq_eq_false_iff_ne.mpr c8
     have c8b1 : (t163 != 0) = true := bne_iff_ne.mpr c8
     replace H := bq_ H
     obtain ⟨t165, A90, H⟩ := H
     replace H : (if t163 < t165 then (some 2) else (if t164 = 0 then (some 3) else (if 0 ≤ (IntKind.u64.wrap (wrap64 (t161 - 1))) then (if (shr .u32 t164 (IntKind.u64.wrap (wrap64 (t161 - 1)))) = 1 then (some 4) else (some 5)) else (none)))) = some r := H
     have A9 := Aside0.mk A90
     clear A90
     by_cases c10 : t163 < t165
     ·rw [if_pos c10] at H
      have c10b0 : decide (t163 < t165) = true := decide_eq_true c10
      clear c10
      obtain rfl := Option.some.inj H
      go_wp2_with (first | ((with_reducible refine gate_callee (f := 116) rfl ?_); refine goesL_ (some 35) rfl rfl Tryz.func116 (by kernel_rfl) rfl #[.int .i64 a0] rfl gl ?_; (with_reducible refine (dK.calls a0 t165 _ A9.out).mono ?_); rintro e w' ⟨rfl, ⟨nd, rfl⟩⟩; refine ⟨_, rfl, ?_⟩))
      go_ret
      exact ⟨gr_, gd_⟩
     ·rw [if_neg c10] at H
      have c10b0 : decide (t163 < t165) = false := decide_eq_false c10
      clear c10
      by_cases c11 : t164 = 0
      ·rw [if_pos c11] at H
       have c11b0 : (t164 == 0) = true := beq_iff_eq.mpr c11
       have c11b1 : (t164 != 0) = false := bne_eq_false_iff_eq.mpr c11
       clear c11
       obtain rfl := Option.some.inj H
       go_wp2_with (first | ((with_reducible refine gate_callee (f := 116) rfl ?_); refine goesL_ (some 35) rfl rfl Tryz.func116 (by kernel_rfl) rfl #[.int .i64 a0] rfl gl ?_; (with_reducible refine (dK.calls a0 t165 _ A9.out).mono ?_); rintro e w' ⟨rfl, ⟨nd, rfl⟩⟩; refine ⟨_, rfl, ?_⟩))
       go_ret
       exact ⟨gr_, gd_⟩
      ·rw [if_neg c11] at H
       have c11b0 : (t164 == 0) = false := beq_eq_false_iff_ne.mpr c11
       have c11b1 : (t164 != 0) = true := bne_iff_ne.mpr c11
       obtain ⟨ji12, hji12⟩ : ∃ j_ : Int, (IntKind.u64.wrap (wrap64 (t161 - 1))) = j_ := ⟨_, rfl⟩
       replace H : (if 0 ≤ (ji12) then (if (shr .u32 t164 (ji12)) = 1 then (some 4) else (some 5)) else (none)) = some r := by first | (rw [hji12] at H; exact H) | (simp only [hji12] at H ⊢; exact H)
       (try rw [hji12] at A9)
       by_cases c13 : 0 ≤ (ji12)
       ·rw [if_pos c13] at H
        have c13b0 := eq_true c13
        have c13b1 : decide (0 ≤ (ji12)) = true := decide_eq_true c13
        clear c13
        obtain ⟨ji14, hji14⟩ : ∃ j_ : Int, (shr .u32 t164 (ji12)) = j_ := ⟨_, rfl⟩
        replace H : (if (ji14) = 1 then (some 4) else (some 5)) = some r := by first | (rw [hji14] at H; exact H) | (simp only [hji14] at H ⊢; exact H)
        (try rw [hji14] at A9)
        have hji14_ : (t164 / 2 ^ min (ji12).toNat 32) = ji14 := hji14
        have hji14z : (ji12) ≤ 32 → (t164 / 2 ^ (ji12).toNat) = ji14 := shr_small hji14
        by_cases c15 : (ji14) = 1
        ·rw [if_pos c15] at H
         have c15b0 : ((ji14) == 1) = true := beq_iff_eq.mpr c15
         have c15b1 : ((ji14) != 1) = false := bne_eq_false_iff_eq.mpr c15
         clear c15
         obtain rfl := Option.some.inj H
         go_wp2_with (first | ((with_reducible refine gate_callee (f := 116) rfl ?_); refine goesL_ (some 35) rfl rfl Tryz.func116 (by kernel_rfl) rfl #[.int .i64 a0] rfl gl ?_; (with_reducible refine (dK.calls a0 t165 _ A9.out).mono ?_); rintro e w' ⟨rfl, ⟨nd, rfl⟩⟩; refine ⟨_, rfl, ?_⟩))
         go_ret
         exact ⟨by first | rfl | (simp; done) | (simp only [← hji12, ← hji14] <;> (first | rfl | (simp; done))) | (simp [*]; done) | (congr 1; (try unfold wrap64); omega) | (congr 1; rw [IntKind.wrap_u64]; omega), gd_⟩
        ·rw [if_neg c15] at H
         have c15b0 : ((ji14) == 1) = false := beq_eq_false_iff_ne.mpr c15
         have c15b1 : ((ji14) != 1) = true := bne_iff_ne.mpr c15
         obtain rfl := Option.some.inj H
         go_wp2_with (first | ((with_reducible refine gate_callee (f := 116) rfl ?_); refine goesL_ (some 35) rfl rfl Tryz.func116 (by kernel_rfl) rfl #[.int .i64 a0] rfl gl ?_; (with_reducible refine (dK.calls a0 t165 _ A9.out).mono ?_); rintro e w' ⟨rfl, ⟨nd, rfl⟩⟩; refine ⟨_, rfl, ?_⟩))
         go_ret
         exact ⟨by first | rfl | (simp; done) | (simp only [← hji12, ← hji14] <;> (first | rfl | (simp; done))) | (simp [*]; done) | (congr 1; (try unfold wrap64); omega) | (congr 1; rw [IntKind.wrap_u64]; omega), gd_⟩
       ·rw [if_neg c13] at H
        exact absurd H (by simp)

-- NEED 0
/-! ### gK: function 170 -/
def gK.f (a0 : Int) : Option (Int) := (bI.f a0).bind fun bt166 => ((dK.f a0).bind fun t168 => (if 0 ≤ (IntKind.u64.wrap (wrap64 (bt166.2 - 1))) then ((bX.f a0 false t168 (shl .u32 1 (IntKind.u64.wrap (wrap64 (bt166.2 - 1))))).bind fun t169 => (some t169)) else (none)))
theorem gK.calls (a0 r : Int) (w : World) (h : gK.f a0 = some r) :
  Calls Tryz.prog 170 #[.int .i64 a0] w fun e w' => e = .returned (.int .u32 r) ∧ Drawn0 w w' := by
 have H : ((bI.f a0).bind fun bt166 => ((dK.f a0).bind fun t168 => (if 0 ≤ (IntKind.u64.wrap (wrap64 (bt166.2 - 1))) then ((bX.f a0 false t168 (shl .u32 1 (IntKind.u64.wrap (wrap64 (bt166.2 - 1))))).bind fun t169 => (some t169)) else (none)))) = some r := h
 clear h
 replace H := bq_ H
 obtain ⟨⟨t166, t167⟩, A20, H⟩ := H
 replace H : ((dK.f a0).bind fun t168 => (if 0 ≤ (IntKind.u64.wrap (wrap64 (t167 - 1))) then ((bX.f a0 false t168 (shl .u32 1 (IntKind.u64.wrap (wrap64 (t167 - 1))))).bind fun t169 => (some t169)) else (none))) = some r := H
 have A2 := Aside0.mk A20
 clear A20
 replace H := bq_ H
 obtain ⟨t168, A30, H⟩ := H
 replace H : (if 0 ≤ (IntKind.u64.wrap (wrap64 (t167 - 1))) then ((bX.f a0 false t168 (shl .u32 1 (IntKind.u64.wrap (wrap64 (t167 - 1))))).bind fun t169 => (some t169)) else (none)) = some r := H
 have A3 := Aside0.mk A30
 clear A30
 obtain ⟨ji4, hji4⟩ : ∃ j_ : Int, (IntKind.u64.wrap (wrap64 (t167 - 1))) = j_ := ⟨_, rfl⟩
 replace H : (if 0 ≤ (ji4) then ((bX.f a0 false t168 (shl .u32 1 (ji4))).bind fun t169 => (some t169)) else (none)) = some r := by first | (rw [hji4] at H; exact H) | (simp only [hji4] at H ⊢; exact H)
 (try rw [hji4] at A2)
 (try rw [hji4] at A3)
 by_cases c5 : 0 ≤ (ji4)
 ·rw [if_pos c5] at H
  have c5b0 := eq_true c5
  have c5b1 : decide (0 ≤ (ji4)) = true := decide_eq_true c5
  clear c5
  obtain ⟨ji6, hji6⟩ : ∃ j_ : Int, (shl .u32 1 (ji4)) = j_ := ⟨_, rfl⟩
  replace H : ((bX.f a0 false t168 (ji6)).bind fun t169 => (some t169)) = some r := by first | (rw [hji6] at H; exact H) | (simp only [hji6] at H ⊢; exact H)
  (try rw [hji6] at A2)
  (try rw [hji6] at A3)
  have hji6_ : (IntKind.u32.wrap (1 * 2 ^ min (ji4).toNat 32)) = ji6 := hji6
  have hji6z : (ji4) ≤ 32 → (IntKind.u32.wrap (1 * 2 ^ (ji4).toNat)) = ji6 := shl_small hji6
  have hji6u : (IntKind.u32.wrap (2 ^ min (ji4).toNat 32)) = ji6 := by have h_ := hji6_; rw [Int.one_mul] at h_; exact h_
  have hji6v : (ji4) ≤ 32 → (IntKind.u32.wrap (2 ^ (ji4).toNat)) = ji6 := fun hle_ => by have h_ := hji6z hle_; rw [Int.one_mul] at h_; exact h_
  replace H := bq_ H
  obtain ⟨t169, A70, H⟩ := H
  replace H : (some t169) = some r := H
  have A7 := Aside0.mk A70
  clear A70
  obtain rfl := Option.some.inj H
  go_enter Tryz.func170, Tryz.ntmps170
  go_wp2_with (first | ((with_reducible refine gate_callee (f := 149) rfl ?_); refine goesL_ (some 7) rfl rfl Tryz.func149 (by kernel_rfl) rfl #[.int .i64 a0] rfl gl ?_; (with_reducible refine (bI.calls a0 t166 t167 _ A2.out).mono ?_); rintro e w' ⟨rfl, ⟨nd, rfl⟩⟩; refine ⟨_, rfl, ?_⟩) | ((with_reducible refine gate_callee (f := 116) rfl ?_); refine goesL_ (some 12) rfl rfl Tryz.func116 (by kernel_rfl) rfl #[.int .i64 a0] rfl gl ?_; (with_reducible refine (dK.calls a0 t168 _ A3.out).mono ?_); rintro e w' ⟨rfl, ⟨nd, rfl⟩⟩; refine ⟨_, rfl, ?_⟩) | ((with_reducible refine gate_callee (f := 155) rfl ?_); refine goesL_ (some 17) rfl rfl Tryz.func155 (by kernel_rfl) rfl #[.int .i64 a0, .bool false, .int .i64 t168, .int .u32 ji6] rfl (by (try simp only [List.map_toArray, List.map_cons, List.map_nil]); first | done | (simp only [hji6]; rfl) | rfl | (simp only [List.length_drop, List.length_take]; rfl)) ?_; (with_reducible refine (bX.calls a0 false t168 ji6 t169 _ A7.out).mono ?_); rintro e w' ⟨rfl, ⟨nd, rfl⟩⟩; refine ⟨_, rfl, ?_⟩))
  go_ret
  exact ⟨by first | rfl | (simp; done) | (simp only [← hji4, ← hji6] <;> (first | rfl | (simp; done))) | (simp [*]; done) | (congr 1; (try unfold wrap64); omega) | (congr 1; rw [IntKind.wrap_u64]; omega), gd_⟩
 ·rw [if_neg c5] at H
  exact absurd H (by simp)


-- NEED 0
/-! ### bJ: function 136 -/
def bJ.l0 : Nat → Int → Bool → List Int → Int → Int → Bool → Bool → Bool → Bool → Bool → Option (Int × Bool × Bool × Bool × Bool × Bool × Bool)
 |0, _, _, _, _, _, _, _, _, _, _ => none
 |k + 1, x0, x7, x12, x13, x14, x172000, x172001, x172002, x172003, x172004 => if x14 < x13 then (if 0 ≤ x14 then (if x14 < (x12.length : Int) then ((aW.f k x0 (rd x12 x14)).bind fun t173 => (if x7 = true then (if x172000 = true then (bJ.l0 k x0 true x12 x13 (wrap64 (x14 + 1)) true x172001 x172002 x172003 x172004) else (bJ.l0 k x0 true x12 x13 (wrap64 (x14 + 1)) (t173 == 5) x172001 x172002 x172003 x172004)) else (if x172000 = true then (bJ.l0 k x0 (decide (t173 ≥ 4)) x12 x13 (wrap64 (x14 + 1)) true x172001 x172002 x172003 x172004) else (bJ.l0 k x0 (decide (t173 ≥ 4)) x12 x13 (wrap64 (x14 + 1)) (t173 == 5) x172001 x172002 x172003 x172004)))) else (none)) else (none)) else ((gK.f x0).bind fun t174 => (some (t174, x172000, x172001, x172002, x172003, x172004, x7)))
def bJ.f (k : Nat) (a0 : Int) (l1 : List Int) : Option (Int × Bool × Bool × Bool × Bool × Bool × Bool) := bJ.l0 k a0 false l1 (l1.length : Int) 0 false false false false false
theorem bJ.eX : ∀ k, (∀ y0 y1 y2 y3 y4 y5 y6 y7 y8 y9, LeO (bJ.l0 k y0 y1 y2 y3 y4 y5 y6 y7 y8 y9) (bJ.l0 (k + 1) y0 y1 y2 y3 y4 y5 y6 y7 y8 y9))
 |0 => fun _ _ _ _ _ _ _ _ _ _ r h => by simp [bJ.l0] at h
 |k + 1 => by
  have ih0 := bJ.eX k
  ·intro y0 y1 y2 y3 y4 y5 y6 y7 y8 y9
   unfold bJ.l0
   repeat' first
   |(with_reducible first|exact ih0 _ _ _ _ _ _ _ _ _ _|exact aW.mono _ _ _|exact LeO.refl _|exact LeO.none _|refine LeO.ite ?_ ?_|refine LeO.bind ?_ (fun _ => ?_))
   |exact ih0 _ _ _ _ _ _ _ _ _ _
   |exact aW.mono _ _ _
   |exact LeO.none _
   |refine LeO.ite ?_ ?_
   |refine LeO.bind ?_ (fun _ => ?_)
theorem bJ.mono : ∀ a0 a1 k, LeO (bJ.f k a0 a1) (bJ.f (k + 1) a0 a1) := by
 intro a0 a1 k
 have ih0 := bJ.eX k
 unfold bJ.f
 repeat' first
   |(with_reducible first|exact ih0 _ _ _ _ _ _ _ _ _ _|exact aW.mono _ _ _|exact LeO.refl _|exact LeO.none _|refine LeO.ite ?_ ?_|refine LeO.bind ?_ (fun _ => ?_))
   |exact ih0 _ _ _ _ _ _ _ _ _ _
   |exact aW.mono _ _ _
   |exact LeO.none _
   |refine LeO.ite ?_ ?_
   |refine LeO.bind ?_ (fun _ => ?_)
theorem bJ.calls (k : Nat) (a0 : Int) (A1 : Option Addr) (c1 : Nat) (l1 : List Int) (r1 : Int) (r2 r3 : Bool) (r4 r5 : Bool) (r6 r7 : Bool) (w : World) (hr1 : Kd.C (Kd.int .u32) w A1 l1.length l1) (hc1 : l1.length ≤ c1) (h : bJ.f k a0 l1 = some (r1, r2, r3, r4, r5, r6, r7)) :
  Calls Tryz.prog 136 #[.int .i64 a0, .slice A1 l1.length c1] w fun e w' => e = .returned (.tuple #[.int .u32 r1, .agg #[.bool r2, .bool r3, .bool r4, .bool r5, .bool r6], .bool r7]) ∧ Below w.heap.size w w' := by
 have hu62 := Tryz.underlying62
 have HR1 := Aside0.mk hr1
 have HC1 := Aside0.mk hc1
 clear hr1 hc1
 have HB := Aside0.mk (Below.refl w.heap.size w)
 have H : (bJ.l0 k a0 false l1 (l1.length : Int) 0 false false false false false) = some (r1, r2, r3, r4, r5, r6, r7) := h
 clear h
 have H' := Aside0.mk H
 clear H
 go_enter Tryz.func136, Tryz.ntmps136
 go_wp2_with (first | ((with_reducible refine gate_dst (N := 5) rfl ?_); refine box_event ?hg (N := 5) ?hd (cs := F5) (t := 62) ?hr ?_; (case hd => rfl); (case hg => rfl); (case hr => first | (go_simp; done) | (go_simp; rfl)); intro gb170 hg w3 hbox hb; have n0_ := Aside0.mk (below_step (bl0 HB.out) hb); have n1_ := Aside0.mk (hbox); have n2_ := Aside0.mk ((by rw [hg]; exact (below_size (bl0 HB.out)) : w.heap.size ≤ gb170)); have n3_ := n2_; clear HB; have HB := n0_; have BK170 := n1_; have GW170 := n2_; have GE170 := n3_; clear n0_ n1_ n2_ n3_; clear hb hbox hg) | ((with_reducible refine gate_dst (N := 8) rfl ?_); refine box_event ?hg (N := 8) ?hd (cs := F5) (t := 62) ?hr ?_; (case hd => rfl); (case hg => rfl); (case hr => first | (go_simp; done) | (go_simp; rfl)); intro gb171 hg w4 hbox hb; have n0_ := Aside0.mk (blk_below (g := gb170) (o := o5_ false false false false false 62) (bv BK170.out) hb); have n1_ := Aside0.mk (below_step (bl1 HB.out GE170.out) hb); have n2_ := Aside0.mk (hbox); have n3_ := Aside0.mk ((by rw [hg]; exact (below_size (bl1 HB.out GE170.out)) : w.heap.size ≤ gb171)); have n4_ := n3_; have n5_ := Aside0.mk ((by rw [hg]; exact Nat.ne_of_lt (blk_lt (g := gb170) (o := .cells F5 62 (0, 0)) (bv BK170.out)) : gb170 ≠ gb171)); have n6_ := Aside0.mk (Ne.symm n5_.out); clear BK170; clear HB; have BK170 := n0_; have HB := n1_; have BK171 := n2_; have GW171 := n3_; have GE171 := n4_; have NB170_171 := n5_; have NB171_170 := n6_; clear n0_ n1_ n2_ n3_ n4_ n5_ n6_; clear hb hbox hg))
 go_loopg [7, 14] k (fun kq v7 v14 w' => ∃ (x7_1 : Bool) (x14_1 : Int) (x172000_1 : Bool), v7 = .bool x7_1 ∧ v14 = .int .i64 x14_1 ∧ Aside0 (bJ.l0 kq a0 x7_1 l1 (l1.length : Int) x14_1 x172000_1 false false false false = some (r1, r2, r3, r4, r5, r6, r7)) ∧ Aside0 (kq ≤ k) ∧ Aside0 (w'.heap[gb170]? = some (o5_ false false false false false 62)) ∧ Aside0 (w'.heap[gb171]? = some (o5_ x172000_1 false false false false 62)) ∧ Aside0 (Below w.heap.size w w'))
 case atStart => exact ⟨(false), (0), (false), (gr_), (gr_), H', ⟨Nat.le_refl _⟩, ⟨by (with_reducible repeat first | apply bd | apply be | apply ba); exact BK170.out⟩, ⟨by (with_reducible repeat first | apply bd | apply be | apply ba); exact BK171.out⟩, ⟨bl2 HB.out GE170.out GE171.out⟩⟩
 case round =>
  clear H'
  try clear c1 p2
  obtain ⟨x7_1, x14_1, x172000_1, rfl, rfl, HA, HK1, BK170, BK171, HB⟩ := hrel
  cases gk with
  |zero => exact absurd HA.out (by simp [bJ.l0])
  |succ k1 =>
   have H := HA.out
   clear HA
   simp only [bJ.l0] at H
   by_cases c5 : x14_1 < (l1.length : Int)
   ·rw [if_pos c5] at H
    have c5b0 : decide (x14_1 < (l1.length : Int)) = true := decide_eq_true c5
    clear c5
    by_cases c6 : 0 ≤ x14_1
    ·rw [if_pos c6] at H
     have c6b0 : decide (0 ≤ x14_1) = true := decide_eq_true c6
     clear c6
     by_cases c7 : x14_1 < (l1.length : Int)
     ·rw [if_pos c7] at H
      have c7b0 : decide (x14_1 < (l1.length : Int)) = true := decide_eq_true c7
      clear c7
      replace H := bq_ H
      obtain ⟨t173, A80, H⟩ := H
      replace H : (if x7_1 = true then (if x172000_1 = true then (bJ.l0 k1 a0 true l1 (l1.length : Int) (wrap64 (x14_1 + 1)) true false false false false) else (bJ.l0 k1 a0 true l1 (l1.length : Int) (wrap64 (x14_1 + 1)) (t173 == 5) false false false false)) else (if x172000_1 = true then (bJ.l0 k1 a0 (decide (t173 ≥ 4)) l1 (l1.length : Int) (wrap64 (x14_1 + 1)) true false false false false) else (bJ.l0 k1 a0 (decide (t173 ≥ 4)) l1 (l1.length : Int) (wrap64 (x14_1 + 1)) (t173 == 5) false false false false))) = some (r1, r2, r3, r4, r5, r6, r7) := H
      have A8 := Aside0.mk A80
      clear A80
      by_cases c9 : x7_1 = true
      ·subst c9
       have H1 : (if x172000_1 = true then (bJ.l0 k1 a0 true l1 (l1.length : Int) (wrap64 (x14_1 + 1)) true false false false false) else (bJ.l0 k1 a0 true l1 (l1.length : Int) (wrap64 (x14_1 + 1)) (t173 == 5) false false false false)) = some (r1, r2, r3, r4, r5, r6, r7) := by rw [if_pos rfl] at H; exact H
       clear H
       have H := H1
       clear H1
       by_cases c10 : x172000_1 = true
       ·subst c10
        have H1 : (bJ.l0 k1 a0 true l1 (l1.length : Int) (wrap64 (x14_1 + 1)) true false false false false) = some (r1, r2, r3, r4, r5, r6, r7) := by rw [if_pos rfl] at H; exact H
        clear H
        have H := H1
        clear H1
        have H' := Aside0.mk H
        clear H
        have p172 : 0 ≤ (x14_1 : Int) := of_decide_eq_true (by first | (with_reducible assumption) | assumption)
        have q172 : x14_1 < (l1.length : Int) := of_decide_eq_true (by first | (with_reducible assumption) | assumption)
        obtain ⟨ad172, e172, hx172_0⟩ := Kd.at_int HR1.out x14_1 p172 q172
        cases e172
        replace hx172_0 := (HB.out.cell (World.block_lt_of_cell? w _ hx172_0)).trans hx172_0
        replace p172 := eq_true p172
        replace q172 := eq_true q172
        go_wp2_with (first | ((with_reducible refine gate_callee (f := 147) rfl ?_); refine goesL_ (some 20) rfl rfl Tryz.func147 (by kernel_rfl) rfl #[.int .i64 a0, .int .u32 (rd l1 x14_1)] rfl gl ?_; (with_reducible refine (aW.calls k1 a0 (rd l1 x14_1) t173 _ A8.out).mono ?_); rintro e w' ⟨rfl, ⟨nd, rfl⟩⟩; refine ⟨_, rfl, ?_⟩; (try (rw [drewN_self wr]; generalize hq_ : World.drewN wr _ = wr; have n0_ : Aside0 (wr.heap[gb170]? = some (o5_ false false false false false 62)) := ⟨by rw [← hq_]; exact (bv BK170.out)⟩; have n1_ : Aside0 (wr.heap[gb171]? = some (o5_ true false false false false 62)) := ⟨by rw [← hq_]; exact (bv BK171.out)⟩; have n2_ : Aside0 (Below w.heap.size w wr) := ⟨by rw [← hq_]; exact (bl2 HB.out GE170.out GE171.out)⟩; clear BK170 BK171 HB hq_; have BK170 := n0_; have BK171 := n1_; have HB := n2_; clear n0_ n1_ n2_)); have hnb11 := NB171_170.out; have hnc11 := NB170_171.out; obtain ⟨hcz12_0, hcz12_1, hcz12_2, hcz12_3, hcz12_4⟩ := bc5 BK171.out; obtain ⟨hfz12_0, hfz12_1, hfz12_2, hfz12_3, hfz12_4⟩ := bf5 BK171.out))
        go_roundg k1
        case measure => have := HK1.out; omega
        case rel => exact ⟨(true), (wrap64 (x14_1 + 1)), (true), (gr_), (gr_), H', ⟨by have := HK1.out; omega⟩, ⟨by (with_reducible repeat first | apply bd | apply be | apply ba); refine blk_far ?_ NB170_171.out _; (with_reducible repeat first | apply bd | apply be | apply ba); exact BK170.out⟩, ⟨by (with_reducible repeat first | apply bd | apply be | apply ba); refine blk_put (cs := q5_ true false false false false) ?_ 0 _ rfl; (with_reducible repeat first | apply bd | apply be | apply ba); exact BK171.out⟩, ⟨bl2 HB.out GE170.out GE171.out⟩⟩
       ·replace c10 := Bool.eq_false_iff.mpr c10
        subst c10
        have H1 : (bJ.l0 k1 a0 true l1 (l1.length : Int) (wrap64 (x14_1 + 1)) (t173 == 5) false false false false) = some (r1, r2, r3, r4, r5, r6, r7) := by rw [if_neg (show ¬ (false = true) by decide)] at H; exact H
        clear H
        have H := H1
        clear H1
        have H' := Aside0.mk H
        clear H
        have p172 : 0 ≤ (x14_1 : Int) := of_decide_eq_true (by first | (with_reducible assumption) | assumption)
        have q172 : x14_1 < (l1.length : Int) := of_decide_eq_true (by first | (with_reducible assumption) | assumption)
        obtain ⟨ad172, e172, hx172_0⟩ := Kd.at_int HR1.out x14_1 p172 q172
        cases e172
        replace hx172_0 := (HB.out.cell (World.block_lt_of_cell? w _ hx172_0)).trans hx172_0
        replace p172 := eq_true p172
        replace q172 := eq_true q172
        go_wp2_with (first | ((with_reducible refine gate_callee (f := 147) rfl ?_); refine goesL_ (some 20) rfl rfl Tryz.func147 (by kernel_rfl) rfl #[.int .i64 a0, .int .u32 (rd l1 x14_1)] rfl gl ?_; (with_reducible refine (aW.calls k1 a0 (rd l1 x14_1) t173 _ A8.out).mono ?_); rintro e w' ⟨rfl, ⟨nd, rfl⟩⟩; refine ⟨_, rfl, ?_⟩; (try (rw [drewN_self wr]; generalize hq_ : World.drewN wr _ = wr; have n0_ : Aside0 (wr.heap[gb170]? = some (o5_ false false false false false 62)) := ⟨by rw [← hq_]; exact (bv BK170.out)⟩; have n1_ : Aside0 (wr.heap[gb171]? = some (o5_ false false false false false 62)) := ⟨by rw [← hq_]; exact (bv BK171.out)⟩; have n2_ : Aside0 (Below w.heap.size w wr) := ⟨by rw [← hq_]; exact (bl2 HB.out GE170.out GE171.out)⟩; clear BK170 BK171 HB hq_; have BK170 := n0_; have BK171 := n1_; have HB := n2_; clear n0_ n1_ n2_)); have hnb13 := NB171_170.out; have hnc13 := NB170_171.out; obtain ⟨hcz14_0, hcz14_1, hcz14_2, hcz14_3, hcz14_4⟩ := bc5 BK171.out; obtain ⟨hfz14_0, hfz14_1, hfz14_2, hfz14_3, hfz14_4⟩ := bf5 BK171.out))
        go_roundg k1
        case measure => have := HK1.out; omega
        case rel => exact ⟨(true), (wrap64 (x14_1 + 1)), ((t173 == 5)), (gr_), (gr_), H', ⟨by have := HK1.out; omega⟩, ⟨by (with_reducible repeat first | apply bd | apply be | apply ba); refine blk_far ?_ NB170_171.out _; (with_reducible repeat first | apply bd | apply be | apply ba); exact BK170.out⟩, ⟨by (with_reducible repeat first | apply bd | apply be | apply ba); refine blk_put (cs := F5) ?_ 0 _ rfl; (with_reducible repeat first | apply bd | apply be | apply ba); exact BK171.out⟩, ⟨bl2 HB.out GE170.out GE171.out⟩⟩
      ·replace c9 := Bool.eq_false_iff.mpr c9
       subst c9
       have H1 : (if x172000_1 = true then (bJ.l0 k1 a0 (decide (t173 ≥ 4)) l1 (l1.length : Int) (wrap64 (x14_1 + 1)) true false false false false) else (bJ.l0 k1 a0 (decide (t173 ≥ 4)) l1 (l1.length : Int) (wrap64 (x14_1 + 1)) (t173 == 5) false false false false)) = some (r1, r2, r3, r4, r5, r6, r7) := by rw [if_neg (show ¬ (false = true) by decide)] at H; exact H
       clear H
       have H := H1
       clear H1
       by_cases c15 : x172000_1 = true
       ·subst c15
        have H1 : (bJ.l0 k1 a0 (decide (t173 ≥ 4)) l1 (l1.length : Int) (wrap64 (x14_1 + 1)) true false false false false) = some (r1, r2, r3, r4, r5, r6, r7) := by rw [if_pos rfl] at H; exact H
        clear H
        have H := H1
        clear H1
        have H' := Aside0.mk H
        clear H
        have p172 : 0 ≤ (x14_1 : Int) := of_decide_eq_true (by first | (with_reducible assumption) | assumption)
        have q172 : x14_1 < (l1.length : Int) := of_decide_eq_true (by first | (with_reducible assumption) | assumption)
        obtain ⟨ad172, e172, hx172_0⟩ := Kd.at_int HR1.out x14_1 p172 q172
        cases e172
        replace hx172_0 := (HB.out.cell (World.block_lt_of_cell? w _ hx172_0)).trans hx172_0
        replace p172 := eq_true p172
        replace q172 := eq_true q172
        go_wp2_with (first | ((with_reducible refine gate_callee (f := 147) rfl ?_); refine goesL_ (some 20) rfl rfl Tryz.func147 (by kernel_rfl) rfl #[.int .i64 a0, .int .u32 (rd l1 x14_1)] rfl gl ?_; (with_reducible refine (aW.calls k1 a0 (rd l1 x14_1) t173 _ A8.out).mono ?_); rintro e w' ⟨rfl, ⟨nd, rfl⟩⟩; refine ⟨_, rfl, ?_⟩; (try (rw [drewN_self wr]; generalize hq_ : World.drewN wr _ = wr; have n0_ : Aside0 (wr.heap[gb170]? = some (o5_ false false false false false 62)) := ⟨by rw [← hq_]; exact (bv BK170.out)⟩; have n1_ : Aside0 (wr.heap[gb171]? = some (o5_ true false false false false 62)) := ⟨by rw [← hq_]; exact (bv BK171.out)⟩; have n2_ : Aside0 (Below w.heap.size w wr) := ⟨by rw [← hq_]; exact (bl2 HB.out GE170.out GE171.out)⟩; clear BK170 BK171 HB hq_; have BK170 := n0_; have BK171 := n1_; have HB := n2_; clear n0_ n1_ n2_)); have hnb16 := NB171_170.out; have hnc16 := NB170_171.out; obtain ⟨hcz17_0, hcz17_1, hcz17_2, hcz17_3, hcz17_4⟩ := bc5 BK171.out; obtain ⟨hfz17_0, hfz17_1, hfz17_2, hfz17_3, hfz17_4⟩ := bf5 BK171.out))
        go_roundg k1
        case measure => have := HK1.out; omega
        case rel => exact ⟨(decide (t173 ≥ 4)), (wrap64 (x14_1 + 1)), (true), (gr_), (gr_), H', ⟨by have := HK1.out; omega⟩, ⟨by (with_reducible repeat first | apply bd | apply be | apply ba); refine blk_far ?_ NB170_171.out _; (with_reducible repeat first | apply bd | apply be | apply ba); exact BK170.out⟩, ⟨by (with_reducible repeat first | apply bd | apply be | apply ba); refine blk_put (cs := q5_ true false false false false) ?_ 0 _ rfl; (with_reducible repeat first | apply bd | apply be | apply ba); exact BK171.out⟩, ⟨bl2 HB.out GE170.out GE171.out⟩⟩
       ·replace c15 := Bool.eq_false_iff.mpr c15
        subst c15
        have H1 : (bJ.l0 k1 a0 (decide (t173 ≥ 4)) l1 (l1.length : Int) (wrap64 (x14_1 + 1)) (t173 == 5) false false false false) = some (r1, r2, r3, r4, r5, r6, r7) := by rw [if_neg (show ¬ (false = true) by decide)] at H; exact H
        clear H
        have H := H1
        clear H1
        have H' := Aside0.mk H
        clear H
        have p172 : 0 ≤ (x14_1 : Int) := of_decide_eq_true (by first | (with_reducible assumption) | assumption)
        have q172 : x14_1 < (l1.length : Int) := of_decide_eq_true (by first | (with_reducible assumption) | assumption)
        obtain ⟨ad172, e172, hx172_0⟩ := Kd.at_int HR1.out x14_1 p172 q172
        cases e172
        replace hx172_0 := (HB.out.cell (World.block_lt_of_cell? w _ hx172_0)).trans hx172_0
        replace p172 := eq_true p172
        replace q172 := eq_true q172
        go_wp2_with (first | ((with_reducible refine gate_callee (f := 147) rfl ?_); refine goesL_ (some 20) rfl rfl Tryz.func147 (by kernel_rfl) rfl #[.int .i64 a0, .int .u32 (rd l1 x14_1)] rfl gl ?_; (with_reducible refine (aW.calls k1 a0 (rd l1 x14_1) t173 _ A8.out).mono ?_); rintro e w' ⟨rfl, ⟨nd, rfl⟩⟩; refine ⟨_, rfl, ?_⟩; (try (rw [drewN_self wr]; generalize hq_ : World.drewN wr _ = wr; have n0_ : Aside0 (wr.heap[gb170]? = some (o5_ false false false false false 62)) := ⟨by rw [← hq_]; exact (bv BK170.out)⟩; have n1_ : Aside0 (wr.heap[gb171]? = some (o5_ false false false false false 62)) := ⟨by rw [← hq_]; exact (bv BK171.out)⟩; have n2_ : Aside0 (Below w.heap.size w wr) := ⟨by rw [← hq_]; exact (bl2 HB.out GE170.out GE171.out)⟩; clear BK170 BK171 HB hq_; have BK170 := n0_; have BK171 := n1_; have HB := n2_; clear n0_ n1_ n2_)); have hnb18 := NB171_170.out; have hnc18 := NB170_171.out; obtain ⟨hcz19_0, hcz19_1, hcz19_2, hcz19_3, hcz19_4⟩ := bc5 BK171.out; obtain ⟨hfz19_0, hfz19_1, hfz19_2, hfz19_3, hfz19_4⟩ := bf5 BK171.out))
        go_roundg k1
        case measure => have := HK1.out; omega
        case rel => exact ⟨(decide (t173 ≥ 4)), (wrap64 (x14_1 + 1)), ((t173 == 5)), (gr_), (gr_), H', ⟨by have := HK1.out; omega⟩, ⟨by (with_reducible repeat first | apply bd | apply be | apply ba); refine blk_far ?_ NB170_171.out _; (with_reducible repeat first | apply bd | apply be | apply ba); exact BK170.out⟩, ⟨by (with_reducible repeat first | apply bd | apply be | apply ba); refine blk_put (cs := F5) ?_ 0 _ rfl; (with_reducible repeat first | apply bd | apply be | apply ba); exact BK171.out⟩, ⟨bl2 HB.out GE170.out GE171.out⟩⟩
     ·rw [if_neg c7] at H
      exact absurd H (by simp)
    ·rw [if_neg c6] at H
     exact absurd H (by simp)
   ·rw [if_neg c5] at H
    have c5b0 : decide (x14_1 < (l1.length : Int)) = false := decide_eq_false c5
    clear c5
    replace H := bq_ H
    obtain ⟨t174, A200, H⟩ := H
    replace H : (some (t174, x172000_1, false, false, false, false, x7_1)) = some (r1, r2, r3, r4, r5, r6, r7) := H
    have A20 := Aside0.mk A200
    clear A200
    simp only [Option.some.injEq, Prod.mk.injEq] at H
    obtain ⟨rfl, rfl, rfl, rfl, rfl, rfl, rfl⟩ := H
    try go_wp2
    have n0_ := Aside0.mk (blk_drew BK170.out)
    have n1_ := Aside0.mk (blk_drew BK171.out)
    have n2_ := Aside0.mk (below_drew1 HB.out)
    clear BK170
    clear BK171
    clear HB
    have BK170 := n0_
    have BK171 := n1_
    have HB := n2_
    clear n0_ n1_ n2_
    refine start_ (n := 7) (S := fun w' => w'.cell? ⟨gb171, 0, none⟩ = some (.bool x172000_1) ∧ w'.cell? ⟨gb171, 1, none⟩ = some (.bool false) ∧ w'.cell? ⟨gb171, 2, none⟩ = some (.bool false) ∧ w'.cell? ⟨gb171, 3, none⟩ = some (.bool false) ∧ w'.cell? ⟨gb171, 4, none⟩ = some (.bool false)) (ds := []) (tf 0 7) (by kernel_rfl) rfl rfl ⟨(blk_cell BK171.out 0).trans rfl, (blk_cell BK171.out 1).trans rfl, (blk_cell BK171.out 2).trans rfl, (blk_cell BK171.out 3).trans rfl, (blk_cell BK171.out 4).trans rfl⟩ (fun hHeld => ?_)
    generalize wr.drew = w21 at BK170 BK171 HB hHeld ⊢
    refine pure_ (i := 0) (N := some 34) (v := ?_) (a' := ?_) (tf 1 6) rfl rfl (by kernel_rfl) (fun _ _ _ h => h) (Or.inl ⟨by rfl, ?_⟩) ?_ ?_
    rotate_left
    ·intro w'
     go_simp
     with_reducible rfl
    rotate_left
    ·simp only [Act.put, sb, sz, ss, i64_w, i32_w]
     rfl
    refine pure_ (i := 3) (N := some 37) (v := ?_) (a' := ?_) #[true, false, false, true, false, false, false] rfl rfl (by kernel_rfl) (fun _ _ _ h => h) (Or.inl ⟨by rfl, ?_⟩) ?_ ?_
    rotate_left
    ·intro w'
     go_simp
     with_reducible rfl
    rotate_left
    ·simp only [Act.put, sb, sz, ss, i64_w, i32_w]
     rfl
    refine take_ (i := 2) (N := some 36) (v := ?_) (a' := ?_) #[true, false, true, true, false, false, false] rfl rfl (by kernel_rfl) (fun _ _ _ h => h) (Or.inl ⟨by rfl, ?_⟩) hHeld ?_ ?_
    rotate_left
    ·rintro w' ⟨s0, s1, s2, s3, s4⟩
     go_simp
     with_reducible rfl
    rotate_left
    ·simp only [Act.put, sb, sz, ss, i64_w, i32_w]
     rfl
    refine one_ (i := 1) (N := some 35) (tf 4 3) rfl rfl (by kernel_rfl) (by decide) (fun K hK => ?_)
    refine goes_ Tryz.func170 (by kernel_rfl) rfl #[.int .i64 a0] (by rfl) rfl rfl gl ?_
    with_reducible refine (gK.calls a0 t174 _ A20.out).mono ?_
    rintro e w' ⟨rfl, ⟨nd, rfl⟩⟩
    refine ⟨_, rfl, ?_⟩
    refine hK.out _ _ ⟨(blk_cell BK171.out 0).trans rfl, (blk_cell BK171.out 1).trans rfl, (blk_cell BK171.out 2).trans rfl, (blk_cell BK171.out 3).trans rfl, (blk_cell BK171.out 4).trans rfl⟩ (fun hHeld => ?_)
    clear hK K
    refine norm_ (a' := ?_) ?_ ?_
    rotate_left
    ·show Act.put _ (some 35) _ = _
     simp only [Act.put, sb, sz, ss, i64_w, i32_w]
     rfl
    refine pure_ (i := 4) (N := some 4) (v := ?_) (a' := ?_) (tf 5 2) rfl rfl (by kernel_rfl) (fun _ _ _ h => h) (Or.inl ⟨by rfl, ?_⟩) ?_ ?_
    rotate_left
    ·intro w'
     go_simp
     with_reducible rfl
    rotate_left
    ·simp only [Act.put, sb, sz, ss, i64_w, i32_w]
     rfl
    refine one_ (i := 5) (N := none) (tf 6 1) rfl rfl (by kernel_rfl) (by decide) (fun K hK => ?_)
    have hs22 : w21.cell? ⟨gb170, 0, none⟩ = some (.bool false) := (blk_cell BK170.out 0).trans rfl
    have hfs22 := blk_frozen BK170.out 0
    have hns22_1 := NB171_170.out
    have hms22_1 := NB170_171.out
    have hs23 : w21.cell? ⟨gb170, 1, none⟩ = some (.bool false) := (blk_cell BK170.out 1).trans rfl
    have hfs23 := blk_frozen BK170.out 1
    have hns23_1 := NB171_170.out
    have hms23_1 := NB170_171.out
    have hs24 : w21.cell? ⟨gb170, 2, none⟩ = some (.bool false) := (blk_cell BK170.out 2).trans rfl
    have hfs24 := blk_frozen BK170.out 2
    have hns24_1 := NB171_170.out
    have hms24_1 := NB170_171.out
    have hs25 : w21.cell? ⟨gb170, 3, none⟩ = some (.bool false) := (blk_cell BK170.out 3).trans rfl
    have hfs25 := blk_frozen BK170.out 3
    have hns25_1 := NB171_170.out
    have hms25_1 := NB170_171.out
    have hs26 : w21.cell? ⟨gb170, 4, none⟩ = some (.bool false) := (blk_cell BK170.out 4).trans rfl
    have hfs26 := blk_frozen BK170.out 4
    have hns26_1 := NB171_170.out
    have hms26_1 := NB170_171.out
    refine skip_ (w1 := ?_) (by rfl) rfl ?_ ?_
    rotate_left
    ·go_simp
     rfl
    refine hK.out _ _ ⟨(cf5 NB171_170.out (hHeld.1)), (cf5 NB171_170.out (hHeld.2.1)), (cf5 NB171_170.out (hHeld.2.2.1)), (cf5 NB171_170.out (hHeld.2.2.2.1)), (cf5 NB171_170.out (hHeld.2.2.2.2))⟩ (fun hHeld => ?_)
    clear hK K
    refine pure_ (i := 6) (N := some 6) (v := ?_) (a' := ?_) (tf 7 0) rfl rfl (by kernel_rfl) (fun _ _ _ h => h) (Or.inl ⟨by rfl, ?_⟩) ?_ ?_
    rotate_left
    ·intro w'
     go_simp
     with_reducible rfl
    rotate_left
    ·simp only [Act.put, sb, sz, ss, i64_w, i32_w]
     rfl
    refine done_ (by kernel_rfl) ?_
    try go_wp2
    refine bodyPost_ret (results_list (rs := [.tmp 4, .cell 5 62, .tmp 6]) rfl (by simp) (.tmp (.cell gb170 62 #[.bool x172000_1, .bool false, .bool false, .bool false, .bool false] (0, 0) _ rfl (by (with_reducible repeat first | apply bd | apply be | apply ba); refine blk_put (cs := q5_ x172000_1 false false false false) ?_ 4 _ rfl; (with_reducible repeat first | apply bd | apply be | apply ba); refine blk_put (cs := q5_ x172000_1 false false false false) ?_ 3 _ rfl; (with_reducible repeat first | apply bd | apply be | apply ba); refine blk_put (cs := q5_ x172000_1 false false false false) ?_ 2 _ rfl; (with_reducible repeat first | apply bd | apply be | apply ba); refine blk_put (cs := q5_ x172000_1 false false false false) ?_ 1 _ rfl; (with_reducible repeat first | apply bd | apply be | apply ba); refine blk_put (cs := F5) ?_ 0 _ rfl; (with_reducible repeat first | apply bd | apply be | apply ba); exact BK170.out) Tryz.underlying62 rfl (by kernel_rfl) (.tmp .nil)))) rfl ?_
    exact ⟨by first | rfl | (simp [dE, dD] <;> rfl) | (simp [*, dE, dD] <;> rfl), bl2 HB.out GE170.out GE171.out⟩

-- NEED 0
/-! ### fF: function 171 -/
def fF.f (a0 a1 : Int) : Option (Bool × Int × Int) := (bI.f a0).bind fun bt175 => ((dX.f a0 a1).bind fun bt177 => (if bt177.2.1 = 0 then ((dC.f a0).bind fun t180 => (some (bt177.1, wrap64 (t180 - bt175.2), IntKind.u64.wrap (bt177.2.2)))) else ((dK.f a0).bind fun t181 => (if bt177.2.1 = t181 then (some (bt177.1, 0, 0)) else ((dC.f a0).bind fun t182 => (if 0 ≤ (IntKind.u64.wrap (bt175.2)) then (some (bt177.1, wrap64 ((wrap64 ((wrap64 (t182 - bt175.2)) + bt177.2.1)) - 1), Go.bits .or .u64 (IntKind.u64.wrap (bt177.2.2)) (shl .u64 1 (IntKind.u64.wrap (bt175.2))))) else (none)))))))
theorem fF.calls (a0 a1 : Int) (r1 : Bool) (r2 r3 : Int) (w : World) (h : fF.f a0 a1 = some (r1, r2, r3)) :
  Calls Tryz.prog 171 #[.int .i64 a0, .int .u32 a1] w fun e w' => e = .returned (.tuple #[.bool r1, .int .i64 r2, .int .u64 r3]) ∧ Drawn0 w w' := by
 have H : ((bI.f a0).bind fun bt175 => ((dX.f a0 a1).bind fun bt177 => (if bt177.2.1 = 0 then ((dC.f a0).bind fun t180 => (some (bt177.1, wrap64 (t180 - bt175.2), IntKind.u64.wrap (bt177.2.2)))) else ((dK.f a0).bind fun t181 => (if bt177.2.1 = t181 then (some (bt177.1, 0, 0)) else ((dC.f a0).bind fun t182 => (if 0 ≤ (IntKind.u64.wrap (bt175.2)) then (some (bt177.1, wrap64 ((wrap64 ((wrap64 (t182 - bt175.2)) + bt177.2.1)) - 1), Go.bits .or .u64 (IntKind.u64.wrap (bt177.2.2)) (shl .u64 1 (IntKind.u64.wrap (bt175.2))))) else (none)))))))) = some (r1, r2, r3) := h
 clear h
 replace H := bq_ H
 obtain ⟨⟨t175, t176⟩, A30, H⟩ := H
 replace H : ((dX.f a0 a1).bind fun bt177 => (if bt177.2.1 = 0 then ((dC.f a0).bind fun t180 => (some (bt177.1, wrap64 (t180 - t176), IntKind.u64.wrap (bt177.2.2)))) else ((dK.f a0).bind fun t181 => (if bt177.2.1 = t181 then (some (bt177.1, 0, 0)) else ((dC.f a0).bind fun t182 => (if 0 ≤ (IntKind.u64.wrap (t176)) then (some (bt177.1, wrap64 ((wrap64 ((wrap64 (t182 - t176)) + bt177.2.1)) - 1), Go.bits .or .u64 (IntKind.u64.wrap (bt177.2.2)) (shl .u64 1 (IntKind.u64.wrap (t176))))) else (none))))))) = some (r1, r2, r3) := H
 have A3 := Aside0.mk A30
 clear A30
 replace H := bq_ H
 obtain ⟨⟨t177, t178, t179⟩, A40, H⟩ := H
 replace H : (if t178 = 0 then ((dC.f a0).bind fun t180 => (some (t177, wrap64 (t180 - t176), IntKind.u64.wrap (t179)))) else ((dK.f a0).bind fun t181 => (if t178 = t181 then (some (t177, 0, 0)) else ((dC.f a0).bind fun t182 => (if 0 ≤ (IntKind.u64.wrap (t176)) then (some (t177, wrap64 ((wrap64 ((wrap64 (t182 - t176)) + t178)) - 1), Go.bits .or .u64 (IntKind.u64.wrap (t179)) (shl .u64 1 (IntKind.u64.wrap (t176))))) else (none)))))) = some (r1, r2, r3) := H
 have A4 := Aside0.mk A40
 clear A40
 by_cases c5 : t178 = 0
 ·rw [if_pos c5] at H
  have c5b0 : (t178 == 0) = true := beq_iff_eq.mpr c5
  have c5b1 : (t178 != 0) = false := bne_eq_false_iff_eq.mpr c5
  clear c5
  replace H := bq_ H
  obtain ⟨t180, A60, H⟩ := H
  replace H : (some (t177, wrap64 (t180 - t176), IntKind.u64.wrap (t179))) = some (r1, r2, r3) := H
  have A6 := Aside0.mk A60
  clear A60
  simp only [Option.some.injEq, Prod.mk.injEq] at H
  obtain ⟨rfl, rfl, rfl⟩ := H
  go_enter Tryz.func171, Tryz.ntmps171
  go_wp2_with (first | ((with_reducible refine gate_callee (f := 149) rfl ?_); refine goesL_ (some 14) rfl rfl Tryz.func149 (by kernel_rfl) rfl #[.int .i64 a0] rfl gl ?_; (with_reducible refine (bI.calls a0 t175 t176 _ A3.out).mono ?_); rintro e w' ⟨rfl, ⟨nd, rfl⟩⟩; refine ⟨_, rfl, ?_⟩) | ((with_reducible refine gate_callee (f := 115) rfl ?_); refine goesL_ (some 20) rfl rfl Tryz.func115 (by kernel_rfl) rfl #[.int .i64 a0, .int .u32 a1] rfl gl ?_; (with_reducible refine (dX.calls a0 a1 t177 t178 t179 _ A4.out).mono ?_); rintro e w' ⟨rfl, ⟨nd, rfl⟩⟩; refine ⟨_, rfl, ?_⟩) | ((with_reducible refine gate_callee (f := 153) rfl ?_); refine goesL_ (some 29) rfl rfl Tryz.func153 (by kernel_rfl) rfl #[.int .i64 a0] rfl gl ?_; (with_reducible refine (dC.calls a0 t180 _ A6.out).mono ?_); rintro e w' ⟨rfl, ⟨nd, rfl⟩⟩; refine ⟨_, rfl, ?_⟩))
  go_ret3
  exact ⟨gr_, gd_⟩
 ·rw [if_neg c5] at H
  have c5b0 : (t178 == 0) = false := beq_eq_false_iff_ne.mpr c5
  have c5b1 : (t178 != 0) = true := bne_iff_ne.mpr c5
  replace H := bq_ H
  obtain ⟨t181, A70, H⟩ := H
  replace H : (if t178 = t181 then (some (t177, 0, 0)) else ((dC.f a0).bind fun t182 => (if 0 ≤ (IntKind.u64.wrap (t176)) then (some (t177, wrap64 ((wrap64 ((wrap64 (t182 - t176)) + t178)) - 1), Go.bits .or .u64 (IntKind.u64.wrap (t179)) (shl .u64 1 (IntKind.u64.wrap (t176))))) else (none)))) = some (r1, r2, r3) := H
  have A7 := Aside0.mk A70
  clear A70
  by_cases c8 : t178 = t181
  ·rw [if_pos c8] at H
   have c8b0 : (t178 == t181) = true := beq_iff_eq.mpr c8
   have c8b1 : (t178 != t181) = false := bne_eq_false_iff_eq.mpr c8
   clear c8
   simp only [Option.some.injEq, Prod.mk.injEq] at H
   obtain ⟨rfl, rfl, rfl⟩ := H
   go_enter Tryz.func171, Tryz.ntmps171
   go_wp2_with (first | ((with_reducible refine gate_callee (f := 149) rfl ?_); refine goesL_ (some 14) rfl rfl Tryz.func149 (by kernel_rfl) rfl #[.int .i64 a0] rfl gl ?_; (with_reducible refine (bI.calls a0 t175 t176 _ A3.out).mono ?_); rintro e w' ⟨rfl, ⟨nd, rfl⟩⟩; refine ⟨_, rfl, ?_⟩) | ((with_reducible refine gate_callee (f := 115) rfl ?_); refine goesL_ (some 20) rfl rfl Tryz.func115 (by kernel_rfl) rfl #[.int .i64 a0, .int .u32 a1] rfl gl ?_; (with_reducible refine (dX.calls a0 a1 t177 t178 t179 _ A4.out).mono ?_); rintro e w' ⟨rfl, ⟨nd, rfl⟩⟩; refine ⟨_, rfl, ?_⟩) | ((with_reducible refine gate_callee (f := 116) rfl ?_); refine goesL_ (some 36) rfl rfl Tryz.func116 (by kernel_rfl) rfl #[.int .i64 a0] rfl gl ?_; (with_reducible refine (dK.calls a0 t181 _ A7.out).mono ?_); rintro e w' ⟨rfl, ⟨nd, rfl⟩⟩; refine ⟨_, rfl, ?_⟩))
   go_ret3
   exact ⟨gr_, gd_⟩
  ·rw [if_neg c8] at H
   have c8b0 : (t178 == t181) = false := beq_eq_false_iff_ne.mpr c8
   have c8b1 : (t178 != t181) = true := bne_iff_ne.mpr c8
   replace H := bq_ H
   obtain ⟨t182, A90, H⟩ := H
   replace H : (if 0 ≤ (IntKind.u64.wrap (t176)) then (some (t177, wrap64 ((wrap64 ((wrap64 (t182 - t176)) + t178)) - 1), Go.bits .or .u64 (IntKind.u64.wrap (t179)) (shl .u64 1 (IntKind.u64.wrap (t176))))) else (none)) = some (r1, r2, r3) := H
   have A9 := Aside0.mk A90
   clear A90
   obtain ⟨ji10, hji10⟩ : ∃ j_ : Int, (IntKind.u64.wrap (t176)) = j_ := ⟨_, rfl⟩
   replace H : (if 0 ≤ (ji10) then (some (t177, wrap64 ((wrap64 ((wrap64 (t182 - t176)) + t178)) - 1), Go.bits .or .u64 (IntKind.u64.wrap (t179)) (shl .u64 1 (ji10)))) else (none)) = some (r1, r2, r3) := by first | (rw [hji10] at H; exact H) | (simp only [hji10] at H ⊢; exact H)
   (try rw [hji10] at A3)
   (try rw [hji10] at A4)
   (try rw [hji10] at A7)
   (try rw [hji10] at A9)
   by_cases c11 : 0 ≤ (ji10)
   ·rw [if_pos c11] at H
    have c11b0 := eq_true c11
    have c11b1 : decide (0 ≤ (ji10)) = true := decide_eq_true c11
    clear c11
    obtain ⟨ji12, hji12⟩ : ∃ j_ : Int, (shl .u64 1 (ji10)) = j_ := ⟨_, rfl⟩
    replace H : (some (t177, wrap64 ((wrap64 ((wrap64 (t182 - t176)) + t178)) - 1), Go.bits .or .u64 (IntKind.u64.wrap (t179)) (ji12))) = some (r1, r2, r3) := by first | (rw [hji12] at H; exact H) | (simp only [hji12] at H ⊢; exact H)
    (try rw [hji12] at A3)
    (try rw [hji12] at A4)
    (try rw [hji12] at A7)
    (try rw [hji12] at A9)
    have hji12_ : (IntKind.u64.wrap (1 * 2 ^ min (ji10).toNat 64)) = ji12 := hji12
    have hji12z : (ji10) ≤ 64 → (IntKind.u64.wrap (1 * 2 ^ (ji10).toNat)) = ji12 := shl_small hji12
    have hji12u : (IntKind.u64.wrap (2 ^ min (ji10).toNat 64)) = ji12 := by have h_ := hji12_; rw [Int.one_mul] at h_; exact h_
    have hji12v : (ji10) ≤ 64 → (IntKind.u64.wrap (2 ^ (ji10).toNat)) = ji12 := fun hle_ => by have h_ := hji12z hle_; rw [Int.one_mul] at h_; exact h_
    simp only [Option.some.injEq, Prod.mk.injEq] at H
    obtain ⟨rfl, rfl, rfl⟩ := H
    go_enter Tryz.func171, Tryz.ntmps171
    go_wp2_with (first | ((with_reducible refine gate_callee (f := 149) rfl ?_); refine goesL_ (some 14) rfl rfl Tryz.func149 (by kernel_rfl) rfl #[.int .i64 a0] rfl gl ?_; (with_reducible refine (bI.calls a0 t175 t176 _ A3.out).mono ?_); rintro e w' ⟨rfl, ⟨nd, rfl⟩⟩; refine ⟨_, rfl, ?_⟩) | ((with_reducible refine gate_callee (f := 115) rfl ?_); refine goesL_ (some 20) rfl rfl Tryz.func115 (by kernel_rfl) rfl #[.int .i64 a0, .int .u32 a1] rfl gl ?_; (with_reducible refine (dX.calls a0 a1 t177 t178 t179 _ A4.out).mono ?_); rintro e w' ⟨rfl, ⟨nd, rfl⟩⟩; refine ⟨_, rfl, ?_⟩) | ((with_reducible refine gate_callee (f := 116) rfl ?_); refine goesL_ (some 36) rfl rfl Tryz.func116 (by kernel_rfl) rfl #[.int .i64 a0] rfl gl ?_; (with_reducible refine (dK.calls a0 t181 _ A7.out).mono ?_); rintro e w' ⟨rfl, ⟨nd, rfl⟩⟩; refine ⟨_, rfl, ?_⟩) | ((with_reducible refine gate_callee (f := 153) rfl ?_); refine goesL_ (some 41) rfl rfl Tryz.func153 (by kernel_rfl) rfl #[.int .i64 a0] rfl gl ?_; (with_reducible refine (dC.calls a0 t182 _ A9.out).mono ?_); rintro e w' ⟨rfl, ⟨nd, rfl⟩⟩; refine ⟨_, rfl, ?_⟩))
    go_ret3
    exact ⟨by first | rfl | (simp; done) | (simp only [← hji10, ← hji12] <;> (first | rfl | (simp; done))) | (simp [*]; done) | (congr 1; (try unfold wrap64); omega) | (congr 1; rw [IntKind.wrap_u64]; omega), gd_⟩
   ·rw [if_neg c11] at H
    exact absurd H (by simp)

-- NEED 0
/-! ### fD: function 137 -/
def fD.f (a0 a1 : Int) : Option (Bool × Int × Int × Bool) := (fF.f a0 a1).bind fun bt184 => (some (bt184.1, bt184.2.1, bt184.2.2, false))
theorem fD.calls (a0 a1 : Int) (r1 : Bool) (r2 r3 : Int) (r4 : Bool) (w : World) (h : fD.f a0 a1 = some (r1, r2, r3, r4)) :
  Calls Tryz.prog 137 #[.int .i64 a0, .int .u32 a1] w fun e w' => e = .returned (.agg #[.bool r1, .int .i64 r2, .int .u64 r3, .bool r4]) ∧ Below w.heap.size w w' := by
 have hu131 := Tryz.underlying131
 have HB := Aside0.mk (Below.refl w.heap.size w)
 have H : ((fF.f a0 a1).bind fun bt184 => (some (bt184.1, bt184.2.1, bt184.2.2, false))) = some (r1, r2, r3, r4) := h
 clear h
 replace H := bq_ H
 obtain ⟨⟨t184, t185, t186⟩, A30, H⟩ := H
 replace H : (some (t184, t185, t186, false)) = some (r1, r2, r3, r4) := H
 have A3 := Aside0.mk A30
 clear A30
 simp only [Option.some.injEq, Prod.mk.injEq] at H
 obtain ⟨rfl, rfl, rfl, rfl⟩ := H
 go_enter Tryz.func137, Tryz.ntmps137
 go_wp2_with (first | ((with_reducible refine gate_dst (N := 4) rfl ?_); refine box_event ?hg (N := 4) ?hd (cs := #[.bool false, .int .i64 0, .int .u64 0, .bool false]) (t := 131) ?hr ?_; (case hd => rfl); (case hg => rfl); (case hr => first | (go_simp; done) | (go_simp; rfl)); intro gb183 hg w4 hbox hb; have n0_ := Aside0.mk (below_step (bl0 HB.out) hb); have n1_ := Aside0.mk (hbox); have n2_ := Aside0.mk ((by rw [hg]; exact (below_size (bl0 HB.out)) : w.heap.size ≤ gb183)); have n3_ := n2_; clear HB; have HB := n0_; have BK183 := n1_; have GW183 := n2_; have GE183 := n3_; clear n0_ n1_ n2_ n3_; clear hb hbox hg) | ((with_reducible refine gate_callee (f := 171) rfl ?_); refine goesL_ (some 11) rfl rfl Tryz.func171 (by kernel_rfl) rfl #[.int .i64 a0, .int .u32 a1] rfl gl ?_; (with_reducible refine (fF.calls a0 a1 t184 t185 t186 _ A3.out).mono ?_); rintro e w' ⟨rfl, ⟨nd, rfl⟩⟩; refine ⟨_, rfl, ?_⟩; (try (rw [drewN_self w4]; generalize hq_ : World.drewN w4 _ = w4; have n0_ : Aside0 (w4.heap[gb183]? = some (.cells #[.bool false, .int .i64 0, .int .u64 0, .bool false] 131 (0, 0))) := ⟨by rw [← hq_]; exact (bv BK183.out)⟩; have n1_ : Aside0 (Below w.heap.size w w4) := ⟨by rw [← hq_]; exact (bl1 HB.out GE183.out)⟩; clear BK183 HB hq_; have BK183 := n0_; have HB := n1_; clear n0_ n1_)); obtain ⟨hcz5_0, hcz5_1, hcz5_2, hcz5_3⟩ := bc4 BK183.out; obtain ⟨hfz5_0, hfz5_1, hfz5_2, hfz5_3⟩ := bf4 BK183.out))
 refine bodyPost_ret (results_cell_row rfl _ _ gb183 131 #[.bool t184, .int .i64 t185, .int .u64 t186, .bool false] (0, 0) _ rfl (by (with_reducible repeat first | apply bd | apply be | apply ba); refine blk_put (cs := #[.bool t184, .int .i64 t185, .int .u64 t186, .bool false]) ?_ 3 _ rfl; (with_reducible repeat first | apply bd | apply be | apply ba); refine blk_put (cs := #[.bool t184, .int .i64 t185, .int .u64 0, .bool false]) ?_ 2 _ rfl; (with_reducible repeat first | apply bd | apply be | apply ba); refine blk_put (cs := #[.bool t184, .int .i64 0, .int .u64 0, .bool false]) ?_ 1 _ rfl; (with_reducible repeat first | apply bd | apply be | apply ba); refine blk_put (cs := #[.bool false, .int .i64 0, .int .u64 0, .bool false]) ?_ 0 _ rfl; (with_reducible repeat first | apply bd | apply be | apply ba); exact BK183.out) Tryz.underlying131 rfl (by kernel_rfl)) rfl ?_
 exact ⟨by first | rfl | (simp [dE, dD] <;> rfl) | (simp [*, dE, dD] <;> rfl), bl1 HB.out GE183.out⟩

end Go.Proofs.YtolpdiifmacdbaaGreat.P
