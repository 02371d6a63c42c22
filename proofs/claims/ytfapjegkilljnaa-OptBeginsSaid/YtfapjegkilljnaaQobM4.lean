import Derived.Test.YtfapjegkilljnaaQobZ
import Derived.Test.YtfapjegkilljnaaProg
import Derived.Below
import Derived.Deep.Draws
import Derived.Deep.AppendLies
import Derived.Maps.AppendAt
import Derived.OwnWalk
import Derived.Laws.BytesArg
import Derived.Laws.MakeOwn
import Derived.Laws.OwnMore
import Derived.Deep.OwnRows
import Derived.Tactics
import Derived.Lib.ConvBytes
import Derived.Laws.Slices
import Derived.WalkKit
import Derived.KernelRfl
import Derived.RowKit3
import Derived.Deep.LoopGhost
import Derived.Deep.QuietTactic
import Derived.BigQuiet
import Derived.WideLaws
import Derived.Deep.DeepCutAuto
import Derived.Deep.CutBlock
import Derived.Deep.RegionHeld3
import Derived.Laws.Rows
import Derived.Lib.AppendStr
import Derived.ArgAppend
import Derived.Laws.IdiomCopy
import Derived.OrdersHeld
import Derived.Laws.BitsLemmas
import Derived.RowKit
import Derived.ChangeKeysEq
import Derived.Test.YtfapjegkilljnaaQobWWords
import Derived.Test.YtfapjegkilljnaaQobWLast
import Derived.Test.YtfapjegkilljnaaQobWTab
import Derived.Test.YtfapjegkilljnaaQobWFour
import Derived.Test.YtfapjegkilljnaaQobWQPut
import Derived.Test.YtfapjegkilljnaaQobWApart
import Derived.Test.YtfapjegkilljnaaQobWArr
import Derived.Test.YtfapjegkilljnaaQobWZeros
import Derived.Test.YtfapjegkilljnaaQobWFoot
import Derived.Test.YtfapjegkilljnaaQobWKept
import Derived.Test.YtfapjegkilljnaaQobWShare
import Derived.Test.YtfapjegkilljnaaQobWN
import Derived.Test.YtfapjegkilljnaaQobWFootNe
import Derived.Test.YtfapjegkilljnaaQobWAt
import Derived.Test.YtfapjegkilljnaaQobWEqStruct
import Derived.Test.YtfapjegkilljnaaQobWRepsOne
import Derived.Test.YtfapjegkilljnaaQobWInv
import Derived.Test.YtfapjegkilljnaaQobWInvWords
import Derived.Test.YtfapjegkilljnaaQobWGuard
import Derived.Test.YtfapjegkilljnaaQobWNEv
import Derived.Test.YtfapjegkilljnaaQobWMore
-- Printed by a program of this session's out of Lean's print of the translation; Lean checks it.
set_option linter.unusedVariables false
set_option linter.unusedSimpArgs false
set_option maxRecDepth 100000
set_option maxHeartbeats 8000000
namespace Go.Proofs.Ytfapjegkilljnaa.P
open Go.RowKit Go.Proofs.YtfapjegkilljnaaW.PrintWords Go.Proofs.YtfapjegkilljnaaW.PrintLast Go.Proofs.YtfapjegkilljnaaW.PrintMore
attribute [local go_sem] max2_int min2_int max_two min_two max_three min_three max_four min_four

theorem lL (n : Int) : IntKind.u32.wrap n = n % 4294967296 := IntKind.wrap_u32 n



def errW : Option Int → Value
 |none => .nilIface
 |some c => .iface 0 (.int .i64 c)
theorem bK : errW none = .nilIface := rfl
theorem bL (c : Int) : errW (some c) = .iface 0 (.int .i64 c) := rfl

theorem xV : (Try.prog.info? 25).map (fun i => (i.zero, i.size, i.bytes)) = some (some (.int .u32 0), 1, 4) := by kernel_rfl
theorem info48 : (Try.prog.info? 48).map (fun i => (i.zero, i.size, i.bytes)) = some (some (.agg #[(.int .i64 0), (.int .i64 0), (.int .i64 0), (.slice none 0 0), (.int .i64 0), (.int .i64 0), (.int .i64 0), (.slice none 0 0)]), 8, 96) := by kernel_rfl
-- the values' own types
def iU (xs : List (List Int)) (i : Int) : (List Int) := xs.getD i.toNat ([] : List Int)
theorem at_L3 {w : World} {A : Option Addr} {n : Nat} {xs : List (List Int)} (h : Kd.C (Kd.slice 25 (Kd.int .u32)) w A n xs) (i : Int) (h0 : 0 ≤ i) (h1 : i < n) : ∃ ad A0 c0, A = some ad ∧ w.cell? (ad.add i.toNat) = some (.slice A0 (iU xs i).length c0) ∧ (iU xs i).length ≤ c0 ∧ (Kd.int .u32).C w A0 (iU xs i).length (iU xs i) := by
 obtain ⟨ad, c, e, _, hK, hc0⟩ := Kd.C_get h ([] : List Int) i h0 h1
 have hc : ∀ j u, c[j]? = some u → w.cell? (ad.add (i.toNat * 1 + j)) = some u := hc0
 obtain ⟨A0, c0, rfl, l0, g0⟩ := hK
 exact ⟨ad, A0, c0, e, by have hq := hc 0 _ rfl; rwa [Nat.mul_one, Nat.add_zero] at hq, l0, g0⟩

/-! #### struct type 46 -/
structure S46 where
 f0 : Int
 f1 : Int
 f2 : Int
 f3 : (List Int)
def k46 : Kd S46 := Kd.iso (Kd.pair (Kd.int .i64) (Kd.pair (Kd.int .i64) (Kd.pair (Kd.int .i64) (Kd.slice 25 (Kd.int .u32))))) (fun x : S46 => (x.f0, x.f1, x.f2, x.f3))
theorem sK {w : World} {base : Nat} {ok : Nat → Prop} {x : S46} {cs : List Value} (h : k46.M w base ok x cs) : ∃ v3, cs = [.int .i64 x.f0, .int .i64 x.f1, .int .i64 x.f2, v3] ∧ (Kd.int .u32).R 25 w base ok v3 x.f3 := by
 obtain ⟨_, _, rfl, rfl, ⟨_, _, rfl, rfl, ⟨_, _, rfl, rfl, ⟨v3, rfl, g3⟩⟩⟩⟩ := h
 exact ⟨v3, rfl, g3⟩
theorem yK (w : World) (base : Nat) (ok : Nat → Prop) (x : S46) {v3 : Value} (g3 : (Kd.int .u32).R 25 w base ok v3 x.f3) : k46.M w base ok x [.int .i64 x.f0, .int .i64 x.f1, .int .i64 x.f2, v3] := ⟨[.int .i64 x.f0], [.int .i64 x.f1, .int .i64 x.f2, v3], rfl, rfl, ⟨[.int .i64 x.f1], [.int .i64 x.f2, v3], rfl, rfl, ⟨[.int .i64 x.f2], [v3], rfl, rfl, ⟨v3, rfl, g3⟩⟩⟩⟩
/-! #### struct type 48 -/
structure S48 where
 f0 : S46
 f1 : S46
def k48 : Kd S48 := Kd.iso (Kd.pair k46 k46) (fun x : S48 => (x.f0, x.f1))
theorem xH {w : World} {base : Nat} {ok : Nat → Prop} {x : S48} {cs : List Value} (h : k48.M w base ok x cs) : ∃ v3 v7, cs = [.int .i64 x.f0.f0, .int .i64 x.f0.f1, .int .i64 x.f0.f2, v3, .int .i64 x.f1.f0, .int .i64 x.f1.f1, .int .i64 x.f1.f2, v7] ∧ (Kd.int .u32).R 25 w base ok v3 x.f0.f3 ∧ (Kd.int .u32).R 25 w base ok v7 x.f1.f3 := by
 obtain ⟨_, _, rfl, s0, s4⟩ := h
 obtain ⟨v3, rfl, g3⟩ := sK s0
 obtain ⟨v7, rfl, g7⟩ := sK s4
 exact ⟨v3, v7, rfl, g3, g7⟩
theorem k48_mkM (w : World) (base : Nat) (ok : Nat → Prop) (x : S48) {v3 : Value} (g3 : (Kd.int .u32).R 25 w base ok v3 x.f0.f3) {v7 : Value} (g7 : (Kd.int .u32).R 25 w base ok v7 x.f1.f3) : k48.M w base ok x [.int .i64 x.f0.f0, .int .i64 x.f0.f1, .int .i64 x.f0.f2, v3, .int .i64 x.f1.f0, .int .i64 x.f1.f1, .int .i64 x.f1.f2, v7] := ⟨[.int .i64 x.f0.f0, .int .i64 x.f0.f1, .int .i64 x.f0.f2, v3], [.int .i64 x.f1.f0, .int .i64 x.f1.f1, .int .i64 x.f1.f2, v7], rfl, (yK w base ok x.f0 g3), (yK w base ok x.f1 g7)⟩

-- NOT PRINTED: function 27 (birth_each)

-- NOT PRINTED: function 28 (birth_Noughts_1)

-- NOT PRINTED: function 18 (birth_Noughts)

-- NOT PRINTED: function 10 (opt_Begin)

-- NOT PRINTED: function 29 (api_Param)

-- NEED 0
/-! ### clip_Like: function 31 -/
-- NOT PRINTED: function 30 (clip_Alike_1)

-- NOT PRINTED: function 19 (clip_Alike)

-- NEED 0
/-! ### aR: function 78 -/
def aR.f (a0 : Int) : Option (Int × Int) := if a0 = 0 then (some (5, 10)) else (if a0 = 1 then (some (8, 7)) else (some (8, 23)))
theorem aR.calls (a0 r1 r2 : Int) (w : World) (h : aR.f a0 = some (r1, r2)) :
  Calls Try.prog 78 #[.int .i64 a0] w fun e w' => e = .returned (.tuple #[.int .i64 r1, .int .i64 r2]) ∧ Drawn0 w w' := by
 have H : (if a0 = 0 then (some (5, 10)) else (if a0 = 1 then (some (8, 7)) else (some (8, 23)))) = some (r1, r2) := h
 clear h
 by_cases c2 : a0 = 0
 ·rw [if_pos c2] at H
  have c2b0 : (a0 == 0) = true := beq_iff_eq.mpr c2
  have c2b1 : (a0 != 0) = false := bne_eq_false_iff_eq.mpr c2
  clear c2
  simp only [Option.some.injEq, Prod.mk.injEq] at H
  obtain ⟨rfl, rfl⟩ := H
  go_enter Try.func78, Try.ntmps78
  go_wp2
  go_ret2
  exact ⟨gr_, gd_⟩
 ·rw [if_neg c2] at H
  have c2b0 : (a0 == 0) = false := beq_eq_false_iff_ne.mpr c2
  have c2b1 : (a0 != 0) = true := bne_iff_ne.mpr c2
  by_cases c3 : a0 = 1
  ·rw [if_pos c3] at H
   have c3b0 : (a0 == 1) = true := beq_iff_eq.mpr c3
   have c3b1 : (a0 != 1) = false := bne_eq_false_iff_eq.mpr c3
   clear c3
   simp only [Option.some.injEq, Prod.mk.injEq] at H
   obtain ⟨rfl, rfl⟩ := H
   go_enter Try.func78, Try.ntmps78
   go_wp2
   go_ret2
   exact ⟨gr_, gd_⟩
  ·rw [if_neg c3] at H
   have c3b0 : (a0 == 1) = false := beq_eq_false_iff_ne.mpr c3
   have c3b1 : (a0 != 1) = true := bne_iff_ne.mpr c3
   simp only [Option.some.injEq, Prod.mk.injEq] at H
   obtain ⟨rfl, rfl⟩ := H
   go_enter Try.func78, Try.ntmps78
   go_wp2
   go_ret2
   exact ⟨gr_, gd_⟩

-- NEED 0
/-! ### cB: function 73 -/
def cB.f (a0 a1 : Int) : Option (Bool × Int × Int) := (aR.f a0).bind fun bt156 => (if 0 ≤ (IntKind.u64.wrap (wrap64 (bt156.1 + bt156.2))) then (if 0 ≤ (IntKind.u64.wrap (bt156.2)) then (if 0 ≤ (IntKind.u64.wrap (bt156.1)) then (some (((Go.bits .and .u32 (shr .u32 a1 (IntKind.u64.wrap (wrap64 (bt156.1 + bt156.2)))) 1) == 1), wrap64 (Go.bits .and .u32 (shr .u32 a1 (IntKind.u64.wrap (bt156.2))) (((shl .u32 1 (IntKind.u64.wrap (bt156.1))) - 1) % 4294967296)), Go.bits .and .u32 a1 (((shl .u32 1 (IntKind.u64.wrap (bt156.2))) - 1) % 4294967296))) else (none)) else (none)) else (none))
theorem cB.calls (a0 a1 : Int) (r1 : Bool) (r2 r3 : Int) (w : World) (h : cB.f a0 a1 = some (r1, r2, r3)) :
  Calls Try.prog 73 #[.int .i64 a0, .int .u32 a1] w fun e w' => e = .returned (.tuple #[.bool r1, .int .i64 r2, .int .u32 r3]) ∧ Drawn0 w w' := by
 have H : ((aR.f a0).bind fun bt156 => (if 0 ≤ (IntKind.u64.wrap (wrap64 (bt156.1 + bt156.2))) then (if 0 ≤ (IntKind.u64.wrap (bt156.2)) then (if 0 ≤ (IntKind.u64.wrap (bt156.1)) then (some (((Go.bits .and .u32 (shr .u32 a1 (IntKind.u64.wrap (wrap64 (bt156.1 + bt156.2)))) 1) == 1), wrap64 (Go.bits .and .u32 (shr .u32 a1 (IntKind.u64.wrap (bt156.2))) (((shl .u32 1 (IntKind.u64.wrap (bt156.1))) - 1) % 4294967296)), Go.bits .and .u32 a1 (((shl .u32 1 (IntKind.u64.wrap (bt156.2))) - 1) % 4294967296))) else (none)) else (none)) else (none))) = some (r1, r2, r3) := h
 clear h
 replace H := bq_ H
 obtain ⟨⟨t156, t157⟩, A30, H⟩ := H
 replace H : (if 0 ≤ (IntKind.u64.wrap (wrap64 (t156 + t157))) then (if 0 ≤ (IntKind.u64.wrap (t157)) then (if 0 ≤ (IntKind.u64.wrap (t156)) then (some (((Go.bits .and .u32 (shr .u32 a1 (IntKind.u64.wrap (wrap64 (t156 + t157)))) 1) == 1), wrap64 (Go.bits .and .u32 (shr .u32 a1 (IntKind.u64.wrap (t157))) (((shl .u32 1 (IntKind.u64.wrap (t156))) - 1) % 4294967296)), Go.bits .and .u32 a1 (((shl .u32 1 (IntKind.u64.wrap (t157))) - 1) % 4294967296))) else (none)) else (none)) else (none)) = some (r1, r2, r3) := H
 have A3 := Aside0.mk A30
 clear A30
 obtain ⟨ji4, hji4⟩ : ∃ j_ : Int, (IntKind.u64.wrap (wrap64 (t156 + t157))) = j_ := ⟨_, rfl⟩
 replace H : (if 0 ≤ (ji4) then (if 0 ≤ (IntKind.u64.wrap (t157)) then (if 0 ≤ (IntKind.u64.wrap (t156)) then (some (((Go.bits .and .u32 (shr .u32 a1 (ji4)) 1) == 1), wrap64 (Go.bits .and .u32 (shr .u32 a1 (IntKind.u64.wrap (t157))) (((shl .u32 1 (IntKind.u64.wrap (t156))) - 1) % 4294967296)), Go.bits .and .u32 a1 (((shl .u32 1 (IntKind.u64.wrap (t157))) - 1) % 4294967296))) else (none)) else (none)) else (none)) = some (r1, r2, r3) := by first | (rw [hji4] at H; exact H) | (simp only [hji4] at H ⊢; exact H)
 (try rw [hji4] at A3)
 by_cases c5 : 0 ≤ (ji4)
 ·rw [if_pos c5] at H
  have c5b0 := eq_true c5
  have c5b1 : decide (0 ≤ (ji4)) = true := decide_eq_true c5
  clear c5
  obtain ⟨ji6, hji6⟩ : ∃ j_ : Int, (shr .u32 a1 (ji4)) = j_ := ⟨_, rfl⟩
  replace H : (if 0 ≤ (IntKind.u64.wrap (t157)) then (if 0 ≤ (IntKind.u64.wrap (t156)) then (some (((Go.bits .and .u32 (ji6) 1) == 1), wrap64 (Go.bits .and .u32 (shr .u32 a1 (IntKind.u64.wrap (t157))) (((shl .u32 1 (IntKind.u64.wrap (t156))) - 1) % 4294967296)), Go.bits .and .u32 a1 (((shl .u32 1 (IntKind.u64.wrap (t157))) - 1) % 4294967296))) else (none)) else (none)) = some (r1, r2, r3) := by first | (rw [hji6] at H; exact H) | (simp only [hji6] at H ⊢; exact H)
  (try rw [hji6] at A3)
  have hji6_ : (a1 / 2 ^ min (ji4).toNat 32) = ji6 := hji6
  have hji6z : (ji4) ≤ 32 → (a1 / 2 ^ (ji4).toNat) = ji6 := shr_small hji6
  obtain ⟨ji7, hji7⟩ : ∃ j_ : Int, (IntKind.u64.wrap (t157)) = j_ := ⟨_, rfl⟩
  replace H : (if 0 ≤ (ji7) then (if 0 ≤ (IntKind.u64.wrap (t156)) then (some (((Go.bits .and .u32 (ji6) 1) == 1), wrap64 (Go.bits .and .u32 (shr .u32 a1 (ji7)) (((shl .u32 1 (IntKind.u64.wrap (t156))) - 1) % 4294967296)), Go.bits .and .u32 a1 (((shl .u32 1 (ji7)) - 1) % 4294967296))) else (none)) else (none)) = some (r1, r2, r3) := by first | (rw [hji7] at H; exact H) | (simp only [hji7] at H ⊢; exact H)
  (try rw [hji7] at A3)
  by_cases c8 : 0 ≤ (ji7)
  ·rw [if_pos c8] at H
   have c8b0 := eq_true c8
   have c8b1 : decide (0 ≤ (ji7)) = true := decide_eq_true c8
   clear c8
   obtain ⟨ji9, hji9⟩ : ∃ j_ : Int, (shr .u32 a1 (ji7)) = j_ := ⟨_, rfl⟩
   replace H : (if 0 ≤ (IntKind.u64.wrap (t156)) then (some (((Go.bits .and .u32 (ji6) 1) == 1), wrap64 (Go.bits .and .u32 (ji9) (((shl .u32 1 (IntKind.u64.wrap (t156))) - 1) % 4294967296)), Go.bits .and .u32 a1 (((shl .u32 1 (ji7)) - 1) % 4294967296))) else (none)) = some (r1, r2, r3) := by first | (rw [hji9] at H; exact H) | (simp only [hji9] at H ⊢; exact H)
   (try rw [hji9] at A3)
   have hji9_ : (a1 / 2 ^ min (ji7).toNat 32) = ji9 := hji9
   have hji9z : (ji7) ≤ 32 → (a1 / 2 ^ (ji7).toNat) = ji9 := shr_small hji9
   obtain ⟨ji10, hji10⟩ : ∃ j_ : Int, (IntKind.u64.wrap (t156)) = j_ := ⟨_, rfl⟩
   replace H : (if 0 ≤ (ji10) then (some (((Go.bits .and .u32 (ji6) 1) == 1), wrap64 (Go.bits .and .u32 (ji9) (((shl .u32 1 (ji10)) - 1) % 4294967296)), Go.bits .and .u32 a1 (((shl .u32 1 (ji7)) - 1) % 4294967296))) else (none)) = some (r1, r2, r3) := by first | (rw [hji10] at H; exact H) | (simp only [hji10] at H ⊢; exact H)
   (try rw [hji10] at A3)
   by_cases c11 : 0 ≤ (ji10)
   ·rw [if_pos c11] at H
    have c11b0 := eq_true c11
    have c11b1 : decide (0 ≤ (ji10)) = true := decide_eq_true c11
    clear c11
    obtain ⟨ji12, hji12⟩ : ∃ j_ : Int, (shl .u32 1 (ji10)) = j_ := ⟨_, rfl⟩
    replace H : (some (((Go.bits .and .u32 (ji6) 1) == 1), wrap64 (Go.bits .and .u32 (ji9) (((ji12) - 1) % 4294967296)), Go.bits .and .u32 a1 (((shl .u32 1 (ji7)) - 1) % 4294967296))) = some (r1, r2, r3) := by first | (rw [hji12] at H; exact H) | (simp only [hji12] at H ⊢; exact H)
    (try rw [hji12] at A3)
    have hji12_ : (IntKind.u32.wrap (1 * 2 ^ min (ji10).toNat 32)) = ji12 := hji12
    have hji12z : (ji10) ≤ 32 → (IntKind.u32.wrap (1 * 2 ^ (ji10).toNat)) = ji12 := shl_small hji12
    have hji12u : (IntKind.u32.wrap (2 ^ min (ji10).toNat 32)) = ji12 := by have h_ := hji12_; rw [Int.one_mul] at h_; exact h_
    have hji12v : (ji10) ≤ 32 → (IntKind.u32.wrap (2 ^ (ji10).toNat)) = ji12 := fun hle_ => by have h_ := hji12z hle_; rw [Int.one_mul] at h_; exact h_
    obtain ⟨ji13, hji13⟩ : ∃ j_ : Int, (((ji12) - 1) % 4294967296) = j_ := ⟨_, rfl⟩
    replace H : (some (((Go.bits .and .u32 (ji6) 1) == 1), wrap64 (Go.bits .and .u32 (ji9) (ji13)), Go.bits .and .u32 a1 (((shl .u32 1 (ji7)) - 1) % 4294967296))) = some (r1, r2, r3) := by first | (rw [hji13] at H; exact H) | (simp only [hji13] at H ⊢; exact H)
    (try rw [hji13] at A3)
    have hji13l : 0 ≤ ji13 := by rw [← hji13]; exact Int.emod_nonneg _ (by decide)
    have hji13h : ji13 ≤ 4294967295 := by have := Int.emod_lt_of_pos (((ji12) - 1)) (show (0 : Int) < 4294967296 by decide); omega
    have hji13w : (IntKind.u32.wrap ((ji12) - 1)) = ji13 := (lL _).trans hji13
    (try (have hji13_ := hji13; simp only [Int.add_emod_emod, Int.emod_add_emod, Int.sub_emod_emod, Int.emod_sub_emod] at hji13_))
    have c14b0 := eq_true (of_decide_eq_true (by first | (with_reducible assumption) | assumption) : 0 ≤ (ji7))
    obtain ⟨ji15, hji15⟩ : ∃ j_ : Int, (shl .u32 1 (ji7)) = j_ := ⟨_, rfl⟩
    replace H : (some (((Go.bits .and .u32 (ji6) 1) == 1), wrap64 (Go.bits .and .u32 (ji9) (ji13)), Go.bits .and .u32 a1 (((ji15) - 1) % 4294967296))) = some (r1, r2, r3) := by first | (rw [hji15] at H; exact H) | (simp only [hji15] at H ⊢; exact H)
    (try rw [hji15] at A3)
    have hji15_ : (IntKind.u32.wrap (1 * 2 ^ min (ji7).toNat 32)) = ji15 := hji15
    have hji15z : (ji7) ≤ 32 → (IntKind.u32.wrap (1 * 2 ^ (ji7).toNat)) = ji15 := shl_small hji15
    have hji15u : (IntKind.u32.wrap (2 ^ min (ji7).toNat 32)) = ji15 := by have h_ := hji15_; rw [Int.one_mul] at h_; exact h_
    have hji15v : (ji7) ≤ 32 → (IntKind.u32.wrap (2 ^ (ji7).toNat)) = ji15 := fun hle_ => by have h_ := hji15z hle_; rw [Int.one_mul] at h_; exact h_
    obtain ⟨ji16, hji16⟩ : ∃ j_ : Int, (((ji15) - 1) % 4294967296) = j_ := ⟨_, rfl⟩
    replace H : (some (((Go.bits .and .u32 (ji6) 1) == 1), wrap64 (Go.bits .and .u32 (ji9) (ji13)), Go.bits .and .u32 a1 (ji16))) = some (r1, r2, r3) := by first | (rw [hji16] at H; exact H) | (simp only [hji16] at H ⊢; exact H)
    (try rw [hji16] at A3)
    have hji16l : 0 ≤ ji16 := by rw [← hji16]; exact Int.emod_nonneg _ (by decide)
    have hji16h : ji16 ≤ 4294967295 := by have := Int.emod_lt_of_pos (((ji15) - 1)) (show (0 : Int) < 4294967296 by decide); omega
    have hji16w : (IntKind.u32.wrap ((ji15) - 1)) = ji16 := (lL _).trans hji16
    (try (have hji16_ := hji16; simp only [Int.add_emod_emod, Int.emod_add_emod, Int.sub_emod_emod, Int.emod_sub_emod] at hji16_))
    simp only [Option.some.injEq, Prod.mk.injEq] at H
    obtain ⟨rfl, rfl, rfl⟩ := H
    go_enter Try.func73, Try.ntmps73
    go_wp2_with (first | ((with_reducible refine gate_callee (f := 78) rfl ?_); refine goesL_ (some 11) rfl rfl Try.func78 (by kernel_rfl) rfl #[.int .i64 a0] rfl gl ?_; (with_reducible refine (aR.calls a0 t156 t157 _ A3.out).mono ?_); rintro e w' ⟨rfl, ⟨nd, rfl⟩⟩; refine ⟨_, rfl, ?_⟩))
    go_ret3
    exact ⟨by first | rfl | (simp; done) | (simp only [← hji4, ← hji6, ← hji7, ← hji9, ← hji10, ← hji12, ← hji13, ← hji15, ← hji16] <;> (first | rfl | (simp; done))) | (simp [*]; done) | (congr 1; (try unfold wrap64); omega) | (congr 1; rw [IntKind.wrap_u64]; omega), gd_⟩
   ·rw [if_neg c11] at H
    exact absurd H (by simp)
  ·rw [if_neg c8] at H
   exact absurd H (by simp)
 ·rw [if_neg c5] at H
  exact absurd H (by simp)

-- NEED 0
/-! ### bP: function 75 -/
def bP.f (a0 : Int) : Option (Int) := (aR.f a0).bind fun bt158 => (if 0 ≤ (IntKind.u64.wrap (bt158.1)) then (some (wrap64 ((shl .i64 1 (IntKind.u64.wrap (bt158.1))) - 1))) else (none))
theorem bP.calls (a0 r : Int) (w : World) (h : bP.f a0 = some r) :
  Calls Try.prog 75 #[.int .i64 a0] w fun e w' => e = .returned (.int .i64 r) ∧ Drawn0 w w' := by
 have H : ((aR.f a0).bind fun bt158 => (if 0 ≤ (IntKind.u64.wrap (bt158.1)) then (some (wrap64 ((shl .i64 1 (IntKind.u64.wrap (bt158.1))) - 1))) else (none))) = some r := h
 clear h
 replace H := bq_ H
 obtain ⟨⟨t158, t159⟩, A20, H⟩ := H
 replace H : (if 0 ≤ (IntKind.u64.wrap (t158)) then (some (wrap64 ((shl .i64 1 (IntKind.u64.wrap (t158))) - 1))) else (none)) = some r := H
 have A2 := Aside0.mk A20
 clear A20
 obtain ⟨ji3, hji3⟩ : ∃ j_ : Int, (IntKind.u64.wrap (t158)) = j_ := ⟨_, rfl⟩
 replace H : (if 0 ≤ (ji3) then (some (wrap64 ((shl .i64 1 (ji3)) - 1))) else (none)) = some r := by first | (rw [hji3] at H; exact H) | (simp only [hji3] at H ⊢; exact H)
 (try rw [hji3] at A2)
 by_cases c4 : 0 ≤ (ji3)
 ·rw [if_pos c4] at H
  have c4b0 := eq_true c4
  have c4b1 : decide (0 ≤ (ji3)) = true := decide_eq_true c4
  clear c4
  obtain ⟨ji5, hji5⟩ : ∃ j_ : Int, (shl .i64 1 (ji3)) = j_ := ⟨_, rfl⟩
  replace H : (some (wrap64 ((ji5) - 1))) = some r := by first | (rw [hji5] at H; exact H) | (simp only [hji5] at H ⊢; exact H)
  (try rw [hji5] at A2)
  have hji5_ : (IntKind.i64.wrap (1 * 2 ^ min (ji3).toNat 64)) = ji5 := hji5
  have hji5z : (ji3) ≤ 64 → (IntKind.i64.wrap (1 * 2 ^ (ji3).toNat)) = ji5 := shl_small hji5
  have hji5u : (IntKind.i64.wrap (2 ^ min (ji3).toNat 64)) = ji5 := by have h_ := hji5_; rw [Int.one_mul] at h_; exact h_
  have hji5v : (ji3) ≤ 64 → (IntKind.i64.wrap (2 ^ (ji3).toNat)) = ji5 := fun hle_ => by have h_ := hji5z hle_; rw [Int.one_mul] at h_; exact h_
  have hji5y : (wrap64 (1 * 2 ^ min (ji3).toNat 64)) = ji5 := (i64_w _).symm.trans hji5_
  have hji5x : (ji3) ≤ 64 → (wrap64 (1 * 2 ^ (ji3).toNat)) = ji5 := fun h_ => (i64_w _).symm.trans (hji5z h_)
  obtain rfl := Option.some.inj H
  go_enter Try.func75, Try.ntmps75
  go_wp2_with (first | ((with_reducible refine gate_callee (f := 78) rfl ?_); refine goesL_ (some 7) rfl rfl Try.func78 (by kernel_rfl) rfl #[.int .i64 a0] rfl gl ?_; (with_reducible refine (aR.calls a0 t158 t159 _ A2.out).mono ?_); rintro e w' ⟨rfl, ⟨nd, rfl⟩⟩; refine ⟨_, rfl, ?_⟩))
  go_ret
  exact ⟨by first | rfl | (simp; done) | (simp only [← hji3, ← hji5] <;> (first | rfl | (simp; done))) | (simp [*]; done) | (congr 1; (try unfold wrap64); omega) | (congr 1; rw [IntKind.wrap_u64]; omega), gd_⟩
 ·rw [if_neg c4] at H
  exact absurd H (by simp)


-- NEED 0
/-! ### aI: function 70 -/
def aI.j0 : Nat → Int → Int → Int → Int → Bool → Option (Int)
 |0, _, _, _, _, _ => none
 |k + 1, x0, x6, x8, x9, x22 => if x22 = true then (some 0) else (if x8 = 0 then (some 1) else ((bP.f x0).bind fun t165 => (if x8 < t165 then (some 2) else (if x9 = 0 then (some 3) else (if 0 ≤ (IntKind.u64.wrap (wrap64 (x6 - 1))) then (if (shr .u32 x9 (IntKind.u64.wrap (wrap64 (x6 - 1)))) = 1 then (some 4) else (some 5)) else (none))))))
def aI.f (k : Nat) (a0 a1 : Int) : Option (Int) := (aR.f a0).bind fun bt160 => ((cB.f a0 a1).bind fun bt162 => (if bt162.2.1 = 0 then (aI.j0 k a0 bt160.2 bt162.2.1 bt162.2.2 (bt162.2.2 == 0)) else (aI.j0 k a0 bt160.2 bt162.2.1 bt162.2.2 false)))
theorem aI.fU : ∀ k, (∀ y0 y1 y2 y3 y4, LeO (aI.j0 k y0 y1 y2 y3 y4) (aI.j0 (k + 1) y0 y1 y2 y3 y4))
 |0 => fun _ _ _ _ _ r h => by simp [aI.j0] at h
 |k + 1 => by
  have ih0 := aI.fU k
  ·intro y0 y1 y2 y3 y4
   unfold aI.j0
   repeat' first
   |(with_reducible first|exact ih0 _ _ _ _ _|exact LeO.refl _|exact LeO.none _|refine LeO.ite ?_ ?_|refine LeO.bind ?_ (fun _ => ?_))
   |exact ih0 _ _ _ _ _
   |exact LeO.none _
   |refine LeO.ite ?_ ?_
   |refine LeO.bind ?_ (fun _ => ?_)
theorem aI.mono : ∀ a0 a1 k, LeO (aI.f k a0 a1) (aI.f (k + 1) a0 a1) := by
 intro a0 a1 k
 have ih0 := aI.fU k
 unfold aI.f
 repeat' first
   |(with_reducible first|exact ih0 _ _ _ _ _|exact LeO.refl _|exact LeO.none _|refine LeO.ite ?_ ?_|refine LeO.bind ?_ (fun _ => ?_))
   |exact ih0 _ _ _ _ _
   |exact LeO.none _
   |refine LeO.ite ?_ ?_
   |refine LeO.bind ?_ (fun _ => ?_)
theorem aI.calls (k : Nat) (a0 a1 r : Int) (w : World) (h : aI.f k a0 a1 = some r) :
  Calls Try.prog 70 #[.int .i64 a0, .int .u32 a1] w fun e w' => e = .returned (.int .i64 r) ∧ Drawn0 w w' := by
 have H : ((aR.f a0).bind fun bt160 => ((cB.f a0 a1).bind fun bt162 => (if bt162.2.1 = 0 then (aI.j0 k a0 bt160.2 bt162.2.1 bt162.2.2 (bt162.2.2 == 0)) else (aI.j0 k a0 bt160.2 bt162.2.1 bt162.2.2 false)))) = some r := h
 clear h
 replace H := bq_ H
 obtain ⟨⟨t160, t161⟩, A30, H⟩ := H
 replace H : ((cB.f a0 a1).bind fun bt162 => (if bt162.2.1 = 0 then (aI.j0 k a0 t161 bt162.2.1 bt162.2.2 (bt162.2.2 == 0)) else (aI.j0 k a0 t161 bt162.2.1 bt162.2.2 false))) = some r := H
 have A3 := Aside0.mk A30
 clear A30
 replace H := bq_ H
 obtain ⟨⟨t162, t163, t164⟩, A40, H⟩ := H
 replace H : (if t163 = 0 then (aI.j0 k a0 t161 t163 t164 (t164 == 0)) else (aI.j0 k a0 t161 t163 t164 false)) = some r := H
 have A4 := Aside0.mk A40
 clear A40
 have HC5 := Aside0.mk H
 clear H
 go_enter Try.func70, Try.ntmps70
 go_upto_region 3 with (first | ((with_reducible refine gate_callee (f := 78) rfl ?_); refine goesL_ (some 12) rfl rfl Try.func78 (by kernel_rfl) rfl #[.int .i64 a0] rfl gl ?_; (with_reducible refine (aR.calls a0 t160 t161 _ A3.out).mono ?_); rintro e w' ⟨rfl, ⟨nd, rfl⟩⟩; refine ⟨_, rfl, ?_⟩) | ((with_reducible refine gate_callee (f := 73) rfl ?_); refine goesL_ (some 18) rfl rfl Try.func73 (by kernel_rfl) rfl #[.int .i64 a0, .int .u32 a1] rfl gl ?_; (with_reducible refine (cB.calls a0 a1 t162 t163 t164 _ A4.out).mono ?_); rintro e w' ⟨rfl, ⟨nd, rfl⟩⟩; refine ⟨_, rfl, ?_⟩))
 (try simp only [Act.put, sb, sz, ss])
 go_cut [22] (fun v22 wc => ∃ (kq : Nat) (x22_4 : Bool), v22 = .bool x22_4 ∧ Aside0 (aI.j0 kq a0 t161 t163 t164 x22_4 = some r) ∧ Aside0 (kq ≤ k) ∧ Drawn0 w wc)
 case first =>
  have H := HC5.out
  clear HC5
  by_cases c6 : t163 = 0
  ·rw [if_pos c6] at H
   have c6b0 : (t163 == 0) = true := beq_iff_eq.mpr c6
   have c6b1 : (t163 != 0) = false := bne_eq_false_iff_eq.mpr c6
   clear c6
   (first | rw [c6b0] | (simp only [i64_w, i32_w]; rw [c6b0]) | skip)
   have H' := Aside0.mk H
   clear H
   go_wp2
   go_meet
   case rel => exact ⟨_, ((t164 == 0)), (gr_), H', ⟨by first | omega | exact Nat.le_refl _⟩, gd_⟩
  ·rw [if_neg c6] at H
   have c6b0 : (t163 == 0) = false := beq_eq_false_iff_ne.mpr c6
   have c6b1 : (t163 != 0) = true := bne_iff_ne.mpr c6
   (first | rw [c6b0] | (simp only [i64_w, i32_w]; rw [c6b0]) | skip)
   have H' := Aside0.mk H
   clear H
   go_wp2
   go_meet
   case rel => exact ⟨_, (false), (gr_), H', ⟨by first | omega | exact Nat.le_refl _⟩, gd_⟩
 case rest =>
  clear HC5
  try clear p2 c6 c6b0 c6b1 p6
  obtain ⟨kq, x22_4, rfl, HA, HJ4, ⟨mc4, rfl⟩⟩ := hcut
  cases kq with
  |zero => exact absurd HA.out (by simp [aI.j0])
  |succ kj4 =>
   have H := HA.out
   clear HA
   simp only [aI.j0] at H
   by_cases c7 : x22_4 = true
   ·subst c7
    have H1 : (some 0) = some r := by rw [if_pos rfl] at H; exact H
    clear H
    have H := H1
    clear H1
    obtain rfl := Option.some.inj H
    go_wp2
    go_ret
    exact ⟨gr_, gd_⟩
   ·replace c7 := Bool.eq_false_iff.mpr c7
    subst c7
    have H1 : (if t163 = 0 then (some 1) else ((bP.f a0).bind fun t165 => (if t163 < t165 then (some 2) else (if t164 = 0 then (some 3) else (if 0 ≤ (IntKind.u64.wrap (wrap64 (t161 - 1))) then (if (shr .u32 t164 (IntKind.u64.wrap (wrap64 (t161 - 1)))) = 1 then (some 4) else (some 5)) else (none)))))) = some r := by rw [if_neg (show ¬ (false = true) by decide)] at H; exact H
    clear H
    have H := H1
    clear H1
    by_cases c8 : t163 = 0
    ·rw [if_pos c8] at H
     have c8b0 : (t163 == 0) = true := beq_iff_eq.mpr c8
     have c8b1 : (t163 != 0) = false := bne_eq_false_iff_eq.mpr c8
     clear c8
     obtain rfl := Option.some.inj H
     go_wp2
     go_ret
     exact ⟨gr_, gd_⟩
    ·rw [if_neg c8] at H
     have c8b0 : (t163 == 0) = false := beq_eq_false_iff_ne.mpr c8
     have c8b1 : (t163 != 0) = true := bne_iff_ne.mpr c8
     replace H := bq_ H
     obtain ⟨t165, A90, H⟩ := H
     replace H : (if t163 < t165 then (some 2) else (if t164 = 0 then (some 3) else (if 0 ≤ (IntKind.u64.wrap (wrap64 (t161 - 1))) then (if (shr .u32 t164 (IntKind.u64.wrap (wrap64 (t161 - 1)))) = 1 then (some 4) else (some 5)) else (none)))) = some r := H
     have A9 := Aside0.mk A90
     clear A90
     by_cases c10 : t163 < t165
     ·rw [if_pos c10] at H
      have c10b0 : decide (t163 < t165) = true := decide_eq_true c10
      clear c10
      obtain rfl := Option.some.inj H
      go_wp2_with (first | ((with_reducible refine gate_callee (f := 75) rfl ?_); refine goesL_ (some 35) rfl rfl Try.func75 (by kernel_rfl) rfl #[.int .i64 a0] rfl gl ?_; (with_reducible refine (bP.calls a0 t165 _ A9.out).mono ?_); rintro e w' ⟨rfl, ⟨nd, rfl⟩⟩; refine ⟨_, rfl, ?_⟩))
      go_ret
      exact ⟨gr_, gd_⟩
     ·rw [if_neg c10] at H
      have c10b0 : decide (t163 < t165) = false := decide_eq_false c10
      clear c10
      by_cases c11 : t164 = 0
      ·rw [if_pos c11] at H
       have c11b0 : (t164 == 0) = true := beq_iff_eq.mpr c11
       have c11b1 : (t164 != 0) = false := bne_eq_false_iff_eq.mpr c11
       clear c11
       obtain rfl := Option.some.inj H
       go_wp2_with (first | ((with_reducible refine gate_callee (f := 75) rfl ?_); refine goesL_ (some 35) rfl rfl Try.func75 (by kernel_rfl) rfl #[.int .i64 a0] rfl gl ?_; (with_reducible refine (bP.calls a0 t165 _ A9.out).mono ?_); rintro e w' ⟨rfl, ⟨nd, rfl⟩⟩; refine ⟨_, rfl, ?_⟩))
       go_ret
       exact ⟨gr_, gd_⟩
      ·rw [if_neg c11] at H
       have c11b0 : (t164 == 0) = false := beq_eq_false_iff_ne.mpr c11
       have c11b1 : (t164 != 0) = true := bne_iff_ne.mpr c11
       obtain ⟨ji12, hji12⟩ : ∃ j_ : Int, (IntKind.u64.wrap (wrap64 (t161 - 1))) = j_ := ⟨_, rfl⟩
       replace H : (if 0 ≤ (ji12) then (if (shr .u32 t164 (ji12)) = 1 then (some 4) else (some 5)) else (none)) = some r := by first | (rw [hji12] at H; exact H) | (simp only [hji12] at H ⊢; exact H)
       (try rw [hji12] at A9)
       by_cases c13 : 0 ≤ (ji12)
       ·rw [if_pos c13] at H
        have c13b0 := eq_true c13
        have c13b1 : decide (0 ≤ (ji12)) = true := decide_eq_true c13
        clear c13
        obtain ⟨ji14, hji14⟩ : ∃ j_ : Int, (shr .u32 t164 (ji12)) = j_ := ⟨_, rfl⟩
        replace H : (if (ji14) = 1 then (some 4) else (some 5)) = some r := by first | (rw [hji14] at H; exact H) | (simp only [hji14] at H ⊢; exact H)
        (try rw [hji14] at A9)
        have hji14_ : (t164 / 2 ^ min (ji12).toNat 32) = ji14 := hji14
        have hji14z : (ji12) ≤ 32 → (t164 / 2 ^ (ji12).toNat) = ji14 := shr_small hji14
        by_cases c15 : (ji14) = 1
        ·rw [if_pos c15] at H
         have c15b0 : ((ji14) == 1) = true := beq_iff_eq.mpr c15
         have c15b1 : ((ji14) != 1) = false := bne_eq_false_iff_eq.mpr c15
         clear c15
         obtain rfl := Option.some.inj H
         go_wp2_with (first | ((with_reducible refine gate_callee (f := 75) rfl ?_); refine goesL_ (some 35) rfl rfl Try.func75 (by kernel_rfl) rfl #[.int .i64 a0] rfl gl ?_; (with_reducible refine (bP.calls a0 t165 _ A9.out).mono ?_); rintro e w' ⟨rfl, ⟨nd, rfl⟩⟩; refine ⟨_, rfl, ?_⟩))
         go_ret
         exact ⟨by first | rfl | (simp; done) | (simp only [← hji12, ← hji14] <;> (first | rfl | (simp; done))) | (simp [*]; done) | (congr 1; (try unfold wrap64); omega) | (congr 1; rw [IntKind.wrap_u64]; omega), gd_⟩
        ·rw [if_neg c15] at H
         have c15b0 : ((ji14) == 1) = false := beq_eq_false_iff_ne.mpr c15
         have c15b1 : ((ji14) != 1) = true := bne_iff_ne.mpr c15
         obtain rfl := Option.some.inj H
         go_wp2_with (first | ((with_reducible refine gate_callee (f := 75) rfl ?_); refine goesL_ (some 35) rfl rfl Try.func75 (by kernel_rfl) rfl #[.int .i64 a0] rfl gl ?_; (with_reducible refine (bP.calls a0 t165 _ A9.out).mono ?_); rintro e w' ⟨rfl, ⟨nd, rfl⟩⟩; refine ⟨_, rfl, ?_⟩))
         go_ret
         exact ⟨by first | rfl | (simp; done) | (simp only [← hji12, ← hji14] <;> (first | rfl | (simp; done))) | (simp [*]; done) | (congr 1; (try unfold wrap64); omega) | (congr 1; rw [IntKind.wrap_u64]; omega), gd_⟩
       ·rw [if_neg c13] at H
        exact absurd H (by simp)

-- NEED 0
/-! ### aZ: function 74 -/
def aZ.f (a0 : Int) (a1 : Bool) (a2 a3 : Int) : Option (Int) := (aR.f a0).bind fun bt166 => (if 0 ≤ (IntKind.u64.wrap (bt166.2)) then (if a1 = true then (if 0 ≤ (IntKind.u64.wrap (wrap64 (bt166.1 + bt166.2))) then (some (Go.bits .or .u32 (Go.bits .or .u32 (shl .u32 ((a2) % 4294967296) (IntKind.u64.wrap (bt166.2))) a3) (shl .u32 1 (IntKind.u64.wrap (wrap64 (bt166.1 + bt166.2)))))) else (none)) else (some (Go.bits .or .u32 (shl .u32 ((a2) % 4294967296) (IntKind.u64.wrap (bt166.2))) a3))) else (none))
theorem aZ.calls (a0 : Int) (a1 : Bool) (a2 a3 r : Int) (w : World) (h : aZ.f a0 a1 a2 a3 = some r) :
  Calls Try.prog 74 #[.int .i64 a0, .bool a1, .int .i64 a2, .int .u32 a3] w fun e w' => e = .returned (.int .u32 r) ∧ Drawn0 w w' := by
 have H : ((aR.f a0).bind fun bt166 => (if 0 ≤ (IntKind.u64.wrap (bt166.2)) then (if a1 = true then (if 0 ≤ (IntKind.u64.wrap (wrap64 (bt166.1 + bt166.2))) then (some (Go.bits .or .u32 (Go.bits .or .u32 (shl .u32 ((a2) % 4294967296) (IntKind.u64.wrap (bt166.2))) a3) (shl .u32 1 (IntKind.u64.wrap (wrap64 (bt166.1 + bt166.2)))))) else (none)) else (some (Go.bits .or .u32 (shl .u32 ((a2) % 4294967296) (IntKind.u64.wrap (bt166.2))) a3))) else (none))) = some r := h
 clear h
 replace H := bq_ H
 obtain ⟨⟨t166, t167⟩, A50, H⟩ := H
 replace H : (if 0 ≤ (IntKind.u64.wrap (t167)) then (if a1 = true then (if 0 ≤ (IntKind.u64.wrap (wrap64 (t166 + t167))) then (some (Go.bits .or .u32 (Go.bits .or .u32 (shl .u32 ((a2) % 4294967296) (IntKind.u64.wrap (t167))) a3) (shl .u32 1 (IntKind.u64.wrap (wrap64 (t166 + t167)))))) else (none)) else (some (Go.bits .or .u32 (shl .u32 ((a2) % 4294967296) (IntKind.u64.wrap (t167))) a3))) else (none)) = some r := H
 have A5 := Aside0.mk A50
 clear A50
 obtain ⟨ji6, hji6⟩ : ∃ j_ : Int, (IntKind.u64.wrap (t167)) = j_ := ⟨_, rfl⟩
 replace H : (if 0 ≤ (ji6) then (if a1 = true then (if 0 ≤ (IntKind.u64.wrap (wrap64 (t166 + t167))) then (some (Go.bits .or .u32 (Go.bits .or .u32 (shl .u32 ((a2) % 4294967296) (ji6)) a3) (shl .u32 1 (IntKind.u64.wrap (wrap64 (t166 + t167)))))) else (none)) else (some (Go.bits .or .u32 (shl .u32 ((a2) % 4294967296) (ji6)) a3))) else (none)) = some r := by first | (rw [hji6] at H; exact H) | (simp only [hji6] at H ⊢; exact H)
 (try rw [hji6] at A5)
 by_cases c7 : 0 ≤ (ji6)
 ·rw [if_pos c7] at H
  have c7b0 := eq_true c7
  have c7b1 : decide (0 ≤ (ji6)) = true := decide_eq_true c7
  clear c7
  obtain ⟨ji8, hji8⟩ : ∃ j_ : Int, (shl .u32 ((a2) % 4294967296) (ji6)) = j_ := ⟨_, rfl⟩
  replace H : (if a1 = true then (if 0 ≤ (IntKind.u64.wrap (wrap64 (t166 + t167))) then (some (Go.bits .or .u32 (Go.bits .or .u32 (ji8) a3) (shl .u32 1 (IntKind.u64.wrap (wrap64 (t166 + t167)))))) else (none)) else (some (Go.bits .or .u32 (ji8) a3))) = some r := by first | (rw [hji8] at H; exact H) | (simp only [hji8] at H ⊢; exact H)
  (try rw [hji8] at A5)
  have hji8_ : (IntKind.u32.wrap (((a2) % 4294967296) * 2 ^ min (ji6).toNat 32)) = ji8 := hji8
  have hji8z : (ji6) ≤ 32 → (IntKind.u32.wrap (((a2) % 4294967296) * 2 ^ (ji6).toNat)) = ji8 := shl_small hji8
  by_cases c9 : a1 = true
  ·subst c9
   have H1 : (if 0 ≤ (IntKind.u64.wrap (wrap64 (t166 + t167))) then (some (Go.bits .or .u32 (Go.bits .or .u32 (ji8) a3) (shl .u32 1 (IntKind.u64.wrap (wrap64 (t166 + t167)))))) else (none)) = some r := by rw [if_pos rfl] at H; exact H
   clear H
   have H := H1
   clear H1
   obtain ⟨ji10, hji10⟩ : ∃ j_ : Int, (IntKind.u64.wrap (wrap64 (t166 + t167))) = j_ := ⟨_, rfl⟩
   replace H : (if 0 ≤ (ji10) then (some (Go.bits .or .u32 (Go.bits .or .u32 (ji8) a3) (shl .u32 1 (ji10)))) else (none)) = some r := by first | (rw [hji10] at H; exact H) | (simp only [hji10] at H ⊢; exact H)
   (try rw [hji10] at A5)
   by_cases c11 : 0 ≤ (ji10)
   ·rw [if_pos c11] at H
    have c11b0 := eq_true c11
    have c11b1 : decide (0 ≤ (ji10)) = true := decide_eq_true c11
    clear c11
    obtain ⟨ji12, hji12⟩ : ∃ j_ : Int, (shl .u32 1 (ji10)) = j_ := ⟨_, rfl⟩
    replace H : (some (Go.bits .or .u32 (Go.bits .or .u32 (ji8) a3) (ji12))) = some r := by first | (rw [hji12] at H; exact H) | (simp only [hji12] at H ⊢; exact H)
    (try rw [hji12] at A5)
    have hji12_ : (IntKind.u32.wrap (1 * 2 ^ min (ji10).toNat 32)) = ji12 := hji12
    have hji12z : (ji10) ≤ 32 → (IntKind.u32.wrap (1 * 2 ^ (ji10).toNat)) = ji12 := shl_small hji12
    have hji12u : (IntKind.u32.wrap (2 ^ min (ji10).toNat 32)) = ji12 := by have h_ := hji12_; rw [Int.one_mul] at h_; exact h_
    have hji12v : (ji10) ≤ 32 → (IntKind.u32.wrap (2 ^ (ji10).toNat)) = ji12 := fun hle_ => by have h_ := hji12z hle_; rw [Int.one_mul] at h_; exact h_
    obtain rfl := Option.some.inj H
    go_enter Try.func74, Try.ntmps74
    go_wp2_with (first | ((with_reducible refine gate_callee (f := 78) rfl ?_); refine goesL_ (some 14) rfl rfl Try.func78 (by kernel_rfl) rfl #[.int .i64 a0] rfl gl ?_; (with_reducible refine (aR.calls a0 t166 t167 _ A5.out).mono ?_); rintro e w' ⟨rfl, ⟨nd, rfl⟩⟩; refine ⟨_, rfl, ?_⟩))
    go_ret
    exact ⟨by first | rfl | (simp; done) | (simp only [← hji6, ← hji8, ← hji10, ← hji12] <;> (first | rfl | (simp; done))) | (simp [*]; done) | (congr 1; (try unfold wrap64); omega) | (congr 1; rw [IntKind.wrap_u64]; omega), gd_⟩
   ·rw [if_neg c11] at H
    exact absurd H (by simp)
  ·replace c9 := Bool.eq_false_iff.mpr c9
   subst c9
   have H1 : (some (Go.bits .or .u32 (ji8) a3)) = some r := by rw [if_neg (show ¬ (false = true) by decide)] at H; exact H
   clear H
   have H := H1
   clear H1
   obtain rfl := Option.some.inj H
   go_enter Try.func74, Try.ntmps74
   go_wp2_with (first | ((with_reducible refine gate_callee (f := 78) rfl ?_); refine goesL_ (some 14) rfl rfl Try.func78 (by kernel_rfl) rfl #[.int .i64 a0] rfl gl ?_; (with_reducible refine (aR.calls a0 t166 t167 _ A5.out).mono ?_); rintro e w' ⟨rfl, ⟨nd, rfl⟩⟩; refine ⟨_, rfl, ?_⟩))
   go_ret
   exact ⟨by first | rfl | (simp; done) | (simp only [← hji6, ← hji8] <;> (first | rfl | (simp; done))) | (simp [*]; done) | (congr 1; (try unfold wrap64); omega) | (congr 1; rw [IntKind.wrap_u64]; omega), gd_⟩
 ·rw [if_neg c7] at H
  exact absurd H (by simp)

-- NEED 0
/-! ### eU: function 71 -/
def eU.f (a0 : Int) : Option (Int) := (aR.f a0).bind fun bt168 => ((bP.f a0).bind fun t170 => (if 0 ≤ (IntKind.u64.wrap (wrap64 (bt168.2 - 1))) then ((aZ.f a0 false t170 (shl .u32 1 (IntKind.u64.wrap (wrap64 (bt168.2 - 1))))).bind fun t171 => (some t171)) else (none)))
theorem eU.calls (a0 r : Int) (w : World) (h : eU.f a0 = some r) :
  Calls Try.prog 71 #[.int .i64 a0] w fun e w' => e = .returned (.int .u32 r) ∧ Drawn0 w w' := by
 have H : ((aR.f a0).bind fun bt168 => ((bP.f a0).bind fun t170 => (if 0 ≤ (IntKind.u64.wrap (wrap64 (bt168.2 - 1))) then ((aZ.f a0 false t170 (shl .u32 1 (IntKind.u64.wrap (wrap64 (bt168.2 - 1))))).bind fun t171 => (some t171)) else (none)))) = some r := h
 clear h
 replace H := bq_ H
 obtain ⟨⟨t168, t169⟩, A20, H⟩ := H
 replace H : ((bP.f a0).bind fun t170 => (if 0 ≤ (IntKind.u64.wrap (wrap64 (t169 - 1))) then ((aZ.f a0 false t170 (shl .u32 1 (IntKind.u64.wrap (wrap64 (t169 - 1))))).bind fun t171 => (some t171)) else (none))) = some r := H
 have A2 := Aside0.mk A20
 clear A20
 replace H := bq_ H
 obtain ⟨t170, A30, H⟩ := H
 replace H : (if 0 ≤ (IntKind.u64.wrap (wrap64 (t169 - 1))) then ((aZ.f a0 false t170 (shl .u32 1 (IntKind.u64.wrap (wrap64 (t169 - 1))))).bind fun t171 => (some t171)) else (none)) = some r := H
 have A3 := Aside0.mk A30
 clear A30
 obtain ⟨ji4, hji4⟩ : ∃ j_ : Int, (IntKind.u64.wrap (wrap64 (t169 - 1))) = j_ := ⟨_, rfl⟩
 replace H : (if 0 ≤ (ji4) then ((aZ.f a0 false t170 (shl .u32 1 (ji4))).bind fun t171 => (some t171)) else (none)) = some r := by first | (rw [hji4] at H; exact H) | (simp only [hji4] at H ⊢; exact H)
 (try rw [hji4] at A2)
 (try rw [hji4] at A3)
 by_cases c5 : 0 ≤ (ji4)
 ·rw [if_pos c5] at H
  have c5b0 := eq_true c5
  have c5b1 : decide (0 ≤ (ji4)) = true := decide_eq_true c5
  clear c5
  obtain ⟨ji6, hji6⟩ : ∃ j_ : Int, (shl .u32 1 (ji4)) = j_ := ⟨_, rfl⟩
  replace H : ((aZ.f a0 false t170 (ji6)).bind fun t171 => (some t171)) = some r := by first | (rw [hji6] at H; exact H) | (simp only [hji6] at H ⊢; exact H)
  (try rw [hji6] at A2)
  (try rw [hji6] at A3)
  have hji6_ : (IntKind.u32.wrap (1 * 2 ^ min (ji4).toNat 32)) = ji6 := hji6
  have hji6z : (ji4) ≤ 32 → (IntKind.u32.wrap (1 * 2 ^ (ji4).toNat)) = ji6 := shl_small hji6
  have hji6u : (IntKind.u32.wrap (2 ^ min (ji4).toNat 32)) = ji6 := by have h_ := hji6_; rw [Int.one_mul] at h_; exact h_
  have hji6v : (ji4) ≤ 32 → (IntKind.u32.wrap (2 ^ (ji4).toNat)) = ji6 := fun hle_ => by have h_ := hji6z hle_; rw [Int.one_mul] at h_; exact h_
  replace H := bq_ H
  obtain ⟨t171, A70, H⟩ := H
  replace H : (some t171) = some r := H
  have A7 := Aside0.mk A70
  clear A70
  obtain rfl := Option.some.inj H
  go_enter Try.func71, Try.ntmps71
  go_wp2_with (first | ((with_reducible refine gate_callee (f := 78) rfl ?_); refine goesL_ (some 7) rfl rfl Try.func78 (by kernel_rfl) rfl #[.int .i64 a0] rfl gl ?_; (with_reducible refine (aR.calls a0 t168 t169 _ A2.out).mono ?_); rintro e w' ⟨rfl, ⟨nd, rfl⟩⟩; refine ⟨_, rfl, ?_⟩) | ((with_reducible refine gate_callee (f := 75) rfl ?_); refine goesL_ (some 12) rfl rfl Try.func75 (by kernel_rfl) rfl #[.int .i64 a0] rfl gl ?_; (with_reducible refine (bP.calls a0 t170 _ A3.out).mono ?_); rintro e w' ⟨rfl, ⟨nd, rfl⟩⟩; refine ⟨_, rfl, ?_⟩) | ((with_reducible refine gate_callee (f := 74) rfl ?_); refine goesL_ (some 17) rfl rfl Try.func74 (by kernel_rfl) rfl #[.int .i64 a0, .bool false, .int .i64 t170, .int .u32 ji6] rfl (by (try simp only [List.map_toArray, List.map_cons, List.map_nil]); first | done | (simp only [hji6]; rfl) | rfl | (simp only [List.length_drop, List.length_take]; rfl)) ?_; (with_reducible refine (aZ.calls a0 false t170 ji6 t171 _ A7.out).mono ?_); rintro e w' ⟨rfl, ⟨nd, rfl⟩⟩; refine ⟨_, rfl, ?_⟩))
  go_ret
  exact ⟨by first | rfl | (simp; done) | (simp only [← hji4, ← hji6] <;> (first | rfl | (simp; done))) | (simp [*]; done) | (congr 1; (try unfold wrap64); omega) | (congr 1; rw [IntKind.wrap_u64]; omega), gd_⟩
 ·rw [if_neg c5] at H
  exact absurd H (by simp)


-- NEED 0
/-! ### aQ: function 49 -/
def aQ.l0 : Nat → Int → Bool → List Int → Int → Int → Bool → Bool → Bool → Bool → Bool → Option (Int × Bool × Bool × Bool × Bool × Bool × Bool)
 |0, _, _, _, _, _, _, _, _, _, _ => none
 |k + 1, x0, x7, x12, x13, x14, x174000, x174001, x174002, x174003, x174004 => if x14 < x13 then (if 0 ≤ x14 then (if x14 < (x12.length : Int) then ((aI.f k x0 (rd x12 x14)).bind fun t175 => (if x7 = true then (if x174000 = true then (aQ.l0 k x0 true x12 x13 (wrap64 (x14 + 1)) true x174001 x174002 x174003 x174004) else (aQ.l0 k x0 true x12 x13 (wrap64 (x14 + 1)) (t175 == 5) x174001 x174002 x174003 x174004)) else (if x174000 = true then (aQ.l0 k x0 (decide (t175 ≥ 4)) x12 x13 (wrap64 (x14 + 1)) true x174001 x174002 x174003 x174004) else (aQ.l0 k x0 (decide (t175 ≥ 4)) x12 x13 (wrap64 (x14 + 1)) (t175 == 5) x174001 x174002 x174003 x174004)))) else (none)) else (none)) else ((eU.f x0).bind fun t176 => (some (t176, x174000, x174001, x174002, x174003, x174004, x7)))
def aQ.f (k : Nat) (a0 : Int) (l1 : List Int) : Option (Int × Bool × Bool × Bool × Bool × Bool × Bool) := aQ.l0 k a0 false l1 (l1.length : Int) 0 false false false false false
theorem aQ.fU : ∀ k, (∀ y0 y1 y2 y3 y4 y5 y6 y7 y8 y9, LeO (aQ.l0 k y0 y1 y2 y3 y4 y5 y6 y7 y8 y9) (aQ.l0 (k + 1) y0 y1 y2 y3 y4 y5 y6 y7 y8 y9))
 |0 => fun _ _ _ _ _ _ _ _ _ _ r h => by simp [aQ.l0] at h
 |k + 1 => by
  have ih0 := aQ.fU k
  ·intro y0 y1 y2 y3 y4 y5 y6 y7 y8 y9
   unfold aQ.l0
   repeat' first
   |(with_reducible first|exact ih0 _ _ _ _ _ _ _ _ _ _|exact aI.mono _ _ _|exact LeO.refl _|exact LeO.none _|refine LeO.ite ?_ ?_|refine LeO.bind ?_ (fun _ => ?_))
   |exact ih0 _ _ _ _ _ _ _ _ _ _
   |exact aI.mono _ _ _
   |exact LeO.none _
   |refine LeO.ite ?_ ?_
   |refine LeO.bind ?_ (fun _ => ?_)
theorem aQ.mono : ∀ a0 a1 k, LeO (aQ.f k a0 a1) (aQ.f (k + 1) a0 a1) := by
 intro a0 a1 k
 have ih0 := aQ.fU k
 unfold aQ.f
 repeat' first
   |(with_reducible first|exact ih0 _ _ _ _ _ _ _ _ _ _|exact aI.mono _ _ _|exact LeO.refl _|exact LeO.none _|refine LeO.ite ?_ ?_|refine LeO.bind ?_ (fun _ => ?_))
   |exact ih0 _ _ _ _ _ _ _ _ _ _
   |exact aI.mono _ _ _
   |exact LeO.none _
   |refine LeO.ite ?_ ?_
   |refine LeO.bind ?_ (fun _ => ?_)
theorem aQ.calls (k : Nat) (a0 : Int) (A1 : Option Addr) (c1 : Nat) (l1 : List Int) (r1 : Int) (r2 r3 : Bool) (r4 r5 : Bool) (r6 r7 : Bool) (w : World) (hr1 : Kd.C (Kd.int .u32) w A1 l1.length l1) (hc1 : l1.length ≤ c1) (h : aQ.f k a0 l1 = some (r1, r2, r3, r4, r5, r6, r7)) :
  Calls Try.prog 49 #[.int .i64 a0, .slice A1 l1.length c1] w fun e w' => e = .returned (.tuple #[.int .u32 r1, .agg #[.bool r2, .bool r3, .bool r4, .bool r5, .bool r6], .bool r7]) ∧ Below w.heap.size w w' := by
 have hu60 := Try.underlying60
 have HR1 := Aside0.mk hr1
 have HC1 := Aside0.mk hc1
 clear hr1 hc1
 have HB := Aside0.mk (Below.refl w.heap.size w)
 have H : (aQ.l0 k a0 false l1 (l1.length : Int) 0 false false false false false) = some (r1, r2, r3, r4, r5, r6, r7) := h
 clear h
 have H' := Aside0.mk H
 clear H
 go_enter Try.func49, Try.ntmps49
 go_wp2_with (first | ((with_reducible refine gate_dst (N := 5) rfl ?_); refine box_event ?hg (N := 5) ?hd (cs := F5) (t := 60) ?hr ?_; (case hd => rfl); (case hg => rfl); (case hr => first | (go_simp; done) | (go_simp; rfl)); intro gb172 hg w3 hbox hb; have n0_ := Aside0.mk (below_step (bl0 HB.out) hb); have n1_ := Aside0.mk (hbox); have n2_ := Aside0.mk ((by rw [hg]; exact (below_size (bl0 HB.out)) : w.heap.size ≤ gb172)); have n3_ := n2_; clear HB; have HB := n0_; have BK172 := n1_; have GW172 := n2_; have GE172 := n3_; clear n0_ n1_ n2_ n3_; clear hb hbox hg) | ((with_reducible refine gate_dst (N := 8) rfl ?_); refine box_event ?hg (N := 8) ?hd (cs := F5) (t := 60) ?hr ?_; (case hd => rfl); (case hg => rfl); (case hr => first | (go_simp; done) | (go_simp; rfl)); intro gb173 hg w4 hbox hb; have n0_ := Aside0.mk (blk_below (g := gb172) (o := o5_ false false false false false 60) (bv BK172.out) hb); have n1_ := Aside0.mk (below_step (bl1 HB.out GE172.out) hb); have n2_ := Aside0.mk (hbox); have n3_ := Aside0.mk ((by rw [hg]; exact (below_size (bl1 HB.out GE172.out)) : w.heap.size ≤ gb173)); have n4_ := n3_; have n5_ := Aside0.mk ((by rw [hg]; exact Nat.ne_of_lt (blk_lt (g := gb172) (o := .cells F5 60 (0, 0)) (bv BK172.out)) : gb172 ≠ gb173)); have n6_ := Aside0.mk (Ne.symm n5_.out); clear BK172; clear HB; have BK172 := n0_; have HB := n1_; have BK173 := n2_; have GW173 := n3_; have GE173 := n4_; have NB172_173 := n5_; have NB173_172 := n6_; clear n0_ n1_ n2_ n3_ n4_ n5_ n6_; clear hb hbox hg))
 go_loopg [7, 14] k (fun kq v7 v14 w' => ∃ (x7_1 : Bool) (x14_1 : Int) (x174000_1 : Bool), v7 = .bool x7_1 ∧ v14 = .int .i64 x14_1 ∧ Aside0 (aQ.l0 kq a0 x7_1 l1 (l1.length : Int) x14_1 x174000_1 false false false false = some (r1, r2, r3, r4, r5, r6, r7)) ∧ Aside0 (kq ≤ k) ∧ Aside0 (w'.heap[gb172]? = some (o5_ false false false false false 60)) ∧ Aside0 (w'.heap[gb173]? = some (o5_ x174000_1 false false false false 60)) ∧ Aside0 (Below w.heap.size w w'))
 case atStart => exact ⟨(false), (0), (false), (gr_), (gr_), H', ⟨Nat.le_refl _⟩, ⟨by (with_reducible repeat first | apply bd | apply be | apply ba); exact BK172.out⟩, ⟨by (with_reducible repeat first | apply bd | apply be | apply ba); exact BK173.out⟩, ⟨bl2 HB.out GE172.out GE173.out⟩⟩
 case round =>
  clear H'
  try clear c1 p2 c4
  obtain ⟨x7_1, x14_1, x174000_1, rfl, rfl, HA, HK1, BK172, BK173, HB⟩ := hrel
  cases gk with
  |zero => exact absurd HA.out (by simp [aQ.l0])
  |succ k1 =>
   have H := HA.out
   clear HA
   simp only [aQ.l0] at H
   by_cases c5 : x14_1 < (l1.length : Int)
   ·rw [if_pos c5] at H
    have c5b0 : decide (x14_1 < (l1.length : Int)) = true := decide_eq_true c5
    clear c5
    by_cases c6 : 0 ≤ x14_1
    ·rw [if_pos c6] at H
     have c6b0 : decide (0 ≤ x14_1) = true := decide_eq_true c6
     clear c6
     by_cases c7 : x14_1 < (l1.length : Int)
     ·rw [if_pos c7] at H
      have c7b0 : decide (x14_1 < (l1.length : Int)) = true := decide_eq_true c7
      clear c7
      replace H := bq_ H
      obtain ⟨t175, A80, H⟩ := H
      replace H : (if x7_1 = true then (if x174000_1 = true then (aQ.l0 k1 a0 true l1 (l1.length : Int) (wrap64 (x14_1 + 1)) true false false false false) else (aQ.l0 k1 a0 true l1 (l1.length : Int) (wrap64 (x14_1 + 1)) (t175 == 5) false false false false)) else (if x174000_1 = true then (aQ.l0 k1 a0 (decide (t175 ≥ 4)) l1 (l1.length : Int) (wrap64 (x14_1 + 1)) true false false false false) else (aQ.l0 k1 a0 (decide (t175 ≥ 4)) l1 (l1.length : Int) (wrap64 (x14_1 + 1)) (t175 == 5) false false false false))) = some (r1, r2, r3, r4, r5, r6, r7) := H
      have A8 := Aside0.mk A80
      clear A80
      by_cases c9 : x7_1 = true
      ·subst c9
       have H1 : (if x174000_1 = true then (aQ.l0 k1 a0 true l1 (l1.length : Int) (wrap64 (x14_1 + 1)) true false false false false) else (aQ.l0 k1 a0 true l1 (l1.length : Int) (wrap64 (x14_1 + 1)) (t175 == 5) false false false false)) = some (r1, r2, r3, r4, r5, r6, r7) := by rw [if_pos rfl] at H; exact H
       clear H
       have H := H1
       clear H1
       by_cases c10 : x174000_1 = true
       ·subst c10
        have H1 : (aQ.l0 k1 a0 true l1 (l1.length : Int) (wrap64 (x14_1 + 1)) true false false false false) = some (r1, r2, r3, r4, r5, r6, r7) := by rw [if_pos rfl] at H; exact H
        clear H
        have H := H1
        clear H1
        have H' := Aside0.mk H
        clear H
        have p174 : 0 ≤ (x14_1 : Int) := of_decide_eq_true (by first | (with_reducible assumption) | assumption)
        have q174 : x14_1 < (l1.length : Int) := of_decide_eq_true (by first | (with_reducible assumption) | assumption)
        obtain ⟨ad174, e174, hx174_0⟩ := Kd.at_int HR1.out x14_1 p174 q174
        cases e174
        replace hx174_0 := (HB.out.cell (World.block_lt_of_cell? w _ hx174_0)).trans hx174_0
        replace p174 := eq_true p174
        replace q174 := eq_true q174
        go_wp2_with (first | ((with_reducible refine gate_callee (f := 70) rfl ?_); refine goesL_ (some 20) rfl rfl Try.func70 (by kernel_rfl) rfl #[.int .i64 a0, .int .u32 (rd l1 x14_1)] rfl gl ?_; (with_reducible refine (aI.calls k1 a0 (rd l1 x14_1) t175 _ A8.out).mono ?_); rintro e w' ⟨rfl, ⟨nd, rfl⟩⟩; refine ⟨_, rfl, ?_⟩; (try (rw [drewN_self wr]; generalize hq_ : World.drewN wr _ = wr; have n0_ : Aside0 (wr.heap[gb172]? = some (o5_ false false false false false 60)) := ⟨by rw [← hq_]; exact (bv BK172.out)⟩; have n1_ : Aside0 (wr.heap[gb173]? = some (o5_ true false false false false 60)) := ⟨by rw [← hq_]; exact (bv BK173.out)⟩; have n2_ : Aside0 (Below w.heap.size w wr) := ⟨by rw [← hq_]; exact (bl2 HB.out GE172.out GE173.out)⟩; clear BK172 BK173 HB hq_; have BK172 := n0_; have BK173 := n1_; have HB := n2_; clear n0_ n1_ n2_)); have hnb11 := NB173_172.out; have hnc11 := NB172_173.out; obtain ⟨hcz12_0, hcz12_1, hcz12_2, hcz12_3, hcz12_4⟩ := bc5 BK173.out; obtain ⟨hfz12_0, hfz12_1, hfz12_2, hfz12_3, hfz12_4⟩ := bf5 BK173.out))
        go_roundg k1
        case measure => have := HK1.out; omega
        case rel => exact ⟨(true), (wrap64 (x14_1 + 1)), (true), (gr_), (gr_), H', ⟨by have := HK1.out; omega⟩, ⟨by (with_reducible repeat first | apply bd | apply be | apply ba); refine blk_far ?_ NB172_173.out _; (with_reducible repeat first | apply bd | apply be | apply ba); exact BK172.out⟩, ⟨by (with_reducible repeat first | apply bd | apply be | apply ba); refine blk_put (cs := q5_ true false false false false) ?_ 0 _ rfl; (with_reducible repeat first | apply bd | apply be | apply ba); exact BK173.out⟩, ⟨bl2 HB.out GE172.out GE173.out⟩⟩
       ·replace c10 := Bool.eq_false_iff.mpr c10
        subst c10
        have H1 : (aQ.l0 k1 a0 true l1 (l1.length : Int) (wrap64 (x14_1 + 1)) (t175 == 5) false false false false) = some (r1, r2, r3, r4, r5, r6, r7) := by rw [if_neg (show ¬ (false = true) by decide)] at H; exact H
        clear H
        have H := H1
        clear H1
        have H' := Aside0.mk H
        clear H
        have p174 : 0 ≤ (x14_1 : Int) := of_decide_eq_true (by first | (with_reducible assumption) | assumption)
        have q174 : x14_1 < (l1.length : Int) := of_decide_eq_true (by first | (with_reducible assumption) | assumption)
        obtain ⟨ad174, e174, hx174_0⟩ := Kd.at_int HR1.out x14_1 p174 q174
        cases e174
        replace hx174_0 := (HB.out.cell (World.block_lt_of_cell? w _ hx174_0)).trans hx174_0
        replace p174 := eq_true p174
        replace q174 := eq_true q174
        go_wp2_with (first | ((with_reducible refine gate_callee (f := 70) rfl ?_); refine goesL_ (some 20) rfl rfl Try.func70 (by kernel_rfl) rfl #[.int .i64 a0, .int .u32 (rd l1 x14_1)] rfl gl ?_; (with_reducible refine (aI.calls k1 a0 (rd l1 x14_1) t175 _ A8.out).mono ?_); rintro e w' ⟨rfl, ⟨nd, rfl⟩⟩; refine ⟨_, rfl, ?_⟩; (try (rw [drewN_self wr]; generalize hq_ : World.drewN wr _ = wr; have n0_ : Aside0 (wr.heap[gb172]? = some (o5_ false false false false false 60)) := ⟨by rw [← hq_]; exact (bv BK172.out)⟩; have n1_ : Aside0 (wr.heap[gb173]? = some (o5_ false false false false false 60)) := ⟨by rw [← hq_]; exact (bv BK173.out)⟩; have n2_ : Aside0 (Below w.heap.size w wr) := ⟨by rw [← hq_]; exact (bl2 HB.out GE172.out GE173.out)⟩; clear BK172 BK173 HB hq_; have BK172 := n0_; have BK173 := n1_; have HB := n2_; clear n0_ n1_ n2_)); have hnb13 := NB173_172.out; have hnc13 := NB172_173.out; obtain ⟨hcz14_0, hcz14_1, hcz14_2, hcz14_3, hcz14_4⟩ := bc5 BK173.out; obtain ⟨hfz14_0, hfz14_1, hfz14_2, hfz14_3, hfz14_4⟩ := bf5 BK173.out))
        go_roundg k1
        case measure => have := HK1.out; omega
        case rel => exact ⟨(true), (wrap64 (x14_1 + 1)), ((t175 == 5)), (gr_), (gr_), H', ⟨by have := HK1.out; omega⟩, ⟨by (with_reducible repeat first | apply bd | apply be | apply ba); refine blk_far ?_ NB172_173.out _; (with_reducible repeat first | apply bd | apply be | apply ba); exact BK172.out⟩, ⟨by (with_reducible repeat first | apply bd | apply be | apply ba); refine blk_put (cs := F5) ?_ 0 _ rfl; (with_reducible repeat first | apply bd | apply be | apply ba); exact BK173.out⟩, ⟨bl2 HB.out GE172.out GE173.out⟩⟩
      ·replace c9 := Bool.eq_false_iff.mpr c9
       subst c9
       have H1 : (if x174000_1 = true then (aQ.l0 k1 a0 (decide (t175 ≥ 4)) l1 (l1.length : Int) (wrap64 (x14_1 + 1)) true false false false false) else (aQ.l0 k1 a0 (decide (t175 ≥ 4)) l1 (l1.length : Int) (wrap64 (x14_1 + 1)) (t175 == 5) false false false false)) = some (r1, r2, r3, r4, r5, r6, r7) := by rw [if_neg (show ¬ (false = true) by decide)] at H; exact H
       clear H
       have H := H1
       clear H1
       by_cases c15 : x174000_1 = true
       ·subst c15
        have H1 : (aQ.l0 k1 a0 (decide (t175 ≥ 4)) l1 (l1.length : Int) (wrap64 (x14_1 + 1)) true false false false false) = some (r1, r2, r3, r4, r5, r6, r7) := by rw [if_pos rfl] at H; exact H
        clear H
        have H := H1
        clear H1
        have H' := Aside0.mk H
        clear H
        have p174 : 0 ≤ (x14_1 : Int) := of_decide_eq_true (by first | (with_reducible assumption) | assumption)
        have q174 : x14_1 < (l1.length : Int) := of_decide_eq_true (by first | (with_reducible assumption) | assumption)
        obtain ⟨ad174, e174, hx174_0⟩ := Kd.at_int HR1.out x14_1 p174 q174
        cases e174
        replace hx174_0 := (HB.out.cell (World.block_lt_of_cell? w _ hx174_0)).trans hx174_0
        replace p174 := eq_true p174
        replace q174 := eq_true q174
        go_wp2_with (first | ((with_reducible refine gate_callee (f := 70) rfl ?_); refine goesL_ (some 20) rfl rfl Try.func70 (by kernel_rfl) rfl #[.int .i64 a0, .int .u32 (rd l1 x14_1)] rfl gl ?_; (with_reducible refine (aI.calls k1 a0 (rd l1 x14_1) t175 _ A8.out).mono ?_); rintro e w' ⟨rfl, ⟨nd, rfl⟩⟩; refine ⟨_, rfl, ?_⟩; (try (rw [drewN_self wr]; generalize hq_ : World.drewN wr _ = wr; have n0_ : Aside0 (wr.heap[gb172]? = some (o5_ false false false false false 60)) := ⟨by rw [← hq_]; exact (bv BK172.out)⟩; have n1_ : Aside0 (wr.heap[gb173]? = some (o5_ true false false false false 60)) := ⟨by rw [← hq_]; exact (bv BK173.out)⟩; have n2_ : Aside0 (Below w.heap.size w wr) := ⟨by rw [← hq_]; exact (bl2 HB.out GE172.out GE173.out)⟩; clear BK172 BK173 HB hq_; have BK172 := n0_; have BK173 := n1_; have HB := n2_; clear n0_ n1_ n2_)); have hnb16 := NB173_172.out; have hnc16 := NB172_173.out; obtain ⟨hcz17_0, hcz17_1, hcz17_2, hcz17_3, hcz17_4⟩ := bc5 BK173.out; obtain ⟨hfz17_0, hfz17_1, hfz17_2, hfz17_3, hfz17_4⟩ := bf5 BK173.out))
        go_roundg k1
        case measure => have := HK1.out; omega
        case rel => exact ⟨(decide (t175 ≥ 4)), (wrap64 (x14_1 + 1)), (true), (gr_), (gr_), H', ⟨by have := HK1.out; omega⟩, ⟨by (with_reducible repeat first | apply bd | apply be | apply ba); refine blk_far ?_ NB172_173.out _; (with_reducible repeat first | apply bd | apply be | apply ba); exact BK172.out⟩, ⟨by (with_reducible repeat first | apply bd | apply be | apply ba); refine blk_put (cs := q5_ true false false false false) ?_ 0 _ rfl; (with_reducible repeat first | apply bd | apply be | apply ba); exact BK173.out⟩, ⟨bl2 HB.out GE172.out GE173.out⟩⟩
       ·replace c15 := Bool.eq_false_iff.mpr c15
        subst c15
        have H1 : (aQ.l0 k1 a0 (decide (t175 ≥ 4)) l1 (l1.length : Int) (wrap64 (x14_1 + 1)) (t175 == 5) false false false false) = some (r1, r2, r3, r4, r5, r6, r7) := by rw [if_neg (show ¬ (false = true) by decide)] at H; exact H
        clear H
        have H := H1
        clear H1
        have H' := Aside0.mk H
        clear H
        have p174 : 0 ≤ (x14_1 : Int) := of_decide_eq_true (by first | (with_reducible assumption) | assumption)
        have q174 : x14_1 < (l1.length : Int) := of_decide_eq_true (by first | (with_reducible assumption) | assumption)
        obtain ⟨ad174, e174, hx174_0⟩ := Kd.at_int HR1.out x14_1 p174 q174
        cases e174
        replace hx174_0 := (HB.out.cell (World.block_lt_of_cell? w _ hx174_0)).trans hx174_0
        replace p174 := eq_true p174
        replace q174 := eq_true q174
        go_wp2_with (first | ((with_reducible refine gate_callee (f := 70) rfl ?_); refine goesL_ (some 20) rfl rfl Try.func70 (by kernel_rfl) rfl #[.int .i64 a0, .int .u32 (rd l1 x14_1)] rfl gl ?_; (with_reducible refine (aI.calls k1 a0 (rd l1 x14_1) t175 _ A8.out).mono ?_); rintro e w' ⟨rfl, ⟨nd, rfl⟩⟩; refine ⟨_, rfl, ?_⟩; (try (rw [drewN_self wr]; generalize hq_ : World.drewN wr _ = wr; have n0_ : Aside0 (wr.heap[gb172]? = some (o5_ false false false false false 60)) := ⟨by rw [← hq_]; exact (bv BK172.out)⟩; have n1_ : Aside0 (wr.heap[gb173]? = some (o5_ false false false false false 60)) := ⟨by rw [← hq_]; exact (bv BK173.out)⟩; have n2_ : Aside0 (Below w.heap.size w wr) := ⟨by rw [← hq_]; exact (bl2 HB.out GE172.out GE173.out)⟩; clear BK172 BK173 HB hq_; have BK172 := n0_; have BK173 := n1_; have HB := n2_; clear n0_ n1_ n2_)); have hnb18 := NB173_172.out; have hnc18 := NB172_173.out; obtain ⟨hcz19_0, hcz19_1, hcz19_2, hcz19_3, hcz19_4⟩ := bc5 BK173.out; obtain ⟨hfz19_0, hfz19_1, hfz19_2, hfz19_3, hfz19_4⟩ := bf5 BK173.out))
        go_roundg k1
        case measure => have := HK1.out; omega
        case rel => exact ⟨(decide (t175 ≥ 4)), (wrap64 (x14_1 + 1)), ((t175 == 5)), (gr_), (gr_), H', ⟨by have := HK1.out; omega⟩, ⟨by (with_reducible repeat first | apply bd | apply be | apply ba); refine blk_far ?_ NB172_173.out _; (with_reducible repeat first | apply bd | apply be | apply ba); exact BK172.out⟩, ⟨by (with_reducible repeat first | apply bd | apply be | apply ba); refine blk_put (cs := F5) ?_ 0 _ rfl; (with_reducible repeat first | apply bd | apply be | apply ba); exact BK173.out⟩, ⟨bl2 HB.out GE172.out GE173.out⟩⟩
     ·rw [if_neg c7] at H
      exact absurd H (by simp)
    ·rw [if_neg c6] at H
     exact absurd H (by simp)
   ·rw [if_neg c5] at H
    have c5b0 : decide (x14_1 < (l1.length : Int)) = false := decide_eq_false c5
    clear c5
    replace H := bq_ H
    obtain ⟨t176, A200, H⟩ := H
    replace H : (some (t176, x174000_1, false, false, false, false, x7_1)) = some (r1, r2, r3, r4, r5, r6, r7) := H
    have A20 := Aside0.mk A200
    clear A200
    simp only [Option.some.injEq, Prod.mk.injEq] at H
    obtain ⟨rfl, rfl, rfl, rfl, rfl, rfl, rfl⟩ := H
    try go_wp2
    have n0_ := Aside0.mk (blk_drew BK172.out)
    have n1_ := Aside0.mk (blk_drew BK173.out)
    have n2_ := Aside0.mk (below_drew1 HB.out)
    clear BK172
    clear BK173
    clear HB
    have BK172 := n0_
    have BK173 := n1_
    have HB := n2_
    clear n0_ n1_ n2_
    refine start_ (n := 7) (S := fun w' => w'.cell? ⟨gb173, 0, none⟩ = some (.bool x174000_1) ∧ w'.cell? ⟨gb173, 1, none⟩ = some (.bool false) ∧ w'.cell? ⟨gb173, 2, none⟩ = some (.bool false) ∧ w'.cell? ⟨gb173, 3, none⟩ = some (.bool false) ∧ w'.cell? ⟨gb173, 4, none⟩ = some (.bool false)) (ds := []) (tf 0 7) (by kernel_rfl) rfl rfl ⟨(blk_cell BK173.out 0).trans rfl, (blk_cell BK173.out 1).trans rfl, (blk_cell BK173.out 2).trans rfl, (blk_cell BK173.out 3).trans rfl, (blk_cell BK173.out 4).trans rfl⟩ (fun hHeld => ?_)
    generalize wr.drew = w21 at BK172 BK173 HB hHeld ⊢
    refine pure_ (i := 0) (N := some 34) (v := ?_) (a' := ?_) (tf 1 6) rfl rfl (by kernel_rfl) (fun _ _ _ h => h) (Or.inl ⟨by rfl, ?_⟩) ?_ ?_
    rotate_left
    ·intro w'
     go_simp
     with_reducible rfl
    rotate_left
    ·simp only [Act.put, sb, sz, ss, i64_w, i32_w]
     rfl
    refine pure_ (i := 3) (N := some 37) (v := ?_) (a' := ?_) #[true, false, false, true, false, false, false] rfl rfl (by kernel_rfl) (fun _ _ _ h => h) (Or.inl ⟨by rfl, ?_⟩) ?_ ?_
    rotate_left
    ·intro w'
     go_simp
     with_reducible rfl
    rotate_left
    ·simp only [Act.put, sb, sz, ss, i64_w, i32_w]
     rfl
    refine take_ (i := 2) (N := some 36) (v := ?_) (a' := ?_) #[true, false, true, true, false, false, false] rfl rfl (by kernel_rfl) (fun _ _ _ h => h) (Or.inl ⟨by rfl, ?_⟩) hHeld ?_ ?_
    rotate_left
    ·rintro w' ⟨s0, s1, s2, s3, s4⟩
     go_simp
     with_reducible rfl
    rotate_left
    ·simp only [Act.put, sb, sz, ss, i64_w, i32_w]
     rfl
    refine one_ (i := 1) (N := some 35) (tf 4 3) rfl rfl (by kernel_rfl) (by decide) (fun K hK => ?_)
    refine goes_ Try.func71 (by kernel_rfl) rfl #[.int .i64 a0] (by rfl) rfl rfl gl ?_
    with_reducible refine (eU.calls a0 t176 _ A20.out).mono ?_
    rintro e w' ⟨rfl, ⟨nd, rfl⟩⟩
    refine ⟨_, rfl, ?_⟩
    refine hK.out _ _ ⟨(blk_cell BK173.out 0).trans rfl, (blk_cell BK173.out 1).trans rfl, (blk_cell BK173.out 2).trans rfl, (blk_cell BK173.out 3).trans rfl, (blk_cell BK173.out 4).trans rfl⟩ (fun hHeld => ?_)
    clear hK K
    refine norm_ (a' := ?_) ?_ ?_
    rotate_left
    ·show Act.put _ (some 35) _ = _
     simp only [Act.put, sb, sz, ss, i64_w, i32_w]
     rfl
    refine pure_ (i := 4) (N := some 4) (v := ?_) (a' := ?_) (tf 5 2) rfl rfl (by kernel_rfl) (fun _ _ _ h => h) (Or.inl ⟨by rfl, ?_⟩) ?_ ?_
    rotate_left
    ·intro w'
     go_simp
     with_reducible rfl
    rotate_left
    ·simp only [Act.put, sb, sz, ss, i64_w, i32_w]
     rfl
    refine one_ (i := 5) (N := none) (tf 6 1) rfl rfl (by kernel_rfl) (by decide) (fun K hK => ?_)
    have hs22 : w21.cell? ⟨gb172, 0, none⟩ = some (.bool false) := (blk_cell BK172.out 0).trans rfl
    have hfs22 := blk_frozen BK172.out 0
    have hns22_1 := NB173_172.out
    have hms22_1 := NB172_173.out
    have hs23 : w21.cell? ⟨gb172, 1, none⟩ = some (.bool false) := (blk_cell BK172.out 1).trans rfl
    have hfs23 := blk_frozen BK172.out 1
    have hns23_1 := NB173_172.out
    have hms23_1 := NB172_173.out
    have hs24 : w21.cell? ⟨gb172, 2, none⟩ = some (.bool false) := (blk_cell BK172.out 2).trans rfl
    have hfs24 := blk_frozen BK172.out 2
    have hns24_1 := NB173_172.out
    have hms24_1 := NB172_173.out
    have hs25 : w21.cell? ⟨gb172, 3, none⟩ = some (.bool false) := (blk_cell BK172.out 3).trans rfl
    have hfs25 := blk_frozen BK172.out 3
    have hns25_1 := NB173_172.out
    have hms25_1 := NB172_173.out
    have hs26 : w21.cell? ⟨gb172, 4, none⟩ = some (.bool false) := (blk_cell BK172.out 4).trans rfl
    have hfs26 := blk_frozen BK172.out 4
    have hns26_1 := NB173_172.out
    have hms26_1 := NB172_173.out
    refine skip_ (w1 := ?_) (by rfl) rfl ?_ ?_
    rotate_left
    ·go_simp
     rfl
    refine hK.out _ _ ⟨(cf5 NB173_172.out (hHeld.1)), (cf5 NB173_172.out (hHeld.2.1)), (cf5 NB173_172.out (hHeld.2.2.1)), (cf5 NB173_172.out (hHeld.2.2.2.1)), (cf5 NB173_172.out (hHeld.2.2.2.2))⟩ (fun hHeld => ?_)
    clear hK K
    refine pure_ (i := 6) (N := some 6) (v := ?_) (a' := ?_) (tf 7 0) rfl rfl (by kernel_rfl) (fun _ _ _ h => h) (Or.inl ⟨by rfl, ?_⟩) ?_ ?_
    rotate_left
    ·intro w'
     go_simp
     with_reducible rfl
    rotate_left
    ·simp only [Act.put, sb, sz, ss, i64_w, i32_w]
     rfl
    refine done_ (by kernel_rfl) ?_
    try go_wp2
    refine bodyPost_ret (results_list (rs := [.tmp 4, .cell 5 60, .tmp 6]) rfl (by simp) (.tmp (.cell gb172 60 #[.bool x174000_1, .bool false, .bool false, .bool false, .bool false] (0, 0) _ rfl (by (with_reducible repeat first | apply bd | apply be | apply ba); refine blk_put (cs := q5_ x174000_1 false false false false) ?_ 4 _ rfl; (with_reducible repeat first | apply bd | apply be | apply ba); refine blk_put (cs := q5_ x174000_1 false false false false) ?_ 3 _ rfl; (with_reducible repeat first | apply bd | apply be | apply ba); refine blk_put (cs := q5_ x174000_1 false false false false) ?_ 2 _ rfl; (with_reducible repeat first | apply bd | apply be | apply ba); refine blk_put (cs := q5_ x174000_1 false false false false) ?_ 1 _ rfl; (with_reducible repeat first | apply bd | apply be | apply ba); refine blk_put (cs := F5) ?_ 0 _ rfl; (with_reducible repeat first | apply bd | apply be | apply ba); exact BK172.out) Try.underlying60 rfl (by kernel_rfl) (.tmp .nil)))) rfl ?_
    exact ⟨by first | rfl | (simp [bK, bL] <;> rfl) | (simp [*, bK, bL] <;> rfl), bl2 HB.out GE172.out GE173.out⟩

-- NEED 0
/-! ### aD: function 53 -/
def aD.f (k : Nat) (a0 a1 : Int) : Option (Bool) := (aI.f k a0 a1).bind fun t177 => (some (t177 == 3))
theorem aD.mono : ∀ a0 a1 k, LeO (aD.f k a0 a1) (aD.f (k + 1) a0 a1) := by
 intro a0 a1 k
 unfold aD.f
 repeat' first
   |(with_reducible first|exact aI.mono _ _ _|exact LeO.refl _|exact LeO.none _|refine LeO.ite ?_ ?_|refine LeO.bind ?_ (fun _ => ?_))
   |exact aI.mono _ _ _
   |exact LeO.none _
   |refine LeO.ite ?_ ?_
   |refine LeO.bind ?_ (fun _ => ?_)
theorem aD.calls (k : Nat) (a0 a1 : Int) (r : Bool) (w : World) (h : aD.f k a0 a1 = some r) :
  Calls Try.prog 53 #[.int .i64 a0, .int .u32 a1] w fun e w' => e = .returned (.bool r) ∧ Drawn0 w w' := by
 have H : ((aI.f k a0 a1).bind fun t177 => (some (t177 == 3))) = some r := h
 clear h
 replace H := bq_ H
 obtain ⟨t177, A30, H⟩ := H
 replace H : (some (t177 == 3)) = some r := H
 have A3 := Aside0.mk A30
 clear A30
 obtain rfl := Option.some.inj H
 go_enter Try.func53, Try.ntmps53
 go_wp2_with (first | ((with_reducible refine gate_callee (f := 70) rfl ?_); refine goesL_ (some 7) rfl rfl Try.func70 (by kernel_rfl) rfl #[.int .i64 a0, .int .u32 a1] rfl gl ?_; (with_reducible refine (aI.calls k a0 a1 t177 _ A3.out).mono ?_); rintro e w' ⟨rfl, ⟨nd, rfl⟩⟩; refine ⟨_, rfl, ?_⟩))
 go_ret
 exact ⟨gr_, gd_⟩

-- NEED 0
/-! ### aK: function 72 -/
def aK.f (k : Nat) (a0 a1 : Int) : Option (Bool) := (aI.f k a0 a1).bind fun t178 => (some (t178 == 0))
theorem aK.mono : ∀ a0 a1 k, LeO (aK.f k a0 a1) (aK.f (k + 1) a0 a1) := by
 intro a0 a1 k
 unfold aK.f
 repeat' first
   |(with_reducible first|exact aI.mono _ _ _|exact LeO.refl _|exact LeO.none _|refine LeO.ite ?_ ?_|refine LeO.bind ?_ (fun _ => ?_))
   |exact aI.mono _ _ _
   |exact LeO.none _
   |refine LeO.ite ?_ ?_
   |refine LeO.bind ?_ (fun _ => ?_)
theorem aK.calls (k : Nat) (a0 a1 : Int) (r : Bool) (w : World) (h : aK.f k a0 a1 = some r) :
  Calls Try.prog 72 #[.int .i64 a0, .int .u32 a1] w fun e w' => e = .returned (.bool r) ∧ Drawn0 w w' := by
 have H : ((aI.f k a0 a1).bind fun t178 => (some (t178 == 0))) = some r := h
 clear h
 replace H := bq_ H
 obtain ⟨t178, A30, H⟩ := H
 replace H : (some (t178 == 0)) = some r := H
 have A3 := Aside0.mk A30
 clear A30
 obtain rfl := Option.some.inj H
 go_enter Try.func72, Try.ntmps72
 go_wp2_with (first | ((with_reducible refine gate_callee (f := 70) rfl ?_); refine goesL_ (some 7) rfl rfl Try.func70 (by kernel_rfl) rfl #[.int .i64 a0, .int .u32 a1] rfl gl ?_; (with_reducible refine (aI.calls k a0 a1 t178 _ A3.out).mono ?_); rintro e w' ⟨rfl, ⟨nd, rfl⟩⟩; refine ⟨_, rfl, ?_⟩))
 go_ret
 exact ⟨gr_, gd_⟩


-- NEED 0
/-! ### bV: function 50 -/
def bV.f (k : Nat) (a0 a1 a2 : Int) : Option (Bool) := (aK.f k a0 a1).bind fun t179 => (if t179 = true then ((aD.f k a0 a2).bind fun t180 => (if t180 = true then (some true) else ((aD.f k a0 a1).bind fun t181 => (if t181 = true then ((aK.f k a0 a2).bind fun t182 => (some t182)) else (some false))))) else ((aD.f k a0 a1).bind fun t183 => (if t183 = true then ((aK.f k a0 a2).bind fun t184 => (some t184)) else (some false))))
theorem bV.mono : ∀ a0 a1 a2 k, LeO (bV.f k a0 a1 a2) (bV.f (k + 1) a0 a1 a2) := by
 intro a0 a1 a2 k
 unfold bV.f
 repeat' first
   |(with_reducible first|exact aD.mono _ _ _|exact aK.mono _ _ _|exact LeO.refl _|exact LeO.none _|refine LeO.ite ?_ ?_|refine LeO.bind ?_ (fun _ => ?_))
   |exact aD.mono _ _ _
   |exact aK.mono _ _ _
   |exact LeO.none _
   |refine LeO.ite ?_ ?_
   |refine LeO.bind ?_ (fun _ => ?_)
theorem bV.calls (k : Nat) (a0 a1 a2 : Int) (r : Bool) (w : World) (h : bV.f k a0 a1 a2 = some r) :
  Calls Try.prog 50 #[.int .i64 a0, .int .u32 a1, .int .u32 a2] w fun e w' => e = .returned (.bool r) ∧ Drawn0 w w' := by
 have H : ((aK.f k a0 a1).bind fun t179 => (if t179 = true then ((aD.f k a0 a2).bind fun t180 => (if t180 = true then (some true) else ((aD.f k a0 a1).bind fun t181 => (if t181 = true then ((aK.f k a0 a2).bind fun t182 => (some t182)) else (some false))))) else ((aD.f k a0 a1).bind fun t183 => (if t183 = true then ((aK.f k a0 a2).bind fun t184 => (some t184)) else (some false))))) = some r := h
 clear h
 replace H := bq_ H
 obtain ⟨t179, A40, H⟩ := H
 replace H : (if t179 = true then ((aD.f k a0 a2).bind fun t180 => (if t180 = true then (some true) else ((aD.f k a0 a1).bind fun t181 => (if t181 = true then ((aK.f k a0 a2).bind fun t182 => (some t182)) else (some false))))) else ((aD.f k a0 a1).bind fun t183 => (if t183 = true then ((aK.f k a0 a2).bind fun t184 => (some t184)) else (some false)))) = some r := H
 have A4 := Aside0.mk A40
 clear A40
 by_cases c5 : t179 = true
 ·subst c5
  have H1 : ((aD.f k a0 a2).bind fun t180 => (if t180 = true then (some true) else ((aD.f k a0 a1).bind fun t181 => (if t181 = true then ((aK.f k a0 a2).bind fun t182 => (some t182)) else (some false))))) = some r := by rw [if_pos rfl] at H; exact H
  clear H
  have H := H1
  clear H1
  replace H := bq_ H
  obtain ⟨t180, A60, H⟩ := H
  replace H : (if t180 = true then (some true) else ((aD.f k a0 a1).bind fun t181 => (if t181 = true then ((aK.f k a0 a2).bind fun t182 => (some t182)) else (some false)))) = some r := H
  have A6 := Aside0.mk A60
  clear A60
  by_cases c7 : t180 = true
  ·subst c7
   have H1 : (some true) = some r := by rw [if_pos rfl] at H; exact H
   clear H
   have H := H1
   clear H1
   obtain rfl := Option.some.inj H
   go_enter Try.func50, Try.ntmps50
   go_wp2_with (first | ((with_reducible refine gate_callee (f := 72) rfl ?_); refine goesL_ (some 9) rfl rfl Try.func72 (by kernel_rfl) rfl #[.int .i64 a0, .int .u32 a1] rfl gl ?_; (with_reducible refine (aK.calls k a0 a1 true _ A4.out).mono ?_); rintro e w' ⟨rfl, ⟨nd, rfl⟩⟩; refine ⟨_, rfl, ?_⟩) | (go_at_call 53; (with_reducible refine (aD.calls k a0 a2 true _ A6.out).mono ?_); rintro e w' ⟨rfl, ⟨nd, rfl⟩⟩))
   go_ret
   exact ⟨gr_, gd_⟩
  ·replace c7 := Bool.eq_false_iff.mpr c7
   subst c7
   have H1 : ((aD.f k a0 a1).bind fun t181 => (if t181 = true then ((aK.f k a0 a2).bind fun t182 => (some t182)) else (some false))) = some r := by rw [if_neg (show ¬ (false = true) by decide)] at H; exact H
   clear H
   have H := H1
   clear H1
   replace H := bq_ H
   obtain ⟨t181, A80, H⟩ := H
   replace H : (if t181 = true then ((aK.f k a0 a2).bind fun t182 => (some t182)) else (some false)) = some r := H
   have A8 := Aside0.mk A80
   clear A80
   by_cases c9 : t181 = true
   ·subst c9
    have H1 : ((aK.f k a0 a2).bind fun t182 => (some t182)) = some r := by rw [if_pos rfl] at H; exact H
    clear H
    have H := H1
    clear H1
    replace H := bq_ H
    obtain ⟨t182, A100, H⟩ := H
    replace H : (some t182) = some r := H
    have A10 := Aside0.mk A100
    clear A100
    obtain rfl := Option.some.inj H
    go_enter Try.func50, Try.ntmps50
    go_wp2_with (first | ((with_reducible refine gate_callee (f := 72) rfl ?_); refine goesL_ (some 9) rfl rfl Try.func72 (by kernel_rfl) rfl #[.int .i64 a0, .int .u32 a1] rfl gl ?_; (with_reducible refine (aK.calls k a0 a1 true _ A4.out).mono ?_); rintro e w' ⟨rfl, ⟨nd, rfl⟩⟩; refine ⟨_, rfl, ?_⟩) | (go_at_call 53; (with_reducible refine (aD.calls k a0 a2 false _ A6.out).mono ?_); rintro e w' ⟨rfl, ⟨nd, rfl⟩⟩) | (go_at_call 53; (with_reducible refine (aD.calls k a0 a1 true _ A8.out).mono ?_); rintro e w' ⟨rfl, ⟨nd, rfl⟩⟩) | (go_at_call 72; (with_reducible refine (aK.calls k a0 a2 t182 _ A10.out).mono ?_); rintro e w' ⟨rfl, ⟨nd, rfl⟩⟩))
    go_ret
    exact ⟨gr_, gd_⟩
   ·replace c9 := Bool.eq_false_iff.mpr c9
    subst c9
    have H1 : (some false) = some r := by rw [if_neg (show ¬ (false = true) by decide)] at H; exact H
    clear H
    have H := H1
    clear H1
    obtain rfl := Option.some.inj H
    go_enter Try.func50, Try.ntmps50
    go_wp2_with (first | ((with_reducible refine gate_callee (f := 72) rfl ?_); refine goesL_ (some 9) rfl rfl Try.func72 (by kernel_rfl) rfl #[.int .i64 a0, .int .u32 a1] rfl gl ?_; (with_reducible refine (aK.calls k a0 a1 true _ A4.out).mono ?_); rintro e w' ⟨rfl, ⟨nd, rfl⟩⟩; refine ⟨_, rfl, ?_⟩) | (go_at_call 53; (with_reducible refine (aD.calls k a0 a2 false _ A6.out).mono ?_); rintro e w' ⟨rfl, ⟨nd, rfl⟩⟩) | (go_at_call 53; (with_reducible refine (aD.calls k a0 a1 false _ A8.out).mono ?_); rintro e w' ⟨rfl, ⟨nd, rfl⟩⟩))
    go_ret
    exact ⟨gr_, gd_⟩
 ·replace c5 := Bool.eq_false_iff.mpr c5
  subst c5
  have H1 : ((aD.f k a0 a1).bind fun t183 => (if t183 = true then ((aK.f k a0 a2).bind fun t184 => (some t184)) else (some false))) = some r := by rw [if_neg (show ¬ (false = true) by decide)] at H; exact H
  clear H
  have H := H1
  clear H1
  replace H := bq_ H
  obtain ⟨t183, A110, H⟩ := H
  replace H : (if t183 = true then ((aK.f k a0 a2).bind fun t184 => (some t184)) else (some false)) = some r := H
  have A11 := Aside0.mk A110
  clear A110
  by_cases c12 : t183 = true
  ·subst c12
   have H1 : ((aK.f k a0 a2).bind fun t184 => (some t184)) = some r := by rw [if_pos rfl] at H; exact H
   clear H
   have H := H1
   clear H1
   replace H := bq_ H
   obtain ⟨t184, A130, H⟩ := H
   replace H : (some t184) = some r := H
   have A13 := Aside0.mk A130
   clear A130
   obtain rfl := Option.some.inj H
   go_enter Try.func50, Try.ntmps50
   go_wp2_with (first | ((with_reducible refine gate_callee (f := 72) rfl ?_); refine goesL_ (some 9) rfl rfl Try.func72 (by kernel_rfl) rfl #[.int .i64 a0, .int .u32 a1] rfl gl ?_; (with_reducible refine (aK.calls k a0 a1 false _ A4.out).mono ?_); rintro e w' ⟨rfl, ⟨nd, rfl⟩⟩; refine ⟨_, rfl, ?_⟩) | (go_at_call 53; (with_reducible refine (aD.calls k a0 a1 true _ A11.out).mono ?_); rintro e w' ⟨rfl, ⟨nd, rfl⟩⟩) | (go_at_call 72; (with_reducible refine (aK.calls k a0 a2 t184 _ A13.out).mono ?_); rintro e w' ⟨rfl, ⟨nd, rfl⟩⟩))
   go_ret
   exact ⟨gr_, gd_⟩
  ·replace c12 := Bool.eq_false_iff.mpr c12
   subst c12
   have H1 : (some false) = some r := by rw [if_neg (show ¬ (false = true) by decide)] at H; exact H
   clear H
   have H := H1
   clear H1
   obtain rfl := Option.some.inj H
   go_enter Try.func50, Try.ntmps50
   go_wp2_with (first | ((with_reducible refine gate_callee (f := 72) rfl ?_); refine goesL_ (some 9) rfl rfl Try.func72 (by kernel_rfl) rfl #[.int .i64 a0, .int .u32 a1] rfl gl ?_; (with_reducible refine (aK.calls k a0 a1 false _ A4.out).mono ?_); rintro e w' ⟨rfl, ⟨nd, rfl⟩⟩; refine ⟨_, rfl, ?_⟩) | (go_at_call 53; (with_reducible refine (aD.calls k a0 a1 false _ A11.out).mono ?_); rintro e w' ⟨rfl, ⟨nd, rfl⟩⟩))
   go_ret
   exact ⟨gr_, gd_⟩

-- NEED 0
/-! ### dJ: function 51 -/
def dJ.f (a0 : Int) : Option (Int × Bool × Bool × Bool × Bool × Bool) := (eU.f a0).bind fun t186 => (some (t186, true, false, false, false, false))
theorem dJ.calls (a0 r1 : Int) (r2 r3 : Bool) (r4 r5 r6 : Bool) (w : World) (h : dJ.f a0 = some (r1, r2, r3, r4, r5, r6)) :
  Calls Try.prog 51 #[.int .i64 a0] w fun e w' => e = .returned (.tuple #[.int .u32 r1, .agg #[.bool r2, .bool r3, .bool r4, .bool r5, .bool r6]]) ∧ Below w.heap.size w w' := by
 have hu60 := Try.underlying60
 have HB := Aside0.mk (Below.refl w.heap.size w)
 have H : ((eU.f a0).bind fun t186 => (some (t186, true, false, false, false, false))) = some (r1, r2, r3, r4, r5, r6) := h
 clear h
 replace H := bq_ H
 obtain ⟨t186, A20, H⟩ := H
 replace H : (some (t186, true, false, false, false, false)) = some (r1, r2, r3, r4, r5, r6) := H
 have A2 := Aside0.mk A20
 clear A20
 simp only [Option.some.injEq, Prod.mk.injEq] at H
 obtain ⟨rfl, rfl, rfl, rfl, rfl, rfl⟩ := H
 go_enter Try.func51, Try.ntmps51
 go_wp2_with (first | ((with_reducible refine gate_dst (N := 3) rfl ?_); refine box_event ?hg (N := 3) ?hd (cs := F5) (t := 60) ?hr ?_; (case hd => rfl); (case hg => rfl); (case hr => first | (go_simp; done) | (go_simp; rfl)); intro gb185 hg w3 hbox hb; have n0_ := Aside0.mk (below_step (bl0 HB.out) hb); have n1_ := Aside0.mk (hbox); have n2_ := Aside0.mk ((by rw [hg]; exact (below_size (bl0 HB.out)) : w.heap.size ≤ gb185)); have n3_ := n2_; clear HB; have HB := n0_; have BK185 := n1_; have GW185 := n2_; have GE185 := n3_; clear n0_ n1_ n2_ n3_; clear hb hbox hg) | ((with_reducible refine gate_callee (f := 71) rfl ?_); refine goesL_ (some 5) rfl rfl Try.func71 (by kernel_rfl) rfl #[.int .i64 a0] rfl gl ?_; (with_reducible refine (eU.calls a0 t186 _ A2.out).mono ?_); rintro e w' ⟨rfl, ⟨nd, rfl⟩⟩; refine ⟨_, rfl, ?_⟩; (try (rw [drewN_self w3]; generalize hq_ : World.drewN w3 _ = w3; have n0_ : Aside0 (w3.heap[gb185]? = some (o5_ false false false false false 60)) := ⟨by rw [← hq_]; exact (bv BK185.out)⟩; have n1_ : Aside0 (Below w.heap.size w w3) := ⟨by rw [← hq_]; exact (bl1 HB.out GE185.out)⟩; clear BK185 HB hq_; have BK185 := n0_; have HB := n1_; clear n0_ n1_)); obtain ⟨hcz4_0, hcz4_1, hcz4_2, hcz4_3, hcz4_4⟩ := bc5 BK185.out; obtain ⟨hfz4_0, hfz4_1, hfz4_2, hfz4_3, hfz4_4⟩ := bf5 BK185.out))
 refine bodyPost_ret (results_tc rfl _ _ gb185 60 #[.bool true, .bool false, .bool false, .bool false, .bool false] (0, 0) _ rfl (by (with_reducible repeat first | apply bd | apply be | apply ba); refine blk_put (cs := q5_ true false false false false) ?_ 4 _ rfl; (with_reducible repeat first | apply bd | apply be | apply ba); refine blk_put (cs := q5_ true false false false false) ?_ 3 _ rfl; (with_reducible repeat first | apply bd | apply be | apply ba); refine blk_put (cs := q5_ true false false false false) ?_ 2 _ rfl; (with_reducible repeat first | apply bd | apply be | apply ba); refine blk_put (cs := q5_ true false false false false) ?_ 1 _ rfl; (with_reducible repeat first | apply bd | apply be | apply ba); refine blk_put (cs := F5) ?_ 0 _ rfl; (with_reducible repeat first | apply bd | apply be | apply ba); exact BK185.out) Try.underlying60 rfl (by kernel_rfl)) rfl ?_
 exact ⟨by first | rfl | (simp [bK, bL] <;> rfl) | (simp [*, bK, bL] <;> rfl), bl1 HB.out GE185.out⟩

-- NEED 0
/-! ### bG: function 52 -/
def bG.f (a0 a1 : Int) : Option (Bool) := (cB.f a0 a1).bind fun bt187 => (some bt187.1)
theorem bG.calls (a0 a1 : Int) (r : Bool) (w : World) (h : bG.f a0 a1 = some r) :
  Calls Try.prog 52 #[.int .i64 a0, .int .u32 a1] w fun e w' => e = .returned (.bool r) ∧ Drawn0 w w' := by
 have H : ((cB.f a0 a1).bind fun bt187 => (some bt187.1)) = some r := h
 clear h
 replace H := bq_ H
 obtain ⟨⟨t187, t188, t189⟩, A30, H⟩ := H
 replace H : (some t187) = some r := H
 have A3 := Aside0.mk A30
 clear A30
 obtain rfl := Option.some.inj H
 go_enter Try.func52, Try.ntmps52
 go_wp2_with (first | ((with_reducible refine gate_callee (f := 73) rfl ?_); refine goesL_ (some 11) rfl rfl Try.func73 (by kernel_rfl) rfl #[.int .i64 a0, .int .u32 a1] rfl gl ?_; (with_reducible refine (cB.calls a0 a1 t187 t188 t189 _ A3.out).mono ?_); rintro e w' ⟨rfl, ⟨nd, rfl⟩⟩; refine ⟨_, rfl, ?_⟩))
 go_ret
 exact ⟨gr_, gd_⟩

-- NEED 0
/-! ### bH: function 54 -/
def bH.f (a0 : Int) (a1 : Bool) : Option (Int) := (bP.f a0).bind fun t190 => ((aZ.f a0 a1 t190 0).bind fun t191 => (some t191))
theorem bH.calls (a0 : Int) (a1 : Bool) (r : Int) (w : World) (h : bH.f a0 a1 = some r) :
  Calls Try.prog 54 #[.int .i64 a0, .bool a1] w fun e w' => e = .returned (.int .u32 r) ∧ Drawn0 w w' := by
 have H : ((bP.f a0).bind fun t190 => ((aZ.f a0 a1 t190 0).bind fun t191 => (some t191))) = some r := h
 clear h
 replace H := bq_ H
 obtain ⟨t190, A30, H⟩ := H
 replace H : ((aZ.f a0 a1 t190 0).bind fun t191 => (some t191)) = some r := H
 have A3 := Aside0.mk A30
 clear A30
 replace H := bq_ H
 obtain ⟨t191, A40, H⟩ := H
 replace H : (some t191) = some r := H
 have A4 := Aside0.mk A40
 clear A40
 obtain rfl := Option.some.inj H
 go_enter Try.func54, Try.ntmps54
 go_wp2_with (first | ((with_reducible refine gate_callee (f := 75) rfl ?_); refine goesL_ (some 8) rfl rfl Try.func75 (by kernel_rfl) rfl #[.int .i64 a0] rfl gl ?_; (with_reducible refine (bP.calls a0 t190 _ A3.out).mono ?_); rintro e w' ⟨rfl, ⟨nd, rfl⟩⟩; refine ⟨_, rfl, ?_⟩) | ((with_reducible refine gate_callee (f := 74) rfl ?_); refine goesL_ (some 9) rfl rfl Try.func74 (by kernel_rfl) rfl #[.int .i64 a0, .bool a1, .int .i64 t190, .int .u32 0] rfl gl ?_; (with_reducible refine (aZ.calls a0 a1 t190 0 t191 _ A4.out).mono ?_); rintro e w' ⟨rfl, ⟨nd, rfl⟩⟩; refine ⟨_, rfl, ?_⟩))
 go_ret
 exact ⟨gr_, gd_⟩

-- NEED 0
/-! ### bE: function 82 -/
def bE.f (a0 : Int) : Option (Int) := (aR.f a0).bind fun bt192 => (if 0 ≤ (IntKind.u64.wrap (wrap64 (bt192.1 - 1))) then (some (wrap64 (2 - (shl .i64 1 (IntKind.u64.wrap (wrap64 (bt192.1 - 1))))))) else (none))
theorem bE.calls (a0 r : Int) (w : World) (h : bE.f a0 = some r) :
  Calls Try.prog 82 #[.int .i64 a0] w fun e w' => e = .returned (.int .i64 r) ∧ Drawn0 w w' := by
 have H : ((aR.f a0).bind fun bt192 => (if 0 ≤ (IntKind.u64.wrap (wrap64 (bt192.1 - 1))) then (some (wrap64 (2 - (shl .i64 1 (IntKind.u64.wrap (wrap64 (bt192.1 - 1))))))) else (none))) = some r := h
 clear h
 replace H := bq_ H
 obtain ⟨⟨t192, t193⟩, A20, H⟩ := H
 replace H : (if 0 ≤ (IntKind.u64.wrap (wrap64 (t192 - 1))) then (some (wrap64 (2 - (shl .i64 1 (IntKind.u64.wrap (wrap64 (t192 - 1))))))) else (none)) = some r := H
 have A2 := Aside0.mk A20
 clear A20
 obtain ⟨ji3, hji3⟩ : ∃ j_ : Int, (IntKind.u64.wrap (wrap64 (t192 - 1))) = j_ := ⟨_, rfl⟩
 replace H : (if 0 ≤ (ji3) then (some (wrap64 (2 - (shl .i64 1 (ji3))))) else (none)) = some r := by first | (rw [hji3] at H; exact H) | (simp only [hji3] at H ⊢; exact H)
 (try rw [hji3] at A2)
 by_cases c4 : 0 ≤ (ji3)
 ·rw [if_pos c4] at H
  have c4b0 := eq_true c4
  have c4b1 : decide (0 ≤ (ji3)) = true := decide_eq_true c4
  clear c4
  obtain ⟨ji5, hji5⟩ : ∃ j_ : Int, (shl .i64 1 (ji3)) = j_ := ⟨_, rfl⟩
  replace H : (some (wrap64 (2 - (ji5)))) = some r := by first | (rw [hji5] at H; exact H) | (simp only [hji5] at H ⊢; exact H)
  (try rw [hji5] at A2)
  have hji5_ : (IntKind.i64.wrap (1 * 2 ^ min (ji3).toNat 64)) = ji5 := hji5
  have hji5z : (ji3) ≤ 64 → (IntKind.i64.wrap (1 * 2 ^ (ji3).toNat)) = ji5 := shl_small hji5
  have hji5u : (IntKind.i64.wrap (2 ^ min (ji3).toNat 64)) = ji5 := by have h_ := hji5_; rw [Int.one_mul] at h_; exact h_
  have hji5v : (ji3) ≤ 64 → (IntKind.i64.wrap (2 ^ (ji3).toNat)) = ji5 := fun hle_ => by have h_ := hji5z hle_; rw [Int.one_mul] at h_; exact h_
  have hji5y : (wrap64 (1 * 2 ^ min (ji3).toNat 64)) = ji5 := (i64_w _).symm.trans hji5_
  have hji5x : (ji3) ≤ 64 → (wrap64 (1 * 2 ^ (ji3).toNat)) = ji5 := fun h_ => (i64_w _).symm.trans (hji5z h_)
  obtain rfl := Option.some.inj H
  go_enter Try.func82, Try.ntmps82
  go_wp2_with (first | ((with_reducible refine gate_callee (f := 78) rfl ?_); refine goesL_ (some 7) rfl rfl Try.func78 (by kernel_rfl) rfl #[.int .i64 a0] rfl gl ?_; (with_reducible refine (aR.calls a0 t192 t193 _ A2.out).mono ?_); rintro e w' ⟨rfl, ⟨nd, rfl⟩⟩; refine ⟨_, rfl, ?_⟩))
  go_ret
  exact ⟨by first | rfl | (simp; done) | (simp only [← hji3, ← hji5] <;> (first | rfl | (simp; done))) | (simp [*]; done) | (congr 1; (try unfold wrap64); omega) | (congr 1; rw [IntKind.wrap_u64]; omega), gd_⟩
 ·rw [if_neg c4] at H
  exact absurd H (by simp)

-- NEED 0
/-! ### dW: function 97 -/
def dW.f (a0 a1 : Int) : Option (Bool × Int × Int) := (aR.f a0).bind fun bt194 => ((cB.f a0 a1).bind fun bt196 => (if bt196.2.1 = 0 then ((bE.f a0).bind fun t199 => (some (bt196.1, wrap64 (t199 - bt194.2), IntKind.u64.wrap (bt196.2.2)))) else ((bP.f a0).bind fun t200 => (if bt196.2.1 = t200 then (some (bt196.1, 0, 0)) else ((bE.f a0).bind fun t201 => (if 0 ≤ (IntKind.u64.wrap (bt194.2)) then (some (bt196.1, wrap64 ((wrap64 ((wrap64 (t201 - bt194.2)) + bt196.2.1)) - 1), Go.bits .or .u64 (IntKind.u64.wrap (bt196.2.2)) (shl .u64 1 (IntKind.u64.wrap (bt194.2))))) else (none)))))))
theorem dW.calls (a0 a1 : Int) (r1 : Bool) (r2 r3 : Int) (w : World) (h : dW.f a0 a1 = some (r1, r2, r3)) :
  Calls Try.prog 97 #[.int .i64 a0, .int .u32 a1] w fun e w' => e = .returned (.tuple #[.bool r1, .int .i64 r2, .int .u64 r3]) ∧ Drawn0 w w' := by
 have H : ((aR.f a0).bind fun bt194 => ((cB.f a0 a1).bind fun bt196 => (if bt196.2.1 = 0 then ((bE.f a0).bind fun t199 => (some (bt196.1, wrap64 (t199 - bt194.2), IntKind.u64.wrap (bt196.2.2)))) else ((bP.f a0).bind fun t200 => (if bt196.2.1 = t200 then (some (bt196.1, 0, 0)) else ((bE.f a0).bind fun t201 => (if 0 ≤ (IntKind.u64.wrap (bt194.2)) then (some (bt196.1, wrap64 ((wrap64 ((wrap64 (t201 - bt194.2)) + bt196.2.1)) - 1), Go.bits .or .u64 (IntKind.u64.wrap (bt196.2.2)) (shl .u64 1 (IntKind.u64.wrap (bt194.2))))) else (none)))))))) = some (r1, r2, r3) := h
 clear h
 replace H := bq_ H
 obtain ⟨⟨t194, t195⟩, A30, H⟩ := H
 replace H : ((cB.f a0 a1).bind fun bt196 => (if bt196.2.1 = 0 then ((bE.f a0).bind fun t199 => (some (bt196.1, wrap64 (t199 - t195), IntKind.u64.wrap (bt196.2.2)))) else ((bP.f a0).bind fun t200 => (if bt196.2.1 = t200 then (some (bt196.1, 0, 0)) else ((bE.f a0).bind fun t201 => (if 0 ≤ (IntKind.u64.wrap (t195)) then (some (bt196.1, wrap64 ((wrap64 ((wrap64 (t201 - t195)) + bt196.2.1)) - 1), Go.bits .or .u64 (IntKind.u64.wrap (bt196.2.2)) (shl .u64 1 (IntKind.u64.wrap (t195))))) else (none))))))) = some (r1, r2, r3) := H
 have A3 := Aside0.mk A30
 clear A30
 replace H := bq_ H
 obtain ⟨⟨t196, t197, t198⟩, A40, H⟩ := H
 replace H : (if t197 = 0 then ((bE.f a0).bind fun t199 => (some (t196, wrap64 (t199 - t195), IntKind.u64.wrap (t198)))) else ((bP.f a0).bind fun t200 => (if t197 = t200 then (some (t196, 0, 0)) else ((bE.f a0).bind fun t201 => (if 0 ≤ (IntKind.u64.wrap (t195)) then (some (t196, wrap64 ((wrap64 ((wrap64 (t201 - t195)) + t197)) - 1), Go.bits .or .u64 (IntKind.u64.wrap (t198)) (shl .u64 1 (IntKind.u64.wrap (t195))))) else (none)))))) = some (r1, r2, r3) := H
 have A4 := Aside0.mk A40
 clear A40
 by_cases c5 : t197 = 0
 ·rw [if_pos c5] at H
  have c5b0 : (t197 == 0) = true := beq_iff_eq.mpr c5
  have c5b1 : (t197 != 0) = false := bne_eq_false_iff_eq.mpr c5
  clear c5
  replace H := bq_ H
  obtain ⟨t199, A60, H⟩ := H
  replace H : (some (t196, wrap64 (t199 - t195), IntKind.u64.wrap (t198))) = some (r1, r2, r3) := H
  have A6 := Aside0.mk A60
  clear A60
  simp only [Option.some.injEq, Prod.mk.injEq] at H
  obtain ⟨rfl, rfl, rfl⟩ := H
  go_enter Try.func97, Try.ntmps97
  go_wp2_with (first | ((with_reducible refine gate_callee (f := 78) rfl ?_); refine goesL_ (some 14) rfl rfl Try.func78 (by kernel_rfl) rfl #[.int .i64 a0] rfl gl ?_; (with_reducible refine (aR.calls a0 t194 t195 _ A3.out).mono ?_); rintro e w' ⟨rfl, ⟨nd, rfl⟩⟩; refine ⟨_, rfl, ?_⟩) | ((with_reducible refine gate_callee (f := 73) rfl ?_); refine goesL_ (some 20) rfl rfl Try.func73 (by kernel_rfl) rfl #[.int .i64 a0, .int .u32 a1] rfl gl ?_; (with_reducible refine (cB.calls a0 a1 t196 t197 t198 _ A4.out).mono ?_); rintro e w' ⟨rfl, ⟨nd, rfl⟩⟩; refine ⟨_, rfl, ?_⟩) | ((with_reducible refine gate_callee (f := 82) rfl ?_); refine goesL_ (some 29) rfl rfl Try.func82 (by kernel_rfl) rfl #[.int .i64 a0] rfl gl ?_; (with_reducible refine (bE.calls a0 t199 _ A6.out).mono ?_); rintro e w' ⟨rfl, ⟨nd, rfl⟩⟩; refine ⟨_, rfl, ?_⟩))
  go_ret3
  exact ⟨gr_, gd_⟩
 ·rw [if_neg c5] at H
  have c5b0 : (t197 == 0) = false := beq_eq_false_iff_ne.mpr c5
  have c5b1 : (t197 != 0) = true := bne_iff_ne.mpr c5
  replace H := bq_ H
  obtain ⟨t200, A70, H⟩ := H
  replace H : (if t197 = t200 then (some (t196, 0, 0)) else ((bE.f a0).bind fun t201 => (if 0 ≤ (IntKind.u64.wrap (t195)) then (some (t196, wrap64 ((wrap64 ((wrap64 (t201 - t195)) + t197)) - 1), Go.bits .or .u64 (IntKind.u64.wrap (t198)) (shl .u64 1 (IntKind.u64.wrap (t195))))) else (none)))) = some (r1, r2, r3) := H
  have A7 := Aside0.mk A70
  clear A70
  by_cases c8 : t197 = t200
  ·rw [if_pos c8] at H
   have c8b0 : (t197 == t200) = true := beq_iff_eq.mpr c8
   have c8b1 : (t197 != t200) = false := bne_eq_false_iff_eq.mpr c8
   clear c8
   simp only [Option.some.injEq, Prod.mk.injEq] at H
   obtain ⟨rfl, rfl, rfl⟩ := H
   go_enter Try.func97, Try.ntmps97
   go_wp2_with (first | ((with_reducible refine gate_callee (f := 78) rfl ?_); refine goesL_ (some 14) rfl rfl Try.func78 (by kernel_rfl) rfl #[.int .i64 a0] rfl gl ?_; (with_reducible refine (aR.calls a0 t194 t195 _ A3.out).mono ?_); rintro e w' ⟨rfl, ⟨nd, rfl⟩⟩; refine ⟨_, rfl, ?_⟩) | ((with_reducible refine gate_callee (f := 73) rfl ?_); refine goesL_ (some 20) rfl rfl Try.func73 (by kernel_rfl) rfl #[.int .i64 a0, .int .u32 a1] rfl gl ?_; (with_reducible refine (cB.calls a0 a1 t196 t197 t198 _ A4.out).mono ?_); rintro e w' ⟨rfl, ⟨nd, rfl⟩⟩; refine ⟨_, rfl, ?_⟩) | ((with_reducible refine gate_callee (f := 75) rfl ?_); refine goesL_ (some 36) rfl rfl Try.func75 (by kernel_rfl) rfl #[.int .i64 a0] rfl gl ?_; (with_reducible refine (bP.calls a0 t200 _ A7.out).mono ?_); rintro e w' ⟨rfl, ⟨nd, rfl⟩⟩; refine ⟨_, rfl, ?_⟩))
   go_ret3
   exact ⟨gr_, gd_⟩
  ·rw [if_neg c8] at H
   have c8b0 : (t197 == t200) = false := beq_eq_false_iff_ne.mpr c8
   have c8b1 : (t197 != t200) = true := bne_iff_ne.mpr c8
   replace H := bq_ H
   obtain ⟨t201, A90, H⟩ := H
   replace H : (if 0 ≤ (IntKind.u64.wrap (t195)) then (some (t196, wrap64 ((wrap64 ((wrap64 (t201 - t195)) + t197)) - 1), Go.bits .or .u64 (IntKind.u64.wrap (t198)) (shl .u64 1 (IntKind.u64.wrap (t195))))) else (none)) = some (r1, r2, r3) := H
   have A9 := Aside0.mk A90
   clear A90
   obtain ⟨ji10, hji10⟩ : ∃ j_ : Int, (IntKind.u64.wrap (t195)) = j_ := ⟨_, rfl⟩
   replace H : (if 0 ≤ (ji10) then (some (t196, wrap64 ((wrap64 ((wrap64 (t201 - t195)) + t197)) - 1), Go.bits .or .u64 (IntKind.u64.wrap (t198)) (shl .u64 1 (ji10)))) else (none)) = some (r1, r2, r3) := by first | (rw [hji10] at H; exact H) | (simp only [hji10] at H ⊢; exact H)
   (try rw [hji10] at A3)
   (try rw [hji10] at A4)
   (try rw [hji10] at A7)
   (try rw [hji10] at A9)
   by_cases c11 : 0 ≤ (ji10)
   ·rw [if_pos c11] at H
    have c11b0 := eq_true c11
    have c11b1 : decide (0 ≤ (ji10)) = true := decide_eq_true c11
    clear c11
    obtain ⟨ji12, hji12⟩ : ∃ j_ : Int, (shl .u64 1 (ji10)) = j_ := ⟨_, rfl⟩
    replace H : (some (t196, wrap64 ((wrap64 ((wrap64 (t201 - t195)) + t197)) - 1), Go.bits .or .u64 (IntKind.u64.wrap (t198)) (ji12))) = some (r1, r2, r3) := by first | (rw [hji12] at H; exact H) | (simp only [hji12] at H ⊢; exact H)
    (try rw [hji12] at A3)
    (try rw [hji12] at A4)
    (try rw [hji12] at A7)
    (try rw [hji12] at A9)
    have hji12_ : (IntKind.u64.wrap (1 * 2 ^ min (ji10).toNat 64)) = ji12 := hji12
    have hji12z : (ji10) ≤ 64 → (IntKind.u64.wrap (1 * 2 ^ (ji10).toNat)) = ji12 := shl_small hji12
    have hji12u : (IntKind.u64.wrap (2 ^ min (ji10).toNat 64)) = ji12 := by have h_ := hji12_; rw [Int.one_mul] at h_; exact h_
    have hji12v : (ji10) ≤ 64 → (IntKind.u64.wrap (2 ^ (ji10).toNat)) = ji12 := fun hle_ => by have h_ := hji12z hle_; rw [Int.one_mul] at h_; exact h_
    simp only [Option.some.injEq, Prod.mk.injEq] at H
    obtain ⟨rfl, rfl, rfl⟩ := H
    go_enter Try.func97, Try.ntmps97
    go_wp2_with (first | ((with_reducible refine gate_callee (f := 78) rfl ?_); refine goesL_ (some 14) rfl rfl Try.func78 (by kernel_rfl) rfl #[.int .i64 a0] rfl gl ?_; (with_reducible refine (aR.calls a0 t194 t195 _ A3.out).mono ?_); rintro e w' ⟨rfl, ⟨nd, rfl⟩⟩; refine ⟨_, rfl, ?_⟩) | ((with_reducible refine gate_callee (f := 73) rfl ?_); refine goesL_ (some 20) rfl rfl Try.func73 (by kernel_rfl) rfl #[.int .i64 a0, .int .u32 a1] rfl gl ?_; (with_reducible refine (cB.calls a0 a1 t196 t197 t198 _ A4.out).mono ?_); rintro e w' ⟨rfl, ⟨nd, rfl⟩⟩; refine ⟨_, rfl, ?_⟩) | ((with_reducible refine gate_callee (f := 75) rfl ?_); refine goesL_ (some 36) rfl rfl Try.func75 (by kernel_rfl) rfl #[.int .i64 a0] rfl gl ?_; (with_reducible refine (bP.calls a0 t200 _ A7.out).mono ?_); rintro e w' ⟨rfl, ⟨nd, rfl⟩⟩; refine ⟨_, rfl, ?_⟩) | ((with_reducible refine gate_callee (f := 82) rfl ?_); refine goesL_ (some 41) rfl rfl Try.func82 (by kernel_rfl) rfl #[.int .i64 a0] rfl gl ?_; (with_reducible refine (bE.calls a0 t201 _ A9.out).mono ?_); rintro e w' ⟨rfl, ⟨nd, rfl⟩⟩; refine ⟨_, rfl, ?_⟩))
    go_ret3
    exact ⟨by first | rfl | (simp; done) | (simp only [← hji10, ← hji12] <;> (first | rfl | (simp; done))) | (simp [*]; done) | (congr 1; (try unfold wrap64); omega) | (congr 1; rw [IntKind.wrap_u64]; omega), gd_⟩
   ·rw [if_neg c11] at H
    exact absurd H (by simp)

-- NEED 0
/-! ### dL: function 76 -/
def dL.f (a0 a1 : Int) : Option (Bool × Int × Int × Bool) := (dW.f a0 a1).bind fun bt203 => (some (bt203.1, bt203.2.1, bt203.2.2, false))
theorem dL.calls (a0 a1 : Int) (r1 : Bool) (r2 r3 : Int) (r4 : Bool) (w : World) (h : dL.f a0 a1 = some (r1, r2, r3, r4)) :
  Calls Try.prog 76 #[.int .i64 a0, .int .u32 a1] w fun e w' => e = .returned (.agg #[.bool r1, .int .i64 r2, .int .u64 r3, .bool r4]) ∧ Below w.heap.size w w' := by
 have hu84 := Try.underlying84
 have HB := Aside0.mk (Below.refl w.heap.size w)
 have H : ((dW.f a0 a1).bind fun bt203 => (some (bt203.1, bt203.2.1, bt203.2.2, false))) = some (r1, r2, r3, r4) := h
 clear h
 replace H := bq_ H
 obtain ⟨⟨t203, t204, t205⟩, A30, H⟩ := H
 replace H : (some (t203, t204, t205, false)) = some (r1, r2, r3, r4) := H
 have A3 := Aside0.mk A30
 clear A30
 simp only [Option.some.injEq, Prod.mk.injEq] at H
 obtain ⟨rfl, rfl, rfl, rfl⟩ := H
 go_enter Try.func76, Try.ntmps76
 go_wp2_with (first | ((with_reducible refine gate_dst (N := 4) rfl ?_); refine box_event ?hg (N := 4) ?hd (cs := #[.bool false, .int .i64 0, .int .u64 0, .bool false]) (t := 84) ?hr ?_; (case hd => rfl); (case hg => rfl); (case hr => first | (go_simp; done) | (go_simp; rfl)); intro gb202 hg w4 hbox hb; have n0_ := Aside0.mk (below_step (bl0 HB.out) hb); have n1_ := Aside0.mk (hbox); have n2_ := Aside0.mk ((by rw [hg]; exact (below_size (bl0 HB.out)) : w.heap.size ≤ gb202)); have n3_ := n2_; clear HB; have HB := n0_; have BK202 := n1_; have GW202 := n2_; have GE202 := n3_; clear n0_ n1_ n2_ n3_; clear hb hbox hg) | ((with_reducible refine gate_callee (f := 97) rfl ?_); refine goesL_ (some 11) rfl rfl Try.func97 (by kernel_rfl) rfl #[.int .i64 a0, .int .u32 a1] rfl gl ?_; (with_reducible refine (dW.calls a0 a1 t203 t204 t205 _ A3.out).mono ?_); rintro e w' ⟨rfl, ⟨nd, rfl⟩⟩; refine ⟨_, rfl, ?_⟩; (try (rw [drewN_self w4]; generalize hq_ : World.drewN w4 _ = w4; have n0_ : Aside0 (w4.heap[gb202]? = some (.cells #[.bool false, .int .i64 0, .int .u64 0, .bool false] 84 (0, 0))) := ⟨by rw [← hq_]; exact (bv BK202.out)⟩; have n1_ : Aside0 (Below w.heap.size w w4) := ⟨by rw [← hq_]; exact (bl1 HB.out GE202.out)⟩; clear BK202 HB hq_; have BK202 := n0_; have HB := n1_; clear n0_ n1_)); obtain ⟨hcz5_0, hcz5_1, hcz5_2, hcz5_3⟩ := bc4 BK202.out; obtain ⟨hfz5_0, hfz5_1, hfz5_2, hfz5_3⟩ := bf4 BK202.out))
 refine bodyPost_ret (results_cell_row rfl _ _ gb202 84 #[.bool t203, .int .i64 t204, .int .u64 t205, .bool false] (0, 0) _ rfl (by (with_reducible repeat first | apply bd | apply be | apply ba); refine blk_put (cs := #[.bool t203, .int .i64 t204, .int .u64 t205, .bool false]) ?_ 3 _ rfl; (with_reducible repeat first | apply bd | apply be | apply ba); refine blk_put (cs := #[.bool t203, .int .i64 t204, .int .u64 0, .bool false]) ?_ 2 _ rfl; (with_reducible repeat first | apply bd | apply be | apply ba); refine blk_put (cs := #[.bool t203, .int .i64 0, .int .u64 0, .bool false]) ?_ 1 _ rfl; (with_reducible repeat first | apply bd | apply be | apply ba); refine blk_put (cs := #[.bool false, .int .i64 0, .int .u64 0, .bool false]) ?_ 0 _ rfl; (with_reducible repeat first | apply bd | apply be | apply ba); exact BK202.out) Try.underlying84 rfl (by kernel_rfl)) rfl ?_
 exact ⟨by first | rfl | (simp [bK, bL] <;> rfl) | (simp [*, bK, bL] <;> rfl), bl1 HB.out GE202.out⟩

-- NEED 0
/-! ### cK: function 55 -/
def cK.f (a0 a1 a2 : Int) : Option (Bool × Int × Int × Bool) := (dL.f a0 a1).bind fun bt207 => ((dL.f a0 a2).bind fun bt211 => (some ((bt207.1 != bt211.1), wrap64 (bt207.2.1 + bt211.2.1), IntKind.u64.wrap (bt207.2.2.1 * bt211.2.2.1), false)))
theorem cK.calls (a0 a1 a2 : Int) (r1 : Bool) (r2 r3 : Int) (r4 : Bool) (w : World) (h : cK.f a0 a1 a2 = some (r1, r2, r3, r4)) :
  Calls Try.prog 55 #[.int .i64 a0, .int .u32 a1, .int .u32 a2] w fun e w' => e = .returned (.agg #[.bool r1, .int .i64 r2, .int .u64 r3, .bool r4]) ∧ Below w.heap.size w w' := by
 have hu84 := Try.underlying84
 have HB := Aside0.mk (Below.refl w.heap.size w)
 have H : ((dL.f a0 a1).bind fun bt207 => ((dL.f a0 a2).bind fun bt211 => (some ((bt207.1 != bt211.1), wrap64 (bt207.2.1 + bt211.2.1), IntKind.u64.wrap (bt207.2.2.1 * bt211.2.2.1), false)))) = some (r1, r2, r3, r4) := h
 clear h
 replace H := bq_ H
 obtain ⟨⟨t207, t208, t209, t210⟩, A40, H⟩ := H
 replace H : ((dL.f a0 a2).bind fun bt211 => (some ((t207 != bt211.1), wrap64 (t208 + bt211.2.1), IntKind.u64.wrap (t209 * bt211.2.2.1), false))) = some (r1, r2, r3, r4) := H
 have A4 := Aside0.mk A40
 clear A40
 replace H := bq_ H
 obtain ⟨⟨t211, t212, t213, t214⟩, A50, H⟩ := H
 replace H : (some ((t207 != t211), wrap64 (t208 + t212), IntKind.u64.wrap (t209 * t213), false)) = some (r1, r2, r3, r4) := H
 have A5 := Aside0.mk A50
 clear A50
 simp only [Option.some.injEq, Prod.mk.injEq] at H
 obtain ⟨rfl, rfl, rfl, rfl⟩ := H
 go_enter Try.func55, Try.ntmps55
 go_wp2_with (first | ((with_reducible refine gate_dst (N := 6) rfl ?_); refine box_event ?hg (N := 6) ?hd (cs := #[.bool false, .int .i64 0, .int .u64 0, .bool false]) (t := 84) ?hr ?_; (case hd => rfl); (case hg => rfl); (case hr => first | (go_simp; done) | (go_simp; rfl)); intro gb206 hg w6 hbox hb; have n0_ := Aside0.mk (below_step (bl0 HB.out) hb); have n1_ := Aside0.mk (hbox); have n2_ := Aside0.mk ((by rw [hg]; exact (below_size (bl0 HB.out)) : w.heap.size ≤ gb206)); have n3_ := n2_; clear HB; have HB := n0_; have BK206 := n1_; have GW206 := n2_; have GE206 := n3_; clear n0_ n1_ n2_ n3_; clear hb hbox hg) | ((with_reducible refine gate_callee (f := 76) rfl ?_); refine goesL_ (some 11) rfl rfl Try.func76 (by kernel_rfl) rfl #[.int .i64 a0, .int .u32 a1] rfl gl ?_; (with_reducible refine (dL.calls a0 a1 t207 t208 t209 t210 _ A4.out).mono ?_); rintro e w7 ⟨rfl, hb⟩; refine ⟨_, rfl, ?_⟩; have n0_ := Aside0.mk (blk_below (g := gb206) (o := .cells #[.bool false, .int .i64 0, .int .u64 0, .bool false] 84 (0, 0)) (bv BK206.out) hb); have n1_ := Aside0.mk (below_step (bl1 HB.out GE206.out) hb); clear BK206; clear HB; have BK206 := n0_; have HB := n1_; clear n0_ n1_) | ((with_reducible refine gate_callee (f := 76) rfl ?_); refine goesL_ (some 14) rfl rfl Try.func76 (by kernel_rfl) rfl #[.int .i64 a0, .int .u32 a2] rfl gl ?_; (with_reducible refine (dL.calls a0 a2 t211 t212 t213 t214 _ A5.out).mono ?_); rintro e w8 ⟨rfl, hb⟩; refine ⟨_, rfl, ?_⟩; have n0_ := Aside0.mk (blk_below (g := gb206) (o := .cells #[.bool false, .int .i64 0, .int .u64 0, .bool false] 84 (0, 0)) (bv BK206.out) hb); have n1_ := Aside0.mk (below_step (bl1 HB.out GE206.out) hb); clear BK206; clear HB; have BK206 := n0_; have HB := n1_; clear n0_ n1_) | ((with_reducible refine gate_dst (N := 7) rfl ?_); refine box_event ?hg (N := 7) ?hd (cs := #[.bool false, .int .i64 0, .int .u64 0, .bool false]) (t := 84) ?hr ?_; (case hd => rfl); (case hg => rfl); (case hr => first | (go_simp; done) | (go_simp; rfl)); intro gb215 hg w9 hbox hb; have n0_ := Aside0.mk (blk_below (g := gb206) (o := .cells #[.bool false, .int .i64 0, .int .u64 0, .bool false] 84 (0, 0)) (bv BK206.out) hb); have n1_ := Aside0.mk (below_step (bl1 HB.out GE206.out) hb); have n2_ := Aside0.mk (hbox); have n3_ := Aside0.mk ((by rw [hg]; exact (below_size (bl1 HB.out GE206.out)) : w.heap.size ≤ gb215)); have n4_ := n3_; have n5_ := Aside0.mk ((by rw [hg]; exact Nat.ne_of_lt (blk_lt (g := gb206) (o := .cells #[.bool false, .int .i64 0, .int .u64 0, .bool false] 84 (0, 0)) (bv BK206.out)) : gb206 ≠ gb215)); have n6_ := Aside0.mk (Ne.symm n5_.out); clear BK206; clear HB; have BK206 := n0_; have HB := n1_; have BK215 := n2_; have GW215 := n3_; have GE215 := n4_; have NB206_215 := n5_; have NB215_206 := n6_; clear n0_ n1_ n2_ n3_ n4_ n5_ n6_; clear hb hbox hg) | ((with_reducible refine gate_dst (N := 8) rfl ?_); refine box_event ?hg (N := 8) ?hd (cs := #[.bool false, .int .i64 0, .int .u64 0, .bool false]) (t := 84) ?hr ?_; (case hd => rfl); (case hg => rfl); (case hr => first | (go_simp; done) | (go_simp; rfl)); intro gb216 hg w10 hbox hb; have n0_ := Aside0.mk (blk_below (g := gb206) (o := .cells #[.bool false, .int .i64 0, .int .u64 0, .bool false] 84 (0, 0)) (bv BK206.out) hb); have n1_ := Aside0.mk (blk_below (g := gb215) (o := .cells #[.bool false, .int .i64 0, .int .u64 0, .bool false] 84 (0, 0)) (bv BK215.out) hb); have n2_ := Aside0.mk (below_step (bl2 HB.out GE206.out GE215.out) hb); have n3_ := Aside0.mk (hbox); have n4_ := Aside0.mk ((by rw [hg]; exact (below_size (bl2 HB.out GE206.out GE215.out)) : w.heap.size ≤ gb216)); have n5_ := n4_; have n6_ := Aside0.mk ((by rw [hg]; exact Nat.ne_of_lt (blk_lt (g := gb206) (o := .cells #[.bool false, .int .i64 0, .int .u64 0, .bool false] 84 (0, 0)) (bv BK206.out)) : gb206 ≠ gb216)); have n7_ := Aside0.mk (Ne.symm n6_.out); have n8_ := Aside0.mk ((by rw [hg]; exact Nat.ne_of_lt (blk_lt (g := gb215) (o := .cells #[.bool false, .int .i64 0, .int .u64 0, .bool false] 84 (0, 0)) (bv BK215.out)) : gb215 ≠ gb216)); have n9_ := Aside0.mk (Ne.symm n8_.out); clear BK206; clear BK215; clear HB; have BK206 := n0_; have BK215 := n1_; have HB := n2_; have BK216 := n3_; have GW216 := n4_; have GE216 := n5_; have NB206_216 := n6_; have NB216_206 := n7_; have NB215_216 := n8_; have NB216_215 := n9_; clear n0_ n1_ n2_ n3_ n4_ n5_ n6_ n7_ n8_ n9_; clear hb hbox hg; have hnb11 := NB215_206.out; have hnc11 := NB206_215.out; have hnb12 := NB215_216.out; have hnc12 := NB216_215.out; obtain ⟨hcz13_0, hcz13_1, hcz13_2, hcz13_3⟩ := bc4 BK215.out; obtain ⟨hfz13_0, hfz13_1, hfz13_2, hfz13_3⟩ := bf4 BK215.out; have hnb14 := NB216_206.out; have hnc14 := NB206_216.out; obtain ⟨hcz15_0, hcz15_1, hcz15_2, hcz15_3⟩ := bc4 BK216.out; obtain ⟨hfz15_0, hfz15_1, hfz15_2, hfz15_3⟩ := bf4 BK216.out; obtain ⟨hcz16_0, hcz16_1, hcz16_2, hcz16_3⟩ := bc4 BK206.out; obtain ⟨hfz16_0, hfz16_1, hfz16_2, hfz16_3⟩ := bf4 BK206.out))
 refine bodyPost_ret (results_cell_row rfl _ _ gb206 84 #[.bool (t207 != t211), .int .i64 (wrap64 (t208 + t212)), .int .u64 (IntKind.u64.wrap (t209 * t213)), .bool false] (0, 0) _ rfl (by (with_reducible repeat first | apply bd | apply be | apply ba); refine blk_put (cs := #[.bool (t207 != t211), .int .i64 (wrap64 (t208 + t212)), .int .u64 (IntKind.u64.wrap (t209 * t213)), .bool false]) ?_ 3 _ rfl; (with_reducible repeat first | apply bd | apply be | apply ba); refine blk_put (cs := #[.bool (t207 != t211), .int .i64 (wrap64 (t208 + t212)), .int .u64 0, .bool false]) ?_ 2 _ rfl; (with_reducible repeat first | apply bd | apply be | apply ba); refine blk_put (cs := #[.bool (t207 != t211), .int .i64 0, .int .u64 0, .bool false]) ?_ 1 _ rfl; (with_reducible repeat first | apply bd | apply be | apply ba); refine blk_put (cs := #[.bool false, .int .i64 0, .int .u64 0, .bool false]) ?_ 0 _ rfl; (with_reducible repeat first | apply bd | apply be | apply ba); refine blk_far ?_ NB206_216.out _; (with_reducible repeat first | apply bd | apply be | apply ba); refine blk_far ?_ NB206_216.out _; (with_reducible repeat first | apply bd | apply be | apply ba); refine blk_far ?_ NB206_216.out _; (with_reducible repeat first | apply bd | apply be | apply ba); refine blk_far ?_ NB206_216.out _; (with_reducible repeat first | apply bd | apply be | apply ba); refine blk_far ?_ NB206_215.out _; (with_reducible repeat first | apply bd | apply be | apply ba); refine blk_far ?_ NB206_215.out _; (with_reducible repeat first | apply bd | apply be | apply ba); refine blk_far ?_ NB206_215.out _; (with_reducible repeat first | apply bd | apply be | apply ba); refine blk_far ?_ NB206_215.out _; (with_reducible repeat first | apply bd | apply be | apply ba); exact BK206.out) Try.underlying84 rfl (by kernel_rfl)) rfl ?_
 exact ⟨by first | rfl | (simp [bK, bL] <;> rfl) | (simp [*, bK, bL] <;> rfl), bl3 HB.out GE206.out GE215.out GE216.out⟩

-- NEED 0
/-! ### bR: function 77 -/
def bR.f (a0 : Int) (a1 : Bool) : Option (Int) := (aZ.f a0 a1 0 0).bind fun t217 => (some t217)
theorem bR.calls (a0 : Int) (a1 : Bool) (r : Int) (w : World) (h : bR.f a0 a1 = some r) :
  Calls Try.prog 77 #[.int .i64 a0, .bool a1] w fun e w' => e = .returned (.int .u32 r) ∧ Drawn0 w w' := by
 have H : ((aZ.f a0 a1 0 0).bind fun t217 => (some t217)) = some r := h
 clear h
 replace H := bq_ H
 obtain ⟨t217, A30, H⟩ := H
 replace H : (some t217) = some r := H
 have A3 := Aside0.mk A30
 clear A30
 obtain rfl := Option.some.inj H
 go_enter Try.func77, Try.ntmps77
 go_wp2_with (first | ((with_reducible refine gate_callee (f := 74) rfl ?_); refine goesL_ (some 7) rfl rfl Try.func74 (by kernel_rfl) rfl #[.int .i64 a0, .bool a1, .int .i64 0, .int .u32 0] rfl gl ?_; (with_reducible refine (aZ.calls a0 a1 0 0 t217 _ A3.out).mono ?_); rintro e w' ⟨rfl, ⟨nd, rfl⟩⟩; refine ⟨_, rfl, ?_⟩))
 go_ret
 exact ⟨gr_, gd_⟩


-- NEED 0
/-! ### bits_Len64: function 100 -/
def bits_Len64.j0 : Nat → Int → Int → Option (Int)
 |0, _, _ => none
 |k + 1, x0, x2 => if x0 ≥ 65536 then (if (x0 / 65536) ≥ 256 then (if 0 ≤ (((x0 / 65536) / 256) % 256) then (if (((x0 / 65536) / 256) % 256) < 256 then (some (wrap64 ((wrap64 ((wrap64 (x2 + 16)) + 8)) + (wrap64 (bt (⟨#[0, 1, 2, 2, 3, 3, 3, 3, 4, 4, 4, 4, 4, 4, 4, 4, 5, 5, 5, 5, 5, 5, 5, 5, 5, 5, 5, 5, 5, 5, 5, 5, 6, 6, 6, 6, 6, 6, 6, 6, 6, 6, 6, 6, 6, 6, 6, 6, 6, 6, 6, 6, 6, 6, 6, 6, 6, 6, 6, 6, 6, 6, 6, 6, 7, 7, 7, 7, 7, 7, 7, 7, 7, 7, 7, 7, 7, 7, 7, 7, 7, 7, 7, 7, 7, 7, 7, 7, 7, 7, 7, 7, 7, 7, 7, 7, 7, 7, 7, 7, 7, 7, 7, 7, 7, 7, 7, 7, 7, 7, 7, 7, 7, 7, 7, 7, 7, 7, 7, 7, 7, 7, 7, 7, 7, 7, 7, 7, 8, 8, 8, 8, 8, 8, 8, 8, 8, 8, 8, 8, 8, 8, 8, 8, 8, 8, 8, 8, 8, 8, 8, 8, 8, 8, 8, 8, 8, 8, 8, 8, 8, 8, 8, 8, 8, 8, 8, 8, 8, 8, 8, 8, 8, 8, 8, 8, 8, 8, 8, 8, 8, 8, 8, 8, 8, 8, 8, 8, 8, 8, 8, 8, 8, 8, 8, 8, 8, 8, 8, 8, 8, 8, 8, 8, 8, 8, 8, 8, 8, 8, 8, 8, 8, 8, 8, 8, 8, 8, 8, 8, 8, 8, 8, 8, 8, 8, 8, 8, 8, 8, 8, 8, 8, 8, 8, 8, 8, 8, 8, 8, 8, 8, 8, 8, 8, 8, 8, 8, 8, 8, 8, 8, 8, 8, 8, 8]⟩ : ByteArray) (((x0 / 65536) / 256) % 256)))))) else (none)) else (none)) else (if 0 ≤ ((x0 / 65536) % 256) then (if ((x0 / 65536) % 256) < 256 then (some (wrap64 ((wrap64 (x2 + 16)) + (wrap64 (bt (⟨#[0, 1, 2, 2, 3, 3, 3, 3, 4, 4, 4, 4, 4, 4, 4, 4, 5, 5, 5, 5, 5, 5, 5, 5, 5, 5, 5, 5, 5, 5, 5, 5, 6, 6, 6, 6, 6, 6, 6, 6, 6, 6, 6, 6, 6, 6, 6, 6, 6, 6, 6, 6, 6, 6, 6, 6, 6, 6, 6, 6, 6, 6, 6, 6, 7, 7, 7, 7, 7, 7, 7, 7, 7, 7, 7, 7, 7, 7, 7, 7, 7, 7, 7, 7, 7, 7, 7, 7, 7, 7, 7, 7, 7, 7, 7, 7, 7, 7, 7, 7, 7, 7, 7, 7, 7, 7, 7, 7, 7, 7, 7, 7, 7, 7, 7, 7, 7, 7, 7, 7, 7, 7, 7, 7, 7, 7, 7, 7, 8, 8, 8, 8, 8, 8, 8, 8, 8, 8, 8, 8, 8, 8, 8, 8, 8, 8, 8, 8, 8, 8, 8, 8, 8, 8, 8, 8, 8, 8, 8, 8, 8, 8, 8, 8, 8, 8, 8, 8, 8, 8, 8, 8, 8, 8, 8, 8, 8, 8, 8, 8, 8, 8, 8, 8, 8, 8, 8, 8, 8, 8, 8, 8, 8, 8, 8, 8, 8, 8, 8, 8, 8, 8, 8, 8, 8, 8, 8, 8, 8, 8, 8, 8, 8, 8, 8, 8, 8, 8, 8, 8, 8, 8, 8, 8, 8, 8, 8, 8, 8, 8, 8, 8, 8, 8, 8, 8, 8, 8, 8, 8, 8, 8, 8, 8, 8, 8, 8, 8, 8, 8, 8, 8, 8, 8, 8, 8]⟩ : ByteArray) ((x0 / 65536) % 256)))))) else (none)) else (none))) else (if x0 ≥ 256 then (if 0 ≤ ((x0 / 256) % 256) then (if ((x0 / 256) % 256) < 256 then (some (wrap64 ((wrap64 (x2 + 8)) + (wrap64 (bt (⟨#[0, 1, 2, 2, 3, 3, 3, 3, 4, 4, 4, 4, 4, 4, 4, 4, 5, 5, 5, 5, 5, 5, 5, 5, 5, 5, 5, 5, 5, 5, 5, 5, 6, 6, 6, 6, 6, 6, 6, 6, 6, 6, 6, 6, 6, 6, 6, 6, 6, 6, 6, 6, 6, 6, 6, 6, 6, 6, 6, 6, 6, 6, 6, 6, 7, 7, 7, 7, 7, 7, 7, 7, 7, 7, 7, 7, 7, 7, 7, 7, 7, 7, 7, 7, 7, 7, 7, 7, 7, 7, 7, 7, 7, 7, 7, 7, 7, 7, 7, 7, 7, 7, 7, 7, 7, 7, 7, 7, 7, 7, 7, 7, 7, 7, 7, 7, 7, 7, 7, 7, 7, 7, 7, 7, 7, 7, 7, 7, 8, 8, 8, 8, 8, 8, 8, 8, 8, 8, 8, 8, 8, 8, 8, 8, 8, 8, 8, 8, 8, 8, 8, 8, 8, 8, 8, 8, 8, 8, 8, 8, 8, 8, 8, 8, 8, 8, 8, 8, 8, 8, 8, 8, 8, 8, 8, 8, 8, 8, 8, 8, 8, 8, 8, 8, 8, 8, 8, 8, 8, 8, 8, 8, 8, 8, 8, 8, 8, 8, 8, 8, 8, 8, 8, 8, 8, 8, 8, 8, 8, 8, 8, 8, 8, 8, 8, 8, 8, 8, 8, 8, 8, 8, 8, 8, 8, 8, 8, 8, 8, 8, 8, 8, 8, 8, 8, 8, 8, 8, 8, 8, 8, 8, 8, 8, 8, 8, 8, 8, 8, 8, 8, 8, 8, 8, 8, 8]⟩ : ByteArray) ((x0 / 256) % 256)))))) else (none)) else (none)) else (if 0 ≤ ((x0) % 256) then (if ((x0) % 256) < 256 then (some (wrap64 (x2 + (wrap64 (bt (⟨#[0, 1, 2, 2, 3, 3, 3, 3, 4, 4, 4, 4, 4, 4, 4, 4, 5, 5, 5, 5, 5, 5, 5, 5, 5, 5, 5, 5, 5, 5, 5, 5, 6, 6, 6, 6, 6, 6, 6, 6, 6, 6, 6, 6, 6, 6, 6, 6, 6, 6, 6, 6, 6, 6, 6, 6, 6, 6, 6, 6, 6, 6, 6, 6, 7, 7, 7, 7, 7, 7, 7, 7, 7, 7, 7, 7, 7, 7, 7, 7, 7, 7, 7, 7, 7, 7, 7, 7, 7, 7, 7, 7, 7, 7, 7, 7, 7, 7, 7, 7, 7, 7, 7, 7, 7, 7, 7, 7, 7, 7, 7, 7, 7, 7, 7, 7, 7, 7, 7, 7, 7, 7, 7, 7, 7, 7, 7, 7, 8, 8, 8, 8, 8, 8, 8, 8, 8, 8, 8, 8, 8, 8, 8, 8, 8, 8, 8, 8, 8, 8, 8, 8, 8, 8, 8, 8, 8, 8, 8, 8, 8, 8, 8, 8, 8, 8, 8, 8, 8, 8, 8, 8, 8, 8, 8, 8, 8, 8, 8, 8, 8, 8, 8, 8, 8, 8, 8, 8, 8, 8, 8, 8, 8, 8, 8, 8, 8, 8, 8, 8, 8, 8, 8, 8, 8, 8, 8, 8, 8, 8, 8, 8, 8, 8, 8, 8, 8, 8, 8, 8, 8, 8, 8, 8, 8, 8, 8, 8, 8, 8, 8, 8, 8, 8, 8, 8, 8, 8, 8, 8, 8, 8, 8, 8, 8, 8, 8, 8, 8, 8, 8, 8, 8, 8, 8, 8]⟩ : ByteArray) ((x0) % 256)))))) else (none)) else (none)))
def bits_Len64.f (k : Nat) (a0 : Int) : Option (Int) := if a0 ≥ 4294967296 then (bits_Len64.j0 k (a0 / 4294967296) 32) else (bits_Len64.j0 k a0 0)
theorem bits_Len64.fU : ∀ k, (∀ y0 y1, LeO (bits_Len64.j0 k y0 y1) (bits_Len64.j0 (k + 1) y0 y1))
 |0 => fun _ _ r h => by simp [bits_Len64.j0] at h
 |k + 1 => by
  have ih0 := bits_Len64.fU k
  ·intro y0 y1
   unfold bits_Len64.j0
   repeat' first
   |(with_reducible first|exact ih0 _ _|exact LeO.refl _|exact LeO.none _|refine LeO.ite ?_ ?_|refine LeO.bind ?_ (fun _ => ?_))
   |exact ih0 _ _
   |exact LeO.none _
   |refine LeO.ite ?_ ?_
   |refine LeO.bind ?_ (fun _ => ?_)
theorem bits_Len64.mono : ∀ a0 k, LeO (bits_Len64.f k a0) (bits_Len64.f (k + 1) a0) := by
 intro a0 k
 have ih0 := bits_Len64.fU k
 unfold bits_Len64.f
 repeat' first
   |(with_reducible first|exact ih0 _ _|exact LeO.refl _|exact LeO.none _|refine LeO.ite ?_ ?_|refine LeO.bind ?_ (fun _ => ?_))
   |exact ih0 _ _
   |exact LeO.none _
   |refine LeO.ite ?_ ?_
   |refine LeO.bind ?_ (fun _ => ?_)
theorem bits_Len64.calls (k : Nat) (a0 r : Int) (w : World) (h : bits_Len64.f k a0 = some r) :
  Calls Try.prog 100 #[.int .u64 a0] w fun e w' => e = .returned (.int .i64 r) ∧ Drawn0 w w' := by
 have H : (if a0 ≥ 4294967296 then (bits_Len64.j0 k (a0 / 4294967296) 32) else (bits_Len64.j0 k a0 0)) = some r := h
 clear h
 have HC2 := Aside0.mk H
 clear H
 go_enter Try.func100, Try.ntmps100
 go_upto_if 4 with (fail)
 go_cut [0, 2] (fun v0 v2 wc => ∃ (kq : Nat) (x0_1 : Int) (x2_1 : Int), v0 = .int .u64 x0_1 ∧ v2 = .int .i64 x2_1 ∧ Aside0 (bits_Len64.j0 kq x0_1 x2_1 = some r) ∧ Aside0 (kq ≤ k) ∧ Drawn0 w wc)
 case first =>
  have H := HC2.out
  clear HC2
  by_cases c3 : a0 ≥ 4294967296
  ·rw [if_pos c3] at H
   have c3b0 : decide (4294967296 ≤ a0) = true := decide_eq_true c3
   clear c3
   (first | rw [c3b0] | (simp only [i64_w, i32_w]; rw [c3b0]) | skip)
   have H' := Aside0.mk H
   clear H
   go_wp2
   go_meet
   case rel => exact ⟨_, (a0 / 4294967296), (32), (gr_), (gr_), H', ⟨by first | omega | exact Nat.le_refl _⟩, gd_⟩
  ·rw [if_neg c3] at H
   have c3b0 : decide (4294967296 ≤ a0) = false := decide_eq_false c3
   clear c3
   (first | rw [c3b0] | (simp only [i64_w, i32_w]; rw [c3b0]) | skip)
   have H' := Aside0.mk H
   clear H
   go_wp2
   go_meet
   case rel => exact ⟨_, (a0), (0), (gr_), (gr_), H', ⟨by first | omega | exact Nat.le_refl _⟩, gd_⟩
 case rest =>
  clear HC2
  try clear c1 p2 c3 c3b0
  obtain ⟨kq, x0_1, x2_1, rfl, rfl, HA, HJ1, ⟨mc1, rfl⟩⟩ := hcut
  cases kq with
  |zero => exact absurd HA.out (by simp [bits_Len64.j0])
  |succ kj1 =>
   have H := HA.out
   clear HA
   simp only [bits_Len64.j0] at H
   by_cases c4 : x0_1 ≥ 65536
   ·rw [if_pos c4] at H
    have c4b0 : decide (65536 ≤ x0_1) = true := decide_eq_true c4
    clear c4
    by_cases c5 : (x0_1 / 65536) ≥ 256
    ·rw [if_pos c5] at H
     have c5b0 : decide (256 ≤ (x0_1 / 65536)) = true := decide_eq_true c5
     clear c5
     obtain ⟨ji6, hji6⟩ : ∃ j_ : Int, (((x0_1 / 65536) / 256) % 256) = j_ := ⟨_, rfl⟩
     replace H : (if 0 ≤ (ji6) then (if (ji6) < 256 then (some (wrap64 ((wrap64 ((wrap64 (x2_1 + 16)) + 8)) + (wrap64 (bt (⟨#[0, 1, 2, 2, 3, 3, 3, 3, 4, 4, 4, 4, 4, 4, 4, 4, 5, 5, 5, 5, 5, 5, 5, 5, 5, 5, 5, 5, 5, 5, 5, 5, 6, 6, 6, 6, 6, 6, 6, 6, 6, 6, 6, 6, 6, 6, 6, 6, 6, 6, 6, 6, 6, 6, 6, 6, 6, 6, 6, 6, 6, 6, 6, 6, 7, 7, 7, 7, 7, 7, 7, 7, 7, 7, 7, 7, 7, 7, 7, 7, 7, 7, 7, 7, 7, 7, 7, 7, 7, 7, 7, 7, 7, 7, 7, 7, 7, 7, 7, 7, 7, 7, 7, 7, 7, 7, 7, 7, 7, 7, 7, 7, 7, 7, 7, 7, 7, 7, 7, 7, 7, 7, 7, 7, 7, 7, 7, 7, 8, 8, 8, 8, 8, 8, 8, 8, 8, 8, 8, 8, 8, 8, 8, 8, 8, 8, 8, 8, 8, 8, 8, 8, 8, 8, 8, 8, 8, 8, 8, 8, 8, 8, 8, 8, 8, 8, 8, 8, 8, 8, 8, 8, 8, 8, 8, 8, 8, 8, 8, 8, 8, 8, 8, 8, 8, 8, 8, 8, 8, 8, 8, 8, 8, 8, 8, 8, 8, 8, 8, 8, 8, 8, 8, 8, 8, 8, 8, 8, 8, 8, 8, 8, 8, 8, 8, 8, 8, 8, 8, 8, 8, 8, 8, 8, 8, 8, 8, 8, 8, 8, 8, 8, 8, 8, 8, 8, 8, 8, 8, 8, 8, 8, 8, 8, 8, 8, 8, 8, 8, 8, 8, 8, 8, 8, 8, 8]⟩ : ByteArray) (ji6)))))) else (none)) else (none)) = some r := by first | (rw [hji6] at H; exact H) | (simp only [hji6] at H ⊢; exact H)
     by_cases c7 : 0 ≤ (ji6)
     ·rw [if_pos c7] at H
      have c7b0 : decide (0 ≤ (ji6)) = true := decide_eq_true c7
      clear c7
      by_cases c8 : (ji6) < 256
      ·rw [if_pos c8] at H
       have c8b0 : decide ((ji6) < 256) = true := decide_eq_true c8
       clear c8
       obtain rfl := Option.some.inj H
       have p9 : 0 ≤ ((ji6) : Int) := of_decide_eq_true (by first | (with_reducible assumption) | assumption)
       have q9 : (ji6) < (256 : Int) := of_decide_eq_true (by first | (with_reducible assumption) | assumption)
       have hx9 := bt_at (⟨#[0, 1, 2, 2, 3, 3, 3, 3, 4, 4, 4, 4, 4, 4, 4, 4, 5, 5, 5, 5, 5, 5, 5, 5, 5, 5, 5, 5, 5, 5, 5, 5, 6, 6, 6, 6, 6, 6, 6, 6, 6, 6, 6, 6, 6, 6, 6, 6, 6, 6, 6, 6, 6, 6, 6, 6, 6, 6, 6, 6, 6, 6, 6, 6, 7, 7, 7, 7, 7, 7, 7, 7, 7, 7, 7, 7, 7, 7, 7, 7, 7, 7, 7, 7, 7, 7, 7, 7, 7, 7, 7, 7, 7, 7, 7, 7, 7, 7, 7, 7, 7, 7, 7, 7, 7, 7, 7, 7, 7, 7, 7, 7, 7, 7, 7, 7, 7, 7, 7, 7, 7, 7, 7, 7, 7, 7, 7, 7, 8, 8, 8, 8, 8, 8, 8, 8, 8, 8, 8, 8, 8, 8, 8, 8, 8, 8, 8, 8, 8, 8, 8, 8, 8, 8, 8, 8, 8, 8, 8, 8, 8, 8, 8, 8, 8, 8, 8, 8, 8, 8, 8, 8, 8, 8, 8, 8, 8, 8, 8, 8, 8, 8, 8, 8, 8, 8, 8, 8, 8, 8, 8, 8, 8, 8, 8, 8, 8, 8, 8, 8, 8, 8, 8, 8, 8, 8, 8, 8, 8, 8, 8, 8, 8, 8, 8, 8, 8, 8, 8, 8, 8, 8, 8, 8, 8, 8, 8, 8, 8, 8, 8, 8, 8, 8, 8, 8, 8, 8, 8, 8, 8, 8, 8, 8, 8, 8, 8, 8, 8, 8, 8, 8, 8, 8, 8, 8]⟩ : ByteArray) (ji6)
       replace p9 := eq_true p9
       replace q9 := eq_true q9
       go_wp2
       go_ret
       exact ⟨by first | rfl | (simp; done) | (simp only [← hji6] <;> (first | rfl | (simp; done))) | (simp [*]; done) | (congr 1; (try unfold wrap64); omega) | (congr 1; rw [IntKind.wrap_u64]; omega), gd_⟩
      ·rw [if_neg c8] at H
       exact absurd H (by simp)
     ·rw [if_neg c7] at H
      exact absurd H (by simp)
    ·rw [if_neg c5] at H
     have c5b0 : decide (256 ≤ (x0_1 / 65536)) = false := decide_eq_false c5
     clear c5
     obtain ⟨ji10, hji10⟩ : ∃ j_ : Int, ((x0_1 / 65536) % 256) = j_ := ⟨_, rfl⟩
     replace H : (if 0 ≤ (ji10) then (if (ji10) < 256 then (some (wrap64 ((wrap64 (x2_1 + 16)) + (wrap64 (bt (⟨#[0, 1, 2, 2, 3, 3, 3, 3, 4, 4, 4, 4, 4, 4, 4, 4, 5, 5, 5, 5, 5, 5, 5, 5, 5, 5, 5, 5, 5, 5, 5, 5, 6, 6, 6, 6, 6, 6, 6, 6, 6, 6, 6, 6, 6, 6, 6, 6, 6, 6, 6, 6, 6, 6, 6, 6, 6, 6, 6, 6, 6, 6, 6, 6, 7, 7, 7, 7, 7, 7, 7, 7, 7, 7, 7, 7, 7, 7, 7, 7, 7, 7, 7, 7, 7, 7, 7, 7, 7, 7, 7, 7, 7, 7, 7, 7, 7, 7, 7, 7, 7, 7, 7, 7, 7, 7, 7, 7, 7, 7, 7, 7, 7, 7, 7, 7, 7, 7, 7, 7, 7, 7, 7, 7, 7, 7, 7, 7, 8, 8, 8, 8, 8, 8, 8, 8, 8, 8, 8, 8, 8, 8, 8, 8, 8, 8, 8, 8, 8, 8, 8, 8, 8, 8, 8, 8, 8, 8, 8, 8, 8, 8, 8, 8, 8, 8, 8, 8, 8, 8, 8, 8, 8, 8, 8, 8, 8, 8, 8, 8, 8, 8, 8, 8, 8, 8, 8, 8, 8, 8, 8, 8, 8, 8, 8, 8, 8, 8, 8, 8, 8, 8, 8, 8, 8, 8, 8, 8, 8, 8, 8, 8, 8, 8, 8, 8, 8, 8, 8, 8, 8, 8, 8, 8, 8, 8, 8, 8, 8, 8, 8, 8, 8, 8, 8, 8, 8, 8, 8, 8, 8, 8, 8, 8, 8, 8, 8, 8, 8, 8, 8, 8, 8, 8, 8, 8]⟩ : ByteArray) (ji10)))))) else (none)) else (none)) = some r := by first | (rw [hji10] at H; exact H) | (simp only [hji10] at H ⊢; exact H)
     by_cases c11 : 0 ≤ (ji10)
     ·rw [if_pos c11] at H
      have c11b0 : decide (0 ≤ (ji10)) = true := decide_eq_true c11
      clear c11
      by_cases c12 : (ji10) < 256
      ·rw [if_pos c12] at H
       have c12b0 : decide ((ji10) < 256) = true := decide_eq_true c12
       clear c12
       obtain rfl := Option.some.inj H
       have p13 : 0 ≤ ((ji10) : Int) := of_decide_eq_true (by first | (with_reducible assumption) | assumption)
       have q13 : (ji10) < (256 : Int) := of_decide_eq_true (by first | (with_reducible assumption) | assumption)
       have hx13 := bt_at (⟨#[0, 1, 2, 2, 3, 3, 3, 3, 4, 4, 4, 4, 4, 4, 4, 4, 5, 5, 5, 5, 5, 5, 5, 5, 5, 5, 5, 5, 5, 5, 5, 5, 6, 6, 6, 6, 6, 6, 6, 6, 6, 6, 6, 6, 6, 6, 6, 6, 6, 6, 6, 6, 6, 6, 6, 6, 6, 6, 6, 6, 6, 6, 6, 6, 7, 7, 7, 7, 7, 7, 7, 7, 7, 7, 7, 7, 7, 7, 7, 7, 7, 7, 7, 7, 7, 7, 7, 7, 7, 7, 7, 7, 7, 7, 7, 7, 7, 7, 7, 7, 7, 7, 7, 7, 7, 7, 7, 7, 7, 7, 7, 7, 7, 7, 7, 7, 7, 7, 7, 7, 7, 7, 7, 7, 7, 7, 7, 7, 8, 8, 8, 8, 8, 8, 8, 8, 8, 8, 8, 8, 8, 8, 8, 8, 8, 8, 8, 8, 8, 8, 8, 8, 8, 8, 8, 8, 8, 8, 8, 8, 8, 8, 8, 8, 8, 8, 8, 8, 8, 8, 8, 8, 8, 8, 8, 8, 8, 8, 8, 8, 8, 8, 8, 8, 8, 8, 8, 8, 8, 8, 8, 8, 8, 8, 8, 8, 8, 8, 8, 8, 8, 8, 8, 8, 8, 8, 8, 8, 8, 8, 8, 8, 8, 8, 8, 8, 8, 8, 8, 8, 8, 8, 8, 8, 8, 8, 8, 8, 8, 8, 8, 8, 8, 8, 8, 8, 8, 8, 8, 8, 8, 8, 8, 8, 8, 8, 8, 8, 8, 8, 8, 8, 8, 8, 8, 8]⟩ : ByteArray) (ji10)
       replace p13 := eq_true p13
       replace q13 := eq_true q13
       go_wp2
       go_ret
       exact ⟨by first | rfl | (simp; done) | (simp only [← hji10] <;> (first | rfl | (simp; done))) | (simp [*]; done) | (congr 1; (try unfold wrap64); omega) | (congr 1; rw [IntKind.wrap_u64]; omega), gd_⟩
      ·rw [if_neg c12] at H
       exact absurd H (by simp)
     ·rw [if_neg c11] at H
      exact absurd H (by simp)
   ·rw [if_neg c4] at H
    have c4b0 : decide (65536 ≤ x0_1) = false := decide_eq_false c4
    clear c4
    by_cases c14 : x0_1 ≥ 256
    ·rw [if_pos c14] at H
     have c14b0 : decide (256 ≤ x0_1) = true := decide_eq_true c14
     clear c14
     obtain ⟨ji15, hji15⟩ : ∃ j_ : Int, ((x0_1 / 256) % 256) = j_ := ⟨_, rfl⟩
     replace H : (if 0 ≤ (ji15) then (if (ji15) < 256 then (some (wrap64 ((wrap64 (x2_1 + 8)) + (wrap64 (bt (⟨#[0, 1, 2, 2, 3, 3, 3, 3, 4, 4, 4, 4, 4, 4, 4, 4, 5, 5, 5, 5, 5, 5, 5, 5, 5, 5, 5, 5, 5, 5, 5, 5, 6, 6, 6, 6, 6, 6, 6, 6, 6, 6, 6, 6, 6, 6, 6, 6, 6, 6, 6, 6, 6, 6, 6, 6, 6, 6, 6, 6, 6, 6, 6, 6, 7, 7, 7, 7, 7, 7, 7, 7, 7, 7, 7, 7, 7, 7, 7, 7, 7, 7, 7, 7, 7, 7, 7, 7, 7, 7, 7, 7, 7, 7, 7, 7, 7, 7, 7, 7, 7, 7, 7, 7, 7, 7, 7, 7, 7, 7, 7, 7, 7, 7, 7, 7, 7, 7, 7, 7, 7, 7, 7, 7, 7, 7, 7, 7, 8, 8, 8, 8, 8, 8, 8, 8, 8, 8, 8, 8, 8, 8, 8, 8, 8, 8, 8, 8, 8, 8, 8, 8, 8, 8, 8, 8, 8, 8, 8, 8, 8, 8, 8, 8, 8, 8, 8, 8, 8, 8, 8, 8, 8, 8, 8, 8, 8, 8, 8, 8, 8, 8, 8, 8, 8, 8, 8, 8, 8, 8, 8, 8, 8, 8, 8, 8, 8, 8, 8, 8, 8, 8, 8, 8, 8, 8, 8, 8, 8, 8, 8, 8, 8, 8, 8, 8, 8, 8, 8, 8, 8, 8, 8, 8, 8, 8, 8, 8, 8, 8, 8, 8, 8, 8, 8, 8, 8, 8, 8, 8, 8, 8, 8, 8, 8, 8, 8, 8, 8, 8, 8, 8, 8, 8, 8, 8]⟩ : ByteArray) (ji15)))))) else (none)) else (none)) = some r := by first | (rw [hji15] at H; exact H) | (simp only [hji15] at H ⊢; exact H)
     by_cases c16 : 0 ≤ (ji15)
     ·rw [if_pos c16] at H
      have c16b0 : decide (0 ≤ (ji15)) = true := decide_eq_true c16
      clear c16
      by_cases c17 : (ji15) < 256
      ·rw [if_pos c17] at H
       have c17b0 : decide ((ji15) < 256) = true := decide_eq_true c17
       clear c17
       obtain rfl := Option.some.inj H
       have p18 : 0 ≤ ((ji15) : Int) := of_decide_eq_true (by first | (with_reducible assumption) | assumption)
       have q18 : (ji15) < (256 : Int) := of_decide_eq_true (by first | (with_reducible assumption) | assumption)
       have hx18 := bt_at (⟨#[0, 1, 2, 2, 3, 3, 3, 3, 4, 4, 4, 4, 4, 4, 4, 4, 5, 5, 5, 5, 5, 5, 5, 5, 5, 5, 5, 5, 5, 5, 5, 5, 6, 6, 6, 6, 6, 6, 6, 6, 6, 6, 6, 6, 6, 6, 6, 6, 6, 6, 6, 6, 6, 6, 6, 6, 6, 6, 6, 6, 6, 6, 6, 6, 7, 7, 7, 7, 7, 7, 7, 7, 7, 7, 7, 7, 7, 7, 7, 7, 7, 7, 7, 7, 7, 7, 7, 7, 7, 7, 7, 7, 7, 7, 7, 7, 7, 7, 7, 7, 7, 7, 7, 7, 7, 7, 7, 7, 7, 7, 7, 7, 7, 7, 7, 7, 7, 7, 7, 7, 7, 7, 7, 7, 7, 7, 7, 7, 8, 8, 8, 8, 8, 8, 8, 8, 8, 8, 8, 8, 8, 8, 8, 8, 8, 8, 8, 8, 8, 8, 8, 8, 8, 8, 8, 8, 8, 8, 8, 8, 8, 8, 8, 8, 8, 8, 8, 8, 8, 8, 8, 8, 8, 8, 8, 8, 8, 8, 8, 8, 8, 8, 8, 8, 8, 8, 8, 8, 8, 8, 8, 8, 8, 8, 8, 8, 8, 8, 8, 8, 8, 8, 8, 8, 8, 8, 8, 8, 8, 8, 8, 8, 8, 8, 8, 8, 8, 8, 8, 8, 8, 8, 8, 8, 8, 8, 8, 8, 8, 8, 8, 8, 8, 8, 8, 8, 8, 8, 8, 8, 8, 8, 8, 8, 8, 8, 8, 8, 8, 8, 8, 8, 8, 8, 8, 8]⟩ : ByteArray) (ji15)
       replace p18 := eq_true p18
       replace q18 := eq_true q18
       go_wp2
       go_ret
       exact ⟨by first | rfl | (simp; done) | (simp only [← hji15] <;> (first | rfl | (simp; done))) | (simp [*]; done) | (congr 1; (try unfold wrap64); omega) | (congr 1; rw [IntKind.wrap_u64]; omega), gd_⟩
      ·rw [if_neg c17] at H
       exact absurd H (by simp)
     ·rw [if_neg c16] at H
      exact absurd H (by simp)
    ·rw [if_neg c14] at H
     have c14b0 : decide (256 ≤ x0_1) = false := decide_eq_false c14
     clear c14
     obtain ⟨ji19, hji19⟩ : ∃ j_ : Int, ((x0_1) % 256) = j_ := ⟨_, rfl⟩
     replace H : (if 0 ≤ (ji19) then (if (ji19) < 256 then (some (wrap64 (x2_1 + (wrap64 (bt (⟨#[0, 1, 2, 2, 3, 3, 3, 3, 4, 4, 4, 4, 4, 4, 4, 4, 5, 5, 5, 5, 5, 5, 5, 5, 5, 5, 5, 5, 5, 5, 5, 5, 6, 6, 6, 6, 6, 6, 6, 6, 6, 6, 6, 6, 6, 6, 6, 6, 6, 6, 6, 6, 6, 6, 6, 6, 6, 6, 6, 6, 6, 6, 6, 6, 7, 7, 7, 7, 7, 7, 7, 7, 7, 7, 7, 7, 7, 7, 7, 7, 7, 7, 7, 7, 7, 7, 7, 7, 7, 7, 7, 7, 7, 7, 7, 7, 7, 7, 7, 7, 7, 7, 7, 7, 7, 7, 7, 7, 7, 7, 7, 7, 7, 7, 7, 7, 7, 7, 7, 7, 7, 7, 7, 7, 7, 7, 7, 7, 8, 8, 8, 8, 8, 8, 8, 8, 8, 8, 8, 8, 8, 8, 8, 8, 8, 8, 8, 8, 8, 8, 8, 8, 8, 8, 8, 8, 8, 8, 8, 8, 8, 8, 8, 8, 8, 8, 8, 8, 8, 8, 8, 8, 8, 8, 8, 8, 8, 8, 8, 8, 8, 8, 8, 8, 8, 8, 8, 8, 8, 8, 8, 8, 8, 8, 8, 8, 8, 8, 8, 8, 8, 8, 8, 8, 8, 8, 8, 8, 8, 8, 8, 8, 8, 8, 8, 8, 8, 8, 8, 8, 8, 8, 8, 8, 8, 8, 8, 8, 8, 8, 8, 8, 8, 8, 8, 8, 8, 8, 8, 8, 8, 8, 8, 8, 8, 8, 8, 8, 8, 8, 8, 8, 8, 8, 8, 8]⟩ : ByteArray) (ji19)))))) else (none)) else (none)) = some r := by first | (rw [hji19] at H; exact H) | (simp only [hji19] at H ⊢; exact H)
     by_cases c20 : 0 ≤ (ji19)
     ·rw [if_pos c20] at H
      have c20b0 : decide (0 ≤ (ji19)) = true := decide_eq_true c20
      clear c20
      by_cases c21 : (ji19) < 256
      ·rw [if_pos c21] at H
       have c21b0 : decide ((ji19) < 256) = true := decide_eq_true c21
       clear c21
       obtain rfl := Option.some.inj H
       have p22 : 0 ≤ ((ji19) : Int) := of_decide_eq_true (by first | (with_reducible assumption) | assumption)
       have q22 : (ji19) < (256 : Int) := of_decide_eq_true (by first | (with_reducible assumption) | assumption)
       have hx22 := bt_at (⟨#[0, 1, 2, 2, 3, 3, 3, 3, 4, 4, 4, 4, 4, 4, 4, 4, 5, 5, 5, 5, 5, 5, 5, 5, 5, 5, 5, 5, 5, 5, 5, 5, 6, 6, 6, 6, 6, 6, 6, 6, 6, 6, 6, 6, 6, 6, 6, 6, 6, 6, 6, 6, 6, 6, 6, 6, 6, 6, 6, 6, 6, 6, 6, 6, 7, 7, 7, 7, 7, 7, 7, 7, 7, 7, 7, 7, 7, 7, 7, 7, 7, 7, 7, 7, 7, 7, 7, 7, 7, 7, 7, 7, 7, 7, 7, 7, 7, 7, 7, 7, 7, 7, 7, 7, 7, 7, 7, 7, 7, 7, 7, 7, 7, 7, 7, 7, 7, 7, 7, 7, 7, 7, 7, 7, 7, 7, 7, 7, 8, 8, 8, 8, 8, 8, 8, 8, 8, 8, 8, 8, 8, 8, 8, 8, 8, 8, 8, 8, 8, 8, 8, 8, 8, 8, 8, 8, 8, 8, 8, 8, 8, 8, 8, 8, 8, 8, 8, 8, 8, 8, 8, 8, 8, 8, 8, 8, 8, 8, 8, 8, 8, 8, 8, 8, 8, 8, 8, 8, 8, 8, 8, 8, 8, 8, 8, 8, 8, 8, 8, 8, 8, 8, 8, 8, 8, 8, 8, 8, 8, 8, 8, 8, 8, 8, 8, 8, 8, 8, 8, 8, 8, 8, 8, 8, 8, 8, 8, 8, 8, 8, 8, 8, 8, 8, 8, 8, 8, 8, 8, 8, 8, 8, 8, 8, 8, 8, 8, 8, 8, 8, 8, 8, 8, 8, 8, 8]⟩ : ByteArray) (ji19)
       replace p22 := eq_true p22
       replace q22 := eq_true q22
       go_wp2
       go_ret
       exact ⟨by first | rfl | (simp; done) | (simp only [← hji19] <;> (first | rfl | (simp; done))) | (simp [*]; done) | (congr 1; (try unfold wrap64); omega) | (congr 1; rw [IntKind.wrap_u64]; omega), gd_⟩
      ·rw [if_neg c21] at H
       exact absurd H (by simp)
     ·rw [if_neg c20] at H
      exact absurd H (by simp)

-- NEED 0
/-! ### bits_Len: function 84 -/
def bits_Len.f (k : Nat) (a0 : Int) : Option (Int) := (bits_Len64.f k a0).bind fun t218 => (some t218)
theorem bits_Len.mono : ∀ a0 k, LeO (bits_Len.f k a0) (bits_Len.f (k + 1) a0) := by
 intro a0 k
 unfold bits_Len.f
 repeat' first
   |(with_reducible first|exact bits_Len64.mono _ _|exact LeO.refl _|exact LeO.none _|refine LeO.ite ?_ ?_|refine LeO.bind ?_ (fun _ => ?_))
   |exact bits_Len64.mono _ _
   |exact LeO.none _
   |refine LeO.ite ?_ ?_
   |refine LeO.bind ?_ (fun _ => ?_)
theorem bits_Len.calls (k : Nat) (a0 r : Int) (w : World) (h : bits_Len.f k a0 = some r) :
  Calls Try.prog 84 #[.int .u64 a0] w fun e w' => e = .returned (.int .i64 r) ∧ Drawn0 w w' := by
 have H : ((bits_Len64.f k a0).bind fun t218 => (some t218)) = some r := h
 clear h
 replace H := bq_ H
 obtain ⟨t218, A20, H⟩ := H
 replace H : (some t218) = some r := H
 have A2 := Aside0.mk A20
 clear A20
 obtain rfl := Option.some.inj H
 go_enter Try.func84, Try.ntmps84
 go_wp2_with (first | ((with_reducible refine gate_callee (f := 100) rfl ?_); refine goesL_ (some 4) rfl rfl Try.func100 (by kernel_rfl) rfl #[.int .u64 a0] rfl gl ?_; (with_reducible refine (bits_Len64.calls k a0 t218 _ A2.out).mono ?_); rintro e w' ⟨rfl, ⟨nd, rfl⟩⟩; refine ⟨_, rfl, ?_⟩))
 go_ret
 exact ⟨gr_, gd_⟩

-- NEED 0
/-! ### bN: function 79 -/
def bN.f (k : Nat) (a0 a1 a2 : Int) : Option (Int) := (aR.f a0).bind fun bt219 => ((bE.f a0).bind fun t221 => (if a2 > 0 then ((bits_Len.f k a2).bind fun t222 => (some (wrap64 ((mx t221 (wrap64 ((wrap64 (a1 + t222)) - 1))) - bt219.2)))) else (some (wrap64 (t221 - bt219.2)))))
theorem bN.mono : ∀ a0 a1 a2 k, LeO (bN.f k a0 a1 a2) (bN.f (k + 1) a0 a1 a2) := by
 intro a0 a1 a2 k
 unfold bN.f
 repeat' first
   |(with_reducible first|exact bits_Len.mono _ _|exact LeO.refl _|exact LeO.none _|refine LeO.ite ?_ ?_|refine LeO.bind ?_ (fun _ => ?_))
   |exact bits_Len.mono _ _
   |exact LeO.none _
   |refine LeO.ite ?_ ?_
   |refine LeO.bind ?_ (fun _ => ?_)
theorem bN.calls (k : Nat) (a0 a1 : Int) (a2 r : Int) (w : World) (h : bN.f k a0 a1 a2 = some r) :
  Calls Try.prog 79 #[.int .i64 a0, .int .i64 a1, .int .u64 a2] w fun e w' => e = .returned (.int .i64 r) ∧ Below w.heap.size w w' := by
 have HB := Aside0.mk (Below.refl w.heap.size w)
 have H : ((aR.f a0).bind fun bt219 => ((bE.f a0).bind fun t221 => (if a2 > 0 then ((bits_Len.f k a2).bind fun t222 => (some (wrap64 ((mx t221 (wrap64 ((wrap64 (a1 + t222)) - 1))) - bt219.2)))) else (some (wrap64 (t221 - bt219.2)))))) = some r := h
 clear h
 replace H := bq_ H
 obtain ⟨⟨t219, t220⟩, A40, H⟩ := H
 replace H : ((bE.f a0).bind fun t221 => (if a2 > 0 then ((bits_Len.f k a2).bind fun t222 => (some (wrap64 ((mx t221 (wrap64 ((wrap64 (a1 + t222)) - 1))) - t220)))) else (some (wrap64 (t221 - t220))))) = some r := H
 have A4 := Aside0.mk A40
 clear A40
 replace H := bq_ H
 obtain ⟨t221, A50, H⟩ := H
 replace H : (if a2 > 0 then ((bits_Len.f k a2).bind fun t222 => (some (wrap64 ((mx t221 (wrap64 ((wrap64 (a1 + t222)) - 1))) - t220)))) else (some (wrap64 (t221 - t220)))) = some r := H
 have A5 := Aside0.mk A50
 clear A50
 by_cases c6 : a2 > 0
 ·rw [if_pos c6] at H
  have c6b0 : decide (0 < a2) = true := decide_eq_true c6
  clear c6
  replace H := bq_ H
  obtain ⟨t222, A70, H⟩ := H
  replace H : (some (wrap64 ((mx t221 (wrap64 ((wrap64 (a1 + t222)) - 1))) - t220))) = some r := H
  have A7 := Aside0.mk A70
  clear A70
  obtain ⟨ji8, hji8⟩ : ∃ j_ : Int, (mx t221 (wrap64 ((wrap64 (a1 + t222)) - 1))) = j_ := ⟨_, rfl⟩
  replace H : (some (wrap64 ((ji8) - t220))) = some r := by first | (rw [hji8] at H; exact H) | (simp only [hji8] at H ⊢; exact H)
  (try rw [hji8] at A4)
  (try rw [hji8] at A5)
  (try rw [hji8] at A7)
  have hji8_ : (if t221 < (wrap64 ((wrap64 (a1 + t222)) - 1)) then (wrap64 ((wrap64 (a1 + t222)) - 1)) else t221) = ji8 := hji8
  obtain rfl := Option.some.inj H
  go_enter Try.func79, Try.ntmps79
  go_wp2_with (first | ((with_reducible refine gate_callee (f := 78) rfl ?_); refine goesL_ (some 12) rfl rfl Try.func78 (by kernel_rfl) rfl #[.int .i64 a0] rfl gl ?_; (with_reducible refine (aR.calls a0 t219 t220 _ A4.out).mono ?_); rintro e w' ⟨rfl, ⟨nd, rfl⟩⟩; refine ⟨_, rfl, ?_⟩) | ((with_reducible refine gate_callee (f := 82) rfl ?_); refine goesL_ (some 16) rfl rfl Try.func82 (by kernel_rfl) rfl #[.int .i64 a0] rfl gl ?_; (with_reducible refine (bE.calls a0 t221 _ A5.out).mono ?_); rintro e w' ⟨rfl, ⟨nd, rfl⟩⟩; refine ⟨_, rfl, ?_⟩) | ((with_reducible refine gate_callee (f := 84) rfl ?_); refine goesL_ (some 22) rfl rfl Try.func84 (by kernel_rfl) rfl #[.int .u64 a2] rfl gl ?_; (with_reducible refine (bits_Len.calls k a2 t222 _ A7.out).mono ?_); rintro e w' ⟨rfl, ⟨nd, rfl⟩⟩; refine ⟨_, rfl, ?_⟩))
  go_ret
  exact ⟨by first | rfl | (simp [bK, bL] <;> rfl) | (simp only [← hji8]; first | rfl | (simp [bK, bL] <;> rfl)) | (simp [*, bK, bL] <;> rfl), bl0 HB.out⟩
 ·rw [if_neg c6] at H
  have c6b0 : decide (0 < a2) = false := decide_eq_false c6
  clear c6
  obtain rfl := Option.some.inj H
  go_enter Try.func79, Try.ntmps79
  go_wp2_with (first | ((with_reducible refine gate_callee (f := 78) rfl ?_); refine goesL_ (some 12) rfl rfl Try.func78 (by kernel_rfl) rfl #[.int .i64 a0] rfl gl ?_; (with_reducible refine (aR.calls a0 t219 t220 _ A4.out).mono ?_); rintro e w' ⟨rfl, ⟨nd, rfl⟩⟩; refine ⟨_, rfl, ?_⟩) | ((with_reducible refine gate_callee (f := 82) rfl ?_); refine goesL_ (some 16) rfl rfl Try.func82 (by kernel_rfl) rfl #[.int .i64 a0] rfl gl ?_; (with_reducible refine (bE.calls a0 t221 _ A5.out).mono ?_); rintro e w' ⟨rfl, ⟨nd, rfl⟩⟩; refine ⟨_, rfl, ?_⟩))
  go_ret
  exact ⟨by first | rfl | (simp [bK, bL] <;> rfl) | (simp [*, bK, bL] <;> rfl), bl0 HB.out⟩

end Go.Proofs.Ytfapjegkilljnaa.P
