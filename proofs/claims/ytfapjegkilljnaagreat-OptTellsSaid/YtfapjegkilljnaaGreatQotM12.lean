import Derived.Test.YtfapjegkilljnaaGreatQotPartsN
import Derived.Test.YtfapjegkilljnaaGreatQotM11
import Derived.Test.YtfapjegkilljnaaGreatQotM9
import Derived.Test.YtfapjegkilljnaaGreatQotZ
import Derived.Test.YtfapjegkilljnaaGreatQotM5
import Derived.Test.YtfapjegkilljnaaGreatQotM4
import Derived.Test.YtfapjegkilljnaaGreatProg
import Derived.Test.YtfapjegkilljnaaGreatQotM7
import Derived.Test.YtfapjegkilljnaaGreatQotM8
import Derived.Test.YtfapjegkilljnaaGreatQotM6
import Derived.Test.YtfapjegkilljnaaGreatQotM10
/- Bounds of single numbers: sums, products, quotients of what is bounded: plain numbers alone. -/
set_option linter.unusedVariables false
set_option linter.unusedSimpArgs false
set_option maxRecDepth 100000
set_option maxHeartbeats 8000000
namespace Go.Proofs.YtfapjegkilljnaaGreat.Round
open Go.RowKit Go.Proofs.YtfapjegkilljnaaGreat.P Go.Proofs.YtfapjegkilljnaaGreat.Num Go.Proofs.YtfapjegkilljnaaGreat.BitsF Go.Proofs.YtfapjegkilljnaaGreat.Fmt Go.Proofs.YtfapjegkilljnaaGreatW.PrintWords Go.Proofs.YtfapjegkilljnaaGreatW.PrintLast Go.Proofs.YtfapjegkilljnaaGreatW.PrintMore

end Go.Proofs.YtfapjegkilljnaaGreat.Round

-- Printed by a program of this session's out of Lean's print of the translation; Lean checks it.
namespace Go.Proofs.YtfapjegkilljnaaGreat.P
open Go.RowKit Go.Proofs.YtfapjegkilljnaaGreatW.PrintWords Go.Proofs.YtfapjegkilljnaaGreatW.PrintLast Go.Proofs.YtfapjegkilljnaaGreatW.PrintMore
attribute [local go_sem] max2_int min2_int max_two min_two max_three min_three max_four min_four

-- NEED 0
/-! ### bE: function 78 -/
def bE.l0 : Nat → Int → Int → Int → Option (Int × Bool)
 |0, _, _, _ => none
 |k + 1, x0, x4, x5 => if x5 ≥ 0 then (if 0 ≤ x5 then (if (IntKind.u64.wrap ((Go.bits .or .u64 x4 (shl .u64 1 x5)) * (Go.bits .or .u64 x4 (shl .u64 1 x5)))) ≤ x0 then (bE.l0 k x0 (Go.bits .or .u64 x4 (shl .u64 1 x5)) (wrap64 (x5 - 1))) else (bE.l0 k x0 x4 (wrap64 (x5 - 1)))) else (none)) else (some ((x4) % 4294967296, ((IntKind.u64.wrap (x4 * x4)) == x0)))
def bE.f (k : Nat) (a0 : Int) : Option (Int × Bool) := bE.l0 k a0 0 31
theorem bE.fB : ∀ k, (∀ y0 y1 y2, LeO (bE.l0 k y0 y1 y2) (bE.l0 (k + 1) y0 y1 y2))
 |0 => fun _ _ _ r h => by simp [bE.l0] at h
 |k + 1 => by
  have ih0 := bE.fB k
  ·intro y0 y1 y2
   unfold bE.l0
   repeat' first
   |(with_reducible first|exact ih0 _ _ _|exact LeO.refl _|exact LeO.none _|refine LeO.ite ?_ ?_|refine LeO.bind ?_ (fun _ => ?_))
   |exact ih0 _ _ _
   |exact LeO.none _
   |refine LeO.ite ?_ ?_
   |refine LeO.bind ?_ (fun _ => ?_)
theorem bE.mono : ∀ a0 k, LeO (bE.f k a0) (bE.f (k + 1) a0) := by
 intro a0 k
 have ih0 := bE.fB k
 unfold bE.f
 repeat' first
   |(with_reducible first|exact ih0 _ _ _|exact LeO.refl _|exact LeO.none _|refine LeO.ite ?_ ?_|refine LeO.bind ?_ (fun _ => ?_))
   |exact ih0 _ _ _
   |exact LeO.none _
   |refine LeO.ite ?_ ?_
   |refine LeO.bind ?_ (fun _ => ?_)
theorem bE.calls (k : Nat) (a0 r1 : Int) (r2 : Bool) (w : World) (h : bE.f k a0 = some (r1, r2)) :
  Calls Tryz.prog 78 #[.int .u64 a0] w fun e w' => e = .returned (.tuple #[.int .u32 r1, .bool r2]) ∧ Drawn0 w w' := by
 have H : (bE.l0 k a0 0 31) = some (r1, r2) := h
 clear h
 have H' := Aside0.mk H
 clear H
 go_enter Tryz.func78, Tryz.ntmps78
 go_wp2
 go_loopg [4, 5] k (fun kq v4 v5 w' => ∃ (x4_1 : Int) (x5_1 : Int), v4 = .int .u64 x4_1 ∧ v5 = .int .i64 x5_1 ∧ Aside0 (bE.l0 kq a0 x4_1 x5_1 = some (r1, r2)) ∧ Aside0 (kq ≤ k) ∧ Drawn0 w w')
 case atStart => exact ⟨(0), (31), (gr_), (gr_), H', ⟨Nat.le_refl _⟩, gd_⟩
 case round =>
  clear H'
  obtain ⟨x4_1, x5_1, rfl, rfl, HA, HK1, ⟨m1, rfl⟩⟩ := hrel
  cases gk with
  |zero => exact absurd HA.out (by simp [bE.l0])
  |succ k1 =>
   have H := HA.out
   clear HA
   simp only [bE.l0] at H
   by_cases c2 : x5_1 ≥ 0
   ·rw [if_pos c2] at H
    have c2b0 : decide (0 ≤ x5_1) = true := decide_eq_true c2
    clear c2
    by_cases c3 : 0 ≤ x5_1
    ·rw [if_pos c3] at H
     have c3b0 := eq_true c3
     have c3b1 : decide (0 ≤ x5_1) = true := decide_eq_true c3
     clear c3
     obtain ⟨ji4, hji4⟩ : ∃ j_ : Int, (shl .u64 1 x5_1) = j_ := ⟨_, rfl⟩
     replace H : (if (IntKind.u64.wrap ((Go.bits .or .u64 x4_1 (ji4)) * (Go.bits .or .u64 x4_1 (ji4)))) ≤ a0 then (bE.l0 k1 a0 (Go.bits .or .u64 x4_1 (ji4)) (wrap64 (x5_1 - 1))) else (bE.l0 k1 a0 x4_1 (wrap64 (x5_1 - 1)))) = some (r1, r2) := by first | (rw [hji4] at H; exact H) | (simp only [hji4] at H ⊢; exact H)
     have hji4_ : (IntKind.u64.wrap (1 * 2 ^ min x5_1.toNat 64)) = ji4 := hji4
     have hji4z : x5_1 ≤ 64 → (IntKind.u64.wrap (1 * 2 ^ x5_1.toNat)) = ji4 := shl_small hji4
     have hji4u : (IntKind.u64.wrap (2 ^ min x5_1.toNat 64)) = ji4 := by have h_ := hji4_; rw [Int.one_mul] at h_; exact h_
     have hji4v : x5_1 ≤ 64 → (IntKind.u64.wrap (2 ^ x5_1.toNat)) = ji4 := fun hle_ => by have h_ := hji4z hle_; rw [Int.one_mul] at h_; exact h_
     by_cases c5 : (IntKind.u64.wrap ((Go.bits .or .u64 x4_1 (ji4)) * (Go.bits .or .u64 x4_1 (ji4)))) ≤ a0
     ·rw [if_pos c5] at H
      have c5b0 : decide ((IntKind.u64.wrap ((Go.bits .or .u64 x4_1 (ji4)) * (Go.bits .or .u64 x4_1 (ji4)))) ≤ a0) = true := decide_eq_true c5
      clear c5
      have H' := Aside0.mk H
      clear H
      go_wp2
      go_roundg k1
      case measure => have := HK1.out; omega
      case rel => exact ⟨(Go.bits .or .u64 x4_1 (ji4)), (wrap64 (x5_1 - 1)), (by first | rfl | (simp; done) | (simp only [← hji4] <;> (first | rfl | (simp; done))) | (simp [*]; done) | (congr 1; (try unfold wrap64); omega) | (congr 1; rw [IntKind.wrap_u64]; omega)), (gr_), H', ⟨by have := HK1.out; omega⟩, gd_⟩
     ·rw [if_neg c5] at H
      have c5b0 : decide ((IntKind.u64.wrap ((Go.bits .or .u64 x4_1 (ji4)) * (Go.bits .or .u64 x4_1 (ji4)))) ≤ a0) = false := decide_eq_false c5
      clear c5
      have H' := Aside0.mk H
      clear H
      go_wp2
      (try subst hji4)
      go_roundg k1
      case measure => have := HK1.out; omega
      case rel => exact ⟨(x4_1), (wrap64 (x5_1 - 1)), (gr_), (gr_), H', ⟨by have := HK1.out; omega⟩, gd_⟩
    ·rw [if_neg c3] at H
     exact absurd H (by simp)
   ·rw [if_neg c2] at H
    have c2b0 : decide (0 ≤ x5_1) = false := decide_eq_false c2
    clear c2
    simp only [Option.some.injEq, Prod.mk.injEq] at H
    obtain ⟨rfl, rfl⟩ := H
    go_wp2
    go_ret2
    exact ⟨gr_, gd_⟩

end Go.Proofs.YtfapjegkilljnaaGreat.P

/- Entries of functions. -/
namespace Go.Proofs.YtfapjegkilljnaaGreat.L
open Go.RowKit Go.Proofs.YtfapjegkilljnaaGreat.P Go.Proofs.YtfapjegkilljnaaGreat.Ek Go.Proofs.YtfapjegkilljnaaGreatW.PrintWords Go.Proofs.YtfapjegkilljnaaGreatW.PrintLast Go.Proofs.YtfapjegkilljnaaGreatW.PrintMore
noncomputable def dM.c : Fc := gX [hI .i64, hB] [hI .u32] (T := Int) (fun y => ((y, ()), ())) fun n x => dM.f x.1.1 x.2.1.1
theorem dM.ok : gI Tryz.prog 89 dM.c := eB Tryz.func89 (by kernel_rfl) (by kernel_rfl) (by decide) (fun _ => dF (by decide) _) fun n x y h m w => (dM.calls x.1.1 x.2.1.1 y w h).mono fun e w' he => ⟨he.1, he.2.below⟩
noncomputable def bD.c : Fc := gX [hI .i64] [hI .i64, hI .i64] (T := Int × Int) (fun y => ((y.1, ()), (y.2, ()), ())) fun n x => bD.f x.1.1
theorem bD.ok : gI Tryz.prog 51 bD.c := eB Tryz.func51 (by kernel_rfl) (by kernel_rfl) (by decide) (fun _ => dF (by decide) _) fun n x y h m w => (bD.calls x.1.1 y.1 y.2 w h).mono fun e w' he => ⟨he.1, he.2.below⟩
noncomputable def dG.c : Fc := gX [hI .i64, hI .i64, hI .u64] [hI .i64] (T := Int) (fun y => ((y, ()), ())) fun n x => dG.f n x.1.1 x.2.1.1 x.2.2.1.1
theorem dG.ok : gI Tryz.prog 90 dG.c := eB Tryz.func90 (by kernel_rfl) (by kernel_rfl) (by decide) (fun _ => dF (by decide) _) fun n x y h m w => (dG.calls n x.1.1 x.2.1.1 x.2.2.1.1 y w h).mono fun e w' he => ⟨he.1, he.2⟩
noncomputable def cZ.c : Fc := gX [hI .u64, hI .i64, hB] [hI .u64, hI .i64] (T := Int × Int) (fun y => ((y.1, ()), (y.2, ()), ())) fun n x => cZ.f n x.1.1 x.2.1.1 x.2.2.1.1
theorem cZ.ok : gI Tryz.prog 91 cZ.c := eB Tryz.func91 (by kernel_rfl) (by kernel_rfl) (by decide) (fun _ => dF (by decide) _) fun n x y h m w => (cZ.calls n x.1.1 x.2.1.1 x.2.2.1.1 y.1 y.2 w h).mono fun e w' he => ⟨he.1, he.2.below⟩
noncomputable def iL.c : Fc := gX [hI .i64, hB, hI .u64, hI .i64] [hB] (T := Bool) (fun y => ((y, ()), ())) fun n x => iL.f x.1.1 x.2.1.1 x.2.2.1.1 x.2.2.2.1.1
theorem iL.ok : gI Tryz.prog 92 iL.c := eB Tryz.func92 (by kernel_rfl) (by kernel_rfl) (by decide) (fun _ => dF (by decide) _) fun n x y h m w => (iL.calls x.1.1 x.2.1.1 x.2.2.1.1 x.2.2.2.1.1 y w h).mono fun e w' he => ⟨he.1, he.2.below⟩
noncomputable def dC.c : Fc := gX [hI .i64] [hI .i64] (T := Int) (fun y => ((y, ()), ())) fun n x => dC.f x.1.1
theorem dC.ok : gI Tryz.prog 93 dC.c := eB Tryz.func93 (by kernel_rfl) (by kernel_rfl) (by decide) (fun _ => dF (by decide) _) fun n x y h m w => (dC.calls x.1.1 y w h).mono fun e w' he => ⟨he.1, he.2.below⟩
noncomputable def dI.c : Fc := gX [hI .i64] [hI .i64] (T := Int) (fun y => ((y, ()), ())) fun n x => dI.f x.1.1
theorem dI.ok : gI Tryz.prog 94 dI.c := eB Tryz.func94 (by kernel_rfl) (by kernel_rfl) (by decide) (fun _ => dF (by decide) _) fun n x y h m w => (dI.calls x.1.1 y w h).mono fun e w' he => ⟨he.1, he.2.below⟩
noncomputable def bits_Len.c : Fc := gX [hI .u64] [hI .i64] (T := Int) (fun y => ((y, ()), ())) fun n x => bits_Len.f n x.1.1
theorem bits_Len.ok : gI Tryz.prog 96 bits_Len.c := eB Tryz.func96 (by kernel_rfl) (by kernel_rfl) (by decide) (fun _ => dF (by decide) _) fun n x y h m w => (bits_Len.calls n x.1.1 y w h).mono fun e w' he => ⟨he.1, he.2.below⟩
noncomputable def fJ.c : Fc := gX [hI .u64, hI .i64] [hI .u64] (T := Int) (fun y => ((y, ()), ())) fun n x => fJ.f x.1.1 x.2.1.1
theorem fJ.ok : gI Tryz.prog 98 fJ.c := eB Tryz.func98 (by kernel_rfl) (by kernel_rfl) (by decide) (fun _ => dF (by decide) _) fun n x y h m w => (fJ.calls x.1.1 x.2.1.1 y w h).mono fun e w' he => ⟨he.1, he.2.below⟩
noncomputable def cB.c : Fc := gX [hI .i64, hB, hI .i64, hI .u32] [hI .u32] (T := Int) (fun y => ((y, ()), ())) fun n x => cB.f x.1.1 x.2.1.1 x.2.2.1.1 x.2.2.2.1.1
theorem cB.ok : gI Tryz.prog 97 cB.c := eB Tryz.func97 (by kernel_rfl) (by kernel_rfl) (by decide) (fun _ => dF (by decide) _) fun n x y h m w => (cB.calls x.1.1 x.2.1.1 x.2.2.1.1 x.2.2.2.1.1 y w h).mono fun e w' he => ⟨he.1, he.2.below⟩
noncomputable def aC.cls : Cls := [(89, dM.c), (51, bD.c), (90, dG.c), (91, cZ.c), (92, iL.c), (93, dC.c), (94, dI.c), (95, bY.c), (96, bits_Len.c), (98, fJ.c), (97, cB.c)]
theorem aC.fU : bS Tryz.prog aC.cls := bS.cons dM.ok (bS.cons bD.ok (bS.cons dG.ok (bS.cons cZ.ok (bS.cons iL.ok (bS.cons dC.ok (bS.cons dI.ok (bS.cons bY.ok (bS.cons bits_Len.ok (bS.cons fJ.ok (bS.cons cB.ok (bS.nil)))))))))))
noncomputable def aC.K (v : SV) : Option (Int × Bool × Bool × Bool × Bool × Bool) := (kJ [hI .u32, .agg [.b, .b, .b, .b, .b]] v).map (fun z => (z.1.1, z.2.1.1, z.2.1.2.1, z.2.1.2.2.1, z.2.1.2.2.2.1, z.2.1.2.2.2.2.1))
noncomputable def aC.cuts : List Nat := [3, 9, 11, 14]
noncomputable def aC.f (k : Nat) (a0 a1 : Int) (a2 : Bool) (a3 a4 : Int) (a5 : Bool) : Option (Int × Bool × Bool × Bool × Bool × Bool) := evF Tryz.prog aC.cls Tryz.f63 aC.cuts k [.one (.i .i64 (.x a0)), .one (.i .i64 (.x a1)), .one (.b (.q a2)), .one (.i .i64 (.x a3)), .one (.i .u64 (.x a4)), .one (.b (.q a5))] aC.K
noncomputable def aC.c : Fc := gX [hI .i64, hI .i64, hB, hI .i64, hI .u64, hB] [hI .u32, .agg [.b, .b, .b, .b, .b]] (T := Int × Bool × Bool × Bool × Bool × Bool) (fun y => ((y.1, ()), (y.2.1, y.2.2.1, y.2.2.2.1, y.2.2.2.2.1, y.2.2.2.2.2, ()), ())) fun n x => aC.f n x.1.1 x.2.1.1 x.2.2.1.1 x.2.2.2.1.1 x.2.2.2.2.1.1 x.2.2.2.2.2.1.1
theorem aC.ok : gI Tryz.prog 63 aC.c := rC aC.fU Tryz.func63 (by kernel_rfl) (by kernel_rfl) (by decide) (fun _ => rfl) (fun _ _ => rfl)
noncomputable def aD.c : Fc := mkFcA [.s (hI .i64), .sl .u32] [hB, hB] (T := Bool × Bool) (fun y => ((y.1, ()), (y.2, ()), ())) fun n x => aD.f n x.1.1 x.2.1
theorem aD.ok : gI Tryz.prog 68 aD.c := xZ Tryz.func68 (by kernel_rfl) (by kernel_rfl) (by decide) (fun _ => dF (by decide) _) fun n x y h m w vs ha => by obtain ⟨q0, e0, ha⟩ := ha; subst e0; obtain ⟨A1, c1, q1, e1, R1, D1, ha⟩ := ha; subst e1; subst ha; exact (aD.calls n x.1.1 A1 c1 x.2.1 y.1 y.2 w R1 D1 h).mono fun e w' he => ⟨he.1, he.2.below⟩
noncomputable def bH.c : Fc := gX [hI .i64] [hI .u32] (T := Int) (fun y => ((y, ()), ())) fun n x => bH.f x.1.1
theorem bH.ok : gI Tryz.prog 71 bH.c := eB Tryz.func71 (by kernel_rfl) (by kernel_rfl) (by decide) (fun _ => dF (by decide) _) fun n x y h m w => (bH.calls x.1.1 y w h).mono fun e w' he => ⟨he.1, he.2.below⟩
noncomputable def bA.c : Fc := gX [hI .i64, hI .u32] [hB] (T := Bool) (fun y => ((y, ()), ())) fun n x => bA.f x.1.1 x.2.1.1
theorem bA.ok : gI Tryz.prog 72 bA.c := eB Tryz.func72 (by kernel_rfl) (by kernel_rfl) (by decide) (fun _ => dF (by decide) _) fun n x y h m w => (bA.calls x.1.1 x.2.1.1 y w h).mono fun e w' he => ⟨he.1, he.2.below⟩
noncomputable def aK.c : Fc := gX [hI .i64, hI .u32] [hB] (T := Bool) (fun y => ((y, ()), ())) fun n x => aK.f n x.1.1 x.2.1.1
theorem aK.ok : gI Tryz.prog 69 aK.c := eB Tryz.func69 (by kernel_rfl) (by kernel_rfl) (by decide) (fun _ => dF (by decide) _) fun n x y h m w => (aK.calls n x.1.1 x.2.1.1 y w h).mono fun e w' he => ⟨he.1, he.2.below⟩
noncomputable def aG.c : Fc := gX [hI .i64, hI .u32] [hB] (T := Bool) (fun y => ((y, ()), ())) fun n x => aG.f n x.1.1 x.2.1.1
theorem aG.ok : gI Tryz.prog 70 aG.c := eB Tryz.func70 (by kernel_rfl) (by kernel_rfl) (by decide) (fun _ => dF (by decide) _) fun n x y h m w => (aG.calls n x.1.1 x.2.1.1 y w h).mono fun e w' he => ⟨he.1, he.2.below⟩
noncomputable def bF.c : Fc := gX [hI .i64, hB] [hI .u32] (T := Int) (fun y => ((y, ()), ())) fun n x => bF.f x.1.1 x.2.1.1
theorem bF.ok : gI Tryz.prog 73 bF.c := eB Tryz.func73 (by kernel_rfl) (by kernel_rfl) (by decide) (fun _ => dF (by decide) _) fun n x y h m w => (bF.calls x.1.1 x.2.1.1 y w h).mono fun e w' he => ⟨he.1, he.2.below⟩
noncomputable def aH.c : Fc := gX [hI .i64, hI .u32] [hB, hI .i64, hI .u64] (T := Bool × Int × Int) (fun y => ((y.1, ()), (y.2.1, ()), (y.2.2, ()), ())) fun n x => aH.f n x.1.1 x.2.1.1
theorem aH.ok : gI Tryz.prog 74 aH.c := eB Tryz.func74 (by kernel_rfl) (by kernel_rfl) (by decide) (fun _ => dF (by decide) _) fun n x y h m w => (aH.calls n x.1.1 x.2.1.1 y.1 y.2.1 y.2.2 w h).mono fun e w' he => ⟨he.1, he.2.below⟩
noncomputable def aJ.cls : Cls := [(68, aD.c), (71, bH.c), (72, bA.c), (69, aK.c), (70, aG.c), (73, bF.c), (74, aH.c), (77, aA.c)]
theorem aJ.fU : bS Tryz.prog aJ.cls := bS.cons aD.ok (bS.cons bH.ok (bS.cons bA.ok (bS.cons aK.ok (bS.cons aG.ok (bS.cons bF.ok (bS.cons aH.ok (bS.cons aA.ok (bS.nil))))))))
noncomputable def aJ.K (v : SV) : Option (Int × Bool × Bool × Bool × Bool × Bool) := (kJ [hI .u32, .agg [.b, .b, .b, .b, .b]] v).map (fun z => (z.1.1, z.2.1.1, z.2.1.2.1, z.2.1.2.2.1, z.2.1.2.2.2.1, z.2.1.2.2.2.2.1))
noncomputable def aJ.cuts : List Nat := [6, 8]
noncomputable def aJ.f (k : Nat) (a0 a1 : Int) (a2 a3 : Int) : Option (Int × Bool × Bool × Bool × Bool × Bool) := evF Tryz.prog aJ.cls Tryz.f38 aJ.cuts k [.one (.i .i64 (.x a0)), .one (.i .i64 (.x a1)), .one (.i .u32 (.x a2)), .one (.i .u32 (.x a3))] aJ.K
noncomputable def aJ.c : Fc := gX [hI .i64, hI .i64, hI .u32, hI .u32] [hI .u32, .agg [.b, .b, .b, .b, .b]] (T := Int × Bool × Bool × Bool × Bool × Bool) (fun y => ((y.1, ()), (y.2.1, y.2.2.1, y.2.2.2.1, y.2.2.2.2.1, y.2.2.2.2.2, ()), ())) fun n x => aJ.f n x.1.1 x.2.1.1 x.2.2.1.1 x.2.2.2.1.1
theorem aJ.ok : gI Tryz.prog 38 aJ.c := rC aJ.fU Tryz.func38 (by kernel_rfl) (by kernel_rfl) (by decide) (fun _ => rfl) (fun _ _ => rfl)
noncomputable def aB.cls : Cls := [(68, aD.c), (71, bH.c), (72, bA.c), (69, aK.c), (70, aG.c), (73, bF.c), (13, aW.c), (74, aH.c), (77, aA.c)]
theorem aB.fU : bS Tryz.prog aB.cls := bS.cons aD.ok (bS.cons bH.ok (bS.cons bA.ok (bS.cons aK.ok (bS.cons aG.ok (bS.cons bF.ok (bS.cons aW.ok (bS.cons aH.ok (bS.cons aA.ok (bS.nil)))))))))
noncomputable def aB.K (v : SV) : Option (Int × Bool × Bool × Bool × Bool × Bool) := (kJ [hI .u32, .agg [.b, .b, .b, .b, .b]] v).map (fun z => (z.1.1, z.2.1.1, z.2.1.2.1, z.2.1.2.2.1, z.2.1.2.2.2.1, z.2.1.2.2.2.2.1))
noncomputable def aB.cuts : List Nat := [6, 10]
noncomputable def aB.f (k : Nat) (a0 a1 : Int) (a2 a3 : Int) : Option (Int × Bool × Bool × Bool × Bool × Bool) := evF Tryz.prog aB.cls Tryz.f40 aB.cuts k [.one (.i .i64 (.x a0)), .one (.i .i64 (.x a1)), .one (.i .u32 (.x a2)), .one (.i .u32 (.x a3))] aB.K
noncomputable def aB.c : Fc := gX [hI .i64, hI .i64, hI .u32, hI .u32] [hI .u32, .agg [.b, .b, .b, .b, .b]] (T := Int × Bool × Bool × Bool × Bool × Bool) (fun y => ((y.1, ()), (y.2.1, y.2.2.1, y.2.2.2.1, y.2.2.2.2.1, y.2.2.2.2.2, ()), ())) fun n x => aB.f n x.1.1 x.2.1.1 x.2.2.1.1 x.2.2.2.1.1
theorem aB.ok : gI Tryz.prog 40 aB.c := rC aB.fU Tryz.func40 (by kernel_rfl) (by kernel_rfl) (by decide) (fun _ => rfl) (fun _ _ => rfl)
noncomputable def bE.c : Fc := gX [hI .u64] [hI .u32, hB] (T := Int × Bool) (fun y => ((y.1, ()), (y.2, ()), ())) fun n x => bE.f n x.1.1
theorem bE.ok : gI Tryz.prog 78 bE.c := eB Tryz.func78 (by kernel_rfl) (by kernel_rfl) (by decide) (fun _ => dF (by decide) _) fun n x y h m w => (bE.calls n x.1.1 y.1 y.2 w h).mono fun e w' he => ⟨he.1, he.2.below⟩
noncomputable def aR.cls : Cls := [(68, aD.c), (71, bH.c), (69, aK.c), (14, aU.c), (72, bA.c), (70, aG.c), (74, aH.c), (78, bE.c), (77, aA.c)]
theorem aR.fU : bS Tryz.prog aR.cls := bS.cons aD.ok (bS.cons bH.ok (bS.cons aK.ok (bS.cons aU.ok (bS.cons bA.ok (bS.cons aG.ok (bS.cons aH.ok (bS.cons bE.ok (bS.cons aA.ok (bS.nil)))))))))
noncomputable def aR.K (v : SV) : Option (Int × Bool × Bool × Bool × Bool × Bool) := (kJ [hI .u32, .agg [.b, .b, .b, .b, .b]] v).map (fun z => (z.1.1, z.2.1.1, z.2.1.2.1, z.2.1.2.2.1, z.2.1.2.2.2.1, z.2.1.2.2.2.2.1))
noncomputable def aR.cuts : List Nat := []
noncomputable def aR.f (k : Nat) (a0 a1 a2 : Int) : Option (Int × Bool × Bool × Bool × Bool × Bool) := evF Tryz.prog aR.cls Tryz.f42 aR.cuts k [.one (.i .i64 (.x a0)), .one (.i .i64 (.x a1)), .one (.i .u32 (.x a2))] aR.K
noncomputable def aR.c : Fc := gX [hI .i64, hI .i64, hI .u32] [hI .u32, .agg [.b, .b, .b, .b, .b]] (T := Int × Bool × Bool × Bool × Bool × Bool) (fun y => ((y.1, ()), (y.2.1, y.2.2.1, y.2.2.2.1, y.2.2.2.2.1, y.2.2.2.2.2, ()), ())) fun n x => aR.f n x.1.1 x.2.1.1 x.2.2.1.1
theorem aR.ok : gI Tryz.prog 42 aR.c := rC aR.fU Tryz.func42 (by kernel_rfl) (by kernel_rfl) (by decide) (fun _ => rfl) (fun _ _ => rfl)
end Go.Proofs.YtfapjegkilljnaaGreat.L

-- Printed by a program of this session's out of Lean's print of the translation; Lean checks it.
namespace Go.Proofs.YtfapjegkilljnaaGreat.P
open Go.RowKit Go.Proofs.YtfapjegkilljnaaGreatW.PrintWords Go.Proofs.YtfapjegkilljnaaGreatW.PrintLast Go.Proofs.YtfapjegkilljnaaGreatW.PrintMore
attribute [local go_sem] max2_int min2_int max_two min_two max_three min_three max_four min_four

-- NEED 0
/-! ### dK: function 99 -/
def dK.l0 : Nat → Int → Int → Int → Option (Int × Bool)
 |0, _, _, _ => none
 |k + 1, x0, x4, x5 => if x5 > 0 then (if (IntKind.u64.wrap ((Go.bits .or .u64 x4 x5) * (Go.bits .or .u64 x4 x5))) ≤ x0 then (dK.l0 k x0 (Go.bits .or .u64 x4 x5) (x5 / 2)) else (dK.l0 k x0 x4 (x5 / 2))) else (some ((x4) % 4294967296, ((IntKind.u64.wrap (x4 * x4)) == x0)))
def dK.f (k : Nat) (a0 : Int) : Option (Int × Bool) := dK.l0 k a0 0 2147483648
theorem dK.fB : ∀ k, (∀ y0 y1 y2, LeO (dK.l0 k y0 y1 y2) (dK.l0 (k + 1) y0 y1 y2))
 |0 => fun _ _ _ r h => by simp [dK.l0] at h
 |k + 1 => by
  have ih0 := dK.fB k
  ·intro y0 y1 y2
   unfold dK.l0
   repeat' first
   |(with_reducible first|exact ih0 _ _ _|exact LeO.refl _|exact LeO.none _|refine LeO.ite ?_ ?_|refine LeO.bind ?_ (fun _ => ?_))
   |exact ih0 _ _ _
   |exact LeO.none _
   |refine LeO.ite ?_ ?_
   |refine LeO.bind ?_ (fun _ => ?_)
theorem dK.mono : ∀ a0 k, LeO (dK.f k a0) (dK.f (k + 1) a0) := by
 intro a0 k
 have ih0 := dK.fB k
 unfold dK.f
 repeat' first
   |(with_reducible first|exact ih0 _ _ _|exact LeO.refl _|exact LeO.none _|refine LeO.ite ?_ ?_|refine LeO.bind ?_ (fun _ => ?_))
   |exact ih0 _ _ _
   |exact LeO.none _
   |refine LeO.ite ?_ ?_
   |refine LeO.bind ?_ (fun _ => ?_)
theorem dK.calls (k : Nat) (a0 r1 : Int) (r2 : Bool) (w : World) (h : dK.f k a0 = some (r1, r2)) :
  Calls Tryz.prog 99 #[.int .u64 a0] w fun e w' => e = .returned (.tuple #[.int .u32 r1, .bool r2]) ∧ Drawn0 w w' := by
 have H : (dK.l0 k a0 0 2147483648) = some (r1, r2) := h
 clear h
 have H' := Aside0.mk H
 clear H
 go_enter Tryz.func99, Tryz.ntmps99
 go_wp2
 go_loopg [4, 5] k (fun kq v4 v5 w' => ∃ (x4_1 : Int) (x5_1 : Int), v4 = .int .u64 x4_1 ∧ v5 = .int .u64 x5_1 ∧ Aside0 (dK.l0 kq a0 x4_1 x5_1 = some (r1, r2)) ∧ Aside0 (kq ≤ k) ∧ Drawn0 w w')
 case atStart => exact ⟨(0), (2147483648), (gr_), (gr_), H', ⟨Nat.le_refl _⟩, gd_⟩
 case round =>
  clear H'
  obtain ⟨x4_1, x5_1, rfl, rfl, HA, HK1, ⟨m1, rfl⟩⟩ := hrel
  cases gk with
  |zero => exact absurd HA.out (by simp [dK.l0])
  |succ k1 =>
   have H := HA.out
   clear HA
   simp only [dK.l0] at H
   by_cases c2 : x5_1 > 0
   ·rw [if_pos c2] at H
    have c2b0 : decide (0 < x5_1) = true := decide_eq_true c2
    clear c2
    by_cases c3 : (IntKind.u64.wrap ((Go.bits .or .u64 x4_1 x5_1) * (Go.bits .or .u64 x4_1 x5_1))) ≤ a0
    ·rw [if_pos c3] at H
     have c3b0 : decide ((IntKind.u64.wrap ((Go.bits .or .u64 x4_1 x5_1) * (Go.bits .or .u64 x4_1 x5_1))) ≤ a0) = true := decide_eq_true c3
     clear c3
     have H' := Aside0.mk H
     clear H
     go_wp2
     go_roundg k1
     case measure => have := HK1.out; omega
     case rel => exact ⟨(Go.bits .or .u64 x4_1 x5_1), (x5_1 / 2), (gr_), (gr_), H', ⟨by have := HK1.out; omega⟩, gd_⟩
    ·rw [if_neg c3] at H
     have c3b0 : decide ((IntKind.u64.wrap ((Go.bits .or .u64 x4_1 x5_1) * (Go.bits .or .u64 x4_1 x5_1))) ≤ a0) = false := decide_eq_false c3
     clear c3
     have H' := Aside0.mk H
     clear H
     go_wp2
     go_roundg k1
     case measure => have := HK1.out; omega
     case rel => exact ⟨(x4_1), (x5_1 / 2), (gr_), (gr_), H', ⟨by have := HK1.out; omega⟩, gd_⟩
   ·rw [if_neg c2] at H
    have c2b0 : decide (0 < x5_1) = false := decide_eq_false c2
    clear c2
    simp only [Option.some.injEq, Prod.mk.injEq] at H
    obtain ⟨rfl, rfl⟩ := H
    go_wp2
    go_ret2
    exact ⟨gr_, gd_⟩

end Go.Proofs.YtfapjegkilljnaaGreat.P

/- Entries of functions. -/
namespace Go.Proofs.YtfapjegkilljnaaGreat.L
open Go.RowKit Go.Proofs.YtfapjegkilljnaaGreat.P Go.Proofs.YtfapjegkilljnaaGreat.Ek Go.Proofs.YtfapjegkilljnaaGreatW.PrintWords Go.Proofs.YtfapjegkilljnaaGreatW.PrintLast Go.Proofs.YtfapjegkilljnaaGreatW.PrintMore
noncomputable def bC.c : Fc := mkFcA [.s (hI .i64), .sl .u32] [hI .u32, .agg [.b, .b, .b, .b, .b], hB] (T := Int × Bool × Bool × Bool × Bool × Bool × Bool) (fun y => ((y.1, ()), (y.2.1, y.2.2.1, y.2.2.2.1, y.2.2.2.2.1, y.2.2.2.2.2.1, ()), (y.2.2.2.2.2.2, ()), ())) fun n x => bC.f n x.1.1 x.2.1
theorem bC.ok : gI Tryz.prog 54 bC.c := xZ Tryz.func54 (by kernel_rfl) (by kernel_rfl) (by decide) (fun _ => dF (by decide) _) fun n x y h m w vs ha => by obtain ⟨q0, e0, ha⟩ := ha; subst e0; obtain ⟨A1, c1, q1, e1, R1, D1, ha⟩ := ha; subst e1; subst ha; exact (bC.calls n x.1.1 A1 c1 x.2.1 y.1 y.2.1 y.2.2.1 y.2.2.2.1 y.2.2.2.2.1 y.2.2.2.2.2.1 y.2.2.2.2.2.2 w R1 D1 h).mono fun e w' he => ⟨he.1, he.2⟩
noncomputable def dR.c : Fc := gX [hI .i64, hI .u32, hI .u32] [hB] (T := Bool) (fun y => ((y, ()), ())) fun n x => dR.f n x.1.1 x.2.1.1 x.2.2.1.1
theorem dR.ok : gI Tryz.prog 53 dR.c := eB Tryz.func53 (by kernel_rfl) (by kernel_rfl) (by decide) (fun _ => dF (by decide) _) fun n x y h m w => (dR.calls n x.1.1 x.2.1.1 x.2.2.1.1 y w h).mono fun e w' he => ⟨he.1, he.2.below⟩
noncomputable def eY.c : Fc := gX [hI .i64] [hI .u32, .agg [.b, .b, .b, .b, .b]] (T := Int × Bool × Bool × Bool × Bool × Bool) (fun y => ((y.1, ()), (y.2.1, y.2.2.1, y.2.2.2.1, y.2.2.2.2.1, y.2.2.2.2.2, ()), ())) fun n x => eY.f x.1.1
theorem eY.ok : gI Tryz.prog 55 eY.c := eB Tryz.func55 (by kernel_rfl) (by kernel_rfl) (by decide) (fun _ => dF (by decide) _) fun n x y h m w => (eY.calls x.1.1 y.1 y.2.1 y.2.2.1 y.2.2.2.1 y.2.2.2.2.1 y.2.2.2.2.2 w h).mono fun e w' he => ⟨he.1, he.2⟩
noncomputable def dJ.c : Fc := gX [hI .i64, hI .u32] [hB] (T := Bool) (fun y => ((y, ()), ())) fun n x => dJ.f x.1.1 x.2.1.1
theorem dJ.ok : gI Tryz.prog 56 dJ.c := eB Tryz.func56 (by kernel_rfl) (by kernel_rfl) (by decide) (fun _ => dF (by decide) _) fun n x y h m w => (dJ.calls x.1.1 x.2.1.1 y w h).mono fun e w' he => ⟨he.1, he.2.below⟩
noncomputable def aO.c : Fc := gX [hI .i64, hI .u32] [hB] (T := Bool) (fun y => ((y, ()), ())) fun n x => aO.f n x.1.1 x.2.1.1
theorem aO.ok : gI Tryz.prog 57 aO.c := eB Tryz.func57 (by kernel_rfl) (by kernel_rfl) (by decide) (fun _ => dF (by decide) _) fun n x y h m w => (aO.calls n x.1.1 x.2.1.1 y w h).mono fun e w' he => ⟨he.1, he.2.below⟩
noncomputable def dZ.c : Fc := gX [hI .i64, hI .u32, hI .u32] [.agg [.b, .i .i64, .i .u64, .b]] (T := Bool × Int × Int × Bool) (fun y => ((y.1, y.2.1, y.2.2.1, y.2.2.2, ()), ())) fun n x => dZ.f x.1.1 x.2.1.1 x.2.2.1.1
theorem dZ.ok : gI Tryz.prog 59 dZ.c := eB Tryz.func59 (by kernel_rfl) (by kernel_rfl) (by decide) (fun _ => dF (by decide) _) fun n x y h m w => (dZ.calls x.1.1 x.2.1.1 x.2.2.1.1 y.1 y.2.1 y.2.2.1 y.2.2.2 w h).mono fun e w' he => ⟨he.1, he.2⟩
noncomputable def dH.cls : Cls := [(54, bC.c), (53, dR.c), (55, eY.c), (56, dJ.c), (57, aO.c), (79, dE.c), (59, dZ.c), (63, aC.c)]
theorem dH.fU : bS Tryz.prog dH.cls := bS.cons bC.ok (bS.cons dR.ok (bS.cons eY.ok (bS.cons dJ.ok (bS.cons aO.ok (bS.cons dE.ok (bS.cons dZ.ok (bS.cons aC.ok (bS.nil))))))))
noncomputable def dH.K (v : SV) : Option (Int × Bool × Bool × Bool × Bool × Bool) := (kJ [hI .u32, .agg [.b, .b, .b, .b, .b]] v).map (fun z => (z.1.1, z.2.1.1, z.2.1.2.1, z.2.1.2.2.1, z.2.1.2.2.2.1, z.2.1.2.2.2.2.1))
noncomputable def dH.cuts : List Nat := [8]
noncomputable def dH.f (k : Nat) (a0 a1 : Int) (a2 a3 : Int) : Option (Int × Bool × Bool × Bool × Bool × Bool) := evF Tryz.prog dH.cls Tryz.f48 dH.cuts k [.one (.i .i64 (.x a0)), .one (.i .i64 (.x a1)), .one (.i .u32 (.x a2)), .one (.i .u32 (.x a3))] dH.K
noncomputable def dH.c : Fc := gX [hI .i64, hI .i64, hI .u32, hI .u32] [hI .u32, .agg [.b, .b, .b, .b, .b]] (T := Int × Bool × Bool × Bool × Bool × Bool) (fun y => ((y.1, ()), (y.2.1, y.2.2.1, y.2.2.2.1, y.2.2.2.2.1, y.2.2.2.2.2, ()), ())) fun n x => dH.f n x.1.1 x.2.1.1 x.2.2.1.1 x.2.2.2.1.1
theorem dH.ok : gI Tryz.prog 48 dH.c := rC dH.fU Tryz.func48 (by kernel_rfl) (by kernel_rfl) (by decide) (fun _ => rfl) (fun _ _ => rfl)
noncomputable def aX.c : Fc := gX [hI .i64, hB, hB, hB, hB] [hI .u32, .agg [.b, .b, .b, .b, .b]] (T := Int × Bool × Bool × Bool × Bool × Bool) (fun y => ((y.1, ()), (y.2.1, y.2.2.1, y.2.2.2.1, y.2.2.2.2.1, y.2.2.2.2.2, ()), ())) fun n x => aX.f n x.1.1 x.2.1.1 x.2.2.1.1 x.2.2.2.1.1 x.2.2.2.2.1.1
theorem aX.ok : gI Tryz.prog 58 aX.c := eB Tryz.func58 (by kernel_rfl) (by kernel_rfl) (by decide) (fun _ => dF (by decide) _) fun n x y h m w => (aX.calls n x.1.1 x.2.1.1 x.2.2.1.1 x.2.2.2.1.1 x.2.2.2.2.1.1 y.1 y.2.1 y.2.2.1 y.2.2.2.1 y.2.2.2.2.1 y.2.2.2.2.2 w h).mono fun e w' he => ⟨he.1, he.2⟩
noncomputable def eZ.c : Fc := gX [hI .i64, hI .u32] [.agg [.b, .i .i64, .i .u64, .b]] (T := Bool × Int × Int × Bool) (fun y => ((y.1, y.2.1, y.2.2.1, y.2.2.2, ()), ())) fun n x => eZ.f x.1.1 x.2.1.1
theorem eZ.ok : gI Tryz.prog 60 eZ.c := eB Tryz.func60 (by kernel_rfl) (by kernel_rfl) (by decide) (fun _ => dF (by decide) _) fun n x y h m w => (eZ.calls x.1.1 x.2.1.1 y.1 y.2.1 y.2.2.1 y.2.2.2 w h).mono fun e w' he => ⟨he.1, he.2⟩
noncomputable def eQ.c : Fc := gX [hI .i64, hI .i64, hB, hB] [hI .u32] (T := Int) (fun y => ((y, ()), ())) fun n x => eQ.f x.1.1 x.2.1.1 x.2.2.1.1 x.2.2.2.1.1
theorem eQ.ok : gI Tryz.prog 62 eQ.c := eB Tryz.func62 (by kernel_rfl) (by kernel_rfl) (by decide) (fun _ => dF (by decide) _) fun n x y h m w => (eQ.calls x.1.1 x.2.1.1 x.2.2.1.1 x.2.2.2.1.1 y w h).mono fun e w' he => ⟨he.1, he.2.below⟩
noncomputable def aZ.cls : Cls := [(53, dR.c), (54, bC.c), (55, eY.c), (56, dJ.c), (57, aO.c), (58, aX.c), (59, dZ.c), (60, eZ.c), (61, aQ.c), (62, eQ.c), (63, aC.c)]
theorem aZ.fU : bS Tryz.prog aZ.cls := bS.cons dR.ok (bS.cons bC.ok (bS.cons eY.ok (bS.cons dJ.ok (bS.cons aO.ok (bS.cons aX.ok (bS.cons dZ.ok (bS.cons eZ.ok (bS.cons aQ.ok (bS.cons eQ.ok (bS.cons aC.ok (bS.nil)))))))))))
noncomputable def aZ.K (v : SV) : Option (Int × Bool × Bool × Bool × Bool × Bool) := (kJ [hI .u32, .agg [.b, .b, .b, .b, .b]] v).map (fun z => (z.1.1, z.2.1.1, z.2.1.2.1, z.2.1.2.2.1, z.2.1.2.2.2.1, z.2.1.2.2.2.2.1))
noncomputable def aZ.cuts : List Nat := [10, 11, 15]
noncomputable def aZ.f (k : Nat) (a0 a1 : Int) (a2 a3 a4 : Int) : Option (Int × Bool × Bool × Bool × Bool × Bool) := evF Tryz.prog aZ.cls Tryz.f31 aZ.cuts k [.one (.i .i64 (.x a0)), .one (.i .i64 (.x a1)), .one (.i .u32 (.x a2)), .one (.i .u32 (.x a3)), .one (.i .u32 (.x a4))] aZ.K
noncomputable def aZ.c : Fc := gX [hI .i64, hI .i64, hI .u32, hI .u32, hI .u32] [hI .u32, .agg [.b, .b, .b, .b, .b]] (T := Int × Bool × Bool × Bool × Bool × Bool) (fun y => ((y.1, ()), (y.2.1, y.2.2.1, y.2.2.2.1, y.2.2.2.2.1, y.2.2.2.2.2, ()), ())) fun n x => aZ.f n x.1.1 x.2.1.1 x.2.2.1.1 x.2.2.2.1.1 x.2.2.2.2.1.1
theorem aZ.ok : gI Tryz.prog 31 aZ.c := rC aZ.fU Tryz.func31 (by kernel_rfl) (by kernel_rfl) (by decide) (fun _ => rfl) (fun _ _ => rfl)
noncomputable def cK.cls : Cls := [(54, bC.c), (57, aO.c), (56, dJ.c), (58, aX.c), (60, eZ.c), (61, aQ.c), (62, eQ.c), (63, aC.c)]
theorem cK.fU : bS Tryz.prog cK.cls := bS.cons bC.ok (bS.cons aO.ok (bS.cons dJ.ok (bS.cons aX.ok (bS.cons eZ.ok (bS.cons aQ.ok (bS.cons eQ.ok (bS.cons aC.ok (bS.nil))))))))
noncomputable def cK.K (v : SV) : Option (Int × Bool × Bool × Bool × Bool × Bool) := (kJ [hI .u32, .agg [.b, .b, .b, .b, .b]] v).map (fun z => (z.1.1, z.2.1.1, z.2.1.2.1, z.2.1.2.2.1, z.2.1.2.2.2.1, z.2.1.2.2.2.2.1))
noncomputable def cK.cuts : List Nat := [6, 10]
noncomputable def cK.f (k : Nat) (a0 a1 : Int) (a2 a3 : Int) : Option (Int × Bool × Bool × Bool × Bool × Bool) := evF Tryz.prog cK.cls Tryz.f66 cK.cuts k [.one (.i .i64 (.x a0)), .one (.i .i64 (.x a1)), .one (.i .u32 (.x a2)), .one (.i .u32 (.x a3))] cK.K
noncomputable def cK.c : Fc := gX [hI .i64, hI .i64, hI .u32, hI .u32] [hI .u32, .agg [.b, .b, .b, .b, .b]] (T := Int × Bool × Bool × Bool × Bool × Bool) (fun y => ((y.1, ()), (y.2.1, y.2.2.1, y.2.2.2.1, y.2.2.2.2.1, y.2.2.2.2.2, ()), ())) fun n x => cK.f n x.1.1 x.2.1.1 x.2.2.1.1 x.2.2.2.1.1
theorem cK.ok : gI Tryz.prog 66 cK.c := rC cK.fU Tryz.func66 (by kernel_rfl) (by kernel_rfl) (by decide) (fun _ => rfl) (fun _ _ => rfl)
noncomputable def aV.c : Fc := gX [hI .i64, hI .u32] [hI .i64] (T := Int) (fun y => ((y, ()), ())) fun n x => aV.f n x.1.1 x.2.1.1
theorem aV.ok : gI Tryz.prog 83 aV.c := eB Tryz.func83 (by kernel_rfl) (by kernel_rfl) (by decide) (fun _ => dF (by decide) _) fun n x y h m w => (aV.calls n x.1.1 x.2.1.1 y w h).mono fun e w' he => ⟨he.1, he.2.below⟩
noncomputable def bO.cls : Cls := [(54, bC.c), (56, dJ.c), (83, aV.c), (55, eY.c), (79, dE.c), (89, dM.c), (60, eZ.c), (96, bits_Len.c), (88, aT.c), (63, aC.c)]
theorem bO.fU : bS Tryz.prog bO.cls := bS.cons bC.ok (bS.cons dJ.ok (bS.cons aV.ok (bS.cons eY.ok (bS.cons dE.ok (bS.cons dM.ok (bS.cons eZ.ok (bS.cons bits_Len.ok (bS.cons aT.ok (bS.cons aC.ok (bS.nil))))))))))
noncomputable def bO.K (v : SV) : Option (Int × Bool × Bool × Bool × Bool × Bool) := (kJ [hI .u32, .agg [.b, .b, .b, .b, .b]] v).map (fun z => (z.1.1, z.2.1.1, z.2.1.2.1, z.2.1.2.2.1, z.2.1.2.2.2.1, z.2.1.2.2.2.2.1))
noncomputable def bO.cuts : List Nat := [7, 11]
noncomputable def bO.f (k : Nat) (a0 a1 : Int) (a2 a3 : Int) : Option (Int × Bool × Bool × Bool × Bool × Bool) := evF Tryz.prog bO.cls Tryz.f65 bO.cuts k [.one (.i .i64 (.x a0)), .one (.i .i64 (.x a1)), .one (.i .u32 (.x a2)), .one (.i .u32 (.x a3))] bO.K
noncomputable def bO.c : Fc := gX [hI .i64, hI .i64, hI .u32, hI .u32] [hI .u32, .agg [.b, .b, .b, .b, .b]] (T := Int × Bool × Bool × Bool × Bool × Bool) (fun y => ((y.1, ()), (y.2.1, y.2.2.1, y.2.2.2.1, y.2.2.2.2.1, y.2.2.2.2.2, ()), ())) fun n x => bO.f n x.1.1 x.2.1.1 x.2.2.1.1 x.2.2.2.1.1
theorem bO.ok : gI Tryz.prog 65 bO.c := rC bO.fU Tryz.func65 (by kernel_rfl) (by kernel_rfl) (by decide) (fun _ => rfl) (fun _ _ => rfl)
noncomputable def bL.c : Fc := gX [hI .i64, hI .u32] [hB] (T := Bool) (fun y => ((y, ()), ())) fun n x => bL.f n x.1.1 x.2.1.1
theorem bL.ok : gI Tryz.prog 82 bL.c := eB Tryz.func82 (by kernel_rfl) (by kernel_rfl) (by decide) (fun _ => dF (by decide) _) fun n x y h m w => (bL.calls n x.1.1 x.2.1.1 y w h).mono fun e w' he => ⟨he.1, he.2.below⟩
noncomputable def dK.c : Fc := gX [hI .u64] [hI .u32, hB] (T := Int × Bool) (fun y => ((y.1, ()), (y.2, ()), ())) fun n x => dK.f n x.1.1
theorem dK.ok : gI Tryz.prog 99 dK.c := eB Tryz.func99 (by kernel_rfl) (by kernel_rfl) (by decide) (fun _ => dF (by decide) _) fun n x y h m w => (dK.calls n x.1.1 y.1 y.2 w h).mono fun e w' he => ⟨he.1, he.2.below⟩
noncomputable def dS.cls : Cls := [(54, bC.c), (60, eZ.c), (82, bL.c), (89, dM.c), (55, eY.c), (57, aO.c), (79, dE.c), (96, bits_Len.c), (88, aT.c), (99, dK.c), (63, aC.c)]
theorem dS.fU : bS Tryz.prog dS.cls := bS.cons bC.ok (bS.cons eZ.ok (bS.cons bL.ok (bS.cons dM.ok (bS.cons eY.ok (bS.cons aO.ok (bS.cons dE.ok (bS.cons bits_Len.ok (bS.cons aT.ok (bS.cons dK.ok (bS.cons aC.ok (bS.nil)))))))))))
noncomputable def dS.K (v : SV) : Option (Int × Bool × Bool × Bool × Bool × Bool) := (kJ [hI .u32, .agg [.b, .b, .b, .b, .b]] v).map (fun z => (z.1.1, z.2.1.1, z.2.1.2.1, z.2.1.2.2.1, z.2.1.2.2.2.1, z.2.1.2.2.2.2.1))
noncomputable def dS.cuts : List Nat := []
noncomputable def dS.f (k : Nat) (a0 a1 a2 : Int) : Option (Int × Bool × Bool × Bool × Bool × Bool) := evF Tryz.prog dS.cls Tryz.f67 dS.cuts k [.one (.i .i64 (.x a0)), .one (.i .i64 (.x a1)), .one (.i .u32 (.x a2))] dS.K
noncomputable def dS.c : Fc := gX [hI .i64, hI .i64, hI .u32] [hI .u32, .agg [.b, .b, .b, .b, .b]] (T := Int × Bool × Bool × Bool × Bool × Bool) (fun y => ((y.1, ()), (y.2.1, y.2.2.1, y.2.2.2.1, y.2.2.2.2.1, y.2.2.2.2.2, ()), ())) fun n x => dS.f n x.1.1 x.2.1.1 x.2.2.1.1
theorem dS.ok : gI Tryz.prog 67 dS.c := rC dS.fU Tryz.func67 (by kernel_rfl) (by kernel_rfl) (by decide) (fun _ => rfl) (fun _ _ => rfl)
/- Functions' trees, printed by a tool of mine out of the reckoner; Lean's kernel checks each. -/
set_option maxRecDepth 100000
noncomputable def dH.j8 (n0 : Nat) (x0 x1 : Bool) (x2 x3 : Int) (x4 x5 : Int) (x6 x7 : Bool) (x8 x9 x10 : Bool) := jF Tryz.prog dH.cls Tryz.f48 dH.cuts [1, 1, 1, 1, 0, 1] [n0] n0 ⟨[(49, (.pv (.one (.b (.q x0))))), (13, (.pv (.one (.b (.q x1))))), (9, (.pv (.one (.p 0 0)))), (3, (.pv (.one (.i .u32 (.x x2))))), (2, (.pv (.one (.i .u32 (.x x3))))), (1, (.pv (.one (.i .i64 (.x x4))))), (0, (.pv (.one (.i .i64 (.x x5)))))], [(0, (60, [(.c (.b (.q x6))), (.c (.b (.q x7))), (.c (.b (.q x8))), (.c (.b (.q x9))), (.c (.b (.q x10)))]))], 1⟩ dH.K
theorem dH.eq (n0 : Nat) (a0 a1 : Int) (a2 a3 : Int) : dH.f n0 a0 a1 a2 a3 = ((bC.f n0 a0 [a2, a3]).bind fun t0 => (if t0.2.2.2.2.2.2 = true then (some ((t0.1, t0.2.1, t0.2.2.1, t0.2.2.2.1, t0.2.2.2.2.1, t0.2.2.2.2.2.1))) else ((dR.f n0 a0 a2 a3).bind fun t1 => (if t1 = true then ((eY.f a0).bind fun t2 => (some ((t2.1, t2.2.1, t2.2.2.1, t2.2.2.2.1, t2.2.2.2.2.1, t2.2.2.2.2.2)))) else ((dJ.f a0 a2).bind fun t2 => ((dJ.f a0 a3).bind fun t3 => ((aO.f n0 a0 a2).bind fun t4 => (if t4 = true then (dH.j8 n0 (true) (!(t2 == t3)) (a3) (a2) (a1) (a0) (false) (false) (false) (false) (false)) else ((aO.f n0 a0 a3).bind fun t5 => (dH.j8 n0 (t5) (!(t2 == t3)) (a3) (a2) (a1) (a0) (false) (false) (false) (false) (false))))))))))) := by kernel_rfl
theorem dH.aBd (n0 : Nat) (x0 x1 : Bool) (x2 x3 : Int) (x4 x5 : Int) (x6 x7 : Bool) (x8 x9 x10 : Bool) : dH.j8 n0 x0 x1 x2 x3 x4 x5 x6 x7 x8 x9 x10 = (if x0 = true then ((dE.f x5 x1).bind fun t0 => (some ((t0, false, false, false, false, false)))) else ((dZ.f x5 x3 x2).bind fun t0 => ((aC.f n0 x5 x4 x1 t0.2.1 t0.2.2.1 false).bind fun t1 => (some ((t1.1, t1.2.1, t1.2.2.1, t1.2.2.2.1, t1.2.2.2.2.1, t1.2.2.2.2.2)))))) := by kernel_rfl
noncomputable def aZ.j10 (n0 : Nat) (x0 x1 x2 : Bool) (x3 x4 : Int) (x5 x6 x7 : Int) (x8 x9 : Bool) (x10 x11 x12 : Bool) := jF Tryz.prog aZ.cls Tryz.f31 aZ.cuts [1, 1, 1, 1, 1, 1] [n0] n0 ⟨[(18, (.pv (.one (.b (.q x0))))), (17, (.pv (.one (.b (.q x1))))), (16, (.pv (.one (.b (.q x2))))), (11, (.pv (.one (.p 0 0)))), (4, (.pv (.one (.i .u32 (.x x3))))), (3, (.pv (.one (.i .u32 (.x x4))))), (2, (.pv (.one (.i .u32 (.x x5))))), (1, (.pv (.one (.i .i64 (.x x6))))), (0, (.pv (.one (.i .i64 (.x x7)))))], [(0, (60, [(.c (.b (.q x8))), (.c (.b (.q x9))), (.c (.b (.q x10))), (.c (.b (.q x11))), (.c (.b (.q x12)))]))], 1⟩ aZ.K
noncomputable def aZ.j11 (n0 : Nat) (x0 x1 : Bool) (x2 x3 : Bool) (x4 x5 : Int) (x6 x7 x8 : Int) (x9 x10 : Bool) (x11 x12 x13 : Bool) := jF Tryz.prog aZ.cls Tryz.f31 aZ.cuts [1, 1, 1, 1, 1, 1, 0, 1] [n0] n0 ⟨[(71, (.pv (.one (.b (.q x0))))), (18, (.pv (.one (.b (.q x1))))), (17, (.pv (.one (.b (.q x2))))), (16, (.pv (.one (.b (.q x3))))), (11, (.pv (.one (.p 0 0)))), (4, (.pv (.one (.i .u32 (.x x4))))), (3, (.pv (.one (.i .u32 (.x x5))))), (2, (.pv (.one (.i .u32 (.x x6))))), (1, (.pv (.one (.i .i64 (.x x7))))), (0, (.pv (.one (.i .i64 (.x x8)))))], [(0, (60, [(.c (.b (.q x9))), (.c (.b (.q x10))), (.c (.b (.q x11))), (.c (.b (.q x12))), (.c (.b (.q x13)))]))], 1⟩ aZ.K
noncomputable def aZ.j15 (n0 : Nat) (x0 x1 : Bool) (x2 x3 : Int) (x4 : Bool) (x5 x6 : Int) (x7 x8 : Bool) (x9 x10 : Int) (x11 x12 : Bool) (x13 x14 : Bool) (x15 x16 : Bool) := jF Tryz.prog aZ.cls Tryz.f31 aZ.cuts [1, 1, 1, 1, 1, 1, 1, 1, 1, 0, 1] [n0] n0 ⟨[(99, (.pv (.one (.b (.q x0))))), (21, (.pv (.one (.p 3 0)))), (20, (.pv (.one (.p 2 0)))), (16, (.pv (.one (.b (.q x1))))), (11, (.pv (.one (.p 0 0)))), (1, (.pv (.one (.i .i64 (.x x2))))), (0, (.pv (.one (.i .i64 (.x x3)))))], [(3, (78, [(.c (.b (.q x4))), (.c (.i .i64 (.x x5))), (.c (.i .u64 (.x x6))), (.c (.b (.q x7)))])), (2, (78, [(.c (.b (.q x8))), (.c (.i .i64 (.x x9))), (.c (.i .u64 (.x x10))), (.c (.b (.q x11)))])), (0, (60, [(.c (.b (.q x12))), (.c (.b (.q x13))), (.c (.b (.q x14))), (.c (.b (.q x15))), (.c (.b (.q x16)))]))], 4⟩ aZ.K
theorem aZ.eq (n0 : Nat) (a0 a1 : Int) (a2 a3 a4 : Int) : aZ.f n0 a0 a1 a2 a3 a4 = ((dR.f n0 a0 a2 a3).bind fun t0 => ((bC.f n0 a0 [a2, a3, a4]).bind fun t1 => (if t1.2.2.2.2.2.2 = true then (if t1.2.1 = true then (some ((t1.1, true, t1.2.2.1, t1.2.2.2.1, t1.2.2.2.2.1, t1.2.2.2.2.2.1))) else (some ((t1.1, t0, t1.2.2.1, t1.2.2.2.1, t1.2.2.2.2.1, t1.2.2.2.2.2.1)))) else (if t0 = true then ((eY.f a0).bind fun t2 => (some ((t2.1, t2.2.1, t2.2.2.1, t2.2.2.2.1, t2.2.2.2.2.1, t2.2.2.2.2.2)))) else ((dJ.f a0 a2).bind fun t2 => ((dJ.f a0 a3).bind fun t3 => ((aO.f n0 a0 a2).bind fun t4 => (if t4 = true then ((aO.f n0 a0 a4).bind fun t5 => (aZ.j10 n0 (t5) (true) (!(t2 == t3)) (a4) (a3) (a2) (a1) (a0) (false) (false) (false) (false) (false))) else ((aO.f n0 a0 a3).bind fun t5 => ((aO.f n0 a0 a4).bind fun t6 => (aZ.j10 n0 (t6) (t5) (!(t2 == t3)) (a4) (a3) (a2) (a1) (a0) (false) (false) (false) (false) (false)))))))))))) := by kernel_rfl
theorem aZ.wN (n0 : Nat) (x0 x1 x2 : Bool) (x3 x4 : Int) (x5 x6 x7 : Int) (x8 x9 : Bool) (x10 x11 x12 : Bool) : aZ.j10 n0 x0 x1 x2 x3 x4 x5 x6 x7 x8 x9 x10 x11 x12 = (if x1 = true then (aZ.j11 n0 (true) (x0) (x1) (x2) (x3) (x4) (x5) (x6) (x7) (x8) (x9) (x10) (x11) (x12)) else (aZ.j11 n0 (x0) (x0) (x1) (x2) (x3) (x4) (x5) (x6) (x7) (x8) (x9) (x10) (x11) (x12))) := by kernel_rfl
theorem aZ.wY (n0 : Nat) (x0 x1 : Bool) (x2 x3 : Bool) (x4 x5 : Int) (x6 x7 x8 : Int) (x9 x10 : Bool) (x11 x12 x13 : Bool) : aZ.j11 n0 x0 x1 x2 x3 x4 x5 x6 x7 x8 x9 x10 x11 x12 x13 = (if x0 = true then ((dJ.f x8 x4).bind fun t0 => ((aX.f n0 x8 x3 t0 x2 x1).bind fun t1 => (some ((t1.1, t1.2.1, t1.2.2.1, t1.2.2.2.1, t1.2.2.2.2.1, t1.2.2.2.2.2))))) else ((dZ.f x8 x6 x5).bind fun t0 => ((eZ.f x8 x4).bind fun t1 => ((YtfapjegkilljnaaGreat.L.aQ.f n0 t0.1 t0.2.1 t0.2.2.1 t0.2.2.2 t1.1 t1.2.1 t1.2.2.1 t1.2.2.2).bind fun t2 => (if t2.2.2.1 = 0 then (aZ.j15 n0 (!t2.2.2.2) (x3) (x7) (x8) (t2.1) t2.2.1 t2.2.2.1 (t2.2.2.2) (t1.1) t1.2.1 t1.2.2.1 (t1.2.2.2) (x9) (x10) (x11) (x12) (x13)) else (aZ.j15 n0 (false) (x3) (x7) (x8) (t2.1) t2.2.1 t2.2.2.1 (t2.2.2.2) (t1.1) t1.2.1 t1.2.2.1 (t1.2.2.2) (x9) (x10) (x11) (x12) (x13))))))) := by kernel_rfl
theorem aZ.aBT (n0 : Nat) (x0 x1 : Bool) (x2 x3 : Int) (x4 : Bool) (x5 x6 : Int) (x7 x8 : Bool) (x9 x10 : Int) (x11 x12 : Bool) (x13 x14 : Bool) (x15 x16 : Bool) : aZ.j15 n0 x0 x1 x2 x3 x4 x5 x6 x7 x8 x9 x10 x11 x12 x13 x14 x15 x16 = (if x0 = true then ((eQ.f x3 x2 x1 x8).bind fun t0 => (some ((t0, false, false, false, false, false)))) else ((aC.f n0 x3 x2 x4 x5 x6 x7).bind fun t0 => (some ((t0.1, t0.2.1, t0.2.2.1, t0.2.2.2.1, t0.2.2.2.2.1, t0.2.2.2.2.2))))) := by kernel_rfl
noncomputable def cK.j6 (n0 : Nat) (x0 x1 x2 : Bool) (x3 x4 : Int) (x5 x6 : Int) (x7 x8 : Bool) (x9 x10 x11 : Bool) := jF Tryz.prog cK.cls Tryz.f66 cK.cuts [1, 1, 1, 0, 1] [n0] n0 ⟨[(39, (.pv (.one (.b (.q x0))))), (14, (.pv (.one (.b (.q x1))))), (13, (.pv (.one (.b (.q x2))))), (9, (.pv (.one (.p 0 0)))), (3, (.pv (.one (.i .u32 (.x x3))))), (2, (.pv (.one (.i .u32 (.x x4))))), (1, (.pv (.one (.i .i64 (.x x5))))), (0, (.pv (.one (.i .i64 (.x x6)))))], [(0, (60, [(.c (.b (.q x7))), (.c (.b (.q x8))), (.c (.b (.q x9))), (.c (.b (.q x10))), (.c (.b (.q x11)))]))], 1⟩ cK.K
noncomputable def cK.j10 (n0 : Nat) (x0 : Bool) (x1 x2 : Int) (x3 : Bool) (x4 x5 : Int) (x6 x7 : Bool) (x8 x9 : Int) (x10 x11 : Bool) (x12 x13 : Int) (x14 x15 : Bool) (x16 x17 : Bool) (x18 x19 : Bool) := jF Tryz.prog cK.cls Tryz.f66 cK.cuts [1, 1, 1, 1, 1, 1, 0, 1] [n0] n0 ⟨[(68, (.pv (.one (.b (.q x0))))), (17, (.pv (.one (.p 3 0)))), (16, (.pv (.one (.p 2 0)))), (15, (.pv (.one (.p 1 0)))), (9, (.pv (.one (.p 0 0)))), (1, (.pv (.one (.i .i64 (.x x1))))), (0, (.pv (.one (.i .i64 (.x x2)))))], [(3, (78, [(.c (.b (.q x3))), (.c (.i .i64 (.x x4))), (.c (.i .u64 (.x x5))), (.c (.b (.q x6)))])), (2, (78, [(.c (.b (.q x7))), (.c (.i .i64 (.x x8))), (.c (.i .u64 (.x x9))), (.c (.b (.q x10)))])), (1, (78, [(.c (.b (.q x11))), (.c (.i .i64 (.x x12))), (.c (.i .u64 (.x x13))), (.c (.b (.q x14)))])), (0, (60, [(.c (.b (.q x15))), (.c (.b (.q x16))), (.c (.b (.q x17))), (.c (.b (.q x18))), (.c (.b (.q x19)))]))], 4⟩ cK.K
theorem cK.eq (n0 : Nat) (a0 a1 : Int) (a2 a3 : Int) : cK.f n0 a0 a1 a2 a3 = ((bC.f n0 a0 [a2, a3]).bind fun t0 => (if t0.2.2.2.2.2.2 = true then (some ((t0.1, t0.2.1, t0.2.2.1, t0.2.2.2.1, t0.2.2.2.2.1, t0.2.2.2.2.2.1))) else ((aO.f n0 a0 a2).bind fun t1 => ((aO.f n0 a0 a3).bind fun t2 => (if t1 = true then (cK.j6 n0 (true) (t2) (t1) (a3) (a2) (a1) (a0) (false) (false) (false) (false) (false)) else (cK.j6 n0 (t2) (t2) (t1) (a3) (a2) (a1) (a0) (false) (false) (false) (false) (false))))))) := by kernel_rfl
theorem cK.xW (n0 : Nat) (x0 x1 x2 : Bool) (x3 x4 : Int) (x5 x6 : Int) (x7 x8 : Bool) (x9 x10 x11 : Bool) : cK.j6 n0 x0 x1 x2 x3 x4 x5 x6 x7 x8 x9 x10 x11 = (if x0 = true then ((dJ.f x6 x4).bind fun t0 => ((dJ.f x6 x3).bind fun t1 => ((aX.f n0 x6 t0 t1 x2 x1).bind fun t2 => (some ((t2.1, t2.2.1, t2.2.2.1, t2.2.2.2.1, t2.2.2.2.2.1, t2.2.2.2.2.2)))))) else ((eZ.f x6 x4).bind fun t0 => ((eZ.f x6 x3).bind fun t1 => ((YtfapjegkilljnaaGreat.L.aQ.f n0 t0.1 t0.2.1 t0.2.2.1 t0.2.2.2 t1.1 t1.2.1 t1.2.2.1 t1.2.2.2).bind fun t2 => (if t2.2.2.1 = 0 then (cK.j10 n0 (!t2.2.2.2) (x5) (x6) (t2.1) t2.2.1 t2.2.2.1 (t2.2.2.2) (t1.1) t1.2.1 t1.2.2.1 (t1.2.2.2) (t0.1) t0.2.1 t0.2.2.1 (t0.2.2.2) (x7) (x8) (x9) (x10) (x11)) else (cK.j10 n0 (false) (x5) (x6) (t2.1) t2.2.1 t2.2.2.1 (t2.2.2.2) (t1.1) t1.2.1 t1.2.2.1 (t1.2.2.2) (t0.1) t0.2.1 t0.2.2.1 (t0.2.2.2) (x7) (x8) (x9) (x10) (x11))))))) := by kernel_rfl
theorem cK.wN (n0 : Nat) (x0 : Bool) (x1 x2 : Int) (x3 : Bool) (x4 x5 : Int) (x6 x7 : Bool) (x8 x9 : Int) (x10 x11 : Bool) (x12 x13 : Int) (x14 x15 : Bool) (x16 x17 : Bool) (x18 x19 : Bool) : cK.j10 n0 x0 x1 x2 x3 x4 x5 x6 x7 x8 x9 x10 x11 x12 x13 x14 x15 x16 x17 x18 x19 = (if x0 = true then ((eQ.f x2 x1 x11 x7).bind fun t0 => (some ((t0, false, false, false, false, false)))) else ((aC.f n0 x2 x1 x3 x4 x5 x6).bind fun t0 => (some ((t0.1, t0.2.1, t0.2.2.1, t0.2.2.2.1, t0.2.2.2.2.1, t0.2.2.2.2.2))))) := by kernel_rfl
noncomputable def bO.j7 (n0 : Nat) (x0 : Bool) (x1 x2 : Int) (x3 : Bool) (x4 x5 : Int) (x6 x7 : Int) (x8 x9 : Bool) (x10 x11 x12 : Bool) := jF Tryz.prog bO.cls Tryz.f65 bO.cuts [1, 1, 1, 1, 0, 0, 1] [n0] n0 ⟨[(46, (.pv (.one (.b (.q x0))))), (15, (.pv (.one (.i .i64 (.x x1))))), (14, (.pv (.one (.i .i64 (.x x2))))), (13, (.pv (.one (.b (.q x3))))), (9, (.pv (.one (.p 0 0)))), (3, (.pv (.one (.i .u32 (.x x4))))), (2, (.pv (.one (.i .u32 (.x x5))))), (1, (.pv (.one (.i .i64 (.x x6))))), (0, (.pv (.one (.i .i64 (.x x7)))))], [(0, (60, [(.c (.b (.q x8))), (.c (.b (.q x9))), (.c (.b (.q x10))), (.c (.b (.q x11))), (.c (.b (.q x12)))]))], 1⟩ bO.K
noncomputable def bO.j11 (n0 : Nat) (x0 : Bool) (x1 : Int) (x2 : Bool) (x3 x4 : Int) (x5 x6 : Int) (x7 x8 : Bool) (x9 x10 x11 : Bool) := jF Tryz.prog bO.cls Tryz.f65 bO.cuts [1, 1, 1, 1, 0, 0, 1, 1, 1, 1, 1] [n0] n0 ⟨[(69, (.pv (.one (.b (.q x0))))), (15, (.pv (.one (.i .i64 (.x x1))))), (13, (.pv (.one (.b (.q x2))))), (9, (.pv (.one (.p 0 0)))), (3, (.pv (.one (.i .u32 (.x x3))))), (2, (.pv (.one (.i .u32 (.x x4))))), (1, (.pv (.one (.i .i64 (.x x5))))), (0, (.pv (.one (.i .i64 (.x x6)))))], [(0, (60, [(.c (.b (.q x7))), (.c (.b (.q x8))), (.c (.b (.q x9))), (.c (.b (.q x10))), (.c (.b (.q x11)))]))], 1⟩ bO.K
theorem bO.eq (n0 : Nat) (a0 a1 : Int) (a2 a3 : Int) : bO.f n0 a0 a1 a2 a3 = ((bC.f n0 a0 [a2, a3]).bind fun t0 => (if t0.2.2.2.2.2.2 = true then (some ((t0.1, t0.2.1, t0.2.2.1, t0.2.2.2.1, t0.2.2.2.2.1, t0.2.2.2.2.2.1))) else ((dJ.f a0 a2).bind fun t1 => ((dJ.f a0 a3).bind fun t2 => ((aV.f n0 a0 a2).bind fun t3 => ((aV.f n0 a0 a3).bind fun t4 => (if t3 = t4 then (if t3 = 0 then (bO.j7 n0 (true) (t4) (t3) (!(t1 == t2)) (a3) (a2) (a1) (a0) (false) (false) (false) (false) (false)) else (bO.j7 n0 (Decidable.rec (fun h => false) (fun h => true) (Int.instDecidableEq t3 3)) (t4) (t3) (!(t1 == t2)) (a3) (a2) (a1) (a0) (false) (false) (false) (false) (false))) else (bO.j7 n0 (false) (t4) (t3) (!(t1 == t2)) (a3) (a2) (a1) (a0) (false) (false) (false) (false) (false))))))))) := by kernel_rfl
theorem bO.j7_eq (n0 : Nat) (x0 : Bool) (x1 x2 : Int) (x3 : Bool) (x4 x5 : Int) (x6 x7 : Int) (x8 x9 : Bool) (x10 x11 x12 : Bool) : bO.j7 n0 x0 x1 x2 x3 x4 x5 x6 x7 x8 x9 x10 x11 x12 = (if x0 = true then ((eY.f x7).bind fun t0 => (some ((t0.1, t0.2.1, t0.2.2.1, t0.2.2.2.1, t0.2.2.2.2.1, t0.2.2.2.2.2)))) else (if x2 = 3 then ((dE.f x7 x3).bind fun t0 => (some ((t0, false, false, false, false, false)))) else (if x1 = 3 then (bO.j11 n0 (true) (x1) (x3) (x4) (x5) (x6) (x7) (x8) (x9) (x10) (x11) (x12)) else (bO.j11 n0 (Decidable.rec (fun h => false) (fun h => true) (Int.instDecidableEq x2 0)) (x1) (x3) (x4) (x5) (x6) (x7) (x8) (x9) (x10) (x11) (x12))))) := by kernel_rfl
theorem bO.wY (n0 : Nat) (x0 : Bool) (x1 : Int) (x2 : Bool) (x3 x4 : Int) (x5 x6 : Int) (x7 x8 : Bool) (x9 x10 x11 : Bool) : bO.j11 n0 x0 x1 x2 x3 x4 x5 x6 x7 x8 x9 x10 x11 = (if x0 = true then ((dM.f x6 x2).bind fun t0 => (some ((t0, false, false, false, false, false)))) else (if x1 = 0 then ((dE.f x6 x2).bind fun t0 => (some ((t0, false, true, false, false, false)))) else ((eZ.f x6 x4).bind fun t0 => ((eZ.f x6 x3).bind fun t1 => ((bits_Len.f n0 t0.2.2.1).bind fun t2 => ((aT.f n0 t0.2.2.1 (wrap64 (-wrap64 (62 - t2)))).bind fun t3 => (if t1.2.2.1 = 0 then none else (if t1.2.2.1 = 0 then none else ((aC.f n0 x6 x5 x2 (wrap64 (wrap64 (t0.2.1 - wrap64 (62 - t2)) - t1.2.1)) (IntKind.wrap IntKind.u64 (Int.tdiv t3.1 t1.2.2.1)) !Int.tmod t3.1 t1.2.2.1 == 0).bind fun t4 => (some ((t4.1, t4.2.1, t4.2.2.1, t4.2.2.2.1, t4.2.2.2.2.1, t4.2.2.2.2.2)))))))))))) := by kernel_rfl
theorem dS.eq (n0 : Nat) (a0 a1 a2 : Int) : dS.f n0 a0 a1 a2 = ((bC.f n0 a0 [a2]).bind fun t0 => (if t0.2.2.2.2.2.2 = true then (some ((t0.1, t0.2.1, t0.2.2.1, t0.2.2.2.1, t0.2.2.2.2.1, t0.2.2.2.2.2.1))) else ((eZ.f a0 a2).bind fun t1 => ((bL.f n0 a0 a2).bind fun t2 => (if t2 = true then ((dM.f a0 t1.1).bind fun t3 => (some ((t3, false, false, false, false, false)))) else (if t1.1 = true then ((eY.f a0).bind fun t3 => (some ((t3.1, t3.2.1, t3.2.2.1, t3.2.2.2.1, t3.2.2.2.2.1, t3.2.2.2.2.2)))) else ((aO.f n0 a0 a2).bind fun t3 => (if t3 = true then ((dE.f a0 false).bind fun t4 => (some ((t4, false, false, false, false, false)))) else ((bits_Len.f n0 t1.2.2.1).bind fun t4 => (if Int.tmod (wrap64 (t1.2.1 - wrap64 (62 - t4))) 2 = 0 then ((aT.f n0 t1.2.2.1 (wrap64 (-wrap64 (62 - t4)))).bind fun t5 => ((dK.f n0 t5.1).bind fun t6 => ((aC.f n0 a0 a1 false (wrap64 (Int.tdiv (wrap64 (t1.2.1 - wrap64 (62 - t4))) 2)) (IntKind.wrap IntKind.u64 t6.1) !t6.2).bind fun t7 => (some ((t7.1, t7.2.1, t7.2.2.1, t7.2.2.2.1, t7.2.2.2.2.1, t7.2.2.2.2.2)))))) else ((aT.f n0 t1.2.2.1 (wrap64 (-wrap64 (wrap64 (62 - t4) - 1)))).bind fun t5 => ((dK.f n0 t5.1).bind fun t6 => ((aC.f n0 a0 a1 false (wrap64 (Int.tdiv (wrap64 (t1.2.1 - wrap64 (wrap64 (62 - t4) - 1))) 2)) (IntKind.wrap IntKind.u64 t6.1) !t6.2).bind fun t7 => (some ((t7.1, t7.2.1, t7.2.2.1, t7.2.2.2.1, t7.2.2.2.2.1, t7.2.2.2.2.2)))))))))))))))) := by kernel_rfl
/- Functions' trees, printed by a tool of mine out of the reckoner; Lean's kernel checks each. -/
set_option maxRecDepth 100000
noncomputable def aC.j3 (n0 : Nat) (x0 x1 : Bool) (x2 x3 : Int) (x4 : Bool) (x5 x6 : Int) (x7 x8 : Bool) (x9 x10 x11 : Bool) := jF Tryz.prog aC.cls Tryz.f63 aC.cuts [1, 1, 0, 1] [n0] n0 ⟨[(29, (.pv (.one (.b (.q x0))))), (13, (.pv (.one (.p 0 0)))), (5, (.pv (.one (.b (.q x1))))), (4, (.pv (.one (.i .u64 (.x x2))))), (3, (.pv (.one (.i .i64 (.x x3))))), (2, (.pv (.one (.b (.q x4))))), (1, (.pv (.one (.i .i64 (.x x5))))), (0, (.pv (.one (.i .i64 (.x x6)))))], [(0, (60, [(.c (.b (.q x7))), (.c (.b (.q x8))), (.c (.b (.q x9))), (.c (.b (.q x10))), (.c (.b (.q x11)))]))], 1⟩ aC.K
noncomputable def aC.j9 (n0 : Nat) (x0 x1 : Int) (x2 x3 : Int) (x4 x5 : Int) (x6 : Bool) (x7 x8 : Int) (x9 x10 : Bool) (x11 x12 x13 : Bool) := jF Tryz.prog aC.cls Tryz.f63 aC.cuts [1, 1, 1, 1, 1, 1, 1] [n0] n0 ⟨[(18, (.pv (.one (.i .i64 (.x x0))))), (17, (.pv (.one (.i .u64 (.x x1))))), (16, (.pv (.one (.i .i64 (.x x2))))), (15, (.pv (.one (.i .i64 (.x x3))))), (13, (.pv (.one (.p 0 0)))), (4, (.pv (.one (.i .u64 (.x x4))))), (3, (.pv (.one (.i .i64 (.x x5))))), (2, (.pv (.one (.b (.q x6))))), (1, (.pv (.one (.i .i64 (.x x7))))), (0, (.pv (.one (.i .i64 (.x x8)))))], [(0, (60, [(.c (.b (.q x9))), (.c (.b (.q x10))), (.c (.b (.q x11))), (.c (.b (.q x12))), (.c (.b (.q x13)))]))], 1⟩ aC.K
noncomputable def aC.j11 (n0 : Nat) (x0 x1 : Int) (x2 x3 : Int) (x4 x5 : Int) (x6 : Bool) (x7 x8 : Int) (x9 x10 : Bool) (x11 x12 x13 : Bool) := jF Tryz.prog aC.cls Tryz.f63 aC.cuts [1, 1, 1, 1, 1, 1, 1, 1] [n0] n0 ⟨[(18, (.pv (.one (.i .i64 (.x x0))))), (17, (.pv (.one (.i .u64 (.x x1))))), (16, (.pv (.one (.i .i64 (.x x2))))), (15, (.pv (.one (.i .i64 (.x x3))))), (13, (.pv (.one (.p 0 0)))), (4, (.pv (.one (.i .u64 (.x x4))))), (3, (.pv (.one (.i .i64 (.x x5))))), (2, (.pv (.one (.b (.q x6))))), (1, (.pv (.one (.i .i64 (.x x7))))), (0, (.pv (.one (.i .i64 (.x x8)))))], [(0, (60, [(.c (.b (.q x9))), (.c (.b (.q x10))), (.c (.b (.q x11))), (.c (.b (.q x12))), (.c (.b (.q x13)))]))], 1⟩ aC.K
noncomputable def aC.j14 (n0 : Nat) (x0 x1 : Int) (x2 x3 : Int) (x4 x5 : Int) (x6 : Bool) (x7 x8 : Int) (x9 x10 : Bool) (x11 x12 x13 : Bool) := jF Tryz.prog aC.cls Tryz.f63 aC.cuts [1, 1, 1, 1, 1, 1, 1, 1, 1, 1] [n0] n0 ⟨[(19, (.pv (.one (.i .i64 (.x x0))))), (18, (.pv (.one (.i .i64 (.x x1))))), (17, (.pv (.one (.i .u64 (.x x2))))), (15, (.pv (.one (.i .i64 (.x x3))))), (13, (.pv (.one (.p 0 0)))), (4, (.pv (.one (.i .u64 (.x x4))))), (3, (.pv (.one (.i .i64 (.x x5))))), (2, (.pv (.one (.b (.q x6))))), (1, (.pv (.one (.i .i64 (.x x7))))), (0, (.pv (.one (.i .i64 (.x x8)))))], [(0, (60, [(.c (.b (.q x9))), (.c (.b (.q x10))), (.c (.b (.q x11))), (.c (.b (.q x12))), (.c (.b (.q x13)))]))], 1⟩ aC.K
theorem aC.eq (n0 : Nat) (a0 a1 : Int) (a2 : Bool) (a3 a4 : Int) (a5 : Bool) : aC.f n0 a0 a1 a2 a3 a4 a5 = (if a4 = 0 then (aC.j3 n0 (!(a5)) (a5) (a4) (mn (mx a3 (-10000)) 10000) (a2) (a1) (a0) (false) (false) (false) (false) (false)) else (aC.j3 n0 (false) (a5) (a4) (mn (mx a3 (-10000)) 10000) (a2) (a1) (a0) (false) (false) (false) (false) (false))) := by kernel_rfl
theorem aC.j3_eq (n0 : Nat) (x0 x1 : Bool) (x2 x3 : Int) (x4 : Bool) (x5 x6 : Int) (x7 x8 : Bool) (x9 x10 x11 : Bool) : aC.j3 n0 x0 x1 x2 x3 x4 x5 x6 x7 x8 x9 x10 x11 = (if x0 = true then ((dM.f x6 x4).bind fun t0 => (some ((t0, false, false, false, false, false)))) else ((bD.f x6).bind fun t0 => ((dG.f n0 x6 x3 x2).bind fun t1 => ((cZ.f n0 x2 (wrap64 (t1 - x3)) x1).bind fun t2 => ((iL.f x5 x4 t2.1 t2.2).bind fun t3 => (if t3 = true then (aC.j9 n0 t2.2 (IntKind.wrap IntKind.u64 (t2.1 + 1)) (t1) t0.2 (x2) (x3) (x4) (x5) (x6) (x7) (x8) (x9) (x10) (x11)) else (aC.j9 n0 t2.2 t2.1 (t1) t0.2 (x2) (x3) (x4) (x5) (x6) (x7) (x8) (x9) (x10) (x11)))))))) := by kernel_rfl
theorem aC.j9_eq (n0 : Nat) (x0 x1 : Int) (x2 x3 : Int) (x4 x5 : Int) (x6 : Bool) (x7 x8 : Int) (x9 x10 : Bool) (x11 x12 x13 : Bool) : aC.j9 n0 x0 x1 x2 x3 x4 x5 x6 x7 x8 x9 x10 x11 x12 x13 = (if 0 ≤ IntKind.wrap IntKind.u64 (wrap64 (x3 + 1)) then (if shr IntKind.u64 x1 (IntKind.wrap IntKind.u64 (wrap64 (x3 + 1))) = 0 then (aC.j11 n0 (x0) (x1) (x2) (x3) (x4) (x5) (x6) (x7) (x8) (x9) (x10) (x11) (x12) (x13)) else (aC.j11 n0 (x0) (shr IntKind.u64 x1 1) (wrap64 (x2 + 1)) (x3) (x4) (x5) (x6) (x7) (x8) (x9) (x10) (x11) (x12) (x13))) else none) := by kernel_rfl
theorem aC.wY (n0 : Nat) (x0 x1 : Int) (x2 x3 : Int) (x4 x5 : Int) (x6 : Bool) (x7 x8 : Int) (x9 x10 : Bool) (x11 x12 x13 : Bool) : aC.j11 n0 x0 x1 x2 x3 x4 x5 x6 x7 x8 x9 x10 x11 x12 x13 = ((dC.f x8).bind fun t0 => (if 0 ≤ IntKind.wrap IntKind.u64 x3 then (if shr IntKind.u64 x1 (IntKind.wrap IntKind.u64 x3) = 0 then (aC.j14 n0 (Int.ofNat 0) (x0) (x1) (x3) (x4) (x5) (x6) (x7) (x8) (x9) (x10) (x11) (x12) (x13)) else (aC.j14 n0 (wrap64 (wrap64 (wrap64 (x2 + x3) - t0) + 1)) (x0) (x1) (x3) (x4) (x5) (x6) (x7) (x8) (x9) (x10) (x11) (x12) (x13))) else none)) := by kernel_rfl
theorem aC.aBu (n0 : Nat) (x0 x1 : Int) (x2 x3 : Int) (x4 x5 : Int) (x6 : Bool) (x7 x8 : Int) (x9 x10 : Bool) (x11 x12 x13 : Bool) : aC.j14 n0 x0 x1 x2 x3 x4 x5 x6 x7 x8 x9 x10 x11 x12 x13 = ((dI.f x8).bind fun t0 => (if t0 ≤ x0 then ((YtfapjegkilljnaaGreat.L.bY.f n0 x8 x7 x6).bind fun t1 => (some ((t1.1, t1.2.1, t1.2.2.1, t1.2.2.2.1, t1.2.2.2.2.1, t1.2.2.2.2.2)))) else (if x1 = 0 then ((fJ.f x2 x3).bind fun t1 => ((cB.f x8 x6 x0 (t1 % 4294967296)).bind fun t2 => (some ((t2, false, false, false, false, !x1 == 0))))) else (if x4 = 0 then ((fJ.f x2 x3).bind fun t1 => ((cB.f x8 x6 x0 (t1 % 4294967296)).bind fun t2 => (some ((t2, false, false, false, true, !x1 == 0))))) else ((bits_Len.f n0 x4).bind fun t1 => ((dC.f x8).bind fun t2 => ((fJ.f x2 x3).bind fun t3 => ((cB.f x8 x6 x0 (t3 % 4294967296)).bind fun t4 => (some ((t4, false, false, false, decide (wrap64 (wrap64 (x5 + t1) - 1) < t2), !x1 == 0))))))))))) := by kernel_rfl
noncomputable def aJ.j6 (n0 : Nat) (x0 x1 : Bool) (x2 x3 : Int) (x4 x5 : Int) (x6 x7 : Bool) (x8 x9 x10 : Bool) := jF Tryz.prog aJ.cls Tryz.f38 aJ.cuts [1, 1, 1, 0, 1] [n0] n0 ⟨[(56, (.pv (.one (.b (.q x0))))), (12, (.pv (.one (.b (.q x1))))), (9, (.pv (.one (.p 0 0)))), (3, (.pv (.one (.i .u32 (.x x2))))), (2, (.pv (.one (.i .u32 (.x x3))))), (1, (.pv (.one (.i .i64 (.x x4))))), (0, (.pv (.one (.i .i64 (.x x5)))))], [(0, (60, [(.c (.b (.q x6))), (.c (.b (.q x7))), (.c (.b (.q x8))), (.c (.b (.q x9))), (.c (.b (.q x10)))]))], 1⟩ aJ.K
noncomputable def aJ.j8 (n0 : Nat) (x0 x1 : Bool) (x2 x3 : Int) (x4 x5 : Int) (x6 x7 : Bool) (x8 x9 x10 : Bool) := jF Tryz.prog aJ.cls Tryz.f38 aJ.cuts [1, 1, 1, 1, 0, 1] [n0] n0 ⟨[(67, (.pv (.one (.b (.q x0))))), (12, (.pv (.one (.b (.q x1))))), (9, (.pv (.one (.p 0 0)))), (3, (.pv (.one (.i .u32 (.x x2))))), (2, (.pv (.one (.i .u32 (.x x3))))), (1, (.pv (.one (.i .i64 (.x x4))))), (0, (.pv (.one (.i .i64 (.x x5)))))], [(0, (60, [(.c (.b (.q x6))), (.c (.b (.q x7))), (.c (.b (.q x8))), (.c (.b (.q x9))), (.c (.b (.q x10)))]))], 1⟩ aJ.K
theorem aJ.eq (n0 : Nat) (a0 a1 : Int) (a2 a3 : Int) : aJ.f n0 a0 a1 a2 a3 = ((aD.f n0 a0 [a2, a3]).bind fun t0 => (if t0.1 = true then ((bH.f a0).bind fun t1 => (some ((t1, t0.2, false, false, false, false)))) else ((bA.f a0 a2).bind fun t1 => ((bA.f a0 a3).bind fun t2 => ((aK.f n0 a0 a2).bind fun t3 => (if t3 = true then ((aG.f n0 a0 a3).bind fun t4 => (if t4 = true then (aJ.j6 n0 (true) (!(t1 == t2)) (a3) (a2) (a1) (a0) (false) (false) (false) (false) (false)) else ((aG.f n0 a0 a2).bind fun t5 => (if t5 = true then ((aK.f n0 a0 a3).bind fun t6 => (aJ.j6 n0 (t6) (!(t1 == t2)) (a3) (a2) (a1) (a0) (false) (false) (false) (false) (false))) else (aJ.j6 n0 (false) (!(t1 == t2)) (a3) (a2) (a1) (a0) (false) (false) (false) (false) (false)))))) else ((aG.f n0 a0 a2).bind fun t4 => (if t4 = true then ((aK.f n0 a0 a3).bind fun t5 => (aJ.j6 n0 (t5) (!(t1 == t2)) (a3) (a2) (a1) (a0) (false) (false) (false) (false) (false))) else (aJ.j6 n0 (false) (!(t1 == t2)) (a3) (a2) (a1) (a0) (false) (false) (false) (false) (false)))))))))) := by kernel_rfl
theorem aJ.xW (n0 : Nat) (x0 x1 : Bool) (x2 x3 : Int) (x4 x5 : Int) (x6 x7 : Bool) (x8 x9 x10 : Bool) : aJ.j6 n0 x0 x1 x2 x3 x4 x5 x6 x7 x8 x9 x10 = (if x0 = true then ((bH.f x5).bind fun t0 => (some ((t0, true, false, false, false, false)))) else ((aG.f n0 x5 x3).bind fun t0 => (if t0 = true then (aJ.j8 n0 (true) (x1) (x2) (x3) (x4) (x5) (x6) (x7) (x8) (x9) (x10)) else ((aG.f n0 x5 x2).bind fun t1 => (aJ.j8 n0 (t1) (x1) (x2) (x3) (x4) (x5) (x6) (x7) (x8) (x9) (x10)))))) := by kernel_rfl
theorem aJ.aBd (n0 : Nat) (x0 x1 : Bool) (x2 x3 : Int) (x4 x5 : Int) (x6 x7 : Bool) (x8 x9 x10 : Bool) : aJ.j8 n0 x0 x1 x2 x3 x4 x5 x6 x7 x8 x9 x10 = (if x0 = true then ((bF.f x5 x1).bind fun t0 => (some ((t0, false, false, false, false, false)))) else ((aH.f n0 x5 x3).bind fun t0 => ((aH.f n0 x5 x2).bind fun t1 => ((aA.f n0 x5 x4 x1 (wrap64 (t0.2.1 + t1.2.1)) (IntKind.wrap IntKind.u64 (t0.2.2 * t1.2.2)) false).bind fun t2 => (some ((t2.1, t2.2.1, t2.2.2.1, t2.2.2.2.1, t2.2.2.2.2.1, t2.2.2.2.2.2))))))) := by kernel_rfl
noncomputable def aB.j6 (n0 : Nat) (x0 x1 : Bool) (x2 x3 : Int) (x4 x5 : Int) (x6 x7 : Bool) (x8 x9 x10 : Bool) := jF Tryz.prog aB.cls Tryz.f40 aB.cuts [1, 1, 1, 0, 0, 1] [n0] n0 ⟨[(39, (.pv (.one (.b (.q x0))))), (12, (.pv (.one (.b (.q x1))))), (9, (.pv (.one (.p 0 0)))), (3, (.pv (.one (.i .u32 (.x x2))))), (2, (.pv (.one (.i .u32 (.x x3))))), (1, (.pv (.one (.i .i64 (.x x4))))), (0, (.pv (.one (.i .i64 (.x x5)))))], [(0, (60, [(.c (.b (.q x6))), (.c (.b (.q x7))), (.c (.b (.q x8))), (.c (.b (.q x9))), (.c (.b (.q x10)))]))], 1⟩ aB.K
noncomputable def aB.j10 (n0 : Nat) (x0 x1 : Bool) (x2 x3 : Int) (x4 x5 : Int) (x6 x7 : Bool) (x8 x9 x10 : Bool) := jF Tryz.prog aB.cls Tryz.f40 aB.cuts [1, 1, 1, 0, 0, 1, 1, 1, 1, 1] [n0] n0 ⟨[(69, (.pv (.one (.b (.q x0))))), (12, (.pv (.one (.b (.q x1))))), (9, (.pv (.one (.p 0 0)))), (3, (.pv (.one (.i .u32 (.x x2))))), (2, (.pv (.one (.i .u32 (.x x3))))), (1, (.pv (.one (.i .i64 (.x x4))))), (0, (.pv (.one (.i .i64 (.x x5)))))], [(0, (60, [(.c (.b (.q x6))), (.c (.b (.q x7))), (.c (.b (.q x8))), (.c (.b (.q x9))), (.c (.b (.q x10)))]))], 1⟩ aB.K
noncomputable def aB.l15 (k n0 : Nat) (x0 x1 : Int) (x2 x3 : Int) (x4 : Bool) (x5 x6 : Int) (x7 x8 : Bool) (x9 x10 x11 : Bool) := evIn Tryz.prog aB.cls Tryz.f40 aB.cuts [1, 1, 1, 1, 1, 1, 0, 0] [n0] k ⟨[(18, (.pv (.one (.i .u64 (.x x0))))), (17, (.pv (.one (.i .i64 (.x x1))))), (15, (.pv (.one (.i .u64 (.x x2))))), (14, (.pv (.one (.i .i64 (.x x3))))), (12, (.pv (.one (.b (.q x4))))), (9, (.pv (.one (.p 0 0)))), (1, (.pv (.one (.i .i64 (.x x5))))), (0, (.pv (.one (.i .i64 (.x x6)))))], [(0, (60, [(.c (.b (.q x7))), (.c (.b (.q x8))), (.c (.b (.q x9))), (.c (.b (.q x10))), (.c (.b (.q x11)))]))], 1⟩ aB.K
noncomputable def aB.l17 (k n0 : Nat) (x0 x1 : Int) (x2 x3 : Int) (x4 : Bool) (x5 x6 : Int) (x7 x8 : Bool) (x9 x10 x11 : Bool) := evIn Tryz.prog aB.cls Tryz.f40 aB.cuts [1, 1, 1, 1, 1, 1, 1, 0, 0] [n0] k ⟨[(18, (.pv (.one (.i .u64 (.x x0))))), (17, (.pv (.one (.i .i64 (.x x1))))), (15, (.pv (.one (.i .u64 (.x x2))))), (14, (.pv (.one (.i .i64 (.x x3))))), (12, (.pv (.one (.b (.q x4))))), (9, (.pv (.one (.p 0 0)))), (1, (.pv (.one (.i .i64 (.x x5))))), (0, (.pv (.one (.i .i64 (.x x6)))))], [(0, (60, [(.c (.b (.q x7))), (.c (.b (.q x8))), (.c (.b (.q x9))), (.c (.b (.q x10))), (.c (.b (.q x11)))]))], 1⟩ aB.K
theorem aB.eq (n0 : Nat) (a0 a1 : Int) (a2 a3 : Int) : aB.f n0 a0 a1 a2 a3 = ((aD.f n0 a0 [a2, a3]).bind fun t0 => (if t0.1 = true then ((bH.f a0).bind fun t1 => (some ((t1, t0.2, false, false, false, false)))) else ((bA.f a0 a2).bind fun t1 => ((bA.f a0 a3).bind fun t2 => ((aK.f n0 a0 a2).bind fun t3 => (if t3 = true then ((aK.f n0 a0 a3).bind fun t4 => (if t4 = true then (aB.j6 n0 (true) (!(t1 == t2)) (a3) (a2) (a1) (a0) (false) (false) (false) (false) (false)) else ((aG.f n0 a0 a2).bind fun t5 => (if t5 = true then ((aG.f n0 a0 a3).bind fun t6 => (aB.j6 n0 (t6) (!(t1 == t2)) (a3) (a2) (a1) (a0) (false) (false) (false) (false) (false))) else (aB.j6 n0 (false) (!(t1 == t2)) (a3) (a2) (a1) (a0) (false) (false) (false) (false) (false)))))) else ((aG.f n0 a0 a2).bind fun t4 => (if t4 = true then ((aG.f n0 a0 a3).bind fun t5 => (aB.j6 n0 (t5) (!(t1 == t2)) (a3) (a2) (a1) (a0) (false) (false) (false) (false) (false))) else (aB.j6 n0 (false) (!(t1 == t2)) (a3) (a2) (a1) (a0) (false) (false) (false) (false) (false)))))))))) := by kernel_rfl
theorem aB.xW (n0 : Nat) (x0 x1 : Bool) (x2 x3 : Int) (x4 x5 : Int) (x6 x7 : Bool) (x8 x9 x10 : Bool) : aB.j6 n0 x0 x1 x2 x3 x4 x5 x6 x7 x8 x9 x10 = (if x0 = true then ((bH.f x5).bind fun t0 => (some ((t0, true, false, false, false, false)))) else ((aG.f n0 x5 x3).bind fun t0 => (if t0 = true then ((bF.f x5 x1).bind fun t1 => (some ((t1, false, false, false, false, false)))) else ((aG.f n0 x5 x2).bind fun t1 => (if t1 = true then (aB.j10 n0 (true) (x1) (x2) (x3) (x4) (x5) (x6) (x7) (x8) (x9) (x10)) else ((aK.f n0 x5 x3).bind fun t2 => (aB.j10 n0 (t2) (x1) (x2) (x3) (x4) (x5) (x6) (x7) (x8) (x9) (x10)))))))) := by kernel_rfl
theorem aB.wN (n0 : Nat) (x0 x1 : Bool) (x2 x3 : Int) (x4 x5 : Int) (x6 x7 : Bool) (x8 x9 x10 : Bool) : aB.j10 n0 x0 x1 x2 x3 x4 x5 x6 x7 x8 x9 x10 = (if x0 = true then ((aW.f x5 x1).bind fun t0 => (some ((t0, false, false, false, false, false)))) else ((aK.f n0 x5 x2).bind fun t0 => (if t0 = true then ((bF.f x5 x1).bind fun t1 => (some ((t1, false, true, false, false, false)))) else ((aH.f n0 x5 x3).bind fun t1 => ((aH.f n0 x5 x2).bind fun t2 => (aB.l15 n0 n0 t2.2.2 t2.2.1 t1.2.2 t1.2.1 (x1) (x4) (x5) (x6) (x7) (x8) (x9) (x10))))))) := by kernel_rfl
theorem aB.l15_eq (k n0 : Nat) (x0 x1 : Int) (x2 x3 : Int) (x4 : Bool) (x5 x6 : Int) (x7 x8 : Bool) (x9 x10 x11 : Bool) : aB.l15 (k + 1) n0 x0 x1 x2 x3 x4 x5 x6 x7 x8 x9 x10 x11 = (if x2 < 8388608 then (aB.l15 k n0 (x0) (x1) (shl IntKind.u64 x2 1) (wrap64 (x3 - 1)) (x4) (x5) (x6) (x7) (x8) (x9) (x10) (x11)) else (aB.l17 n0 n0 (x0) (x1) (x2) (x3) (x4) (x5) (x6) (x7) (x8) (x9) (x10) (x11))) := by kernel_rfl
theorem aB.l17_eq (k n0 : Nat) (x0 x1 : Int) (x2 x3 : Int) (x4 : Bool) (x5 x6 : Int) (x7 x8 : Bool) (x9 x10 x11 : Bool) : aB.l17 (k + 1) n0 x0 x1 x2 x3 x4 x5 x6 x7 x8 x9 x10 x11 = (if x0 < 8388608 then (aB.l17 k n0 (shl IntKind.u64 x0 1) (wrap64 (x1 - 1)) (x2) (x3) (x4) (x5) (x6) (x7) (x8) (x9) (x10) (x11)) else (if x0 = 0 then none else (if x0 = 0 then none else ((aA.f n0 x6 x5 x4 (wrap64 (wrap64 (x3 - x1) - 40)) (IntKind.wrap IntKind.u64 (Int.tdiv (shl IntKind.u64 x2 40) x0)) !Int.tmod (shl IntKind.u64 x2 40) x0 == 0).bind fun t0 => (some ((t0.1, t0.2.1, t0.2.2.1, t0.2.2.2.1, t0.2.2.2.2.1, t0.2.2.2.2.2))))))) := by kernel_rfl
noncomputable def aR.l11 (k n0 : Nat) (x0 x1 : Int) (x2 x3 : Int) (x4 x5 : Bool) (x6 x7 x8 : Bool) := evIn Tryz.prog aR.cls Tryz.f42 aR.cuts [1, 1, 1, 1, 1, 1, 0, 0] [n0] k ⟨[(12, (.pv (.one (.i .u64 (.x x0))))), (11, (.pv (.one (.i .i64 (.x x1))))), (7, (.pv (.one (.p 0 0)))), (1, (.pv (.one (.i .i64 (.x x2))))), (0, (.pv (.one (.i .i64 (.x x3)))))], [(0, (60, [(.c (.b (.q x4))), (.c (.b (.q x5))), (.c (.b (.q x6))), (.c (.b (.q x7))), (.c (.b (.q x8)))]))], 1⟩ aR.K
theorem aR.eq (n0 : Nat) (a0 a1 a2 : Int) : aR.f n0 a0 a1 a2 = ((aD.f n0 a0 [a2]).bind fun t0 => (if t0.1 = true then ((bH.f a0).bind fun t1 => (some ((t1, t0.2, false, false, false, false)))) else ((aK.f n0 a0 a2).bind fun t1 => (if t1 = true then ((aU.f a0).bind fun t2 => (some ((bits BinOp.and IntKind.u32 a2 t2, false, false, false, false, false)))) else ((bA.f a0 a2).bind fun t2 => (if t2 = true then ((bH.f a0).bind fun t3 => (some ((t3, true, false, false, false, false)))) else ((aG.f n0 a0 a2).bind fun t3 => (if t3 = true then ((aU.f a0).bind fun t4 => (some ((bits BinOp.and IntKind.u32 a2 t4, false, false, false, false, false)))) else ((aH.f n0 a0 a2).bind fun t4 => (aR.l11 n0 n0 t4.2.2 t4.2.1 (a1) (a0) (false) (false) (false) (false) (false))))))))))) := by kernel_rfl
theorem aR.l11_eq (k n0 : Nat) (x0 x1 : Int) (x2 x3 : Int) (x4 x5 : Bool) (x6 x7 x8 : Bool) : aR.l11 (k + 1) n0 x0 x1 x2 x3 x4 x5 x6 x7 x8 = (if x0 < 2305843009213693952 then (aR.l11 k n0 (shl IntKind.u64 x0 1) (wrap64 (x1 - 1)) (x2) (x3) (x4) (x5) (x6) (x7) (x8)) else (if Int.tmod x1 2 = 0 then ((bE.f n0 x0).bind fun t0 => ((aA.f n0 x3 x2 false (wrap64 (Int.tdiv x1 2)) (IntKind.wrap IntKind.u64 t0.1) !t0.2).bind fun t1 => (some ((t1.1, t1.2.1, t1.2.2.1, t1.2.2.2.1, t1.2.2.2.2.1, t1.2.2.2.2.2))))) else (aR.l11 k n0 (shl IntKind.u64 x0 1) (wrap64 (x1 - 1)) (x2) (x3) (x4) (x5) (x6) (x7) (x8)))) := by kernel_rfl
end Go.Proofs.YtfapjegkilljnaaGreat.L

-- Printed by a program of this session's out of Lean's print of the translation; Lean checks it.
namespace Go.Proofs.YtfapjegkilljnaaGreat.P
open Go.RowKit Go.Proofs.YtfapjegkilljnaaGreatW.PrintWords Go.Proofs.YtfapjegkilljnaaGreatW.PrintLast Go.Proofs.YtfapjegkilljnaaGreatW.PrintMore
attribute [local go_sem] max2_int min2_int max_two min_two max_three min_three max_four min_four

-- NEED 1
/-! ### aR: function 42 -/
def aR.l0 : Nat → Int → Int → Int → Int → Option (Int × Bool × Bool × Bool × Bool × Bool)
 |0, _, _, _, _ => none
 |k + 1, x0, x1, x11, x12 => if x12 < 2305843009213693952 then (aR.l0 k x0 x1 (wrap64 (x11 - 1)) (IntKind.u64.wrap (x12 * 2))) else (if (Int.tmod x11 2) = 0 then ((bE.f k x12).bind fun bt1008 => ((aA.f k x0 x1 false (wrap64 (Int.tdiv x11 2)) (IntKind.u64.wrap (bt1008.1)) (!bt1008.2)).bind fun bt1010 => (some (bt1010.1, bt1010.2.1, bt1010.2.2.1, bt1010.2.2.2.1, bt1010.2.2.2.2.1, bt1010.2.2.2.2.2)))) else (aR.l0 k x0 x1 (wrap64 (x11 - 1)) (IntKind.u64.wrap (x12 * 2))))
def aR.f (k : Nat) (a0 a1 a2 : Int) : Option (Int × Bool × Bool × Bool × Bool × Bool) := (aD.f k a0 (([a2] : List Int))).bind fun bt996 => (if bt996.1 = true then ((bH.f a0).bind fun t998 => (some (t998, bt996.2, false, false, false, false))) else ((aK.f k a0 a2).bind fun t999 => (if t999 = true then ((aU.f a0).bind fun t1000 => (some (Go.bits .and .u32 a2 t1000, false, false, false, false, false))) else ((bA.f a0 a2).bind fun t1001 => (if t1001 = true then ((bH.f a0).bind fun t1002 => (some (t1002, true, false, false, false, false))) else ((aG.f k a0 a2).bind fun t1003 => (if t1003 = true then ((aU.f a0).bind fun t1004 => (some (Go.bits .and .u32 a2 t1004, false, false, false, false, false))) else ((aH.f k a0 a2).bind fun bt1005 => (aR.l0 k a0 a1 bt1005.2.1 bt1005.2.2)))))))))
/- What the reckoner tells of printed functions. -/
set_option maxRecDepth 100000
theorem aC.nM {k n : Nat} (hk : k ≤ n) {x0 x1 : Int} {x2 : Bool} {x3 x4 : Int} {x15 x17 : Int} {x18 x19 : Int} {ex9 ex10 : Bool} {ex11 ex12 ex13 : Bool} : LeO (aC.j3 k x0 x1 x2 x3 x4 x15 x17 x18 x19) (L.aC.j14 n x19 x18 x17 x15 x4 x3 x2 x1 x0 ex9 ex10 ex11 ex12 ex13) := by
 cases k with
 |zero => rw [aC.j3]; exact LeO.none _
 |succ k =>
 replace hk := Nat.le_of_succ_le hk
 rw [aC.j3, L.aC.aBu]
 repeat' first
  |(with_reducible exact LeO.refl _)
  |exact LeO.none _
  |(with_reducible first|exact fun r h => at_rounds (dG.mono _ _ _) hk h|exact fun r h => at_rounds (cZ.mono _ _ _) hk h|exact bY.le hk|exact fun r h => at_rounds (bits_Len.mono _) hk h|refine LeO.bind ?_ (fun _ => ?_)|refine LeO.gH Iff.rfl (fun _ => ?_) (fun _ => ?_))
  |exact fun r h => at_rounds (dG.mono _ _ _) hk h
  |exact fun r h => at_rounds (cZ.mono _ _ _) hk h
  |exact bY.le hk
  |exact fun r h => at_rounds (bits_Len.mono _) hk h
  |exact LeO.refl _
  |(with_reducible first|refine LeO.pos (by assumption) ?_|refine LeO.neg (by assumption) ?_|refine LeO.l6 (by assumption) ?_|refine LeO.lZ (by assumption) ?_|refine LeO.gH (by omega) (fun _ => ?_) (fun _ => ?_))
theorem aC.jR {k n : Nat} (hk : k ≤ n) {x0 x1 : Int} {x2 : Bool} {x3 x4 : Int} {x15 x16 : Int} {x17 x18 : Int} {ex9 ex10 : Bool} {ex11 ex12 ex13 : Bool} : LeO (aC.j2 k x0 x1 x2 x3 x4 x15 x16 x17 x18) (L.aC.j11 n x18 x17 x16 x15 x4 x3 x2 x1 x0 ex9 ex10 ex11 ex12 ex13) := by
 cases k with
 |zero => rw [aC.j2]; exact LeO.none _
 |succ k =>
 replace hk := Nat.le_of_succ_le hk
 rw [aC.j2, L.aC.wY]
 repeat' first
  |(with_reducible exact LeO.refl _)
  |exact LeO.none _
  |(with_reducible first|exact aC.nM hk|exact fun r h => at_rounds (dG.mono _ _ _) hk h|exact fun r h => at_rounds (cZ.mono _ _ _) hk h|exact bY.le hk|exact fun r h => at_rounds (bits_Len.mono _) hk h|refine LeO.bind ?_ (fun _ => ?_)|refine LeO.gH Iff.rfl (fun _ => ?_) (fun _ => ?_))
  |exact aC.nM hk
  |exact fun r h => at_rounds (dG.mono _ _ _) hk h
  |exact fun r h => at_rounds (cZ.mono _ _ _) hk h
  |exact bY.le hk
  |exact fun r h => at_rounds (bits_Len.mono _) hk h
  |exact LeO.refl _
  |(with_reducible first|refine LeO.pos (by assumption) ?_|refine LeO.neg (by assumption) ?_|refine LeO.l6 (by assumption) ?_|refine LeO.lZ (by assumption) ?_|refine LeO.gH (by omega) (fun _ => ?_) (fun _ => ?_))
theorem aC.gZ {k n : Nat} (hk : k ≤ n) {x0 x1 : Int} {x2 : Bool} {x3 x4 : Int} {x15 x16 : Int} {x17 x18 : Int} {ex9 ex10 : Bool} {ex11 ex12 ex13 : Bool} : LeO (aC.j1 k x0 x1 x2 x3 x4 x15 x16 x17 x18) (L.aC.j9 n x18 x17 x16 x15 x4 x3 x2 x1 x0 ex9 ex10 ex11 ex12 ex13) := by
 cases k with
 |zero => rw [aC.j1]; exact LeO.none _
 |succ k =>
 replace hk := Nat.le_of_succ_le hk
 rw [aC.j1, L.aC.j9_eq]
 repeat' first
  |(with_reducible exact LeO.refl _)
  |exact LeO.none _
  |(with_reducible first|exact aC.nM hk|exact aC.jR hk|exact fun r h => at_rounds (dG.mono _ _ _) hk h|exact fun r h => at_rounds (cZ.mono _ _ _) hk h|exact bY.le hk|exact fun r h => at_rounds (bits_Len.mono _) hk h|refine LeO.bind ?_ (fun _ => ?_)|refine LeO.gH Iff.rfl (fun _ => ?_) (fun _ => ?_))
  |exact aC.nM hk
  |exact aC.jR hk
  |exact fun r h => at_rounds (dG.mono _ _ _) hk h
  |exact fun r h => at_rounds (cZ.mono _ _ _) hk h
  |exact bY.le hk
  |exact fun r h => at_rounds (bits_Len.mono _) hk h
  |exact LeO.refl _
  |(with_reducible first|refine LeO.pos (by assumption) ?_|refine LeO.neg (by assumption) ?_|refine LeO.l6 (by assumption) ?_|refine LeO.lZ (by assumption) ?_|refine LeO.gH (by omega) (fun _ => ?_) (fun _ => ?_))
theorem aC.kH {k n : Nat} (hk : k ≤ n) {x0 x1 : Int} {x2 : Bool} {x3 x4 : Int} {x5 x29 : Bool} {ex7 ex8 : Bool} {ex9 ex10 ex11 : Bool} : LeO (aC.j0 k x0 x1 x2 x3 x4 x5 x29) (L.aC.j3 n x29 x5 x4 x3 x2 x1 x0 ex7 ex8 ex9 ex10 ex11) := by
 cases k with
 |zero => rw [aC.j0]; exact LeO.none _
 |succ k =>
 replace hk := Nat.le_of_succ_le hk
 rw [aC.j0, L.aC.j3_eq]
 repeat' first
  |(with_reducible exact LeO.refl _)
  |exact LeO.none _
  |(with_reducible first|exact aC.nM hk|exact aC.jR hk|exact aC.gZ hk|exact fun r h => at_rounds (dG.mono _ _ _) hk h|exact fun r h => at_rounds (cZ.mono _ _ _) hk h|exact bY.le hk|exact fun r h => at_rounds (bits_Len.mono _) hk h|refine LeO.bind ?_ (fun _ => ?_)|refine LeO.gH Iff.rfl (fun _ => ?_) (fun _ => ?_))
  |exact aC.nM hk
  |exact aC.jR hk
  |exact aC.gZ hk
  |exact fun r h => at_rounds (dG.mono _ _ _) hk h
  |exact fun r h => at_rounds (cZ.mono _ _ _) hk h
  |exact bY.le hk
  |exact fun r h => at_rounds (bits_Len.mono _) hk h
  |exact LeO.refl _
  |(with_reducible first|refine LeO.pos (by assumption) ?_|refine LeO.neg (by assumption) ?_|refine LeO.l6 (by assumption) ?_|refine LeO.lZ (by assumption) ?_|refine LeO.gH (by omega) (fun _ => ?_) (fun _ => ?_))
set_option maxHeartbeats 4000000 in
theorem aC.le {k n : Nat} (hk : k ≤ n) {a0 a1 : Int} {a2 : Bool} {a3 a4 : Int} {a5 : Bool} : LeO (aC.f k a0 a1 a2 a3 a4 a5) (L.aC.f n a0 a1 a2 a3 a4 a5) := by
 unfold aC.f
 rw [L.aC.eq]
 try simp only [Bool.and_true]
 repeat' first
  |(with_reducible exact LeO.refl _)
  |exact LeO.none _
  |(with_reducible first|exact aC.nM hk|exact aC.jR hk|exact aC.gZ hk|exact aC.kH hk|exact fun r h => at_rounds (dG.mono _ _ _) hk h|exact fun r h => at_rounds (cZ.mono _ _ _) hk h|exact bY.le hk|exact fun r h => at_rounds (bits_Len.mono _) hk h|refine LeO.bind ?_ (fun _ => ?_)|refine LeO.gH Iff.rfl (fun _ => ?_) (fun _ => ?_))
  |exact aC.nM hk
  |exact aC.jR hk
  |exact aC.gZ hk
  |exact aC.kH hk
  |exact fun r h => at_rounds (dG.mono _ _ _) hk h
  |exact fun r h => at_rounds (cZ.mono _ _ _) hk h
  |exact bY.le hk
  |exact fun r h => at_rounds (bits_Len.mono _) hk h
  |exact LeO.refl _
  |(with_reducible first|refine LeO.pos (by assumption) ?_|refine LeO.neg (by assumption) ?_|refine LeO.l6 (by assumption) ?_|refine LeO.lZ (by assumption) ?_|refine LeO.gH (by omega) (fun _ => ?_) (fun _ => ?_))
theorem aJ.gZ {k n : Nat} (hk : k ≤ n) {x0 x1 : Int} {x2 x3 : Int} {x12 x67 : Bool} {ex6 ex7 : Bool} {ex8 ex9 ex10 : Bool} : LeO (aJ.j1 k x0 x1 x2 x3 x12 x67) (L.aJ.j8 n x67 x12 x3 x2 x1 x0 ex6 ex7 ex8 ex9 ex10) := by
 cases k with
 |zero => rw [aJ.j1]; exact LeO.none _
 |succ k =>
 replace hk := Nat.le_of_succ_le hk
 rw [aJ.j1, L.aJ.aBd]
 repeat' first
  |(with_reducible exact LeO.refl _)
  |exact LeO.none _
  |(with_reducible first|exact fun r h => at_rounds (aD.mono _ _) hk h|exact fun r h => at_rounds (aK.mono _ _) hk h|exact fun r h => at_rounds (aG.mono _ _) hk h|exact fun r h => at_rounds (aH.mono _ _) hk h|exact aA.le hk|refine LeO.bind ?_ (fun _ => ?_)|refine LeO.gH Iff.rfl (fun _ => ?_) (fun _ => ?_))
  |exact fun r h => at_rounds (aD.mono _ _) hk h
  |exact fun r h => at_rounds (aK.mono _ _) hk h
  |exact fun r h => at_rounds (aG.mono _ _) hk h
  |exact fun r h => at_rounds (aH.mono _ _) hk h
  |exact aA.le hk
  |exact LeO.refl _
  |(with_reducible first|refine LeO.pos (by assumption) ?_|refine LeO.neg (by assumption) ?_|refine LeO.l6 (by assumption) ?_|refine LeO.lZ (by assumption) ?_|refine LeO.gH (by omega) (fun _ => ?_) (fun _ => ?_))
theorem aJ.kH {k n : Nat} (hk : k ≤ n) {x0 x1 : Int} {x2 x3 : Int} {x12 x56 : Bool} {ex6 ex7 : Bool} {ex8 ex9 ex10 : Bool} : LeO (aJ.j0 k x0 x1 x2 x3 x12 x56) (L.aJ.j6 n x56 x12 x3 x2 x1 x0 ex6 ex7 ex8 ex9 ex10) := by
 cases k with
 |zero => rw [aJ.j0]; exact LeO.none _
 |succ k =>
 replace hk := Nat.le_of_succ_le hk
 rw [aJ.j0, L.aJ.xW]
 repeat' first
  |(with_reducible exact LeO.refl _)
  |exact LeO.none _
  |(with_reducible first|exact aJ.gZ hk|exact fun r h => at_rounds (aD.mono _ _) hk h|exact fun r h => at_rounds (aK.mono _ _) hk h|exact fun r h => at_rounds (aG.mono _ _) hk h|exact fun r h => at_rounds (aH.mono _ _) hk h|exact aA.le hk|refine LeO.bind ?_ (fun _ => ?_)|refine LeO.gH Iff.rfl (fun _ => ?_) (fun _ => ?_))
  |exact aJ.gZ hk
  |exact fun r h => at_rounds (aD.mono _ _) hk h
  |exact fun r h => at_rounds (aK.mono _ _) hk h
  |exact fun r h => at_rounds (aG.mono _ _) hk h
  |exact fun r h => at_rounds (aH.mono _ _) hk h
  |exact aA.le hk
  |exact LeO.refl _
  |(with_reducible first|refine LeO.pos (by assumption) ?_|refine LeO.neg (by assumption) ?_|refine LeO.l6 (by assumption) ?_|refine LeO.lZ (by assumption) ?_|refine LeO.gH (by omega) (fun _ => ?_) (fun _ => ?_))
set_option maxHeartbeats 4000000 in
theorem aJ.le {k n : Nat} (hk : k ≤ n) {a0 a1 : Int} {a2 a3 : Int} : LeO (aJ.f k a0 a1 a2 a3) (L.aJ.f n a0 a1 a2 a3) := by
 unfold aJ.f
 rw [L.aJ.eq]
 try simp only [Bool.and_true]
 repeat' first
  |(with_reducible exact LeO.refl _)
  |exact LeO.none _
  |(with_reducible first|exact aJ.gZ hk|exact aJ.kH hk|exact fun r h => at_rounds (aD.mono _ _) hk h|exact fun r h => at_rounds (aK.mono _ _) hk h|exact fun r h => at_rounds (aG.mono _ _) hk h|exact fun r h => at_rounds (aH.mono _ _) hk h|exact aA.le hk|refine LeO.bind ?_ (fun _ => ?_)|refine LeO.gH Iff.rfl (fun _ => ?_) (fun _ => ?_))
  |exact aJ.gZ hk
  |exact aJ.kH hk
  |exact fun r h => at_rounds (aD.mono _ _) hk h
  |exact fun r h => at_rounds (aK.mono _ _) hk h
  |exact fun r h => at_rounds (aG.mono _ _) hk h
  |exact fun r h => at_rounds (aH.mono _ _) hk h
  |exact aA.le hk
  |exact LeO.refl _
  |(with_reducible first|refine LeO.pos (by assumption) ?_|refine LeO.neg (by assumption) ?_|refine LeO.l6 (by assumption) ?_|refine LeO.lZ (by assumption) ?_|refine LeO.gH (by omega) (fun _ => ?_) (fun _ => ?_))
theorem aJ.calls (k : Nat) (a0 a1 : Int) (a2 a3 r1 : Int) (r2 r3 : Bool) (r4 r5 r6 : Bool) (w : World) (h : aJ.f k a0 a1 a2 a3 = some (r1, r2, r3, r4, r5, r6)) :
  Calls Tryz.prog 38 #[.int .i64 a0, .int .i64 a1, .int .u32 a2, .int .u32 a3] w fun e w' => e = .returned (.tuple #[.int .u32 r1, .agg #[.bool r2, .bool r3, .bool r4, .bool r5, .bool r6]]) ∧ Below w.heap.size w w' :=
 Go.Proofs.YtfapjegkilljnaaGreat.Ek.iK L.aJ.ok k ((a0, ()), (a1, ()), (a2, ()), (a3, ()), ()) (r1, r2, r3, r4, r5, r6) rfl (aJ.le (Nat.le_refl _) _ h) w
theorem aB.wO {k m n : Nat} (hm : k ≤ m) (hk : k ≤ n) {x0 x1 : Int} {x12 : Bool} {x14 x15 : Int} {x17 x18 : Int} {ex7 ex8 : Bool} {ex9 ex10 ex11 : Bool} : LeO (aB.l1 k x0 x1 x12 x14 x15 x17 x18) (L.aB.l17 m n x18 x17 x15 x14 x12 x1 x0 ex7 ex8 ex9 ex10 ex11) := by
 induction k generalizing m x0 x1 x12 x14 x15 x17 x18 with
 |zero => rw [aB.l1]; exact LeO.none _
 |succ k ih =>
 obtain ⟨m, rfl⟩ : ∃ q, m = q + 1 := ⟨m - 1, by omega⟩
 replace hm := Nat.le_of_succ_le_succ hm
 replace hk := Nat.le_of_succ_le hk
 rw [aB.l1, L.aB.l17_eq]
 repeat' first
  |(with_reducible exact LeO.refl _)
  |exact LeO.none _
  |(with_reducible first|exact ih hm hk|exact fun r h => at_rounds (aD.mono _ _) hk h|exact fun r h => at_rounds (aK.mono _ _) hk h|exact fun r h => at_rounds (aG.mono _ _) hk h|exact fun r h => at_rounds (aH.mono _ _) hk h|exact aA.le hk|refine LeO.bind ?_ (fun _ => ?_)|refine LeO.gH Iff.rfl (fun _ => ?_) (fun _ => ?_))
  |exact ih hm hk
  |exact fun r h => at_rounds (aD.mono _ _) hk h
  |exact fun r h => at_rounds (aK.mono _ _) hk h
  |exact fun r h => at_rounds (aG.mono _ _) hk h
  |exact fun r h => at_rounds (aH.mono _ _) hk h
  |exact aA.le hk
  |exact LeO.refl _
  |(with_reducible first|refine LeO.pos (by assumption) ?_|refine LeO.neg (by assumption) ?_|refine LeO.l6 (by assumption) ?_|refine LeO.lZ (by assumption) ?_|refine LeO.gH (by omega) (fun _ => ?_) (fun _ => ?_))
theorem aB.vN {k m n : Nat} (hm : k ≤ m) (hk : k ≤ n) {x0 x1 : Int} {x12 : Bool} {x14 x15 : Int} {x17 x18 : Int} {ex7 ex8 : Bool} {ex9 ex10 ex11 : Bool} : LeO (aB.l0 k x0 x1 x12 x14 x15 x17 x18) (L.aB.l15 m n x18 x17 x15 x14 x12 x1 x0 ex7 ex8 ex9 ex10 ex11) := by
 induction k generalizing m x0 x1 x12 x14 x15 x17 x18 with
 |zero => rw [aB.l0]; exact LeO.none _
 |succ k ih =>
 obtain ⟨m, rfl⟩ : ∃ q, m = q + 1 := ⟨m - 1, by omega⟩
 replace hm := Nat.le_of_succ_le_succ hm
 replace hk := Nat.le_of_succ_le hk
 rw [aB.l0, L.aB.l15_eq]
 repeat' first
  |(with_reducible exact LeO.refl _)
  |exact LeO.none _
  |(with_reducible first|exact ih hm hk|exact aB.wO hk hk|exact fun r h => at_rounds (aD.mono _ _) hk h|exact fun r h => at_rounds (aK.mono _ _) hk h|exact fun r h => at_rounds (aG.mono _ _) hk h|exact fun r h => at_rounds (aH.mono _ _) hk h|exact aA.le hk|refine LeO.bind ?_ (fun _ => ?_)|refine LeO.gH Iff.rfl (fun _ => ?_) (fun _ => ?_))
  |exact ih hm hk
  |exact aB.wO hk hk
  |exact fun r h => at_rounds (aD.mono _ _) hk h
  |exact fun r h => at_rounds (aK.mono _ _) hk h
  |exact fun r h => at_rounds (aG.mono _ _) hk h
  |exact fun r h => at_rounds (aH.mono _ _) hk h
  |exact aA.le hk
  |exact LeO.refl _
  |(with_reducible first|refine LeO.pos (by assumption) ?_|refine LeO.neg (by assumption) ?_|refine LeO.l6 (by assumption) ?_|refine LeO.lZ (by assumption) ?_|refine LeO.gH (by omega) (fun _ => ?_) (fun _ => ?_))
theorem aB.gZ {k n : Nat} (hk : k ≤ n) {x0 x1 : Int} {x2 x3 : Int} {x12 x69 : Bool} {ex6 ex7 : Bool} {ex8 ex9 ex10 : Bool} : LeO (aB.j1 k x0 x1 x2 x3 x12 x69) (L.aB.j10 n x69 x12 x3 x2 x1 x0 ex6 ex7 ex8 ex9 ex10) := by
 cases k with
 |zero => rw [aB.j1]; exact LeO.none _
 |succ k =>
 replace hk := Nat.le_of_succ_le hk
 rw [aB.j1, L.aB.wN]
 repeat' first
  |(with_reducible exact LeO.refl _)
  |exact LeO.none _
  |(with_reducible first|exact aB.wO hk hk|exact aB.vN hk hk|exact fun r h => at_rounds (aD.mono _ _) hk h|exact fun r h => at_rounds (aK.mono _ _) hk h|exact fun r h => at_rounds (aG.mono _ _) hk h|exact fun r h => at_rounds (aH.mono _ _) hk h|exact aA.le hk|refine LeO.bind ?_ (fun _ => ?_)|refine LeO.gH Iff.rfl (fun _ => ?_) (fun _ => ?_))
  |exact aB.wO hk hk
  |exact aB.vN hk hk
  |exact fun r h => at_rounds (aD.mono _ _) hk h
  |exact fun r h => at_rounds (aK.mono _ _) hk h
  |exact fun r h => at_rounds (aG.mono _ _) hk h
  |exact fun r h => at_rounds (aH.mono _ _) hk h
  |exact aA.le hk
  |exact LeO.refl _
  |(with_reducible first|refine LeO.pos (by assumption) ?_|refine LeO.neg (by assumption) ?_|refine LeO.l6 (by assumption) ?_|refine LeO.lZ (by assumption) ?_|refine LeO.gH (by omega) (fun _ => ?_) (fun _ => ?_))
theorem aB.kH {k n : Nat} (hk : k ≤ n) {x0 x1 : Int} {x2 x3 : Int} {x12 x39 : Bool} {ex6 ex7 : Bool} {ex8 ex9 ex10 : Bool} : LeO (aB.j0 k x0 x1 x2 x3 x12 x39) (L.aB.j6 n x39 x12 x3 x2 x1 x0 ex6 ex7 ex8 ex9 ex10) := by
 cases k with
 |zero => rw [aB.j0]; exact LeO.none _
 |succ k =>
 replace hk := Nat.le_of_succ_le hk
 rw [aB.j0, L.aB.xW]
 repeat' first
  |(with_reducible exact LeO.refl _)
  |exact LeO.none _
  |(with_reducible first|exact aB.wO hk hk|exact aB.vN hk hk|exact aB.gZ hk|exact fun r h => at_rounds (aD.mono _ _) hk h|exact fun r h => at_rounds (aK.mono _ _) hk h|exact fun r h => at_rounds (aG.mono _ _) hk h|exact fun r h => at_rounds (aH.mono _ _) hk h|exact aA.le hk|refine LeO.bind ?_ (fun _ => ?_)|refine LeO.gH Iff.rfl (fun _ => ?_) (fun _ => ?_))
  |exact aB.wO hk hk
  |exact aB.vN hk hk
  |exact aB.gZ hk
  |exact fun r h => at_rounds (aD.mono _ _) hk h
  |exact fun r h => at_rounds (aK.mono _ _) hk h
  |exact fun r h => at_rounds (aG.mono _ _) hk h
  |exact fun r h => at_rounds (aH.mono _ _) hk h
  |exact aA.le hk
  |exact LeO.refl _
  |(with_reducible first|refine LeO.pos (by assumption) ?_|refine LeO.neg (by assumption) ?_|refine LeO.l6 (by assumption) ?_|refine LeO.lZ (by assumption) ?_|refine LeO.gH (by omega) (fun _ => ?_) (fun _ => ?_))
set_option maxHeartbeats 4000000 in
theorem aB.le {k n : Nat} (hk : k ≤ n) {a0 a1 : Int} {a2 a3 : Int} : LeO (aB.f k a0 a1 a2 a3) (L.aB.f n a0 a1 a2 a3) := by
 unfold aB.f
 rw [L.aB.eq]
 try simp only [Bool.and_true]
 repeat' first
  |(with_reducible exact LeO.refl _)
  |exact LeO.none _
  |(with_reducible first|exact aB.wO hk hk|exact aB.vN hk hk|exact aB.gZ hk|exact aB.kH hk|exact fun r h => at_rounds (aD.mono _ _) hk h|exact fun r h => at_rounds (aK.mono _ _) hk h|exact fun r h => at_rounds (aG.mono _ _) hk h|exact fun r h => at_rounds (aH.mono _ _) hk h|exact aA.le hk|refine LeO.bind ?_ (fun _ => ?_)|refine LeO.gH Iff.rfl (fun _ => ?_) (fun _ => ?_))
  |exact aB.wO hk hk
  |exact aB.vN hk hk
  |exact aB.gZ hk
  |exact aB.kH hk
  |exact fun r h => at_rounds (aD.mono _ _) hk h
  |exact fun r h => at_rounds (aK.mono _ _) hk h
  |exact fun r h => at_rounds (aG.mono _ _) hk h
  |exact fun r h => at_rounds (aH.mono _ _) hk h
  |exact aA.le hk
  |exact LeO.refl _
  |(with_reducible first|refine LeO.pos (by assumption) ?_|refine LeO.neg (by assumption) ?_|refine LeO.l6 (by assumption) ?_|refine LeO.lZ (by assumption) ?_|refine LeO.gH (by omega) (fun _ => ?_) (fun _ => ?_))
theorem aB.calls (k : Nat) (a0 a1 : Int) (a2 a3 r1 : Int) (r2 r3 : Bool) (r4 r5 r6 : Bool) (w : World) (h : aB.f k a0 a1 a2 a3 = some (r1, r2, r3, r4, r5, r6)) :
  Calls Tryz.prog 40 #[.int .i64 a0, .int .i64 a1, .int .u32 a2, .int .u32 a3] w fun e w' => e = .returned (.tuple #[.int .u32 r1, .agg #[.bool r2, .bool r3, .bool r4, .bool r5, .bool r6]]) ∧ Below w.heap.size w w' :=
 Go.Proofs.YtfapjegkilljnaaGreat.Ek.iK L.aB.ok k ((a0, ()), (a1, ()), (a2, ()), (a3, ()), ()) (r1, r2, r3, r4, r5, r6) rfl (aB.le (Nat.le_refl _) _ h) w
theorem aR.vN {k m n : Nat} (hm : k ≤ m) (hk : k ≤ n) {x0 x1 : Int} {x11 x12 : Int} {ex4 ex5 : Bool} {ex6 ex7 ex8 : Bool} : LeO (aR.l0 k x0 x1 x11 x12) (L.aR.l11 m n x12 x11 x1 x0 ex4 ex5 ex6 ex7 ex8) := by
 induction k generalizing m x0 x1 x11 x12 with
 |zero => rw [aR.l0]; exact LeO.none _
 |succ k ih =>
 obtain ⟨m, rfl⟩ : ∃ q, m = q + 1 := ⟨m - 1, by omega⟩
 replace hm := Nat.le_of_succ_le_succ hm
 replace hk := Nat.le_of_succ_le hk
 rw [aR.l0, L.aR.l11_eq]
 repeat' first
  |(with_reducible exact LeO.refl _)
  |exact LeO.none _
  |(with_reducible first|exact ih hm hk|exact fun r h => at_rounds (aD.mono _ _) hk h|exact fun r h => at_rounds (aK.mono _ _) hk h|exact fun r h => at_rounds (aG.mono _ _) hk h|exact fun r h => at_rounds (aH.mono _ _) hk h|exact fun r h => at_rounds (bE.mono _) hk h|exact aA.le hk|refine LeO.bind ?_ (fun _ => ?_)|refine LeO.gH Iff.rfl (fun _ => ?_) (fun _ => ?_))
  |exact ih hm hk
  |exact fun r h => at_rounds (aD.mono _ _) hk h
  |exact fun r h => at_rounds (aK.mono _ _) hk h
  |exact fun r h => at_rounds (aG.mono _ _) hk h
  |exact fun r h => at_rounds (aH.mono _ _) hk h
  |exact fun r h => at_rounds (bE.mono _) hk h
  |exact aA.le hk
  |exact LeO.refl _
  |(with_reducible first|refine LeO.pos (by assumption) ?_|refine LeO.neg (by assumption) ?_|refine LeO.l6 (by assumption) ?_|refine LeO.lZ (by assumption) ?_|refine LeO.gH (by omega) (fun _ => ?_) (fun _ => ?_))
set_option maxHeartbeats 4000000 in
theorem aR.le {k n : Nat} (hk : k ≤ n) {a0 a1 a2 : Int} : LeO (aR.f k a0 a1 a2) (L.aR.f n a0 a1 a2) := by
 unfold aR.f
 rw [L.aR.eq]
 try simp only [Bool.and_true]
 repeat' first
  |(with_reducible exact LeO.refl _)
  |exact LeO.none _
  |(with_reducible first|exact aR.vN hk hk|exact fun r h => at_rounds (aD.mono _ _) hk h|exact fun r h => at_rounds (aK.mono _ _) hk h|exact fun r h => at_rounds (aG.mono _ _) hk h|exact fun r h => at_rounds (aH.mono _ _) hk h|exact fun r h => at_rounds (bE.mono _) hk h|exact aA.le hk|refine LeO.bind ?_ (fun _ => ?_)|refine LeO.gH Iff.rfl (fun _ => ?_) (fun _ => ?_))
  |exact aR.vN hk hk
  |exact fun r h => at_rounds (aD.mono _ _) hk h
  |exact fun r h => at_rounds (aK.mono _ _) hk h
  |exact fun r h => at_rounds (aG.mono _ _) hk h
  |exact fun r h => at_rounds (aH.mono _ _) hk h
  |exact fun r h => at_rounds (bE.mono _) hk h
  |exact aA.le hk
  |exact LeO.refl _
  |(with_reducible first|refine LeO.pos (by assumption) ?_|refine LeO.neg (by assumption) ?_|refine LeO.l6 (by assumption) ?_|refine LeO.lZ (by assumption) ?_|refine LeO.gH (by omega) (fun _ => ?_) (fun _ => ?_))
theorem aR.calls (k : Nat) (a0 a1 : Int) (a2 r1 : Int) (r2 r3 : Bool) (r4 r5 r6 : Bool) (w : World) (h : aR.f k a0 a1 a2 = some (r1, r2, r3, r4, r5, r6)) :
  Calls Tryz.prog 42 #[.int .i64 a0, .int .i64 a1, .int .u32 a2] w fun e w' => e = .returned (.tuple #[.int .u32 r1, .agg #[.bool r2, .bool r3, .bool r4, .bool r5, .bool r6]]) ∧ Below w.heap.size w w' :=
 Go.Proofs.YtfapjegkilljnaaGreat.Ek.iK L.aR.ok k ((a0, ()), (a1, ()), (a2, ()), ()) (r1, r2, r3, r4, r5, r6) rfl (aR.le (Nat.le_refl _) _ h) w

-- NEED 2
/-! ### dS: function 67 -/
def dS.f (k : Nat) (a0 a1 a2 : Int) : Option (Int × Bool × Bool × Bool × Bool × Bool) := (bC.f k a0 (([a2] : List Int))).bind fun bt534 => (if bt534.2.2.2.2.2.2 = true then (some (bt534.1, bt534.2.1, bt534.2.2.1, bt534.2.2.2.1, bt534.2.2.2.2.1, bt534.2.2.2.2.2.1)) else ((eZ.f a0 a2).bind fun bt542 => ((bL.f k a0 a2).bind fun t547 => (if t547 = true then ((dM.f a0 bt542.1).bind fun t548 => (some (t548, false, false, false, false, false))) else (if bt542.1 = true then ((eY.f a0).bind fun bt549 => (some (bt549.1, bt549.2.1, bt549.2.2.1, bt549.2.2.2.1, bt549.2.2.2.2.1, bt549.2.2.2.2.2))) else ((aO.f k a0 a2).bind fun t555 => (if t555 = true then ((dE.f a0 false).bind fun t556 => (some (t556, false, false, false, false, false))) else ((bits_Len.f k bt542.2.2.1).bind fun t557 => (if (Int.tmod (wrap64 (bt542.2.1 - (wrap64 (62 - t557)))) 2) = 0 then ((aT.f k bt542.2.2.1 (wrap64 (-(wrap64 (62 - t557))))).bind fun bt558 => ((dK.f k bt558.1).bind fun bt560 => ((aC.f k a0 a1 false (wrap64 (Int.tdiv (wrap64 (bt542.2.1 - (wrap64 (62 - t557)))) 2)) (IntKind.u64.wrap (bt560.1)) (!bt560.2)).bind fun bt562 => (some (bt562.1, bt562.2.1, bt562.2.2.1, bt562.2.2.2.1, bt562.2.2.2.2.1, bt562.2.2.2.2.2))))) else ((aT.f k bt542.2.2.1 (wrap64 (-(wrap64 ((wrap64 (62 - t557)) - 1))))).bind fun bt568 => ((dK.f k bt568.1).bind fun bt570 => ((aC.f k a0 a1 false (wrap64 (Int.tdiv (wrap64 (bt542.2.1 - (wrap64 ((wrap64 (62 - t557)) - 1)))) 2)) (IntKind.u64.wrap (bt570.1)) (!bt570.2)).bind fun bt572 => (some (bt572.1, bt572.2.1, bt572.2.2.1, bt572.2.2.2.1, bt572.2.2.2.2.1, bt572.2.2.2.2.2))))))))))))))
/- What the reckoner tells of printed functions. -/
set_option maxRecDepth 100000
theorem dH.kH {k n : Nat} (hk : k ≤ n) {x0 x1 : Int} {x2 x3 : Int} {x13 x49 : Bool} {ex6 ex7 : Bool} {ex8 ex9 ex10 : Bool} : LeO (dH.j0 k x0 x1 x2 x3 x13 x49) (L.dH.j8 n x49 x13 x3 x2 x1 x0 ex6 ex7 ex8 ex9 ex10) := by
 cases k with
 |zero => rw [dH.j0]; exact LeO.none _
 |succ k =>
 replace hk := Nat.le_of_succ_le hk
 rw [dH.j0, L.dH.aBd]
 repeat' first
  |(with_reducible exact LeO.refl _)
  |exact LeO.none _
  |(with_reducible first|exact fun r h => at_rounds (bC.mono _ _) hk h|exact fun r h => at_rounds (dR.mono _ _ _) hk h|exact fun r h => at_rounds (aO.mono _ _) hk h|exact aC.le hk|refine LeO.bind ?_ (fun _ => ?_)|refine LeO.gH Iff.rfl (fun _ => ?_) (fun _ => ?_))
  |exact fun r h => at_rounds (bC.mono _ _) hk h
  |exact fun r h => at_rounds (dR.mono _ _ _) hk h
  |exact fun r h => at_rounds (aO.mono _ _) hk h
  |exact aC.le hk
  |exact LeO.refl _
  |(with_reducible first|refine LeO.pos (by assumption) ?_|refine LeO.neg (by assumption) ?_|refine LeO.l6 (by assumption) ?_|refine LeO.lZ (by assumption) ?_|refine LeO.gH (by omega) (fun _ => ?_) (fun _ => ?_))
set_option maxHeartbeats 4000000 in
theorem dH.le {k n : Nat} (hk : k ≤ n) {a0 a1 : Int} {a2 a3 : Int} : LeO (dH.f k a0 a1 a2 a3) (L.dH.f n a0 a1 a2 a3) := by
 unfold dH.f
 rw [L.dH.eq]
 try simp only [Bool.and_true]
 repeat' first
  |(with_reducible exact LeO.refl _)
  |exact LeO.none _
  |(with_reducible first|exact dH.kH hk|exact fun r h => at_rounds (bC.mono _ _) hk h|exact fun r h => at_rounds (dR.mono _ _ _) hk h|exact fun r h => at_rounds (aO.mono _ _) hk h|exact aC.le hk|refine LeO.bind ?_ (fun _ => ?_)|refine LeO.gH Iff.rfl (fun _ => ?_) (fun _ => ?_))
  |exact dH.kH hk
  |exact fun r h => at_rounds (bC.mono _ _) hk h
  |exact fun r h => at_rounds (dR.mono _ _ _) hk h
  |exact fun r h => at_rounds (aO.mono _ _) hk h
  |exact aC.le hk
  |exact LeO.refl _
  |(with_reducible first|refine LeO.pos (by assumption) ?_|refine LeO.neg (by assumption) ?_|refine LeO.l6 (by assumption) ?_|refine LeO.lZ (by assumption) ?_|refine LeO.gH (by omega) (fun _ => ?_) (fun _ => ?_))
theorem dH.calls (k : Nat) (a0 a1 : Int) (a2 a3 r1 : Int) (r2 r3 : Bool) (r4 r5 r6 : Bool) (w : World) (h : dH.f k a0 a1 a2 a3 = some (r1, r2, r3, r4, r5, r6)) :
  Calls Tryz.prog 48 #[.int .i64 a0, .int .i64 a1, .int .u32 a2, .int .u32 a3] w fun e w' => e = .returned (.tuple #[.int .u32 r1, .agg #[.bool r2, .bool r3, .bool r4, .bool r5, .bool r6]]) ∧ Below w.heap.size w w' :=
 Go.Proofs.YtfapjegkilljnaaGreat.Ek.iK L.dH.ok k ((a0, ()), (a1, ()), (a2, ()), (a3, ()), ()) (r1, r2, r3, r4, r5, r6) rfl (dH.le (Nat.le_refl _) _ h) w
theorem aZ.jR {k n : Nat} (hk : k ≤ n) {x0 x1 : Int} {x16 x99 x383000 : Bool} {x383001 x383002 : Int} {x383003 x388000 : Bool} {x388001 x388002 : Int} {x388003 ex12 : Bool} {ex13 ex14 : Bool} {ex15 ex16 : Bool} : LeO (aZ.j2 k x0 x1 x16 x99 x383000 x383001 x383002 x383003 x388000 x388001 x388002 x388003) (L.aZ.j15 n x99 x16 x1 x0 x388000 x388001 x388002 x388003 x383000 x383001 x383002 x383003 ex12 ex13 ex14 ex15 ex16) := by
 cases k with
 |zero => rw [aZ.j2]; exact LeO.none _
 |succ k =>
 replace hk := Nat.le_of_succ_le hk
 rw [aZ.j2, L.aZ.aBT]
 repeat' first
  |(with_reducible exact LeO.refl _)
  |exact LeO.none _
  |(with_reducible first|exact fun r h => at_rounds (dR.mono _ _ _) hk h|exact fun r h => at_rounds (bC.mono _ _) hk h|exact fun r h => at_rounds (aO.mono _ _) hk h|exact fun r h => at_rounds (aX.mono _ _ _ _ _) hk h|exact aQ.le hk|exact aC.le hk|refine LeO.bind ?_ (fun _ => ?_)|refine LeO.gH Iff.rfl (fun _ => ?_) (fun _ => ?_))
  |exact fun r h => at_rounds (dR.mono _ _ _) hk h
  |exact fun r h => at_rounds (bC.mono _ _) hk h
  |exact fun r h => at_rounds (aO.mono _ _) hk h
  |exact fun r h => at_rounds (aX.mono _ _ _ _ _) hk h
  |exact aQ.le hk
  |exact aC.le hk
  |exact LeO.refl _
  |(with_reducible first|refine LeO.pos (by assumption) ?_|refine LeO.neg (by assumption) ?_|refine LeO.l6 (by assumption) ?_|refine LeO.lZ (by assumption) ?_|refine LeO.gH (by omega) (fun _ => ?_) (fun _ => ?_))
theorem aZ.gZ {k n : Nat} (hk : k ≤ n) {x0 x1 : Int} {x2 x3 x4 : Int} {x16 x17 : Bool} {x18 x71 : Bool} {ex9 ex10 : Bool} {ex11 ex12 ex13 : Bool} : LeO (aZ.j1 k x0 x1 x2 x3 x4 x16 x17 x18 x71) (L.aZ.j11 n x71 x18 x17 x16 x4 x3 x2 x1 x0 ex9 ex10 ex11 ex12 ex13) := by
 cases k with
 |zero => rw [aZ.j1]; exact LeO.none _
 |succ k =>
 replace hk := Nat.le_of_succ_le hk
 rw [aZ.j1, L.aZ.wY]
 repeat' first
  |(with_reducible exact LeO.refl _)
  |exact LeO.none _
  |(with_reducible first|exact aZ.jR hk|exact fun r h => at_rounds (dR.mono _ _ _) hk h|exact fun r h => at_rounds (bC.mono _ _) hk h|exact fun r h => at_rounds (aO.mono _ _) hk h|exact fun r h => at_rounds (aX.mono _ _ _ _ _) hk h|exact aQ.le hk|exact aC.le hk|refine LeO.bind ?_ (fun _ => ?_)|refine LeO.gH Iff.rfl (fun _ => ?_) (fun _ => ?_))
  |exact aZ.jR hk
  |exact fun r h => at_rounds (dR.mono _ _ _) hk h
  |exact fun r h => at_rounds (bC.mono _ _) hk h
  |exact fun r h => at_rounds (aO.mono _ _) hk h
  |exact fun r h => at_rounds (aX.mono _ _ _ _ _) hk h
  |exact aQ.le hk
  |exact aC.le hk
  |exact LeO.refl _
  |(with_reducible first|refine LeO.pos (by assumption) ?_|refine LeO.neg (by assumption) ?_|refine LeO.l6 (by assumption) ?_|refine LeO.lZ (by assumption) ?_|refine LeO.gH (by omega) (fun _ => ?_) (fun _ => ?_))
theorem aZ.kH {k n : Nat} (hk : k ≤ n) {x0 x1 : Int} {x2 x3 x4 : Int} {x16 x17 : Bool} {x18 ex8 : Bool} {ex9 ex10 : Bool} {ex11 ex12 : Bool} : LeO (aZ.j0 k x0 x1 x2 x3 x4 x16 x17 x18) (L.aZ.j10 n x18 x17 x16 x4 x3 x2 x1 x0 ex8 ex9 ex10 ex11 ex12) := by
 cases k with
 |zero => rw [aZ.j0]; exact LeO.none _
 |succ k =>
 replace hk := Nat.le_of_succ_le hk
 rw [aZ.j0, L.aZ.wN]
 repeat' first
  |(with_reducible exact LeO.refl _)
  |exact LeO.none _
  |(with_reducible first|exact aZ.jR hk|exact aZ.gZ hk|exact fun r h => at_rounds (dR.mono _ _ _) hk h|exact fun r h => at_rounds (bC.mono _ _) hk h|exact fun r h => at_rounds (aO.mono _ _) hk h|exact fun r h => at_rounds (aX.mono _ _ _ _ _) hk h|exact aQ.le hk|exact aC.le hk|refine LeO.bind ?_ (fun _ => ?_)|refine LeO.gH Iff.rfl (fun _ => ?_) (fun _ => ?_))
  |exact aZ.jR hk
  |exact aZ.gZ hk
  |exact fun r h => at_rounds (dR.mono _ _ _) hk h
  |exact fun r h => at_rounds (bC.mono _ _) hk h
  |exact fun r h => at_rounds (aO.mono _ _) hk h
  |exact fun r h => at_rounds (aX.mono _ _ _ _ _) hk h
  |exact aQ.le hk
  |exact aC.le hk
  |exact LeO.refl _
  |(with_reducible first|refine LeO.pos (by assumption) ?_|refine LeO.neg (by assumption) ?_|refine LeO.l6 (by assumption) ?_|refine LeO.lZ (by assumption) ?_|refine LeO.gH (by omega) (fun _ => ?_) (fun _ => ?_))
set_option maxHeartbeats 4000000 in
theorem aZ.le {k n : Nat} (hk : k ≤ n) {a0 a1 : Int} {a2 a3 a4 : Int} : LeO (aZ.f k a0 a1 a2 a3 a4) (L.aZ.f n a0 a1 a2 a3 a4) := by
 unfold aZ.f
 rw [L.aZ.eq]
 try simp only [Bool.and_true]
 repeat' first
  |(with_reducible exact LeO.refl _)
  |exact LeO.none _
  |(with_reducible first|exact aZ.jR hk|exact aZ.gZ hk|exact aZ.kH hk|exact fun r h => at_rounds (dR.mono _ _ _) hk h|exact fun r h => at_rounds (bC.mono _ _) hk h|exact fun r h => at_rounds (aO.mono _ _) hk h|exact fun r h => at_rounds (aX.mono _ _ _ _ _) hk h|exact aQ.le hk|exact aC.le hk|refine LeO.bind ?_ (fun _ => ?_)|refine LeO.gH Iff.rfl (fun _ => ?_) (fun _ => ?_))
  |exact aZ.jR hk
  |exact aZ.gZ hk
  |exact aZ.kH hk
  |exact fun r h => at_rounds (dR.mono _ _ _) hk h
  |exact fun r h => at_rounds (bC.mono _ _) hk h
  |exact fun r h => at_rounds (aO.mono _ _) hk h
  |exact fun r h => at_rounds (aX.mono _ _ _ _ _) hk h
  |exact aQ.le hk
  |exact aC.le hk
  |exact LeO.refl _
  |(with_reducible first|refine LeO.pos (by assumption) ?_|refine LeO.neg (by assumption) ?_|refine LeO.l6 (by assumption) ?_|refine LeO.lZ (by assumption) ?_|refine LeO.gH (by omega) (fun _ => ?_) (fun _ => ?_))
theorem aZ.calls (k : Nat) (a0 a1 : Int) (a2 a3 : Int) (a4 r1 : Int) (r2 r3 : Bool) (r4 r5 r6 : Bool) (w : World) (h : aZ.f k a0 a1 a2 a3 a4 = some (r1, r2, r3, r4, r5, r6)) :
  Calls Tryz.prog 31 #[.int .i64 a0, .int .i64 a1, .int .u32 a2, .int .u32 a3, .int .u32 a4] w fun e w' => e = .returned (.tuple #[.int .u32 r1, .agg #[.bool r2, .bool r3, .bool r4, .bool r5, .bool r6]]) ∧ Below w.heap.size w w' :=
 Go.Proofs.YtfapjegkilljnaaGreat.Ek.iK L.aZ.ok k ((a0, ()), (a1, ()), (a2, ()), (a3, ()), (a4, ()), ()) (r1, r2, r3, r4, r5, r6) rfl (aZ.le (Nat.le_refl _) _ h) w
theorem cK.gZ {k n : Nat} (hk : k ≤ n) {x0 x1 : Int} {x68 x433000 : Bool} {x433001 x433002 : Int} {x433003 x434000 : Bool} {x434001 x434002 : Int} {x434003 x439000 : Bool} {x439001 x439002 : Int} {x439003 ex15 : Bool} {ex16 ex17 : Bool} {ex18 ex19 : Bool} : LeO (cK.j1 k x0 x1 x68 x433000 x433001 x433002 x433003 x434000 x434001 x434002 x434003 x439000 x439001 x439002 x439003) (L.cK.j10 n x68 x1 x0 x439000 x439001 x439002 x439003 x434000 x434001 x434002 x434003 x433000 x433001 x433002 x433003 ex15 ex16 ex17 ex18 ex19) := by
 cases k with
 |zero => rw [cK.j1]; exact LeO.none _
 |succ k =>
 replace hk := Nat.le_of_succ_le hk
 rw [cK.j1, L.cK.wN]
 repeat' first
  |(with_reducible exact LeO.refl _)
  |exact LeO.none _
  |(with_reducible first|exact fun r h => at_rounds (bC.mono _ _) hk h|exact fun r h => at_rounds (aO.mono _ _) hk h|exact fun r h => at_rounds (aX.mono _ _ _ _ _) hk h|exact aQ.le hk|exact aC.le hk|refine LeO.bind ?_ (fun _ => ?_)|refine LeO.gH Iff.rfl (fun _ => ?_) (fun _ => ?_))
  |exact fun r h => at_rounds (bC.mono _ _) hk h
  |exact fun r h => at_rounds (aO.mono _ _) hk h
  |exact fun r h => at_rounds (aX.mono _ _ _ _ _) hk h
  |exact aQ.le hk
  |exact aC.le hk
  |exact LeO.refl _
  |(with_reducible first|refine LeO.pos (by assumption) ?_|refine LeO.neg (by assumption) ?_|refine LeO.l6 (by assumption) ?_|refine LeO.lZ (by assumption) ?_|refine LeO.gH (by omega) (fun _ => ?_) (fun _ => ?_))
theorem cK.kH {k n : Nat} (hk : k ≤ n) {x0 x1 : Int} {x2 x3 : Int} {x13 x14 : Bool} {x39 ex7 : Bool} {ex8 ex9 : Bool} {ex10 ex11 : Bool} : LeO (cK.j0 k x0 x1 x2 x3 x13 x14 x39) (L.cK.j6 n x39 x14 x13 x3 x2 x1 x0 ex7 ex8 ex9 ex10 ex11) := by
 cases k with
 |zero => rw [cK.j0]; exact LeO.none _
 |succ k =>
 replace hk := Nat.le_of_succ_le hk
 rw [cK.j0, L.cK.xW]
 repeat' first
  |(with_reducible exact LeO.refl _)
  |exact LeO.none _
  |(with_reducible first|exact cK.gZ hk|exact fun r h => at_rounds (bC.mono _ _) hk h|exact fun r h => at_rounds (aO.mono _ _) hk h|exact fun r h => at_rounds (aX.mono _ _ _ _ _) hk h|exact aQ.le hk|exact aC.le hk|refine LeO.bind ?_ (fun _ => ?_)|refine LeO.gH Iff.rfl (fun _ => ?_) (fun _ => ?_))
  |exact cK.gZ hk
  |exact fun r h => at_rounds (bC.mono _ _) hk h
  |exact fun r h => at_rounds (aO.mono _ _) hk h
  |exact fun r h => at_rounds (aX.mono _ _ _ _ _) hk h
  |exact aQ.le hk
  |exact aC.le hk
  |exact LeO.refl _
  |(with_reducible first|refine LeO.pos (by assumption) ?_|refine LeO.neg (by assumption) ?_|refine LeO.l6 (by assumption) ?_|refine LeO.lZ (by assumption) ?_|refine LeO.gH (by omega) (fun _ => ?_) (fun _ => ?_))
set_option maxHeartbeats 4000000 in
theorem cK.le {k n : Nat} (hk : k ≤ n) {a0 a1 : Int} {a2 a3 : Int} : LeO (cK.f k a0 a1 a2 a3) (L.cK.f n a0 a1 a2 a3) := by
 unfold cK.f
 rw [L.cK.eq]
 try simp only [Bool.and_true]
 repeat' first
  |(with_reducible exact LeO.refl _)
  |exact LeO.none _
  |(with_reducible first|exact cK.gZ hk|exact cK.kH hk|exact fun r h => at_rounds (bC.mono _ _) hk h|exact fun r h => at_rounds (aO.mono _ _) hk h|exact fun r h => at_rounds (aX.mono _ _ _ _ _) hk h|exact aQ.le hk|exact aC.le hk|refine LeO.bind ?_ (fun _ => ?_)|refine LeO.gH Iff.rfl (fun _ => ?_) (fun _ => ?_))
  |exact cK.gZ hk
  |exact cK.kH hk
  |exact fun r h => at_rounds (bC.mono _ _) hk h
  |exact fun r h => at_rounds (aO.mono _ _) hk h
  |exact fun r h => at_rounds (aX.mono _ _ _ _ _) hk h
  |exact aQ.le hk
  |exact aC.le hk
  |exact LeO.refl _
  |(with_reducible first|refine LeO.pos (by assumption) ?_|refine LeO.neg (by assumption) ?_|refine LeO.l6 (by assumption) ?_|refine LeO.lZ (by assumption) ?_|refine LeO.gH (by omega) (fun _ => ?_) (fun _ => ?_))
theorem cK.calls (k : Nat) (a0 a1 : Int) (a2 a3 r1 : Int) (r2 r3 : Bool) (r4 r5 r6 : Bool) (w : World) (h : cK.f k a0 a1 a2 a3 = some (r1, r2, r3, r4, r5, r6)) :
  Calls Tryz.prog 66 #[.int .i64 a0, .int .i64 a1, .int .u32 a2, .int .u32 a3] w fun e w' => e = .returned (.tuple #[.int .u32 r1, .agg #[.bool r2, .bool r3, .bool r4, .bool r5, .bool r6]]) ∧ Below w.heap.size w w' :=
 Go.Proofs.YtfapjegkilljnaaGreat.Ek.iK L.cK.ok k ((a0, ()), (a1, ()), (a2, ()), (a3, ()), ()) (r1, r2, r3, r4, r5, r6) rfl (cK.le (Nat.le_refl _) _ h) w
theorem bO.gZ {k n : Nat} (hk : k ≤ n) {x0 x1 : Int} {x2 x3 : Int} {x13 : Bool} {x15 : Int} {x69 ex7 : Bool} {ex8 ex9 : Bool} {ex10 ex11 : Bool} : LeO (bO.j1 k x0 x1 x2 x3 x13 x15 x69) (L.bO.j11 n x69 x15 x13 x3 x2 x1 x0 ex7 ex8 ex9 ex10 ex11) := by
 cases k with
 |zero => rw [bO.j1]; exact LeO.none _
 |succ k =>
 replace hk := Nat.le_of_succ_le hk
 rw [bO.j1, L.bO.wY]
 repeat' first
  |(with_reducible exact LeO.refl _)
  |exact LeO.none _
  |(with_reducible first|exact fun r h => at_rounds (bC.mono _ _) hk h|exact fun r h => at_rounds (aV.mono _ _) hk h|exact fun r h => at_rounds (bits_Len.mono _) hk h|exact fun r h => at_rounds (aT.mono _ _) hk h|exact aC.le hk|refine LeO.bind ?_ (fun _ => ?_)|refine LeO.gH Iff.rfl (fun _ => ?_) (fun _ => ?_))
  |exact fun r h => at_rounds (bC.mono _ _) hk h
  |exact fun r h => at_rounds (aV.mono _ _) hk h
  |exact fun r h => at_rounds (bits_Len.mono _) hk h
  |exact fun r h => at_rounds (aT.mono _ _) hk h
  |exact aC.le hk
  |exact LeO.refl _
  |(with_reducible first|refine LeO.pos (by assumption) ?_|refine LeO.neg (by assumption) ?_|refine LeO.l6 (by assumption) ?_|refine LeO.lZ (by assumption) ?_|refine LeO.gH (by omega) (fun _ => ?_) (fun _ => ?_))
theorem bO.kH {k n : Nat} (hk : k ≤ n) {x0 x1 : Int} {x2 x3 : Int} {x13 : Bool} {x14 x15 : Int} {x46 ex8 : Bool} {ex9 ex10 : Bool} {ex11 ex12 : Bool} : LeO (bO.j0 k x0 x1 x2 x3 x13 x14 x15 x46) (L.bO.j7 n x46 x15 x14 x13 x3 x2 x1 x0 ex8 ex9 ex10 ex11 ex12) := by
 cases k with
 |zero => rw [bO.j0]; exact LeO.none _
 |succ k =>
 replace hk := Nat.le_of_succ_le hk
 rw [bO.j0, L.bO.j7_eq]
 repeat' first
  |(with_reducible exact LeO.refl _)
  |exact LeO.none _
  |(with_reducible first|exact bO.gZ hk|exact fun r h => at_rounds (bC.mono _ _) hk h|exact fun r h => at_rounds (aV.mono _ _) hk h|exact fun r h => at_rounds (bits_Len.mono _) hk h|exact fun r h => at_rounds (aT.mono _ _) hk h|exact aC.le hk|refine LeO.bind ?_ (fun _ => ?_)|refine LeO.gH Iff.rfl (fun _ => ?_) (fun _ => ?_))
  |exact bO.gZ hk
  |exact fun r h => at_rounds (bC.mono _ _) hk h
  |exact fun r h => at_rounds (aV.mono _ _) hk h
  |exact fun r h => at_rounds (bits_Len.mono _) hk h
  |exact fun r h => at_rounds (aT.mono _ _) hk h
  |exact aC.le hk
  |exact LeO.refl _
  |(with_reducible first|refine LeO.pos (by assumption) ?_|refine LeO.neg (by assumption) ?_|refine LeO.l6 (by assumption) ?_|refine LeO.lZ (by assumption) ?_|refine LeO.gH (by omega) (fun _ => ?_) (fun _ => ?_))
set_option maxHeartbeats 4000000 in
theorem bO.le {k n : Nat} (hk : k ≤ n) {a0 a1 : Int} {a2 a3 : Int} : LeO (bO.f k a0 a1 a2 a3) (L.bO.f n a0 a1 a2 a3) := by
 unfold bO.f
 rw [L.bO.eq]
 try simp only [Bool.and_true]
 repeat' first
  |(with_reducible exact LeO.refl _)
  |exact LeO.none _
  |(with_reducible first|exact bO.gZ hk|exact bO.kH hk|exact fun r h => at_rounds (bC.mono _ _) hk h|exact fun r h => at_rounds (aV.mono _ _) hk h|exact fun r h => at_rounds (bits_Len.mono _) hk h|exact fun r h => at_rounds (aT.mono _ _) hk h|exact aC.le hk|refine LeO.bind ?_ (fun _ => ?_)|refine LeO.gH Iff.rfl (fun _ => ?_) (fun _ => ?_))
  |exact bO.gZ hk
  |exact bO.kH hk
  |exact fun r h => at_rounds (bC.mono _ _) hk h
  |exact fun r h => at_rounds (aV.mono _ _) hk h
  |exact fun r h => at_rounds (bits_Len.mono _) hk h
  |exact fun r h => at_rounds (aT.mono _ _) hk h
  |exact aC.le hk
  |exact LeO.refl _
  |(with_reducible first|refine LeO.pos (by assumption) ?_|refine LeO.neg (by assumption) ?_|refine LeO.l6 (by assumption) ?_|refine LeO.lZ (by assumption) ?_|refine LeO.gH (by omega) (fun _ => ?_) (fun _ => ?_))
theorem bO.calls (k : Nat) (a0 a1 : Int) (a2 a3 r1 : Int) (r2 r3 : Bool) (r4 r5 r6 : Bool) (w : World) (h : bO.f k a0 a1 a2 a3 = some (r1, r2, r3, r4, r5, r6)) :
  Calls Tryz.prog 65 #[.int .i64 a0, .int .i64 a1, .int .u32 a2, .int .u32 a3] w fun e w' => e = .returned (.tuple #[.int .u32 r1, .agg #[.bool r2, .bool r3, .bool r4, .bool r5, .bool r6]]) ∧ Below w.heap.size w w' :=
 Go.Proofs.YtfapjegkilljnaaGreat.Ek.iK L.bO.ok k ((a0, ()), (a1, ()), (a2, ()), (a3, ()), ()) (r1, r2, r3, r4, r5, r6) rfl (bO.le (Nat.le_refl _) _ h) w
set_option maxHeartbeats 4000000 in
theorem dS.le {k n : Nat} (hk : k ≤ n) {a0 a1 a2 : Int} : LeO (dS.f k a0 a1 a2) (L.dS.f n a0 a1 a2) := by
 unfold dS.f
 rw [L.dS.eq]
 try simp only [Bool.and_true]
 repeat' first
  |(with_reducible exact LeO.refl _)
  |exact LeO.none _
  |(with_reducible first|exact fun r h => at_rounds (bC.mono _ _) hk h|exact fun r h => at_rounds (bL.mono _ _) hk h|exact fun r h => at_rounds (aO.mono _ _) hk h|exact fun r h => at_rounds (bits_Len.mono _) hk h|exact fun r h => at_rounds (aT.mono _ _) hk h|exact fun r h => at_rounds (dK.mono _) hk h|exact aC.le hk|refine LeO.bind ?_ (fun _ => ?_)|refine LeO.gH Iff.rfl (fun _ => ?_) (fun _ => ?_))
  |exact fun r h => at_rounds (bC.mono _ _) hk h
  |exact fun r h => at_rounds (bL.mono _ _) hk h
  |exact fun r h => at_rounds (aO.mono _ _) hk h
  |exact fun r h => at_rounds (bits_Len.mono _) hk h
  |exact fun r h => at_rounds (aT.mono _ _) hk h
  |exact fun r h => at_rounds (dK.mono _) hk h
  |exact aC.le hk
  |exact LeO.refl _
  |(with_reducible first|refine LeO.pos (by assumption) ?_|refine LeO.neg (by assumption) ?_|refine LeO.l6 (by assumption) ?_|refine LeO.lZ (by assumption) ?_|refine LeO.gH (by omega) (fun _ => ?_) (fun _ => ?_))
theorem dS.calls (k : Nat) (a0 a1 : Int) (a2 r1 : Int) (r2 r3 : Bool) (r4 r5 r6 : Bool) (w : World) (h : dS.f k a0 a1 a2 = some (r1, r2, r3, r4, r5, r6)) :
  Calls Tryz.prog 67 #[.int .i64 a0, .int .i64 a1, .int .u32 a2] w fun e w' => e = .returned (.tuple #[.int .u32 r1, .agg #[.bool r2, .bool r3, .bool r4, .bool r5, .bool r6]]) ∧ Below w.heap.size w w' :=
 Go.Proofs.YtfapjegkilljnaaGreat.Ek.iK L.dS.ok k ((a0, ()), (a1, ()), (a2, ()), ()) (r1, r2, r3, r4, r5, r6) rfl (dS.le (Nat.le_refl _) _ h) w

-- NEED 3
/-! ### l9: function 27 -/
def l9.f (k : Nat) (a0 a1 : Int) : Option (Int) := (dH.f k 2 0 a0 a1).bind fun bt299 => (some bt299.1)
theorem l9.calls (k : Nat) (a0 a1 r : Int) (w : World) (h : l9.f k a0 a1 = some r) :
  Calls Tryz.prog 27 #[.int .u32 a0, .int .u32 a1] w fun e w' => e = .returned (.int .u32 r) ∧ Below w.heap.size w w' := by
 have hu60 := Tryz.underlying60
 have HB := Aside0.mk (Below.refl w.heap.size w)
 have H : ((dH.f k 2 0 a0 a1).bind fun bt299 => (some bt299.1)) = some r := h
 clear h
 replace H := bq_ H
 obtain ⟨⟨t299, t300, t301, t302, t303, t304⟩, A30, H⟩ := H
 replace H : (some t299) = some r := H
 have A3 := Aside0.mk A30
 clear A30
 obtain rfl := Option.some.inj H
 go_enter Tryz.func27, Tryz.ntmps27
 go_wp2_with (first | ((with_reducible refine gate_callee (f := 48) rfl ?_); refine goesL_ (some 10) rfl rfl Tryz.func48 (by kernel_rfl) rfl #[.int .i64 2, .int .i64 0, .int .u32 a0, .int .u32 a1] rfl gl ?_; (with_reducible refine (dH.calls k 2 0 a0 a1 t299 t300 t301 t302 t303 t304 _ A3.out).mono ?_); rintro e w4 ⟨rfl, hb⟩; refine ⟨_, rfl, ?_⟩; have n0_ := Aside0.mk (below_step (bl0 HB.out) hb); clear HB; have HB := n0_; clear n0_) | ((with_reducible refine gate_dst (N := 6) rfl ?_); refine box_event ?hg (N := 6) ?hd (cs := F5) (t := 60) ?hr ?_; (case hd => rfl); (case hg => rfl); (case hr => first | (go_simp; done) | (go_simp; rfl)); intro gb305 hg w5 hbox hb; have n0_ := Aside0.mk (below_step (bl0 HB.out) hb); have n1_ := Aside0.mk (hbox); have n2_ := Aside0.mk ((by rw [hg]; exact (below_size (bl0 HB.out)) : w.heap.size ≤ gb305)); have n3_ := n2_; clear HB; have HB := n0_; have BK305 := n1_; have GW305 := n2_; have GE305 := n3_; clear n0_ n1_ n2_ n3_; clear hb hbox hg; obtain ⟨hcz6_0, hcz6_1, hcz6_2, hcz6_3, hcz6_4⟩ := bc5 BK305.out; obtain ⟨hfz6_0, hfz6_1, hfz6_2, hfz6_3, hfz6_4⟩ := bf5 BK305.out))
 go_ret
 exact ⟨by first | rfl | (simp [bT, bU] <;> rfl) | (simp [*, bT, bU] <;> rfl), bl1 HB.out GE305.out⟩


-- NEED 3
/-! ### mH: function 16 -/
def mH.f (k : Nat) (a0 a1 a2 : Int) : Option (Int) := (aZ.f k 2 0 a0 a1 a2).bind fun bt395 => (some bt395.1)
theorem mH.calls (k : Nat) (a0 a1 : Int) (a2 r : Int) (w : World) (h : mH.f k a0 a1 a2 = some r) :
  Calls Tryz.prog 16 #[.int .u32 a0, .int .u32 a1, .int .u32 a2] w fun e w' => e = .returned (.int .u32 r) ∧ Below w.heap.size w w' := by
 have hu60 := Tryz.underlying60
 have HB := Aside0.mk (Below.refl w.heap.size w)
 have H : ((aZ.f k 2 0 a0 a1 a2).bind fun bt395 => (some bt395.1)) = some r := h
 clear h
 replace H := bq_ H
 obtain ⟨⟨t395, t396, t397, t398, t399, t400⟩, A40, H⟩ := H
 replace H : (some t395) = some r := H
 have A4 := Aside0.mk A40
 clear A40
 obtain rfl := Option.some.inj H
 go_enter Tryz.func16, Tryz.ntmps16
 go_wp2_with (first | ((with_reducible refine gate_callee (f := 31) rfl ?_); refine goesL_ (some 13) rfl rfl Tryz.func31 (by kernel_rfl) rfl #[.int .i64 2, .int .i64 0, .int .u32 a0, .int .u32 a1, .int .u32 a2] rfl gl ?_; (with_reducible refine (aZ.calls k 2 0 a0 a1 a2 t395 t396 t397 t398 t399 t400 _ A4.out).mono ?_); rintro e w5 ⟨rfl, hb⟩; refine ⟨_, rfl, ?_⟩; have n0_ := Aside0.mk (below_step (bl0 HB.out) hb); clear HB; have HB := n0_; clear n0_) | ((with_reducible refine gate_dst (N := 8) rfl ?_); refine box_event ?hg (N := 8) ?hd (cs := F5) (t := 60) ?hr ?_; (case hd => rfl); (case hg => rfl); (case hr => first | (go_simp; done) | (go_simp; rfl)); intro gb401 hg w6 hbox hb; have n0_ := Aside0.mk (below_step (bl0 HB.out) hb); have n1_ := Aside0.mk (hbox); have n2_ := Aside0.mk ((by rw [hg]; exact (below_size (bl0 HB.out)) : w.heap.size ≤ gb401)); have n3_ := n2_; clear HB; have HB := n0_; have BK401 := n1_; have GW401 := n2_; have GE401 := n3_; clear n0_ n1_ n2_ n3_; clear hb hbox hg; obtain ⟨hcz7_0, hcz7_1, hcz7_2, hcz7_3, hcz7_4⟩ := bc5 BK401.out; obtain ⟨hfz7_0, hfz7_1, hfz7_2, hfz7_3, hfz7_4⟩ := bf5 BK401.out))
 go_ret
 exact ⟨by first | rfl | (simp [bT, bU] <;> rfl) | (simp [*, bT, bU] <;> rfl), bl1 HB.out GE401.out⟩

end Go.Proofs.YtfapjegkilljnaaGreat.P

/- Entries of functions. -/
namespace Go.Proofs.YtfapjegkilljnaaGreat.L
open Go.RowKit Go.Proofs.YtfapjegkilljnaaGreat.P Go.Proofs.YtfapjegkilljnaaGreat.Ek Go.Proofs.YtfapjegkilljnaaGreatW.PrintWords Go.Proofs.YtfapjegkilljnaaGreatW.PrintLast Go.Proofs.YtfapjegkilljnaaGreatW.PrintMore
noncomputable def eO.c : Fc := gX [hI .i64, hI .u32] [hI .u32] (T := Int) (fun y => ((y, ()), ())) fun n x => eO.f x.1.1 x.2.1.1
theorem eO.ok : gI Tryz.prog 30 eO.c := eB Tryz.func30 (by kernel_rfl) (by kernel_rfl) (by decide) (fun _ => dF (by decide) _) fun n x y h m w => (eO.calls x.1.1 x.2.1.1 y w h).mono fun e w' he => ⟨he.1, he.2.below⟩
noncomputable def eT.cls : Cls := [(54, bC.c), (30, eO.c), (66, cK.c)]
theorem eT.fU : bS Tryz.prog eT.cls := bS.cons bC.ok (bS.cons eO.ok (bS.cons cK.ok (bS.nil)))
noncomputable def eT.K (v : SV) : Option (Int × Bool × Bool × Bool × Bool × Bool) := (kJ [hI .u32, .agg [.b, .b, .b, .b, .b]] v).map (fun z => (z.1.1, z.2.1.1, z.2.1.2.1, z.2.1.2.2.1, z.2.1.2.2.2.1, z.2.1.2.2.2.2.1))
noncomputable def eT.cuts : List Nat := []
noncomputable def eT.f (k : Nat) (a0 a1 : Int) (a2 a3 : Int) : Option (Int × Bool × Bool × Bool × Bool × Bool) := evF Tryz.prog eT.cls Tryz.f64 eT.cuts k [.one (.i .i64 (.x a0)), .one (.i .i64 (.x a1)), .one (.i .u32 (.x a2)), .one (.i .u32 (.x a3))] eT.K
noncomputable def eT.c : Fc := gX [hI .i64, hI .i64, hI .u32, hI .u32] [hI .u32, .agg [.b, .b, .b, .b, .b]] (T := Int × Bool × Bool × Bool × Bool × Bool) (fun y => ((y.1, ()), (y.2.1, y.2.2.1, y.2.2.2.1, y.2.2.2.2.1, y.2.2.2.2.2, ()), ())) fun n x => eT.f n x.1.1 x.2.1.1 x.2.2.1.1 x.2.2.2.1.1
theorem eT.ok : gI Tryz.prog 64 eT.c := rC eT.fU Tryz.func64 (by kernel_rfl) (by kernel_rfl) (by decide) (fun _ => rfl) (fun _ _ => rfl)
/- Functions' trees, printed by a tool of mine out of the reckoner; Lean's kernel checks each. -/
set_option maxRecDepth 100000
theorem eT.eq (n0 : Nat) (a0 a1 : Int) (a2 a3 : Int) : eT.f n0 a0 a1 a2 a3 = ((bC.f n0 a0 [a2, a3]).bind fun t0 => (if t0.2.2.2.2.2.2 = true then (some ((t0.1, t0.2.1, t0.2.2.1, t0.2.2.2.1, t0.2.2.2.2.1, t0.2.2.2.2.2.1))) else ((eO.f a0 a3).bind fun t1 => ((cK.f n0 a0 a1 a2 t1).bind fun t2 => (some ((t2.1, t2.2.1, t2.2.2.1, t2.2.2.2.1, t2.2.2.2.2.1, t2.2.2.2.2.2))))))) := by kernel_rfl
end Go.Proofs.YtfapjegkilljnaaGreat.L

/- What the reckoner tells of printed functions. -/
namespace Go.Proofs.YtfapjegkilljnaaGreat.P
open Go.RowKit Go.Proofs.YtfapjegkilljnaaGreatW.PrintWords Go.Proofs.YtfapjegkilljnaaGreatW.PrintLast Go.Proofs.YtfapjegkilljnaaGreatW.PrintMore
set_option maxRecDepth 100000
set_option maxHeartbeats 4000000 in
theorem eT.le {k n : Nat} (hk : k ≤ n) {a0 a1 : Int} {a2 a3 : Int} : LeO (eT.f k a0 a1 a2 a3) (L.eT.f n a0 a1 a2 a3) := by
 unfold eT.f
 rw [L.eT.eq]
 try simp only [Bool.and_true]
 repeat' first
  |(with_reducible exact LeO.refl _)
  |exact LeO.none _
  |(with_reducible first|exact fun r h => at_rounds (bC.mono _ _) hk h|exact cK.le hk|refine LeO.bind ?_ (fun _ => ?_)|refine LeO.gH Iff.rfl (fun _ => ?_) (fun _ => ?_))
  |exact fun r h => at_rounds (bC.mono _ _) hk h
  |exact cK.le hk
  |exact LeO.refl _
  |(with_reducible first|refine LeO.pos (by assumption) ?_|refine LeO.neg (by assumption) ?_|refine LeO.l6 (by assumption) ?_|refine LeO.lZ (by assumption) ?_|refine LeO.gH (by omega) (fun _ => ?_) (fun _ => ?_))
theorem eT.calls (k : Nat) (a0 a1 : Int) (a2 a3 r1 : Int) (r2 r3 : Bool) (r4 r5 r6 : Bool) (w : World) (h : eT.f k a0 a1 a2 a3 = some (r1, r2, r3, r4, r5, r6)) :
  Calls Tryz.prog 64 #[.int .i64 a0, .int .i64 a1, .int .u32 a2, .int .u32 a3] w fun e w' => e = .returned (.tuple #[.int .u32 r1, .agg #[.bool r2, .bool r3, .bool r4, .bool r5, .bool r6]]) ∧ Below w.heap.size w w' :=
 Go.Proofs.YtfapjegkilljnaaGreat.Ek.iK L.eT.ok k ((a0, ()), (a1, ()), (a2, ()), (a3, ()), ()) (r1, r2, r3, r4, r5, r6) rfl (eT.le (Nat.le_refl _) _ h) w
attribute [local go_sem] max2_int min2_int max_two min_two max_three min_three max_four min_four

-- NEED 4
/-! ### mG: function 32 -/
def mG.f (k : Nat) (a0 a1 : Int) : Option (Int) := (eT.f k 2 0 a0 a1).bind fun bt465 => (some bt465.1)
theorem mG.calls (k : Nat) (a0 a1 r : Int) (w : World) (h : mG.f k a0 a1 = some r) :
  Calls Tryz.prog 32 #[.int .u32 a0, .int .u32 a1] w fun e w' => e = .returned (.int .u32 r) ∧ Below w.heap.size w w' := by
 have hu60 := Tryz.underlying60
 have HB := Aside0.mk (Below.refl w.heap.size w)
 have H : ((eT.f k 2 0 a0 a1).bind fun bt465 => (some bt465.1)) = some r := h
 clear h
 replace H := bq_ H
 obtain ⟨⟨t465, t466, t467, t468, t469, t470⟩, A30, H⟩ := H
 replace H : (some t465) = some r := H
 have A3 := Aside0.mk A30
 clear A30
 obtain rfl := Option.some.inj H
 go_enter Tryz.func32, Tryz.ntmps32
 go_wp2_with (first | ((with_reducible refine gate_callee (f := 64) rfl ?_); refine goesL_ (some 10) rfl rfl Tryz.func64 (by kernel_rfl) rfl #[.int .i64 2, .int .i64 0, .int .u32 a0, .int .u32 a1] rfl gl ?_; (with_reducible refine (eT.calls k 2 0 a0 a1 t465 t466 t467 t468 t469 t470 _ A3.out).mono ?_); rintro e w4 ⟨rfl, hb⟩; refine ⟨_, rfl, ?_⟩; have n0_ := Aside0.mk (below_step (bl0 HB.out) hb); clear HB; have HB := n0_; clear n0_) | ((with_reducible refine gate_dst (N := 6) rfl ?_); refine box_event ?hg (N := 6) ?hd (cs := F5) (t := 60) ?hr ?_; (case hd => rfl); (case hg => rfl); (case hr => first | (go_simp; done) | (go_simp; rfl)); intro gb471 hg w5 hbox hb; have n0_ := Aside0.mk (below_step (bl0 HB.out) hb); have n1_ := Aside0.mk (hbox); have n2_ := Aside0.mk ((by rw [hg]; exact (below_size (bl0 HB.out)) : w.heap.size ≤ gb471)); have n3_ := n2_; clear HB; have HB := n0_; have BK471 := n1_; have GW471 := n2_; have GE471 := n3_; clear n0_ n1_ n2_ n3_; clear hb hbox hg; obtain ⟨hcz6_0, hcz6_1, hcz6_2, hcz6_3, hcz6_4⟩ := bc5 BK471.out; obtain ⟨hfz6_0, hfz6_1, hfz6_2, hfz6_3, hfz6_4⟩ := bf5 BK471.out))
 go_ret
 exact ⟨by first | rfl | (simp [bT, bU] <;> rfl) | (simp [*, bT, bU] <;> rfl), bl1 HB.out GE471.out⟩

end Go.Proofs.YtfapjegkilljnaaGreat.P
