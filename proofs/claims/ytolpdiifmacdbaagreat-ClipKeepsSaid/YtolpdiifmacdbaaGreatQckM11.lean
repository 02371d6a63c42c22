import Derived.Test.YtolpdiifmacdbaaGreatQckM10
set_option linter.unusedVariables false
set_option linter.unusedSimpArgs false
set_option maxRecDepth 100000
set_option maxHeartbeats 8000000
namespace Go.Proofs.YtolpdiifmacdbaaGreat
noncomputable section
open Go.RowKit YtolpdiifmacdbaaGreatW.PrintWords YtolpdiifmacdbaaGreatW.PrintLast YtolpdiifmacdbaaGreatW.PrintMore
namespace L
open P Ek
set_option maxRecDepth 100000
def aC.j3 (n0 : Nat) (x0 x1 : Bool) (x2 x3 : Int) (x4 : Bool) (x5 x6 : Int) (x7 x8 : Bool) (x9 x10 x11 : Bool) := jK Tryz.prog aC.cls Tryz.f104 aC.cuts [1, 1, 0, 1] [n0] n0 ⟨[(29, (.pv (.one (.b (.q x0))))), (13, (.pv (.one (.p 0 0)))), (5, (.pv (.one (.b (.q x1))))), (4, (.pv (.one (.i .u64 (.x x2))))), (3, (.pv (.one (.i .i64 (.x x3))))), (2, (.pv (.one (.b (.q x4))))), (1, (.pv (.one (.i .i64 (.x x5))))), (0, (.pv (.one (.i .i64 (.x x6)))))], [(0, (62, [(.c (.b (.q x7))), (.c (.b (.q x8))), (.c (.b (.q x9))), (.c (.b (.q x10))), (.c (.b (.q x11)))]))], 1⟩ aC.K
def aC.j9 (n0 : Nat) (x0 x1 : Int) (x2 x3 : Int) (x4 x5 : Int) (x6 : Bool) (x7 x8 : Int) (x9 x10 : Bool) (x11 x12 x13 : Bool) := jK Tryz.prog aC.cls Tryz.f104 aC.cuts [1, 1, 1, 1, 1, 1, 1] [n0] n0 ⟨[(18, (.pv (.one (.i .i64 (.x x0))))), (17, (.pv (.one (.i .u64 (.x x1))))), (16, (.pv (.one (.i .i64 (.x x2))))), (15, (.pv (.one (.i .i64 (.x x3))))), (13, (.pv (.one (.p 0 0)))), (4, (.pv (.one (.i .u64 (.x x4))))), (3, (.pv (.one (.i .i64 (.x x5))))), (2, (.pv (.one (.b (.q x6))))), (1, (.pv (.one (.i .i64 (.x x7))))), (0, (.pv (.one (.i .i64 (.x x8)))))], [(0, (62, [(.c (.b (.q x9))), (.c (.b (.q x10))), (.c (.b (.q x11))), (.c (.b (.q x12))), (.c (.b (.q x13)))]))], 1⟩ aC.K
def aC.j11 (n0 : Nat) (x0 x1 : Int) (x2 x3 : Int) (x4 x5 : Int) (x6 : Bool) (x7 x8 : Int) (x9 x10 : Bool) (x11 x12 x13 : Bool) := jK Tryz.prog aC.cls Tryz.f104 aC.cuts [1, 1, 1, 1, 1, 1, 1, 1] [n0] n0 ⟨[(18, (.pv (.one (.i .i64 (.x x0))))), (17, (.pv (.one (.i .u64 (.x x1))))), (16, (.pv (.one (.i .i64 (.x x2))))), (15, (.pv (.one (.i .i64 (.x x3))))), (13, (.pv (.one (.p 0 0)))), (4, (.pv (.one (.i .u64 (.x x4))))), (3, (.pv (.one (.i .i64 (.x x5))))), (2, (.pv (.one (.b (.q x6))))), (1, (.pv (.one (.i .i64 (.x x7))))), (0, (.pv (.one (.i .i64 (.x x8)))))], [(0, (62, [(.c (.b (.q x9))), (.c (.b (.q x10))), (.c (.b (.q x11))), (.c (.b (.q x12))), (.c (.b (.q x13)))]))], 1⟩ aC.K
def aC.j14 (n0 : Nat) (x0 x1 : Int) (x2 x3 : Int) (x4 x5 : Int) (x6 : Bool) (x7 x8 : Int) (x9 x10 : Bool) (x11 x12 x13 : Bool) := jK Tryz.prog aC.cls Tryz.f104 aC.cuts [1, 1, 1, 1, 1, 1, 1, 1, 1, 1] [n0] n0 ⟨[(19, (.pv (.one (.i .i64 (.x x0))))), (18, (.pv (.one (.i .i64 (.x x1))))), (17, (.pv (.one (.i .u64 (.x x2))))), (15, (.pv (.one (.i .i64 (.x x3))))), (13, (.pv (.one (.p 0 0)))), (4, (.pv (.one (.i .u64 (.x x4))))), (3, (.pv (.one (.i .i64 (.x x5))))), (2, (.pv (.one (.b (.q x6))))), (1, (.pv (.one (.i .i64 (.x x7))))), (0, (.pv (.one (.i .i64 (.x x8)))))], [(0, (62, [(.c (.b (.q x9))), (.c (.b (.q x10))), (.c (.b (.q x11))), (.c (.b (.q x12))), (.c (.b (.q x13)))]))], 1⟩ aC.K
theorem aC.eq (n0 : Nat) (a0 a1 : Int) (a2 : Bool) (a3 a4 : Int) (a5 : Bool) : aC.f n0 a0 a1 a2 a3 a4 a5 = (if a4 = 0 then (aC.j3 n0 (!(a5)) (a5) (a4) (mn (mx a3 (-10000)) 10000) (a2) (a1) (a0) (false) (false) (false) (false) (false)) else (aC.j3 n0 (false) (a5) (a4) (mn (mx a3 (-10000)) 10000) (a2) (a1) (a0) (false) (false) (false) (false) (false))) := by kernel_rfl
theorem aC.j3_eq (n0 : Nat) (x0 x1 : Bool) (x2 x3 : Int) (x4 : Bool) (x5 x6 : Int) (x7 x8 : Bool) (x9 x10 x11 : Bool) : aC.j3 n0 x0 x1 x2 x3 x4 x5 x6 x7 x8 x9 x10 x11 = (if x0 = true then ((eF.f x6 x4).bind fun t0 => (some ((t0, false, false, false, false, false)))) else ((bJ.f x6).bind fun t0 => ((dP.f n0 x6 x3 x2).bind fun t1 => ((bV.f n0 x2 (wrap64 (t1 - x3)) x1).bind fun t2 => ((YtolpdiifmacdbaaGreat.L.eU.f n0 x5 x4 t2.1 t2.2).bind fun t3 => (if t3 = true then (aC.j9 n0 t2.2 (IntKind.wrap IntKind.u64 (t2.1 + 1)) (t1) t0.2 (x2) (x3) (x4) (x5) (x6) (x7) (x8) (x9) (x10) (x11)) else (aC.j9 n0 t2.2 t2.1 (t1) t0.2 (x2) (x3) (x4) (x5) (x6) (x7) (x8) (x9) (x10) (x11)))))))) := by kernel_rfl
theorem aC.j9_eq (n0 : Nat) (x0 x1 : Int) (x2 x3 : Int) (x4 x5 : Int) (x6 : Bool) (x7 x8 : Int) (x9 x10 : Bool) (x11 x12 x13 : Bool) : aC.j9 n0 x0 x1 x2 x3 x4 x5 x6 x7 x8 x9 x10 x11 x12 x13 = (if 0 ≤ IntKind.wrap IntKind.u64 (wrap64 (x3 + 1)) then (if shr IntKind.u64 x1 (IntKind.wrap IntKind.u64 (wrap64 (x3 + 1))) = 0 then (aC.j11 n0 (x0) (x1) (x2) (x3) (x4) (x5) (x6) (x7) (x8) (x9) (x10) (x11) (x12) (x13)) else (aC.j11 n0 (x0) (shr IntKind.u64 x1 1) (wrap64 (x2 + 1)) (x3) (x4) (x5) (x6) (x7) (x8) (x9) (x10) (x11) (x12) (x13))) else none) := by kernel_rfl
theorem aC.yC (n0 : Nat) (x0 x1 : Int) (x2 x3 : Int) (x4 x5 : Int) (x6 : Bool) (x7 x8 : Int) (x9 x10 : Bool) (x11 x12 x13 : Bool) : aC.j11 n0 x0 x1 x2 x3 x4 x5 x6 x7 x8 x9 x10 x11 x12 x13 = ((dX.f x8).bind fun t0 => (if 0 ≤ IntKind.wrap IntKind.u64 x3 then (if shr IntKind.u64 x1 (IntKind.wrap IntKind.u64 x3) = 0 then (aC.j14 n0 (Int.ofNat 0) (x0) (x1) (x3) (x4) (x5) (x6) (x7) (x8) (x9) (x10) (x11) (x12) (x13)) else (aC.j14 n0 (wrap64 (wrap64 (wrap64 (x2 + x3) - t0) + 1)) (x0) (x1) (x3) (x4) (x5) (x6) (x7) (x8) (x9) (x10) (x11) (x12) (x13))) else none)) := by kernel_rfl
theorem aC.aCq (n0 : Nat) (x0 x1 : Int) (x2 x3 : Int) (x4 x5 : Int) (x6 : Bool) (x7 x8 : Int) (x9 x10 : Bool) (x11 x12 x13 : Bool) : aC.j14 n0 x0 x1 x2 x3 x4 x5 x6 x7 x8 x9 x10 x11 x12 x13 = ((dY.f x8).bind fun t0 => (if t0 ≤ x0 then ((YtolpdiifmacdbaaGreat.L.dE.f n0 x8 x7 x6).bind fun t1 => (some ((t1.1, t1.2.1, t1.2.2.1, t1.2.2.2.1, t1.2.2.2.2.1, t1.2.2.2.2.2)))) else (if x1 = 0 then ((gJ.f x2 x3).bind fun t1 => ((dF.f x8 x6 x0 (t1 % 4294967296)).bind fun t2 => (some ((t2, false, false, false, false, !x1 == 0))))) else (if x4 = 0 then ((gJ.f x2 x3).bind fun t1 => ((dF.f x8 x6 x0 (t1 % 4294967296)).bind fun t2 => (some ((t2, false, false, false, true, !x1 == 0))))) else ((bits_Len.f n0 x4).bind fun t1 => ((dX.f x8).bind fun t2 => ((gJ.f x2 x3).bind fun t3 => ((dF.f x8 x6 x0 (t3 % 4294967296)).bind fun t4 => (some ((t4, false, false, false, decide (wrap64 (wrap64 (x5 + t1) - 1) < t2), !x1 == 0))))))))))) := by kernel_rfl
def aU.j7 (n0 : Nat) (x0 x1 : Bool) (x2 x3 : Int) (x4 x5 : Bool) (x6 x7 : Int) (x8 x9 : Bool) (x10 x11 : Int) (x12 : Bool) := jK Tryz.prog aU.cls Tryz.f162 aU.cuts [1, 1, 1, 0, 1] [n0] n0 ⟨[(39, (.pv (.one (.b (.q x0))))), (4, (.pv (.one (.p 2 0)))), (3, (.pv (.one (.p 1 0)))), (2, (.pv (.one (.p 0 0))))], [(2, (131, [(.c (.b (.q x1))), (.c (.i .i64 (.x x2))), (.c (.i .u64 (.x x3))), (.c (.b (.q x4)))])), (1, (131, [(.c (.b (.q x5))), (.c (.i .i64 (.x x6))), (.c (.i .u64 (.x x7))), (.c (.b (.q x8)))])), (0, (131, [(.c (.b (.q x9))), (.c (.i .i64 (.x x10))), (.c (.i .u64 (.x x11))), (.c (.b (.q x12)))]))], 3⟩ aU.K
def aU.j8 (n0 : Nat) (x0 : Bool) (x1 x2 : Int) (x3 x4 : Bool) (x5 x6 : Int) (x7 x8 : Bool) (x9 x10 : Int) (x11 : Bool) := jK Tryz.prog aU.cls Tryz.f162 aU.cuts [1, 1, 1, 1] [n0] n0 ⟨[(4, (.pv (.one (.p 2 0)))), (3, (.pv (.one (.p 1 0)))), (2, (.pv (.one (.p 0 0))))], [(2, (131, [(.c (.b (.q x0))), (.c (.i .i64 (.x x1))), (.c (.i .u64 (.x x2))), (.c (.b (.q x3)))])), (1, (131, [(.c (.b (.q x4))), (.c (.i .i64 (.x x5))), (.c (.i .u64 (.x x6))), (.c (.b (.q x7)))])), (0, (131, [(.c (.b (.q x8))), (.c (.i .i64 (.x x9))), (.c (.i .u64 (.x x10))), (.c (.b (.q x11)))]))], 3⟩ aU.K
def aU.j16 (n0 : Nat) (x0 : Bool) (x1 x2 : Int) (x3 x4 : Bool) (x5 x6 : Int) (x7 : Bool) := jK Tryz.prog aU.cls Tryz.f162 aU.cuts [1, 1, 1, 1, 1, 1, 1, 1, 1] [n0] n0 ⟨[(4, (.pv (.one (.p 2 0)))), (2, (.pv (.one (.p 0 0))))], [(2, (131, [(.c (.b (.q x0))), (.c (.i .i64 (.x x1))), (.c (.i .u64 (.x x2))), (.c (.b (.q x3)))])), (0, (131, [(.c (.b (.q x4))), (.c (.i .i64 (.x x5))), (.c (.i .u64 (.x x6))), (.c (.b (.q x7)))]))], 3⟩ aU.K
theorem aU.eq (n0 : Nat) (a0_0 : Bool) (a0_1 a0_2 : Int) (a0_3 a1_0 : Bool) (a1_1 a1_2 : Int) (a1_3 : Bool) : aU.f n0 a0_0 a0_1 a0_2 a0_3 a1_0 a1_1 a1_2 a1_3 = (if a0_2 = 0 then (some ((a1_0, a1_1, a1_2, a1_3))) else (if a1_2 = 0 then (some ((a0_0, a0_1, a0_2, a0_3))) else ((eX.f n0 a0_0 a0_1 a0_2 a0_3).bind fun t0 => ((eX.f n0 a1_0 a1_1 a1_2 a1_3).bind fun t1 => (if t0.2.1 < t1.2.1 then (aU.j7 n0 (true) (false) (Int.ofNat 0) (Int.ofNat 0) (false) (t1.1) t1.2.1 t1.2.2.1 (t1.2.2.2) (t0.1) t0.2.1 t0.2.2.1 (t0.2.2.2)) else (if t0.2.1 = t1.2.1 then (aU.j7 n0 (Decidable.rec (fun h => false) (fun h => true) (Int.decLt t0.2.2.1 t1.2.2.1)) (false) (Int.ofNat 0) (Int.ofNat 0) (false) (t1.1) t1.2.1 t1.2.2.1 (t1.2.2.2) (t0.1) t0.2.1 t0.2.2.1 (t0.2.2.2)) else (aU.j7 n0 (false) (false) (Int.ofNat 0) (Int.ofNat 0) (false) (t1.1) t1.2.1 t1.2.2.1 (t1.2.2.2) (t0.1) t0.2.1 t0.2.2.1 (t0.2.2.2)))))))) := by kernel_rfl
theorem aU.j7_eq (n0 : Nat) (x0 x1 : Bool) (x2 x3 : Int) (x4 x5 : Bool) (x6 x7 : Int) (x8 x9 : Bool) (x10 x11 : Int) (x12 : Bool) : aU.j7 n0 x0 x1 x2 x3 x4 x5 x6 x7 x8 x9 x10 x11 x12 = (if x0 = true then (aU.j8 n0 (x1) (x2) (x3) (x4) (x9) (x10) (x11) (x12) (x5) (x6) (x7) (x8)) else (aU.j8 n0 (x1) (x2) (x3) (x4) (x5) (x6) (x7) (x8) (x9) (x10) (x11) (x12))) := by kernel_rfl
theorem aU.j8_eq (n0 : Nat) (x0 : Bool) (x1 x2 : Int) (x3 x4 : Bool) (x5 x6 : Int) (x7 x8 : Bool) (x9 x10 : Int) (x11 : Bool) : aU.j8 n0 x0 x1 x2 x3 x4 x5 x6 x7 x8 x9 x10 x11 = ((YtolpdiifmacdbaaGreat.L.aR.f n0 x6 (wrap64 (x9 - x5))).bind fun t0 => (if (x8 == x4) = true then (some ((x8, x9, IntKind.wrap IntKind.u64 (x10 + t0.1), t0.2))) else (if t0.2 = true then (aU.j16 n0 (x0) (x1) (x2) (x3) (x8) (x9) (IntKind.wrap IntKind.u64 (IntKind.wrap IntKind.u64 (x10 - t0.1) - 1)) (t0.2)) else (aU.j16 n0 (x0) (x1) (x2) (x3) (x8) (x9) (IntKind.wrap IntKind.u64 (x10 - t0.1)) (t0.2))))) := by kernel_rfl
theorem aU.j16_eq (n0 : Nat) (x0 : Bool) (x1 x2 : Int) (x3 x4 : Bool) (x5 x6 : Int) (x7 : Bool) : aU.j16 n0 x0 x1 x2 x3 x4 x5 x6 x7 = (some ((x4, x5, x6, x7))) := by kernel_rfl
def aA.j3 (n0 : Nat) (x0 x1 : Bool) (x2 x3 : Int) (x4 : Bool) (x5 x6 : Int) (x7 x8 : Bool) (x9 x10 x11 : Bool) := jK Tryz.prog aA.cls Tryz.f97 aA.cuts [1, 1, 0, 1] [n0] n0 ⟨[(35, (.pv (.one (.b (.q x0))))), (13, (.pv (.one (.p 0 0)))), (5, (.pv (.one (.b (.q x1))))), (4, (.pv (.one (.i .u64 (.x x2))))), (3, (.pv (.one (.i .i64 (.x x3))))), (2, (.pv (.one (.b (.q x4))))), (1, (.pv (.one (.i .i64 (.x x5))))), (0, (.pv (.one (.i .i64 (.x x6)))))], [(0, (62, [(.c (.b (.q x7))), (.c (.b (.q x8))), (.c (.b (.q x9))), (.c (.b (.q x10))), (.c (.b (.q x11)))]))], 1⟩ aA.K
def aA.j9 (n0 : Nat) (x0 x1 x2 : Int) (x3 : Bool) (x4 x5 : Int) (x6 : Bool) (x7 x8 : Int) (x9 x10 : Bool) (x11 x12 x13 : Bool) := jK Tryz.prog aA.cls Tryz.f97 aA.cuts [1, 1, 1, 1, 1, 1, 1] [n0] n0 ⟨[(17, (.pv (.one (.i .i64 (.x x0))))), (16, (.pv (.one (.i .i64 (.x x1))))), (15, (.pv (.one (.i .i64 (.x x2))))), (13, (.pv (.one (.p 0 0)))), (5, (.pv (.one (.b (.q x3))))), (4, (.pv (.one (.i .u64 (.x x4))))), (3, (.pv (.one (.i .i64 (.x x5))))), (2, (.pv (.one (.b (.q x6))))), (1, (.pv (.one (.i .i64 (.x x7))))), (0, (.pv (.one (.i .i64 (.x x8)))))], [(0, (62, [(.c (.b (.q x9))), (.c (.b (.q x10))), (.c (.b (.q x11))), (.c (.b (.q x12))), (.c (.b (.q x13)))]))], 1⟩ aA.K
def aA.j12 (n0 : Nat) (x0 x1 : Bool) (x2 x3 : Int) (x4 x5 x6 : Int) (x7 : Bool) (x8 x9 : Int) (x10 x11 : Bool) (x12 x13 x14 : Bool) := jK Tryz.prog aA.cls Tryz.f97 aA.cuts [1, 1, 1, 1, 1, 1, 1, 1, 1, 1] [n0] n0 ⟨[(21, (.pv (.one (.b (.q x0))))), (20, (.pv (.one (.b (.q x1))))), (19, (.pv (.one (.i .u64 (.x x2))))), (18, (.pv (.one (.i .i64 (.x x3))))), (17, (.pv (.one (.i .i64 (.x x4))))), (16, (.pv (.one (.i .i64 (.x x5))))), (15, (.pv (.one (.i .i64 (.x x6))))), (13, (.pv (.one (.p 0 0)))), (2, (.pv (.one (.b (.q x7))))), (1, (.pv (.one (.i .i64 (.x x8))))), (0, (.pv (.one (.i .i64 (.x x9)))))], [(0, (62, [(.c (.b (.q x10))), (.c (.b (.q x11))), (.c (.b (.q x12))), (.c (.b (.q x13))), (.c (.b (.q x14)))]))], 1⟩ aA.K
def aA.j13 (n0 : Nat) (x0 x1 x2 : Bool) (x3 x4 : Int) (x5 x6 x7 : Int) (x8 : Bool) (x9 x10 : Int) (x11 x12 : Bool) (x13 x14 x15 : Bool) := jK Tryz.prog aA.cls Tryz.f97 aA.cuts [1, 1, 1, 1, 1, 1, 1, 1, 1, 1, 1] [n0] n0 ⟨[(22, (.pv (.one (.b (.q x0))))), (21, (.pv (.one (.b (.q x1))))), (20, (.pv (.one (.b (.q x2))))), (19, (.pv (.one (.i .u64 (.x x3))))), (18, (.pv (.one (.i .i64 (.x x4))))), (17, (.pv (.one (.i .i64 (.x x5))))), (16, (.pv (.one (.i .i64 (.x x6))))), (15, (.pv (.one (.i .i64 (.x x7))))), (13, (.pv (.one (.p 0 0)))), (2, (.pv (.one (.b (.q x8))))), (1, (.pv (.one (.i .i64 (.x x9))))), (0, (.pv (.one (.i .i64 (.x x10)))))], [(0, (62, [(.c (.b (.q x11))), (.c (.b (.q x12))), (.c (.b (.q x13))), (.c (.b (.q x14))), (.c (.b (.q x15)))]))], 1⟩ aA.K
def aA.j15 (n0 : Nat) (x0 : Bool) (x1 x2 : Int) (x3 x4 x5 : Int) (x6 : Bool) (x7 x8 : Int) (x9 x10 : Bool) (x11 x12 x13 : Bool) := jK Tryz.prog aA.cls Tryz.f97 aA.cuts [1, 1, 1, 1, 1, 1, 1, 1, 1, 1, 1, 1] [n0] n0 ⟨[(22, (.pv (.one (.b (.q x0))))), (19, (.pv (.one (.i .u64 (.x x1))))), (18, (.pv (.one (.i .i64 (.x x2))))), (17, (.pv (.one (.i .i64 (.x x3))))), (16, (.pv (.one (.i .i64 (.x x4))))), (15, (.pv (.one (.i .i64 (.x x5))))), (13, (.pv (.one (.p 0 0)))), (2, (.pv (.one (.b (.q x6))))), (1, (.pv (.one (.i .i64 (.x x7))))), (0, (.pv (.one (.i .i64 (.x x8)))))], [(0, (62, [(.c (.b (.q x9))), (.c (.b (.q x10))), (.c (.b (.q x11))), (.c (.b (.q x12))), (.c (.b (.q x13)))]))], 1⟩ aA.K
def aA.j18 (n0 : Nat) (x0 x1 x2 : Int) (x3 : Bool) (x4 x5 : Int) (x6 x7 : Bool) (x8 x9 : Bool) (x10 x11 : Bool) (x12 x13 : Bool) (x14 x15 : Bool) := jK Tryz.prog aA.cls Tryz.f97 aA.cuts [1, 1, 1, 1, 1, 1, 1, 1, 1, 1, 1, 1, 1, 1] [n0] n0 ⟨[(23, (.pv (.one (.p 1 0)))), (19, (.pv (.one (.i .u64 (.x x0))))), (18, (.pv (.one (.i .i64 (.x x1))))), (15, (.pv (.one (.i .i64 (.x x2))))), (13, (.pv (.one (.p 0 0)))), (2, (.pv (.one (.b (.q x3))))), (1, (.pv (.one (.i .i64 (.x x4))))), (0, (.pv (.one (.i .i64 (.x x5)))))], [(1, (62, [(.c (.b (.q x6))), (.c (.b (.q x7))), (.c (.b (.q x8))), (.c (.b (.q x9))), (.c (.b (.q x10)))])), (0, (62, [(.c (.b (.q x11))), (.c (.b (.q x12))), (.c (.b (.q x13))), (.c (.b (.q x14))), (.c (.b (.q x15)))]))], 2⟩ aA.K
theorem aA.eq (n0 : Nat) (a0 a1 : Int) (a2 : Bool) (a3 a4 : Int) (a5 : Bool) : aA.f n0 a0 a1 a2 a3 a4 a5 = (if a4 = 0 then (aA.j3 n0 (!(a5)) (a5) (a4) (mn (mx a3 (-10000)) 10000) (a2) (a1) (a0) (false) (false) (false) (false) (false)) else (aA.j3 n0 (false) (a5) (a4) (mn (mx a3 (-10000)) 10000) (a2) (a1) (a0) (false) (false) (false) (false) (false))) := by kernel_rfl
theorem aA.j3_eq (n0 : Nat) (x0 x1 : Bool) (x2 x3 : Int) (x4 : Bool) (x5 x6 : Int) (x7 x8 : Bool) (x9 x10 x11 : Bool) : aA.j3 n0 x0 x1 x2 x3 x4 x5 x6 x7 x8 x9 x10 x11 = (if x0 = true then ((bU.f x6 x4).bind fun t0 => (some ((t0, false, false, false, false, false)))) else ((aI.f x6).bind fun t0 => ((bL.f x6).bind fun t1 => ((aX.f n0 x2).bind fun t2 => (if x2 = 0 then (aA.j9 n0 (Int.negSucc 19999) (wrap64 (1 - t1)) t0.2 (x1) (x2) (x3) (x4) (x5) (x6) (x7) (x8) (x9) (x10) (x11)) else (aA.j9 n0 (wrap64 (wrap64 (x3 + t2) - 1)) (wrap64 (1 - t1)) t0.2 (x1) (x2) (x3) (x4) (x5) (x6) (x7) (x8) (x9) (x10) (x11))))))) := by kernel_rfl
theorem aA.j9_eq (n0 : Nat) (x0 x1 x2 : Int) (x3 : Bool) (x4 x5 : Int) (x6 : Bool) (x7 x8 : Int) (x9 x10 : Bool) (x11 x12 x13 : Bool) : aA.j9 n0 x0 x1 x2 x3 x4 x5 x6 x7 x8 x9 x10 x11 x12 x13 = ((bB.f n0 x4 (wrap64 (wrap64 (mx x0 x1 - x2) - x5))).bind fun t0 => (if t0.2.2 = true then (aA.j12 n0 (true) (t0.2.1) t0.1 (wrap64 (mx x0 x1 - x2)) (x0) (x1) (x2) (x6) (x7) (x8) (x9) (x10) (x11) (x12) (x13)) else (aA.j12 n0 (x3) (t0.2.1) t0.1 (wrap64 (mx x0 x1 - x2)) (x0) (x1) (x2) (x6) (x7) (x8) (x9) (x10) (x11) (x12) (x13)))) := by kernel_rfl
theorem aA.aBS (n0 : Nat) (x0 x1 : Bool) (x2 x3 : Int) (x4 x5 x6 : Int) (x7 : Bool) (x8 x9 : Int) (x10 x11 : Bool) (x12 x13 x14 : Bool) : aA.j12 n0 x0 x1 x2 x3 x4 x5 x6 x7 x8 x9 x10 x11 x12 x13 x14 = (if x1 = true then (aA.j13 n0 (true) (x0) (x1) (x2) (x3) (x4) (x5) (x6) (x7) (x8) (x9) (x10) (x11) (x12) (x13) (x14)) else (aA.j13 n0 (x0) (x0) (x1) (x2) (x3) (x4) (x5) (x6) (x7) (x8) (x9) (x10) (x11) (x12) (x13) (x14))) := by kernel_rfl
theorem aA.j13_eq (n0 : Nat) (x0 x1 x2 : Bool) (x3 x4 : Int) (x5 x6 x7 : Int) (x8 : Bool) (x9 x10 : Int) (x11 x12 : Bool) (x13 x14 x15 : Bool) : aA.j13 n0 x0 x1 x2 x3 x4 x5 x6 x7 x8 x9 x10 x11 x12 x13 x14 x15 = ((YtolpdiifmacdbaaGreat.L.bQ.f n0 x9 x8 (bits BinOp.and IntKind.u64 x3 1 == 1) x2 x1).bind fun t0 => (if t0 = true then (aA.j15 n0 (x0) (IntKind.wrap IntKind.u64 (x3 + 1)) (x4) (x5) (x6) (x7) (x8) (x9) (x10) (x11) (x12) (x13) (x14) (x15)) else (aA.j15 n0 (x0) (x3) (x4) (x5) (x6) (x7) (x8) (x9) (x10) (x11) (x12) (x13) (x14) (x15)))) := by kernel_rfl
theorem aA.aB2 (n0 : Nat) (x0 : Bool) (x1 x2 : Int) (x3 x4 x5 : Int) (x6 : Bool) (x7 x8 : Int) (x9 x10 : Bool) (x11 x12 x13 : Bool) : aA.j15 n0 x0 x1 x2 x3 x4 x5 x6 x7 x8 x9 x10 x11 x12 x13 = (if x0 = true then (if 0 ≤ wrap64 (x5 + 1) then (if x1 = shl IntKind.u64 1 (wrap64 (x5 + 1)) then (aA.j18 n0 (shr IntKind.u64 x1 1) (wrap64 (x2 + 1)) (x5) (x6) (x7) (x8) (false) (false) (false) (Decidable.rec (fun h => false) (fun h => true) (Int.decLt x3 x4)) (x0) (x9) (x10) (x11) (x12) (x13)) else (aA.j18 n0 (x1) (x2) (x5) (x6) (x7) (x8) (false) (false) (false) (Decidable.rec (fun h => false) (fun h => true) (Int.decLt x3 x4)) (x0) (x9) (x10) (x11) (x12) (x13))) else none) else (if 0 ≤ wrap64 (x5 + 1) then (if x1 = shl IntKind.u64 1 (wrap64 (x5 + 1)) then (aA.j18 n0 (shr IntKind.u64 x1 1) (wrap64 (x2 + 1)) (x5) (x6) (x7) (x8) (false) (false) (false) (false) (x0) (x9) (x10) (x11) (x12) (x13)) else (aA.j18 n0 (x1) (x2) (x5) (x6) (x7) (x8) (false) (false) (false) (false) (x0) (x9) (x10) (x11) (x12) (x13))) else none)) := by kernel_rfl
theorem aA.j18_eq (n0 : Nat) (x0 x1 x2 : Int) (x3 : Bool) (x4 x5 : Int) (x6 x7 : Bool) (x8 x9 : Bool) (x10 x11 : Bool) (x12 x13 : Bool) (x14 x15 : Bool) : aA.j18 n0 x0 x1 x2 x3 x4 x5 x6 x7 x8 x9 x10 x11 x12 x13 x14 x15 = (if 0 ≤ x2 then (if x0 < shl IntKind.u64 1 x2 then ((cK.f x5 x3).bind fun t0 => (some ((bits BinOp.or IntKind.u32 t0 (x0 % 4294967296), x6, x7, x8, x9, x10)))) else ((bL.f x5).bind fun t0 => ((aI.f x5).bind fun t1 => (if 0 ≤ t1.1 then (if wrap64 (shl IntKind.i64 1 t1.1 - 1) ≤ wrap64 (wrap64 (x1 + x2) + t0) then ((YtolpdiifmacdbaaGreat.L.aK.f n0 x5 x4 x3).bind fun t2 => (some ((t2, false, false, true, false, true)))) else (if 0 ≤ x2 then (if 0 ≤ x2 then ((cK.f x5 x3).bind fun t2 => (some ((bits BinOp.or IntKind.u32 (bits BinOp.or IntKind.u32 t2 (shl IntKind.u32 (wrap64 (wrap64 (x1 + x2) + t0) % 4294967296) x2)) (bits BinOp.and IntKind.u64 x0 (IntKind.wrap IntKind.u64 (shl IntKind.u64 1 x2 - 1)) % 4294967296), x6, x7, x8, x9, x10)))) else none) else none)) else none)))) else none) := by kernel_rfl
end L
namespace P
set_option maxRecDepth 100000
theorem aC.nZ {k n : Nat} (hk : k ≤ n) {x0 x1 : Int} {x2 : Bool} {x3 x4 : Int} {x15 x17 : Int} {x18 x19 : Int} {ex9 ex10 : Bool} {ex11 ex12 ex13 : Bool} : LeO (aC.j3 k x0 x1 x2 x3 x4 x15 x17 x18 x19) (L.aC.j14 n x19 x18 x17 x15 x4 x3 x2 x1 x0 ex9 ex10 ex11 ex12 ex13) := by
 cases k with
 |zero => rw [aC.j3]; exact LeO.none _
 |succ k =>
 replace hk := Nat.le_of_succ_le hk
 rw [aC.j3, L.aC.aCq]
 repeat' first
  |(with_reducible exact LeO.refl _)
  |exact LeO.none _
  |(with_reducible first|exact fun r h => at_rounds (dP.mono _ _ _) hk h|exact bV.le hk|exact eU.le hk|exact dE.le hk|exact fun r h => at_rounds (bits_Len.mono _) hk h|refine LeO.bind ?_ (fun _ => ?_)|refine LeO.fT Iff.rfl (fun _ => ?_) (fun _ => ?_))
  |exact fun r h => at_rounds (dP.mono _ _ _) hk h
  |exact bV.le hk
  |exact eU.le hk
  |exact dE.le hk
  |exact fun r h => at_rounds (bits_Len.mono _) hk h
  |exact LeO.refl _
  |(with_reducible first|refine LeO.pos (by assumption) ?_|refine LeO.neg (by assumption) ?_|refine LeO.jT (by assumption) ?_|refine LeO.jW (by assumption) ?_|refine LeO.fT (by omega) (fun _ => ?_) (fun _ => ?_))
  |exact LeO.swap
  |(rw [shl_small rfl (by show (_ : Int) ≤ 64; unfold mn; split <;> omega)]; exact LeO.refl _)
theorem aC.kH {k n : Nat} (hk : k ≤ n) {x0 x1 : Int} {x2 : Bool} {x3 x4 : Int} {x15 x16 : Int} {x17 x18 : Int} {ex9 ex10 : Bool} {ex11 ex12 ex13 : Bool} : LeO (aC.j2 k x0 x1 x2 x3 x4 x15 x16 x17 x18) (L.aC.j11 n x18 x17 x16 x15 x4 x3 x2 x1 x0 ex9 ex10 ex11 ex12 ex13) := by
 cases k with
 |zero => rw [aC.j2]; exact LeO.none _
 |succ k =>
 replace hk := Nat.le_of_succ_le hk
 rw [aC.j2, L.aC.yC]
 repeat' first
  |(with_reducible exact LeO.refl _)
  |exact LeO.none _
  |(with_reducible first|exact aC.nZ hk|exact fun r h => at_rounds (dP.mono _ _ _) hk h|exact bV.le hk|exact eU.le hk|exact dE.le hk|exact fun r h => at_rounds (bits_Len.mono _) hk h|refine LeO.bind ?_ (fun _ => ?_)|refine LeO.fT Iff.rfl (fun _ => ?_) (fun _ => ?_))
  |exact aC.nZ hk
  |exact fun r h => at_rounds (dP.mono _ _ _) hk h
  |exact bV.le hk
  |exact eU.le hk
  |exact dE.le hk
  |exact fun r h => at_rounds (bits_Len.mono _) hk h
  |exact LeO.refl _
  |(with_reducible first|refine LeO.pos (by assumption) ?_|refine LeO.neg (by assumption) ?_|refine LeO.jT (by assumption) ?_|refine LeO.jW (by assumption) ?_|refine LeO.fT (by omega) (fun _ => ?_) (fun _ => ?_))
  |exact LeO.swap
  |(rw [shl_small rfl (by show (_ : Int) ≤ 64; unfold mn; split <;> omega)]; exact LeO.refl _)
theorem aC.iY {k n : Nat} (hk : k ≤ n) {x0 x1 : Int} {x2 : Bool} {x3 x4 : Int} {x15 x16 : Int} {x17 x18 : Int} {ex9 ex10 : Bool} {ex11 ex12 ex13 : Bool} : LeO (aC.j1 k x0 x1 x2 x3 x4 x15 x16 x17 x18) (L.aC.j9 n x18 x17 x16 x15 x4 x3 x2 x1 x0 ex9 ex10 ex11 ex12 ex13) := by
 cases k with
 |zero => rw [aC.j1]; exact LeO.none _
 |succ k =>
 replace hk := Nat.le_of_succ_le hk
 rw [aC.j1, L.aC.j9_eq]
 repeat' first
  |(with_reducible exact LeO.refl _)
  |exact LeO.none _
  |(with_reducible first|exact aC.nZ hk|exact aC.kH hk|exact fun r h => at_rounds (dP.mono _ _ _) hk h|exact bV.le hk|exact eU.le hk|exact dE.le hk|exact fun r h => at_rounds (bits_Len.mono _) hk h|refine LeO.bind ?_ (fun _ => ?_)|refine LeO.fT Iff.rfl (fun _ => ?_) (fun _ => ?_))
  |exact aC.nZ hk
  |exact aC.kH hk
  |exact fun r h => at_rounds (dP.mono _ _ _) hk h
  |exact bV.le hk
  |exact eU.le hk
  |exact dE.le hk
  |exact fun r h => at_rounds (bits_Len.mono _) hk h
  |exact LeO.refl _
  |(with_reducible first|refine LeO.pos (by assumption) ?_|refine LeO.neg (by assumption) ?_|refine LeO.jT (by assumption) ?_|refine LeO.jW (by assumption) ?_|refine LeO.fT (by omega) (fun _ => ?_) (fun _ => ?_))
  |exact LeO.swap
  |(rw [shl_small rfl (by show (_ : Int) ≤ 64; unfold mn; split <;> omega)]; exact LeO.refl _)
theorem aC.iT {k n : Nat} (hk : k ≤ n) {x0 x1 : Int} {x2 : Bool} {x3 x4 : Int} {x5 x29 : Bool} {ex7 ex8 : Bool} {ex9 ex10 ex11 : Bool} : LeO (aC.j0 k x0 x1 x2 x3 x4 x5 x29) (L.aC.j3 n x29 x5 x4 x3 x2 x1 x0 ex7 ex8 ex9 ex10 ex11) := by
 cases k with
 |zero => rw [aC.j0]; exact LeO.none _
 |succ k =>
 replace hk := Nat.le_of_succ_le hk
 rw [aC.j0, L.aC.j3_eq]
 repeat' first
  |(with_reducible exact LeO.refl _)
  |exact LeO.none _
  |(with_reducible first|exact aC.nZ hk|exact aC.kH hk|exact aC.iY hk|exact fun r h => at_rounds (dP.mono _ _ _) hk h|exact bV.le hk|exact eU.le hk|exact dE.le hk|exact fun r h => at_rounds (bits_Len.mono _) hk h|refine LeO.bind ?_ (fun _ => ?_)|refine LeO.fT Iff.rfl (fun _ => ?_) (fun _ => ?_))
  |exact aC.nZ hk
  |exact aC.kH hk
  |exact aC.iY hk
  |exact fun r h => at_rounds (dP.mono _ _ _) hk h
  |exact bV.le hk
  |exact eU.le hk
  |exact dE.le hk
  |exact fun r h => at_rounds (bits_Len.mono _) hk h
  |exact LeO.refl _
  |(with_reducible first|refine LeO.pos (by assumption) ?_|refine LeO.neg (by assumption) ?_|refine LeO.jT (by assumption) ?_|refine LeO.jW (by assumption) ?_|refine LeO.fT (by omega) (fun _ => ?_) (fun _ => ?_))
  |exact LeO.swap
  |(rw [shl_small rfl (by show (_ : Int) ≤ 64; unfold mn; split <;> omega)]; exact LeO.refl _)
set_option maxHeartbeats 4000000 in
theorem aC.le {k n : Nat} (hk : k ≤ n) {a0 a1 : Int} {a2 : Bool} {a3 a4 : Int} {a5 : Bool} : LeO (aC.f k a0 a1 a2 a3 a4 a5) (L.aC.f n a0 a1 a2 a3 a4 a5) := by
 unfold aC.f
 rw [L.aC.eq]
 try simp only [Bool.and_true]
 repeat' first
  |(with_reducible exact LeO.refl _)
  |exact LeO.none _
  |(with_reducible first|exact aC.nZ hk|exact aC.kH hk|exact aC.iY hk|exact aC.iT hk|exact fun r h => at_rounds (dP.mono _ _ _) hk h|exact bV.le hk|exact eU.le hk|exact dE.le hk|exact fun r h => at_rounds (bits_Len.mono _) hk h|refine LeO.bind ?_ (fun _ => ?_)|refine LeO.fT Iff.rfl (fun _ => ?_) (fun _ => ?_))
  |exact aC.nZ hk
  |exact aC.kH hk
  |exact aC.iY hk
  |exact aC.iT hk
  |exact fun r h => at_rounds (dP.mono _ _ _) hk h
  |exact bV.le hk
  |exact eU.le hk
  |exact dE.le hk
  |exact fun r h => at_rounds (bits_Len.mono _) hk h
  |exact LeO.refl _
  |(with_reducible first|refine LeO.pos (by assumption) ?_|refine LeO.neg (by assumption) ?_|refine LeO.jT (by assumption) ?_|refine LeO.jW (by assumption) ?_|refine LeO.fT (by omega) (fun _ => ?_) (fun _ => ?_))
  |exact LeO.swap
  |(rw [shl_small rfl (by show (_ : Int) ≤ 64; unfold mn; split <;> omega)]; exact LeO.refl _)
theorem aU.kH {k n : Nat} (hk : k ≤ n) {x281000 : Bool} {x281001 x281002 : Int} {x281003 ex0 : Bool} {ex1 ex2 : Int} {ex3 : Bool} : LeO (aU.j2 k x281000 x281001 x281002 x281003) (L.aU.j16 n ex0 ex1 ex2 ex3 x281000 x281001 x281002 x281003) := by
 cases k with
 |zero => rw [aU.j2]; exact LeO.none _
 |succ k =>
 replace hk := Nat.le_of_succ_le hk
 rw [aU.j2, L.aU.j16_eq]
 repeat' first
  |(with_reducible exact LeO.refl _)
  |exact LeO.none _
  |(with_reducible first|exact eX.le hk|exact aR.le hk|refine LeO.bind ?_ (fun _ => ?_)|refine LeO.fT Iff.rfl (fun _ => ?_) (fun _ => ?_))
  |exact eX.le hk
  |exact aR.le hk
  |exact LeO.refl _
  |(with_reducible first|refine LeO.pos (by assumption) ?_|refine LeO.neg (by assumption) ?_|refine LeO.jT (by assumption) ?_|refine LeO.jW (by assumption) ?_|refine LeO.fT (by omega) (fun _ => ?_) (fun _ => ?_))
  |exact LeO.swap
  |(rw [shl_small rfl (by show (_ : Int) ≤ 64; unfold mn; split <;> omega)]; exact LeO.refl _)
theorem aU.iY {k n : Nat} (hk : k ≤ n) {x281000 : Bool} {x281001 x281002 : Int} {x281003 x282000 : Bool} {x282001 x282002 : Int} {x282003 ex0 : Bool} {ex1 ex2 : Int} {ex3 : Bool} : LeO (aU.j1 k x281000 x281001 x281002 x281003 x282000 x282001 x282002 x282003) (L.aU.j8 n ex0 ex1 ex2 ex3 x282000 x282001 x282002 x282003 x281000 x281001 x281002 x281003) := by
 cases k with
 |zero => rw [aU.j1]; exact LeO.none _
 |succ k =>
 replace hk := Nat.le_of_succ_le hk
 rw [aU.j1, L.aU.j8_eq]
 repeat' first
  |(with_reducible exact LeO.refl _)
  |exact LeO.none _
  |(with_reducible first|exact aU.kH hk|exact eX.le hk|exact aR.le hk|refine LeO.bind ?_ (fun _ => ?_)|refine LeO.fT Iff.rfl (fun _ => ?_) (fun _ => ?_))
  |exact aU.kH hk
  |exact eX.le hk
  |exact aR.le hk
  |exact LeO.refl _
  |(with_reducible first|refine LeO.pos (by assumption) ?_|refine LeO.neg (by assumption) ?_|refine LeO.jT (by assumption) ?_|refine LeO.jW (by assumption) ?_|refine LeO.fT (by omega) (fun _ => ?_) (fun _ => ?_))
  |exact LeO.swap
  |(rw [shl_small rfl (by show (_ : Int) ≤ 64; unfold mn; split <;> omega)]; exact LeO.refl _)
theorem aU.iT {k n : Nat} (hk : k ≤ n) {x39 x281000 : Bool} {x281001 x281002 : Int} {x281003 x282000 : Bool} {x282001 x282002 : Int} {x282003 ex1 : Bool} {ex2 ex3 : Int} {ex4 : Bool} : LeO (aU.j0 k x39 x281000 x281001 x281002 x281003 x282000 x282001 x282002 x282003) (L.aU.j7 n x39 ex1 ex2 ex3 ex4 x282000 x282001 x282002 x282003 x281000 x281001 x281002 x281003) := by
 cases k with
 |zero => rw [aU.j0]; exact LeO.none _
 |succ k =>
 replace hk := Nat.le_of_succ_le hk
 rw [aU.j0, L.aU.j7_eq]
 repeat' first
  |(with_reducible exact LeO.refl _)
  |exact LeO.none _
  |(with_reducible first|exact aU.kH hk|exact aU.iY hk|exact eX.le hk|exact aR.le hk|refine LeO.bind ?_ (fun _ => ?_)|refine LeO.fT Iff.rfl (fun _ => ?_) (fun _ => ?_))
  |exact aU.kH hk
  |exact aU.iY hk
  |exact eX.le hk
  |exact aR.le hk
  |exact LeO.refl _
  |(with_reducible first|refine LeO.pos (by assumption) ?_|refine LeO.neg (by assumption) ?_|refine LeO.jT (by assumption) ?_|refine LeO.jW (by assumption) ?_|refine LeO.fT (by omega) (fun _ => ?_) (fun _ => ?_))
  |exact LeO.swap
  |(rw [shl_small rfl (by show (_ : Int) ≤ 64; unfold mn; split <;> omega)]; exact LeO.refl _)
set_option maxHeartbeats 4000000 in
theorem aU.le {k n : Nat} (hk : k ≤ n) {a0_0 : Bool} {a0_1 a0_2 : Int} {a0_3 a1_0 : Bool} {a1_1 a1_2 : Int} {a1_3 : Bool} : LeO (aU.f k a0_0 a0_1 a0_2 a0_3 a1_0 a1_1 a1_2 a1_3) (L.aU.f n a0_0 a0_1 a0_2 a0_3 a1_0 a1_1 a1_2 a1_3) := by
 unfold aU.f
 rw [L.aU.eq]
 try simp only [Bool.and_true]
 repeat' first
  |(with_reducible exact LeO.refl _)
  |exact LeO.none _
  |(with_reducible first|exact aU.kH hk|exact aU.iY hk|exact aU.iT hk|exact eX.le hk|exact aR.le hk|refine LeO.bind ?_ (fun _ => ?_)|refine LeO.fT Iff.rfl (fun _ => ?_) (fun _ => ?_))
  |exact aU.kH hk
  |exact aU.iY hk
  |exact aU.iT hk
  |exact eX.le hk
  |exact aR.le hk
  |exact LeO.refl _
  |(with_reducible first|refine LeO.pos (by assumption) ?_|refine LeO.neg (by assumption) ?_|refine LeO.jT (by assumption) ?_|refine LeO.jW (by assumption) ?_|refine LeO.fT (by omega) (fun _ => ?_) (fun _ => ?_))
  |exact LeO.swap
  |(rw [shl_small rfl (by show (_ : Int) ≤ 64; unfold mn; split <;> omega)]; exact LeO.refl _)
theorem aA.qJ {k n : Nat} (hk : k ≤ n) {x0 x1 : Int} {x2 : Bool} {x15 x18 x19 : Int} {x622000 x622001 : Bool} {x622002 x622003 : Bool} {x622004 ex11 : Bool} {ex12 ex13 : Bool} {ex14 ex15 : Bool} : LeO (aA.j6 k x0 x1 x2 x15 x18 x19 x622000 x622001 x622002 x622003 x622004) (L.aA.j18 n x19 x18 x15 x2 x1 x0 x622000 x622001 x622002 x622003 x622004 ex11 ex12 ex13 ex14 ex15) := by
 cases k with
 |zero => rw [aA.j6]; exact LeO.none _
 |succ k =>
 replace hk := Nat.le_of_succ_le hk
 rw [aA.j6, L.aA.j18_eq]
 repeat' first
  |(with_reducible exact LeO.refl _)
  |exact LeO.none _
  |(with_reducible first|exact fun r h => at_rounds (aX.mono _) hk h|exact bB.le hk|exact bQ.le hk|exact aK.le hk|refine LeO.bind ?_ (fun _ => ?_)|refine LeO.fT Iff.rfl (fun _ => ?_) (fun _ => ?_))
  |exact fun r h => at_rounds (aX.mono _) hk h
  |exact bB.le hk
  |exact bQ.le hk
  |exact aK.le hk
  |exact LeO.refl _
  |(with_reducible first|refine LeO.pos (by assumption) ?_|refine LeO.neg (by assumption) ?_|refine LeO.jT (by assumption) ?_|refine LeO.jW (by assumption) ?_|refine LeO.fT (by omega) (fun _ => ?_) (fun _ => ?_))
  |exact LeO.swap
  |(rw [shl_small rfl (by show (_ : Int) ≤ 64; unfold mn; split <;> omega)]; exact LeO.refl _)
theorem aA.sN {k n : Nat} (hk : k ≤ n) {x0 x1 : Int} {x2 : Bool} {x15 x18 x19 : Int} {x615000 x615001 : Bool} {x615002 x615003 : Bool} {x615004 ex11 : Bool} {ex12 ex13 : Bool} {ex14 ex15 : Bool} : LeO (aA.j5 k x0 x1 x2 x15 x18 x19 x615000 x615001 x615002 x615003 x615004) (L.aA.j18 n x19 x18 x15 x2 x1 x0 x615000 x615001 x615002 x615003 x615004 ex11 ex12 ex13 ex14 ex15) := by
 cases k with
 |zero => rw [aA.j5]; exact LeO.none _
 |succ k =>
 replace hk := Nat.le_of_succ_le hk
 rw [aA.j5, L.aA.j18_eq]
 repeat' first
  |(with_reducible exact LeO.refl _)
  |exact LeO.none _
  |(with_reducible first|exact aA.qJ hk|exact fun r h => at_rounds (aX.mono _) hk h|exact bB.le hk|exact bQ.le hk|exact aK.le hk|refine LeO.bind ?_ (fun _ => ?_)|refine LeO.fT Iff.rfl (fun _ => ?_) (fun _ => ?_))
  |exact aA.qJ hk
  |exact fun r h => at_rounds (aX.mono _) hk h
  |exact bB.le hk
  |exact bQ.le hk
  |exact aK.le hk
  |exact LeO.refl _
  |(with_reducible first|refine LeO.pos (by assumption) ?_|refine LeO.neg (by assumption) ?_|refine LeO.jT (by assumption) ?_|refine LeO.jW (by assumption) ?_|refine LeO.fT (by omega) (fun _ => ?_) (fun _ => ?_))
  |exact LeO.swap
  |(rw [shl_small rfl (by show (_ : Int) ≤ 64; unfold mn; split <;> omega)]; exact LeO.refl _)
theorem aA.vG {k n : Nat} (hk : k ≤ n) {x0 x1 : Int} {x2 : Bool} {x15 x16 : Int} {x17 x18 x19 : Int} {x22 ex9 : Bool} {ex10 ex11 : Bool} {ex12 ex13 : Bool} : LeO (aA.j4 k x0 x1 x2 x15 x16 x17 x18 x19 x22) (L.aA.j15 n x22 x19 x18 x17 x16 x15 x2 x1 x0 ex9 ex10 ex11 ex12 ex13) := by
 cases k with
 |zero => rw [aA.j4]; exact LeO.none _
 |succ k =>
 replace hk := Nat.le_of_succ_le hk
 rw [aA.j4, L.aA.aB2]
 repeat' first
  |(with_reducible exact LeO.refl _)
  |exact LeO.none _
  |(with_reducible first|exact aA.qJ hk|exact aA.sN hk|exact fun r h => at_rounds (aX.mono _) hk h|exact bB.le hk|exact bQ.le hk|exact aK.le hk|refine LeO.bind ?_ (fun _ => ?_)|refine LeO.fT Iff.rfl (fun _ => ?_) (fun _ => ?_))
  |exact aA.qJ hk
  |exact aA.sN hk
  |exact fun r h => at_rounds (aX.mono _) hk h
  |exact bB.le hk
  |exact bQ.le hk
  |exact aK.le hk
  |exact LeO.refl _
  |(with_reducible first|refine LeO.pos (by assumption) ?_|refine LeO.neg (by assumption) ?_|refine LeO.jT (by assumption) ?_|refine LeO.jW (by assumption) ?_|refine LeO.fT (by omega) (fun _ => ?_) (fun _ => ?_))
  |exact LeO.swap
  |(rw [shl_small rfl (by show (_ : Int) ≤ 64; unfold mn; split <;> omega)]; exact LeO.refl _)
theorem aA.nZ {k n : Nat} (hk : k ≤ n) {x0 x1 : Int} {x2 : Bool} {x15 x16 : Int} {x17 x18 x19 : Int} {x20 x21 : Bool} {x22 ex11 : Bool} {ex12 ex13 : Bool} {ex14 ex15 : Bool} : LeO (aA.j3 k x0 x1 x2 x15 x16 x17 x18 x19 x20 x21 x22) (L.aA.j13 n x22 x21 x20 x19 x18 x17 x16 x15 x2 x1 x0 ex11 ex12 ex13 ex14 ex15) := by
 cases k with
 |zero => rw [aA.j3]; exact LeO.none _
 |succ k =>
 replace hk := Nat.le_of_succ_le hk
 rw [aA.j3, L.aA.j13_eq]
 repeat' first
  |(with_reducible exact LeO.refl _)
  |exact LeO.none _
  |(with_reducible first|exact aA.qJ hk|exact aA.sN hk|exact aA.vG hk|exact fun r h => at_rounds (aX.mono _) hk h|exact bB.le hk|exact bQ.le hk|exact aK.le hk|refine LeO.bind ?_ (fun _ => ?_)|refine LeO.fT Iff.rfl (fun _ => ?_) (fun _ => ?_))
  |exact aA.qJ hk
  |exact aA.sN hk
  |exact aA.vG hk
  |exact fun r h => at_rounds (aX.mono _) hk h
  |exact bB.le hk
  |exact bQ.le hk
  |exact aK.le hk
  |exact LeO.refl _
  |(with_reducible first|refine LeO.pos (by assumption) ?_|refine LeO.neg (by assumption) ?_|refine LeO.jT (by assumption) ?_|refine LeO.jW (by assumption) ?_|refine LeO.fT (by omega) (fun _ => ?_) (fun _ => ?_))
  |exact LeO.swap
  |(rw [shl_small rfl (by show (_ : Int) ≤ 64; unfold mn; split <;> omega)]; exact LeO.refl _)
theorem aA.kH {k n : Nat} (hk : k ≤ n) {x0 x1 : Int} {x2 : Bool} {x15 x16 : Int} {x17 x18 x19 : Int} {x20 x21 : Bool} {ex10 ex11 : Bool} {ex12 ex13 ex14 : Bool} : LeO (aA.j2 k x0 x1 x2 x15 x16 x17 x18 x19 x20 x21) (L.aA.j12 n x21 x20 x19 x18 x17 x16 x15 x2 x1 x0 ex10 ex11 ex12 ex13 ex14) := by
 cases k with
 |zero => rw [aA.j2]; exact LeO.none _
 |succ k =>
 replace hk := Nat.le_of_succ_le hk
 rw [aA.j2, L.aA.aBS]
 repeat' first
  |(with_reducible exact LeO.refl _)
  |exact LeO.none _
  |(with_reducible first|exact aA.qJ hk|exact aA.sN hk|exact aA.vG hk|exact aA.nZ hk|exact fun r h => at_rounds (aX.mono _) hk h|exact bB.le hk|exact bQ.le hk|exact aK.le hk|refine LeO.bind ?_ (fun _ => ?_)|refine LeO.fT Iff.rfl (fun _ => ?_) (fun _ => ?_))
  |exact aA.qJ hk
  |exact aA.sN hk
  |exact aA.vG hk
  |exact aA.nZ hk
  |exact fun r h => at_rounds (aX.mono _) hk h
  |exact bB.le hk
  |exact bQ.le hk
  |exact aK.le hk
  |exact LeO.refl _
  |(with_reducible first|refine LeO.pos (by assumption) ?_|refine LeO.neg (by assumption) ?_|refine LeO.jT (by assumption) ?_|refine LeO.jW (by assumption) ?_|refine LeO.fT (by omega) (fun _ => ?_) (fun _ => ?_))
  |exact LeO.swap
  |(rw [shl_small rfl (by show (_ : Int) ≤ 64; unfold mn; split <;> omega)]; exact LeO.refl _)
theorem aA.iY {k n : Nat} (hk : k ≤ n) {x0 x1 : Int} {x2 : Bool} {x3 x4 : Int} {x5 : Bool} {x15 x16 x17 : Int} {ex9 ex10 : Bool} {ex11 ex12 ex13 : Bool} : LeO (aA.j1 k x0 x1 x2 x3 x4 x5 x15 x16 x17) (L.aA.j9 n x17 x16 x15 x5 x4 x3 x2 x1 x0 ex9 ex10 ex11 ex12 ex13) := by
 cases k with
 |zero => rw [aA.j1]; exact LeO.none _
 |succ k =>
 replace hk := Nat.le_of_succ_le hk
 rw [aA.j1, L.aA.j9_eq]
 repeat' first
  |(with_reducible exact LeO.refl _)
  |exact LeO.none _
  |(with_reducible first|exact aA.qJ hk|exact aA.sN hk|exact aA.vG hk|exact aA.nZ hk|exact aA.kH hk|exact fun r h => at_rounds (aX.mono _) hk h|exact bB.le hk|exact bQ.le hk|exact aK.le hk|refine LeO.bind ?_ (fun _ => ?_)|refine LeO.fT Iff.rfl (fun _ => ?_) (fun _ => ?_))
  |exact aA.qJ hk
  |exact aA.sN hk
  |exact aA.vG hk
  |exact aA.nZ hk
  |exact aA.kH hk
  |exact fun r h => at_rounds (aX.mono _) hk h
  |exact bB.le hk
  |exact bQ.le hk
  |exact aK.le hk
  |exact LeO.refl _
  |(with_reducible first|refine LeO.pos (by assumption) ?_|refine LeO.neg (by assumption) ?_|refine LeO.jT (by assumption) ?_|refine LeO.jW (by assumption) ?_|refine LeO.fT (by omega) (fun _ => ?_) (fun _ => ?_))
  |exact LeO.swap
  |(rw [shl_small rfl (by show (_ : Int) ≤ 64; unfold mn; split <;> omega)]; exact LeO.refl _)
theorem aA.iT {k n : Nat} (hk : k ≤ n) {x0 x1 : Int} {x2 : Bool} {x3 x4 : Int} {x5 x35 : Bool} {ex7 ex8 : Bool} {ex9 ex10 ex11 : Bool} : LeO (aA.j0 k x0 x1 x2 x3 x4 x5 x35) (L.aA.j3 n x35 x5 x4 x3 x2 x1 x0 ex7 ex8 ex9 ex10 ex11) := by
 cases k with
 |zero => rw [aA.j0]; exact LeO.none _
 |succ k =>
 replace hk := Nat.le_of_succ_le hk
 rw [aA.j0, L.aA.j3_eq]
 repeat' first
  |(with_reducible exact LeO.refl _)
  |exact LeO.none _
  |(with_reducible first|exact aA.qJ hk|exact aA.sN hk|exact aA.vG hk|exact aA.nZ hk|exact aA.kH hk|exact aA.iY hk|exact fun r h => at_rounds (aX.mono _) hk h|exact bB.le hk|exact bQ.le hk|exact aK.le hk|refine LeO.bind ?_ (fun _ => ?_)|refine LeO.fT Iff.rfl (fun _ => ?_) (fun _ => ?_))
  |exact aA.qJ hk
  |exact aA.sN hk
  |exact aA.vG hk
  |exact aA.nZ hk
  |exact aA.kH hk
  |exact aA.iY hk
  |exact fun r h => at_rounds (aX.mono _) hk h
  |exact bB.le hk
  |exact bQ.le hk
  |exact aK.le hk
  |exact LeO.refl _
  |(with_reducible first|refine LeO.pos (by assumption) ?_|refine LeO.neg (by assumption) ?_|refine LeO.jT (by assumption) ?_|refine LeO.jW (by assumption) ?_|refine LeO.fT (by omega) (fun _ => ?_) (fun _ => ?_))
  |exact LeO.swap
  |(rw [shl_small rfl (by show (_ : Int) ≤ 64; unfold mn; split <;> omega)]; exact LeO.refl _)
set_option maxHeartbeats 4000000 in
theorem aA.le {k n : Nat} (hk : k ≤ n) {a0 a1 : Int} {a2 : Bool} {a3 a4 : Int} {a5 : Bool} : LeO (aA.f k a0 a1 a2 a3 a4 a5) (L.aA.f n a0 a1 a2 a3 a4 a5) := by
 unfold aA.f
 rw [L.aA.eq]
 try simp only [Bool.and_true]
 repeat' first
  |(with_reducible exact LeO.refl _)
  |exact LeO.none _
  |(with_reducible first|exact aA.qJ hk|exact aA.sN hk|exact aA.vG hk|exact aA.nZ hk|exact aA.kH hk|exact aA.iY hk|exact aA.iT hk|exact fun r h => at_rounds (aX.mono _) hk h|exact bB.le hk|exact bQ.le hk|exact aK.le hk|refine LeO.bind ?_ (fun _ => ?_)|refine LeO.fT Iff.rfl (fun _ => ?_) (fun _ => ?_))
  |exact aA.qJ hk
  |exact aA.sN hk
  |exact aA.vG hk
  |exact aA.nZ hk
  |exact aA.kH hk
  |exact aA.iY hk
  |exact aA.iT hk
  |exact fun r h => at_rounds (aX.mono _) hk h
  |exact bB.le hk
  |exact bQ.le hk
  |exact aK.le hk
  |exact LeO.refl _
  |(with_reducible first|refine LeO.pos (by assumption) ?_|refine LeO.neg (by assumption) ?_|refine LeO.jT (by assumption) ?_|refine LeO.jW (by assumption) ?_|refine LeO.fT (by omega) (fun _ => ?_) (fun _ => ?_))
  |exact LeO.swap
  |(rw [shl_small rfl (by show (_ : Int) ≤ 64; unfold mn; split <;> omega)]; exact LeO.refl _)
theorem aA.calls (k : Nat) (a0 a1 : Int) (a2 : Bool) (a3 a4 : Int) (a5 : Bool) (r1 : Int) (r2 r3 : Bool) (r4 r5 r6 : Bool) (w : World) (h : aA.f k a0 a1 a2 a3 a4 a5 = some (r1, r2, r3, r4, r5, r6)) :
  Calls Tryz.prog 97 #[.int .i64 a0, .int .i64 a1, .bool a2, .int .i64 a3, .int .u64 a4, .bool a5] w fun e w' => e = .returned (.tuple #[.int .u32 r1, .agg #[.bool r2, .bool r3, .bool r4, .bool r5, .bool r6]]) ∧ Below w.heap.size w w' :=
 Ek.iK L.aA.ok k ((a0, ()), (a1, ()), (a2, ()), (a3, ()), (a4, ()), (a5, ()), ()) (r1, r2, r3, r4, r5, r6) rfl (aA.le (Nat.le_refl _) _ h) w
attribute [local go_sem] max2_int min2_int max_two min_two max_three min_three max_four min_four
def aV.l0 : Nat → Int → Int → Int → Int → Option (Int × Bool × Bool × Bool × Bool × Bool)
 |0, _, _, _, _ => none
 |k + 1, x0, x1, x11, x12 => if x12 < 2305843009213693952 then (aV.l0 k x0 x1 (wrap64 (x11 - 1)) (IntKind.u64.wrap (x12 * 2))) else (if (Int.tmod x11 2) = 0 then ((bI.f k x12).bind fun bt714 => ((aA.f k x0 x1 false (wrap64 (Int.tdiv x11 2)) (IntKind.u64.wrap (bt714.1)) (!bt714.2)).bind fun bt716 => (some (bt716.1, bt716.2.1, bt716.2.2.1, bt716.2.2.2.1, bt716.2.2.2.2.1, bt716.2.2.2.2.2)))) else (aV.l0 k x0 x1 (wrap64 (x11 - 1)) (IntKind.u64.wrap (x12 * 2))))
def aV.f (k : Nat) (a0 a1 a2 : Int) : Option (Int × Bool × Bool × Bool × Bool × Bool) := (aG.f k a0 (([a2] : List Int))).bind fun bt702 => (if bt702.1 = true then ((dD.f a0).bind fun t704 => (some (t704, bt702.2, false, false, false, false))) else ((bA.f k a0 a2).bind fun t705 => (if t705 = true then ((bG.f a0).bind fun t706 => (some (Go.bits .and .u32 a2 t706, false, false, false, false, false))) else ((bO.f a0 a2).bind fun t707 => (if t707 = true then ((dD.f a0).bind fun t708 => (some (t708, true, false, false, false, false))) else ((bK.f k a0 a2).bind fun t709 => (if t709 = true then ((bG.f a0).bind fun t710 => (some (Go.bits .and .u32 a2 t710, false, false, false, false, false))) else ((bE.f k a0 a2).bind fun bt711 => (aV.l0 k a0 a1 bt711.2.1 bt711.2.2)))))))))
attribute [local go_sem] max2_int min2_int max_two min_two max_three min_three max_four min_four
def dV.f (k : Nat) (a0 a1 : Int) (a2 a3 : Int) : Option (Int × Bool × Bool × Bool × Bool × Bool) := (d9.f k a0 a2).bind fun bt800 => (if bt800.2.2.2.2.2.2 = true then (some (bt800.1, bt800.2.1, bt800.2.2.1, bt800.2.2.2.1, bt800.2.2.2.2.1, bt800.2.2.2.2.2.1)) else ((fJ.f a0 a2).bind fun bt808 => ((aC.f k a0 a1 bt808.1 (wrap64 (bt808.2.1 + (mn (mx a3 (-5000)) 5000))) bt808.2.2.1 false).bind fun bt813 => (some (bt813.1, bt813.2.1, bt813.2.2.1, bt813.2.2.2.1, bt813.2.2.2.2.1, bt813.2.2.2.2.2)))))
set_option maxHeartbeats 4000000 in
theorem eY.le {k n : Nat} (hk : k ≤ n) {a0 a1 a2 : Int} : LeO (eY.f k a0 a1 a2) (L.eY.f n a0 a1 a2) := by
 unfold eY.f
 rw [L.eY.eq]
 try simp only [Bool.and_true]
 repeat' first
  |(with_reducible exact LeO.refl _)
  |exact LeO.none _
  |(with_reducible first|exact fun r h => at_rounds (bH.mono _ _) hk h|exact fun r h => at_rounds (bM.mono _ _) hk h|exact fun r h => at_rounds (aW.mono _ _) hk h|exact fun r h => at_rounds (bits_Len.mono _) hk h|exact aR.le hk|exact fun r h => at_rounds (dZ.mono _) hk h|exact aC.le hk|refine LeO.bind ?_ (fun _ => ?_)|refine LeO.fT Iff.rfl (fun _ => ?_) (fun _ => ?_))
  |exact fun r h => at_rounds (bH.mono _ _) hk h
  |exact fun r h => at_rounds (bM.mono _ _) hk h
  |exact fun r h => at_rounds (aW.mono _ _) hk h
  |exact fun r h => at_rounds (bits_Len.mono _) hk h
  |exact aR.le hk
  |exact fun r h => at_rounds (dZ.mono _) hk h
  |exact aC.le hk
  |exact LeO.refl _
  |(with_reducible first|refine LeO.pos (by assumption) ?_|refine LeO.neg (by assumption) ?_|refine LeO.jT (by assumption) ?_|refine LeO.jW (by assumption) ?_|refine LeO.fT (by omega) (fun _ => ?_) (fun _ => ?_))
  |exact LeO.swap
  |(rw [shl_small rfl (by show (_ : Int) ≤ 64; unfold mn; split <;> omega)]; exact LeO.refl _)
theorem eY.calls (k : Nat) (a0 a1 : Int) (a2 r1 : Int) (r2 r3 : Bool) (r4 r5 r6 : Bool) (w : World) (h : eY.f k a0 a1 a2 = some (r1, r2, r3, r4, r5, r6)) :
  Calls Tryz.prog 101 #[.int .i64 a0, .int .i64 a1, .int .u32 a2] w fun e w' => e = .returned (.tuple #[.int .u32 r1, .agg #[.bool r2, .bool r3, .bool r4, .bool r5, .bool r6]]) ∧ Below w.heap.size w w' :=
 Ek.iK L.eY.ok k ((a0, ()), (a1, ()), (a2, ()), ()) (r1, r2, r3, r4, r5, r6) rfl (eY.le (Nat.le_refl _) _ h) w
theorem bF.kH {k n : Nat} (hk : k ≤ n) {x0 x1 : Int} {x16 x99 x337000 : Bool} {x337001 x337002 : Int} {x337003 x342000 : Bool} {x342001 x342002 : Int} {x342003 ex12 : Bool} {ex13 ex14 : Bool} {ex15 ex16 : Bool} : LeO (bF.j2 k x0 x1 x16 x99 x337000 x337001 x337002 x337003 x342000 x342001 x342002 x342003) (L.bF.j15 n x99 x16 x1 x0 x342000 x342001 x342002 x342003 x337000 x337001 x337002 x337003 ex12 ex13 ex14 ex15 ex16) := by
 cases k with
 |zero => rw [bF.j2]; exact LeO.none _
 |succ k =>
 replace hk := Nat.le_of_succ_le hk
 rw [bF.j2, L.bF.aB2]
 repeat' first
  |(with_reducible exact LeO.refl _)
  |exact LeO.none _
  |(with_reducible first|exact dS.le hk|exact fun r h => at_rounds (bH.mono _ _) hk h|exact fun r h => at_rounds (aW.mono _ _) hk h|exact aZ.le hk|exact cB.le hk|exact aU.le hk|exact aC.le hk|refine LeO.bind ?_ (fun _ => ?_)|refine LeO.fT Iff.rfl (fun _ => ?_) (fun _ => ?_))
  |exact dS.le hk
  |exact fun r h => at_rounds (bH.mono _ _) hk h
  |exact fun r h => at_rounds (aW.mono _ _) hk h
  |exact aZ.le hk
  |exact cB.le hk
  |exact aU.le hk
  |exact aC.le hk
  |exact LeO.refl _
  |(with_reducible first|refine LeO.pos (by assumption) ?_|refine LeO.neg (by assumption) ?_|refine LeO.jT (by assumption) ?_|refine LeO.jW (by assumption) ?_|refine LeO.fT (by omega) (fun _ => ?_) (fun _ => ?_))
  |exact LeO.swap
  |(rw [shl_small rfl (by show (_ : Int) ≤ 64; unfold mn; split <;> omega)]; exact LeO.refl _)
theorem bF.iY {k n : Nat} (hk : k ≤ n) {x0 x1 : Int} {x2 x3 x4 : Int} {x16 x17 : Bool} {x18 x71 : Bool} {ex9 ex10 : Bool} {ex11 ex12 ex13 : Bool} : LeO (bF.j1 k x0 x1 x2 x3 x4 x16 x17 x18 x71) (L.bF.j11 n x71 x18 x17 x16 x4 x3 x2 x1 x0 ex9 ex10 ex11 ex12 ex13) := by
 cases k with
 |zero => rw [bF.j1]; exact LeO.none _
 |succ k =>
 replace hk := Nat.le_of_succ_le hk
 rw [bF.j1, L.bF.yC]
 repeat' first
  |(with_reducible exact LeO.refl _)
  |exact LeO.none _
  |(with_reducible first|exact bF.kH hk|exact dS.le hk|exact fun r h => at_rounds (bH.mono _ _) hk h|exact fun r h => at_rounds (aW.mono _ _) hk h|exact aZ.le hk|exact cB.le hk|exact aU.le hk|exact aC.le hk|refine LeO.bind ?_ (fun _ => ?_)|refine LeO.fT Iff.rfl (fun _ => ?_) (fun _ => ?_))
  |exact bF.kH hk
  |exact dS.le hk
  |exact fun r h => at_rounds (bH.mono _ _) hk h
  |exact fun r h => at_rounds (aW.mono _ _) hk h
  |exact aZ.le hk
  |exact cB.le hk
  |exact aU.le hk
  |exact aC.le hk
  |exact LeO.refl _
  |(with_reducible first|refine LeO.pos (by assumption) ?_|refine LeO.neg (by assumption) ?_|refine LeO.jT (by assumption) ?_|refine LeO.jW (by assumption) ?_|refine LeO.fT (by omega) (fun _ => ?_) (fun _ => ?_))
  |exact LeO.swap
  |(rw [shl_small rfl (by show (_ : Int) ≤ 64; unfold mn; split <;> omega)]; exact LeO.refl _)
theorem bF.iT {k n : Nat} (hk : k ≤ n) {x0 x1 : Int} {x2 x3 x4 : Int} {x16 x17 : Bool} {x18 ex8 : Bool} {ex9 ex10 : Bool} {ex11 ex12 : Bool} : LeO (bF.j0 k x0 x1 x2 x3 x4 x16 x17 x18) (L.bF.j10 n x18 x17 x16 x4 x3 x2 x1 x0 ex8 ex9 ex10 ex11 ex12) := by
 cases k with
 |zero => rw [bF.j0]; exact LeO.none _
 |succ k =>
 replace hk := Nat.le_of_succ_le hk
 rw [bF.j0, L.bF.aC1]
 repeat' first
  |(with_reducible exact LeO.refl _)
  |exact LeO.none _
  |(with_reducible first|exact bF.kH hk|exact bF.iY hk|exact dS.le hk|exact fun r h => at_rounds (bH.mono _ _) hk h|exact fun r h => at_rounds (aW.mono _ _) hk h|exact aZ.le hk|exact cB.le hk|exact aU.le hk|exact aC.le hk|refine LeO.bind ?_ (fun _ => ?_)|refine LeO.fT Iff.rfl (fun _ => ?_) (fun _ => ?_))
  |exact bF.kH hk
  |exact bF.iY hk
  |exact dS.le hk
  |exact fun r h => at_rounds (bH.mono _ _) hk h
  |exact fun r h => at_rounds (aW.mono _ _) hk h
  |exact aZ.le hk
  |exact cB.le hk
  |exact aU.le hk
  |exact aC.le hk
  |exact LeO.refl _
  |(with_reducible first|refine LeO.pos (by assumption) ?_|refine LeO.neg (by assumption) ?_|refine LeO.jT (by assumption) ?_|refine LeO.jW (by assumption) ?_|refine LeO.fT (by omega) (fun _ => ?_) (fun _ => ?_))
  |exact LeO.swap
  |(rw [shl_small rfl (by show (_ : Int) ≤ 64; unfold mn; split <;> omega)]; exact LeO.refl _)
set_option maxHeartbeats 4000000 in
theorem bF.le {k n : Nat} (hk : k ≤ n) {a0 a1 : Int} {a2 a3 a4 : Int} : LeO (bF.f k a0 a1 a2 a3 a4) (L.bF.f n a0 a1 a2 a3 a4) := by
 unfold bF.f
 rw [L.bF.eq]
 try simp only [Bool.and_true]
 repeat' first
  |(with_reducible exact LeO.refl _)
  |exact LeO.none _
  |(with_reducible first|exact bF.kH hk|exact bF.iY hk|exact bF.iT hk|exact dS.le hk|exact fun r h => at_rounds (bH.mono _ _) hk h|exact fun r h => at_rounds (aW.mono _ _) hk h|exact aZ.le hk|exact cB.le hk|exact aU.le hk|exact aC.le hk|refine LeO.bind ?_ (fun _ => ?_)|refine LeO.fT Iff.rfl (fun _ => ?_) (fun _ => ?_))
  |exact bF.kH hk
  |exact bF.iY hk
  |exact bF.iT hk
  |exact dS.le hk
  |exact fun r h => at_rounds (bH.mono _ _) hk h
  |exact fun r h => at_rounds (aW.mono _ _) hk h
  |exact aZ.le hk
  |exact cB.le hk
  |exact aU.le hk
  |exact aC.le hk
  |exact LeO.refl _
  |(with_reducible first|refine LeO.pos (by assumption) ?_|refine LeO.neg (by assumption) ?_|refine LeO.jT (by assumption) ?_|refine LeO.jW (by assumption) ?_|refine LeO.fT (by omega) (fun _ => ?_) (fun _ => ?_))
  |exact LeO.swap
  |(rw [shl_small rfl (by show (_ : Int) ≤ 64; unfold mn; split <;> omega)]; exact LeO.refl _)
theorem bF.calls (k : Nat) (a0 a1 : Int) (a2 a3 : Int) (a4 r1 : Int) (r2 r3 : Bool) (r4 r5 r6 : Bool) (w : World) (h : bF.f k a0 a1 a2 a3 a4 = some (r1, r2, r3, r4, r5, r6)) :
  Calls Tryz.prog 131 #[.int .i64 a0, .int .i64 a1, .int .u32 a2, .int .u32 a3, .int .u32 a4] w fun e w' => e = .returned (.tuple #[.int .u32 r1, .agg #[.bool r2, .bool r3, .bool r4, .bool r5, .bool r6]]) ∧ Below w.heap.size w w' :=
 Ek.iK L.bF.ok k ((a0, ()), (a1, ()), (a2, ()), (a3, ()), (a4, ()), ()) (r1, r2, r3, r4, r5, r6) rfl (bF.le (Nat.le_refl _) _ h) w
theorem bW.iY {k n : Nat} (hk : k ≤ n) {x0 x1 : Int} {x2 x3 : Int} {x13 : Bool} {x15 : Int} {x69 ex7 : Bool} {ex8 ex9 : Bool} {ex10 ex11 : Bool} : LeO (bW.j1 k x0 x1 x2 x3 x13 x15 x69) (L.bW.j11 n x69 x15 x13 x3 x2 x1 x0 ex7 ex8 ex9 ex10 ex11) := by
 cases k with
 |zero => rw [bW.j1]; exact LeO.none _
 |succ k =>
 replace hk := Nat.le_of_succ_le hk
 rw [bW.j1, L.bW.yC]
 repeat' first
  |(with_reducible exact LeO.refl _)
  |exact LeO.none _
  |(with_reducible first|exact fun r h => at_rounds (bH.mono _ _) hk h|exact fun r h => at_rounds (aY.mono _ _) hk h|exact fun r h => at_rounds (bits_Len.mono _) hk h|exact aR.le hk|exact aC.le hk|refine LeO.bind ?_ (fun _ => ?_)|refine LeO.fT Iff.rfl (fun _ => ?_) (fun _ => ?_))
  |exact fun r h => at_rounds (bH.mono _ _) hk h
  |exact fun r h => at_rounds (aY.mono _ _) hk h
  |exact fun r h => at_rounds (bits_Len.mono _) hk h
  |exact aR.le hk
  |exact aC.le hk
  |exact LeO.refl _
  |(with_reducible first|refine LeO.pos (by assumption) ?_|refine LeO.neg (by assumption) ?_|refine LeO.jT (by assumption) ?_|refine LeO.jW (by assumption) ?_|refine LeO.fT (by omega) (fun _ => ?_) (fun _ => ?_))
  |exact LeO.swap
  |(rw [shl_small rfl (by show (_ : Int) ≤ 64; unfold mn; split <;> omega)]; exact LeO.refl _)
theorem bW.iT {k n : Nat} (hk : k ≤ n) {x0 x1 : Int} {x2 x3 : Int} {x13 : Bool} {x14 x15 : Int} {x46 ex8 : Bool} {ex9 ex10 : Bool} {ex11 ex12 : Bool} : LeO (bW.j0 k x0 x1 x2 x3 x13 x14 x15 x46) (L.bW.j7 n x46 x15 x14 x13 x3 x2 x1 x0 ex8 ex9 ex10 ex11 ex12) := by
 cases k with
 |zero => rw [bW.j0]; exact LeO.none _
 |succ k =>
 replace hk := Nat.le_of_succ_le hk
 rw [bW.j0, L.bW.j7_eq]
 repeat' first
  |(with_reducible exact LeO.refl _)
  |exact LeO.none _
  |(with_reducible first|exact bW.iY hk|exact fun r h => at_rounds (bH.mono _ _) hk h|exact fun r h => at_rounds (aY.mono _ _) hk h|exact fun r h => at_rounds (bits_Len.mono _) hk h|exact aR.le hk|exact aC.le hk|refine LeO.bind ?_ (fun _ => ?_)|refine LeO.fT Iff.rfl (fun _ => ?_) (fun _ => ?_))
  |exact bW.iY hk
  |exact fun r h => at_rounds (bH.mono _ _) hk h
  |exact fun r h => at_rounds (aY.mono _ _) hk h
  |exact fun r h => at_rounds (bits_Len.mono _) hk h
  |exact aR.le hk
  |exact aC.le hk
  |exact LeO.refl _
  |(with_reducible first|refine LeO.pos (by assumption) ?_|refine LeO.neg (by assumption) ?_|refine LeO.jT (by assumption) ?_|refine LeO.jW (by assumption) ?_|refine LeO.fT (by omega) (fun _ => ?_) (fun _ => ?_))
  |exact LeO.swap
  |(rw [shl_small rfl (by show (_ : Int) ≤ 64; unfold mn; split <;> omega)]; exact LeO.refl _)
set_option maxHeartbeats 4000000 in
theorem bW.le {k n : Nat} (hk : k ≤ n) {a0 a1 : Int} {a2 a3 : Int} : LeO (bW.f k a0 a1 a2 a3) (L.bW.f n a0 a1 a2 a3) := by
 unfold bW.f
 rw [L.bW.eq]
 try simp only [Bool.and_true]
 repeat' first
  |(with_reducible exact LeO.refl _)
  |exact LeO.none _
  |(with_reducible first|exact bW.iY hk|exact bW.iT hk|exact fun r h => at_rounds (bH.mono _ _) hk h|exact fun r h => at_rounds (aY.mono _ _) hk h|exact fun r h => at_rounds (bits_Len.mono _) hk h|exact aR.le hk|exact aC.le hk|refine LeO.bind ?_ (fun _ => ?_)|refine LeO.fT Iff.rfl (fun _ => ?_) (fun _ => ?_))
  |exact bW.iY hk
  |exact bW.iT hk
  |exact fun r h => at_rounds (bH.mono _ _) hk h
  |exact fun r h => at_rounds (aY.mono _ _) hk h
  |exact fun r h => at_rounds (bits_Len.mono _) hk h
  |exact aR.le hk
  |exact aC.le hk
  |exact LeO.refl _
  |(with_reducible first|refine LeO.pos (by assumption) ?_|refine LeO.neg (by assumption) ?_|refine LeO.jT (by assumption) ?_|refine LeO.jW (by assumption) ?_|refine LeO.fT (by omega) (fun _ => ?_) (fun _ => ?_))
  |exact LeO.swap
  |(rw [shl_small rfl (by show (_ : Int) ≤ 64; unfold mn; split <;> omega)]; exact LeO.refl _)
theorem bW.calls (k : Nat) (a0 a1 : Int) (a2 a3 r1 : Int) (r2 r3 : Bool) (r4 r5 r6 : Bool) (w : World) (h : bW.f k a0 a1 a2 a3 = some (r1, r2, r3, r4, r5, r6)) :
  Calls Tryz.prog 102 #[.int .i64 a0, .int .i64 a1, .int .u32 a2, .int .u32 a3] w fun e w' => e = .returned (.tuple #[.int .u32 r1, .agg #[.bool r2, .bool r3, .bool r4, .bool r5, .bool r6]]) ∧ Below w.heap.size w w' :=
 Ek.iK L.bW.ok k ((a0, ()), (a1, ()), (a2, ()), (a3, ()), ()) (r1, r2, r3, r4, r5, r6) rfl (bW.le (Nat.le_refl _) _ h) w
theorem dR.iT {k n : Nat} (hk : k ≤ n) {x0 x1 : Int} {x2 x3 : Int} {x13 x49 : Bool} {ex6 ex7 : Bool} {ex8 ex9 ex10 : Bool} : LeO (dR.j0 k x0 x1 x2 x3 x13 x49) (L.dR.j8 n x49 x13 x3 x2 x1 x0 ex6 ex7 ex8 ex9 ex10) := by
 cases k with
 |zero => rw [dR.j0]; exact LeO.none _
 |succ k =>
 replace hk := Nat.le_of_succ_le hk
 rw [dR.j0, L.dR.j8_eq]
 repeat' first
  |(with_reducible exact LeO.refl _)
  |exact LeO.none _
  |(with_reducible first|exact fun r h => at_rounds (bH.mono _ _) hk h|exact dS.le hk|exact fun r h => at_rounds (aW.mono _ _) hk h|exact cB.le hk|exact aC.le hk|refine LeO.bind ?_ (fun _ => ?_)|refine LeO.fT Iff.rfl (fun _ => ?_) (fun _ => ?_))
  |exact fun r h => at_rounds (bH.mono _ _) hk h
  |exact dS.le hk
  |exact fun r h => at_rounds (aW.mono _ _) hk h
  |exact cB.le hk
  |exact aC.le hk
  |exact LeO.refl _
  |(with_reducible first|refine LeO.pos (by assumption) ?_|refine LeO.neg (by assumption) ?_|refine LeO.jT (by assumption) ?_|refine LeO.jW (by assumption) ?_|refine LeO.fT (by omega) (fun _ => ?_) (fun _ => ?_))
  |exact LeO.swap
  |(rw [shl_small rfl (by show (_ : Int) ≤ 64; unfold mn; split <;> omega)]; exact LeO.refl _)
set_option maxHeartbeats 4000000 in
theorem dR.le {k n : Nat} (hk : k ≤ n) {a0 a1 : Int} {a2 a3 : Int} : LeO (dR.f k a0 a1 a2 a3) (L.dR.f n a0 a1 a2 a3) := by
 unfold dR.f
 rw [L.dR.eq]
 try simp only [Bool.and_true]
 repeat' first
  |(with_reducible exact LeO.refl _)
  |exact LeO.none _
  |(with_reducible first|exact dR.iT hk|exact fun r h => at_rounds (bH.mono _ _) hk h|exact dS.le hk|exact fun r h => at_rounds (aW.mono _ _) hk h|exact cB.le hk|exact aC.le hk|refine LeO.bind ?_ (fun _ => ?_)|refine LeO.fT Iff.rfl (fun _ => ?_) (fun _ => ?_))
  |exact dR.iT hk
  |exact fun r h => at_rounds (bH.mono _ _) hk h
  |exact dS.le hk
  |exact fun r h => at_rounds (aW.mono _ _) hk h
  |exact cB.le hk
  |exact aC.le hk
  |exact LeO.refl _
  |(with_reducible first|refine LeO.pos (by assumption) ?_|refine LeO.neg (by assumption) ?_|refine LeO.jT (by assumption) ?_|refine LeO.jW (by assumption) ?_|refine LeO.fT (by omega) (fun _ => ?_) (fun _ => ?_))
  |exact LeO.swap
  |(rw [shl_small rfl (by show (_ : Int) ≤ 64; unfold mn; split <;> omega)]; exact LeO.refl _)
theorem dR.calls (k : Nat) (a0 a1 : Int) (a2 a3 r1 : Int) (r2 r3 : Bool) (r4 r5 r6 : Bool) (w : World) (h : dR.f k a0 a1 a2 a3 = some (r1, r2, r3, r4, r5, r6)) :
  Calls Tryz.prog 106 #[.int .i64 a0, .int .i64 a1, .int .u32 a2, .int .u32 a3] w fun e w' => e = .returned (.tuple #[.int .u32 r1, .agg #[.bool r2, .bool r3, .bool r4, .bool r5, .bool r6]]) ∧ Below w.heap.size w w' :=
 Ek.iK L.dR.ok k ((a0, ()), (a1, ()), (a2, ()), (a3, ()), ()) (r1, r2, r3, r4, r5, r6) rfl (dR.le (Nat.le_refl _) _ h) w
theorem aV.aDl {k m n : Nat} (hm : k ≤ m) (hk : k ≤ n) {x0 x1 : Int} {x11 x12 : Int} {ex4 ex5 : Bool} {ex6 ex7 ex8 : Bool} : LeO (aV.l0 k x0 x1 x11 x12) (L.aV.l11 m n x12 x11 x1 x0 ex4 ex5 ex6 ex7 ex8) := by
 induction k generalizing m x0 x1 x11 x12 with
 |zero => rw [aV.l0]; exact LeO.none _
 |succ k ih =>
 obtain ⟨m, rfl⟩ : ∃ q, m = q + 1 := ⟨m - 1, by omega⟩
 replace hm := Nat.le_of_succ_le_succ hm
 replace hk := Nat.le_of_succ_le hk
 rw [aV.l0, L.aV.l11_eq]
 repeat' first
  |(with_reducible exact LeO.refl _)
  |exact LeO.none _
  |(with_reducible first|exact ih hm hk|exact fun r h => at_rounds (aG.mono _ _) hk h|exact fun r h => at_rounds (bA.mono _ _) hk h|exact fun r h => at_rounds (bK.mono _ _) hk h|exact fun r h => at_rounds (bE.mono _ _) hk h|exact fun r h => at_rounds (bI.mono _) hk h|exact aA.le hk|refine LeO.bind ?_ (fun _ => ?_)|refine LeO.fT Iff.rfl (fun _ => ?_) (fun _ => ?_))
  |exact ih hm hk
  |exact fun r h => at_rounds (aG.mono _ _) hk h
  |exact fun r h => at_rounds (bA.mono _ _) hk h
  |exact fun r h => at_rounds (bK.mono _ _) hk h
  |exact fun r h => at_rounds (bE.mono _ _) hk h
  |exact fun r h => at_rounds (bI.mono _) hk h
  |exact aA.le hk
  |exact LeO.refl _
  |(with_reducible first|refine LeO.pos (by assumption) ?_|refine LeO.neg (by assumption) ?_|refine LeO.jT (by assumption) ?_|refine LeO.jW (by assumption) ?_|refine LeO.fT (by omega) (fun _ => ?_) (fun _ => ?_))
  |exact LeO.swap
  |(rw [shl_small rfl (by show (_ : Int) ≤ 64; unfold mn; split <;> omega)]; exact LeO.refl _)
set_option maxHeartbeats 4000000 in
theorem aV.le {k n : Nat} (hk : k ≤ n) {a0 a1 a2 : Int} : LeO (aV.f k a0 a1 a2) (L.aV.f n a0 a1 a2) := by
 unfold aV.f
 rw [L.aV.eq]
 try simp only [Bool.and_true]
 repeat' first
  |(with_reducible exact LeO.refl _)
  |exact LeO.none _
  |(with_reducible first|exact aV.aDl hk hk|exact fun r h => at_rounds (aG.mono _ _) hk h|exact fun r h => at_rounds (bA.mono _ _) hk h|exact fun r h => at_rounds (bK.mono _ _) hk h|exact fun r h => at_rounds (bE.mono _ _) hk h|exact fun r h => at_rounds (bI.mono _) hk h|exact aA.le hk|refine LeO.bind ?_ (fun _ => ?_)|refine LeO.fT Iff.rfl (fun _ => ?_) (fun _ => ?_))
  |exact aV.aDl hk hk
  |exact fun r h => at_rounds (aG.mono _ _) hk h
  |exact fun r h => at_rounds (bA.mono _ _) hk h
  |exact fun r h => at_rounds (bK.mono _ _) hk h
  |exact fun r h => at_rounds (bE.mono _ _) hk h
  |exact fun r h => at_rounds (bI.mono _) hk h
  |exact aA.le hk
  |exact LeO.refl _
  |(with_reducible first|refine LeO.pos (by assumption) ?_|refine LeO.neg (by assumption) ?_|refine LeO.jT (by assumption) ?_|refine LeO.jW (by assumption) ?_|refine LeO.fT (by omega) (fun _ => ?_) (fun _ => ?_))
  |exact LeO.swap
  |(rw [shl_small rfl (by show (_ : Int) ≤ 64; unfold mn; split <;> omega)]; exact LeO.refl _)
theorem aV.calls (k : Nat) (a0 a1 : Int) (a2 r1 : Int) (r2 r3 : Bool) (r4 r5 r6 : Bool) (w : World) (h : aV.f k a0 a1 a2 = some (r1, r2, r3, r4, r5, r6)) :
  Calls Tryz.prog 36 #[.int .i64 a0, .int .i64 a1, .int .u32 a2] w fun e w' => e = .returned (.tuple #[.int .u32 r1, .agg #[.bool r2, .bool r3, .bool r4, .bool r5, .bool r6]]) ∧ Below w.heap.size w w' :=
 Ek.iK L.aV.ok k ((a0, ()), (a1, ()), (a2, ()), ()) (r1, r2, r3, r4, r5, r6) rfl (aV.le (Nat.le_refl _) _ h) w
set_option maxHeartbeats 4000000 in
theorem dV.le {k n : Nat} (hk : k ≤ n) {a0 a1 : Int} {a2 a3 : Int} : LeO (dV.f k a0 a1 a2 a3) (L.dV.f n a0 a1 a2 a3) := by
 unfold dV.f
 rw [L.dV.eq]
 try simp only [Bool.and_true]
 repeat' first
  |(with_reducible exact LeO.refl _)
  |exact LeO.none _
  |(with_reducible first|exact d9.le hk|exact aC.le hk|refine LeO.bind ?_ (fun _ => ?_)|refine LeO.fT Iff.rfl (fun _ => ?_) (fun _ => ?_))
  |exact d9.le hk
  |exact aC.le hk
  |exact LeO.refl _
  |(with_reducible first|refine LeO.pos (by assumption) ?_|refine LeO.neg (by assumption) ?_|refine LeO.jT (by assumption) ?_|refine LeO.jW (by assumption) ?_|refine LeO.fT (by omega) (fun _ => ?_) (fun _ => ?_))
  |exact LeO.swap
  |(rw [shl_small rfl (by show (_ : Int) ≤ 64; unfold mn; split <;> omega)]; exact LeO.refl _)
theorem dV.calls (k : Nat) (a0 a1 : Int) (a2 a3 r1 : Int) (r2 r3 : Bool) (r4 r5 r6 : Bool) (w : World) (h : dV.f k a0 a1 a2 a3 = some (r1, r2, r3, r4, r5, r6)) :
  Calls Tryz.prog 118 #[.int .i64 a0, .int .i64 a1, .int .u32 a2, .int .i64 a3] w fun e w' => e = .returned (.tuple #[.int .u32 r1, .agg #[.bool r2, .bool r3, .bool r4, .bool r5, .bool r6]]) ∧ Below w.heap.size w w' :=
 Ek.iK L.dV.ok k ((a0, ()), (a1, ()), (a2, ()), (a3, ()), ()) (r1, r2, r3, r4, r5, r6) rfl (dV.le (Nat.le_refl _) _ h) w
theorem dJ.iY {k n : Nat} (hk : k ≤ n) {x0 x1 : Int} {x68 x859000 : Bool} {x859001 x859002 : Int} {x859003 x860000 : Bool} {x860001 x860002 : Int} {x860003 x865000 : Bool} {x865001 x865002 : Int} {x865003 ex15 : Bool} {ex16 ex17 : Bool} {ex18 ex19 : Bool} : LeO (dJ.j1 k x0 x1 x68 x859000 x859001 x859002 x859003 x860000 x860001 x860002 x860003 x865000 x865001 x865002 x865003) (L.dJ.j10 n x68 x1 x0 x865000 x865001 x865002 x865003 x860000 x860001 x860002 x860003 x859000 x859001 x859002 x859003 ex15 ex16 ex17 ex18 ex19) := by
 cases k with
 |zero => rw [dJ.j1]; exact LeO.none _
 |succ k =>
 replace hk := Nat.le_of_succ_le hk
 rw [dJ.j1, L.dJ.aC1]
 repeat' first
  |(with_reducible exact LeO.refl _)
  |exact LeO.none _
  |(with_reducible first|exact fun r h => at_rounds (bH.mono _ _) hk h|exact fun r h => at_rounds (aW.mono _ _) hk h|exact aZ.le hk|exact aU.le hk|exact aC.le hk|refine LeO.bind ?_ (fun _ => ?_)|refine LeO.fT Iff.rfl (fun _ => ?_) (fun _ => ?_))
  |exact fun r h => at_rounds (bH.mono _ _) hk h
  |exact fun r h => at_rounds (aW.mono _ _) hk h
  |exact aZ.le hk
  |exact aU.le hk
  |exact aC.le hk
  |exact LeO.refl _
  |(with_reducible first|refine LeO.pos (by assumption) ?_|refine LeO.neg (by assumption) ?_|refine LeO.jT (by assumption) ?_|refine LeO.jW (by assumption) ?_|refine LeO.fT (by omega) (fun _ => ?_) (fun _ => ?_))
  |exact LeO.swap
  |(rw [shl_small rfl (by show (_ : Int) ≤ 64; unfold mn; split <;> omega)]; exact LeO.refl _)
theorem dJ.iT {k n : Nat} (hk : k ≤ n) {x0 x1 : Int} {x2 x3 : Int} {x13 x14 : Bool} {x39 ex7 : Bool} {ex8 ex9 : Bool} {ex10 ex11 : Bool} : LeO (dJ.j0 k x0 x1 x2 x3 x13 x14 x39) (L.dJ.j6 n x39 x14 x13 x3 x2 x1 x0 ex7 ex8 ex9 ex10 ex11) := by
 cases k with
 |zero => rw [dJ.j0]; exact LeO.none _
 |succ k =>
 replace hk := Nat.le_of_succ_le hk
 rw [dJ.j0, L.dJ.j6_eq]
 repeat' first
  |(with_reducible exact LeO.refl _)
  |exact LeO.none _
  |(with_reducible first|exact dJ.iY hk|exact fun r h => at_rounds (bH.mono _ _) hk h|exact fun r h => at_rounds (aW.mono _ _) hk h|exact aZ.le hk|exact aU.le hk|exact aC.le hk|refine LeO.bind ?_ (fun _ => ?_)|refine LeO.fT Iff.rfl (fun _ => ?_) (fun _ => ?_))
  |exact dJ.iY hk
  |exact fun r h => at_rounds (bH.mono _ _) hk h
  |exact fun r h => at_rounds (aW.mono _ _) hk h
  |exact aZ.le hk
  |exact aU.le hk
  |exact aC.le hk
  |exact LeO.refl _
  |(with_reducible first|refine LeO.pos (by assumption) ?_|refine LeO.neg (by assumption) ?_|refine LeO.jT (by assumption) ?_|refine LeO.jW (by assumption) ?_|refine LeO.fT (by omega) (fun _ => ?_) (fun _ => ?_))
  |exact LeO.swap
  |(rw [shl_small rfl (by show (_ : Int) ≤ 64; unfold mn; split <;> omega)]; exact LeO.refl _)
set_option maxHeartbeats 4000000 in
theorem dJ.le {k n : Nat} (hk : k ≤ n) {a0 a1 : Int} {a2 a3 : Int} : LeO (dJ.f k a0 a1 a2 a3) (L.dJ.f n a0 a1 a2 a3) := by
 unfold dJ.f
 rw [L.dJ.eq]
 try simp only [Bool.and_true]
 repeat' first
  |(with_reducible exact LeO.refl _)
  |exact LeO.none _
  |(with_reducible first|exact dJ.iY hk|exact dJ.iT hk|exact fun r h => at_rounds (bH.mono _ _) hk h|exact fun r h => at_rounds (aW.mono _ _) hk h|exact aZ.le hk|exact aU.le hk|exact aC.le hk|refine LeO.bind ?_ (fun _ => ?_)|refine LeO.fT Iff.rfl (fun _ => ?_) (fun _ => ?_))
  |exact dJ.iY hk
  |exact dJ.iT hk
  |exact fun r h => at_rounds (bH.mono _ _) hk h
  |exact fun r h => at_rounds (aW.mono _ _) hk h
  |exact aZ.le hk
  |exact aU.le hk
  |exact aC.le hk
  |exact LeO.refl _
  |(with_reducible first|refine LeO.pos (by assumption) ?_|refine LeO.neg (by assumption) ?_|refine LeO.jT (by assumption) ?_|refine LeO.jW (by assumption) ?_|refine LeO.fT (by omega) (fun _ => ?_) (fun _ => ?_))
  |exact LeO.swap
  |(rw [shl_small rfl (by show (_ : Int) ≤ 64; unfold mn; split <;> omega)]; exact LeO.refl _)
theorem dJ.calls (k : Nat) (a0 a1 : Int) (a2 a3 r1 : Int) (r2 r3 : Bool) (r4 r5 r6 : Bool) (w : World) (h : dJ.f k a0 a1 a2 a3 = some (r1, r2, r3, r4, r5, r6)) :
  Calls Tryz.prog 108 #[.int .i64 a0, .int .i64 a1, .int .u32 a2, .int .u32 a3] w fun e w' => e = .returned (.tuple #[.int .u32 r1, .agg #[.bool r2, .bool r3, .bool r4, .bool r5, .bool r6]]) ∧ Below w.heap.size w w' :=
 Ek.iK L.dJ.ok k ((a0, ()), (a1, ()), (a2, ()), (a3, ()), ()) (r1, r2, r3, r4, r5, r6) rfl (dJ.le (Nat.le_refl _) _ h) w
attribute [local go_sem] max2_int min2_int max_two min_two max_three min_three max_four min_four
def lL.f (k : Nat) (a0 : Int) : Option (Int) := (eY.f k 2 0 a0).bind fun bt239 => (some bt239.1)
theorem lL.calls (k : Nat) (a0 r : Int) (w : World) (h : lL.f k a0 = some r) :
  Calls Tryz.prog 40 #[.int .u32 a0] w fun e w' => e = .returned (.int .u32 r) ∧ Below w.heap.size w w' := by
 have hu62 := Tryz.underlying62
 have HB := Aside0.mk (Below.refl w.heap.size w)
 have H : ((eY.f k 2 0 a0).bind fun bt239 => (some bt239.1)) = some r := h
 clear h
 replace H := bq_ H
 obtain ⟨⟨t239, t240, t241, t242, t243, t244⟩, A20, H⟩ := H
 replace H : (some t239) = some r := H
 have A2 := Aside0.mk A20
 clear A20
 obtain rfl := Option.some.inj H
 go_enter Tryz.func40, Tryz.ntmps40
 go_wp2_with (first | ((with_reducible refine gate_callee (f := 101) rfl ?_); refine goesL_ (some 7) rfl rfl Tryz.func101 kr rfl #[.int .i64 2, .int .i64 0, .int .u32 a0] rfl gl ?_; (with_reducible refine (eY.calls k 2 0 a0 t239 t240 t241 t242 t243 t244 _ A2.out).mono ?_); rintro e w3 ⟨rfl, hb⟩; refine ⟨_, rfl, ?_⟩; have n0_ := Aside0.mk (below_step (bl0 HB.out) hb); clear HB; have HB := n0_; clear n0_) | ((with_reducible refine gate_dst (N := 4) rfl ?_); refine box_event ?hg (N := 4) ?hd (cs := F5) (t := 62) ?hr ?_; (case hd => rfl); (case hg => rfl); (case hr => first | (go_simp; done) | (go_simp; rfl)); intro gb245 hg w4 hbox hb; have n0_ := Aside0.mk (below_step (bl0 HB.out) hb); have n1_ := Aside0.mk (hbox); have n2_ := Aside0.mk ((by rw [hg]; exact (below_size (bl0 HB.out)) : w.heap.size ≤ gb245)); have n3_ := n2_; clear HB; have HB := n0_; have BK245 := n1_; have GW245 := n2_; have GE245 := n3_; clear n0_ n1_ n2_ n3_; clear hb hbox hg; obtain ⟨hcz5_0, hcz5_1, hcz5_2, hcz5_3, hcz5_4⟩ := bc5 BK245.out; obtain ⟨hfz5_0, hfz5_1, hfz5_2, hfz5_3, hfz5_4⟩ := bf5 BK245.out))
 go_ret
 exact ⟨by first | rfl | (simp [eG, eO] <;> rfl) | (simp [*, eG, eO] <;> rfl), bl1 HB.out GE245.out⟩
attribute [local go_sem] max2_int min2_int max_two min_two max_three min_three max_four min_four
def mU.f (k : Nat) (a0 a1 a2 : Int) : Option (Int) := (bF.f k 2 0 a0 a1 a2).bind fun bt349 => (some bt349.1)
theorem mU.calls (k : Nat) (a0 a1 : Int) (a2 r : Int) (w : World) (h : mU.f k a0 a1 a2 = some r) :
  Calls Tryz.prog 95 #[.int .u32 a0, .int .u32 a1, .int .u32 a2] w fun e w' => e = .returned (.int .u32 r) ∧ Below w.heap.size w w' := by
 have hu62 := Tryz.underlying62
 have HB := Aside0.mk (Below.refl w.heap.size w)
 have H : ((bF.f k 2 0 a0 a1 a2).bind fun bt349 => (some bt349.1)) = some r := h
 clear h
 replace H := bq_ H
 obtain ⟨⟨t349, t350, t351, t352, t353, t354⟩, A40, H⟩ := H
 replace H : (some t349) = some r := H
 have A4 := Aside0.mk A40
 clear A40
 obtain rfl := Option.some.inj H
 go_enter Tryz.func95, Tryz.ntmps95
 go_wp2_with (first | ((with_reducible refine gate_callee (f := 131) rfl ?_); refine goesL_ (some 13) rfl rfl Tryz.func131 kr rfl #[.int .i64 2, .int .i64 0, .int .u32 a0, .int .u32 a1, .int .u32 a2] rfl gl ?_; (with_reducible refine (bF.calls k 2 0 a0 a1 a2 t349 t350 t351 t352 t353 t354 _ A4.out).mono ?_); rintro e w5 ⟨rfl, hb⟩; refine ⟨_, rfl, ?_⟩; have n0_ := Aside0.mk (below_step (bl0 HB.out) hb); clear HB; have HB := n0_; clear n0_) | ((with_reducible refine gate_dst (N := 8) rfl ?_); refine box_event ?hg (N := 8) ?hd (cs := F5) (t := 62) ?hr ?_; (case hd => rfl); (case hg => rfl); (case hr => first | (go_simp; done) | (go_simp; rfl)); intro gb355 hg w6 hbox hb; have n0_ := Aside0.mk (below_step (bl0 HB.out) hb); have n1_ := Aside0.mk (hbox); have n2_ := Aside0.mk ((by rw [hg]; exact (below_size (bl0 HB.out)) : w.heap.size ≤ gb355)); have n3_ := n2_; clear HB; have HB := n0_; have BK355 := n1_; have GW355 := n2_; have GE355 := n3_; clear n0_ n1_ n2_ n3_; clear hb hbox hg; obtain ⟨hcz7_0, hcz7_1, hcz7_2, hcz7_3, hcz7_4⟩ := bc5 BK355.out; obtain ⟨hfz7_0, hfz7_1, hfz7_2, hfz7_3, hfz7_4⟩ := bf5 BK355.out))
 go_ret
 exact ⟨by first | rfl | (simp [eG, eO] <;> rfl) | (simp [*, eG, eO] <;> rfl), bl1 HB.out GE355.out⟩
attribute [local go_sem] max2_int min2_int max_two min_two max_three min_three max_four min_four
def nE.f (k : Nat) (a0 a1 : Int) : Option (Int) := (bW.f k 2 0 a0 a1).bind fun bt413 => (some bt413.1)
theorem nE.calls (k : Nat) (a0 a1 r : Int) (w : World) (h : nE.f k a0 a1 = some r) :
  Calls Tryz.prog 41 #[.int .u32 a0, .int .u32 a1] w fun e w' => e = .returned (.int .u32 r) ∧ Below w.heap.size w w' := by
 have hu62 := Tryz.underlying62
 have HB := Aside0.mk (Below.refl w.heap.size w)
 have H : ((bW.f k 2 0 a0 a1).bind fun bt413 => (some bt413.1)) = some r := h
 clear h
 replace H := bq_ H
 obtain ⟨⟨t413, t414, t415, t416, t417, t418⟩, A30, H⟩ := H
 replace H : (some t413) = some r := H
 have A3 := Aside0.mk A30
 clear A30
 obtain rfl := Option.some.inj H
 go_enter Tryz.func41, Tryz.ntmps41
 go_wp2_with (first | ((with_reducible refine gate_callee (f := 102) rfl ?_); refine goesL_ (some 10) rfl rfl Tryz.func102 kr rfl #[.int .i64 2, .int .i64 0, .int .u32 a0, .int .u32 a1] rfl gl ?_; (with_reducible refine (bW.calls k 2 0 a0 a1 t413 t414 t415 t416 t417 t418 _ A3.out).mono ?_); rintro e w4 ⟨rfl, hb⟩; refine ⟨_, rfl, ?_⟩; have n0_ := Aside0.mk (below_step (bl0 HB.out) hb); clear HB; have HB := n0_; clear n0_) | ((with_reducible refine gate_dst (N := 6) rfl ?_); refine box_event ?hg (N := 6) ?hd (cs := F5) (t := 62) ?hr ?_; (case hd => rfl); (case hg => rfl); (case hr => first | (go_simp; done) | (go_simp; rfl)); intro gb419 hg w5 hbox hb; have n0_ := Aside0.mk (below_step (bl0 HB.out) hb); have n1_ := Aside0.mk (hbox); have n2_ := Aside0.mk ((by rw [hg]; exact (below_size (bl0 HB.out)) : w.heap.size ≤ gb419)); have n3_ := n2_; clear HB; have HB := n0_; have BK419 := n1_; have GW419 := n2_; have GE419 := n3_; clear n0_ n1_ n2_ n3_; clear hb hbox hg; obtain ⟨hcz6_0, hcz6_1, hcz6_2, hcz6_3, hcz6_4⟩ := bc5 BK419.out; obtain ⟨hfz6_0, hfz6_1, hfz6_2, hfz6_3, hfz6_4⟩ := bf5 BK419.out))
 go_ret
 exact ⟨by first | rfl | (simp [eG, eO] <;> rfl) | (simp [*, eG, eO] <;> rfl), bl1 HB.out GE419.out⟩
attribute [local go_sem] max2_int min2_int max_two min_two max_three min_three max_four min_four
def nD.f (k : Nat) (a0 a1 : Int) : Option (Int) := (dR.f k 2 0 a0 a1).bind fun bt477 => (some bt477.1)
theorem nD.calls (k : Nat) (a0 a1 r : Int) (w : World) (h : nD.f k a0 a1 = some r) :
  Calls Tryz.prog 47 #[.int .u32 a0, .int .u32 a1] w fun e w' => e = .returned (.int .u32 r) ∧ Below w.heap.size w w' := by
 have hu62 := Tryz.underlying62
 have HB := Aside0.mk (Below.refl w.heap.size w)
 have H : ((dR.f k 2 0 a0 a1).bind fun bt477 => (some bt477.1)) = some r := h
 clear h
 replace H := bq_ H
 obtain ⟨⟨t477, t478, t479, t480, t481, t482⟩, A30, H⟩ := H
 replace H : (some t477) = some r := H
 have A3 := Aside0.mk A30
 clear A30
 obtain rfl := Option.some.inj H
 go_enter Tryz.func47, Tryz.ntmps47
 go_wp2_with (first | ((with_reducible refine gate_callee (f := 106) rfl ?_); refine goesL_ (some 10) rfl rfl Tryz.func106 kr rfl #[.int .i64 2, .int .i64 0, .int .u32 a0, .int .u32 a1] rfl gl ?_; (with_reducible refine (dR.calls k 2 0 a0 a1 t477 t478 t479 t480 t481 t482 _ A3.out).mono ?_); rintro e w4 ⟨rfl, hb⟩; refine ⟨_, rfl, ?_⟩; have n0_ := Aside0.mk (below_step (bl0 HB.out) hb); clear HB; have HB := n0_; clear n0_) | ((with_reducible refine gate_dst (N := 6) rfl ?_); refine box_event ?hg (N := 6) ?hd (cs := F5) (t := 62) ?hr ?_; (case hd => rfl); (case hg => rfl); (case hr => first | (go_simp; done) | (go_simp; rfl)); intro gb483 hg w5 hbox hb; have n0_ := Aside0.mk (below_step (bl0 HB.out) hb); have n1_ := Aside0.mk (hbox); have n2_ := Aside0.mk ((by rw [hg]; exact (below_size (bl0 HB.out)) : w.heap.size ≤ gb483)); have n3_ := n2_; clear HB; have HB := n0_; have BK483 := n1_; have GW483 := n2_; have GE483 := n3_; clear n0_ n1_ n2_ n3_; clear hb hbox hg; obtain ⟨hcz6_0, hcz6_1, hcz6_2, hcz6_3, hcz6_4⟩ := bc5 BK483.out; obtain ⟨hfz6_0, hfz6_1, hfz6_2, hfz6_3, hfz6_4⟩ := bf5 BK483.out))
 go_ret
 exact ⟨by first | rfl | (simp [eG, eO] <;> rfl) | (simp [*, eG, eO] <;> rfl), bl1 HB.out GE483.out⟩
attribute [local go_sem] max2_int min2_int max_two min_two max_three min_three max_four min_four
def mZ.f (k : Nat) (a0 a1 : Int) : Option (Int) := (dJ.f k 2 0 a0 a1).bind fun bt872 => (some bt872.1)
theorem mZ.calls (k : Nat) (a0 a1 r : Int) (w : World) (h : mZ.f k a0 a1 = some r) :
  Calls Tryz.prog 49 #[.int .u32 a0, .int .u32 a1] w fun e w' => e = .returned (.int .u32 r) ∧ Below w.heap.size w w' := by
 have hu62 := Tryz.underlying62
 have HB := Aside0.mk (Below.refl w.heap.size w)
 have H : ((dJ.f k 2 0 a0 a1).bind fun bt872 => (some bt872.1)) = some r := h
 clear h
 replace H := bq_ H
 obtain ⟨⟨t872, t873, t874, t875, t876, t877⟩, A30, H⟩ := H
 replace H : (some t872) = some r := H
 have A3 := Aside0.mk A30
 clear A30
 obtain rfl := Option.some.inj H
 go_enter Tryz.func49, Tryz.ntmps49
 go_wp2_with (first | ((with_reducible refine gate_callee (f := 108) rfl ?_); refine goesL_ (some 10) rfl rfl Tryz.func108 kr rfl #[.int .i64 2, .int .i64 0, .int .u32 a0, .int .u32 a1] rfl gl ?_; (with_reducible refine (dJ.calls k 2 0 a0 a1 t872 t873 t874 t875 t876 t877 _ A3.out).mono ?_); rintro e w4 ⟨rfl, hb⟩; refine ⟨_, rfl, ?_⟩; have n0_ := Aside0.mk (below_step (bl0 HB.out) hb); clear HB; have HB := n0_; clear n0_) | ((with_reducible refine gate_dst (N := 6) rfl ?_); refine box_event ?hg (N := 6) ?hd (cs := F5) (t := 62) ?hr ?_; (case hd => rfl); (case hg => rfl); (case hr => first | (go_simp; done) | (go_simp; rfl)); intro gb878 hg w5 hbox hb; have n0_ := Aside0.mk (below_step (bl0 HB.out) hb); have n1_ := Aside0.mk (hbox); have n2_ := Aside0.mk ((by rw [hg]; exact (below_size (bl0 HB.out)) : w.heap.size ≤ gb878)); have n3_ := n2_; clear HB; have HB := n0_; have BK878 := n1_; have GW878 := n2_; have GE878 := n3_; clear n0_ n1_ n2_ n3_; clear hb hbox hg; obtain ⟨hcz6_0, hcz6_1, hcz6_2, hcz6_3, hcz6_4⟩ := bc5 BK878.out; obtain ⟨hfz6_0, hfz6_1, hfz6_2, hfz6_3, hfz6_4⟩ := bf5 BK878.out))
 go_ret
 exact ⟨by first | rfl | (simp [eG, eO] <;> rfl) | (simp [*, eG, eO] <;> rfl), bl1 HB.out GE878.out⟩
end P
namespace Round
open P Num BitsF Fmt
theorem fadd_ev (a b : Nat) (ha : a < 4294967296) (hb : b < 4294967296) : Ev (fun k => mZ.f k (a : Int) (b : Int)) ((pV 2 0 a b : Nat) : Int) :=
 Ev.congr (fun k => by unfold mZ.f; rfl) (Ev.bind (add_ev 2 0 a b ha hb) (Ev.now _))
theorem fmul_ev (a b : Nat) (ha : a < 4294967296) (hb : b < 4294967296) : Ev (fun k => nD.f k (a : Int) (b : Int)) ((mulN 2 0 a b : Nat) : Int) :=
 Ev.congr (fun k => by unfold nD.f; rfl) (Ev.bind (mul_ev 2 0 a b ha hb) (Ev.now _))
theorem fdiv_ev (a b : Nat) (ha : a < 4294967296) (hb : b < 4294967296) : Ev (fun k => nE.f k (a : Int) (b : Int)) ((divN 2 0 a b : Nat) : Int) :=
 Ev.congr (fun k => by unfold nE.f; rfl) (Ev.bind (div_ev 2 0 a b ha hb) (Ev.now _))
theorem ffma_ev (a b c : Nat) (ha : a < 4294967296) (hb : b < 4294967296) (hc : c < 4294967296) : Ev (fun k => mU.f k (a : Int) (b : Int) (c : Int)) ((uK 2 0 a b c : Nat) : Int) :=
 Ev.congr (fun k => by unfold mU.f; rfl) (Ev.bind (aBm 2 0 a b c ha hb hc) (Ev.now _))
end Round
namespace E
open P Ek
def aG.c : Fc := mkFcA [.s (hI .i64), .sl .u32] [hB, hB] (T := Bool × Bool) (fun y => ((y.1, ()), (y.2, ()), ())) fun n x => aG.f n x.1.1 x.2.1
theorem aG.ok : gW Tryz.prog 77 aG.c := zJ Tryz.func77 kr kr (by decide) (fun _ => dW (by decide) _) fun n x y h m w vs ha => by obtain ⟨q0, e0, ha⟩ := ha; subst e0; obtain ⟨A1, c1, q1, e1, R1, D1, ha⟩ := ha; subst e1; subst ha; exact (aG.calls n x.1.1 A1 c1 x.2.1 y.1 y.2 w R1 D1 h).mono fun e w' he => ⟨he.1, he.2.below⟩
def dD.c : Fc := gZ [hI .i64] [hI .u32] (T := Int) (fun y => ((y, ()), ())) fun n x => dD.f x.1.1
theorem dD.ok : gW Tryz.prog 87 dD.c := fG Tryz.func87 kr kr (by decide) (fun _ => dW (by decide) _) fun n x y h m w => (dD.calls x.1.1 y w h).mono fun e w' he => ⟨he.1, he.2.below⟩
def bK.c : Fc := gZ [hI .i64, hI .u32] [hB] (T := Bool) (fun y => ((y, ()), ())) fun n x => bK.f n x.1.1 x.2.1.1
theorem bK.ok : gW Tryz.prog 86 bK.c := fG Tryz.func86 kr kr (by decide) (fun _ => dW (by decide) _) fun n x y h m w => (bK.calls n x.1.1 x.2.1.1 y w h).mono fun e w' he => ⟨he.1, he.2.below⟩
def bO.c : Fc := gZ [hI .i64, hI .u32] [hB] (T := Bool) (fun y => ((y, ()), ())) fun n x => bO.f x.1.1 x.2.1.1
theorem bO.ok : gW Tryz.prog 88 bO.c := fG Tryz.func88 kr kr (by decide) (fun _ => dW (by decide) _) fun n x y h m w => (bO.calls x.1.1 x.2.1.1 y w h).mono fun e w' he => ⟨he.1, he.2.below⟩
def bG.c : Fc := gZ [hI .i64] [hI .u32] (T := Int) (fun y => ((y, ()), ())) fun n x => bG.f x.1.1
theorem bG.ok : gW Tryz.prog 90 bG.c := fG Tryz.func90 kr kr (by decide) (fun _ => dW (by decide) _) fun n x y h m w => (bG.calls x.1.1 y w h).mono fun e w' he => ⟨he.1, he.2.below⟩
def bA.c : Fc := gZ [hI .i64, hI .u32] [hB] (T := Bool) (fun y => ((y, ()), ())) fun n x => bA.f n x.1.1 x.2.1.1
theorem bA.ok : gW Tryz.prog 78 bA.c := fG Tryz.func78 kr kr (by decide) (fun _ => dW (by decide) _) fun n x y h m w => (bA.calls n x.1.1 x.2.1.1 y w h).mono fun e w' he => ⟨he.1, he.2.below⟩
def bE.c : Fc := gZ [hI .i64, hI .u32] [hB, hI .i64, hI .u64] (T := Bool × Int × Int) (fun y => ((y.1, ()), (y.2.1, ()), (y.2.2, ()), ())) fun n x => bE.f n x.1.1 x.2.1.1
theorem bE.ok : gW Tryz.prog 92 bE.c := fG Tryz.func92 kr kr (by decide) (fun _ => dW (by decide) _) fun n x y h m w => (bE.calls n x.1.1 x.2.1.1 y.1 y.2.1 y.2.2 w h).mono fun e w' he => ⟨he.1, he.2.below⟩
def dB.cls : Cls := []
theorem dB.fE : bR Tryz.prog dB.cls := bR.nil
def dB.K (v : SV) : Option (Bool × List Int) := (iL [.agg [.b, .a .u64 10]] v).map (fun z => (z.1.1, z.1.2.1))
def dB.cuts : List Nat := []
def dB.f (k : Nat) (a0 : Bool) (a1 a2 : Int) : Option (Bool × List Int) := evF Tryz.prog dB.cls Tryz.f94 dB.cuts k [.one (.b (.q a0)), .one (.i .i64 (.x a1)), .one (.i .u64 (.x a2))] dB.K
def dB.c : Fc := gZ [hB, hI .i64, hI .u64] [.agg [.b, .a .u64 10]] (T := Bool × List Int) (fun y => ((y.1, y.2, ()), ())) fun n x => dB.f n x.1.1 x.2.1.1 x.2.2.1.1
theorem dB.ok : gW Tryz.prog 94 dB.c := nR dB.fE Tryz.func94 kr kr (by decide) (fun _ => rfl) (fun _ _ => rfl)
def bY.cls : Cls := []
theorem bY.fE : bR Tryz.prog bY.cls := bR.nil
def bY.K (v : SV) : Option (Bool) := (iL [hB] v).map (fun z => (z.1.1))
def bY.cuts : List Nat := []
def bY.f (k : Nat) (a0_0 : Bool) (a0_1 : List Int) (a1_0 : Bool) (a1_1 : List Int) : Option (Bool) := evF Tryz.prog bY.cls Tryz.f178 bY.cuts k [.agg [cb a0_0, .a .u64 a0_1 10], .agg [cb a1_0, .a .u64 a1_1 10]] bY.K
def bY.c : Fc := gZ [.agg [.b, .a .u64 10], .agg [.b, .a .u64 10]] [hB] (T := Bool) (fun y => ((y, ()), ())) fun n x => bY.f n x.1.1 x.1.2.1 x.2.1.1 x.2.1.2.1
theorem bY.ok : gW Tryz.prog 178 bY.c := nR bY.fE Tryz.func178 kr kr (by decide) (fun _ => rfl) (fun _ _ => rfl)
def bP.cls : Cls := [(178, bY.c)]
theorem bP.fE : bR Tryz.prog bP.cls := bR.cons bY.ok (bR.nil)
def bP.K (v : SV) : Option (Bool × List Int) := (iL [.agg [.b, .a .u64 10]] v).map (fun z => (z.1.1, z.1.2.1))
def bP.cuts : List Nat := []
def bP.f (k : Nat) (a0_0 : Bool) (a0_1 : List Int) (a1_0 : Bool) (a1_1 : List Int) : Option (Bool × List Int) := evF Tryz.prog bP.cls Tryz.f167 bP.cuts k [.agg [cb a0_0, .a .u64 a0_1 10], .agg [cb a1_0, .a .u64 a1_1 10]] bP.K
def bP.c : Fc := gZ [.agg [.b, .a .u64 10], .agg [.b, .a .u64 10]] [.agg [.b, .a .u64 10]] (T := Bool × List Int) (fun y => ((y.1, y.2, ()), ())) fun n x => bP.f n x.1.1 x.1.2.1 x.2.1.1 x.2.1.2.1
theorem bP.ok : gW Tryz.prog 167 bP.c := nR bP.fE Tryz.func167 kr kr (by decide) (fun _ => rfl) (fun _ _ => rfl)
def bS.cls : Cls := [(167, bP.c)]
theorem bS.fE : bR Tryz.prog bS.cls := bR.cons bP.ok (bR.nil)
def bS.K (v : SV) : Option (Bool × List Int) := (iL [.agg [.b, .a .u64 10]] v).map (fun z => (z.1.1, z.1.2.1))
def bS.cuts : List Nat := []
def bS.f (k : Nat) (a0_0 : Bool) (a0_1 : List Int) (a1_0 : Bool) (a1_1 : List Int) : Option (Bool × List Int) := evF Tryz.prog bS.cls Tryz.f128 bS.cuts k [.agg [cb a0_0, .a .u64 a0_1 10], .agg [cb a1_0, .a .u64 a1_1 10]] bS.K
def bS.c : Fc := gZ [.agg [.b, .a .u64 10], .agg [.b, .a .u64 10]] [.agg [.b, .a .u64 10]] (T := Bool × List Int) (fun y => ((y.1, y.2, ()), ())) fun n x => bS.f n x.1.1 x.1.2.1 x.2.1.1 x.2.1.2.1
theorem bS.ok : gW Tryz.prog 128 bS.c := nR bS.fE Tryz.func128 kr kr (by decide) (fun _ => rfl) (fun _ _ => rfl)
def dI.cls : Cls := []
theorem dI.fE : bR Tryz.prog dI.cls := bR.nil
def dI.K (v : SV) : Option (Bool) := (iL [hB] v).map (fun z => (z.1.1))
def dI.cuts : List Nat := []
def dI.f (k : Nat) (a0_0 : Bool) (a0_1 : List Int) : Option (Bool) := evF Tryz.prog dI.cls Tryz.f129 dI.cuts k [.agg [cb a0_0, .a .u64 a0_1 10]] dI.K
def dI.c : Fc := gZ [.agg [.b, .a .u64 10]] [hB] (T := Bool) (fun y => ((y, ()), ())) fun n x => dI.f n x.1.1 x.1.2.1
theorem dI.ok : gW Tryz.prog 129 dI.c := nR dI.fE Tryz.func129 kr kr (by decide) (fun _ => rfl) (fun _ _ => rfl)
def bU.c : Fc := gZ [hI .i64, hB] [hI .u32] (T := Int) (fun y => ((y, ()), ())) fun n x => bU.f x.1.1 x.2.1.1
theorem bU.ok : gW Tryz.prog 91 bU.c := fG Tryz.func91 kr kr (by decide) (fun _ => dW (by decide) _) fun n x y h m w => (bU.calls x.1.1 x.2.1.1 y w h).mono fun e w' he => ⟨he.1, he.2.below⟩
def aX.c : Fc := gZ [hI .u64] [hI .i64] (T := Int) (fun y => ((y, ()), ())) fun n x => aX.f n x.1.1
theorem aX.ok : gW Tryz.prog 132 aX.c := fG Tryz.func132 kr kr (by decide) (fun _ => dW (by decide) _) fun n x y h m w => (aX.calls n x.1.1 y w h).mono fun e w' he => ⟨he.1, he.2.below⟩
def aA.c : Fc := gZ [hI .i64, hI .i64, hB, hI .i64, hI .u64, hB] [hI .u32, .agg [.b, .b, .b, .b, .b]] (T := Int × Bool × Bool × Bool × Bool × Bool) (fun y => ((y.1, ()), (y.2.1, y.2.2.1, y.2.2.2.1, y.2.2.2.2.1, y.2.2.2.2.2, ()), ())) fun n x => aA.f n x.1.1 x.2.1.1 x.2.2.1.1 x.2.2.2.1.1 x.2.2.2.2.1.1 x.2.2.2.2.2.1.1
theorem aA.ok : gW Tryz.prog 97 aA.c := fG Tryz.func97 kr kr (by decide) (fun _ => dW (by decide) _) fun n x y h m w => (aA.calls n x.1.1 x.2.1.1 x.2.2.1.1 x.2.2.2.1.1 x.2.2.2.2.1.1 x.2.2.2.2.2.1.1 y.1 y.2.1 y.2.2.1 y.2.2.2.1 y.2.2.2.2.1 y.2.2.2.2.2 w h).mono fun e w' he => ⟨he.1, he.2⟩
def aQ.cls : Cls := [(132, aX.c), (97, aA.c)]
theorem aQ.fE : bR Tryz.prog aQ.cls := bR.cons aX.ok (bR.cons aA.ok (bR.nil))
def aQ.K (v : SV) : Option (Int × Bool × Bool × Bool × Bool × Bool) := (iL [hI .u32, .agg [.b, .b, .b, .b, .b]] v).map (fun z => (z.1.1, z.2.1.1, z.2.1.2.1, z.2.1.2.2.1, z.2.1.2.2.2.1, z.2.1.2.2.2.2.1))
def aQ.cuts : List Nat := []
def aQ.f (k : Nat) (a0 a1 : Int) (a2_0 : Bool) (a2_1 : List Int) : Option (Int × Bool × Bool × Bool × Bool × Bool) := evF Tryz.prog aQ.cls Tryz.f130 aQ.cuts k [.one (.i .i64 (.x a0)), .one (.i .i64 (.x a1)), .agg [cb a2_0, .a .u64 a2_1 10]] aQ.K
def aQ.c : Fc := gZ [hI .i64, hI .i64, .agg [.b, .a .u64 10]] [hI .u32, .agg [.b, .b, .b, .b, .b]] (T := Int × Bool × Bool × Bool × Bool × Bool) (fun y => ((y.1, ()), (y.2.1, y.2.2.1, y.2.2.2.1, y.2.2.2.2.1, y.2.2.2.2.2, ()), ())) fun n x => aQ.f n x.1.1 x.2.1.1 x.2.2.1.1 x.2.2.1.2.1
theorem aQ.ok : gW Tryz.prog 130 aQ.c := nR aQ.fE Tryz.func130 kr kr (by decide) (fun _ => rfl) (fun _ _ => rfl)
def dH.cls : Cls := [(128, bS.c), (129, dI.c), (91, bU.c), (130, aQ.c)]
theorem dH.fE : bR Tryz.prog dH.cls := bR.cons bS.ok (bR.cons dI.ok (bR.cons bU.ok (bR.cons aQ.ok (bR.nil))))
def dH.K (v : SV) : Option (Int × Bool × Bool × Bool × Bool × Bool) := (iL [hI .u32, .agg [.b, .b, .b, .b, .b]] v).map (fun z => (z.1.1, z.2.1.1, z.2.1.2.1, z.2.1.2.2.1, z.2.1.2.2.2.1, z.2.1.2.2.2.2.1))
def dH.cuts : List Nat := []
def dH.f (k : Nat) (a0 a1 : Int) (a2_0 : Bool) (a2_1 : List Int) (a3_0 : Bool) (a3_1 : List Int) : Option (Int × Bool × Bool × Bool × Bool × Bool) := evF Tryz.prog dH.cls Tryz.f93 dH.cuts k [.one (.i .i64 (.x a0)), .one (.i .i64 (.x a1)), .agg [cb a2_0, .a .u64 a2_1 10], .agg [cb a3_0, .a .u64 a3_1 10]] dH.K
def dH.c : Fc := gZ [hI .i64, hI .i64, .agg [.b, .a .u64 10], .agg [.b, .a .u64 10]] [hI .u32, .agg [.b, .b, .b, .b, .b]] (T := Int × Bool × Bool × Bool × Bool × Bool) (fun y => ((y.1, ()), (y.2.1, y.2.2.1, y.2.2.2.1, y.2.2.2.2.1, y.2.2.2.2.2, ()), ())) fun n x => dH.f n x.1.1 x.2.1.1 x.2.2.1.1 x.2.2.1.2.1 x.2.2.2.1.1 x.2.2.2.1.2.1
theorem dH.ok : gW Tryz.prog 93 dH.c := nR dH.fE Tryz.func93 kr kr (by decide) (fun _ => rfl) (fun _ _ => rfl)
def bD.cls : Cls := [(77, aG.c), (87, dD.c), (86, bK.c), (88, bO.c), (90, bG.c), (78, bA.c), (92, bE.c), (94, dB.c), (93, dH.c)]
theorem bD.fE : bR Tryz.prog bD.cls := bR.cons aG.ok (bR.cons dD.ok (bR.cons bK.ok (bR.cons bO.ok (bR.cons bG.ok (bR.cons bA.ok (bR.cons bE.ok (bR.cons dB.ok (bR.cons dH.ok (bR.nil)))))))))
def bD.K (v : SV) : Option (Int × Bool × Bool × Bool × Bool × Bool) := (iL [hI .u32, .agg [.b, .b, .b, .b, .b]] v).map (fun z => (z.1.1, z.2.1.1, z.2.1.2.1, z.2.1.2.2.1, z.2.1.2.2.2.1, z.2.1.2.2.2.2.1))
def bD.cuts : List Nat := [6, 12]
def bD.f (k : Nat) (a0 a1 : Int) (a2 a3 : Int) : Option (Int × Bool × Bool × Bool × Bool × Bool) := evF Tryz.prog bD.cls Tryz.f71 bD.cuts k [.one (.i .i64 (.x a0)), .one (.i .i64 (.x a1)), .one (.i .u32 (.x a2)), .one (.i .u32 (.x a3))] bD.K
def bD.c : Fc := gZ [hI .i64, hI .i64, hI .u32, hI .u32] [hI .u32, .agg [.b, .b, .b, .b, .b]] (T := Int × Bool × Bool × Bool × Bool × Bool) (fun y => ((y.1, ()), (y.2.1, y.2.2.1, y.2.2.2.1, y.2.2.2.2.1, y.2.2.2.2.2, ()), ())) fun n x => bD.f n x.1.1 x.2.1.1 x.2.2.1.1 x.2.2.2.1.1
theorem bD.ok : gW Tryz.prog 71 bD.c := nR bD.fE Tryz.func71 kr kr (by decide) (fun _ => rfl) (fun _ _ => rfl)
def bZ.c : Fc := gZ [hI .i64, hB] [hI .u32] (T := Int) (fun y => ((y, ()), ())) fun n x => bZ.f x.1.1 x.2.1.1
theorem bZ.ok : gW Tryz.prog 89 bZ.c := fG Tryz.func89 kr kr (by decide) (fun _ => dW (by decide) _) fun n x y h m w => (bZ.calls x.1.1 x.2.1.1 y w h).mono fun e w' he => ⟨he.1, he.2.below⟩
def aT.cls : Cls := [(78, bA.c), (86, bK.c), (77, aG.c), (87, dD.c), (88, bO.c), (89, bZ.c), (90, bG.c), (91, bU.c), (92, bE.c), (94, dB.c), (93, dH.c)]
theorem aT.fE : bR Tryz.prog aT.cls := bR.cons bA.ok (bR.cons bK.ok (bR.cons aG.ok (bR.cons dD.ok (bR.cons bO.ok (bR.cons bZ.ok (bR.cons bG.ok (bR.cons bU.ok (bR.cons bE.ok (bR.cons dB.ok (bR.cons dH.ok (bR.nil)))))))))))
def aT.K (v : SV) : Option (Int × Bool × Bool × Bool × Bool × Bool) := (iL [hI .u32, .agg [.b, .b, .b, .b, .b]] v).map (fun z => (z.1.1, z.2.1.1, z.2.1.2.1, z.2.1.2.2.1, z.2.1.2.2.2.1, z.2.1.2.2.2.2.1))
def aT.cuts : List Nat := [2, 5, 14]
def aT.f (k : Nat) (a0 a1 : Int) (a2 a3 a4 : Int) : Option (Int × Bool × Bool × Bool × Bool × Bool) := evF Tryz.prog aT.cls Tryz.f34 aT.cuts k [.one (.i .i64 (.x a0)), .one (.i .i64 (.x a1)), .one (.i .u32 (.x a2)), .one (.i .u32 (.x a3)), .one (.i .u32 (.x a4))] aT.K
def aT.c : Fc := gZ [hI .i64, hI .i64, hI .u32, hI .u32, hI .u32] [hI .u32, .agg [.b, .b, .b, .b, .b]] (T := Int × Bool × Bool × Bool × Bool × Bool) (fun y => ((y.1, ()), (y.2.1, y.2.2.1, y.2.2.2.1, y.2.2.2.2.1, y.2.2.2.2.2, ()), ())) fun n x => aT.f n x.1.1 x.2.1.1 x.2.2.1.1 x.2.2.2.1.1 x.2.2.2.2.1.1
theorem aT.ok : gW Tryz.prog 34 aT.c := nR aT.fE Tryz.func34 kr kr (by decide) (fun _ => rfl) (fun _ _ => rfl)
set_option maxRecDepth 100000
theorem dB.eq (n0 : Nat) (a0 : Bool) (a1 a2 : Int) : dB.f n0 a0 a1 a2 = (if 0 ≤ Int.tmod (wrap64 (a1 + 298)) 64 then (if 0 ≤ wrap64 (Int.tdiv (wrap64 (a1 + 298)) 64) then (if wrap64 (Int.tdiv (wrap64 (a1 + 298)) 64) < 10 then (if 0 < Int.tmod (wrap64 (a1 + 298)) 64 then (if wrap64 (Int.tdiv (wrap64 (a1 + 298)) 64) < 9 then (if 0 ≤ wrap64 (64 - Int.tmod (wrap64 (a1 + 298)) 64) then (if 0 ≤ wrap64 (wrap64 (Int.tdiv (wrap64 (a1 + 298)) 64) + 1) then (if wrap64 (wrap64 (Int.tdiv (wrap64 (a1 + 298)) 64) + 1) < 10 then (some ((a0, List.set (List.set (List.replicate 10 0) (Int.toNat (wrap64 (Int.tdiv (wrap64 (a1 + 298)) 64))) (shl IntKind.u64 a2 (Int.tmod (wrap64 (a1 + 298)) 64))) (Int.toNat (wrap64 (wrap64 (Int.tdiv (wrap64 (a1 + 298)) 64) + 1))) (shr IntKind.u64 a2 (wrap64 (64 - Int.tmod (wrap64 (a1 + 298)) 64)))))) else none) else none) else none) else (some ((a0, List.set (List.replicate 10 0) (Int.toNat (wrap64 (Int.tdiv (wrap64 (a1 + 298)) 64))) (shl IntKind.u64 a2 (Int.tmod (wrap64 (a1 + 298)) 64)))))) else (some ((a0, List.set (List.replicate 10 0) (Int.toNat (wrap64 (Int.tdiv (wrap64 (a1 + 298)) 64))) (shl IntKind.u64 a2 (Int.tmod (wrap64 (a1 + 298)) 64)))))) else none) else none) else none) := by kernel_rfl
def bY.l2 (k n0 : Nat) (x0 : Int) (x1 : Bool) (x2 : List Int) (x3 : Bool) (x4 : List Int) := evIn Tryz.prog bY.cls Tryz.f178 bY.cuts [1, 0, 1, 0] [n0] k ⟨[(5, (.pv (.one (.i .i64 (.x x0))))), (3, (.pv (.one (.p 1 0)))), (2, (.pv (.one (.p 0 0))))], [(1, (101, [(.c (.b (.q x1))), (.a .u64 x2 10)])), (0, (101, [(.c (.b (.q x3))), (.a .u64 x4 10)]))], 2⟩ bY.K
theorem bY.eq (n0 : Nat) (a0_0 : Bool) (a0_1 : List Int) (a1_0 : Bool) (a1_1 : List Int) : bY.f n0 a0_0 a0_1 a1_0 a1_1 = (bY.l2 n0 n0 (Int.ofNat 9) (a1_0) (a1_1) (a0_0) (a0_1)) := by kernel_rfl
theorem bY.aBa (k n0 : Nat) (x0 : Int) (x1 : Bool) (x2 : List Int) (x3 : Bool) (x4 : List Int) : bY.l2 (k + 1) n0 x0 x1 x2 x3 x4 = (if 0 ≤ x0 then (if 0 ≤ x0 then (if x0 < 10 then (if 0 ≤ x0 then (if x0 < 10 then (if rd x4 x0 = rd x2 x0 then (bY.l2 k n0 (wrap64 (x0 - 1)) (x1) (x2) (x3) (x4)) else (if 0 ≤ x0 then (if x0 < 10 then (if 0 ≤ x0 then (if x0 < 10 then (some (decide (rd x4 x0 < rd x2 x0))) else none) else none) else none) else none)) else none) else none) else none) else none) else (some (false))) := by kernel_rfl
def bP.l5 (k n0 : Nat) (x0 x1 : Int) (x2 : Bool) (x3 : List Int) (x4 : Bool) (x5 : List Int) (x6 : Bool) (x7 : List Int) := evIn Tryz.prog bP.cls Tryz.f167 bP.cuts [1, 1, 1, 0, 1, 0] [n0] k ⟨[(6, (.pv (.one (.i .i64 (.x x0))))), (5, (.pv (.one (.i .u64 (.x x1))))), (4, (.pv (.one (.p 2 0)))), (3, (.pv (.one (.p 1 0)))), (2, (.pv (.one (.p 0 0))))], [(2, (101, [(.c (.b (.q x2))), (.a .u64 x3 10)])), (1, (101, [(.c (.b (.q x4))), (.a .u64 x5 10)])), (0, (101, [(.c (.b (.q x6))), (.a .u64 x7 10)]))], 3⟩ bP.K
theorem bP.eq (n0 : Nat) (a0_0 : Bool) (a0_1 : List Int) (a1_0 : Bool) (a1_1 : List Int) : bP.f n0 a0_0 a0_1 a1_0 a1_1 = ((bY.f n0 a0_0 a0_1 a1_0 a1_1).bind fun t0 => (if t0 = true then (bP.l5 n0 n0 (Int.ofNat 0) (Int.ofNat 0) (false) (0 :: List.replicate 9 0) (a0_0) (a0_1) (a1_0) (a1_1)) else (bP.l5 n0 n0 (Int.ofNat 0) (Int.ofNat 0) (false) (0 :: List.replicate 9 0) (a1_0) (a1_1) (a0_0) (a0_1)))) := by kernel_rfl
theorem bP.aBO (k n0 : Nat) (x0 x1 : Int) (x2 : Bool) (x3 : List Int) (x4 : Bool) (x5 : List Int) (x6 : Bool) (x7 : List Int) : bP.l5 (k + 1) n0 x0 x1 x2 x3 x4 x5 x6 x7 = (if x0 < 10 then (if 0 ≤ x0 then (if x0 < 10 then (if 0 ≤ x0 then (if x0 < 10 then (if 0 ≤ x0 then (if x0 < 10 then (if 0 ≤ x0 then (if x0 < 10 then (if rd x7 x0 < rd x5 x0 then (if 0 ≤ x0 then (if x0 < 10 then (bP.l5 k n0 (wrap64 (x0 + 1)) (Int.ofNat 1) (x2) (x3) (x4) (x5) (x6) (List.set x7 (Int.toNat x0) (IntKind.wrap IntKind.u64 (IntKind.wrap IntKind.u64 (rd x7 x0 - rd x5 x0) - x1)))) else none) else none) else (if IntKind.wrap IntKind.u64 (rd x7 x0 - rd x5 x0) < x1 then (if 0 ≤ x0 then (if x0 < 10 then (bP.l5 k n0 (wrap64 (x0 + 1)) (Int.ofNat 1) (x2) (x3) (x4) (x5) (x6) (List.set x7 (Int.toNat x0) (IntKind.wrap IntKind.u64 (IntKind.wrap IntKind.u64 (rd x7 x0 - rd x5 x0) - x1)))) else none) else none) else (if 0 ≤ x0 then (if x0 < 10 then (bP.l5 k n0 (wrap64 (x0 + 1)) (Int.ofNat 0) (x2) (x3) (x4) (x5) (x6) (List.set x7 (Int.toNat x0) (IntKind.wrap IntKind.u64 (IntKind.wrap IntKind.u64 (rd x7 x0 - rd x5 x0) - x1)))) else none) else none))) else none) else none) else none) else none) else none) else none) else none) else none) else (some ((x6, x7)))) := by kernel_rfl
def bS.l5 (k n0 : Nat) (x0 x1 : Int) (x2 : Bool) (x3 : List Int) (x4 : Bool) (x5 : List Int) (x6 : Bool) (x7 : List Int) := evIn Tryz.prog bS.cls Tryz.f128 bS.cuts [1, 1, 1, 0, 1, 0] [n0] k ⟨[(6, (.pv (.one (.i .i64 (.x x0))))), (5, (.pv (.one (.i .u64 (.x x1))))), (4, (.pv (.one (.p 2 0)))), (3, (.pv (.one (.p 1 0)))), (2, (.pv (.one (.p 0 0))))], [(2, (101, [(.c (.b (.q x2))), (.a .u64 x3 10)])), (1, (101, [(.c (.b (.q x4))), (.a .u64 x5 10)])), (0, (101, [(.c (.b (.q x6))), (.a .u64 x7 10)]))], 3⟩ bS.K
theorem bS.eq (n0 : Nat) (a0_0 : Bool) (a0_1 : List Int) (a1_0 : Bool) (a1_1 : List Int) : bS.f n0 a0_0 a0_1 a1_0 a1_1 = (if (a0_0 == a1_0) = true then (bS.l5 n0 n0 (Int.ofNat 0) (Int.ofNat 0) (false) (0 :: List.replicate 9 0) (a1_0) (a1_1) (a0_0) (a0_1)) else ((bP.f n0 a0_0 a0_1 a1_0 a1_1).bind fun t0 => (some ((t0.1, t0.2))))) := by kernel_rfl
theorem bS.aBO (k n0 : Nat) (x0 x1 : Int) (x2 : Bool) (x3 : List Int) (x4 : Bool) (x5 : List Int) (x6 : Bool) (x7 : List Int) : bS.l5 (k + 1) n0 x0 x1 x2 x3 x4 x5 x6 x7 = (if x0 < 10 then (if 0 ≤ x0 then (if x0 < 10 then (if 0 ≤ x0 then (if x0 < 10 then (if 0 ≤ x0 then (if x0 < 10 then (if IntKind.wrap IntKind.u64 (rd x7 x0 + rd x5 x0) < rd x7 x0 then (if 0 ≤ x0 then (if x0 < 10 then (bS.l5 k n0 (wrap64 (x0 + 1)) (Int.ofNat 1) (x2) (x3) (x4) (x5) (x6) (List.set x7 (Int.toNat x0) (IntKind.wrap IntKind.u64 (IntKind.wrap IntKind.u64 (rd x7 x0 + rd x5 x0) + x1)))) else none) else none) else (if IntKind.wrap IntKind.u64 (IntKind.wrap IntKind.u64 (rd x7 x0 + rd x5 x0) + x1) < IntKind.wrap IntKind.u64 (rd x7 x0 + rd x5 x0) then (if 0 ≤ x0 then (if x0 < 10 then (bS.l5 k n0 (wrap64 (x0 + 1)) (Int.ofNat 1) (x2) (x3) (x4) (x5) (x6) (List.set x7 (Int.toNat x0) (IntKind.wrap IntKind.u64 (IntKind.wrap IntKind.u64 (rd x7 x0 + rd x5 x0) + x1)))) else none) else none) else (if 0 ≤ x0 then (if x0 < 10 then (bS.l5 k n0 (wrap64 (x0 + 1)) (Int.ofNat 0) (x2) (x3) (x4) (x5) (x6) (List.set x7 (Int.toNat x0) (IntKind.wrap IntKind.u64 (IntKind.wrap IntKind.u64 (rd x7 x0 + rd x5 x0) + x1)))) else none) else none))) else none) else none) else none) else none) else none) else none) else (some ((x6, x7)))) := by kernel_rfl
theorem dI.eq (n0 : Nat) (a0_0 : Bool) (a0_1 : List Int) : dI.f n0 a0_0 a0_1 = (some (a0_1 ++ [] == List.replicate 10 0 ++ [])) := by kernel_rfl
def aQ.l2 (k n0 : Nat) (x0 x1 x2 : Int) (x3 x4 : Bool) (x5 x6 : Bool) (x7 x8 : Bool) (x9 : List Int) := evIn Tryz.prog aQ.cls Tryz.f130 aQ.cuts [1, 1, 0, 0] [n0] k ⟨[(8, (.pv (.one (.i .i64 (.x x0))))), (7, (.pv (.one (.p 1 0)))), (5, (.pv (.one (.p 0 0)))), (1, (.pv (.one (.i .i64 (.x x1))))), (0, (.pv (.one (.i .i64 (.x x2)))))], [(1, (62, [(.c (.b (.q x3))), (.c (.b (.q x4))), (.c (.b (.q x5))), (.c (.b (.q x6))), (.c (.b (.q x7)))])), (0, (101, [(.c (.b (.q x8))), (.a .u64 x9 10)]))], 2⟩ aQ.K
def aQ.l19 (k n0 : Nat) (x0 : Int) (x1 : Bool) (x2 x3 : Int) (x4 x5 x6 : Int) (x7 x8 : Bool) (x9 x10 : Bool) (x11 x12 : Bool) (x13 : List Int) := evIn Tryz.prog aQ.cls Tryz.f130 aQ.cuts [1, 1, 1, 1, 1, 1, 1, 0, 1, 0, 1, 1, 1, 1, 1, 1, 1, 1, 0] [n0] k ⟨[(15, (.pv (.one (.i .i64 (.x x0))))), (12, (.pv (.one (.b (.q x1))))), (11, (.pv (.one (.i .i64 (.x x2))))), (10, (.pv (.one (.i .u64 (.x x3))))), (8, (.pv (.one (.i .i64 (.x x4))))), (7, (.pv (.one (.p 1 0)))), (5, (.pv (.one (.p 0 0)))), (1, (.pv (.one (.i .i64 (.x x5))))), (0, (.pv (.one (.i .i64 (.x x6)))))], [(1, (62, [(.c (.b (.q x7))), (.c (.b (.q x8))), (.c (.b (.q x9))), (.c (.b (.q x10))), (.c (.b (.q x11)))])), (0, (101, [(.c (.b (.q x12))), (.a .u64 x13 10)]))], 2⟩ aQ.K
theorem aQ.eq (n0 : Nat) (a0 a1 : Int) (a2_0 : Bool) (a2_1 : List Int) : aQ.f n0 a0 a1 a2_0 a2_1 = (aQ.l2 n0 n0 (Int.ofNat 9) (a1) (a0) (false) (false) (false) (false) (false) (a2_0) (a2_1)) := by kernel_rfl
theorem aQ.aBa (k n0 : Nat) (x0 x1 x2 : Int) (x3 x4 : Bool) (x5 x6 : Bool) (x7 x8 : Bool) (x9 : List Int) : aQ.l2 (k + 1) n0 x0 x1 x2 x3 x4 x5 x6 x7 x8 x9 = (if 0 ≤ x0 then (if x0 < 10 then (if rd x9 x0 = 0 then (aQ.l2 k n0 (wrap64 (x0 - 1)) (x1) (x2) (x3) (x4) (x5) (x6) (x7) (x8) (x9)) else (if 0 ≤ x0 then (if x0 < 10 then ((aX.f n0 (rd x9 x0)).bind fun t0 => (if 0 ≤ x0 then (if x0 < 10 then (if 0 < x0 then (if 0 ≤ wrap64 (64 - t0) then (if 0 ≤ wrap64 (x0 - 1) then (if wrap64 (x0 - 1) < 10 then (if 0 ≤ t0 then (if t0 = 64 then (if 0 ≤ x0 then (if x0 < 10 then (if 0 ≤ wrap64 (x0 - 1) then (if wrap64 (x0 - 1) < 10 then (if t0 < 64 then (if 0 ≤ wrap64 (64 - t0) then (aQ.l19 n0 n0 (Int.ofNat 0) (!(shl IntKind.u64 (rd x9 (wrap64 (x0 - 1))) (wrap64 (64 - t0)) == 0)) (wrap64 (wrap64 (wrap64 (64 * x0) - 298) - wrap64 (64 - t0))) (rd x9 x0) (x0) (x1) (x2) (x3) (x4) (x5) (x6) (x7) (x8) (x9)) else none) else (aQ.l19 n0 n0 (Int.ofNat 0) (!(rd x9 (wrap64 (x0 - 1)) == 0)) (wrap64 (wrap64 (wrap64 (64 * x0) - 298) - wrap64 (64 - t0))) (rd x9 x0) (x0) (x1) (x2) (x3) (x4) (x5) (x6) (x7) (x8) (x9))) else none) else none) else none) else none) else (if 0 ≤ wrap64 (x0 - 1) then (if wrap64 (x0 - 1) < 10 then (if t0 < 64 then (if 0 ≤ wrap64 (64 - t0) then (aQ.l19 n0 n0 (Int.ofNat 0) (!(shl IntKind.u64 (rd x9 (wrap64 (x0 - 1))) (wrap64 (64 - t0)) == 0)) (wrap64 (wrap64 (wrap64 (64 * x0) - 298) - wrap64 (64 - t0))) (bits BinOp.or IntKind.u64 (shl IntKind.u64 (rd x9 x0) (wrap64 (64 - t0))) (shr IntKind.u64 (rd x9 (wrap64 (x0 - 1))) t0)) (x0) (x1) (x2) (x3) (x4) (x5) (x6) (x7) (x8) (x9)) else none) else (aQ.l19 n0 n0 (Int.ofNat 0) (!(rd x9 (wrap64 (x0 - 1)) == 0)) (wrap64 (wrap64 (wrap64 (64 * x0) - 298) - wrap64 (64 - t0))) (bits BinOp.or IntKind.u64 (shl IntKind.u64 (rd x9 x0) (wrap64 (64 - t0))) (shr IntKind.u64 (rd x9 (wrap64 (x0 - 1))) t0)) (x0) (x1) (x2) (x3) (x4) (x5) (x6) (x7) (x8) (x9))) else none) else none)) else none) else none) else none) else none) else ((aA.f n0 x2 x1 x8 (wrap64 (wrap64 (64 * x0) - 298)) (rd x9 x0) false).bind fun t1 => (some ((t1.1, t1.2.1, t1.2.2.1, t1.2.2.2.1, t1.2.2.2.2.1, t1.2.2.2.2.2))))) else none) else none)) else none) else none)) else none) else none) := by kernel_rfl
theorem aQ.l19_eq (k n0 : Nat) (x0 : Int) (x1 : Bool) (x2 x3 : Int) (x4 x5 x6 : Int) (x7 x8 : Bool) (x9 x10 : Bool) (x11 x12 : Bool) (x13 : List Int) : aQ.l19 (k + 1) n0 x0 x1 x2 x3 x4 x5 x6 x7 x8 x9 x10 x11 x12 x13 = (if x0 < wrap64 (x4 - 1) then (if x1 = true then (aQ.l19 k n0 (wrap64 (x0 + 1)) (true) (x2) (x3) (x4) (x5) (x6) (x7) (x8) (x9) (x10) (x11) (x12) (x13)) else (if 0 ≤ x0 then (if x0 < 10 then (aQ.l19 k n0 (wrap64 (x0 + 1)) (!(rd x13 x0 == 0)) (x2) (x3) (x4) (x5) (x6) (x7) (x8) (x9) (x10) (x11) (x12) (x13)) else none) else none)) else ((aA.f n0 x6 x5 x12 x2 x3 x1).bind fun t0 => (some ((t0.1, t0.2.1, t0.2.2.1, t0.2.2.2.1, t0.2.2.2.2.1, t0.2.2.2.2.2))))) := by kernel_rfl
theorem dH.eq (n0 : Nat) (a0 a1 : Int) (a2_0 : Bool) (a2_1 : List Int) (a3_0 : Bool) (a3_1 : List Int) : dH.f n0 a0 a1 a2_0 a2_1 a3_0 a3_1 = ((bS.f n0 a2_0 a2_1 a3_0 a3_1).bind fun t0 => ((YtolpdiifmacdbaaGreat.E.dI.f n0 t0.1 t0.2).bind fun t1 => (if t1 = true then ((bU.f a0 (a1 == 3)).bind fun t2 => (some ((t2, false, false, false, false, false)))) else ((aQ.f n0 a0 a1 t0.1 t0.2).bind fun t2 => (some ((t2.1, t2.2.1, t2.2.2.1, t2.2.2.2.1, t2.2.2.2.2.1, t2.2.2.2.2.2))))))) := by kernel_rfl
def bD.j6 (n0 : Nat) (x0 x1 : Int) (x2 x3 : Int) (x4 x5 : Bool) (x6 x7 x8 : Bool) := jK Tryz.prog bD.cls Tryz.f71 bD.cuts [1, 1, 1] [n0] n0 ⟨[(9, (.pv (.one (.p 0 0)))), (3, (.pv (.one (.i .u32 (.x x0))))), (2, (.pv (.one (.i .u32 (.x x1))))), (1, (.pv (.one (.i .i64 (.x x2))))), (0, (.pv (.one (.i .i64 (.x x3)))))], [(0, (62, [(.c (.b (.q x4))), (.c (.b (.q x5))), (.c (.b (.q x6))), (.c (.b (.q x7))), (.c (.b (.q x8)))]))], 1⟩ bD.K
def bD.j12 (n0 : Nat) (x0 x1 : Int) (x2 x3 : Int) (x4 x5 : Bool) (x6 x7 x8 : Bool) := jK Tryz.prog bD.cls Tryz.f71 bD.cuts [1, 1, 1, 1, 1, 1] [n0] n0 ⟨[(9, (.pv (.one (.p 0 0)))), (3, (.pv (.one (.i .u32 (.x x0))))), (2, (.pv (.one (.i .u32 (.x x1))))), (1, (.pv (.one (.i .i64 (.x x2))))), (0, (.pv (.one (.i .i64 (.x x3)))))], [(0, (62, [(.c (.b (.q x4))), (.c (.b (.q x5))), (.c (.b (.q x6))), (.c (.b (.q x7))), (.c (.b (.q x8)))]))], 1⟩ bD.K
theorem bD.eq (n0 : Nat) (a0 a1 : Int) (a2 a3 : Int) : bD.f n0 a0 a1 a2 a3 = ((aG.f n0 a0 [a2, a3]).bind fun t0 => (if t0.1 = true then ((dD.f a0).bind fun t1 => (some ((t1, t0.2, false, false, false, false)))) else ((bK.f n0 a0 a2).bind fun t1 => (if t1 = true then ((bK.f n0 a0 a3).bind fun t2 => (if t2 = true then ((bO.f a0 a2).bind fun t3 => ((bO.f a0 a3).bind fun t4 => (if (t3 == t4) = true then (bD.j6 n0 (a3) (a2) (a1) (a0) (false) (false) (false) (false) (false)) else ((dD.f a0).bind fun t5 => (some ((t5, true, false, false, false, false))))))) else (bD.j6 n0 (a3) (a2) (a1) (a0) (false) (false) (false) (false) (false)))) else (bD.j6 n0 (a3) (a2) (a1) (a0) (false) (false) (false) (false) (false)))))) := by kernel_rfl
theorem bD.j6_eq (n0 : Nat) (x0 x1 : Int) (x2 x3 : Int) (x4 x5 : Bool) (x6 x7 x8 : Bool) : bD.j6 n0 x0 x1 x2 x3 x4 x5 x6 x7 x8 = ((bK.f n0 x3 x1).bind fun t0 => (if t0 = true then ((bG.f x3).bind fun t1 => (some ((bits BinOp.and IntKind.u32 x1 t1, false, false, false, false, false)))) else ((bK.f n0 x3 x0).bind fun t1 => (if t1 = true then ((bG.f x3).bind fun t2 => (some ((bits BinOp.and IntKind.u32 x0 t2, false, false, false, false, false)))) else ((bA.f n0 x3 x1).bind fun t2 => (if t2 = true then ((bA.f n0 x3 x0).bind fun t3 => (if t3 = true then ((bO.f x3 x1).bind fun t4 => ((bO.f x3 x0).bind fun t5 => (if (t4 == t5) = true then ((bG.f x3).bind fun t6 => (some ((bits BinOp.and IntKind.u32 x1 t6, false, false, false, false, false)))) else (bD.j12 n0 (x0) (x1) (x2) (x3) (x4) (x5) (x6) (x7) (x8))))) else (bD.j12 n0 (x0) (x1) (x2) (x3) (x4) (x5) (x6) (x7) (x8)))) else (bD.j12 n0 (x0) (x1) (x2) (x3) (x4) (x5) (x6) (x7) (x8)))))))) := by kernel_rfl
theorem bD.aBS (n0 : Nat) (x0 x1 : Int) (x2 x3 : Int) (x4 x5 : Bool) (x6 x7 x8 : Bool) : bD.j12 n0 x0 x1 x2 x3 x4 x5 x6 x7 x8 = ((bE.f n0 x3 x1).bind fun t0 => ((dB.f n0 t0.1 t0.2.1 t0.2.2).bind fun t1 => ((bE.f n0 x3 x0).bind fun t2 => ((dB.f n0 t2.1 t2.2.1 t2.2.2).bind fun t3 => ((dH.f n0 x3 x2 t1.1 t1.2 t3.1 t3.2).bind fun t4 => (some ((t4.1, t4.2.1, t4.2.2.1, t4.2.2.2.1, t4.2.2.2.2.1, t4.2.2.2.2.2)))))))) := by kernel_rfl
def aT.j2 (n0 : Nat) (x0 : Bool) (x1 x2 : Int) (x3 x4 x5 : Int) (x6 x7 : Bool) (x8 x9 x10 : Bool) := jK Tryz.prog aT.cls Tryz.f34 aT.cuts [1, 1] [n0] n0 ⟨[(12, (.pv (.one (.b (.q x0))))), (11, (.pv (.one (.p 0 0)))), (4, (.pv (.one (.i .u32 (.x x1))))), (3, (.pv (.one (.i .u32 (.x x2))))), (2, (.pv (.one (.i .u32 (.x x3))))), (1, (.pv (.one (.i .i64 (.x x4))))), (0, (.pv (.one (.i .i64 (.x x5)))))], [(0, (62, [(.c (.b (.q x6))), (.c (.b (.q x7))), (.c (.b (.q x8))), (.c (.b (.q x9))), (.c (.b (.q x10)))]))], 1⟩ aT.K
def aT.j5 (n0 : Nat) (x0 x1 : Int) (x2 x3 x4 : Int) (x5 x6 : Bool) (x7 x8 x9 : Bool) := jK Tryz.prog aT.cls Tryz.f34 aT.cuts [1, 1, 1] [n0] n0 ⟨[(11, (.pv (.one (.p 0 0)))), (4, (.pv (.one (.i .u32 (.x x0))))), (3, (.pv (.one (.i .u32 (.x x1))))), (2, (.pv (.one (.i .u32 (.x x2))))), (1, (.pv (.one (.i .i64 (.x x3))))), (0, (.pv (.one (.i .i64 (.x x4)))))], [(0, (62, [(.c (.b (.q x5))), (.c (.b (.q x6))), (.c (.b (.q x7))), (.c (.b (.q x8))), (.c (.b (.q x9)))]))], 1⟩ aT.K
def aT.j14 (n0 : Nat) (x0 : Bool) (x1 x2 : Int) (x3 x4 x5 : Int) (x6 x7 : Bool) (x8 x9 x10 : Bool) := jK Tryz.prog aT.cls Tryz.f34 aT.cuts [1, 1, 1, 1, 1, 1, 1] [n0] n0 ⟨[(15, (.pv (.one (.b (.q x0))))), (11, (.pv (.one (.p 0 0)))), (4, (.pv (.one (.i .u32 (.x x1))))), (3, (.pv (.one (.i .u32 (.x x2))))), (2, (.pv (.one (.i .u32 (.x x3))))), (1, (.pv (.one (.i .i64 (.x x4))))), (0, (.pv (.one (.i .i64 (.x x5)))))], [(0, (62, [(.c (.b (.q x6))), (.c (.b (.q x7))), (.c (.b (.q x8))), (.c (.b (.q x9))), (.c (.b (.q x10)))]))], 1⟩ aT.K
theorem aT.eq (n0 : Nat) (a0 a1 : Int) (a2 a3 a4 : Int) : aT.f n0 a0 a1 a2 a3 a4 = ((bA.f n0 a0 a2).bind fun t0 => (if t0 = true then ((bK.f n0 a0 a3).bind fun t1 => (if t1 = true then (aT.j2 n0 (true) (a4) (a3) (a2) (a1) (a0) (false) (false) (false) (false) (false)) else ((bK.f n0 a0 a2).bind fun t2 => (if t2 = true then ((bA.f n0 a0 a3).bind fun t3 => (aT.j2 n0 (t3) (a4) (a3) (a2) (a1) (a0) (false) (false) (false) (false) (false))) else (aT.j2 n0 (false) (a4) (a3) (a2) (a1) (a0) (false) (false) (false) (false) (false)))))) else ((bK.f n0 a0 a2).bind fun t1 => (if t1 = true then ((bA.f n0 a0 a3).bind fun t2 => (aT.j2 n0 (t2) (a4) (a3) (a2) (a1) (a0) (false) (false) (false) (false) (false))) else (aT.j2 n0 (false) (a4) (a3) (a2) (a1) (a0) (false) (false) (false) (false) (false)))))) := by kernel_rfl
theorem aT.wV (n0 : Nat) (x0 : Bool) (x1 x2 : Int) (x3 x4 x5 : Int) (x6 x7 : Bool) (x8 x9 x10 : Bool) : aT.j2 n0 x0 x1 x2 x3 x4 x5 x6 x7 x8 x9 x10 = ((aG.f n0 x5 [x3, x2, x1]).bind fun t0 => (if t0.1 = true then ((dD.f x5).bind fun t1 => (if t0.2 = true then (some ((t1, true, false, false, false, false))) else (some ((t1, x0, false, false, false, false))))) else (if x0 = true then ((dD.f x5).bind fun t1 => (if t0.2 = true then (some ((t1, true, false, false, false, false))) else (some ((t1, x0, false, false, false, false))))) else (aT.j5 n0 (x1) (x2) (x3) (x4) (x5) (x6) (x7) (x8) (x9) (x10))))) := by kernel_rfl
theorem aT.aCo (n0 : Nat) (x0 x1 : Int) (x2 x3 x4 : Int) (x5 x6 : Bool) (x7 x8 x9 : Bool) : aT.j5 n0 x0 x1 x2 x3 x4 x5 x6 x7 x8 x9 = ((bO.f x4 x2).bind fun t0 => ((bO.f x4 x1).bind fun t1 => ((bK.f n0 x4 x2).bind fun t2 => (if t2 = true then ((bK.f n0 x4 x0).bind fun t3 => (if t3 = true then ((bO.f x4 x0).bind fun t4 => (if (t4 == !t0 == t1) = true then ((bZ.f x4 !t0 == t1).bind fun t5 => (some ((t5, false, false, false, false, false)))) else ((dD.f x4).bind fun t5 => (some ((t5, true, false, false, false, false)))))) else ((bZ.f x4 !t0 == t1).bind fun t4 => (some ((t4, false, false, false, false, false)))))) else ((bK.f n0 x4 x1).bind fun t3 => (if t3 = true then ((bK.f n0 x4 x0).bind fun t4 => (if t4 = true then ((bO.f x4 x0).bind fun t5 => (if (t5 == !t0 == t1) = true then ((bZ.f x4 !t0 == t1).bind fun t6 => (some ((t6, false, false, false, false, false)))) else ((dD.f x4).bind fun t6 => (some ((t6, true, false, false, false, false)))))) else ((bZ.f x4 !t0 == t1).bind fun t5 => (some ((t5, false, false, false, false, false)))))) else ((bK.f n0 x4 x0).bind fun t4 => (if t4 = true then ((bG.f x4).bind fun t5 => (some ((bits BinOp.and IntKind.u32 x0 t5, false, false, false, false, false)))) else ((bA.f n0 x4 x2).bind fun t5 => (if t5 = true then ((bA.f n0 x4 x0).bind fun t6 => (if t6 = true then ((bO.f x4 x0).bind fun t7 => (if ((!t0 == t1) == t7) = true then ((bU.f x4 !t0 == t1).bind fun t8 => (some ((t8, false, false, false, false, false)))) else (aT.j14 n0 (!(t0 == t1)) (x0) (x1) (x2) (x3) (x4) (x5) (x6) (x7) (x8) (x9)))) else (aT.j14 n0 (!(t0 == t1)) (x0) (x1) (x2) (x3) (x4) (x5) (x6) (x7) (x8) (x9)))) else ((bA.f n0 x4 x1).bind fun t6 => (if t6 = true then ((bA.f n0 x4 x0).bind fun t7 => (if t7 = true then ((bO.f x4 x0).bind fun t8 => (if ((!t0 == t1) == t8) = true then ((bU.f x4 !t0 == t1).bind fun t9 => (some ((t9, false, false, false, false, false)))) else (aT.j14 n0 (!(t0 == t1)) (x0) (x1) (x2) (x3) (x4) (x5) (x6) (x7) (x8) (x9)))) else (aT.j14 n0 (!(t0 == t1)) (x0) (x1) (x2) (x3) (x4) (x5) (x6) (x7) (x8) (x9)))) else (aT.j14 n0 (!(t0 == t1)) (x0) (x1) (x2) (x3) (x4) (x5) (x6) (x7) (x8) (x9)))))))))))))) := by kernel_rfl
theorem aT.aCq (n0 : Nat) (x0 : Bool) (x1 x2 : Int) (x3 x4 x5 : Int) (x6 x7 : Bool) (x8 x9 x10 : Bool) : aT.j14 n0 x0 x1 x2 x3 x4 x5 x6 x7 x8 x9 x10 = ((bE.f n0 x5 x3).bind fun t0 => ((bE.f n0 x5 x2).bind fun t1 => ((dB.f n0 x0 (wrap64 (t0.2.1 + t1.2.1)) (IntKind.wrap IntKind.u64 (t0.2.2 * t1.2.2))).bind fun t2 => ((bE.f n0 x5 x1).bind fun t3 => ((dB.f n0 t3.1 t3.2.1 t3.2.2).bind fun t4 => ((dH.f n0 x5 x4 t2.1 t2.2 t4.1 t4.2).bind fun t5 => (some ((t5.1, t5.2.1, t5.2.2.1, t5.2.2.2.1, t5.2.2.2.2.1, t5.2.2.2.2.2))))))))) := by kernel_rfl
end E
namespace Round
open P Num BitsF
def Ev2 {α : Type} (g : Nat → Nat → Option α) (r : α) : Prop := ∃ K, ∀ k n, K ≤ k → K ≤ n → g k n = some r
theorem Ev2.of {α : Type} {g : Nat → Option α} {r : α} (h : Ev g r) : Ev2 (fun _ n => g n) r := by
 obtain ⟨K, h⟩ := h
 exact ⟨K, fun _ n _ hn => h n hn⟩
theorem Ev2.now {α : Type} (r : α) : Ev2 (fun _ _ => some r) r := ⟨0, fun _ _ _ _ => rfl⟩
theorem Ev2.step {α : Type} {g f : Nat → Nat → Option α} {r : α} (h : ∀ k n, g (k + 1) n = f k n) (k : Ev2 f r) : Ev2 g r := by
 obtain ⟨K, k⟩ := k
 refine ⟨K + 1, fun m n hm hn => ?_⟩
 obtain ⟨q, rfl⟩ : ∃ q, m = q + 1 := ⟨m - 1, by omega⟩
 rw [h]; exact k q n (by omega) (by omega)
theorem Ev2.congr {α : Type} {g f : Nat → Nat → Option α} {r : α} (h : ∀ k n, g k n = f k n) (k : Ev2 f r) : Ev2 g r := by
 obtain ⟨K, k⟩ := k
 exact ⟨K, fun m n hm hn => (h m n).trans (k m n hm hn)⟩
theorem Ev2.diag {α : Type} {g : Nat → Nat → Option α} {r : α} (h : Ev2 g r) : Ev (fun n => g n n) r := by
 obtain ⟨K, h⟩ := h
 exact ⟨K, fun n hn => h n n hn hn⟩
theorem Ev2.bind {α β : Type} {g : Nat → Option α} {f : Nat → Nat → α → Option β} {a : α} {r : β} (h : Ev g a) (k : Ev2 (fun m n => f m n a) r) : Ev2 (fun m n => (g n).bind (f m n)) r := by
 obtain ⟨K, h⟩ := h
 obtain ⟨K', k⟩ := k
 refine ⟨max K K', fun m n hm hn => ?_⟩
 show (g n).bind (f m n) = some r
 rw [h n (by omega)]; exact k m n (by omega) (by omega)
theorem Ev2.inner {α : Type} {g : Nat → Nat → Option α} {r : α} (h : Ev2 g r) : Ev2 (fun _ n => g n n) r := Ev2.of (Ev2.diag h)
def lim (xs : List Int) (i : Nat) : Nat := (rd xs (i : Int)).toNat
def lo (xs : List Int) : Nat → Nat
 |0 => 0
 |i + 1 => lo xs i + lim xs i * 2 ^ (64 * i)
structure l6 (xs : List Int) : Prop where
 len : xs.length = 10
 rng : ∀ i : Nat, 0 ≤ rd xs (i : Int) ∧ rd xs (i : Int) < 18446744073709551616
theorem l6.rd {xs : List Int} (h : l6 xs) (i : Nat) : YtolpdiifmacdbaaGreatW.PrintWords.rd xs (i : Int) = (lim xs i : Int) := by
 have := h.rng i; unfold lim; omega
theorem l6.lt {xs : List Int} (h : l6 xs) (i : Nat) : lim xs i < 18446744073709551616 := by
 have := h.rng i; unfold lim; omega
theorem xW (xs : List Int) (i j : Nat) (v : Int) (h : i < xs.length) : rd (xs.set i v) (j : Int) = if j = i then v else rd xs (j : Int) := by
 unfold rd
 rw [Int.toNat_natCast, List.getD_eq_getElem?_getD, List.getD_eq_getElem?_getD, List.getElem?_set]
 by_cases c : j = i
 ·subst c; rw [if_pos rfl, if_pos rfl, if_pos h]; rfl
 ·rw [if_neg (fun e => c e.symm), if_neg c]
theorem pR (xs : List Int) (i j : Nat) (v : Int) (h : i < xs.length) : lim (xs.set i v) j = if j = i then v.toNat else lim xs j := by
 unfold lim; rw [xW xs i j v h]; split <;> rfl
theorem l6.set {xs : List Int} (h : l6 xs) (i v : Nat) (hi : i < 10) (hv : v < 18446744073709551616) : l6 (xs.set i (v : Int)) := by
 refine ⟨by rw [List.length_set]; exact h.len, fun j => ?_⟩
 rw [xW xs i j _ (by rw [h.len]; exact hi)]
 split
 ·omega
 ·exact h.rng j
theorem lo_congr {xs ys : List Int} {i : Nat} (h : ∀ j, j < i → lim xs j = lim ys j) : lo xs i = lo ys i := by
 induction i with
 |zero => rfl
 |succ i ih => unfold lo; rw [ih (fun j hj => h j (by omega)), h i (by omega)]
theorem aBP (xs : List Int) (i : Nat) (v : Int) (h : i < xs.length) : lo (xs.set i v) i = lo xs i :=
 lo_congr fun j hj => by rw [pR xs i j v h, if_neg (by omega)]
theorem aBJ (xs : List Int) (i v : Nat) (h : i < xs.length) (h0 : lim xs i = 0) : ∀ n, i < n → lo (xs.set i (v : Int)) n = lo xs n + v * 2 ^ (64 * i) := by
 intro n
 induction n with
 |zero => intro h; omega
 |succ n ih =>
  intro hn
  unfold lo
  rw [pR xs i n _ h]
  by_cases c : n = i
  ·subst c
   rw [if_pos rfl, aBP xs n _ h, h0, Int.toNat_natCast]; omega
  ·rw [if_neg c, ih (by omega)]; omega
theorem lo_lt {xs : List Int} (h : l6 xs) (i : Nat) : lo xs i < 2 ^ (64 * i) := by
 induction i with
 |zero => exact Nat.one_pos
 |succ i ih =>
  unfold lo
  rw [show 64 * (i + 1) = 64 * i + 64 by omega, Nat.pow_add]
  have h1 := h.lt i
  have h2 : (lim xs i + 1) * 2 ^ (64 * i) ≤ 18446744073709551616 * 2 ^ (64 * i) := Nat.mul_le_mul_right _ h1
  rw [Nat.add_mul] at h2
  have : (2 : Nat) ^ 64 = 18446744073709551616 := by decide
  rw [this, Nat.mul_comm (2 ^ (64 * i))]
  omega
@[irreducible] def T640 : Nat := 2 ^ (64 * 10)
theorem xC : 2 ^ (64 * 10) = T640 := by unfold T640; rfl
theorem lo_top {xs : List Int} (h : l6 xs) : lo xs 10 < T640 := by rw [← xC]; exact lo_lt h 10
theorem tX {xs : List Int} (n : Nat) : lo xs n = 0 ↔ ∀ i, i < n → lim xs i = 0 := by
 induction n with
 |zero => exact ⟨fun _ i hi => by omega, fun _ => rfl⟩
 |succ n ih =>
  unfold lo
  have hp : 2 ^ (64 * n) ≠ 0 := by have := Nat.two_pow_pos (64 * n); omega
  constructor
  ·intro h i hi
   have h1 : lo xs n = 0 := by omega
   have h2 : lim xs n * 2 ^ (64 * n) = 0 := by omega
   by_cases c : i = n
   ·subst c; exact (Nat.mul_eq_zero.mp h2).resolve_right hp
   ·exact ih.mp h1 i (by omega)
  ·intro h
   rw [ih.mpr (fun i hi => h i (by omega)), h n (by omega), Nat.zero_mul]
theorem aCJ : l6 (List.replicate 10 (0 : Int)) := by
 refine ⟨rfl, fun i => ?_⟩
 unfold rd
 rw [List.getD_eq_getElem?_getD, List.getElem?_replicate]
 split <;> simp
theorem tC (i : Nat) : lim (List.replicate 10 (0 : Int)) i = 0 := by
 unfold lim rd
 rw [List.getD_eq_getElem?_getD, List.getElem?_replicate]
 split <;> simp
theorem uN {xs : List Int} (h : l6 xs) : (xs ++ [] == List.replicate 10 (0 : Int) ++ []) = decide (lo xs 10 = 0) := by
 rw [List.append_nil, List.append_nil]
 by_cases z : lo xs 10 = 0
 ·rw [decide_eq_true z, beq_iff_eq]
  refine List.ext_getElem (by rw [h.len]; rfl) fun i h1 h2 => ?_
  have h3 := (tX 10).mp z i (by rw [h.len] at h1; exact h1)
  have h4 := h.rd i
  rw [h3] at h4
  unfold rd at h4
  rw [Int.toNat_natCast, List.getD_eq_getElem?_getD, List.getElem?_eq_getElem h1] at h4
  rw [List.getElem_replicate]
  simpa using h4
 ·rw [decide_eq_false z, beq_eq_false_iff_ne]
  intro e
  apply z
  rw [e]
  exact (tX 10).mpr fun i _ => tC i
theorem nJ (xs : List Int) : lo xs 0 = 0 := rfl
theorem kW (xs : List Int) (i : Nat) : lo xs (i + 1) = lo xs i + lim xs i * 2 ^ (64 * i) := rfl
attribute [irreducible] lo
end Round
namespace Round
open P Num BitsF Fmt
theorem uT (m E F : Int) (h1 : m ≤ E) (h2 : E ≤ F) : 2 ^ (F - m).toNat = 2 ^ (F - E).toNat * 2 ^ (E - m).toNat := by
 rw [← Nat.pow_add]; congr 1; omega
end Round
end
end Go.Proofs.YtolpdiifmacdbaaGreat
