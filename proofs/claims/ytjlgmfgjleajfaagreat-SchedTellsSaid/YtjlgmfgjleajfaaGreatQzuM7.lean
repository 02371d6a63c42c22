import Derived.Test.YtjlgmfgjleajfaaGreatQzuM6
import Derived.Test.YtjlgmfgjleajfaaGreatQzuZ
import Derived.Test.YtjlgmfgjleajfaaGreatQzuM5
import Derived.Test.YtjlgmfgjleajfaaGreatQzuM4
import Derived.Test.YtjlgmfgjleajfaaGreatProg
import Derived.Test.YtjlgmfgjleajfaaGreatQzuWMore
/- Functions' trees, printed by a tool of mine out of the reckoner; Lean's kernel checks each. -/
set_option linter.unusedVariables false
set_option linter.unusedSimpArgs false
set_option maxRecDepth 100000
set_option maxHeartbeats 8000000
namespace Go.Proofs.YtjlgmfgjleajfaaGreat.L
open Go.RowKit Go.Proofs.YtjlgmfgjleajfaaGreat.P Go.Proofs.YtjlgmfgjleajfaaGreat.Ek Go.Proofs.YtjlgmfgjleajfaaGreatW.PrintWords Go.Proofs.YtjlgmfgjleajfaaGreatW.PrintLast Go.Proofs.YtjlgmfgjleajfaaGreatW.PrintMore
set_option maxRecDepth 100000
theorem bZ.eq (n0 : Nat) (a0 a1 : Int) (a2 : Bool) : bZ.f n0 a0 a1 a2 = (if a1 = 1 then ((dW.f a0 a2).bind fun t0 => (some ((t0, false, false, true, false, true)))) else (if a1 = 2 then (if a2 = true then ((dW.f a0 a2).bind fun t0 => (some ((t0, false, false, true, false, true)))) else ((dR.f a0 a2).bind fun t0 => (some ((t0, false, false, true, false, true))))) else (if a1 = 3 then (if a2 = true then ((dR.f a0 a2).bind fun t0 => (some ((t0, false, false, true, false, true)))) else ((dW.f a0 a2).bind fun t0 => (some ((t0, false, false, true, false, true))))) else ((dR.f a0 a2).bind fun t0 => (some ((t0, false, false, true, false, true))))))) := by kernel_rfl
noncomputable def aH.j7 (n0 : Nat) (x0 x1 : Bool) (x2 x3 : Int) (x4 x5 : Bool) (x6 x7 : Int) (x8 x9 : Bool) (x10 x11 : Int) (x12 : Bool) := jV Tryz.prog aH.cls Tryz.f82 aH.cuts [1, 1, 1, 0, 1] [n0] n0 ⟨[(39, (.pv (.one (.b (.q x0))))), (4, (.pv (.one (.p 2 0)))), (3, (.pv (.one (.p 1 0)))), (2, (.pv (.one (.p 0 0))))], [(2, (55, [(.c (.b (.q x1))), (.c (.i .i64 (.x x2))), (.c (.i .u64 (.x x3))), (.c (.b (.q x4)))])), (1, (55, [(.c (.b (.q x5))), (.c (.i .i64 (.x x6))), (.c (.i .u64 (.x x7))), (.c (.b (.q x8)))])), (0, (55, [(.c (.b (.q x9))), (.c (.i .i64 (.x x10))), (.c (.i .u64 (.x x11))), (.c (.b (.q x12)))]))], 3⟩ aH.K
noncomputable def aH.j8 (n0 : Nat) (x0 : Bool) (x1 x2 : Int) (x3 x4 : Bool) (x5 x6 : Int) (x7 x8 : Bool) (x9 x10 : Int) (x11 : Bool) := jV Tryz.prog aH.cls Tryz.f82 aH.cuts [1, 1, 1, 1] [n0] n0 ⟨[(4, (.pv (.one (.p 2 0)))), (3, (.pv (.one (.p 1 0)))), (2, (.pv (.one (.p 0 0))))], [(2, (55, [(.c (.b (.q x0))), (.c (.i .i64 (.x x1))), (.c (.i .u64 (.x x2))), (.c (.b (.q x3)))])), (1, (55, [(.c (.b (.q x4))), (.c (.i .i64 (.x x5))), (.c (.i .u64 (.x x6))), (.c (.b (.q x7)))])), (0, (55, [(.c (.b (.q x8))), (.c (.i .i64 (.x x9))), (.c (.i .u64 (.x x10))), (.c (.b (.q x11)))]))], 3⟩ aH.K
noncomputable def aH.j16 (n0 : Nat) (x0 : Bool) (x1 x2 : Int) (x3 x4 : Bool) (x5 x6 : Int) (x7 : Bool) := jV Tryz.prog aH.cls Tryz.f82 aH.cuts [1, 1, 1, 1, 1, 1, 1, 1, 1] [n0] n0 ⟨[(4, (.pv (.one (.p 2 0)))), (2, (.pv (.one (.p 0 0))))], [(2, (55, [(.c (.b (.q x0))), (.c (.i .i64 (.x x1))), (.c (.i .u64 (.x x2))), (.c (.b (.q x3)))])), (0, (55, [(.c (.b (.q x4))), (.c (.i .i64 (.x x5))), (.c (.i .u64 (.x x6))), (.c (.b (.q x7)))]))], 3⟩ aH.K
theorem aH.eq (n0 : Nat) (a0_0 : Bool) (a0_1 a0_2 : Int) (a0_3 a1_0 : Bool) (a1_1 a1_2 : Int) (a1_3 : Bool) : aH.f n0 a0_0 a0_1 a0_2 a0_3 a1_0 a1_1 a1_2 a1_3 = (if a0_2 = 0 then (some ((a1_0, a1_1, a1_2, a1_3))) else (if a1_2 = 0 then (some ((a0_0, a0_1, a0_2, a0_3))) else ((eG.f n0 a0_0 a0_1 a0_2 a0_3).bind fun t0 => ((eG.f n0 a1_0 a1_1 a1_2 a1_3).bind fun t1 => (if t0.2.1 < t1.2.1 then (aH.j7 n0 (true) (false) (Int.ofNat 0) (Int.ofNat 0) (false) (t1.1) t1.2.1 t1.2.2.1 (t1.2.2.2) (t0.1) t0.2.1 t0.2.2.1 (t0.2.2.2)) else (if t0.2.1 = t1.2.1 then (aH.j7 n0 (Decidable.rec (fun h => false) (fun h => true) (Int.decLt t0.2.2.1 t1.2.2.1)) (false) (Int.ofNat 0) (Int.ofNat 0) (false) (t1.1) t1.2.1 t1.2.2.1 (t1.2.2.2) (t0.1) t0.2.1 t0.2.2.1 (t0.2.2.2)) else (aH.j7 n0 (false) (false) (Int.ofNat 0) (Int.ofNat 0) (false) (t1.1) t1.2.1 t1.2.2.1 (t1.2.2.2) (t0.1) t0.2.1 t0.2.2.1 (t0.2.2.2)))))))) := by kernel_rfl
theorem aH.j7_eq (n0 : Nat) (x0 x1 : Bool) (x2 x3 : Int) (x4 x5 : Bool) (x6 x7 : Int) (x8 x9 : Bool) (x10 x11 : Int) (x12 : Bool) : aH.j7 n0 x0 x1 x2 x3 x4 x5 x6 x7 x8 x9 x10 x11 x12 = (if x0 = true then (aH.j8 n0 (x1) (x2) (x3) (x4) (x9) (x10) (x11) (x12) (x5) (x6) (x7) (x8)) else (aH.j8 n0 (x1) (x2) (x3) (x4) (x5) (x6) (x7) (x8) (x9) (x10) (x11) (x12))) := by kernel_rfl
theorem aH.aCg (n0 : Nat) (x0 : Bool) (x1 x2 : Int) (x3 x4 : Bool) (x5 x6 : Int) (x7 x8 : Bool) (x9 x10 : Int) (x11 : Bool) : aH.j8 n0 x0 x1 x2 x3 x4 x5 x6 x7 x8 x9 x10 x11 = ((aV.f n0 x6 (wrap64 (x9 - x5))).bind fun t0 => (if (x8 == x4) = true then (some ((x8, x9, IntKind.wrap IntKind.u64 (x10 + t0.1), t0.2))) else (if t0.2 = true then (aH.j16 n0 (x0) (x1) (x2) (x3) (x8) (x9) (IntKind.wrap IntKind.u64 (IntKind.wrap IntKind.u64 (x10 - t0.1) - 1)) (t0.2)) else (aH.j16 n0 (x0) (x1) (x2) (x3) (x8) (x9) (IntKind.wrap IntKind.u64 (x10 - t0.1)) (t0.2))))) := by kernel_rfl
theorem aH.j16_eq (n0 : Nat) (x0 : Bool) (x1 x2 : Int) (x3 x4 : Bool) (x5 x6 : Int) (x7 : Bool) : aH.j16 n0 x0 x1 x2 x3 x4 x5 x6 x7 = (some ((x4, x5, x6, x7))) := by kernel_rfl
noncomputable def aA.j3 (n0 : Nat) (x0 x1 : Bool) (x2 x3 : Int) (x4 : Bool) (x5 x6 : Int) (x7 x8 : Bool) (x9 x10 x11 : Bool) := jV Tryz.prog aA.cls Tryz.f57 aA.cuts [1, 1, 0, 1] [n0] n0 ⟨[(35, (.pv (.one (.b (.q x0))))), (13, (.pv (.one (.p 0 0)))), (5, (.pv (.one (.b (.q x1))))), (4, (.pv (.one (.i .u64 (.x x2))))), (3, (.pv (.one (.i .i64 (.x x3))))), (2, (.pv (.one (.b (.q x4))))), (1, (.pv (.one (.i .i64 (.x x5))))), (0, (.pv (.one (.i .i64 (.x x6)))))], [(0, (42, [(.c (.b (.q x7))), (.c (.b (.q x8))), (.c (.b (.q x9))), (.c (.b (.q x10))), (.c (.b (.q x11)))]))], 1⟩ aA.K
noncomputable def aA.j9 (n0 : Nat) (x0 x1 x2 : Int) (x3 : Bool) (x4 x5 : Int) (x6 : Bool) (x7 x8 : Int) (x9 x10 : Bool) (x11 x12 x13 : Bool) := jV Tryz.prog aA.cls Tryz.f57 aA.cuts [1, 1, 1, 1, 1, 1, 1] [n0] n0 ⟨[(17, (.pv (.one (.i .i64 (.x x0))))), (16, (.pv (.one (.i .i64 (.x x1))))), (15, (.pv (.one (.i .i64 (.x x2))))), (13, (.pv (.one (.p 0 0)))), (5, (.pv (.one (.b (.q x3))))), (4, (.pv (.one (.i .u64 (.x x4))))), (3, (.pv (.one (.i .i64 (.x x5))))), (2, (.pv (.one (.b (.q x6))))), (1, (.pv (.one (.i .i64 (.x x7))))), (0, (.pv (.one (.i .i64 (.x x8)))))], [(0, (42, [(.c (.b (.q x9))), (.c (.b (.q x10))), (.c (.b (.q x11))), (.c (.b (.q x12))), (.c (.b (.q x13)))]))], 1⟩ aA.K
noncomputable def aA.j12 (n0 : Nat) (x0 x1 : Bool) (x2 x3 : Int) (x4 x5 x6 : Int) (x7 : Bool) (x8 x9 : Int) (x10 x11 : Bool) (x12 x13 x14 : Bool) := jV Tryz.prog aA.cls Tryz.f57 aA.cuts [1, 1, 1, 1, 1, 1, 1, 1, 1, 1] [n0] n0 ⟨[(21, (.pv (.one (.b (.q x0))))), (20, (.pv (.one (.b (.q x1))))), (19, (.pv (.one (.i .u64 (.x x2))))), (18, (.pv (.one (.i .i64 (.x x3))))), (17, (.pv (.one (.i .i64 (.x x4))))), (16, (.pv (.one (.i .i64 (.x x5))))), (15, (.pv (.one (.i .i64 (.x x6))))), (13, (.pv (.one (.p 0 0)))), (2, (.pv (.one (.b (.q x7))))), (1, (.pv (.one (.i .i64 (.x x8))))), (0, (.pv (.one (.i .i64 (.x x9)))))], [(0, (42, [(.c (.b (.q x10))), (.c (.b (.q x11))), (.c (.b (.q x12))), (.c (.b (.q x13))), (.c (.b (.q x14)))]))], 1⟩ aA.K
noncomputable def aA.j13 (n0 : Nat) (x0 x1 x2 : Bool) (x3 x4 : Int) (x5 x6 x7 : Int) (x8 : Bool) (x9 x10 : Int) (x11 x12 : Bool) (x13 x14 x15 : Bool) := jV Tryz.prog aA.cls Tryz.f57 aA.cuts [1, 1, 1, 1, 1, 1, 1, 1, 1, 1, 1] [n0] n0 ⟨[(22, (.pv (.one (.b (.q x0))))), (21, (.pv (.one (.b (.q x1))))), (20, (.pv (.one (.b (.q x2))))), (19, (.pv (.one (.i .u64 (.x x3))))), (18, (.pv (.one (.i .i64 (.x x4))))), (17, (.pv (.one (.i .i64 (.x x5))))), (16, (.pv (.one (.i .i64 (.x x6))))), (15, (.pv (.one (.i .i64 (.x x7))))), (13, (.pv (.one (.p 0 0)))), (2, (.pv (.one (.b (.q x8))))), (1, (.pv (.one (.i .i64 (.x x9))))), (0, (.pv (.one (.i .i64 (.x x10)))))], [(0, (42, [(.c (.b (.q x11))), (.c (.b (.q x12))), (.c (.b (.q x13))), (.c (.b (.q x14))), (.c (.b (.q x15)))]))], 1⟩ aA.K
noncomputable def aA.j15 (n0 : Nat) (x0 : Bool) (x1 x2 : Int) (x3 x4 x5 : Int) (x6 : Bool) (x7 x8 : Int) (x9 x10 : Bool) (x11 x12 x13 : Bool) := jV Tryz.prog aA.cls Tryz.f57 aA.cuts [1, 1, 1, 1, 1, 1, 1, 1, 1, 1, 1, 1] [n0] n0 ⟨[(22, (.pv (.one (.b (.q x0))))), (19, (.pv (.one (.i .u64 (.x x1))))), (18, (.pv (.one (.i .i64 (.x x2))))), (17, (.pv (.one (.i .i64 (.x x3))))), (16, (.pv (.one (.i .i64 (.x x4))))), (15, (.pv (.one (.i .i64 (.x x5))))), (13, (.pv (.one (.p 0 0)))), (2, (.pv (.one (.b (.q x6))))), (1, (.pv (.one (.i .i64 (.x x7))))), (0, (.pv (.one (.i .i64 (.x x8)))))], [(0, (42, [(.c (.b (.q x9))), (.c (.b (.q x10))), (.c (.b (.q x11))), (.c (.b (.q x12))), (.c (.b (.q x13)))]))], 1⟩ aA.K
noncomputable def aA.j18 (n0 : Nat) (x0 x1 x2 : Int) (x3 : Bool) (x4 x5 : Int) (x6 x7 : Bool) (x8 x9 : Bool) (x10 x11 : Bool) (x12 x13 : Bool) (x14 x15 : Bool) := jV Tryz.prog aA.cls Tryz.f57 aA.cuts [1, 1, 1, 1, 1, 1, 1, 1, 1, 1, 1, 1, 1, 1] [n0] n0 ⟨[(23, (.pv (.one (.p 1 0)))), (19, (.pv (.one (.i .u64 (.x x0))))), (18, (.pv (.one (.i .i64 (.x x1))))), (15, (.pv (.one (.i .i64 (.x x2))))), (13, (.pv (.one (.p 0 0)))), (2, (.pv (.one (.b (.q x3))))), (1, (.pv (.one (.i .i64 (.x x4))))), (0, (.pv (.one (.i .i64 (.x x5)))))], [(1, (42, [(.c (.b (.q x6))), (.c (.b (.q x7))), (.c (.b (.q x8))), (.c (.b (.q x9))), (.c (.b (.q x10)))])), (0, (42, [(.c (.b (.q x11))), (.c (.b (.q x12))), (.c (.b (.q x13))), (.c (.b (.q x14))), (.c (.b (.q x15)))]))], 2⟩ aA.K
theorem aA.eq (n0 : Nat) (a0 a1 : Int) (a2 : Bool) (a3 a4 : Int) (a5 : Bool) : aA.f n0 a0 a1 a2 a3 a4 a5 = (if a4 = 0 then (aA.j3 n0 (!(a5)) (a5) (a4) (mn (mx a3 (-10000)) 10000) (a2) (a1) (a0) (false) (false) (false) (false) (false)) else (aA.j3 n0 (false) (a5) (a4) (mn (mx a3 (-10000)) 10000) (a2) (a1) (a0) (false) (false) (false) (false) (false))) := by kernel_rfl
theorem aA.j3_eq (n0 : Nat) (x0 x1 : Bool) (x2 x3 : Int) (x4 : Bool) (x5 x6 : Int) (x7 x8 : Bool) (x9 x10 x11 : Bool) : aA.j3 n0 x0 x1 x2 x3 x4 x5 x6 x7 x8 x9 x10 x11 = (if x0 = true then ((bV.f x6 x4).bind fun t0 => (some ((t0, false, false, false, false, false)))) else ((aK.f x6).bind fun t0 => ((bF.f x6).bind fun t1 => ((aW.f n0 x2).bind fun t2 => (if x2 = 0 then (aA.j9 n0 (Int.negSucc 19999) (wrap64 (1 - t1)) t0.2 (x1) (x2) (x3) (x4) (x5) (x6) (x7) (x8) (x9) (x10) (x11)) else (aA.j9 n0 (wrap64 (wrap64 (x3 + t2) - 1)) (wrap64 (1 - t1)) t0.2 (x1) (x2) (x3) (x4) (x5) (x6) (x7) (x8) (x9) (x10) (x11))))))) := by kernel_rfl
theorem aA.j9_eq (n0 : Nat) (x0 x1 x2 : Int) (x3 : Bool) (x4 x5 : Int) (x6 : Bool) (x7 x8 : Int) (x9 x10 : Bool) (x11 x12 x13 : Bool) : aA.j9 n0 x0 x1 x2 x3 x4 x5 x6 x7 x8 x9 x10 x11 x12 x13 = ((bI.f n0 x4 (wrap64 (wrap64 (mx x0 x1 - x2) - x5))).bind fun t0 => (if t0.2.2 = true then (aA.j12 n0 (true) (t0.2.1) t0.1 (wrap64 (mx x0 x1 - x2)) (x0) (x1) (x2) (x6) (x7) (x8) (x9) (x10) (x11) (x12) (x13)) else (aA.j12 n0 (x3) (t0.2.1) t0.1 (wrap64 (mx x0 x1 - x2)) (x0) (x1) (x2) (x6) (x7) (x8) (x9) (x10) (x11) (x12) (x13)))) := by kernel_rfl
theorem aA.aA4 (n0 : Nat) (x0 x1 : Bool) (x2 x3 : Int) (x4 x5 x6 : Int) (x7 : Bool) (x8 x9 : Int) (x10 x11 : Bool) (x12 x13 x14 : Bool) : aA.j12 n0 x0 x1 x2 x3 x4 x5 x6 x7 x8 x9 x10 x11 x12 x13 x14 = (if x1 = true then (aA.j13 n0 (true) (x0) (x1) (x2) (x3) (x4) (x5) (x6) (x7) (x8) (x9) (x10) (x11) (x12) (x13) (x14)) else (aA.j13 n0 (x0) (x0) (x1) (x2) (x3) (x4) (x5) (x6) (x7) (x8) (x9) (x10) (x11) (x12) (x13) (x14))) := by kernel_rfl
theorem aA.j13_eq (n0 : Nat) (x0 x1 x2 : Bool) (x3 x4 : Int) (x5 x6 x7 : Int) (x8 : Bool) (x9 x10 : Int) (x11 x12 : Bool) (x13 x14 x15 : Bool) : aA.j13 n0 x0 x1 x2 x3 x4 x5 x6 x7 x8 x9 x10 x11 x12 x13 x14 x15 = ((fC.f x9 x8 (bits BinOp.and IntKind.u64 x3 1 == 1) x2 x1).bind fun t0 => (if t0 = true then (aA.j15 n0 (x0) (IntKind.wrap IntKind.u64 (x3 + 1)) (x4) (x5) (x6) (x7) (x8) (x9) (x10) (x11) (x12) (x13) (x14) (x15)) else (aA.j15 n0 (x0) (x3) (x4) (x5) (x6) (x7) (x8) (x9) (x10) (x11) (x12) (x13) (x14) (x15)))) := by kernel_rfl
theorem aA.aCv (n0 : Nat) (x0 : Bool) (x1 x2 : Int) (x3 x4 x5 : Int) (x6 : Bool) (x7 x8 : Int) (x9 x10 : Bool) (x11 x12 x13 : Bool) : aA.j15 n0 x0 x1 x2 x3 x4 x5 x6 x7 x8 x9 x10 x11 x12 x13 = (if x0 = true then (if 0 ≤ wrap64 (x5 + 1) then (if x1 = shl IntKind.u64 1 (wrap64 (x5 + 1)) then (aA.j18 n0 (shr IntKind.u64 x1 1) (wrap64 (x2 + 1)) (x5) (x6) (x7) (x8) (false) (false) (false) (Decidable.rec (fun h => false) (fun h => true) (Int.decLt x3 x4)) (x0) (x9) (x10) (x11) (x12) (x13)) else (aA.j18 n0 (x1) (x2) (x5) (x6) (x7) (x8) (false) (false) (false) (Decidable.rec (fun h => false) (fun h => true) (Int.decLt x3 x4)) (x0) (x9) (x10) (x11) (x12) (x13))) else none) else (if 0 ≤ wrap64 (x5 + 1) then (if x1 = shl IntKind.u64 1 (wrap64 (x5 + 1)) then (aA.j18 n0 (shr IntKind.u64 x1 1) (wrap64 (x2 + 1)) (x5) (x6) (x7) (x8) (false) (false) (false) (false) (x0) (x9) (x10) (x11) (x12) (x13)) else (aA.j18 n0 (x1) (x2) (x5) (x6) (x7) (x8) (false) (false) (false) (false) (x0) (x9) (x10) (x11) (x12) (x13))) else none)) := by kernel_rfl
theorem aA.j18_eq (n0 : Nat) (x0 x1 x2 : Int) (x3 : Bool) (x4 x5 : Int) (x6 x7 : Bool) (x8 x9 : Bool) (x10 x11 : Bool) (x12 x13 : Bool) (x14 x15 : Bool) : aA.j18 n0 x0 x1 x2 x3 x4 x5 x6 x7 x8 x9 x10 x11 x12 x13 x14 x15 = (if 0 ≤ x2 then (if x0 < shl IntKind.u64 1 x2 then ((bR.f x5 x3).bind fun t0 => (some ((bits BinOp.or IntKind.u32 t0 (x0 % 4294967296), x6, x7, x8, x9, x10)))) else ((bF.f x5).bind fun t0 => ((aK.f x5).bind fun t1 => (if 0 ≤ t1.1 then (if wrap64 (shl IntKind.i64 1 t1.1 - 1) ≤ wrap64 (wrap64 (x1 + x2) + t0) then ((aR.f n0 x5 x4 x3).bind fun t2 => (some ((t2, false, false, true, false, true)))) else (if 0 ≤ x2 then (if 0 ≤ x2 then ((bR.f x5 x3).bind fun t2 => (some ((bits BinOp.or IntKind.u32 (bits BinOp.or IntKind.u32 t2 (shl IntKind.u32 (wrap64 (wrap64 (x1 + x2) + t0) % 4294967296) x2)) (bits BinOp.and IntKind.u64 x0 (IntKind.wrap IntKind.u64 (shl IntKind.u64 1 x2 - 1)) % 4294967296), x6, x7, x8, x9, x10)))) else none) else none)) else none)))) else none) := by kernel_rfl
end Go.Proofs.YtjlgmfgjleajfaaGreat.L

-- Printed by a program of this session's out of Lean's print of the translation; Lean checks it.
namespace Go.Proofs.YtjlgmfgjleajfaaGreat.P
open Go.RowKit Go.Proofs.YtjlgmfgjleajfaaGreatW.PrintWords Go.Proofs.YtjlgmfgjleajfaaGreatW.PrintLast Go.Proofs.YtjlgmfgjleajfaaGreatW.PrintMore
attribute [local go_sem] max2_int min2_int max_two min_two max_three min_three max_four min_four

-- NEED 0
/-! ### aA: function 57 -/
mutual
def aA.j0 : Nat → Int → Int → Bool → Int → Int → Bool → Bool → Option (Int × Bool × Bool × Bool × Bool × Bool)
 |0, _, _, _, _, _, _, _ => none
 |k + 1, x0, x1, x2, x3, x4, x5, x35 => if x35 = true then ((bV.f x0 x2).bind fun t620 => (some (t620, false, false, false, false, false))) else ((aK.f x0).bind fun bt621 => ((bF.f x0).bind fun t623 => ((aW.f k x4).bind fun t624 => (if x4 = 0 then (aA.j1 k x0 x1 x2 x3 x4 x5 bt621.2 (wrap64 (1 - t623)) (-20000)) else (aA.j1 k x0 x1 x2 x3 x4 x5 bt621.2 (wrap64 (1 - t623)) (wrap64 ((wrap64 (x3 + t624)) - 1)))))))
def aA.j1 : Nat → Int → Int → Bool → Int → Int → Bool → Int → Int → Int → Option (Int × Bool × Bool × Bool × Bool × Bool)
 |0, _, _, _, _, _, _, _, _, _ => none
 |k + 1, x0, x1, x2, x3, x4, x5, x15, x16, x17 => (bI.f k x4 (wrap64 ((wrap64 ((mx x17 x16) - x15)) - x3))).bind fun bt625 => (if bt625.2.2 = true then (aA.j2 k x0 x1 x2 x15 x16 x17 (wrap64 ((mx x17 x16) - x15)) bt625.1 bt625.2.1 true) else (aA.j2 k x0 x1 x2 x15 x16 x17 (wrap64 ((mx x17 x16) - x15)) bt625.1 bt625.2.1 x5))
def aA.j2 : Nat → Int → Int → Bool → Int → Int → Int → Int → Int → Bool → Bool → Option (Int × Bool × Bool × Bool × Bool × Bool)
 |0, _, _, _, _, _, _, _, _, _, _ => none
 |k + 1, x0, x1, x2, x15, x16, x17, x18, x19, x20, x21 => if x20 = true then (aA.j3 k x0 x1 x2 x15 x16 x17 x18 x19 x20 x21 true) else (aA.j3 k x0 x1 x2 x15 x16 x17 x18 x19 x20 x21 x21)
def aA.j3 : Nat → Int → Int → Bool → Int → Int → Int → Int → Int → Bool → Bool → Bool → Option (Int × Bool × Bool × Bool × Bool × Bool)
 |0, _, _, _, _, _, _, _, _, _, _, _ => none
 |k + 1, x0, x1, x2, x15, x16, x17, x18, x19, x20, x21, x22 => (fC.f x1 x2 ((Go.bits .and .u64 x19 1) == 1) x20 x21).bind fun t628 => (if t628 = true then (aA.j4 k x0 x1 x2 x15 x16 x17 x18 (IntKind.u64.wrap (x19 + 1)) x22) else (aA.j4 k x0 x1 x2 x15 x16 x17 x18 x19 x22))
def aA.j4 : Nat → Int → Int → Bool → Int → Int → Int → Int → Int → Bool → Option (Int × Bool × Bool × Bool × Bool × Bool)
 |0, _, _, _, _, _, _, _, _, _ => none
 |k + 1, x0, x1, x2, x15, x16, x17, x18, x19, x22 => if x22 = true then (if 0 ≤ (wrap64 (x15 + 1)) then (if x19 = (shl .u64 1 (wrap64 (x15 + 1))) then (aA.j5 k x0 x1 x2 x15 (wrap64 (x18 + 1)) (x19 / 2) false false false (decide (x17 < x16)) x22) else (aA.j5 k x0 x1 x2 x15 x18 x19 false false false (decide (x17 < x16)) x22)) else (none)) else (if 0 ≤ (wrap64 (x15 + 1)) then (if x19 = (shl .u64 1 (wrap64 (x15 + 1))) then (aA.j6 k x0 x1 x2 x15 (wrap64 (x18 + 1)) (x19 / 2) false false false false x22) else (aA.j6 k x0 x1 x2 x15 x18 x19 false false false false x22)) else (none))
def aA.j5 : Nat → Int → Int → Bool → Int → Int → Int → Bool → Bool → Bool → Bool → Bool → Option (Int × Bool × Bool × Bool × Bool × Bool)
 |0, _, _, _, _, _, _, _, _, _, _, _ => none
 |k + 1, x0, x1, x2, x15, x18, x19, x630000, x630001, x630002, x630003, x630004 => if 0 ≤ x15 then (if x19 < (shl .u64 1 x15) then ((bR.f x0 x2).bind fun t630 => (some (Go.bits .or .u32 t630 ((x19) % 4294967296), x630000, x630001, x630002, x630003, x630004))) else ((bF.f x0).bind fun t631 => ((aK.f x0).bind fun bt632 => (if 0 ≤ bt632.1 then (if (wrap64 ((wrap64 (x18 + x15)) + t631)) ≥ (wrap64 ((shl .i64 1 bt632.1) - 1)) then ((aR.f k x0 x1 x2).bind fun t634 => (some (t634, false, false, true, false, true))) else ((bR.f x0 x2).bind fun t635 => (some (Go.bits .or .u32 (Go.bits .or .u32 t635 (shl .u32 ((wrap64 ((wrap64 (x18 + x15)) + t631)) % 4294967296) x15)) ((Go.bits .and .u64 x19 (IntKind.u64.wrap ((shl .u64 1 x15) - 1))) % 4294967296), x630000, x630001, x630002, x630003, x630004)))) else (none))))) else (none)
def aA.j6 : Nat → Int → Int → Bool → Int → Int → Int → Bool → Bool → Bool → Bool → Bool → Option (Int × Bool × Bool × Bool × Bool × Bool)
 |0, _, _, _, _, _, _, _, _, _, _, _ => none
 |k + 1, x0, x1, x2, x15, x18, x19, x637000, x637001, x637002, x637003, x637004 => if 0 ≤ x15 then (if x19 < (shl .u64 1 x15) then ((bR.f x0 x2).bind fun t637 => (some (Go.bits .or .u32 t637 ((x19) % 4294967296), x637000, x637001, x637002, x637003, x637004))) else ((bF.f x0).bind fun t638 => ((aK.f x0).bind fun bt639 => (if 0 ≤ bt639.1 then (if (wrap64 ((wrap64 (x18 + x15)) + t638)) ≥ (wrap64 ((shl .i64 1 bt639.1) - 1)) then ((aR.f k x0 x1 x2).bind fun t641 => (some (t641, false, false, true, false, true))) else ((bR.f x0 x2).bind fun t642 => (some (Go.bits .or .u32 (Go.bits .or .u32 t642 (shl .u32 ((wrap64 ((wrap64 (x18 + x15)) + t638)) % 4294967296) x15)) ((Go.bits .and .u64 x19 (IntKind.u64.wrap ((shl .u64 1 x15) - 1))) % 4294967296), x637000, x637001, x637002, x637003, x637004)))) else (none))))) else (none)
end
def aA.f (k : Nat) (a0 a1 : Int) (a2 : Bool) (a3 a4 : Int) (a5 : Bool) : Option (Int × Bool × Bool × Bool × Bool × Bool) := if a4 = 0 then (aA.j0 k a0 a1 a2 (mn (mx a3 (-10000)) 10000) a4 a5 (!a5)) else (aA.j0 k a0 a1 a2 (mn (mx a3 (-10000)) 10000) a4 a5 false)
/- What the reckoner tells of printed functions. -/
set_option maxRecDepth 100000
set_option maxHeartbeats 4000000 in
theorem bZ.le {k n : Nat} (hk : k ≤ n) {a0 a1 : Int} {a2 : Bool} : LeO (bZ.f a0 a1 a2) (L.bZ.f n a0 a1 a2) := by
 unfold bZ.f
 rw [L.bZ.eq]
 try simp only [Bool.and_true]
 repeat' first
  |(with_reducible exact LeO.refl _)
  |exact LeO.none _
  |(with_reducible first|refine LeO.bind ?_ (fun _ => ?_)|refine LeO.iU Iff.rfl (fun _ => ?_) (fun _ => ?_))
  |exact LeO.refl _
  |(with_reducible first|refine LeO.pos (by assumption) ?_|refine LeO.neg (by assumption) ?_|refine LeO.mX (by assumption) ?_|refine LeO.mZ (by assumption) ?_|refine LeO.iU (by omega) (fun _ => ?_) (fun _ => ?_))
theorem aH.kI {k n : Nat} (hk : k ≤ n) {x334000 : Bool} {x334001 x334002 : Int} {x334003 ex0 : Bool} {ex1 ex2 : Int} {ex3 : Bool} : LeO (aH.j2 k x334000 x334001 x334002 x334003) (L.aH.j16 n ex0 ex1 ex2 ex3 x334000 x334001 x334002 x334003) := by
 cases k with
 |zero => rw [aH.j2]; exact LeO.none _
 |succ k =>
 replace hk := Nat.le_of_succ_le hk
 rw [aH.j2, L.aH.j16_eq]
 repeat' first
  |(with_reducible exact LeO.refl _)
  |exact LeO.none _
  |(with_reducible first|exact fun r h => at_rounds (eG.mono _ _ _ _) hk h|exact fun r h => at_rounds (aV.mono _ _) hk h|refine LeO.bind ?_ (fun _ => ?_)|refine LeO.iU Iff.rfl (fun _ => ?_) (fun _ => ?_))
  |exact fun r h => at_rounds (eG.mono _ _ _ _) hk h
  |exact fun r h => at_rounds (aV.mono _ _) hk h
  |exact LeO.refl _
  |(with_reducible first|refine LeO.pos (by assumption) ?_|refine LeO.neg (by assumption) ?_|refine LeO.mX (by assumption) ?_|refine LeO.mZ (by assumption) ?_|refine LeO.iU (by omega) (fun _ => ?_) (fun _ => ?_))
theorem aH.iM {k n : Nat} (hk : k ≤ n) {x334000 : Bool} {x334001 x334002 : Int} {x334003 x335000 : Bool} {x335001 x335002 : Int} {x335003 ex0 : Bool} {ex1 ex2 : Int} {ex3 : Bool} : LeO (aH.j1 k x334000 x334001 x334002 x334003 x335000 x335001 x335002 x335003) (L.aH.j8 n ex0 ex1 ex2 ex3 x335000 x335001 x335002 x335003 x334000 x334001 x334002 x334003) := by
 cases k with
 |zero => rw [aH.j1]; exact LeO.none _
 |succ k =>
 replace hk := Nat.le_of_succ_le hk
 rw [aH.j1, L.aH.aCg]
 repeat' first
  |(with_reducible exact LeO.refl _)
  |exact LeO.none _
  |(with_reducible first|exact aH.kI hk|exact fun r h => at_rounds (eG.mono _ _ _ _) hk h|exact fun r h => at_rounds (aV.mono _ _) hk h|refine LeO.bind ?_ (fun _ => ?_)|refine LeO.iU Iff.rfl (fun _ => ?_) (fun _ => ?_))
  |exact aH.kI hk
  |exact fun r h => at_rounds (eG.mono _ _ _ _) hk h
  |exact fun r h => at_rounds (aV.mono _ _) hk h
  |exact LeO.refl _
  |(with_reducible first|refine LeO.pos (by assumption) ?_|refine LeO.neg (by assumption) ?_|refine LeO.mX (by assumption) ?_|refine LeO.mZ (by assumption) ?_|refine LeO.iU (by omega) (fun _ => ?_) (fun _ => ?_))
theorem aH.kT {k n : Nat} (hk : k ≤ n) {x39 x334000 : Bool} {x334001 x334002 : Int} {x334003 x335000 : Bool} {x335001 x335002 : Int} {x335003 ex1 : Bool} {ex2 ex3 : Int} {ex4 : Bool} : LeO (aH.j0 k x39 x334000 x334001 x334002 x334003 x335000 x335001 x335002 x335003) (L.aH.j7 n x39 ex1 ex2 ex3 ex4 x335000 x335001 x335002 x335003 x334000 x334001 x334002 x334003) := by
 cases k with
 |zero => rw [aH.j0]; exact LeO.none _
 |succ k =>
 replace hk := Nat.le_of_succ_le hk
 rw [aH.j0, L.aH.j7_eq]
 repeat' first
  |(with_reducible exact LeO.refl _)
  |exact LeO.none _
  |(with_reducible first|exact aH.kI hk|exact aH.iM hk|exact fun r h => at_rounds (eG.mono _ _ _ _) hk h|exact fun r h => at_rounds (aV.mono _ _) hk h|refine LeO.bind ?_ (fun _ => ?_)|refine LeO.iU Iff.rfl (fun _ => ?_) (fun _ => ?_))
  |exact aH.kI hk
  |exact aH.iM hk
  |exact fun r h => at_rounds (eG.mono _ _ _ _) hk h
  |exact fun r h => at_rounds (aV.mono _ _) hk h
  |exact LeO.refl _
  |(with_reducible first|refine LeO.pos (by assumption) ?_|refine LeO.neg (by assumption) ?_|refine LeO.mX (by assumption) ?_|refine LeO.mZ (by assumption) ?_|refine LeO.iU (by omega) (fun _ => ?_) (fun _ => ?_))
set_option maxHeartbeats 4000000 in
theorem aH.le {k n : Nat} (hk : k ≤ n) {a0_0 : Bool} {a0_1 a0_2 : Int} {a0_3 a1_0 : Bool} {a1_1 a1_2 : Int} {a1_3 : Bool} : LeO (aH.f k a0_0 a0_1 a0_2 a0_3 a1_0 a1_1 a1_2 a1_3) (L.aH.f n a0_0 a0_1 a0_2 a0_3 a1_0 a1_1 a1_2 a1_3) := by
 unfold aH.f
 rw [L.aH.eq]
 try simp only [Bool.and_true]
 repeat' first
  |(with_reducible exact LeO.refl _)
  |exact LeO.none _
  |(with_reducible first|exact aH.kI hk|exact aH.iM hk|exact aH.kT hk|exact fun r h => at_rounds (eG.mono _ _ _ _) hk h|exact fun r h => at_rounds (aV.mono _ _) hk h|refine LeO.bind ?_ (fun _ => ?_)|refine LeO.iU Iff.rfl (fun _ => ?_) (fun _ => ?_))
  |exact aH.kI hk
  |exact aH.iM hk
  |exact aH.kT hk
  |exact fun r h => at_rounds (eG.mono _ _ _ _) hk h
  |exact fun r h => at_rounds (aV.mono _ _) hk h
  |exact LeO.refl _
  |(with_reducible first|refine LeO.pos (by assumption) ?_|refine LeO.neg (by assumption) ?_|refine LeO.mX (by assumption) ?_|refine LeO.mZ (by assumption) ?_|refine LeO.iU (by omega) (fun _ => ?_) (fun _ => ?_))
theorem aA.oV {k n : Nat} (hk : k ≤ n) {x0 x1 : Int} {x2 : Bool} {x15 x18 x19 : Int} {x637000 x637001 : Bool} {x637002 x637003 : Bool} {x637004 ex11 : Bool} {ex12 ex13 : Bool} {ex14 ex15 : Bool} : LeO (aA.j6 k x0 x1 x2 x15 x18 x19 x637000 x637001 x637002 x637003 x637004) (L.aA.j18 n x19 x18 x15 x2 x1 x0 x637000 x637001 x637002 x637003 x637004 ex11 ex12 ex13 ex14 ex15) := by
 cases k with
 |zero => rw [aA.j6]; exact LeO.none _
 |succ k =>
 replace hk := Nat.le_of_succ_le hk
 rw [aA.j6, L.aA.j18_eq]
 repeat' first
  |(with_reducible exact LeO.refl _)
  |exact LeO.none _
  |(with_reducible first|exact fun r h => at_rounds (aW.mono _) hk h|exact fun r h => at_rounds (bI.mono _ _) hk h|exact fun r h => at_rounds (aR.mono _ _ _) hk h|refine LeO.bind ?_ (fun _ => ?_)|refine LeO.iU Iff.rfl (fun _ => ?_) (fun _ => ?_))
  |exact fun r h => at_rounds (aW.mono _) hk h
  |exact fun r h => at_rounds (bI.mono _ _) hk h
  |exact fun r h => at_rounds (aR.mono _ _ _) hk h
  |exact LeO.refl _
  |(with_reducible first|refine LeO.pos (by assumption) ?_|refine LeO.neg (by assumption) ?_|refine LeO.mX (by assumption) ?_|refine LeO.mZ (by assumption) ?_|refine LeO.iU (by omega) (fun _ => ?_) (fun _ => ?_))
theorem aA.rM {k n : Nat} (hk : k ≤ n) {x0 x1 : Int} {x2 : Bool} {x15 x18 x19 : Int} {x630000 x630001 : Bool} {x630002 x630003 : Bool} {x630004 ex11 : Bool} {ex12 ex13 : Bool} {ex14 ex15 : Bool} : LeO (aA.j5 k x0 x1 x2 x15 x18 x19 x630000 x630001 x630002 x630003 x630004) (L.aA.j18 n x19 x18 x15 x2 x1 x0 x630000 x630001 x630002 x630003 x630004 ex11 ex12 ex13 ex14 ex15) := by
 cases k with
 |zero => rw [aA.j5]; exact LeO.none _
 |succ k =>
 replace hk := Nat.le_of_succ_le hk
 rw [aA.j5, L.aA.j18_eq]
 repeat' first
  |(with_reducible exact LeO.refl _)
  |exact LeO.none _
  |(with_reducible first|exact aA.oV hk|exact fun r h => at_rounds (aW.mono _) hk h|exact fun r h => at_rounds (bI.mono _ _) hk h|exact fun r h => at_rounds (aR.mono _ _ _) hk h|refine LeO.bind ?_ (fun _ => ?_)|refine LeO.iU Iff.rfl (fun _ => ?_) (fun _ => ?_))
  |exact aA.oV hk
  |exact fun r h => at_rounds (aW.mono _) hk h
  |exact fun r h => at_rounds (bI.mono _ _) hk h
  |exact fun r h => at_rounds (aR.mono _ _ _) hk h
  |exact LeO.refl _
  |(with_reducible first|refine LeO.pos (by assumption) ?_|refine LeO.neg (by assumption) ?_|refine LeO.mX (by assumption) ?_|refine LeO.mZ (by assumption) ?_|refine LeO.iU (by omega) (fun _ => ?_) (fun _ => ?_))
theorem aA.tV {k n : Nat} (hk : k ≤ n) {x0 x1 : Int} {x2 : Bool} {x15 x16 : Int} {x17 x18 x19 : Int} {x22 ex9 : Bool} {ex10 ex11 : Bool} {ex12 ex13 : Bool} : LeO (aA.j4 k x0 x1 x2 x15 x16 x17 x18 x19 x22) (L.aA.j15 n x22 x19 x18 x17 x16 x15 x2 x1 x0 ex9 ex10 ex11 ex12 ex13) := by
 cases k with
 |zero => rw [aA.j4]; exact LeO.none _
 |succ k =>
 replace hk := Nat.le_of_succ_le hk
 rw [aA.j4, L.aA.aCv]
 repeat' first
  |(with_reducible exact LeO.refl _)
  |exact LeO.none _
  |(with_reducible first|exact aA.oV hk|exact aA.rM hk|exact fun r h => at_rounds (aW.mono _) hk h|exact fun r h => at_rounds (bI.mono _ _) hk h|exact fun r h => at_rounds (aR.mono _ _ _) hk h|refine LeO.bind ?_ (fun _ => ?_)|refine LeO.iU Iff.rfl (fun _ => ?_) (fun _ => ?_))
  |exact aA.oV hk
  |exact aA.rM hk
  |exact fun r h => at_rounds (aW.mono _) hk h
  |exact fun r h => at_rounds (bI.mono _ _) hk h
  |exact fun r h => at_rounds (aR.mono _ _ _) hk h
  |exact LeO.refl _
  |(with_reducible first|refine LeO.pos (by assumption) ?_|refine LeO.neg (by assumption) ?_|refine LeO.mX (by assumption) ?_|refine LeO.mZ (by assumption) ?_|refine LeO.iU (by omega) (fun _ => ?_) (fun _ => ?_))
theorem aA.nS {k n : Nat} (hk : k ≤ n) {x0 x1 : Int} {x2 : Bool} {x15 x16 : Int} {x17 x18 x19 : Int} {x20 x21 : Bool} {x22 ex11 : Bool} {ex12 ex13 : Bool} {ex14 ex15 : Bool} : LeO (aA.j3 k x0 x1 x2 x15 x16 x17 x18 x19 x20 x21 x22) (L.aA.j13 n x22 x21 x20 x19 x18 x17 x16 x15 x2 x1 x0 ex11 ex12 ex13 ex14 ex15) := by
 cases k with
 |zero => rw [aA.j3]; exact LeO.none _
 |succ k =>
 replace hk := Nat.le_of_succ_le hk
 rw [aA.j3, L.aA.j13_eq]
 repeat' first
  |(with_reducible exact LeO.refl _)
  |exact LeO.none _
  |(with_reducible first|exact aA.oV hk|exact aA.rM hk|exact aA.tV hk|exact fun r h => at_rounds (aW.mono _) hk h|exact fun r h => at_rounds (bI.mono _ _) hk h|exact fun r h => at_rounds (aR.mono _ _ _) hk h|refine LeO.bind ?_ (fun _ => ?_)|refine LeO.iU Iff.rfl (fun _ => ?_) (fun _ => ?_))
  |exact aA.oV hk
  |exact aA.rM hk
  |exact aA.tV hk
  |exact fun r h => at_rounds (aW.mono _) hk h
  |exact fun r h => at_rounds (bI.mono _ _) hk h
  |exact fun r h => at_rounds (aR.mono _ _ _) hk h
  |exact LeO.refl _
  |(with_reducible first|refine LeO.pos (by assumption) ?_|refine LeO.neg (by assumption) ?_|refine LeO.mX (by assumption) ?_|refine LeO.mZ (by assumption) ?_|refine LeO.iU (by omega) (fun _ => ?_) (fun _ => ?_))
theorem aA.kI {k n : Nat} (hk : k ≤ n) {x0 x1 : Int} {x2 : Bool} {x15 x16 : Int} {x17 x18 x19 : Int} {x20 x21 : Bool} {ex10 ex11 : Bool} {ex12 ex13 ex14 : Bool} : LeO (aA.j2 k x0 x1 x2 x15 x16 x17 x18 x19 x20 x21) (L.aA.j12 n x21 x20 x19 x18 x17 x16 x15 x2 x1 x0 ex10 ex11 ex12 ex13 ex14) := by
 cases k with
 |zero => rw [aA.j2]; exact LeO.none _
 |succ k =>
 replace hk := Nat.le_of_succ_le hk
 rw [aA.j2, L.aA.aA4]
 repeat' first
  |(with_reducible exact LeO.refl _)
  |exact LeO.none _
  |(with_reducible first|exact aA.oV hk|exact aA.rM hk|exact aA.tV hk|exact aA.nS hk|exact fun r h => at_rounds (aW.mono _) hk h|exact fun r h => at_rounds (bI.mono _ _) hk h|exact fun r h => at_rounds (aR.mono _ _ _) hk h|refine LeO.bind ?_ (fun _ => ?_)|refine LeO.iU Iff.rfl (fun _ => ?_) (fun _ => ?_))
  |exact aA.oV hk
  |exact aA.rM hk
  |exact aA.tV hk
  |exact aA.nS hk
  |exact fun r h => at_rounds (aW.mono _) hk h
  |exact fun r h => at_rounds (bI.mono _ _) hk h
  |exact fun r h => at_rounds (aR.mono _ _ _) hk h
  |exact LeO.refl _
  |(with_reducible first|refine LeO.pos (by assumption) ?_|refine LeO.neg (by assumption) ?_|refine LeO.mX (by assumption) ?_|refine LeO.mZ (by assumption) ?_|refine LeO.iU (by omega) (fun _ => ?_) (fun _ => ?_))
theorem aA.iM {k n : Nat} (hk : k ≤ n) {x0 x1 : Int} {x2 : Bool} {x3 x4 : Int} {x5 : Bool} {x15 x16 x17 : Int} {ex9 ex10 : Bool} {ex11 ex12 ex13 : Bool} : LeO (aA.j1 k x0 x1 x2 x3 x4 x5 x15 x16 x17) (L.aA.j9 n x17 x16 x15 x5 x4 x3 x2 x1 x0 ex9 ex10 ex11 ex12 ex13) := by
 cases k with
 |zero => rw [aA.j1]; exact LeO.none _
 |succ k =>
 replace hk := Nat.le_of_succ_le hk
 rw [aA.j1, L.aA.j9_eq]
 repeat' first
  |(with_reducible exact LeO.refl _)
  |exact LeO.none _
  |(with_reducible first|exact aA.oV hk|exact aA.rM hk|exact aA.tV hk|exact aA.nS hk|exact aA.kI hk|exact fun r h => at_rounds (aW.mono _) hk h|exact fun r h => at_rounds (bI.mono _ _) hk h|exact fun r h => at_rounds (aR.mono _ _ _) hk h|refine LeO.bind ?_ (fun _ => ?_)|refine LeO.iU Iff.rfl (fun _ => ?_) (fun _ => ?_))
  |exact aA.oV hk
  |exact aA.rM hk
  |exact aA.tV hk
  |exact aA.nS hk
  |exact aA.kI hk
  |exact fun r h => at_rounds (aW.mono _) hk h
  |exact fun r h => at_rounds (bI.mono _ _) hk h
  |exact fun r h => at_rounds (aR.mono _ _ _) hk h
  |exact LeO.refl _
  |(with_reducible first|refine LeO.pos (by assumption) ?_|refine LeO.neg (by assumption) ?_|refine LeO.mX (by assumption) ?_|refine LeO.mZ (by assumption) ?_|refine LeO.iU (by omega) (fun _ => ?_) (fun _ => ?_))
theorem aA.kT {k n : Nat} (hk : k ≤ n) {x0 x1 : Int} {x2 : Bool} {x3 x4 : Int} {x5 x35 : Bool} {ex7 ex8 : Bool} {ex9 ex10 ex11 : Bool} : LeO (aA.j0 k x0 x1 x2 x3 x4 x5 x35) (L.aA.j3 n x35 x5 x4 x3 x2 x1 x0 ex7 ex8 ex9 ex10 ex11) := by
 cases k with
 |zero => rw [aA.j0]; exact LeO.none _
 |succ k =>
 replace hk := Nat.le_of_succ_le hk
 rw [aA.j0, L.aA.j3_eq]
 repeat' first
  |(with_reducible exact LeO.refl _)
  |exact LeO.none _
  |(with_reducible first|exact aA.oV hk|exact aA.rM hk|exact aA.tV hk|exact aA.nS hk|exact aA.kI hk|exact aA.iM hk|exact fun r h => at_rounds (aW.mono _) hk h|exact fun r h => at_rounds (bI.mono _ _) hk h|exact fun r h => at_rounds (aR.mono _ _ _) hk h|refine LeO.bind ?_ (fun _ => ?_)|refine LeO.iU Iff.rfl (fun _ => ?_) (fun _ => ?_))
  |exact aA.oV hk
  |exact aA.rM hk
  |exact aA.tV hk
  |exact aA.nS hk
  |exact aA.kI hk
  |exact aA.iM hk
  |exact fun r h => at_rounds (aW.mono _) hk h
  |exact fun r h => at_rounds (bI.mono _ _) hk h
  |exact fun r h => at_rounds (aR.mono _ _ _) hk h
  |exact LeO.refl _
  |(with_reducible first|refine LeO.pos (by assumption) ?_|refine LeO.neg (by assumption) ?_|refine LeO.mX (by assumption) ?_|refine LeO.mZ (by assumption) ?_|refine LeO.iU (by omega) (fun _ => ?_) (fun _ => ?_))
set_option maxHeartbeats 4000000 in
theorem aA.le {k n : Nat} (hk : k ≤ n) {a0 a1 : Int} {a2 : Bool} {a3 a4 : Int} {a5 : Bool} : LeO (aA.f k a0 a1 a2 a3 a4 a5) (L.aA.f n a0 a1 a2 a3 a4 a5) := by
 unfold aA.f
 rw [L.aA.eq]
 try simp only [Bool.and_true]
 repeat' first
  |(with_reducible exact LeO.refl _)
  |exact LeO.none _
  |(with_reducible first|exact aA.oV hk|exact aA.rM hk|exact aA.tV hk|exact aA.nS hk|exact aA.kI hk|exact aA.iM hk|exact aA.kT hk|exact fun r h => at_rounds (aW.mono _) hk h|exact fun r h => at_rounds (bI.mono _ _) hk h|exact fun r h => at_rounds (aR.mono _ _ _) hk h|refine LeO.bind ?_ (fun _ => ?_)|refine LeO.iU Iff.rfl (fun _ => ?_) (fun _ => ?_))
  |exact aA.oV hk
  |exact aA.rM hk
  |exact aA.tV hk
  |exact aA.nS hk
  |exact aA.kI hk
  |exact aA.iM hk
  |exact aA.kT hk
  |exact fun r h => at_rounds (aW.mono _) hk h
  |exact fun r h => at_rounds (bI.mono _ _) hk h
  |exact fun r h => at_rounds (aR.mono _ _ _) hk h
  |exact LeO.refl _
  |(with_reducible first|refine LeO.pos (by assumption) ?_|refine LeO.neg (by assumption) ?_|refine LeO.mX (by assumption) ?_|refine LeO.mZ (by assumption) ?_|refine LeO.iU (by omega) (fun _ => ?_) (fun _ => ?_))
theorem aA.calls (k : Nat) (a0 a1 : Int) (a2 : Bool) (a3 a4 : Int) (a5 : Bool) (r1 : Int) (r2 r3 : Bool) (r4 r5 r6 : Bool) (w : World) (h : aA.f k a0 a1 a2 a3 a4 a5 = some (r1, r2, r3, r4, r5, r6)) :
  Calls Tryz.prog 57 #[.int .i64 a0, .int .i64 a1, .bool a2, .int .i64 a3, .int .u64 a4, .bool a5] w fun e w' => e = .returned (.tuple #[.int .u32 r1, .agg #[.bool r2, .bool r3, .bool r4, .bool r5, .bool r6]]) ∧ Below w.heap.size w w' :=
 Go.Proofs.YtjlgmfgjleajfaaGreat.Ek.jQ L.aA.ok k ((a0, ()), (a1, ()), (a2, ()), (a3, ()), (a4, ()), (a5, ()), ()) (r1, r2, r3, r4, r5, r6) rfl (aA.le (Nat.le_refl _) _ h) w

-- NEED 0
/-! ### fZ: function 27 -/
def fZ.f (k : Nat) (a0 : Int) : Option (Bool) := (aF.f k 2 a0).bind fun t834 => (if t834 = 4 then (some true) else (some (t834 == 5)))
theorem fZ.calls (k : Nat) (a0 : Int) (r : Bool) (w : World) (h : fZ.f k a0 = some r) :
  Calls Tryz.prog 27 #[.int .u32 a0] w fun e w' => e = .returned (.bool r) ∧ Drawn0 w w' := by
 have H : ((aF.f k 2 a0).bind fun t834 => (if t834 = 4 then (some true) else (some (t834 == 5)))) = some r := h
 clear h
 replace H := bq_ H
 obtain ⟨t834, A20, H⟩ := H
 replace H : (if t834 = 4 then (some true) else (some (t834 == 5))) = some r := H
 have A2 := Aside0.mk A20
 clear A20
 by_cases c3 : t834 = 4
 ·rw [if_pos c3] at H
  have c3b0 : (t834 == 4) = true := beq_iff_eq.mpr c3
  have c3b1 : (t834 != 4) = false := bne_eq_false_iff_eq.mpr c3
  clear c3
  obtain rfl := Option.some.inj H
  go_enter Tryz.func27, Tryz.ntmps27
  go_wp2_with (first | ((with_reducible refine gate_callee (f := 61) rfl ?_); refine goesL_ (some 5) rfl rfl Tryz.func61 (by kernel_rfl) rfl #[.int .i64 2, .int .u32 a0] rfl gl ?_; (with_reducible refine (aF.calls k 2 a0 t834 _ A2.out).mono ?_); rintro e w' ⟨rfl, ⟨nd, rfl⟩⟩; refine ⟨_, rfl, ?_⟩))
  go_ret
  exact ⟨gr_, gd_⟩
 ·rw [if_neg c3] at H
  have c3b0 : (t834 == 4) = false := beq_eq_false_iff_ne.mpr c3
  have c3b1 : (t834 != 4) = true := bne_iff_ne.mpr c3
  obtain rfl := Option.some.inj H
  go_enter Tryz.func27, Tryz.ntmps27
  go_wp2_with (first | ((with_reducible refine gate_callee (f := 61) rfl ?_); refine goesL_ (some 5) rfl rfl Tryz.func61 (by kernel_rfl) rfl #[.int .i64 2, .int .u32 a0] rfl gl ?_; (with_reducible refine (aF.calls k 2 a0 t834 _ A2.out).mono ?_); rintro e w' ⟨rfl, ⟨nd, rfl⟩⟩; refine ⟨_, rfl, ?_⟩))
  go_ret
  exact ⟨gr_, gd_⟩

-- NEED 0
/-! ### dY: function 63 -/
def dY.f (k : Nat) (a0 a1 : Int) : Option (Int) := (aD.f k a0 (([a1] : List Int))).bind fun bt838 => (if bt838.1 = true then ((bL.f a0).bind fun t840 => (some (Go.bits .and .u32 a1 t840))) else ((bR.f a0 true).bind fun t841 => ((bL.f a0).bind fun t842 => (some (Go.bits .and .u32 (Go.bits .xor .u32 a1 t841) t842)))))
theorem dY.calls (k : Nat) (a0 a1 r : Int) (w : World) (h : dY.f k a0 a1 = some r) :
  Calls Tryz.prog 63 #[.int .i64 a0, .int .u32 a1] w fun e w' => e = .returned (.int .u32 r) ∧ Below w.heap.size w w' := by
 have HB := Aside0.mk (Below.refl w.heap.size w)
 have H : ((aD.f k a0 (([a1] : List Int))).bind fun bt838 => (if bt838.1 = true then ((bL.f a0).bind fun t840 => (some (Go.bits .and .u32 a1 t840))) else ((bR.f a0 true).bind fun t841 => ((bL.f a0).bind fun t842 => (some (Go.bits .and .u32 (Go.bits .xor .u32 a1 t841) t842)))))) = some r := h
 clear h
 obtain ⟨y835, hy835⟩ : ∃ y_ : List Int, y_ = (([a1] : List Int)) := ⟨_, rfl⟩
 replace H : ((aD.f k a0 y835).bind fun bt838 => (if bt838.1 = true then ((bL.f a0).bind fun t840 => (some (Go.bits .and .u32 a1 t840))) else ((bR.f a0 true).bind fun t841 => ((bL.f a0).bind fun t842 => (some (Go.bits .and .u32 (Go.bits .xor .u32 a1 t841) t842)))))) = some r := by first | (rw [hy835]; with_reducible exact H) | (have H2_ := (Option.bind_some _ _).symm.trans H; rw [hy835]; with_reducible exact H2_) | (have H2_ := (Option.bind_some _ _).symm.trans H; with_reducible exact H2_) | with_reducible exact H | (rw [hy835]; exact H) | exact H
 have Ny835 := Aside0.mk hy835
 clear hy835
 replace H := bq_ H
 obtain ⟨⟨t838, t839⟩, A30, H⟩ := H
 replace H : (if t838 = true then ((bL.f a0).bind fun t840 => (some (Go.bits .and .u32 a1 t840))) else ((bR.f a0 true).bind fun t841 => ((bL.f a0).bind fun t842 => (some (Go.bits .and .u32 (Go.bits .xor .u32 a1 t841) t842))))) = some r := H
 have A3 := Aside0.mk A30
 clear A30
 by_cases c4 : t838 = true
 ·subst c4
  have H1 : ((bL.f a0).bind fun t840 => (some (Go.bits .and .u32 a1 t840))) = some r := by rw [if_pos rfl] at H; exact H
  clear H
  have H := H1
  clear H1
  replace H := bq_ H
  obtain ⟨t840, A50, H⟩ := H
  replace H : (some (Go.bits .and .u32 a1 t840)) = some r := H
  have A5 := Aside0.mk A50
  clear A50
  obtain rfl := Option.some.inj H
  go_enter Tryz.func63, Tryz.ntmps63
  go_wp2_with (first | ((with_reducible refine gate_dst (N := 10) rfl ?_); refine Kd.R_lit (Kd.int .u32) _ 22 ?hg (N := 10) ?hd (xs := ([a1] : List Int)) (inner := [.int .u32 a1]) (ok := fun _ => True) (okp := fun _ => True) ?hr ?hp (fun _ hk => hk) trivial (Below.refl _ _) (Nat.le_refl _) (by simp) ?_; (case hd => rfl); (case hg => rfl); (case hr => first | (go_simp; done) | (go_simp; rfl)); (case hp => exact (Reps.one (show Kd.M (Kd.int .u32) _ _ _ a1 [.int .u32 a1] from rfl) (Reps.none _ _))); intro v836 w6 ho7 hb hg_ hnew_; clear hg_ hnew_; (first | rw [← Ny835.out] at ho7 | (simp only [Int.reduceToNat] at ho7; rw [← Ny835.out] at ho7)); have n0_ := Aside0.mk (Kd.R_lower ho7 (below_size (bl0 HB.out))); have n1_ := Aside0.mk (below_step (bl0 HB.out) hb); clear HB; have HO837 := n0_; have HB := n1_; clear n0_ n1_; clear hb ho7; obtain ⟨Ao8, co8, eo8⟩ := Kd.R_slice HO837.out; subst eo8) | ((with_reducible refine gate_callee (f := 49) rfl ?_); refine goesL_ (some 11) rfl rfl Tryz.func49 (by kernel_rfl) rfl #[.int .i64 a0, .slice Ao8 y835.length co8] rfl gl ?_; (with_reducible refine (aD.calls k a0 _ _ y835 true t839 _ ?side1 ?side2 A3.out).mono ?_); (case side1 => repeat (first | exact (Kd.R_reads' HO837.out).2.2 | (with_reducible refine Kd.C_alloc ?_ _) | (with_reducible refine Kd.C_drewN ?_ _) | (with_reducible refine Kd.C_drew ?_))); (case side2 => exact (Kd.R_reads' HO837.out).2.1); rintro e w' ⟨rfl, ⟨nd, rfl⟩⟩; refine ⟨_, rfl, ?_⟩) | ((with_reducible refine gate_callee (f := 58) rfl ?_); refine goesL_ (some 17) rfl rfl Tryz.func58 (by kernel_rfl) rfl #[.int .i64 a0] rfl gl ?_; (with_reducible refine (bL.calls a0 t840 _ A5.out).mono ?_); rintro e w' ⟨rfl, ⟨nd, rfl⟩⟩; refine ⟨_, rfl, ?_⟩))
  go_ret
  exact ⟨by first | rfl | (simp [aP, aQ] <;> rfl) | (simp [*, aP, aQ] <;> rfl), bl0 HB.out⟩
 ·replace c4 := Bool.eq_false_iff.mpr c4
  subst c4
  have H1 : ((bR.f a0 true).bind fun t841 => ((bL.f a0).bind fun t842 => (some (Go.bits .and .u32 (Go.bits .xor .u32 a1 t841) t842)))) = some r := by rw [if_neg (show ¬ (false = true) by decide)] at H; exact H
  clear H
  have H := H1
  clear H1
  replace H := bq_ H
  obtain ⟨t841, A90, H⟩ := H
  replace H : ((bL.f a0).bind fun t842 => (some (Go.bits .and .u32 (Go.bits .xor .u32 a1 t841) t842))) = some r := H
  have A9 := Aside0.mk A90
  clear A90
  replace H := bq_ H
  obtain ⟨t842, A100, H⟩ := H
  replace H : (some (Go.bits .and .u32 (Go.bits .xor .u32 a1 t841) t842)) = some r := H
  have A10 := Aside0.mk A100
  clear A100
  obtain rfl := Option.some.inj H
  go_enter Tryz.func63, Tryz.ntmps63
  go_wp2_with (first | ((with_reducible refine gate_dst (N := 10) rfl ?_); refine Kd.R_lit (Kd.int .u32) _ 22 ?hg (N := 10) ?hd (xs := ([a1] : List Int)) (inner := [.int .u32 a1]) (ok := fun _ => True) (okp := fun _ => True) ?hr ?hp (fun _ hk => hk) trivial (Below.refl _ _) (Nat.le_refl _) (by simp) ?_; (case hd => rfl); (case hg => rfl); (case hr => first | (go_simp; done) | (go_simp; rfl)); (case hp => exact (Reps.one (show Kd.M (Kd.int .u32) _ _ _ a1 [.int .u32 a1] from rfl) (Reps.none _ _))); intro v836 w11 ho12 hb hg_ hnew_; clear hg_ hnew_; (first | rw [← Ny835.out] at ho12 | (simp only [Int.reduceToNat] at ho12; rw [← Ny835.out] at ho12)); have n0_ := Aside0.mk (Kd.R_lower ho12 (below_size (bl0 HB.out))); have n1_ := Aside0.mk (below_step (bl0 HB.out) hb); clear HB; have HO837 := n0_; have HB := n1_; clear n0_ n1_; clear hb ho12; obtain ⟨Ao13, co13, eo13⟩ := Kd.R_slice HO837.out; subst eo13) | ((with_reducible refine gate_callee (f := 49) rfl ?_); refine goesL_ (some 11) rfl rfl Tryz.func49 (by kernel_rfl) rfl #[.int .i64 a0, .slice Ao13 y835.length co13] rfl gl ?_; (with_reducible refine (aD.calls k a0 _ _ y835 false t839 _ ?side1 ?side2 A3.out).mono ?_); (case side1 => repeat (first | exact (Kd.R_reads' HO837.out).2.2 | (with_reducible refine Kd.C_alloc ?_ _) | (with_reducible refine Kd.C_drewN ?_ _) | (with_reducible refine Kd.C_drew ?_))); (case side2 => exact (Kd.R_reads' HO837.out).2.1); rintro e w' ⟨rfl, ⟨nd, rfl⟩⟩; refine ⟨_, rfl, ?_⟩) | ((with_reducible refine gate_callee (f := 90) rfl ?_); refine goesL_ (some 21) rfl rfl Tryz.func90 (by kernel_rfl) rfl #[.int .i64 a0, .bool true] rfl gl ?_; (with_reducible refine (bR.calls a0 true t841 _ A9.out).mono ?_); rintro e w' ⟨rfl, ⟨nd, rfl⟩⟩; refine ⟨_, rfl, ?_⟩) | ((with_reducible refine gate_callee (f := 58) rfl ?_); refine goesL_ (some 24) rfl rfl Tryz.func58 (by kernel_rfl) rfl #[.int .i64 a0] rfl gl ?_; (with_reducible refine (bL.calls a0 t842 _ A10.out).mono ?_); rintro e w' ⟨rfl, ⟨nd, rfl⟩⟩; refine ⟨_, rfl, ?_⟩))
  go_ret
  exact ⟨by first | rfl | (simp [aP, aQ] <;> rfl) | (simp [*, aP, aQ] <;> rfl), bl0 HB.out⟩

end Go.Proofs.YtjlgmfgjleajfaaGreat.P

/- Entries of functions. -/
namespace Go.Proofs.YtjlgmfgjleajfaaGreat.E
open Go.RowKit Go.Proofs.YtjlgmfgjleajfaaGreat.P Go.Proofs.YtjlgmfgjleajfaaGreat.Ek Go.Proofs.YtjlgmfgjleajfaaGreatW.PrintWords Go.Proofs.YtjlgmfgjleajfaaGreatW.PrintLast Go.Proofs.YtjlgmfgjleajfaaGreatW.PrintMore
noncomputable def aD.c : Fc := mkFcA [.s (hI .i64), .sl .u32] [hB, hB] (T := Bool × Bool) (fun y => ((y.1, ()), (y.2, ()), ())) fun n x => aD.f n x.1.1 x.2.1
theorem aD.ok : iP Tryz.prog 49 aD.c := yS Tryz.func49 (by kernel_rfl) (by kernel_rfl) (by decide) (fun _ => dP (by decide) _) fun n x y h m w vs ha => by obtain ⟨q0, e0, ha⟩ := ha; subst e0; obtain ⟨A1, c1, q1, e1, R1, D1, ha⟩ := ha; subst e1; subst ha; exact (aD.calls n x.1.1 A1 c1 x.2.1 y.1 y.2 w R1 D1 h).mono fun e w' he => ⟨he.1, he.2.below⟩
noncomputable def bN.c : Fc := jC [hI .i64] [hI .u32] (T := Int) (fun y => ((y, ()), ())) fun n x => bN.f x.1.1
theorem bN.ok : iP Tryz.prog 50 bN.c := fF Tryz.func50 (by kernel_rfl) (by kernel_rfl) (by decide) (fun _ => dP (by decide) _) fun n x y h m w => (bN.calls x.1.1 y w h).mono fun e w' he => ⟨he.1, he.2.below⟩
noncomputable def aI.c : Fc := jC [hI .i64, hI .u32] [hB] (T := Bool) (fun y => ((y, ()), ())) fun n x => aI.f n x.1.1 x.2.1.1
theorem aI.ok : iP Tryz.prog 53 aI.c := fF Tryz.func53 (by kernel_rfl) (by kernel_rfl) (by decide) (fun _ => dP (by decide) _) fun n x y h m w => (aI.calls n x.1.1 x.2.1.1 y w h).mono fun e w' he => ⟨he.1, he.2.below⟩
noncomputable def bG.c : Fc := jC [hI .i64, hI .u32] [hB] (T := Bool) (fun y => ((y, ()), ())) fun n x => bG.f x.1.1 x.2.1.1
theorem bG.ok : iP Tryz.prog 51 bG.c := fF Tryz.func51 (by kernel_rfl) (by kernel_rfl) (by decide) (fun _ => dP (by decide) _) fun n x y h m w => (bG.calls x.1.1 x.2.1.1 y w h).mono fun e w' he => ⟨he.1, he.2.below⟩
noncomputable def bL.c : Fc := jC [hI .i64] [hI .u32] (T := Int) (fun y => ((y, ()), ())) fun n x => bL.f x.1.1
theorem bL.ok : iP Tryz.prog 58 bL.c := fF Tryz.func58 (by kernel_rfl) (by kernel_rfl) (by decide) (fun _ => dP (by decide) _) fun n x y h m w => (bL.calls x.1.1 y w h).mono fun e w' he => ⟨he.1, he.2.below⟩
noncomputable def aM.c : Fc := jC [hI .i64, hI .u32] [hB] (T := Bool) (fun y => ((y, ()), ())) fun n x => aM.f n x.1.1 x.2.1.1
theorem aM.ok : iP Tryz.prog 52 aM.c := fF Tryz.func52 (by kernel_rfl) (by kernel_rfl) (by decide) (fun _ => dP (by decide) _) fun n x y h m w => (aM.calls n x.1.1 x.2.1.1 y w h).mono fun e w' he => ⟨he.1, he.2.below⟩
noncomputable def aN.c : Fc := jC [hI .i64, hI .u32] [hB, hI .i64, hI .u64] (T := Bool × Int × Int) (fun y => ((y.1, ()), (y.2.1, ()), (y.2.2, ()), ())) fun n x => aN.f n x.1.1 x.2.1.1
theorem aN.ok : iP Tryz.prog 56 aN.c := fF Tryz.func56 (by kernel_rfl) (by kernel_rfl) (by decide) (fun _ => dP (by decide) _) fun n x y h m w => (aN.calls n x.1.1 x.2.1.1 y.1 y.2.1 y.2.2 w h).mono fun e w' he => ⟨he.1, he.2.below⟩
noncomputable def bX.cls : Cls := []
theorem bX.iI : dB Tryz.prog bX.cls := dB.nil
noncomputable def bX.K (v : SV) : Option (Bool × List Int) := (lI [.agg [.b, .a .u64 10]] v).map (fun z => (z.1.1, z.1.2.1))
noncomputable def bX.cuts : List Nat := []
noncomputable def bX.f (k : Nat) (a0 : Bool) (a1 a2 : Int) : Option (Bool × List Int) := evF Tryz.prog bX.cls Tryz.f60 bX.cuts k [.one (.b (.q a0)), .one (.i .i64 (.x a1)), .one (.i .u64 (.x a2))] bX.K
noncomputable def bX.c : Fc := jC [hB, hI .i64, hI .u64] [.agg [.b, .a .u64 10]] (T := Bool × List Int) (fun y => ((y.1, y.2, ()), ())) fun n x => bX.f n x.1.1 x.2.1.1 x.2.2.1.1
theorem bX.ok : iP Tryz.prog 60 bX.c := uD bX.iI Tryz.func60 (by kernel_rfl) (by kernel_rfl) (by decide) (fun _ => rfl) (fun _ _ => rfl)
noncomputable def bO.cls : Cls := []
theorem bO.iI : dB Tryz.prog bO.cls := dB.nil
noncomputable def bO.K (v : SV) : Option (Bool) := (lI [hB] v).map (fun z => (z.1.1))
noncomputable def bO.cuts : List Nat := []
noncomputable def bO.f (k : Nat) (a0_0 : Bool) (a0_1 : List Int) (a1_0 : Bool) (a1_1 : List Int) : Option (Bool) := evF Tryz.prog bO.cls Tryz.f108 bO.cuts k [.agg [cb a0_0, .a .u64 a0_1 10], .agg [cb a1_0, .a .u64 a1_1 10]] bO.K
noncomputable def bO.c : Fc := jC [.agg [.b, .a .u64 10], .agg [.b, .a .u64 10]] [hB] (T := Bool) (fun y => ((y, ()), ())) fun n x => bO.f n x.1.1 x.1.2.1 x.2.1.1 x.2.1.2.1
theorem bO.ok : iP Tryz.prog 108 bO.c := uD bO.iI Tryz.func108 (by kernel_rfl) (by kernel_rfl) (by decide) (fun _ => rfl) (fun _ _ => rfl)
noncomputable def bJ.cls : Cls := [(108, bO.c)]
theorem bJ.iI : dB Tryz.prog bJ.cls := dB.cons bO.ok (dB.nil)
noncomputable def bJ.K (v : SV) : Option (Bool × List Int) := (lI [.agg [.b, .a .u64 10]] v).map (fun z => (z.1.1, z.1.2.1))
noncomputable def bJ.cuts : List Nat := []
noncomputable def bJ.f (k : Nat) (a0_0 : Bool) (a0_1 : List Int) (a1_0 : Bool) (a1_1 : List Int) : Option (Bool × List Int) := evF Tryz.prog bJ.cls Tryz.f107 bJ.cuts k [.agg [cb a0_0, .a .u64 a0_1 10], .agg [cb a1_0, .a .u64 a1_1 10]] bJ.K
noncomputable def bJ.c : Fc := jC [.agg [.b, .a .u64 10], .agg [.b, .a .u64 10]] [.agg [.b, .a .u64 10]] (T := Bool × List Int) (fun y => ((y.1, y.2, ()), ())) fun n x => bJ.f n x.1.1 x.1.2.1 x.2.1.1 x.2.1.2.1
theorem bJ.ok : iP Tryz.prog 107 bJ.c := uD bJ.iI Tryz.func107 (by kernel_rfl) (by kernel_rfl) (by decide) (fun _ => rfl) (fun _ _ => rfl)
noncomputable def bM.cls : Cls := [(107, bJ.c)]
theorem bM.iI : dB Tryz.prog bM.cls := dB.cons bJ.ok (dB.nil)
noncomputable def bM.K (v : SV) : Option (Bool × List Int) := (lI [.agg [.b, .a .u64 10]] v).map (fun z => (z.1.1, z.1.2.1))
noncomputable def bM.cuts : List Nat := []
noncomputable def bM.f (k : Nat) (a0_0 : Bool) (a0_1 : List Int) (a1_0 : Bool) (a1_1 : List Int) : Option (Bool × List Int) := evF Tryz.prog bM.cls Tryz.f96 bM.cuts k [.agg [cb a0_0, .a .u64 a0_1 10], .agg [cb a1_0, .a .u64 a1_1 10]] bM.K
noncomputable def bM.c : Fc := jC [.agg [.b, .a .u64 10], .agg [.b, .a .u64 10]] [.agg [.b, .a .u64 10]] (T := Bool × List Int) (fun y => ((y.1, y.2, ()), ())) fun n x => bM.f n x.1.1 x.1.2.1 x.2.1.1 x.2.1.2.1
theorem bM.ok : iP Tryz.prog 96 bM.c := uD bM.iI Tryz.func96 (by kernel_rfl) (by kernel_rfl) (by decide) (fun _ => rfl) (fun _ _ => rfl)
noncomputable def dH.cls : Cls := []
theorem dH.iI : dB Tryz.prog dH.cls := dB.nil
noncomputable def dH.K (v : SV) : Option (Bool) := (lI [hB] v).map (fun z => (z.1.1))
noncomputable def dH.cuts : List Nat := []
noncomputable def dH.f (k : Nat) (a0_0 : Bool) (a0_1 : List Int) : Option (Bool) := evF Tryz.prog dH.cls Tryz.f97 dH.cuts k [.agg [cb a0_0, .a .u64 a0_1 10]] dH.K
noncomputable def dH.c : Fc := jC [.agg [.b, .a .u64 10]] [hB] (T := Bool) (fun y => ((y, ()), ())) fun n x => dH.f n x.1.1 x.1.2.1
theorem dH.ok : iP Tryz.prog 97 dH.c := uD dH.iI Tryz.func97 (by kernel_rfl) (by kernel_rfl) (by decide) (fun _ => rfl) (fun _ _ => rfl)
noncomputable def bV.c : Fc := jC [hI .i64, hB] [hI .u32] (T := Int) (fun y => ((y, ()), ())) fun n x => bV.f x.1.1 x.2.1.1
theorem bV.ok : iP Tryz.prog 55 bV.c := fF Tryz.func55 (by kernel_rfl) (by kernel_rfl) (by decide) (fun _ => dP (by decide) _) fun n x y h m w => (bV.calls x.1.1 x.2.1.1 y w h).mono fun e w' he => ⟨he.1, he.2.below⟩
noncomputable def aW.c : Fc := jC [hI .u64] [hI .i64] (T := Int) (fun y => ((y, ()), ())) fun n x => aW.f n x.1.1
theorem aW.ok : iP Tryz.prog 92 aW.c := fF Tryz.func92 (by kernel_rfl) (by kernel_rfl) (by decide) (fun _ => dP (by decide) _) fun n x y h m w => (aW.calls n x.1.1 y w h).mono fun e w' he => ⟨he.1, he.2.below⟩
noncomputable def aA.c : Fc := jC [hI .i64, hI .i64, hB, hI .i64, hI .u64, hB] [hI .u32, .agg [.b, .b, .b, .b, .b]] (T := Int × Bool × Bool × Bool × Bool × Bool) (fun y => ((y.1, ()), (y.2.1, y.2.2.1, y.2.2.2.1, y.2.2.2.2.1, y.2.2.2.2.2, ()), ())) fun n x => aA.f n x.1.1 x.2.1.1 x.2.2.1.1 x.2.2.2.1.1 x.2.2.2.2.1.1 x.2.2.2.2.2.1.1
theorem aA.ok : iP Tryz.prog 57 aA.c := fF Tryz.func57 (by kernel_rfl) (by kernel_rfl) (by decide) (fun _ => dP (by decide) _) fun n x y h m w => (aA.calls n x.1.1 x.2.1.1 x.2.2.1.1 x.2.2.2.1.1 x.2.2.2.2.1.1 x.2.2.2.2.2.1.1 y.1 y.2.1 y.2.2.1 y.2.2.2.1 y.2.2.2.2.1 y.2.2.2.2.2 w h).mono fun e w' he => ⟨he.1, he.2⟩
noncomputable def aO.cls : Cls := [(92, aW.c), (57, aA.c)]
theorem aO.iI : dB Tryz.prog aO.cls := dB.cons aW.ok (dB.cons aA.ok (dB.nil))
noncomputable def aO.K (v : SV) : Option (Int × Bool × Bool × Bool × Bool × Bool) := (lI [hI .u32, .agg [.b, .b, .b, .b, .b]] v).map (fun z => (z.1.1, z.2.1.1, z.2.1.2.1, z.2.1.2.2.1, z.2.1.2.2.2.1, z.2.1.2.2.2.2.1))
noncomputable def aO.cuts : List Nat := []
noncomputable def aO.f (k : Nat) (a0 a1 : Int) (a2_0 : Bool) (a2_1 : List Int) : Option (Int × Bool × Bool × Bool × Bool × Bool) := evF Tryz.prog aO.cls Tryz.f98 aO.cuts k [.one (.i .i64 (.x a0)), .one (.i .i64 (.x a1)), .agg [cb a2_0, .a .u64 a2_1 10]] aO.K
noncomputable def aO.c : Fc := jC [hI .i64, hI .i64, .agg [.b, .a .u64 10]] [hI .u32, .agg [.b, .b, .b, .b, .b]] (T := Int × Bool × Bool × Bool × Bool × Bool) (fun y => ((y.1, ()), (y.2.1, y.2.2.1, y.2.2.2.1, y.2.2.2.2.1, y.2.2.2.2.2, ()), ())) fun n x => aO.f n x.1.1 x.2.1.1 x.2.2.1.1 x.2.2.1.2.1
theorem aO.ok : iP Tryz.prog 98 aO.c := uD aO.iI Tryz.func98 (by kernel_rfl) (by kernel_rfl) (by decide) (fun _ => rfl) (fun _ _ => rfl)
noncomputable def dA.cls : Cls := [(96, bM.c), (97, dH.c), (55, bV.c), (98, aO.c)]
theorem dA.iI : dB Tryz.prog dA.cls := dB.cons bM.ok (dB.cons dH.ok (dB.cons bV.ok (dB.cons aO.ok (dB.nil))))
noncomputable def dA.K (v : SV) : Option (Int × Bool × Bool × Bool × Bool × Bool) := (lI [hI .u32, .agg [.b, .b, .b, .b, .b]] v).map (fun z => (z.1.1, z.2.1.1, z.2.1.2.1, z.2.1.2.2.1, z.2.1.2.2.2.1, z.2.1.2.2.2.2.1))
noncomputable def dA.cuts : List Nat := []
noncomputable def dA.f (k : Nat) (a0 a1 : Int) (a2_0 : Bool) (a2_1 : List Int) (a3_0 : Bool) (a3_1 : List Int) : Option (Int × Bool × Bool × Bool × Bool × Bool) := evF Tryz.prog dA.cls Tryz.f59 dA.cuts k [.one (.i .i64 (.x a0)), .one (.i .i64 (.x a1)), .agg [cb a2_0, .a .u64 a2_1 10], .agg [cb a3_0, .a .u64 a3_1 10]] dA.K
noncomputable def dA.c : Fc := jC [hI .i64, hI .i64, .agg [.b, .a .u64 10], .agg [.b, .a .u64 10]] [hI .u32, .agg [.b, .b, .b, .b, .b]] (T := Int × Bool × Bool × Bool × Bool × Bool) (fun y => ((y.1, ()), (y.2.1, y.2.2.1, y.2.2.2.1, y.2.2.2.2.1, y.2.2.2.2.2, ()), ())) fun n x => dA.f n x.1.1 x.2.1.1 x.2.2.1.1 x.2.2.1.2.1 x.2.2.2.1.1 x.2.2.2.1.2.1
theorem dA.ok : iP Tryz.prog 59 dA.c := uD dA.iI Tryz.func59 (by kernel_rfl) (by kernel_rfl) (by decide) (fun _ => rfl) (fun _ _ => rfl)
noncomputable def aZ.cls : Cls := [(49, aD.c), (50, bN.c), (53, aI.c), (51, bG.c), (58, bL.c), (52, aM.c), (56, aN.c), (60, bX.c), (59, dA.c)]
theorem aZ.iI : dB Tryz.prog aZ.cls := dB.cons aD.ok (dB.cons bN.ok (dB.cons aI.ok (dB.cons bG.ok (dB.cons bL.ok (dB.cons aM.ok (dB.cons aN.ok (dB.cons bX.ok (dB.cons dA.ok (dB.nil)))))))))
noncomputable def aZ.K (v : SV) : Option (Int × Bool × Bool × Bool × Bool × Bool) := (lI [hI .u32, .agg [.b, .b, .b, .b, .b]] v).map (fun z => (z.1.1, z.2.1.1, z.2.1.2.1, z.2.1.2.2.1, z.2.1.2.2.2.1, z.2.1.2.2.2.2.1))
noncomputable def aZ.cuts : List Nat := [6, 12]
noncomputable def aZ.f (k : Nat) (a0 a1 : Int) (a2 a3 : Int) : Option (Int × Bool × Bool × Bool × Bool × Bool) := evF Tryz.prog aZ.cls Tryz.f26 aZ.cuts k [.one (.i .i64 (.x a0)), .one (.i .i64 (.x a1)), .one (.i .u32 (.x a2)), .one (.i .u32 (.x a3))] aZ.K
noncomputable def aZ.c : Fc := jC [hI .i64, hI .i64, hI .u32, hI .u32] [hI .u32, .agg [.b, .b, .b, .b, .b]] (T := Int × Bool × Bool × Bool × Bool × Bool) (fun y => ((y.1, ()), (y.2.1, y.2.2.1, y.2.2.2.1, y.2.2.2.2.1, y.2.2.2.2.2, ()), ())) fun n x => aZ.f n x.1.1 x.2.1.1 x.2.2.1.1 x.2.2.2.1.1
theorem aZ.ok : iP Tryz.prog 26 aZ.c := uD aZ.iI Tryz.func26 (by kernel_rfl) (by kernel_rfl) (by decide) (fun _ => rfl) (fun _ _ => rfl)
noncomputable def bD.c : Fc := jC [hI .i64, hB] [hI .u32] (T := Int) (fun y => ((y, ()), ())) fun n x => bD.f x.1.1 x.2.1.1
theorem bD.ok : iP Tryz.prog 54 bD.c := fF Tryz.func54 (by kernel_rfl) (by kernel_rfl) (by decide) (fun _ => dP (by decide) _) fun n x y h m w => (bD.calls x.1.1 x.2.1.1 y w h).mono fun e w' he => ⟨he.1, he.2.below⟩
noncomputable def aS.cls : Cls := [(52, aM.c), (53, aI.c), (49, aD.c), (50, bN.c), (51, bG.c), (54, bD.c), (58, bL.c), (55, bV.c), (56, aN.c), (60, bX.c), (59, dA.c)]
theorem aS.iI : dB Tryz.prog aS.cls := dB.cons aM.ok (dB.cons aI.ok (dB.cons aD.ok (dB.cons bN.ok (dB.cons bG.ok (dB.cons bD.ok (dB.cons bL.ok (dB.cons bV.ok (dB.cons aN.ok (dB.cons bX.ok (dB.cons dA.ok (dB.nil)))))))))))
noncomputable def aS.K (v : SV) : Option (Int × Bool × Bool × Bool × Bool × Bool) := (lI [hI .u32, .agg [.b, .b, .b, .b, .b]] v).map (fun z => (z.1.1, z.2.1.1, z.2.1.2.1, z.2.1.2.2.1, z.2.1.2.2.2.1, z.2.1.2.2.2.2.1))
noncomputable def aS.cuts : List Nat := [2, 5, 14]
noncomputable def aS.f (k : Nat) (a0 a1 : Int) (a2 a3 a4 : Int) : Option (Int × Bool × Bool × Bool × Bool × Bool) := evF Tryz.prog aS.cls Tryz.f99 aS.cuts k [.one (.i .i64 (.x a0)), .one (.i .i64 (.x a1)), .one (.i .u32 (.x a2)), .one (.i .u32 (.x a3)), .one (.i .u32 (.x a4))] aS.K
noncomputable def aS.c : Fc := jC [hI .i64, hI .i64, hI .u32, hI .u32, hI .u32] [hI .u32, .agg [.b, .b, .b, .b, .b]] (T := Int × Bool × Bool × Bool × Bool × Bool) (fun y => ((y.1, ()), (y.2.1, y.2.2.1, y.2.2.2.1, y.2.2.2.2.1, y.2.2.2.2.2, ()), ())) fun n x => aS.f n x.1.1 x.2.1.1 x.2.2.1.1 x.2.2.2.1.1 x.2.2.2.2.1.1
theorem aS.ok : iP Tryz.prog 99 aS.c := uD aS.iI Tryz.func99 (by kernel_rfl) (by kernel_rfl) (by decide) (fun _ => rfl) (fun _ _ => rfl)
noncomputable def dY.c : Fc := jC [hI .i64, hI .u32] [hI .u32] (T := Int) (fun y => ((y, ()), ())) fun n x => dY.f n x.1.1 x.2.1.1
theorem dY.ok : iP Tryz.prog 63 dY.c := fF Tryz.func63 (by kernel_rfl) (by kernel_rfl) (by decide) (fun _ => dP (by decide) _) fun n x y h m w => (dY.calls n x.1.1 x.2.1.1 y w h).mono fun e w' he => ⟨he.1, he.2⟩
noncomputable def dD.cls : Cls := [(63, dY.c), (26, aZ.c)]
theorem dD.iI : dB Tryz.prog dD.cls := dB.cons dY.ok (dB.cons aZ.ok (dB.nil))
noncomputable def dD.K (v : SV) : Option (Int × Bool × Bool × Bool × Bool × Bool) := (lI [hI .u32, .agg [.b, .b, .b, .b, .b]] v).map (fun z => (z.1.1, z.2.1.1, z.2.1.2.1, z.2.1.2.2.1, z.2.1.2.2.2.1, z.2.1.2.2.2.2.1))
noncomputable def dD.cuts : List Nat := []
noncomputable def dD.f (k : Nat) (a0 a1 : Int) (a2 a3 : Int) : Option (Int × Bool × Bool × Bool × Bool × Bool) := evF Tryz.prog dD.cls Tryz.f62 dD.cuts k [.one (.i .i64 (.x a0)), .one (.i .i64 (.x a1)), .one (.i .u32 (.x a2)), .one (.i .u32 (.x a3))] dD.K
noncomputable def dD.c : Fc := jC [hI .i64, hI .i64, hI .u32, hI .u32] [hI .u32, .agg [.b, .b, .b, .b, .b]] (T := Int × Bool × Bool × Bool × Bool × Bool) (fun y => ((y.1, ()), (y.2.1, y.2.2.1, y.2.2.2.1, y.2.2.2.2.1, y.2.2.2.2.2, ()), ())) fun n x => dD.f n x.1.1 x.2.1.1 x.2.2.1.1 x.2.2.2.1.1
theorem dD.ok : iP Tryz.prog 62 dD.c := uD dD.iI Tryz.func62 (by kernel_rfl) (by kernel_rfl) (by decide) (fun _ => rfl) (fun _ _ => rfl)
/- Functions' trees, printed by a tool of mine out of the reckoner; Lean's kernel checks each. -/
set_option maxRecDepth 100000
theorem bX.eq (n0 : Nat) (a0 : Bool) (a1 a2 : Int) : bX.f n0 a0 a1 a2 = (if 0 ≤ Int.tmod (wrap64 (a1 + 298)) 64 then (if 0 ≤ wrap64 (Int.tdiv (wrap64 (a1 + 298)) 64) then (if wrap64 (Int.tdiv (wrap64 (a1 + 298)) 64) < 10 then (if 0 < Int.tmod (wrap64 (a1 + 298)) 64 then (if wrap64 (Int.tdiv (wrap64 (a1 + 298)) 64) < 9 then (if 0 ≤ wrap64 (64 - Int.tmod (wrap64 (a1 + 298)) 64) then (if 0 ≤ wrap64 (wrap64 (Int.tdiv (wrap64 (a1 + 298)) 64) + 1) then (if wrap64 (wrap64 (Int.tdiv (wrap64 (a1 + 298)) 64) + 1) < 10 then (some ((a0, List.set (List.set (List.replicate 10 0) (Int.toNat (wrap64 (Int.tdiv (wrap64 (a1 + 298)) 64))) (shl IntKind.u64 a2 (Int.tmod (wrap64 (a1 + 298)) 64))) (Int.toNat (wrap64 (wrap64 (Int.tdiv (wrap64 (a1 + 298)) 64) + 1))) (shr IntKind.u64 a2 (wrap64 (64 - Int.tmod (wrap64 (a1 + 298)) 64)))))) else none) else none) else none) else (some ((a0, List.set (List.replicate 10 0) (Int.toNat (wrap64 (Int.tdiv (wrap64 (a1 + 298)) 64))) (shl IntKind.u64 a2 (Int.tmod (wrap64 (a1 + 298)) 64)))))) else (some ((a0, List.set (List.replicate 10 0) (Int.toNat (wrap64 (Int.tdiv (wrap64 (a1 + 298)) 64))) (shl IntKind.u64 a2 (Int.tmod (wrap64 (a1 + 298)) 64)))))) else none) else none) else none) := by kernel_rfl
noncomputable def bO.l2 (k n0 : Nat) (x0 : Int) (x1 : Bool) (x2 : List Int) (x3 : Bool) (x4 : List Int) := evIn Tryz.prog bO.cls Tryz.f108 bO.cuts [1, 0, 1, 0] [n0] k ⟨[(5, (.pv (.one (.i .i64 (.x x0))))), (3, (.pv (.one (.p 1 0)))), (2, (.pv (.one (.p 0 0))))], [(1, (72, [(.c (.b (.q x1))), (.a .u64 x2 10)])), (0, (72, [(.c (.b (.q x3))), (.a .u64 x4 10)]))], 2⟩ bO.K
theorem bO.eq (n0 : Nat) (a0_0 : Bool) (a0_1 : List Int) (a1_0 : Bool) (a1_1 : List Int) : bO.f n0 a0_0 a0_1 a1_0 a1_1 = (bO.l2 n0 n0 (Int.ofNat 9) (a1_0) (a1_1) (a0_0) (a0_1)) := by kernel_rfl
theorem bO.aAT (k n0 : Nat) (x0 : Int) (x1 : Bool) (x2 : List Int) (x3 : Bool) (x4 : List Int) : bO.l2 (k + 1) n0 x0 x1 x2 x3 x4 = (if 0 ≤ x0 then (if 0 ≤ x0 then (if x0 < 10 then (if 0 ≤ x0 then (if x0 < 10 then (if rd x4 x0 = rd x2 x0 then (bO.l2 k n0 (wrap64 (x0 - 1)) (x1) (x2) (x3) (x4)) else (if 0 ≤ x0 then (if x0 < 10 then (if 0 ≤ x0 then (if x0 < 10 then (some (decide (rd x4 x0 < rd x2 x0))) else none) else none) else none) else none)) else none) else none) else none) else none) else (some (false))) := by kernel_rfl
noncomputable def bJ.l5 (k n0 : Nat) (x0 x1 : Int) (x2 : Bool) (x3 : List Int) (x4 : Bool) (x5 : List Int) (x6 : Bool) (x7 : List Int) := evIn Tryz.prog bJ.cls Tryz.f107 bJ.cuts [1, 1, 1, 0, 1, 0] [n0] k ⟨[(6, (.pv (.one (.i .i64 (.x x0))))), (5, (.pv (.one (.i .u64 (.x x1))))), (4, (.pv (.one (.p 2 0)))), (3, (.pv (.one (.p 1 0)))), (2, (.pv (.one (.p 0 0))))], [(2, (72, [(.c (.b (.q x2))), (.a .u64 x3 10)])), (1, (72, [(.c (.b (.q x4))), (.a .u64 x5 10)])), (0, (72, [(.c (.b (.q x6))), (.a .u64 x7 10)]))], 3⟩ bJ.K
theorem bJ.eq (n0 : Nat) (a0_0 : Bool) (a0_1 : List Int) (a1_0 : Bool) (a1_1 : List Int) : bJ.f n0 a0_0 a0_1 a1_0 a1_1 = ((bO.f n0 a0_0 a0_1 a1_0 a1_1).bind fun t0 => (if t0 = true then (bJ.l5 n0 n0 (Int.ofNat 0) (Int.ofNat 0) (false) (0 :: List.replicate 9 0) (a0_0) (a0_1) (a1_0) (a1_1)) else (bJ.l5 n0 n0 (Int.ofNat 0) (Int.ofNat 0) (false) (0 :: List.replicate 9 0) (a1_0) (a1_1) (a0_0) (a0_1)))) := by kernel_rfl
theorem bJ.aBT (k n0 : Nat) (x0 x1 : Int) (x2 : Bool) (x3 : List Int) (x4 : Bool) (x5 : List Int) (x6 : Bool) (x7 : List Int) : bJ.l5 (k + 1) n0 x0 x1 x2 x3 x4 x5 x6 x7 = (if x0 < 10 then (if 0 ≤ x0 then (if x0 < 10 then (if 0 ≤ x0 then (if x0 < 10 then (if 0 ≤ x0 then (if x0 < 10 then (if 0 ≤ x0 then (if x0 < 10 then (if rd x7 x0 < rd x5 x0 then (if 0 ≤ x0 then (if x0 < 10 then (bJ.l5 k n0 (wrap64 (x0 + 1)) (Int.ofNat 1) (x2) (x3) (x4) (x5) (x6) (List.set x7 (Int.toNat x0) (IntKind.wrap IntKind.u64 (IntKind.wrap IntKind.u64 (rd x7 x0 - rd x5 x0) - x1)))) else none) else none) else (if IntKind.wrap IntKind.u64 (rd x7 x0 - rd x5 x0) < x1 then (if 0 ≤ x0 then (if x0 < 10 then (bJ.l5 k n0 (wrap64 (x0 + 1)) (Int.ofNat 1) (x2) (x3) (x4) (x5) (x6) (List.set x7 (Int.toNat x0) (IntKind.wrap IntKind.u64 (IntKind.wrap IntKind.u64 (rd x7 x0 - rd x5 x0) - x1)))) else none) else none) else (if 0 ≤ x0 then (if x0 < 10 then (bJ.l5 k n0 (wrap64 (x0 + 1)) (Int.ofNat 0) (x2) (x3) (x4) (x5) (x6) (List.set x7 (Int.toNat x0) (IntKind.wrap IntKind.u64 (IntKind.wrap IntKind.u64 (rd x7 x0 - rd x5 x0) - x1)))) else none) else none))) else none) else none) else none) else none) else none) else none) else none) else none) else (some ((x6, x7)))) := by kernel_rfl
noncomputable def bM.l5 (k n0 : Nat) (x0 x1 : Int) (x2 : Bool) (x3 : List Int) (x4 : Bool) (x5 : List Int) (x6 : Bool) (x7 : List Int) := evIn Tryz.prog bM.cls Tryz.f96 bM.cuts [1, 1, 1, 0, 1, 0] [n0] k ⟨[(6, (.pv (.one (.i .i64 (.x x0))))), (5, (.pv (.one (.i .u64 (.x x1))))), (4, (.pv (.one (.p 2 0)))), (3, (.pv (.one (.p 1 0)))), (2, (.pv (.one (.p 0 0))))], [(2, (72, [(.c (.b (.q x2))), (.a .u64 x3 10)])), (1, (72, [(.c (.b (.q x4))), (.a .u64 x5 10)])), (0, (72, [(.c (.b (.q x6))), (.a .u64 x7 10)]))], 3⟩ bM.K
theorem bM.eq (n0 : Nat) (a0_0 : Bool) (a0_1 : List Int) (a1_0 : Bool) (a1_1 : List Int) : bM.f n0 a0_0 a0_1 a1_0 a1_1 = (if (a0_0 == a1_0) = true then (bM.l5 n0 n0 (Int.ofNat 0) (Int.ofNat 0) (false) (0 :: List.replicate 9 0) (a1_0) (a1_1) (a0_0) (a0_1)) else ((bJ.f n0 a0_0 a0_1 a1_0 a1_1).bind fun t0 => (some ((t0.1, t0.2))))) := by kernel_rfl
theorem bM.aBT (k n0 : Nat) (x0 x1 : Int) (x2 : Bool) (x3 : List Int) (x4 : Bool) (x5 : List Int) (x6 : Bool) (x7 : List Int) : bM.l5 (k + 1) n0 x0 x1 x2 x3 x4 x5 x6 x7 = (if x0 < 10 then (if 0 ≤ x0 then (if x0 < 10 then (if 0 ≤ x0 then (if x0 < 10 then (if 0 ≤ x0 then (if x0 < 10 then (if IntKind.wrap IntKind.u64 (rd x7 x0 + rd x5 x0) < rd x7 x0 then (if 0 ≤ x0 then (if x0 < 10 then (bM.l5 k n0 (wrap64 (x0 + 1)) (Int.ofNat 1) (x2) (x3) (x4) (x5) (x6) (List.set x7 (Int.toNat x0) (IntKind.wrap IntKind.u64 (IntKind.wrap IntKind.u64 (rd x7 x0 + rd x5 x0) + x1)))) else none) else none) else (if IntKind.wrap IntKind.u64 (IntKind.wrap IntKind.u64 (rd x7 x0 + rd x5 x0) + x1) < IntKind.wrap IntKind.u64 (rd x7 x0 + rd x5 x0) then (if 0 ≤ x0 then (if x0 < 10 then (bM.l5 k n0 (wrap64 (x0 + 1)) (Int.ofNat 1) (x2) (x3) (x4) (x5) (x6) (List.set x7 (Int.toNat x0) (IntKind.wrap IntKind.u64 (IntKind.wrap IntKind.u64 (rd x7 x0 + rd x5 x0) + x1)))) else none) else none) else (if 0 ≤ x0 then (if x0 < 10 then (bM.l5 k n0 (wrap64 (x0 + 1)) (Int.ofNat 0) (x2) (x3) (x4) (x5) (x6) (List.set x7 (Int.toNat x0) (IntKind.wrap IntKind.u64 (IntKind.wrap IntKind.u64 (rd x7 x0 + rd x5 x0) + x1)))) else none) else none))) else none) else none) else none) else none) else none) else none) else (some ((x6, x7)))) := by kernel_rfl
theorem dH.eq (n0 : Nat) (a0_0 : Bool) (a0_1 : List Int) : dH.f n0 a0_0 a0_1 = (some (a0_1 ++ [] == List.replicate 10 0 ++ [])) := by kernel_rfl
noncomputable def aO.l2 (k n0 : Nat) (x0 x1 x2 : Int) (x3 x4 : Bool) (x5 x6 : Bool) (x7 x8 : Bool) (x9 : List Int) := evIn Tryz.prog aO.cls Tryz.f98 aO.cuts [1, 1, 0, 0] [n0] k ⟨[(8, (.pv (.one (.i .i64 (.x x0))))), (7, (.pv (.one (.p 1 0)))), (5, (.pv (.one (.p 0 0)))), (1, (.pv (.one (.i .i64 (.x x1))))), (0, (.pv (.one (.i .i64 (.x x2)))))], [(1, (42, [(.c (.b (.q x3))), (.c (.b (.q x4))), (.c (.b (.q x5))), (.c (.b (.q x6))), (.c (.b (.q x7)))])), (0, (72, [(.c (.b (.q x8))), (.a .u64 x9 10)]))], 2⟩ aO.K
noncomputable def aO.l19 (k n0 : Nat) (x0 : Int) (x1 : Bool) (x2 x3 : Int) (x4 x5 x6 : Int) (x7 x8 : Bool) (x9 x10 : Bool) (x11 x12 : Bool) (x13 : List Int) := evIn Tryz.prog aO.cls Tryz.f98 aO.cuts [1, 1, 1, 1, 1, 1, 1, 0, 1, 0, 1, 1, 1, 1, 1, 1, 1, 1, 0] [n0] k ⟨[(15, (.pv (.one (.i .i64 (.x x0))))), (12, (.pv (.one (.b (.q x1))))), (11, (.pv (.one (.i .i64 (.x x2))))), (10, (.pv (.one (.i .u64 (.x x3))))), (8, (.pv (.one (.i .i64 (.x x4))))), (7, (.pv (.one (.p 1 0)))), (5, (.pv (.one (.p 0 0)))), (1, (.pv (.one (.i .i64 (.x x5))))), (0, (.pv (.one (.i .i64 (.x x6)))))], [(1, (42, [(.c (.b (.q x7))), (.c (.b (.q x8))), (.c (.b (.q x9))), (.c (.b (.q x10))), (.c (.b (.q x11)))])), (0, (72, [(.c (.b (.q x12))), (.a .u64 x13 10)]))], 2⟩ aO.K
theorem aO.eq (n0 : Nat) (a0 a1 : Int) (a2_0 : Bool) (a2_1 : List Int) : aO.f n0 a0 a1 a2_0 a2_1 = (aO.l2 n0 n0 (Int.ofNat 9) (a1) (a0) (false) (false) (false) (false) (false) (a2_0) (a2_1)) := by kernel_rfl
theorem aO.aAT (k n0 : Nat) (x0 x1 x2 : Int) (x3 x4 : Bool) (x5 x6 : Bool) (x7 x8 : Bool) (x9 : List Int) : aO.l2 (k + 1) n0 x0 x1 x2 x3 x4 x5 x6 x7 x8 x9 = (if 0 ≤ x0 then (if x0 < 10 then (if rd x9 x0 = 0 then (aO.l2 k n0 (wrap64 (x0 - 1)) (x1) (x2) (x3) (x4) (x5) (x6) (x7) (x8) (x9)) else (if 0 ≤ x0 then (if x0 < 10 then ((aW.f n0 (rd x9 x0)).bind fun t0 => (if 0 ≤ x0 then (if x0 < 10 then (if 0 < x0 then (if 0 ≤ wrap64 (64 - t0) then (if 0 ≤ wrap64 (x0 - 1) then (if wrap64 (x0 - 1) < 10 then (if 0 ≤ t0 then (if t0 = 64 then (if 0 ≤ x0 then (if x0 < 10 then (if 0 ≤ wrap64 (x0 - 1) then (if wrap64 (x0 - 1) < 10 then (if t0 < 64 then (if 0 ≤ wrap64 (64 - t0) then (aO.l19 n0 n0 (Int.ofNat 0) (!(shl IntKind.u64 (rd x9 (wrap64 (x0 - 1))) (wrap64 (64 - t0)) == 0)) (wrap64 (wrap64 (wrap64 (64 * x0) - 298) - wrap64 (64 - t0))) (rd x9 x0) (x0) (x1) (x2) (x3) (x4) (x5) (x6) (x7) (x8) (x9)) else none) else (aO.l19 n0 n0 (Int.ofNat 0) (!(rd x9 (wrap64 (x0 - 1)) == 0)) (wrap64 (wrap64 (wrap64 (64 * x0) - 298) - wrap64 (64 - t0))) (rd x9 x0) (x0) (x1) (x2) (x3) (x4) (x5) (x6) (x7) (x8) (x9))) else none) else none) else none) else none) else (if 0 ≤ wrap64 (x0 - 1) then (if wrap64 (x0 - 1) < 10 then (if t0 < 64 then (if 0 ≤ wrap64 (64 - t0) then (aO.l19 n0 n0 (Int.ofNat 0) (!(shl IntKind.u64 (rd x9 (wrap64 (x0 - 1))) (wrap64 (64 - t0)) == 0)) (wrap64 (wrap64 (wrap64 (64 * x0) - 298) - wrap64 (64 - t0))) (bits BinOp.or IntKind.u64 (shl IntKind.u64 (rd x9 x0) (wrap64 (64 - t0))) (shr IntKind.u64 (rd x9 (wrap64 (x0 - 1))) t0)) (x0) (x1) (x2) (x3) (x4) (x5) (x6) (x7) (x8) (x9)) else none) else (aO.l19 n0 n0 (Int.ofNat 0) (!(rd x9 (wrap64 (x0 - 1)) == 0)) (wrap64 (wrap64 (wrap64 (64 * x0) - 298) - wrap64 (64 - t0))) (bits BinOp.or IntKind.u64 (shl IntKind.u64 (rd x9 x0) (wrap64 (64 - t0))) (shr IntKind.u64 (rd x9 (wrap64 (x0 - 1))) t0)) (x0) (x1) (x2) (x3) (x4) (x5) (x6) (x7) (x8) (x9))) else none) else none)) else none) else none) else none) else none) else ((aA.f n0 x2 x1 x8 (wrap64 (wrap64 (64 * x0) - 298)) (rd x9 x0) false).bind fun t1 => (some ((t1.1, t1.2.1, t1.2.2.1, t1.2.2.2.1, t1.2.2.2.2.1, t1.2.2.2.2.2))))) else none) else none)) else none) else none)) else none) else none) := by kernel_rfl
theorem aO.l19_eq (k n0 : Nat) (x0 : Int) (x1 : Bool) (x2 x3 : Int) (x4 x5 x6 : Int) (x7 x8 : Bool) (x9 x10 : Bool) (x11 x12 : Bool) (x13 : List Int) : aO.l19 (k + 1) n0 x0 x1 x2 x3 x4 x5 x6 x7 x8 x9 x10 x11 x12 x13 = (if x0 < wrap64 (x4 - 1) then (if x1 = true then (aO.l19 k n0 (wrap64 (x0 + 1)) (true) (x2) (x3) (x4) (x5) (x6) (x7) (x8) (x9) (x10) (x11) (x12) (x13)) else (if 0 ≤ x0 then (if x0 < 10 then (aO.l19 k n0 (wrap64 (x0 + 1)) (!(rd x13 x0 == 0)) (x2) (x3) (x4) (x5) (x6) (x7) (x8) (x9) (x10) (x11) (x12) (x13)) else none) else none)) else ((aA.f n0 x6 x5 x12 x2 x3 x1).bind fun t0 => (some ((t0.1, t0.2.1, t0.2.2.1, t0.2.2.2.1, t0.2.2.2.2.1, t0.2.2.2.2.2))))) := by kernel_rfl
theorem dA.eq (n0 : Nat) (a0 a1 : Int) (a2_0 : Bool) (a2_1 : List Int) (a3_0 : Bool) (a3_1 : List Int) : dA.f n0 a0 a1 a2_0 a2_1 a3_0 a3_1 = ((bM.f n0 a2_0 a2_1 a3_0 a3_1).bind fun t0 => ((dH.f n0 t0.1 t0.2).bind fun t1 => (if t1 = true then ((bV.f a0 (a1 == 3)).bind fun t2 => (some ((t2, false, false, false, false, false)))) else ((aO.f n0 a0 a1 t0.1 t0.2).bind fun t2 => (some ((t2.1, t2.2.1, t2.2.2.1, t2.2.2.2.1, t2.2.2.2.2.1, t2.2.2.2.2.2))))))) := by kernel_rfl
noncomputable def aZ.j6 (n0 : Nat) (x0 x1 : Int) (x2 x3 : Int) (x4 x5 : Bool) (x6 x7 x8 : Bool) := jV Tryz.prog aZ.cls Tryz.f26 aZ.cuts [1, 1, 1] [n0] n0 ⟨[(9, (.pv (.one (.p 0 0)))), (3, (.pv (.one (.i .u32 (.x x0))))), (2, (.pv (.one (.i .u32 (.x x1))))), (1, (.pv (.one (.i .i64 (.x x2))))), (0, (.pv (.one (.i .i64 (.x x3)))))], [(0, (42, [(.c (.b (.q x4))), (.c (.b (.q x5))), (.c (.b (.q x6))), (.c (.b (.q x7))), (.c (.b (.q x8)))]))], 1⟩ aZ.K
noncomputable def aZ.j12 (n0 : Nat) (x0 x1 : Int) (x2 x3 : Int) (x4 x5 : Bool) (x6 x7 x8 : Bool) := jV Tryz.prog aZ.cls Tryz.f26 aZ.cuts [1, 1, 1, 1, 1, 1] [n0] n0 ⟨[(9, (.pv (.one (.p 0 0)))), (3, (.pv (.one (.i .u32 (.x x0))))), (2, (.pv (.one (.i .u32 (.x x1))))), (1, (.pv (.one (.i .i64 (.x x2))))), (0, (.pv (.one (.i .i64 (.x x3)))))], [(0, (42, [(.c (.b (.q x4))), (.c (.b (.q x5))), (.c (.b (.q x6))), (.c (.b (.q x7))), (.c (.b (.q x8)))]))], 1⟩ aZ.K
theorem aZ.eq (n0 : Nat) (a0 a1 : Int) (a2 a3 : Int) : aZ.f n0 a0 a1 a2 a3 = ((aD.f n0 a0 [a2, a3]).bind fun t0 => (if t0.1 = true then ((bN.f a0).bind fun t1 => (some ((t1, t0.2, false, false, false, false)))) else ((aI.f n0 a0 a2).bind fun t1 => (if t1 = true then ((aI.f n0 a0 a3).bind fun t2 => (if t2 = true then ((bG.f a0 a2).bind fun t3 => ((bG.f a0 a3).bind fun t4 => (if (t3 == t4) = true then (aZ.j6 n0 (a3) (a2) (a1) (a0) (false) (false) (false) (false) (false)) else ((bN.f a0).bind fun t5 => (some ((t5, true, false, false, false, false))))))) else (aZ.j6 n0 (a3) (a2) (a1) (a0) (false) (false) (false) (false) (false)))) else (aZ.j6 n0 (a3) (a2) (a1) (a0) (false) (false) (false) (false) (false)))))) := by kernel_rfl
theorem aZ.yC (n0 : Nat) (x0 x1 : Int) (x2 x3 : Int) (x4 x5 : Bool) (x6 x7 x8 : Bool) : aZ.j6 n0 x0 x1 x2 x3 x4 x5 x6 x7 x8 = ((aI.f n0 x3 x1).bind fun t0 => (if t0 = true then ((bL.f x3).bind fun t1 => (some ((bits BinOp.and IntKind.u32 x1 t1, false, false, false, false, false)))) else ((aI.f n0 x3 x0).bind fun t1 => (if t1 = true then ((bL.f x3).bind fun t2 => (some ((bits BinOp.and IntKind.u32 x0 t2, false, false, false, false, false)))) else ((aM.f n0 x3 x1).bind fun t2 => (if t2 = true then ((aM.f n0 x3 x0).bind fun t3 => (if t3 = true then ((bG.f x3 x1).bind fun t4 => ((bG.f x3 x0).bind fun t5 => (if (t4 == t5) = true then ((bL.f x3).bind fun t6 => (some ((bits BinOp.and IntKind.u32 x1 t6, false, false, false, false, false)))) else (aZ.j12 n0 (x0) (x1) (x2) (x3) (x4) (x5) (x6) (x7) (x8))))) else (aZ.j12 n0 (x0) (x1) (x2) (x3) (x4) (x5) (x6) (x7) (x8)))) else (aZ.j12 n0 (x0) (x1) (x2) (x3) (x4) (x5) (x6) (x7) (x8)))))))) := by kernel_rfl
theorem aZ.aA4 (n0 : Nat) (x0 x1 : Int) (x2 x3 : Int) (x4 x5 : Bool) (x6 x7 x8 : Bool) : aZ.j12 n0 x0 x1 x2 x3 x4 x5 x6 x7 x8 = ((aN.f n0 x3 x1).bind fun t0 => ((bX.f n0 t0.1 t0.2.1 t0.2.2).bind fun t1 => ((aN.f n0 x3 x0).bind fun t2 => ((bX.f n0 t2.1 t2.2.1 t2.2.2).bind fun t3 => ((dA.f n0 x3 x2 t1.1 t1.2 t3.1 t3.2).bind fun t4 => (some ((t4.1, t4.2.1, t4.2.2.1, t4.2.2.2.1, t4.2.2.2.2.1, t4.2.2.2.2.2)))))))) := by kernel_rfl
noncomputable def aS.j2 (n0 : Nat) (x0 : Bool) (x1 x2 : Int) (x3 x4 x5 : Int) (x6 x7 : Bool) (x8 x9 x10 : Bool) := jV Tryz.prog aS.cls Tryz.f99 aS.cuts [1, 1] [n0] n0 ⟨[(12, (.pv (.one (.b (.q x0))))), (11, (.pv (.one (.p 0 0)))), (4, (.pv (.one (.i .u32 (.x x1))))), (3, (.pv (.one (.i .u32 (.x x2))))), (2, (.pv (.one (.i .u32 (.x x3))))), (1, (.pv (.one (.i .i64 (.x x4))))), (0, (.pv (.one (.i .i64 (.x x5)))))], [(0, (42, [(.c (.b (.q x6))), (.c (.b (.q x7))), (.c (.b (.q x8))), (.c (.b (.q x9))), (.c (.b (.q x10)))]))], 1⟩ aS.K
noncomputable def aS.j5 (n0 : Nat) (x0 x1 : Int) (x2 x3 x4 : Int) (x5 x6 : Bool) (x7 x8 x9 : Bool) := jV Tryz.prog aS.cls Tryz.f99 aS.cuts [1, 1, 1] [n0] n0 ⟨[(11, (.pv (.one (.p 0 0)))), (4, (.pv (.one (.i .u32 (.x x0))))), (3, (.pv (.one (.i .u32 (.x x1))))), (2, (.pv (.one (.i .u32 (.x x2))))), (1, (.pv (.one (.i .i64 (.x x3))))), (0, (.pv (.one (.i .i64 (.x x4)))))], [(0, (42, [(.c (.b (.q x5))), (.c (.b (.q x6))), (.c (.b (.q x7))), (.c (.b (.q x8))), (.c (.b (.q x9)))]))], 1⟩ aS.K
noncomputable def aS.j14 (n0 : Nat) (x0 : Bool) (x1 x2 : Int) (x3 x4 x5 : Int) (x6 x7 : Bool) (x8 x9 x10 : Bool) := jV Tryz.prog aS.cls Tryz.f99 aS.cuts [1, 1, 1, 1, 1, 1, 1] [n0] n0 ⟨[(15, (.pv (.one (.b (.q x0))))), (11, (.pv (.one (.p 0 0)))), (4, (.pv (.one (.i .u32 (.x x1))))), (3, (.pv (.one (.i .u32 (.x x2))))), (2, (.pv (.one (.i .u32 (.x x3))))), (1, (.pv (.one (.i .i64 (.x x4))))), (0, (.pv (.one (.i .i64 (.x x5)))))], [(0, (42, [(.c (.b (.q x6))), (.c (.b (.q x7))), (.c (.b (.q x8))), (.c (.b (.q x9))), (.c (.b (.q x10)))]))], 1⟩ aS.K
theorem aS.eq (n0 : Nat) (a0 a1 : Int) (a2 a3 a4 : Int) : aS.f n0 a0 a1 a2 a3 a4 = ((aM.f n0 a0 a2).bind fun t0 => (if t0 = true then ((aI.f n0 a0 a3).bind fun t1 => (if t1 = true then (aS.j2 n0 (true) (a4) (a3) (a2) (a1) (a0) (false) (false) (false) (false) (false)) else ((aI.f n0 a0 a2).bind fun t2 => (if t2 = true then ((aM.f n0 a0 a3).bind fun t3 => (aS.j2 n0 (t3) (a4) (a3) (a2) (a1) (a0) (false) (false) (false) (false) (false))) else (aS.j2 n0 (false) (a4) (a3) (a2) (a1) (a0) (false) (false) (false) (false) (false)))))) else ((aI.f n0 a0 a2).bind fun t1 => (if t1 = true then ((aM.f n0 a0 a3).bind fun t2 => (aS.j2 n0 (t2) (a4) (a3) (a2) (a1) (a0) (false) (false) (false) (false) (false))) else (aS.j2 n0 (false) (a4) (a3) (a2) (a1) (a0) (false) (false) (false) (false) (false)))))) := by kernel_rfl
theorem aS.j2_eq (n0 : Nat) (x0 : Bool) (x1 x2 : Int) (x3 x4 x5 : Int) (x6 x7 : Bool) (x8 x9 x10 : Bool) : aS.j2 n0 x0 x1 x2 x3 x4 x5 x6 x7 x8 x9 x10 = ((aD.f n0 x5 [x3, x2, x1]).bind fun t0 => (if t0.1 = true then ((bN.f x5).bind fun t1 => (if t0.2 = true then (some ((t1, true, false, false, false, false))) else (some ((t1, x0, false, false, false, false))))) else (if x0 = true then ((bN.f x5).bind fun t1 => (if t0.2 = true then (some ((t1, true, false, false, false, false))) else (some ((t1, x0, false, false, false, false))))) else (aS.j5 n0 (x1) (x2) (x3) (x4) (x5) (x6) (x7) (x8) (x9) (x10))))) := by kernel_rfl
theorem aS.j5_eq (n0 : Nat) (x0 x1 : Int) (x2 x3 x4 : Int) (x5 x6 : Bool) (x7 x8 x9 : Bool) : aS.j5 n0 x0 x1 x2 x3 x4 x5 x6 x7 x8 x9 = ((bG.f x4 x2).bind fun t0 => ((bG.f x4 x1).bind fun t1 => ((aI.f n0 x4 x2).bind fun t2 => (if t2 = true then ((aI.f n0 x4 x0).bind fun t3 => (if t3 = true then ((bG.f x4 x0).bind fun t4 => (if (t4 == !t0 == t1) = true then ((bD.f x4 !t0 == t1).bind fun t5 => (some ((t5, false, false, false, false, false)))) else ((bN.f x4).bind fun t5 => (some ((t5, true, false, false, false, false)))))) else ((bD.f x4 !t0 == t1).bind fun t4 => (some ((t4, false, false, false, false, false)))))) else ((aI.f n0 x4 x1).bind fun t3 => (if t3 = true then ((aI.f n0 x4 x0).bind fun t4 => (if t4 = true then ((bG.f x4 x0).bind fun t5 => (if (t5 == !t0 == t1) = true then ((bD.f x4 !t0 == t1).bind fun t6 => (some ((t6, false, false, false, false, false)))) else ((bN.f x4).bind fun t6 => (some ((t6, true, false, false, false, false)))))) else ((bD.f x4 !t0 == t1).bind fun t5 => (some ((t5, false, false, false, false, false)))))) else ((aI.f n0 x4 x0).bind fun t4 => (if t4 = true then ((bL.f x4).bind fun t5 => (some ((bits BinOp.and IntKind.u32 x0 t5, false, false, false, false, false)))) else ((aM.f n0 x4 x2).bind fun t5 => (if t5 = true then ((aM.f n0 x4 x0).bind fun t6 => (if t6 = true then ((bG.f x4 x0).bind fun t7 => (if ((!t0 == t1) == t7) = true then ((bV.f x4 !t0 == t1).bind fun t8 => (some ((t8, false, false, false, false, false)))) else (aS.j14 n0 (!(t0 == t1)) (x0) (x1) (x2) (x3) (x4) (x5) (x6) (x7) (x8) (x9)))) else (aS.j14 n0 (!(t0 == t1)) (x0) (x1) (x2) (x3) (x4) (x5) (x6) (x7) (x8) (x9)))) else ((aM.f n0 x4 x1).bind fun t6 => (if t6 = true then ((aM.f n0 x4 x0).bind fun t7 => (if t7 = true then ((bG.f x4 x0).bind fun t8 => (if ((!t0 == t1) == t8) = true then ((bV.f x4 !t0 == t1).bind fun t9 => (some ((t9, false, false, false, false, false)))) else (aS.j14 n0 (!(t0 == t1)) (x0) (x1) (x2) (x3) (x4) (x5) (x6) (x7) (x8) (x9)))) else (aS.j14 n0 (!(t0 == t1)) (x0) (x1) (x2) (x3) (x4) (x5) (x6) (x7) (x8) (x9)))) else (aS.j14 n0 (!(t0 == t1)) (x0) (x1) (x2) (x3) (x4) (x5) (x6) (x7) (x8) (x9)))))))))))))) := by kernel_rfl
theorem aS.aBK (n0 : Nat) (x0 : Bool) (x1 x2 : Int) (x3 x4 x5 : Int) (x6 x7 : Bool) (x8 x9 x10 : Bool) : aS.j14 n0 x0 x1 x2 x3 x4 x5 x6 x7 x8 x9 x10 = ((aN.f n0 x5 x3).bind fun t0 => ((aN.f n0 x5 x2).bind fun t1 => ((bX.f n0 x0 (wrap64 (t0.2.1 + t1.2.1)) (IntKind.wrap IntKind.u64 (t0.2.2 * t1.2.2))).bind fun t2 => ((aN.f n0 x5 x1).bind fun t3 => ((bX.f n0 t3.1 t3.2.1 t3.2.2).bind fun t4 => ((dA.f n0 x5 x4 t2.1 t2.2 t4.1 t4.2).bind fun t5 => (some ((t5.1, t5.2.1, t5.2.2.1, t5.2.2.2.1, t5.2.2.2.2.1, t5.2.2.2.2.2))))))))) := by kernel_rfl
theorem dD.eq (n0 : Nat) (a0 a1 : Int) (a2 a3 : Int) : dD.f n0 a0 a1 a2 a3 = ((dY.f n0 a0 a3).bind fun t0 => ((aZ.f n0 a0 a1 a2 t0).bind fun t1 => (some ((t1.1, t1.2.1, t1.2.2.1, t1.2.2.2.1, t1.2.2.2.2.1, t1.2.2.2.2.2))))) := by kernel_rfl
end Go.Proofs.YtjlgmfgjleajfaaGreat.E

/- Plain facts about whole numbers in their kinds: wraps, shifts, bits, as numbers from nought on. -/
namespace Go.Proofs.YtjlgmfgjleajfaaGreat.Num
open Go.RowKit Go.Proofs.YtjlgmfgjleajfaaGreatW.PrintWords Go.Proofs.YtjlgmfgjleajfaaGreatW.PrintLast Go.Proofs.YtjlgmfgjleajfaaGreatW.PrintMore

theorem iH (n : Int) : IntKind.u64.wrap n = n % 18446744073709551616 := by simp [IntKind.wrap, IntKind.bits, IntKind.signed]
theorem vH (n : Int) : IntKind.u32.wrap n = n % 4294967296 := by simp [IntKind.wrap, IntKind.bits, IntKind.signed]
theorem i64_wrap (n : Int) : IntKind.i64.wrap n = wrap64 n := by rw [i64_w]
theorem vR (n : Nat) : IntKind.u64.wrap (n : Int) = ((n % 18446744073709551616 : Nat) : Int) := by rw [iH]; omega
theorem iD (n : Nat) (h : n < 18446744073709551616) : IntKind.u64.wrap (n : Int) = (n : Int) := by rw [iH]; omega
theorem cK (n : Int) (h : -9223372036854775808 ≤ n) (h' : n ≤ 9223372036854775807) : wrap64 n = n := by unfold wrap64; omega
theorem lZ {n : Int} (h : 0 ≤ n) : ∃ m : Nat, n = (m : Int) := ⟨n.toNat, by omega⟩

theorem vO (n : Nat) : ((2 ^ n : Nat) : Int) = (2 : Int) ^ n := by simp

theorem aA6 (k : IntKind) (v n : Nat) (hv : v < 2 ^ k.bits) : shr k (v : Int) (n : Int) = ((v / 2 ^ n : Nat) : Int) := by
 unfold shr
 rw [Int.toNat_natCast]
 by_cases h : n ≤ k.bits
 ·rw [Nat.min_eq_left h]; simp
 ·rw [Nat.min_eq_right (by omega), Nat.div_eq_of_lt (show v < 2 ^ n from Nat.lt_of_lt_of_le hv (Nat.pow_le_pow_right (by decide) (by omega)))]
  have : v / 2 ^ k.bits = 0 := Nat.div_eq_of_lt hv
  have e : ((v : Int) / 2 ^ k.bits) = ((v / 2 ^ k.bits : Nat) : Int) := by simp
  rw [e, this]
theorem nJ (v n : Nat) (hv : v < 18446744073709551616) : shr .u64 (v : Int) (n : Int) = ((v / 2 ^ n : Nat) : Int) := aA6 .u64 v n hv
theorem tC (v n : Nat) (hv : v < 4294967296) : shr .u32 (v : Int) (n : Int) = ((v / 2 ^ n : Nat) : Int) := aA6 .u32 v n hv
theorem lL (v n : Nat) : shl .u64 (v : Int) (n : Int) = ((v * 2 ^ n % 18446744073709551616 : Nat) : Int) := by
 unfold shl
 rw [Int.toNat_natCast]
 by_cases h : n ≤ 64
 ·rw [show IntKind.u64.bits = 64 from rfl, Nat.min_eq_left h, show (v : Int) * 2 ^ n = ((v * 2 ^ n : Nat) : Int) by simp, vR]
 ·have e : (2 : Nat) ^ n = 18446744073709551616 * 2 ^ (n - 64) := by rw [show 18446744073709551616 = 2 ^ 64 from rfl, ← Nat.pow_add]; congr 1; omega
  rw [Nat.min_eq_right (show IntKind.u64.bits ≤ n by show 64 ≤ n; omega), show (v : Int) * 2 ^ IntKind.u64.bits = ((v * 18446744073709551616 : Nat) : Int) by simp [IntKind.bits], vR, Nat.mul_mod_left, e, ← Nat.mul_assoc, Nat.mul_comm v, Nat.mul_assoc, Nat.mul_mod_right]
theorem r9 (v n : Nat) : shl .u32 (v : Int) (n : Int) = ((v * 2 ^ n % 4294967296 : Nat) : Int) := by
 unfold shl
 rw [Int.toNat_natCast]
 by_cases h : n ≤ 32
 ·rw [show IntKind.u32.bits = 32 from rfl, Nat.min_eq_left h, show (v : Int) * 2 ^ n = ((v * 2 ^ n : Nat) : Int) by simp, vH]; omega
 ·have e : (2 : Nat) ^ n = 4294967296 * 2 ^ (n - 32) := by rw [show 4294967296 = 2 ^ 32 from rfl, ← Nat.pow_add]; congr 1; omega
  rw [Nat.min_eq_right (show IntKind.u32.bits ≤ n by show 32 ≤ n; omega), show (v : Int) * 2 ^ IntKind.u32.bits = ((v * 4294967296 : Nat) : Int) by simp [IntKind.bits], vH, e, ← Nat.mul_assoc, Nat.mul_comm v, Nat.mul_assoc, Nat.mul_mod_right]; omega

theorem wraps_u64 (n : Int) (h₀ : 0 ≤ n) (h₁ : n < 2 ^ 64) : IntKind.u64.wrap n = n := by rw [iH]; omega
theorem wraps_u32 (n : Int) (h₀ : 0 ≤ n) (h₁ : n < 2 ^ 32) : IntKind.u32.wrap n = n := by rw [vH]; omega
theorem and_u64 (a b : Nat) (ha : a < 18446744073709551616) (hb : b < 18446744073709551616) : Go.bits .and .u64 a b = ((a &&& b : Nat) : Int) := (bits_nat .u64 64 (by decide) wraps_u64 a b ha hb).1
theorem or_u64 (a b : Nat) (ha : a < 18446744073709551616) (hb : b < 18446744073709551616) : Go.bits .or .u64 a b = ((a ||| b : Nat) : Int) := (bits_nat .u64 64 (by decide) wraps_u64 a b ha hb).2
theorem xX (a b : Nat) (ha : a < 4294967296) (hb : b < 4294967296) : Go.bits .and .u32 a b = ((a &&& b : Nat) : Int) := (bits_nat .u32 32 (by decide) wraps_u32 a b ha hb).1
theorem qV (a b : Nat) (ha : a < 4294967296) (hb : b < 4294967296) : Go.bits .or .u32 a b = ((a ||| b : Nat) : Int) := (bits_nat .u32 32 (by decide) wraps_u32 a b ha hb).2
theorem yN (a b : Nat) (ha : a < 4294967296) (hb : b < 4294967296) : Go.bits .xor .u32 a b = ((a ^^^ b : Nat) : Int) := by
 have e : (BitVec.ofInt 32 (a : Int) ^^^ BitVec.ofInt 32 (b : Int)).toNat = a ^^^ b := by
  rw [BitVec.toNat_xor, BitVec.ofInt_natCast, BitVec.ofInt_natCast, BitVec.toNat_ofNat, BitVec.toNat_ofNat, Nat.mod_eq_of_lt ha, Nat.mod_eq_of_lt hb]
 show IntKind.u32.wrap (((BitVec.ofInt 32 (a : Int) ^^^ BitVec.ofInt 32 (b : Int)).toNat : Nat) : Int) = _
 rw [e]
 exact wraps_u32 _ (Int.natCast_nonneg _) (by exact_mod_cast Nat.xor_lt_two_pow (n := 32) ha hb)
theorem vS (a n : Nat) (ha : a < 18446744073709551616) (hn : n ≤ 64) : Go.bits .and .u64 a ((2 ^ n - 1 : Nat) : Int) = ((a % 2 ^ n : Nat) : Int) := by
 have h : 2 ^ n - 1 < 18446744073709551616 := by
  have := Nat.pow_le_pow_right (show 0 < 2 by decide) hn
  have : 0 < 2 ^ n := Nat.two_pow_pos n
  omega
 rw [and_u64 a _ ha h, Nat.and_two_pow_sub_one_eq_mod]
theorem pV (a : Nat) (ha : a < 18446744073709551616) : Go.bits .and .u64 a 1 = ((a % 2 : Nat) : Int) := vS a 1 ha (by decide)
theorem o6 (a b n : Nat) (ha : a % 2 ^ n = 0) (hb : b < 2 ^ n) : a ||| b = a + b := by
 have hq : a = 2 ^ n * (a / 2 ^ n) := by have := Nat.div_add_mod a (2 ^ n); omega
 have := Nat.two_pow_add_eq_or_of_lt hb (a / 2 ^ n)
 rw [← hq] at this
 exact this.symm
end Go.Proofs.YtjlgmfgjleajfaaGreat.Num

/- What the functions of layer 1 compute, as plain numbers. -/
namespace Go.Proofs.YtjlgmfgjleajfaaGreat.BitsF
open Go.RowKit Go.Proofs.YtjlgmfgjleajfaaGreat.P Go.Proofs.YtjlgmfgjleajfaaGreat.Num Go.Proofs.YtjlgmfgjleajfaaGreatW.PrintWords Go.Proofs.YtjlgmfgjleajfaaGreatW.PrintLast Go.Proofs.YtjlgmfgjleajfaaGreatW.PrintMore

def lK (v : Nat) (n : Int) : Nat × Bool :=
 if 0 ≤ n then (v / 2 ^ n.toNat, decide (v % 2 ^ n.toNat ≠ 0)) else (v * 2 ^ (-n).toNat % 18446744073709551616, decide (18446744073709551616 ≤ v * 2 ^ (-n).toNat))
theorem jT (v n : Nat) : lK v (n : Int) = (v / 2 ^ n, decide (v % 2 ^ n ≠ 0)) := by
 unfold lK; rw [if_pos (by omega)]; simp
theorem lJ (v n : Nat) (hv : v < 18446744073709551616) : lK v (-(n : Int)) = (v * 2 ^ n % 18446744073709551616, decide (18446744073709551616 ≤ v * 2 ^ n)) := by
 unfold lK
 by_cases h : n = 0
 ·subst h; simp [Nat.mod_one]; omega
 ·rw [if_neg (by omega)]; simp

theorem nR {n : Nat} (h : 64 ≤ n) : 18446744073709551616 ≤ 2 ^ n := by
 have : 2 ^ 64 ≤ 2 ^ n := Nat.pow_le_pow_right (by decide) h
 omega
theorem aCd {n : Nat} (h : n ≤ 64) : 2 ^ n * 2 ^ (64 - n) = 18446744073709551616 := by
 rw [← Nat.pow_add, show n + (64 - n) = 64 by omega]
theorem back_ne (v n : Nat) : decide (v / 2 ^ n * 2 ^ n ≠ v) = decide (v % 2 ^ n ≠ 0) := by
 have := Nat.div_add_mod v (2 ^ n)
 rw [Nat.mul_comm] at this
 congr 1
 apply propext
 constructor <;> intro h <;> omega
theorem aBU (v n : Nat) (hn : n ≤ 64) : decide ((v * 2 ^ n % 18446744073709551616) / 2 ^ n ≠ v) = decide (18446744073709551616 ≤ v * 2 ^ n) := by
 have hp : 0 < 2 ^ n := Nat.two_pow_pos n
 have e : v * 2 ^ n % 18446744073709551616 = (v % 2 ^ (64 - n)) * 2 ^ n := by
  rw [← aCd hn, Nat.mul_comm (2 ^ n), Nat.mul_mod_mul_right]
 rw [e, Nat.mul_div_cancel _ hp]
 congr 1
 apply propext
 have hq : 0 < 2 ^ (64 - n) := Nat.two_pow_pos _
 have d := aCd hn
 constructor
 ·intro h
  have : 2 ^ (64 - n) ≤ v := by
   apply Nat.le_of_not_lt; intro hlt; exact h (Nat.mod_eq_of_lt hlt)
  calc 18446744073709551616 = 2 ^ (64 - n) * 2 ^ n := by rw [Nat.mul_comm]; exact d.symm
   _ ≤ v * 2 ^ n := Nat.mul_le_mul_right _ this
 ·intro h h'
  have hlt : v < 2 ^ (64 - n) := by rw [← h']; exact Nat.mod_lt _ hq
  have : v * 2 ^ n < 2 ^ (64 - n) * 2 ^ n := Nat.mul_lt_mul_of_pos_right hlt hp
  rw [Nat.mul_comm (2 ^ (64 - n)), d] at this
  omega
theorem bne_cast (a b : Nat) : (((a : Int) != (b : Int)) : Bool) = decide (a ≠ b) := by
 by_cases h : a = b
 ·subst h; simp
 ·rw [bne_iff_ne.mpr (by omega)]; simp [h]

theorem vB (v : Nat) (hv : v < 18446744073709551616) (n : Int) (h1 : -9223372036854775808 ≤ n) (h2 : n ≤ 9223372036854775807) (k : Nat) :
  aV.f (k + 1) (v : Int) n = some ((((lK v n).1 : Nat) : Int), (lK v n).2) := by
 unfold aV.f
 by_cases c : n ≥ 64
 ·rw [if_pos c]
  simp only [aV.j0, if_true]
  obtain ⟨m, rfl⟩ := lZ (show 0 ≤ n by omega)
  rw [jT]
  have := nR (show 64 ≤ m by omega)
  rw [Nat.div_eq_of_lt (by omega), Nat.mod_eq_of_lt (by omega), ← bne_cast]; rfl
 ·rw [if_neg c]
  by_cases c' : n ≤ -64
  ·rw [decide_eq_true c']
   simp only [aV.j0, if_true]
   obtain ⟨m, hm⟩ := lZ (show 0 ≤ -n by omega)
   obtain rfl : n = -(m : Int) := by omega
   rw [lJ _ _ hv]
   have hb := nR (show 64 ≤ m by omega)
   have e : (2 : Nat) ^ m = 18446744073709551616 * 2 ^ (m - 64) := by rw [show 18446744073709551616 = 2 ^ 64 from rfl, ← Nat.pow_add]; congr 1; omega
   have e1 : v * 2 ^ m % 18446744073709551616 = 0 := by rw [e, ← Nat.mul_assoc, Nat.mul_comm v, Nat.mul_assoc, Nat.mul_mod_right]
   have e2 : decide (18446744073709551616 ≤ v * 2 ^ m) = decide (v ≠ 0) := by
    congr 1; apply propext
    constructor
    ·intro h h0; subst h0; omega
    ·intro h
     calc 18446744073709551616 ≤ 2 ^ m := hb
      _ = 1 * 2 ^ m := (Nat.one_mul _).symm
      _ ≤ v * 2 ^ m := Nat.mul_le_mul_right _ (by omega)
   simp only [e1, e2]
   rw [← bne_cast]; rfl
  ·rw [decide_eq_false c']
   simp only [aV.j0, Bool.false_eq_true, if_false]
   by_cases c0 : n ≥ 0
   ·rw [if_pos c0]
    obtain ⟨m, rfl⟩ := lZ c0
    rw [iD _ (by omega), if_pos (by omega), nJ _ _ hv, lL, bne_cast, jT]
    have hle : v / 2 ^ m * 2 ^ m ≤ v := Nat.div_mul_le_self _ _
    rw [Nat.mod_eq_of_lt (by omega), back_ne]
   ·rw [if_neg c0]
    obtain ⟨m, hm⟩ := lZ (show 0 ≤ -n by omega)
    obtain rfl : n = -(m : Int) := by omega
    rw [Int.neg_neg, cK _ (by omega) (by omega), iD _ (by omega), if_pos (by omega), lL, nJ _ _ (Nat.mod_lt _ (by decide)), bne_cast, lJ _ _ hv, aBU _ _ (by omega)]
theorem vF (v : Nat) (hv : v < 18446744073709551616) (n : Int) (h1 : -9223372036854775808 ≤ n) (h2 : n ≤ 9223372036854775807) :
  Ev (fun k => aV.f k (v : Int) n) ((((lK v n).1 : Nat) : Int), (lK v n).2) := Ev.of (aV.mono _ _) (vB v hv n h1 h2 0)

def gT (v : Nat) : Nat := if v = 0 then 0 else v.log2 + 1
theorem lH (v : Nat) : v < 2 ^ gT v := by
 unfold gT
 by_cases h : v = 0
 ·subst h; decide
 ·rw [if_neg h]; exact (Nat.log2_lt h).mp (Nat.lt_succ_self _)
theorem qA (v : Nat) (h : v ≠ 0) : 2 ^ (gT v - 1) ≤ v := by
 unfold gT
 rw [if_neg h, Nat.add_sub_cancel]
 exact (Nat.le_log2 h).mp (Nat.le_refl _)
theorem kM (v : Nat) (h : v ≠ 0) : 1 ≤ gT v := by unfold gT; rw [if_neg h]; omega
theorem lenN_of (v n : Nat) (h : v < 2 ^ n) (h' : n = 0 ∨ 2 ^ (n - 1) ≤ v) : gT v = n := by
 by_cases hv : v = 0
 ·subst hv
  rcases h' with h' | h'
  ·subst h'; rfl
  ·have := Nat.two_pow_pos (n - 1); omega
 ·have hn : n ≠ 0 := by intro e; subst e; simp at h; omega
  have h' := h'.resolve_left hn
  unfold gT; rw [if_neg hv]
  have a := (Nat.log2_lt hv).mpr h
  have b := (Nat.le_log2 hv).mpr h'
  omega
theorem gH (v n : Nat) (h : v < 2 ^ n) : gT v ≤ n := by
 by_cases hv : v = 0
 ·subst hv; exact Nat.zero_le _
 ·unfold gT; rw [if_neg hv]; exact (Nat.log2_lt hv).mpr h
theorem aBy (v n : Nat) (h : 2 ^ n ≤ v) : n < gT v := by
 have hv : v ≠ 0 := by have := Nat.two_pow_pos n; omega
 unfold gT; rw [if_neg hv]; have := (Nat.le_log2 hv).mpr h; omega
theorem mW (v n : Nat) (h : 2 ^ n ≤ v) : gT (v / 2 ^ n) + n = gT v := by
 have hp := Nat.two_pow_pos n
 have hq : v / 2 ^ n ≠ 0 := by have := Nat.div_pos h hp; omega
 symm
 apply lenN_of
 ·rw [Nat.pow_add, Nat.mul_comm]
  exact Nat.lt_mul_of_div_lt (lH _) hp |> fun z => by rw [Nat.mul_comm] at z; exact z
 ·right
  have h1 := kM _ hq
  rw [show gT (v / 2 ^ n) + n - 1 = gT (v / 2 ^ n) - 1 + n by omega, Nat.pow_add]
  exact (Nat.le_div_iff_mul_le hp).mp (qA _ hq)
theorem pJ (v n : Nat) (h : v ≠ 0) : gT (v * 2 ^ n) = gT v + n := by
 have hp := Nat.two_pow_pos n
 have := mW (v * 2 ^ n) n (Nat.le_mul_of_pos_left _ (by omega))
 rw [Nat.mul_div_cancel _ hp] at this
 omega
theorem aBY (v : Nat) (h : v ≠ 0) : gT v = gT (v / 2) + 1 := by
 by_cases h1 : v = 1
 ·subst h1; decide
 ·have := mW v 1 (by omega)
  rw [Nat.pow_one] at this; omega
theorem tab_all : ∀ i : Fin 256, bt (⟨#[0, 1, 2, 2, 3, 3, 3, 3, 4, 4, 4, 4, 4, 4, 4, 4, 5, 5, 5, 5, 5, 5, 5, 5, 5, 5, 5, 5, 5, 5, 5, 5, 6, 6, 6, 6, 6, 6, 6, 6, 6, 6, 6, 6, 6, 6, 6, 6, 6, 6, 6, 6, 6, 6, 6, 6, 6, 6, 6, 6, 6, 6, 6, 6, 7, 7, 7, 7, 7, 7, 7, 7, 7, 7, 7, 7, 7, 7, 7, 7, 7, 7, 7, 7, 7, 7, 7, 7, 7, 7, 7, 7, 7, 7, 7, 7, 7, 7, 7, 7, 7, 7, 7, 7, 7, 7, 7, 7, 7, 7, 7, 7, 7, 7, 7, 7, 7, 7, 7, 7, 7, 7, 7, 7, 7, 7, 7, 7, 8, 8, 8, 8, 8, 8, 8, 8, 8, 8, 8, 8, 8, 8, 8, 8, 8, 8, 8, 8, 8, 8, 8, 8, 8, 8, 8, 8, 8, 8, 8, 8, 8, 8, 8, 8, 8, 8, 8, 8, 8, 8, 8, 8, 8, 8, 8, 8, 8, 8, 8, 8, 8, 8, 8, 8, 8, 8, 8, 8, 8, 8, 8, 8, 8, 8, 8, 8, 8, 8, 8, 8, 8, 8, 8, 8, 8, 8, 8, 8, 8, 8, 8, 8, 8, 8, 8, 8, 8, 8, 8, 8, 8, 8, 8, 8, 8, 8, 8, 8, 8, 8, 8, 8, 8, 8, 8, 8, 8, 8, 8, 8, 8, 8, 8, 8, 8, 8, 8, 8, 8, 8, 8, 8, 8, 8, 8, 8]⟩ : ByteArray) ((i.val : Nat) : Int) = (gT i.val : Int) := by decide +kernel
theorem vI (i : Nat) (h : i < 256) : bt (⟨#[0, 1, 2, 2, 3, 3, 3, 3, 4, 4, 4, 4, 4, 4, 4, 4, 5, 5, 5, 5, 5, 5, 5, 5, 5, 5, 5, 5, 5, 5, 5, 5, 6, 6, 6, 6, 6, 6, 6, 6, 6, 6, 6, 6, 6, 6, 6, 6, 6, 6, 6, 6, 6, 6, 6, 6, 6, 6, 6, 6, 6, 6, 6, 6, 7, 7, 7, 7, 7, 7, 7, 7, 7, 7, 7, 7, 7, 7, 7, 7, 7, 7, 7, 7, 7, 7, 7, 7, 7, 7, 7, 7, 7, 7, 7, 7, 7, 7, 7, 7, 7, 7, 7, 7, 7, 7, 7, 7, 7, 7, 7, 7, 7, 7, 7, 7, 7, 7, 7, 7, 7, 7, 7, 7, 7, 7, 7, 7, 8, 8, 8, 8, 8, 8, 8, 8, 8, 8, 8, 8, 8, 8, 8, 8, 8, 8, 8, 8, 8, 8, 8, 8, 8, 8, 8, 8, 8, 8, 8, 8, 8, 8, 8, 8, 8, 8, 8, 8, 8, 8, 8, 8, 8, 8, 8, 8, 8, 8, 8, 8, 8, 8, 8, 8, 8, 8, 8, 8, 8, 8, 8, 8, 8, 8, 8, 8, 8, 8, 8, 8, 8, 8, 8, 8, 8, 8, 8, 8, 8, 8, 8, 8, 8, 8, 8, 8, 8, 8, 8, 8, 8, 8, 8, 8, 8, 8, 8, 8, 8, 8, 8, 8, 8, 8, 8, 8, 8, 8, 8, 8, 8, 8, 8, 8, 8, 8, 8, 8, 8, 8, 8, 8, 8, 8, 8, 8]⟩ : ByteArray) (i : Int) = (gT i : Int) := tab_all ⟨i, h⟩
theorem nW (v : Nat) (h : v < 18446744073709551616) : gT v ≤ 64 := gH v 64 h
theorem len_j0 (k x c : Nat) (hx : x < 4294967296) (hc : c ≤ 64) : bits_Len64.j0 (k + 1) (x : Int) (c : Int) = some ((c + gT x : Nat) : Int) := by
 rw [bits_Len64.j0]
 have e1 : (x : Int) / 65536 = ((x / 65536 : Nat) : Int) := by omega
 have e2 : (x : Int) / 65536 / 256 = ((x / 65536 / 256 : Nat) : Int) := by omega
 have e3 : (x : Int) / 256 = ((x / 256 : Nat) : Int) := by omega
 by_cases c1 : (x : Int) ≥ 65536
 ·rw [if_pos c1]
  by_cases c2 : (x : Int) / 65536 ≥ 256
  ·rw [if_pos c2, e2, show ((x / 65536 / 256 : Nat) : Int) % 256 = ((x / 65536 / 256 : Nat) : Int) by omega, if_pos (by omega), if_pos (by omega), vI _ (by omega)]
   have h := mW x 24 (by omega)
   rw [show x / 2 ^ 24 = x / 65536 / 256 by omega] at h
   have b := gH (x / 65536 / 256) 8 (by omega)
   rw [cK (c + 16) (by omega) (by omega), cK (c + 16 + 8) (by omega) (by omega), cK (gT _) (by omega) (by omega), cK _ (by omega) (by omega)]
   congr 1; omega
  ·rw [if_neg c2, e1, show ((x / 65536 : Nat) : Int) % 256 = ((x / 65536 : Nat) : Int) by omega, if_pos (by omega), if_pos (by omega), vI _ (by omega)]
   have h := mW x 16 (by omega)
   rw [show x / 2 ^ 16 = x / 65536 by omega] at h
   have b := gH (x / 65536) 8 (by omega)
   rw [cK (c + 16) (by omega) (by omega), cK (gT _) (by omega) (by omega), cK _ (by omega) (by omega)]
   congr 1; omega
 ·rw [if_neg c1]
  by_cases c2 : (x : Int) ≥ 256
  ·rw [if_pos c2, e3, show ((x / 256 : Nat) : Int) % 256 = ((x / 256 : Nat) : Int) by omega, if_pos (by omega), if_pos (by omega), vI _ (by omega)]
   have h := mW x 8 (by omega)
   rw [show x / 2 ^ 8 = x / 256 by omega] at h
   have b := gH (x / 256) 8 (by omega)
   rw [cK (c + 8) (by omega) (by omega), cK (gT _) (by omega) (by omega), cK _ (by omega) (by omega)]
   congr 1; omega
  ·rw [if_neg c2, show (x : Int) % 256 = (x : Int) by omega, if_pos (by omega), if_pos (by omega), vI _ (by omega)]
   have b := gH x 8 (by omega)
   rw [cK (gT _) (by omega) (by omega), cK _ (by omega) (by omega)]
   congr 1
theorem len64_f (k v : Nat) (hv : v < 18446744073709551616) : bits_Len64.f (k + 1) (v : Int) = some (gT v : Int) := by
 unfold bits_Len64.f
 by_cases c : (v : Int) ≥ 4294967296
 ·rw [if_pos c, show (v : Int) / 4294967296 = ((v / 4294967296 : Nat) : Int) by omega]
  have h := len_j0 k (v / 4294967296) 32 (by omega) (by decide)
  have e := mW v 32 (by omega)
  rw [show v / 2 ^ 32 = v / 4294967296 by omega] at e
  rw [show ((32 : Nat) : Int) = 32 from rfl] at h
  rw [h]; congr 1; omega
 ·rw [if_neg c]
  have h := len_j0 k v 0 (by omega) (by decide)
  rw [show ((0 : Nat) : Int) = 0 from rfl] at h
  rw [h, Nat.zero_add]
theorem len_f (k v : Nat) (hv : v < 18446744073709551616) : bits_Len.f (k + 1) (v : Int) = some (gT v : Int) := by
 unfold bits_Len.f; rw [len64_f k v hv]; rfl
theorem len_ev (v : Nat) (hv : v < 18446744073709551616) : Ev (fun k => bits_Len.f k (v : Int)) (gT v : Int) := Ev.of (bits_Len.mono _) (len_f 0 v hv)

def cutN (v : Nat) (n : Int) : Nat := if n < 1 then 0 else v % 2 ^ n.toNat
theorem cut_mask (v n : Nat) (hv : v < 18446744073709551616) (hn : n < 64) : Go.bits .and .u64 (v : Int) (IntKind.u64.wrap (shl .u64 1 (n : Int) - 1)) = ((v % 2 ^ n : Nat) : Int) := by
 have hp : 2 ^ n ≤ 2 ^ 63 := Nat.pow_le_pow_right (by decide) (by omega)
 have h0 := Nat.two_pow_pos n
 rw [show (1 : Int) = ((1 : Nat) : Int) from rfl, lL, Nat.one_mul, Nat.mod_eq_of_lt (by omega), show ((2 ^ n : Nat) : Int) - ((1 : Nat) : Int) = ((2 ^ n - 1 : Nat) : Int) by omega, iD _ (by omega), vS _ _ hv (by omega)]
theorem cut_f (v : Nat) (hv : v < 18446744073709551616) (n : Int) (h2 : n ≤ 9223372036854775807) : gU.f (v : Int) n = some (cutN v n : Int) := by
 unfold gU.f cutN
 by_cases c : n < 1
 ·rw [if_pos c, if_pos c]; rfl
 ·rw [if_neg c, if_neg c]
  obtain ⟨m, rfl⟩ := lZ (show 0 ≤ n by omega)
  by_cases c' : (m : Int) ≥ 64
  ·rw [if_pos c', Int.toNat_natCast, Nat.mod_eq_of_lt (by have := nR (show 64 ≤ m by omega); omega)]
  ·rw [if_neg c', iD _ (by omega), if_pos (by omega), cut_mask _ _ hv (by omega), Int.toNat_natCast]
end Go.Proofs.YtjlgmfgjleajfaaGreat.BitsF

/- Whole numbers in limbs of 64 bits; rounds of two kinds: plain numbers alone. -/
namespace Go.Proofs.YtjlgmfgjleajfaaGreat.Round
open Go.RowKit Go.Proofs.YtjlgmfgjleajfaaGreat.P Go.Proofs.YtjlgmfgjleajfaaGreat.Num Go.Proofs.YtjlgmfgjleajfaaGreat.BitsF Go.Proofs.YtjlgmfgjleajfaaGreatW.PrintWords Go.Proofs.YtjlgmfgjleajfaaGreatW.PrintLast Go.Proofs.YtjlgmfgjleajfaaGreatW.PrintMore

def Ev2 {α : Type} (g : Nat → Nat → Option α) (r : α) : Prop := ∃ K, ∀ k n, K ≤ k → K ≤ n → g k n = some r
theorem Ev2.of {α : Type} {g : Nat → Option α} {r : α} (h : Ev g r) : Ev2 (fun _ n => g n) r := by
 obtain ⟨K, h⟩ := h
 exact ⟨K, fun _ n _ hn => h n hn⟩
theorem Ev2.now {α : Type} (r : α) : Ev2 (fun _ _ => some r) r := ⟨0, fun _ _ _ _ => rfl⟩
theorem Ev2.step {α : Type} {g f : Nat → Nat → Option α} {r : α} (h : ∀ k n, g (k + 1) n = f k n) (k : Ev2 f r) : Ev2 g r := by
 obtain ⟨K, k⟩ := k
 refine ⟨K + 1, fun m n hm hn => ?_⟩
 obtain ⟨q, rfl⟩ : ∃ q, m = q + 1 := ⟨m - 1, by omega⟩
 rw [h]; exact k q n (by omega) (by omega)
theorem Ev2.congr {α : Type} {g f : Nat → Nat → Option α} {r : α} (h : ∀ k n, g k n = f k n) (k : Ev2 f r) : Ev2 g r := by
 obtain ⟨K, k⟩ := k
 exact ⟨K, fun m n hm hn => (h m n).trans (k m n hm hn)⟩
theorem Ev2.diag {α : Type} {g : Nat → Nat → Option α} {r : α} (h : Ev2 g r) : Ev (fun n => g n n) r := by
 obtain ⟨K, h⟩ := h
 exact ⟨K, fun n hn => h n n hn hn⟩
theorem Ev2.bind {α β : Type} {g : Nat → Option α} {f : Nat → Nat → α → Option β} {a : α} {r : β} (h : Ev g a) (k : Ev2 (fun m n => f m n a) r) : Ev2 (fun m n => (g n).bind (f m n)) r := by
 obtain ⟨K, h⟩ := h
 obtain ⟨K', k⟩ := k
 refine ⟨max K K', fun m n hm hn => ?_⟩
 show (g n).bind (f m n) = some r
 rw [h n (by omega)]; exact k m n (by omega) (by omega)
theorem Ev2.inner {α : Type} {g : Nat → Nat → Option α} {r : α} (h : Ev2 g r) : Ev2 (fun _ n => g n n) r := Ev2.of (Ev2.diag h)

def lim (xs : List Int) (i : Nat) : Nat := (rd xs (i : Int)).toNat
def lo (xs : List Int) : Nat → Nat
 |0 => 0
 |i + 1 => lo xs i + lim xs i * 2 ^ (64 * i)
structure lU (xs : List Int) : Prop where
 len : xs.length = 10
 rng : ∀ i : Nat, 0 ≤ rd xs (i : Int) ∧ rd xs (i : Int) < 18446744073709551616
theorem lU.rd {xs : List Int} (h : lU xs) (i : Nat) : Go.Proofs.YtjlgmfgjleajfaaGreatW.PrintWords.rd xs (i : Int) = (lim xs i : Int) := by
 have := h.rng i; unfold lim; omega
theorem lU.lt {xs : List Int} (h : lU xs) (i : Nat) : lim xs i < 18446744073709551616 := by
 have := h.rng i; unfold lim; omega
theorem xM (xs : List Int) (i j : Nat) (v : Int) (h : i < xs.length) : rd (xs.set i v) (j : Int) = if j = i then v else rd xs (j : Int) := by
 unfold rd
 rw [Int.toNat_natCast, List.getD_eq_getElem?_getD, List.getD_eq_getElem?_getD, List.getElem?_set]
 by_cases c : j = i
 ·subst c; rw [if_pos rfl, if_pos rfl, if_pos h]; rfl
 ·rw [if_neg (fun e => c e.symm), if_neg c]
theorem oP (xs : List Int) (i j : Nat) (v : Int) (h : i < xs.length) : lim (xs.set i v) j = if j = i then v.toNat else lim xs j := by
 unfold lim; rw [xM xs i j v h]; split <;> rfl
theorem lU.set {xs : List Int} (h : lU xs) (i v : Nat) (hi : i < 10) (hv : v < 18446744073709551616) : lU (xs.set i (v : Int)) := by
 refine ⟨by rw [List.length_set]; exact h.len, fun j => ?_⟩
 rw [xM xs i j _ (by rw [h.len]; exact hi)]
 split
 ·omega
 ·exact h.rng j
theorem lo_congr {xs ys : List Int} {i : Nat} (h : ∀ j, j < i → lim xs j = lim ys j) : lo xs i = lo ys i := by
 induction i with
 |zero => rfl
 |succ i ih => unfold lo; rw [ih (fun j hj => h j (by omega)), h i (by omega)]
theorem aAZ (xs : List Int) (i : Nat) (v : Int) (h : i < xs.length) : lo (xs.set i v) i = lo xs i :=
 lo_congr fun j hj => by rw [oP xs i j v h, if_neg (by omega)]
theorem aCl (xs : List Int) (i v : Nat) (h : i < xs.length) (h0 : lim xs i = 0) : ∀ n, i < n → lo (xs.set i (v : Int)) n = lo xs n + v * 2 ^ (64 * i) := by
 intro n
 induction n with
 |zero => intro h; omega
 |succ n ih =>
  intro hn
  unfold lo
  rw [oP xs i n _ h]
  by_cases c : n = i
  ·subst c
   rw [if_pos rfl, aAZ xs n _ h, h0, Int.toNat_natCast]; omega
  ·rw [if_neg c, ih (by omega)]; omega
theorem lo_lt {xs : List Int} (h : lU xs) (i : Nat) : lo xs i < 2 ^ (64 * i) := by
 induction i with
 |zero => exact Nat.one_pos
 |succ i ih =>
  unfold lo
  rw [show 64 * (i + 1) = 64 * i + 64 by omega, Nat.pow_add]
  have h1 := h.lt i
  have h2 : (lim xs i + 1) * 2 ^ (64 * i) ≤ 18446744073709551616 * 2 ^ (64 * i) := Nat.mul_le_mul_right _ h1
  rw [Nat.add_mul] at h2
  have : (2 : Nat) ^ 64 = 18446744073709551616 := by decide
  rw [this, Nat.mul_comm (2 ^ (64 * i))]
  omega
@[irreducible] def T640 : Nat := 2 ^ (64 * 10)
theorem vE : 2 ^ (64 * 10) = T640 := by unfold T640; rfl
theorem lo_top {xs : List Int} (h : lU xs) : lo xs 10 < T640 := by rw [← vE]; exact lo_lt h 10
theorem tK {xs : List Int} (n : Nat) : lo xs n = 0 ↔ ∀ i, i < n → lim xs i = 0 := by
 induction n with
 |zero => exact ⟨fun _ i hi => by omega, fun _ => rfl⟩
 |succ n ih =>
  unfold lo
  have hp : 2 ^ (64 * n) ≠ 0 := by have := Nat.two_pow_pos (64 * n); omega
  constructor
  ·intro h i hi
   have h1 : lo xs n = 0 := by omega
   have h2 : lim xs n * 2 ^ (64 * n) = 0 := by omega
   by_cases c : i = n
   ·subst c; exact (Nat.mul_eq_zero.mp h2).resolve_right hp
   ·exact ih.mp h1 i (by omega)
  ·intro h
   rw [ih.mpr (fun i hi => h i (by omega)), h n (by omega), Nat.zero_mul]
theorem aB5 : lU (List.replicate 10 (0 : Int)) := by
 refine ⟨rfl, fun i => ?_⟩
 unfold rd
 rw [List.getD_eq_getElem?_getD, List.getElem?_replicate]
 split <;> simp
theorem rT (i : Nat) : lim (List.replicate 10 (0 : Int)) i = 0 := by
 unfold lim rd
 rw [List.getD_eq_getElem?_getD, List.getElem?_replicate]
 split <;> simp
theorem tH {xs : List Int} (h : lU xs) : (xs ++ [] == List.replicate 10 (0 : Int) ++ []) = decide (lo xs 10 = 0) := by
 rw [List.append_nil, List.append_nil]
 by_cases z : lo xs 10 = 0
 ·rw [decide_eq_true z, beq_iff_eq]
  refine List.ext_getElem (by rw [h.len]; rfl) fun i h1 h2 => ?_
  have h3 := (tK 10).mp z i (by rw [h.len] at h1; exact h1)
  have h4 := h.rd i
  rw [h3] at h4
  unfold rd at h4
  rw [Int.toNat_natCast, List.getD_eq_getElem?_getD, List.getElem?_eq_getElem h1] at h4
  rw [List.getElem_replicate]
  simpa using h4
 ·rw [decide_eq_false z, beq_eq_false_iff_ne]
  intro e
  apply z
  rw [e]
  exact (tK 10).mpr fun i _ => rT i
theorem mU (xs : List Int) : lo xs 0 = 0 := rfl
theorem kV (xs : List Int) (i : Nat) : lo xs (i + 1) = lo xs i + lim xs i * 2 ^ (64 * i) := rfl
attribute [irreducible] lo
end Go.Proofs.YtjlgmfgjleajfaaGreat.Round

/- What the program's package format computes, as plain numbers: widths, parts, classes, whole numbers and exponents. -/
namespace Go.Proofs.YtjlgmfgjleajfaaGreat.Fmt
open Go.RowKit Go.Proofs.YtjlgmfgjleajfaaGreat.P Go.Proofs.YtjlgmfgjleajfaaGreat.Num Go.Proofs.YtjlgmfgjleajfaaGreat.BitsF Go.Proofs.YtjlgmfgjleajfaaGreatW.PrintWords Go.Proofs.YtjlgmfgjleajfaaGreatW.PrintLast Go.Proofs.YtjlgmfgjleajfaaGreatW.PrintMore

def fe (f : Int) : Nat := if f = 0 then 5 else 8
def fm (f : Int) : Nat := if f = 0 then 10 else if f = 1 then 7 else 23
theorem xG (f : Int) : (fe f = 5 ∧ fm f = 10) ∨ (fe f = 8 ∧ fm f = 7) ∨ (fe f = 8 ∧ fm f = 23) := by
 unfold fe fm
 split
 ·exact .inl ⟨rfl, rfl⟩
 ·split
  ·exact .inr (.inl ⟨rfl, rfl⟩)
  ·exact .inr (.inr ⟨rfl, rfl⟩)
theorem dZ (f : Int) : 5 ≤ fe f ∧ fe f ≤ 8 ∧ 7 ≤ fm f ∧ fm f ≤ 23 ∧ fe f + fm f ≤ 31 := by
 rcases xG f with ⟨h1, h2⟩ | ⟨h1, h2⟩ | ⟨h1, h2⟩ <;> rw [h1, h2] <;> decide
def iT (f : Int) : Nat := 2 ^ fe f - 1
def dQ (f : Int) : Int := 2 - 2 ^ (fe f - 1)
theorem iO (f : Int) : dQ f = -14 ∨ dQ f = -126 := by
 unfold dQ
 rcases xG f with ⟨h1, _⟩ | ⟨h1, _⟩ | ⟨h1, _⟩ <;> rw [h1] <;> simp
theorem jL (f : Int) : iT f = 31 ∨ iT f = 255 := by
 unfold iT
 rcases xG f with ⟨h1, _⟩ | ⟨h1, _⟩ | ⟨h1, _⟩ <;> rw [h1] <;> simp
def fO (f : Int) (neg : Bool) : Nat := if neg then 2 ^ (fe f + fm f) else 0
def dE (f : Int) (v : Nat) : Bool := decide (v / 2 ^ (fe f + fm f) % 2 = 1)
def mF (f : Int) (v : Nat) : Nat := v / 2 ^ fm f % 2 ^ fe f
def kS (f : Int) (v : Nat) : Nat := v % 2 ^ fm f
theorem aCp (f : Int) (v : Nat) : mF f v ≤ iT f := by
 unfold mF iT
 have := Nat.mod_lt (v / 2 ^ fm f) (Nat.two_pow_pos (fe f))
 omega
theorem sU (f : Int) (v : Nat) : kS f v < 2 ^ fm f := Nat.mod_lt _ (Nat.two_pow_pos _)

theorem wu (n : Nat) (h : n < 9223372036854775808) : IntKind.u64.wrap (wrap64 (n : Int)) = (n : Int) := by rw [cK _ (by omega) (by omega), iD _ (by omega)]
theorem eT {n : Nat} (h : n ≤ 31) : 2 ^ n ≤ 2147483648 := Nat.pow_le_pow_right (show 0 < 2 by decide) h
theorem mY {n : Nat} (h : n ≤ 32) : 2 ^ n ≤ 4294967296 := Nat.pow_le_pow_right (show 0 < 2 by decide) h
theorem nG (n : Nat) (h : n ≤ 31) : shl .u32 1 (n : Int) = ((2 ^ n : Nat) : Int) := by
 have := eT h
 rw [show (1 : Int) = ((1 : Nat) : Int) from rfl, r9, Nat.one_mul, Nat.mod_eq_of_lt (by omega)]
theorem rY (a n : Nat) (ha : a < 4294967296) (hn : n ≤ 31) : Go.bits .and .u32 (a : Int) ((shl .u32 1 (n : Int) - 1) % 4294967296) = ((a % 2 ^ n : Nat) : Int) := by
 have h1 := eT hn
 have h0 := Nat.two_pow_pos n
 rw [nG n hn, show (((2 ^ n : Nat) : Int) - 1) % 4294967296 = ((2 ^ n - 1 : Nat) : Int) by omega, xX _ _ ha (by omega), Nat.and_two_pow_sub_one_eq_mod]
theorem and1_u32 (a : Nat) (ha : a < 4294967296) : Go.bits .and .u32 (a : Int) 1 = ((a % 2 : Nat) : Int) := by
 rw [show (1 : Int) = ((2 ^ 1 - 1 : Nat) : Int) from rfl, xX _ _ ha (by decide), Nat.and_two_pow_sub_one_eq_mod]
theorem lQ (n : Nat) (h : n ≤ 31) : shl .i64 1 (n : Int) = ((2 ^ n : Nat) : Int) := by
 have := eT h
 have := Nat.two_pow_pos n
 unfold shl
 rw [Int.toNat_natCast, Nat.min_eq_left (show n ≤ IntKind.i64.bits by show n ≤ 64; omega), i64_wrap, Int.one_mul, ← vO, cK _ (by omega) (by omega)]

theorem jO (f : Int) : bC.f f = some ((fe f : Int), (fm f : Int)) := by
 unfold bC.f fe fm
 by_cases h : f = 0
 ·subst h; rfl
 ·rw [if_neg h, if_neg h, if_neg h]
  by_cases h1 : f = 1
  ·subst h1; rfl
  ·rw [if_neg h1, if_neg h1]; rfl
def aAI (f : Int) (neg : Bool) (at_ frac : Nat) : Nat := at_ * 2 ^ fm f + frac + fO f neg
theorem wJ (f : Int) (neg : Bool) (a c : Nat) (ha : a ≤ iT f) (hc : c < 2 ^ fm f) : cO.f f neg (a : Int) (c : Int) = some (aAI f neg a c : Int) := by
 unfold cO.f aAI fO
 rw [jO]
 obtain ⟨b1, b2, b3, b4, b5⟩ := dZ f
 have hp := Nat.two_pow_pos (fm f)
 have hle : a * 2 ^ fm f + 2 ^ fm f ≤ 2 ^ (fe f + fm f) := by
  rw [Nat.pow_add, ← Nat.succ_mul]
  apply Nat.mul_le_mul_right
  unfold iT at ha
  have := Nat.two_pow_pos (fe f); omega
 have h31 := eT b5
 have e1 : shl .u32 ((a : Int) % 4294967296) (fm f : Int) = ((a * 2 ^ fm f : Nat) : Int) := by
  have : a < 4294967296 := by have := jL f; omega
  rw [show (a : Int) % 4294967296 = ((a : Nat) : Int) by omega, r9, Nat.mod_eq_of_lt (by omega)]
 have e2 : Go.bits .or .u32 ((a * 2 ^ fm f : Nat) : Int) (c : Int) = ((a * 2 ^ fm f + c : Nat) : Int) := by
  rw [qV _ _ (by omega) (by omega), o6 _ _ (fm f) (Nat.mul_mod_left ..) hc]
 simp only [Option.bind_some]
 rw [iD (fm f) (by omega), if_pos (by omega), e1, e2]
 cases neg
 ·simp
 ·simp only [if_true]
  rw [show (fe f : Int) + (fm f : Int) = ((fe f + fm f : Nat) : Int) by omega, wu _ (by omega), if_pos (by omega), nG _ b5, qV _ _ (by omega) (by omega), Nat.or_comm, o6 _ (a * 2 ^ fm f + c) (fe f + fm f) (by simp) (by omega)]
  congr 2; omega
theorem aAP (f : Int) : dO.f f = some (iT f : Int) := by
 unfold dO.f iT
 rw [jO]
 obtain ⟨b1, b2, b3, b4, b5⟩ := dZ f
 have hp := Nat.two_pow_pos (fe f)
 have h31 := eT (show fe f ≤ 31 by omega)
 simp only [Option.bind_some]
 rw [iD (fe f) (by omega), if_pos (by omega), lQ _ (by omega), cK _ (by omega) (by omega)]
 congr 1; omega
theorem qD (f : Int) : dG.f f = some (dQ f) := by
 unfold dG.f dQ
 rw [jO]
 obtain ⟨b1, b2, b3, b4, b5⟩ := dZ f
 have h31 := eT (show fe f - 1 ≤ 31 by omega)
 have h0 := Nat.two_pow_pos (fe f - 1)
 simp only [Option.bind_some]
 rw [show (fe f : Int) - 1 = ((fe f - 1 : Nat) : Int) by omega, wu _ (by omega), if_pos (by omega), lQ _ (by omega), cK _ (by omega) (by omega), vO]
theorem wU (f : Int) (neg : Bool) : eF.f f neg = some (fO f neg : Int) := by
 unfold eF.f
 have h := wJ f neg 0 0 (Nat.zero_le _) (Nat.two_pow_pos _)
 rw [show ((0 : Nat) : Int) = 0 from rfl] at h
 rw [h]; unfold aAI; simp
def oH (f : Int) (neg : Bool) : Nat := iT f * 2 ^ fm f + fO f neg
theorem aAU (f : Int) (neg : Bool) : dR.f f neg = some (oH f neg : Int) := by
 unfold dR.f oH
 have h := wJ f neg (iT f) 0 (Nat.le_refl _) (Nat.two_pow_pos _)
 rw [show ((0 : Nat) : Int) = 0 from rfl] at h
 rw [aAP]; simp only [Option.bind_some]; rw [h]; unfold aAI; simp
def oZ (f : Int) (neg : Bool) : Nat := iT f * 2 ^ fm f - 1 + fO f neg
theorem aAo (f : Int) (neg : Bool) : dW.f f neg = some (oZ f neg : Int) := by
 unfold dW.f oZ
 obtain ⟨b1, b2, b3, b4, b5⟩ := dZ f
 have hp := Nat.two_pow_pos (fm f)
 have h31 := eT (show fm f ≤ 31 by omega)
 have ht := jL f
 rw [jO, aAP]
 simp only [Option.bind_some]
 rw [iD (fm f) (by omega), if_pos (by omega), cK _ (by omega) (by omega), nG _ (by omega), show (((2 ^ fm f : Nat) : Int) - 1) % 4294967296 = ((2 ^ fm f - 1 : Nat) : Int) by omega, show (iT f : Int) - 1 = ((iT f - 1 : Nat) : Int) by omega, wJ f neg _ _ (by omega) (by omega)]
 simp only [Option.bind_some]
 unfold aAI
 congr 2
 have : iT f * 2 ^ fm f = (iT f - 1) * 2 ^ fm f + 2 ^ fm f := by rw [← Nat.succ_mul]; congr 1; omega
 omega
end Go.Proofs.YtjlgmfgjleajfaaGreat.Fmt

/- What the reference's formats are: the same plain numbers. -/
namespace Go.Proofs.YtjlgmfgjleajfaaGreat.Round
open Go.RowKit Go.Proofs.YtjlgmfgjleajfaaGreat.P Go.Proofs.YtjlgmfgjleajfaaGreat.Num Go.Proofs.YtjlgmfgjleajfaaGreat.BitsF Go.Proofs.YtjlgmfgjleajfaaGreat.Fmt Go.Proofs.YtjlgmfgjleajfaaGreatW.PrintWords Go.Proofs.YtjlgmfgjleajfaaGreatW.PrintLast Go.Proofs.YtjlgmfgjleajfaaGreatW.PrintMore

theorem nN (a b : Nat) : (((a : Int) == (b : Int)) : Bool) = decide (a = b) := by
 by_cases h : a = b
 ·subst h; simp
 ·rw [beq_eq_false_iff_ne.mpr (by omega)]; simp [h]
theorem gV (f : Int) : aK.f f = some ((fe f : Int), (fm f : Int)) := by
 unfold aK.f fe fm
 by_cases h : f = 0
 ·subst h; rfl
 ·rw [if_neg h, if_neg h, if_neg h]
  by_cases h1 : f = 1
  ·subst h1; rfl
  ·rw [if_neg h1, if_neg h1]; rfl
theorem nU (f : Int) (neg : Bool) : bR.f f neg = some (fO f neg : Int) := by
 unfold bR.f fO
 obtain ⟨b1, b2, b3, b4, b5⟩ := dZ f
 rw [gV]; simp only [Option.bind_some]
 cases neg
 ·rfl
 ·simp only [if_true]
  rw [show (fe f : Int) + (fm f : Int) = ((fe f + fm f : Nat) : Int) by omega, cK _ (by omega) (by omega), if_pos (by omega), nG _ b5]
theorem oD (f : Int) (neg : Bool) : bV.f f neg = some (fO f neg : Int) := by
 unfold bV.f; rw [nU]; rfl
theorem qR (f : Int) : bF.f f = some (1 - dQ f) := by
 unfold bF.f dQ
 obtain ⟨b1, b2, b3, b4, b5⟩ := dZ f
 have h31 := eT (show fe f - 1 ≤ 31 by omega)
 have h0 := Nat.two_pow_pos (fe f - 1)
 rw [gV]; simp only [Option.bind_some]
 rw [show (fe f : Int) - 1 = ((fe f - 1 : Nat) : Int) by omega, cK _ (by omega) (by omega), if_pos (by omega), lQ _ (by omega), cK _ (by omega) (by omega), ← vO]
 congr 1; omega
theorem mH (f : Int) (neg : Bool) : oH f neg < 4294967296 ∧ iT f * 2 ^ fm f + 2 ^ fm f = 2 ^ (fe f + fm f) := by
 obtain ⟨b1, b2, b3, b4, b5⟩ := dZ f
 have h31 := eT b5
 have hp := Nat.two_pow_pos (fm f)
 have e : iT f * 2 ^ fm f + 2 ^ fm f = 2 ^ (fe f + fm f) := by
  rw [Nat.pow_add, ← Nat.succ_mul]; congr 1
  unfold iT; have := Nat.two_pow_pos (fe f); omega
 refine ⟨?_, e⟩
 unfold oH fO; split <;> omega
theorem kN (f : Int) (neg : Bool) : bD.f f neg = some (oH f neg : Int) := by
 unfold bD.f oH
 obtain ⟨b1, b2, b3, b4, b5⟩ := dZ f
 obtain ⟨_, hi⟩ := mH f neg
 have h31 := eT b5
 have hp := Nat.two_pow_pos (fm f)
 have hpe := Nat.two_pow_pos (fe f)
 have h8 := eT (show fe f ≤ 31 by omega)
 rw [gV, nU]; simp only [Option.bind_some]
 rw [if_pos (by omega), if_pos (by omega), nG _ (by omega), show (((2 ^ fe f : Nat) : Int) - 1) % 4294967296 = ((iT f : Nat) : Int) by unfold iT; omega, r9, Nat.mod_eq_of_lt (by omega)]
 unfold fO
 cases neg
 ·simp only [Bool.false_eq_true, if_false]
  rw [qV _ _ (by omega) (by omega), Nat.zero_or, Nat.add_zero]
 ·simp only [if_true]
  rw [qV _ _ (by omega) (by omega), o6 _ _ (fe f + fm f) (by simp) (by omega), Nat.add_comm]
/- The reference's parts of a number, its class, its whole number and exponent, its place in the order: as plain numbers. -/

def lG (f : Int) (v : Nat) : Nat := v % 2 ^ (fe f + fm f + 1)
theorem zY (f : Int) (v : Nat) : lG f v < 2 ^ (fe f + fm f + 1) := Nat.mod_lt _ (Nat.two_pow_pos _)
theorem low_32 (f : Int) (v : Nat) : lG f v < 4294967296 := by
 obtain ⟨b1, b2, b3, b4, b5⟩ := dZ f
 have := zY f v
 have := mY (show fe f + fm f + 1 ≤ 32 by omega)
 omega
def maskN (f : Int) : Nat := 2 ^ (fe f + fm f + 1) - 1
theorem mask_lit (n : Nat) (hn : n ≤ 32) : (IntKind.u64.wrap (shl .u64 1 (n : Int) - 1)) % 4294967296 = ((2 ^ n - 1 : Nat) : Int) := by
 have h32 := mY hn
 have h0 := Nat.two_pow_pos n
 rw [show shl .u64 1 (n : Int) = _ from lL 1 n, Nat.one_mul]
 generalize 2 ^ n = P at *
 rw [Nat.mod_eq_of_lt (by omega), iH]
 omega
theorem width_f (f : Int) : wrap64 ((wrap64 (1 + (fe f : Int))) + (fm f : Int)) = ((fe f + fm f + 1 : Nat) : Int) := by
 obtain ⟨b1, b2, b3, b4, b5⟩ := dZ f
 rw [cK (1 + (fe f : Int)) (by omega) (by omega), cK _ (by omega) (by omega)]; omega
theorem kG (f : Int) : bL.f f = some (maskN f : Int) := by
 unfold bL.f
 have h := dZ f
 rw [gV, Option.bind_some]
 dsimp only
 rw [width_f, mask_lit _ (by omega)]
 exact if_pos (Int.natCast_nonneg _)
theorem l7 (f : Int) (v : Nat) (hv : v < 4294967296) : Go.bits .and .u32 (v : Int) (maskN f : Int) = (lG f v : Int) := by
 unfold maskN lG
 have h := dZ f
 have h32 := mY (show fe f + fm f + 1 ≤ 32 by omega)
 generalize fe f + fm f + 1 = n at *
 have h0 := Nat.two_pow_pos n
 rw [xX _ _ hv (by omega), Nat.and_two_pow_sub_one_eq_mod]
theorem top_bit (f : Int) (v : Nat) : ((((lG f v / 2 ^ (fe f + fm f) : Nat) : Int) == 1) : Bool) = dE f (lG f v) := by
 rw [show (1 : Int) = ((1 : Nat) : Int) from rfl, nN]
 unfold dE
 have : lG f v / 2 ^ (fe f + fm f) < 2 := by rw [Nat.div_lt_iff_lt_mul (Nat.two_pow_pos _), Nat.mul_comm, ← Nat.pow_succ]; exact zY f v
 rw [Nat.mod_eq_of_lt this]
theorem wY (a n : Nat) (hn : n ≤ 31) : wrap64 ((a % 2 ^ n : Nat) : Int) = ((a % 2 ^ n : Nat) : Int) := by
 have h1 := eT hn
 have h2 := Nat.mod_lt a (Nat.two_pow_pos n)
 generalize a % 2 ^ n = q at *
 exact cK _ (by omega) (by omega)
theorem aBZ (a n : Nat) (hn : n ≤ 31) : IntKind.u64.wrap ((a % 2 ^ n : Nat) : Int) = ((a % 2 ^ n : Nat) : Int) := by
 have h1 := eT hn
 have h2 := Nat.mod_lt a (Nat.two_pow_pos n)
 generalize a % 2 ^ n = q at *
 exact iD _ (by omega)
theorem oU (f : Int) (v : Nat) (hv : v < 4294967296) : bY.f f (v : Int) = some (dE f (lG f v), (mF f (lG f v) : Int), (kS f (lG f v) : Int)) := by
 unfold bY.f
 obtain ⟨b1, b2, b3, b4, b5⟩ := dZ f
 have hl := low_32 f v
 rw [gV, Option.bind_some, kG, Option.bind_some]
 dsimp only
 rw [l7 f v hv, show (fe f : Int) + (fm f : Int) = ((fe f + fm f : Nat) : Int) by omega, cK _ (by omega) (by omega), if_pos (by omega), if_pos (by omega), if_pos (by omega), tC _ _ hl, tC _ _ hl, rY _ _ (Nat.lt_of_le_of_lt (Nat.div_le_self _ _) hl) (by omega), rY _ _ hl (by omega), top_bit, wY _ _ (by omega), aBZ _ _ (by omega)]
 unfold mF kS
 exact Eq.refl _
def bK (f : Int) (v : Nat) : Nat :=
 if mF f v = 0 then (if kS f v = 0 then 0 else 1) else if mF f v < iT f then 2 else if kS f v = 0 then 3 else if kS f v / 2 ^ (fm f - 1) = 1 then 4 else 5
theorem qW (f : Int) (v : Nat) (hv : v < 4294967296) : Ev (fun k => aF.f k f (v : Int)) (bK f (lG f v) : Int) := by
 obtain ⟨b1, b2, b3, b4, b5⟩ := dZ f
 have h31 := eT (show fe f ≤ 31 by omega)
 have h0 := Nat.two_pow_pos (fe f)
 have hfr := sU f (lG f v)
 have h31' := eT (show fm f ≤ 31 by omega)
 refine ⟨1, fun k hk => ?_⟩
 obtain ⟨k, rfl⟩ : ∃ j, k = j + 1 := ⟨k - 1, by omega⟩
 unfold aF.f bK
 rw [gV, oU f v hv]
 simp only [Option.bind_some]
 generalize mF f (lG f v) = e
 generalize kS f (lG f v) = m at *
 have ht : wrap64 (((2 ^ fe f : Nat) : Int) - 1) = (iT f : Int) := by rw [cK _ (by omega) (by omega)]; unfold iT; omega
 by_cases c : e = 0
 ·subst c
  rw [if_pos (by rfl), aF.j0, if_pos rfl]
  by_cases c2 : m = 0
  ·subst c2; rfl
  ·rw [if_neg (by simp; omega), if_pos (by rfl), if_neg c2]; rfl
 ·rw [if_neg (by omega), aF.j0, if_neg (by decide), if_neg (by omega), if_pos (by omega), lQ _ (by omega), ht, if_neg c]
  by_cases c2 : e < iT f
  ·rw [if_pos (by omega), if_pos c2]; rfl
  ·rw [if_neg (by omega), if_neg c2]
   by_cases c3 : m = 0
   ·rw [if_pos (by omega), if_pos c3]; rfl
   ·rw [if_neg (by omega), if_neg c3, cK _ (by omega) (by omega), if_pos (by omega), show (fm f : Int) - 1 = ((fm f - 1 : Nat) : Int) by omega, nJ _ _ (by omega)]
    by_cases c4 : m / 2 ^ (fm f - 1) = 1
    ·rw [if_pos (by rw [c4]; rfl), if_pos c4]; rfl
    ·rw [if_neg (by omega), if_neg c4]; rfl
theorem qN (f : Int) (v : Nat) : bK f v < 3 ↔ mF f v < iT f := by
 have := jL f
 unfold bK
 split
 ·split <;> omega
 ·split
  ·omega
  ·split
   ·omega
   ·split <;> omega
def bH (f : Int) (v : Nat) : Nat := if mF f v = 0 then kS f v else kS f v + 2 ^ fm f
def bA (f : Int) (v : Nat) : Int := dQ f - fm f + (mF f v - 1 : Nat)
theorem or_top (m n : Nat) (h : m < 2 ^ n) (hn : n ≤ 31) : Go.bits .or .u64 (m : Int) (shl .u64 1 (n : Int)) = ((m + 2 ^ n : Nat) : Int) := by
 have h31 := eT hn
 rw [show (1 : Int) = ((1 : Nat) : Int) from rfl, lL, Nat.one_mul, Nat.mod_eq_of_lt (by omega), or_u64 _ _ (by omega) (by omega), Nat.or_comm, o6 _ _ n (by simp) h, Nat.add_comm]
theorem xK (f : Int) (v : Nat) : lG f v = mF f (lG f v) * 2 ^ fm f + kS f (lG f v) + fO f (dE f (lG f v)) := by
 have hlt := zY f v
 generalize lG f v = x at *
 unfold mF kS fO dE
 have h1 : x / 2 ^ (fe f + fm f) < 2 := by rw [Nat.div_lt_iff_lt_mul (Nat.two_pow_pos _), Nat.mul_comm, ← Nat.pow_succ]; exact hlt
 have h2 : x / 2 ^ fm f / 2 ^ fe f = x / 2 ^ (fe f + fm f) := by rw [Nat.div_div_eq_div_mul, ← Nat.pow_add, Nat.add_comm]
 have h3 := Nat.div_add_mod x (2 ^ fm f)
 have h4 := Nat.div_add_mod (x / 2 ^ fm f) (2 ^ fe f)
 rw [h2] at h4
 have h5 : 2 ^ (fe f + fm f) = 2 ^ fm f * 2 ^ fe f := by rw [← Nat.pow_add, Nat.add_comm]
 rw [Nat.mod_eq_of_lt h1]
 generalize x / 2 ^ (fe f + fm f) = b at *
 generalize hq : x / 2 ^ fm f % 2 ^ fe f = q at *
 generalize x % 2 ^ fm f = r at *
 rw [← h4, Nat.mul_add] at h3
 have h6 : b = 0 ∨ b = 1 := by omega
 rcases h6 with rfl | rfl
 ·rw [if_neg (by decide)]; rw [Nat.mul_comm q]; omega
 ·rw [if_pos (by decide), h5, Nat.mul_comm q]
  rw [Nat.mul_one] at h3
  omega
theorem aBX (f : Int) (v : Nat) (hv : v < 4294967296) : bG.f f (v : Int) = some (dE f (lG f v)) := by
 unfold bG.f; rw [oU f v hv]; rfl
/- The reference's classes and order of any numbers: plain numbers. -/

theorem vU (v a b c : Nat) (h : b + c ≤ a) : v % 2 ^ a / 2 ^ b % 2 ^ c = v / 2 ^ b % 2 ^ c := by
 apply Nat.eq_of_testBit_eq
 intro i
 rw [Nat.testBit_mod_two_pow, Nat.testBit_mod_two_pow, Nat.testBit_div_two_pow, Nat.testBit_div_two_pow, Nat.testBit_mod_two_pow]
 by_cases h1 : i < c
 ·have : i + b < a := by omega
  simp [h1, this]
 ·simp [h1]
theorem tN (f : Int) (v : Nat) : dE f (lG f v) = dE f v := by
 unfold dE lG
 have := vU v (fe f + fm f + 1) (fe f + fm f) 1 (Nat.le_refl _)
 rw [Nat.pow_one] at this
 rw [this]
theorem qH (f : Int) (v : Nat) : mF f (lG f v) = mF f v := vU v (fe f + fm f + 1) (fm f) (fe f) (by omega)
theorem rQ (f : Int) (v : Nat) : kS f (lG f v) = kS f v := by
 have := vU v (fe f + fm f + 1) 0 (fm f) (by omega)
 rw [Nat.pow_zero, Nat.div_one, Nat.div_one] at this
 exact this
theorem aCe (f : Int) (v : Nat) : bK f (lG f v) = bK f v := by unfold bK; rw [qH, rQ]
theorem aB9 (f : Int) (v : Nat) : bH f (lG f v) = bH f v := by unfold bH; rw [qH, rQ]
theorem aAw (f : Int) (v : Nat) : bA f (lG f v) = bA f v := by unfold bA; rw [qH]

theorem pF (f : Int) (v : Nat) (hv : v < 4294967296) : Ev (fun k => aF.f k f (v : Int)) (bK f v : Int) := by
 have := qW f v hv; rw [aCe] at this; exact this
theorem kY (f : Int) (v : Nat) (hv : v < 4294967296) : bG.f f (v : Int) = some (dE f v) := by rw [aBX f v hv, tN]
theorem jB (f : Int) (v : Nat) (hv : v < 4294967296) : Ev (fun k => aM.f k f (v : Int)) (decide (bK f v = 0)) := by
 refine Ev.congr (fun k => by unfold aM.f; rfl) (Ev.bind (pF f v hv) (Ev.congr (fun k => ?_) (Ev.now _)))
 rw [show (0 : Int) = ((0 : Nat) : Int) from rfl, nN]
def eX (f : Int) (v : Nat) : Bool := decide (4 ≤ bK f v)
def gI (f : Int) (v : Nat) : Bool := decide (bK f v = 5)
theorem qZ (f : Int) (v : Nat) : bK f v ≤ 5 := by
 unfold bK
 repeat' split
 all_goals omega
theorem mK (f : Int) (L : List Int) (i v : Nat) (b c : Bool) (r : Bool × Bool) (hi : i < L.length) (hn : L.length ≤ 100) (hv : v < 4294967296) (hr : rd L (i : Int) = (v : Int))
  (h : Ev (fun k => aD.l0 k f L (b || eX f v) (c || gI f v) ((i + 1 : Nat) : Int)) r) : Ev (fun k => aD.l0 k f L b c (i : Int)) r := by
 have hw : wrap64 ((i : Int) + 1) = ((i + 1 : Nat) : Int) := by rw [cK _ (by omega) (by omega)]; omega
 have hc := qZ f v
 refine Ev.step (fun k => by rw [aD.l0, if_pos (by omega), if_pos (Int.natCast_nonneg _), hr, hw]) (Ev.bind (pF f v hv) (Ev.congr (fun k => ?_) h))
 have e5 : (((bK f v : Nat) : Int) == 5) = gI f v := by rw [show (5 : Int) = ((5 : Nat) : Int) from rfl, nN]; rfl
 rw [e5]
 cases b
 ·by_cases c4 : bK f v = 4
  ·have n4 : eX f v = true := by unfold eX; rw [c4]; rfl
   rw [if_neg (by decide), if_pos (by omega), n4]
   cases c <;> simp
  ·have n4 : eX f v = gI f v := by unfold eX gI; apply decide_eq_decide.mpr; omega
   rw [if_neg (by decide), if_neg (by omega), n4]
   cases c <;> simp
 ·cases c <;> simp
theorem vT (f : Int) (L : List Int) (b c : Bool) : Ev (fun k => aD.l0 k f L b c (L.length : Int)) (b, c) :=
 Ev.step (fun k => by rw [aD.l0, if_neg (by omega)]) (Ev.now _)
theorem nans1_ev (f : Int) (v : Nat) (hv : v < 4294967296) : Ev (fun k => aD.f k f [(v : Int)]) (eX f v, gI f v) := by
 refine Ev.congr (fun k => by unfold aD.f; rfl) (mK f _ 0 v false false _ (by simp) (by simp) hv rfl ?_)
 rw [Bool.false_or, Bool.false_or]
 exact vT f [(v : Int)] _ _
theorem vN (f : Int) (a b : Nat) (ha : a < 4294967296) (hb : b < 4294967296) : Ev (fun k => aD.f k f [(a : Int), (b : Int)]) (eX f a || eX f b, gI f a || gI f b) := by
 refine Ev.congr (fun k => by unfold aD.f; rfl) (mK f _ 0 a false false _ (by simp) (by simp) ha rfl (mK f _ 1 b _ _ _ (by simp) (by simp) hb rfl ?_))
 rw [Bool.false_or, Bool.false_or]
 exact vT f [(a : Int), (b : Int)] _ _
/- The reference's finite numbers: their whole numbers and exponents. -/

theorem uX (f : Int) (v : Nat) (hv : v < 4294967296) (h : mF f (lG f v) < iT f) :
  Ev (fun k => aN.f k f (v : Int)) (dE f (lG f v), bA f (lG f v), (bH f (lG f v) : Int)) := by
 obtain ⟨b1, b2, b3, b4, b5⟩ := dZ f
 have hfr := sU f (lG f v)
 have hls := iO f
 have htp := jL f
 obtain ⟨K, hK⟩ := qW f v hv
 refine ⟨K, fun k hk => ?_⟩
 show aN.f k f (v : Int) = _
 unfold aN.f
 rw [gV, oU f v hv, show aF.f k f (v : Int) = _ from hK k hk, qR]
 simp only [Option.bind_some]
 unfold bA bH bK
 generalize mF f (lG f v) = e at *
 generalize kS f (lG f v) = m at *
 by_cases c : e = 0
 ·subst c
  have e1 : wrap64 ((wrap64 (1 - (1 - dQ f))) - (fm f : Int)) = dQ f - fm f + ((0 - 1 : Nat) : Int) := by
   rw [cK (1 - (1 - dQ f)) (by omega) (by omega), cK _ (by omega) (by omega)]; omega
  rw [e1]
  by_cases c2 : m = 0
  ·subst c2; rfl
  ·simp only [if_true, if_neg c2]; rfl
 ·rw [if_neg c, if_pos h, if_neg c]
  have e1 : wrap64 ((wrap64 ((e : Int) - (1 - dQ f))) - (fm f : Int)) = dQ f - fm f + ((e - 1 : Nat) : Int) := by
   rw [cK ((e : Int) - (1 - dQ f)) (by omega) (by omega), cK _ (by omega) (by omega)]; omega
  rw [e1, or_top m _ hfr (by omega), if_pos (by rfl), if_pos (by omega)]
end Go.Proofs.YtjlgmfgjleajfaaGreat.Round
