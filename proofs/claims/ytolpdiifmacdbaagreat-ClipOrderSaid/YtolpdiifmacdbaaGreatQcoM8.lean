import Derived.Test.YtolpdiifmacdbaaGreatQcoM7
import Derived.Test.YtolpdiifmacdbaaGreatQcoWMore
import Derived.Test.YtolpdiifmacdbaaGreatQcoZ
import Derived.Test.YtolpdiifmacdbaaGreatQcoM5
import Derived.Test.YtolpdiifmacdbaaGreatQcoM6
/- Functions' trees, printed by a tool of mine out of the reckoner; Lean's kernel checks each. -/
set_option linter.unusedVariables false
set_option linter.unusedSimpArgs false
set_option maxRecDepth 100000
namespace Go.Proofs.YtolpdiifmacdbaaGreat.E
open Go.RowKit Go.Proofs.YtolpdiifmacdbaaGreat.P Go.Proofs.YtolpdiifmacdbaaGreat.Ek Go.Proofs.YtolpdiifmacdbaaGreatW.PrintWords Go.Proofs.YtolpdiifmacdbaaGreatW.PrintLast Go.Proofs.YtolpdiifmacdbaaGreatW.PrintMore
set_option maxRecDepth 100000
theorem bY.eq (n0 : Nat) (a0 : Bool) (a1 a2 : Int) : bY.f n0 a0 a1 a2 = (if 0 ≤ Int.tmod (wrap64 (a1 + 298)) 64 then (if 0 ≤ wrap64 (Int.tdiv (wrap64 (a1 + 298)) 64) then (if wrap64 (Int.tdiv (wrap64 (a1 + 298)) 64) < 10 then (if 0 < Int.tmod (wrap64 (a1 + 298)) 64 then (if wrap64 (Int.tdiv (wrap64 (a1 + 298)) 64) < 9 then (if 0 ≤ wrap64 (64 - Int.tmod (wrap64 (a1 + 298)) 64) then (if 0 ≤ wrap64 (wrap64 (Int.tdiv (wrap64 (a1 + 298)) 64) + 1) then (if wrap64 (wrap64 (Int.tdiv (wrap64 (a1 + 298)) 64) + 1) < 10 then (some ((a0, List.set (List.set (List.replicate 10 0) (Int.toNat (wrap64 (Int.tdiv (wrap64 (a1 + 298)) 64))) (shl IntKind.u64 a2 (Int.tmod (wrap64 (a1 + 298)) 64))) (Int.toNat (wrap64 (wrap64 (Int.tdiv (wrap64 (a1 + 298)) 64) + 1))) (shr IntKind.u64 a2 (wrap64 (64 - Int.tmod (wrap64 (a1 + 298)) 64)))))) else none) else none) else none) else (some ((a0, List.set (List.replicate 10 0) (Int.toNat (wrap64 (Int.tdiv (wrap64 (a1 + 298)) 64))) (shl IntKind.u64 a2 (Int.tmod (wrap64 (a1 + 298)) 64)))))) else (some ((a0, List.set (List.replicate 10 0) (Int.toNat (wrap64 (Int.tdiv (wrap64 (a1 + 298)) 64))) (shl IntKind.u64 a2 (Int.tmod (wrap64 (a1 + 298)) 64)))))) else none) else none) else none) := by kernel_rfl
noncomputable def bO.l2 (k n0 : Nat) (x0 : Int) (x1 : Bool) (x2 : List Int) (x3 : Bool) (x4 : List Int) := evIn Tryz.prog bO.cls Tryz.f178 bO.cuts [1, 0, 1, 0] [n0] k ⟨[(5, (.pv (.one (.i .i64 (.x x0))))), (3, (.pv (.one (.p 1 0)))), (2, (.pv (.one (.p 0 0))))], [(1, (101, [(.c (.b (.q x1))), (.a .u64 x2 10)])), (0, (101, [(.c (.b (.q x3))), (.a .u64 x4 10)]))], 2⟩ bO.K
theorem bO.eq (n0 : Nat) (a0_0 : Bool) (a0_1 : List Int) (a1_0 : Bool) (a1_1 : List Int) : bO.f n0 a0_0 a0_1 a1_0 a1_1 = (bO.l2 n0 n0 (Int.ofNat 9) (a1_0) (a1_1) (a0_0) (a0_1)) := by kernel_rfl
theorem bO.zK (k n0 : Nat) (x0 : Int) (x1 : Bool) (x2 : List Int) (x3 : Bool) (x4 : List Int) : bO.l2 (k + 1) n0 x0 x1 x2 x3 x4 = (if 0 ≤ x0 then (if 0 ≤ x0 then (if x0 < 10 then (if 0 ≤ x0 then (if x0 < 10 then (if rd x4 x0 = rd x2 x0 then (bO.l2 k n0 (wrap64 (x0 - 1)) (x1) (x2) (x3) (x4)) else (if 0 ≤ x0 then (if x0 < 10 then (if 0 ≤ x0 then (if x0 < 10 then (some (decide (rd x4 x0 < rd x2 x0))) else none) else none) else none) else none)) else none) else none) else none) else none) else (some (false))) := by kernel_rfl
noncomputable def bF.l5 (k n0 : Nat) (x0 x1 : Int) (x2 : Bool) (x3 : List Int) (x4 : Bool) (x5 : List Int) (x6 : Bool) (x7 : List Int) := evIn Tryz.prog bF.cls Tryz.f167 bF.cuts [1, 1, 1, 0, 1, 0] [n0] k ⟨[(6, (.pv (.one (.i .i64 (.x x0))))), (5, (.pv (.one (.i .u64 (.x x1))))), (4, (.pv (.one (.p 2 0)))), (3, (.pv (.one (.p 1 0)))), (2, (.pv (.one (.p 0 0))))], [(2, (101, [(.c (.b (.q x2))), (.a .u64 x3 10)])), (1, (101, [(.c (.b (.q x4))), (.a .u64 x5 10)])), (0, (101, [(.c (.b (.q x6))), (.a .u64 x7 10)]))], 3⟩ bF.K
theorem bF.eq (n0 : Nat) (a0_0 : Bool) (a0_1 : List Int) (a1_0 : Bool) (a1_1 : List Int) : bF.f n0 a0_0 a0_1 a1_0 a1_1 = ((bO.f n0 a0_0 a0_1 a1_0 a1_1).bind fun t0 => (if t0 = true then (bF.l5 n0 n0 (Int.ofNat 0) (Int.ofNat 0) (false) (0 :: List.replicate 9 0) (a0_0) (a0_1) (a1_0) (a1_1)) else (bF.l5 n0 n0 (Int.ofNat 0) (Int.ofNat 0) (false) (0 :: List.replicate 9 0) (a1_0) (a1_1) (a0_0) (a0_1)))) := by kernel_rfl
theorem bF.aAT (k n0 : Nat) (x0 x1 : Int) (x2 : Bool) (x3 : List Int) (x4 : Bool) (x5 : List Int) (x6 : Bool) (x7 : List Int) : bF.l5 (k + 1) n0 x0 x1 x2 x3 x4 x5 x6 x7 = (if x0 < 10 then (if 0 ≤ x0 then (if x0 < 10 then (if 0 ≤ x0 then (if x0 < 10 then (if 0 ≤ x0 then (if x0 < 10 then (if 0 ≤ x0 then (if x0 < 10 then (if rd x7 x0 < rd x5 x0 then (if 0 ≤ x0 then (if x0 < 10 then (bF.l5 k n0 (wrap64 (x0 + 1)) (Int.ofNat 1) (x2) (x3) (x4) (x5) (x6) (List.set x7 (Int.toNat x0) (IntKind.wrap IntKind.u64 (IntKind.wrap IntKind.u64 (rd x7 x0 - rd x5 x0) - x1)))) else none) else none) else (if IntKind.wrap IntKind.u64 (rd x7 x0 - rd x5 x0) < x1 then (if 0 ≤ x0 then (if x0 < 10 then (bF.l5 k n0 (wrap64 (x0 + 1)) (Int.ofNat 1) (x2) (x3) (x4) (x5) (x6) (List.set x7 (Int.toNat x0) (IntKind.wrap IntKind.u64 (IntKind.wrap IntKind.u64 (rd x7 x0 - rd x5 x0) - x1)))) else none) else none) else (if 0 ≤ x0 then (if x0 < 10 then (bF.l5 k n0 (wrap64 (x0 + 1)) (Int.ofNat 0) (x2) (x3) (x4) (x5) (x6) (List.set x7 (Int.toNat x0) (IntKind.wrap IntKind.u64 (IntKind.wrap IntKind.u64 (rd x7 x0 - rd x5 x0) - x1)))) else none) else none))) else none) else none) else none) else none) else none) else none) else none) else none) else (some ((x6, x7)))) := by kernel_rfl
noncomputable def bK.l5 (k n0 : Nat) (x0 x1 : Int) (x2 : Bool) (x3 : List Int) (x4 : Bool) (x5 : List Int) (x6 : Bool) (x7 : List Int) := evIn Tryz.prog bK.cls Tryz.f128 bK.cuts [1, 1, 1, 0, 1, 0] [n0] k ⟨[(6, (.pv (.one (.i .i64 (.x x0))))), (5, (.pv (.one (.i .u64 (.x x1))))), (4, (.pv (.one (.p 2 0)))), (3, (.pv (.one (.p 1 0)))), (2, (.pv (.one (.p 0 0))))], [(2, (101, [(.c (.b (.q x2))), (.a .u64 x3 10)])), (1, (101, [(.c (.b (.q x4))), (.a .u64 x5 10)])), (0, (101, [(.c (.b (.q x6))), (.a .u64 x7 10)]))], 3⟩ bK.K
theorem bK.eq (n0 : Nat) (a0_0 : Bool) (a0_1 : List Int) (a1_0 : Bool) (a1_1 : List Int) : bK.f n0 a0_0 a0_1 a1_0 a1_1 = (if (a0_0 == a1_0) = true then (bK.l5 n0 n0 (Int.ofNat 0) (Int.ofNat 0) (false) (0 :: List.replicate 9 0) (a1_0) (a1_1) (a0_0) (a0_1)) else ((bF.f n0 a0_0 a0_1 a1_0 a1_1).bind fun t0 => (some ((t0.1, t0.2))))) := by kernel_rfl
theorem bK.aAT (k n0 : Nat) (x0 x1 : Int) (x2 : Bool) (x3 : List Int) (x4 : Bool) (x5 : List Int) (x6 : Bool) (x7 : List Int) : bK.l5 (k + 1) n0 x0 x1 x2 x3 x4 x5 x6 x7 = (if x0 < 10 then (if 0 ≤ x0 then (if x0 < 10 then (if 0 ≤ x0 then (if x0 < 10 then (if 0 ≤ x0 then (if x0 < 10 then (if IntKind.wrap IntKind.u64 (rd x7 x0 + rd x5 x0) < rd x7 x0 then (if 0 ≤ x0 then (if x0 < 10 then (bK.l5 k n0 (wrap64 (x0 + 1)) (Int.ofNat 1) (x2) (x3) (x4) (x5) (x6) (List.set x7 (Int.toNat x0) (IntKind.wrap IntKind.u64 (IntKind.wrap IntKind.u64 (rd x7 x0 + rd x5 x0) + x1)))) else none) else none) else (if IntKind.wrap IntKind.u64 (IntKind.wrap IntKind.u64 (rd x7 x0 + rd x5 x0) + x1) < IntKind.wrap IntKind.u64 (rd x7 x0 + rd x5 x0) then (if 0 ≤ x0 then (if x0 < 10 then (bK.l5 k n0 (wrap64 (x0 + 1)) (Int.ofNat 1) (x2) (x3) (x4) (x5) (x6) (List.set x7 (Int.toNat x0) (IntKind.wrap IntKind.u64 (IntKind.wrap IntKind.u64 (rd x7 x0 + rd x5 x0) + x1)))) else none) else none) else (if 0 ≤ x0 then (if x0 < 10 then (bK.l5 k n0 (wrap64 (x0 + 1)) (Int.ofNat 0) (x2) (x3) (x4) (x5) (x6) (List.set x7 (Int.toNat x0) (IntKind.wrap IntKind.u64 (IntKind.wrap IntKind.u64 (rd x7 x0 + rd x5 x0) + x1)))) else none) else none))) else none) else none) else none) else none) else none) else none) else (some ((x6, x7)))) := by kernel_rfl
theorem cB.eq (n0 : Nat) (a0_0 : Bool) (a0_1 : List Int) : cB.f n0 a0_0 a0_1 = (some (a0_1 ++ [] == List.replicate 10 0 ++ [])) := by kernel_rfl
noncomputable def aK.l2 (k n0 : Nat) (x0 x1 x2 : Int) (x3 x4 : Bool) (x5 x6 : Bool) (x7 x8 : Bool) (x9 : List Int) := evIn Tryz.prog aK.cls Tryz.f130 aK.cuts [1, 1, 0, 0] [n0] k ⟨[(8, (.pv (.one (.i .i64 (.x x0))))), (7, (.pv (.one (.p 1 0)))), (5, (.pv (.one (.p 0 0)))), (1, (.pv (.one (.i .i64 (.x x1))))), (0, (.pv (.one (.i .i64 (.x x2)))))], [(1, (62, [(.c (.b (.q x3))), (.c (.b (.q x4))), (.c (.b (.q x5))), (.c (.b (.q x6))), (.c (.b (.q x7)))])), (0, (101, [(.c (.b (.q x8))), (.a .u64 x9 10)]))], 2⟩ aK.K
noncomputable def aK.l19 (k n0 : Nat) (x0 : Int) (x1 : Bool) (x2 x3 : Int) (x4 x5 x6 : Int) (x7 x8 : Bool) (x9 x10 : Bool) (x11 x12 : Bool) (x13 : List Int) := evIn Tryz.prog aK.cls Tryz.f130 aK.cuts [1, 1, 1, 1, 1, 1, 1, 0, 1, 0, 1, 1, 1, 1, 1, 1, 1, 1, 0] [n0] k ⟨[(15, (.pv (.one (.i .i64 (.x x0))))), (12, (.pv (.one (.b (.q x1))))), (11, (.pv (.one (.i .i64 (.x x2))))), (10, (.pv (.one (.i .u64 (.x x3))))), (8, (.pv (.one (.i .i64 (.x x4))))), (7, (.pv (.one (.p 1 0)))), (5, (.pv (.one (.p 0 0)))), (1, (.pv (.one (.i .i64 (.x x5))))), (0, (.pv (.one (.i .i64 (.x x6)))))], [(1, (62, [(.c (.b (.q x7))), (.c (.b (.q x8))), (.c (.b (.q x9))), (.c (.b (.q x10))), (.c (.b (.q x11)))])), (0, (101, [(.c (.b (.q x12))), (.a .u64 x13 10)]))], 2⟩ aK.K
theorem aK.eq (n0 : Nat) (a0 a1 : Int) (a2_0 : Bool) (a2_1 : List Int) : aK.f n0 a0 a1 a2_0 a2_1 = (aK.l2 n0 n0 (Int.ofNat 9) (a1) (a0) (false) (false) (false) (false) (false) (a2_0) (a2_1)) := by kernel_rfl
theorem aK.zK (k n0 : Nat) (x0 x1 x2 : Int) (x3 x4 : Bool) (x5 x6 : Bool) (x7 x8 : Bool) (x9 : List Int) : aK.l2 (k + 1) n0 x0 x1 x2 x3 x4 x5 x6 x7 x8 x9 = (if 0 ≤ x0 then (if x0 < 10 then (if rd x9 x0 = 0 then (aK.l2 k n0 (wrap64 (x0 - 1)) (x1) (x2) (x3) (x4) (x5) (x6) (x7) (x8) (x9)) else (if 0 ≤ x0 then (if x0 < 10 then ((aR.f n0 (rd x9 x0)).bind fun t0 => (if 0 ≤ x0 then (if x0 < 10 then (if 0 < x0 then (if 0 ≤ wrap64 (64 - t0) then (if 0 ≤ wrap64 (x0 - 1) then (if wrap64 (x0 - 1) < 10 then (if 0 ≤ t0 then (if t0 = 64 then (if 0 ≤ x0 then (if x0 < 10 then (if 0 ≤ wrap64 (x0 - 1) then (if wrap64 (x0 - 1) < 10 then (if t0 < 64 then (if 0 ≤ wrap64 (64 - t0) then (aK.l19 n0 n0 (Int.ofNat 0) (!(shl IntKind.u64 (rd x9 (wrap64 (x0 - 1))) (wrap64 (64 - t0)) == 0)) (wrap64 (wrap64 (wrap64 (64 * x0) - 298) - wrap64 (64 - t0))) (rd x9 x0) (x0) (x1) (x2) (x3) (x4) (x5) (x6) (x7) (x8) (x9)) else none) else (aK.l19 n0 n0 (Int.ofNat 0) (!(rd x9 (wrap64 (x0 - 1)) == 0)) (wrap64 (wrap64 (wrap64 (64 * x0) - 298) - wrap64 (64 - t0))) (rd x9 x0) (x0) (x1) (x2) (x3) (x4) (x5) (x6) (x7) (x8) (x9))) else none) else none) else none) else none) else (if 0 ≤ wrap64 (x0 - 1) then (if wrap64 (x0 - 1) < 10 then (if t0 < 64 then (if 0 ≤ wrap64 (64 - t0) then (aK.l19 n0 n0 (Int.ofNat 0) (!(shl IntKind.u64 (rd x9 (wrap64 (x0 - 1))) (wrap64 (64 - t0)) == 0)) (wrap64 (wrap64 (wrap64 (64 * x0) - 298) - wrap64 (64 - t0))) (bits BinOp.or IntKind.u64 (shl IntKind.u64 (rd x9 x0) (wrap64 (64 - t0))) (shr IntKind.u64 (rd x9 (wrap64 (x0 - 1))) t0)) (x0) (x1) (x2) (x3) (x4) (x5) (x6) (x7) (x8) (x9)) else none) else (aK.l19 n0 n0 (Int.ofNat 0) (!(rd x9 (wrap64 (x0 - 1)) == 0)) (wrap64 (wrap64 (wrap64 (64 * x0) - 298) - wrap64 (64 - t0))) (bits BinOp.or IntKind.u64 (shl IntKind.u64 (rd x9 x0) (wrap64 (64 - t0))) (shr IntKind.u64 (rd x9 (wrap64 (x0 - 1))) t0)) (x0) (x1) (x2) (x3) (x4) (x5) (x6) (x7) (x8) (x9))) else none) else none)) else none) else none) else none) else none) else ((aA.f n0 x2 x1 x8 (wrap64 (wrap64 (64 * x0) - 298)) (rd x9 x0) false).bind fun t1 => (some ((t1.1, t1.2.1, t1.2.2.1, t1.2.2.2.1, t1.2.2.2.2.1, t1.2.2.2.2.2))))) else none) else none)) else none) else none)) else none) else none) := by kernel_rfl
theorem aK.l19_eq (k n0 : Nat) (x0 : Int) (x1 : Bool) (x2 x3 : Int) (x4 x5 x6 : Int) (x7 x8 : Bool) (x9 x10 : Bool) (x11 x12 : Bool) (x13 : List Int) : aK.l19 (k + 1) n0 x0 x1 x2 x3 x4 x5 x6 x7 x8 x9 x10 x11 x12 x13 = (if x0 < wrap64 (x4 - 1) then (if x1 = true then (aK.l19 k n0 (wrap64 (x0 + 1)) (true) (x2) (x3) (x4) (x5) (x6) (x7) (x8) (x9) (x10) (x11) (x12) (x13)) else (if 0 ≤ x0 then (if x0 < 10 then (aK.l19 k n0 (wrap64 (x0 + 1)) (!(rd x13 x0 == 0)) (x2) (x3) (x4) (x5) (x6) (x7) (x8) (x9) (x10) (x11) (x12) (x13)) else none) else none)) else ((aA.f n0 x6 x5 x12 x2 x3 x1).bind fun t0 => (some ((t0.1, t0.2.1, t0.2.2.1, t0.2.2.2.1, t0.2.2.2.2.1, t0.2.2.2.2.2))))) := by kernel_rfl
theorem dB.eq (n0 : Nat) (a0 a1 : Int) (a2_0 : Bool) (a2_1 : List Int) (a3_0 : Bool) (a3_1 : List Int) : dB.f n0 a0 a1 a2_0 a2_1 a3_0 a3_1 = ((bK.f n0 a2_0 a2_1 a3_0 a3_1).bind fun t0 => ((YtolpdiifmacdbaaGreat.E.cB.f n0 t0.1 t0.2).bind fun t1 => (if t1 = true then ((aZ.f a0 (a1 == 3)).bind fun t2 => (some ((t2, false, false, false, false, false)))) else ((aK.f n0 a0 a1 t0.1 t0.2).bind fun t2 => (some ((t2.1, t2.2.1, t2.2.2.1, t2.2.2.2.1, t2.2.2.2.2.1, t2.2.2.2.2.2))))))) := by kernel_rfl
noncomputable def aN.j2 (n0 : Nat) (x0 : Bool) (x1 x2 : Int) (x3 x4 x5 : Int) (x6 x7 : Bool) (x8 x9 x10 : Bool) := kE Tryz.prog aN.cls Tryz.f34 aN.cuts [1, 1] [n0] n0 ⟨[(12, (.pv (.one (.b (.q x0))))), (11, (.pv (.one (.p 0 0)))), (4, (.pv (.one (.i .u32 (.x x1))))), (3, (.pv (.one (.i .u32 (.x x2))))), (2, (.pv (.one (.i .u32 (.x x3))))), (1, (.pv (.one (.i .i64 (.x x4))))), (0, (.pv (.one (.i .i64 (.x x5)))))], [(0, (62, [(.c (.b (.q x6))), (.c (.b (.q x7))), (.c (.b (.q x8))), (.c (.b (.q x9))), (.c (.b (.q x10)))]))], 1⟩ aN.K
noncomputable def aN.j5 (n0 : Nat) (x0 x1 : Int) (x2 x3 x4 : Int) (x5 x6 : Bool) (x7 x8 x9 : Bool) := kE Tryz.prog aN.cls Tryz.f34 aN.cuts [1, 1, 1] [n0] n0 ⟨[(11, (.pv (.one (.p 0 0)))), (4, (.pv (.one (.i .u32 (.x x0))))), (3, (.pv (.one (.i .u32 (.x x1))))), (2, (.pv (.one (.i .u32 (.x x2))))), (1, (.pv (.one (.i .i64 (.x x3))))), (0, (.pv (.one (.i .i64 (.x x4)))))], [(0, (62, [(.c (.b (.q x5))), (.c (.b (.q x6))), (.c (.b (.q x7))), (.c (.b (.q x8))), (.c (.b (.q x9)))]))], 1⟩ aN.K
noncomputable def aN.j14 (n0 : Nat) (x0 : Bool) (x1 x2 : Int) (x3 x4 x5 : Int) (x6 x7 : Bool) (x8 x9 x10 : Bool) := kE Tryz.prog aN.cls Tryz.f34 aN.cuts [1, 1, 1, 1, 1, 1, 1] [n0] n0 ⟨[(15, (.pv (.one (.b (.q x0))))), (11, (.pv (.one (.p 0 0)))), (4, (.pv (.one (.i .u32 (.x x1))))), (3, (.pv (.one (.i .u32 (.x x2))))), (2, (.pv (.one (.i .u32 (.x x3))))), (1, (.pv (.one (.i .i64 (.x x4))))), (0, (.pv (.one (.i .i64 (.x x5)))))], [(0, (62, [(.c (.b (.q x6))), (.c (.b (.q x7))), (.c (.b (.q x8))), (.c (.b (.q x9))), (.c (.b (.q x10)))]))], 1⟩ aN.K
theorem aN.eq (n0 : Nat) (a0 a1 : Int) (a2 a3 a4 : Int) : aN.f n0 a0 a1 a2 a3 a4 = ((bG.f n0 a0 a2).bind fun t0 => (if t0 = true then ((bL.f n0 a0 a3).bind fun t1 => (if t1 = true then (aN.j2 n0 (true) (a4) (a3) (a2) (a1) (a0) (false) (false) (false) (false) (false)) else ((bL.f n0 a0 a2).bind fun t2 => (if t2 = true then ((bG.f n0 a0 a3).bind fun t3 => (aN.j2 n0 (t3) (a4) (a3) (a2) (a1) (a0) (false) (false) (false) (false) (false))) else (aN.j2 n0 (false) (a4) (a3) (a2) (a1) (a0) (false) (false) (false) (false) (false)))))) else ((bL.f n0 a0 a2).bind fun t1 => (if t1 = true then ((bG.f n0 a0 a3).bind fun t2 => (aN.j2 n0 (t2) (a4) (a3) (a2) (a1) (a0) (false) (false) (false) (false) (false))) else (aN.j2 n0 (false) (a4) (a3) (a2) (a1) (a0) (false) (false) (false) (false) (false)))))) := by kernel_rfl
theorem aN.j2_eq (n0 : Nat) (x0 : Bool) (x1 x2 : Int) (x3 x4 x5 : Int) (x6 x7 : Bool) (x8 x9 x10 : Bool) : aN.j2 n0 x0 x1 x2 x3 x4 x5 x6 x7 x8 x9 x10 = ((aI.f n0 x5 [x3, x2, x1]).bind fun t0 => (if t0.1 = true then ((cK.f x5).bind fun t1 => (if t0.2 = true then (some ((t1, true, false, false, false, false))) else (some ((t1, x0, false, false, false, false))))) else (if x0 = true then ((cK.f x5).bind fun t1 => (if t0.2 = true then (some ((t1, true, false, false, false, false))) else (some ((t1, x0, false, false, false, false))))) else (aN.j5 n0 (x1) (x2) (x3) (x4) (x5) (x6) (x7) (x8) (x9) (x10))))) := by kernel_rfl
theorem aN.j5_eq (n0 : Nat) (x0 x1 : Int) (x2 x3 x4 : Int) (x5 x6 : Bool) (x7 x8 x9 : Bool) : aN.j5 n0 x0 x1 x2 x3 x4 x5 x6 x7 x8 x9 = ((bU.f x4 x2).bind fun t0 => ((bU.f x4 x1).bind fun t1 => ((bL.f n0 x4 x2).bind fun t2 => (if t2 = true then ((bL.f n0 x4 x0).bind fun t3 => (if t3 = true then ((bU.f x4 x0).bind fun t4 => (if (t4 == !t0 == t1) = true then ((bV.f x4 !t0 == t1).bind fun t5 => (some ((t5, false, false, false, false, false)))) else ((cK.f x4).bind fun t5 => (some ((t5, true, false, false, false, false)))))) else ((bV.f x4 !t0 == t1).bind fun t4 => (some ((t4, false, false, false, false, false)))))) else ((bL.f n0 x4 x1).bind fun t3 => (if t3 = true then ((bL.f n0 x4 x0).bind fun t4 => (if t4 = true then ((bU.f x4 x0).bind fun t5 => (if (t5 == !t0 == t1) = true then ((bV.f x4 !t0 == t1).bind fun t6 => (some ((t6, false, false, false, false, false)))) else ((cK.f x4).bind fun t6 => (some ((t6, true, false, false, false, false)))))) else ((bV.f x4 !t0 == t1).bind fun t5 => (some ((t5, false, false, false, false, false)))))) else ((bL.f n0 x4 x0).bind fun t4 => (if t4 = true then ((bM.f x4).bind fun t5 => (some ((bits BinOp.and IntKind.u32 x0 t5, false, false, false, false, false)))) else ((bG.f n0 x4 x2).bind fun t5 => (if t5 = true then ((bG.f n0 x4 x0).bind fun t6 => (if t6 = true then ((bU.f x4 x0).bind fun t7 => (if ((!t0 == t1) == t7) = true then ((aZ.f x4 !t0 == t1).bind fun t8 => (some ((t8, false, false, false, false, false)))) else (aN.j14 n0 (!(t0 == t1)) (x0) (x1) (x2) (x3) (x4) (x5) (x6) (x7) (x8) (x9)))) else (aN.j14 n0 (!(t0 == t1)) (x0) (x1) (x2) (x3) (x4) (x5) (x6) (x7) (x8) (x9)))) else ((bG.f n0 x4 x1).bind fun t6 => (if t6 = true then ((bG.f n0 x4 x0).bind fun t7 => (if t7 = true then ((bU.f x4 x0).bind fun t8 => (if ((!t0 == t1) == t8) = true then ((aZ.f x4 !t0 == t1).bind fun t9 => (some ((t9, false, false, false, false, false)))) else (aN.j14 n0 (!(t0 == t1)) (x0) (x1) (x2) (x3) (x4) (x5) (x6) (x7) (x8) (x9)))) else (aN.j14 n0 (!(t0 == t1)) (x0) (x1) (x2) (x3) (x4) (x5) (x6) (x7) (x8) (x9)))) else (aN.j14 n0 (!(t0 == t1)) (x0) (x1) (x2) (x3) (x4) (x5) (x6) (x7) (x8) (x9)))))))))))))) := by kernel_rfl
theorem aN.aAK (n0 : Nat) (x0 : Bool) (x1 x2 : Int) (x3 x4 x5 : Int) (x6 x7 : Bool) (x8 x9 x10 : Bool) : aN.j14 n0 x0 x1 x2 x3 x4 x5 x6 x7 x8 x9 x10 = ((bE.f n0 x5 x3).bind fun t0 => ((bE.f n0 x5 x2).bind fun t1 => ((bY.f n0 x0 (wrap64 (t0.2.1 + t1.2.1)) (IntKind.wrap IntKind.u64 (t0.2.2 * t1.2.2))).bind fun t2 => ((bE.f n0 x5 x1).bind fun t3 => ((bY.f n0 t3.1 t3.2.1 t3.2.2).bind fun t4 => ((dB.f n0 x5 x4 t2.1 t2.2 t4.1 t4.2).bind fun t5 => (some ((t5.1, t5.2.1, t5.2.2.1, t5.2.2.2.1, t5.2.2.2.2.1, t5.2.2.2.2.2))))))))) := by kernel_rfl
end Go.Proofs.YtolpdiifmacdbaaGreat.E

/- Plain facts about whole numbers in their kinds: wraps, shifts, bits, as numbers from nought on. -/
namespace Go.Proofs.YtolpdiifmacdbaaGreat.Num
open Go.RowKit Go.Proofs.YtolpdiifmacdbaaGreatW.PrintWords Go.Proofs.YtolpdiifmacdbaaGreatW.PrintLast Go.Proofs.YtolpdiifmacdbaaGreatW.PrintMore

theorem jD (n : Int) : IntKind.u64.wrap n = n % 18446744073709551616 := by simp [IntKind.wrap, IntKind.bits, IntKind.signed]
theorem qC (n : Int) : IntKind.u32.wrap n = n % 4294967296 := by simp [IntKind.wrap, IntKind.bits, IntKind.signed]
theorem i64_wrap (n : Int) : IntKind.i64.wrap n = wrap64 n := by rw [i64_w]
theorem uK (n : Nat) : IntKind.u64.wrap (n : Int) = ((n % 18446744073709551616 : Nat) : Int) := by rw [jD]; omega
theorem fH (n : Nat) (h : n < 18446744073709551616) : IntKind.u64.wrap (n : Int) = (n : Int) := by rw [jD]; omega
theorem bS (n : Int) (h : -9223372036854775808 ≤ n) (h' : n ≤ 9223372036854775807) : wrap64 n = n := by unfold wrap64; omega
theorem kH {n : Int} (h : 0 ≤ n) : ∃ m : Nat, n = (m : Int) := ⟨n.toNat, by omega⟩

theorem uI (n : Nat) : ((2 ^ n : Nat) : Int) = (2 : Int) ^ n := by simp

theorem aAI (k : IntKind) (v n : Nat) (hv : v < 2 ^ k.bits) : shr k (v : Int) (n : Int) = ((v / 2 ^ n : Nat) : Int) := by
 unfold shr
 rw [Int.toNat_natCast]
 by_cases h : n ≤ k.bits
 ·rw [Nat.min_eq_left h]; simp
 ·rw [Nat.min_eq_right (by omega), Nat.div_eq_of_lt (show v < 2 ^ n from Nat.lt_of_lt_of_le hv (Nat.pow_le_pow_right (by decide) (by omega)))]
  have : v / 2 ^ k.bits = 0 := Nat.div_eq_of_lt hv
  have e : ((v : Int) / 2 ^ k.bits) = ((v / 2 ^ k.bits : Nat) : Int) := by simp
  rw [e, this]
theorem mE (v n : Nat) (hv : v < 18446744073709551616) : shr .u64 (v : Int) (n : Int) = ((v / 2 ^ n : Nat) : Int) := aAI .u64 v n hv
theorem rG (v n : Nat) (hv : v < 4294967296) : shr .u32 (v : Int) (n : Int) = ((v / 2 ^ n : Nat) : Int) := aAI .u32 v n hv
theorem jM (v n : Nat) : shl .u64 (v : Int) (n : Int) = ((v * 2 ^ n % 18446744073709551616 : Nat) : Int) := by
 unfold shl
 rw [Int.toNat_natCast]
 by_cases h : n ≤ 64
 ·rw [show IntKind.u64.bits = 64 from rfl, Nat.min_eq_left h, show (v : Int) * 2 ^ n = ((v * 2 ^ n : Nat) : Int) by simp, uK]
 ·have e : (2 : Nat) ^ n = 18446744073709551616 * 2 ^ (n - 64) := by rw [show 18446744073709551616 = 2 ^ 64 from rfl, ← Nat.pow_add]; congr 1; omega
  rw [Nat.min_eq_right (show IntKind.u64.bits ≤ n by show 64 ≤ n; omega), show (v : Int) * 2 ^ IntKind.u64.bits = ((v * 18446744073709551616 : Nat) : Int) by simp [IntKind.bits], uK, Nat.mul_mod_left, e, ← Nat.mul_assoc, Nat.mul_comm v, Nat.mul_assoc, Nat.mul_mod_right]
theorem tQ (v n : Nat) : shl .u32 (v : Int) (n : Int) = ((v * 2 ^ n % 4294967296 : Nat) : Int) := by
 unfold shl
 rw [Int.toNat_natCast]
 by_cases h : n ≤ 32
 ·rw [show IntKind.u32.bits = 32 from rfl, Nat.min_eq_left h, show (v : Int) * 2 ^ n = ((v * 2 ^ n : Nat) : Int) by simp, qC]; omega
 ·have e : (2 : Nat) ^ n = 4294967296 * 2 ^ (n - 32) := by rw [show 4294967296 = 2 ^ 32 from rfl, ← Nat.pow_add]; congr 1; omega
  rw [Nat.min_eq_right (show IntKind.u32.bits ≤ n by show 32 ≤ n; omega), show (v : Int) * 2 ^ IntKind.u32.bits = ((v * 4294967296 : Nat) : Int) by simp [IntKind.bits], qC, e, ← Nat.mul_assoc, Nat.mul_comm v, Nat.mul_assoc, Nat.mul_mod_right]; omega

theorem wraps_u64 (n : Int) (h₀ : 0 ≤ n) (h₁ : n < 2 ^ 64) : IntKind.u64.wrap n = n := by rw [jD]; omega
theorem wraps_u32 (n : Int) (h₀ : 0 ≤ n) (h₁ : n < 2 ^ 32) : IntKind.u32.wrap n = n := by rw [qC]; omega
theorem and_u64 (a b : Nat) (ha : a < 18446744073709551616) (hb : b < 18446744073709551616) : Go.bits .and .u64 a b = ((a &&& b : Nat) : Int) := (bits_nat .u64 64 (by decide) wraps_u64 a b ha hb).1
theorem yI (a b : Nat) (ha : a < 18446744073709551616) (hb : b < 18446744073709551616) : Go.bits .or .u64 a b = ((a ||| b : Nat) : Int) := (bits_nat .u64 64 (by decide) wraps_u64 a b ha hb).2
theorem wO (a b : Nat) (ha : a < 4294967296) (hb : b < 4294967296) : Go.bits .and .u32 a b = ((a &&& b : Nat) : Int) := (bits_nat .u32 32 (by decide) wraps_u32 a b ha hb).1
theorem nI (a b : Nat) (ha : a < 4294967296) (hb : b < 4294967296) : Go.bits .or .u32 a b = ((a ||| b : Nat) : Int) := (bits_nat .u32 32 (by decide) wraps_u32 a b ha hb).2
theorem uM (a n : Nat) (ha : a < 18446744073709551616) (hn : n ≤ 64) : Go.bits .and .u64 a ((2 ^ n - 1 : Nat) : Int) = ((a % 2 ^ n : Nat) : Int) := by
 have h : 2 ^ n - 1 < 18446744073709551616 := by
  have := Nat.pow_le_pow_right (show 0 < 2 by decide) hn
  have : 0 < 2 ^ n := Nat.two_pow_pos n
  omega
 rw [and_u64 a _ ha h, Nat.and_two_pow_sub_one_eq_mod]
theorem nK (a : Nat) (ha : a < 18446744073709551616) : Go.bits .and .u64 a 1 = ((a % 2 : Nat) : Int) := uM a 1 ha (by decide)
theorem lX (a b n : Nat) (ha : a % 2 ^ n = 0) (hb : b < 2 ^ n) : a ||| b = a + b := by
 have hq : a = 2 ^ n * (a / 2 ^ n) := by have := Nat.div_add_mod a (2 ^ n); omega
 have := Nat.two_pow_add_eq_or_of_lt hb (a / 2 ^ n)
 rw [← hq] at this
 exact this.symm
end Go.Proofs.YtolpdiifmacdbaaGreat.Num

-- Printed by a program of this session's out of Lean's print of the translation; Lean checks it.
namespace Go.Proofs.YtolpdiifmacdbaaGreat.P
open Go.RowKit Go.Proofs.YtolpdiifmacdbaaGreatW.PrintWords Go.Proofs.YtolpdiifmacdbaaGreatW.PrintLast Go.Proofs.YtolpdiifmacdbaaGreatW.PrintMore
attribute [local go_sem] max2_int min2_int max_two min_two max_three min_three max_four min_four

-- NEED 0
/-! ### fG: function 156 -/
def fG.f (a0 a1 : Int) : Option (Int) := if a1 < 1 then (some 0) else (if a1 ≥ 64 then (some a0) else (if 0 ≤ (IntKind.u64.wrap (a1)) then (some (Go.bits .and .u64 a0 (IntKind.u64.wrap ((shl .u64 1 (IntKind.u64.wrap (a1))) - 1)))) else (none)))
set_option maxHeartbeats 8000000 in
theorem fG.calls (a0 a1 r : Int) (w : World) (h : fG.f a0 a1 = some r) :
  Calls Tryz.prog 156 #[.int .u64 a0, .int .i64 a1] w fun e w' => e = .returned (.int .u64 r) ∧ Drawn0 w w' := by
 have H : (if a1 < 1 then (some 0) else (if a1 ≥ 64 then (some a0) else (if 0 ≤ (IntKind.u64.wrap (a1)) then (some (Go.bits .and .u64 a0 (IntKind.u64.wrap ((shl .u64 1 (IntKind.u64.wrap (a1))) - 1)))) else (none)))) = some r := h
 clear h
 by_cases c3 : a1 < 1
 ·rw [if_pos c3] at H
  have c3b0 : decide (a1 < 1) = true := decide_eq_true c3
  clear c3
  obtain rfl := Option.some.inj H
  go_enter Tryz.func156, Tryz.ntmps156
  go_wp2
  go_ret
  exact ⟨gr_, gd_⟩
 ·rw [if_neg c3] at H
  have c3b0 : decide (a1 < 1) = false := decide_eq_false c3
  clear c3
  by_cases c4 : a1 ≥ 64
  ·rw [if_pos c4] at H
   have c4b0 : decide (64 ≤ a1) = true := decide_eq_true c4
   clear c4
   obtain rfl := Option.some.inj H
   go_enter Tryz.func156, Tryz.ntmps156
   go_wp2
   go_ret
   exact ⟨gr_, gd_⟩
  ·rw [if_neg c4] at H
   have c4b0 : decide (64 ≤ a1) = false := decide_eq_false c4
   clear c4
   obtain ⟨ji5, hji5⟩ : ∃ j_ : Int, (IntKind.u64.wrap (a1)) = j_ := ⟨_, rfl⟩
   replace H : (if 0 ≤ (ji5) then (some (Go.bits .and .u64 a0 (IntKind.u64.wrap ((shl .u64 1 (ji5)) - 1)))) else (none)) = some r := by first | (rw [hji5] at H; exact H) | (simp only [hji5] at H ⊢; exact H)
   by_cases c6 : 0 ≤ (ji5)
   ·rw [if_pos c6] at H
    have c6b0 := eq_true c6
    have c6b1 : decide (0 ≤ (ji5)) = true := decide_eq_true c6
    clear c6
    obtain ⟨ji7, hji7⟩ : ∃ j_ : Int, (shl .u64 1 (ji5)) = j_ := ⟨_, rfl⟩
    replace H : (some (Go.bits .and .u64 a0 (IntKind.u64.wrap ((ji7) - 1)))) = some r := by first | (rw [hji7] at H; exact H) | (simp only [hji7] at H ⊢; exact H)
    have hji7_ : (IntKind.u64.wrap (1 * 2 ^ min (ji5).toNat 64)) = ji7 := hji7
    have hji7z : (ji5) ≤ 64 → (IntKind.u64.wrap (1 * 2 ^ (ji5).toNat)) = ji7 := shl_small hji7
    have hji7u : (IntKind.u64.wrap (2 ^ min (ji5).toNat 64)) = ji7 := by have h_ := hji7_; rw [Int.one_mul] at h_; exact h_
    have hji7v : (ji5) ≤ 64 → (IntKind.u64.wrap (2 ^ (ji5).toNat)) = ji7 := fun hle_ => by have h_ := hji7z hle_; rw [Int.one_mul] at h_; exact h_
    obtain rfl := Option.some.inj H
    go_enter Tryz.func156, Tryz.ntmps156
    go_wp2
    go_ret
    exact ⟨by first | rfl | (simp; done) | (simp only [← hji5, ← hji7] <;> (first | rfl | (simp; done))) | (simp [*]; done) | (congr 1; (try unfold wrap64); omega) | (congr 1; rw [IntKind.wrap_u64]; omega), gd_⟩
   ·rw [if_neg c6] at H
    exact absurd H (by simp)

end Go.Proofs.YtolpdiifmacdbaaGreat.P

/- What the functions of layer 1 compute, as plain numbers. -/
namespace Go.Proofs.YtolpdiifmacdbaaGreat.BitsF
open Go.RowKit Go.Proofs.YtolpdiifmacdbaaGreat.P Go.Proofs.YtolpdiifmacdbaaGreat.Num Go.Proofs.YtolpdiifmacdbaaGreatW.PrintWords Go.Proofs.YtolpdiifmacdbaaGreatW.PrintLast Go.Proofs.YtolpdiifmacdbaaGreatW.PrintMore

def jY (v : Nat) (n : Int) : Nat × Bool :=
 if 0 ≤ n then (v / 2 ^ n.toNat, decide (v % 2 ^ n.toNat ≠ 0)) else (v * 2 ^ (-n).toNat % 18446744073709551616, decide (18446744073709551616 ≤ v * 2 ^ (-n).toNat))
theorem iH (v n : Nat) : jY v (n : Int) = (v / 2 ^ n, decide (v % 2 ^ n ≠ 0)) := by
 unfold jY; rw [if_pos (by omega)]; simp
theorem jV (v n : Nat) (hv : v < 18446744073709551616) : jY v (-(n : Int)) = (v * 2 ^ n % 18446744073709551616, decide (18446744073709551616 ≤ v * 2 ^ n)) := by
 unfold jY
 by_cases h : n = 0
 ·subst h; simp [Nat.mod_one]; omega
 ·rw [if_neg (by omega)]; simp

theorem lY {n : Nat} (h : 64 ≤ n) : 18446744073709551616 ≤ 2 ^ n := by
 have : 2 ^ 64 ≤ 2 ^ n := Nat.pow_le_pow_right (by decide) h
 omega
theorem aBh {n : Nat} (h : n ≤ 64) : 2 ^ n * 2 ^ (64 - n) = 18446744073709551616 := by
 rw [← Nat.pow_add, show n + (64 - n) = 64 by omega]
theorem back_ne (v n : Nat) : decide (v / 2 ^ n * 2 ^ n ≠ v) = decide (v % 2 ^ n ≠ 0) := by
 have := Nat.div_add_mod v (2 ^ n)
 rw [Nat.mul_comm] at this
 congr 1
 apply propext
 constructor <;> intro h <;> omega
theorem aAG (v n : Nat) (hn : n ≤ 64) : decide ((v * 2 ^ n % 18446744073709551616) / 2 ^ n ≠ v) = decide (18446744073709551616 ≤ v * 2 ^ n) := by
 have hp : 0 < 2 ^ n := Nat.two_pow_pos n
 have e : v * 2 ^ n % 18446744073709551616 = (v % 2 ^ (64 - n)) * 2 ^ n := by
  rw [← aBh hn, Nat.mul_comm (2 ^ n), Nat.mul_mod_mul_right]
 rw [e, Nat.mul_div_cancel _ hp]
 congr 1
 apply propext
 have hq : 0 < 2 ^ (64 - n) := Nat.two_pow_pos _
 have d := aBh hn
 constructor
 ·intro h
  have : 2 ^ (64 - n) ≤ v := by
   apply Nat.le_of_not_lt; intro hlt; exact h (Nat.mod_eq_of_lt hlt)
  calc 18446744073709551616 = 2 ^ (64 - n) * 2 ^ n := by rw [Nat.mul_comm]; exact d.symm
   _ ≤ v * 2 ^ n := Nat.mul_le_mul_right _ this
 ·intro h h'
  have hlt : v < 2 ^ (64 - n) := by rw [← h']; exact Nat.mod_lt _ hq
  have : v * 2 ^ n < 2 ^ (64 - n) * 2 ^ n := Nat.mul_lt_mul_of_pos_right hlt hp
  rw [Nat.mul_comm (2 ^ (64 - n)), d] at this
  omega
theorem bne_cast (a b : Nat) : (((a : Int) != (b : Int)) : Bool) = decide (a ≠ b) := by
 by_cases h : a = b
 ·subst h; simp
 ·rw [bne_iff_ne.mpr (by omega)]; simp [h]

theorem tY (v : Nat) (hv : v < 18446744073709551616) (n : Int) (h1 : -9223372036854775808 ≤ n) (h2 : n ≤ 9223372036854775807) (k : Nat) :
  aU.f (k + 1) (v : Int) n = some ((((jY v n).1 : Nat) : Int), (jY v n).2) := by
 unfold aU.f
 by_cases c : n ≥ 64
 ·rw [if_pos c]
  simp only [aU.j0, if_true]
  obtain ⟨m, rfl⟩ := kH (show 0 ≤ n by omega)
  rw [iH]
  have := lY (show 64 ≤ m by omega)
  rw [Nat.div_eq_of_lt (by omega), Nat.mod_eq_of_lt (by omega), ← bne_cast]; rfl
 ·rw [if_neg c]
  by_cases c' : n ≤ -64
  ·rw [decide_eq_true c']
   simp only [aU.j0, if_true]
   obtain ⟨m, hm⟩ := kH (show 0 ≤ -n by omega)
   obtain rfl : n = -(m : Int) := by omega
   rw [jV _ _ hv]
   have hb := lY (show 64 ≤ m by omega)
   have e : (2 : Nat) ^ m = 18446744073709551616 * 2 ^ (m - 64) := by rw [show 18446744073709551616 = 2 ^ 64 from rfl, ← Nat.pow_add]; congr 1; omega
   have e1 : v * 2 ^ m % 18446744073709551616 = 0 := by rw [e, ← Nat.mul_assoc, Nat.mul_comm v, Nat.mul_assoc, Nat.mul_mod_right]
   have e2 : decide (18446744073709551616 ≤ v * 2 ^ m) = decide (v ≠ 0) := by
    congr 1; apply propext
    constructor
    ·intro h h0; subst h0; omega
    ·intro h
     calc 18446744073709551616 ≤ 2 ^ m := hb
      _ = 1 * 2 ^ m := (Nat.one_mul _).symm
      _ ≤ v * 2 ^ m := Nat.mul_le_mul_right _ (by omega)
   simp only [e1, e2]
   rw [← bne_cast]; rfl
  ·rw [decide_eq_false c']
   simp only [aU.j0, Bool.false_eq_true, if_false]
   by_cases c0 : n ≥ 0
   ·rw [if_pos c0]
    obtain ⟨m, rfl⟩ := kH c0
    rw [fH _ (by omega), if_pos (by omega), mE _ _ hv, jM, bne_cast, iH]
    have hle : v / 2 ^ m * 2 ^ m ≤ v := Nat.div_mul_le_self _ _
    rw [Nat.mod_eq_of_lt (by omega), back_ne]
   ·rw [if_neg c0]
    obtain ⟨m, hm⟩ := kH (show 0 ≤ -n by omega)
    obtain rfl : n = -(m : Int) := by omega
    rw [Int.neg_neg, bS _ (by omega) (by omega), fH _ (by omega), if_pos (by omega), jM, mE _ _ (Nat.mod_lt _ (by decide)), bne_cast, jV _ _ hv, aAG _ _ (by omega)]
theorem qB (v : Nat) (hv : v < 18446744073709551616) (n : Int) (h1 : -9223372036854775808 ≤ n) (h2 : n ≤ 9223372036854775807) :
  Ev (fun k => aU.f k (v : Int) n) ((((jY v n).1 : Nat) : Int), (jY v n).2) := Ev.of (aU.mono _ _) (tY v hv n h1 h2 0)

def fT (v : Nat) : Nat := if v = 0 then 0 else v.log2 + 1
theorem nA (v : Nat) : v < 2 ^ fT v := by
 unfold fT
 by_cases h : v = 0
 ·subst h; decide
 ·rw [if_neg h]; exact (Nat.log2_lt h).mp (Nat.lt_succ_self _)
theorem qZ (v : Nat) (h : v ≠ 0) : 2 ^ (fT v - 1) ≤ v := by
 unfold fT
 rw [if_neg h, Nat.add_sub_cancel]
 exact (Nat.le_log2 h).mp (Nat.le_refl _)
theorem mH (v : Nat) (h : v ≠ 0) : 1 ≤ fT v := by unfold fT; rw [if_neg h]; omega
theorem lenN_of (v n : Nat) (h : v < 2 ^ n) (h' : n = 0 ∨ 2 ^ (n - 1) ≤ v) : fT v = n := by
 by_cases hv : v = 0
 ·subst hv
  rcases h' with h' | h'
  ·subst h'; rfl
  ·have := Nat.two_pow_pos (n - 1); omega
 ·have hn : n ≠ 0 := by intro e; subst e; simp at h; omega
  have h' := h'.resolve_left hn
  unfold fT; rw [if_neg hv]
  have a := (Nat.log2_lt hv).mpr h
  have b := (Nat.le_log2 hv).mpr h'
  omega
theorem fZ (v n : Nat) (h : v < 2 ^ n) : fT v ≤ n := by
 by_cases hv : v = 0
 ·subst hv; exact Nat.zero_le _
 ·unfold fT; rw [if_neg hv]; exact (Nat.log2_lt hv).mpr h
theorem lenN_ge (v n : Nat) (h : 2 ^ n ≤ v) : n < fT v := by
 have hv : v ≠ 0 := by have := Nat.two_pow_pos n; omega
 unfold fT; rw [if_neg hv]; have := (Nat.le_log2 hv).mpr h; omega
theorem lF (v n : Nat) (h : 2 ^ n ≤ v) : fT (v / 2 ^ n) + n = fT v := by
 have hp := Nat.two_pow_pos n
 have hq : v / 2 ^ n ≠ 0 := by have := Nat.div_pos h hp; omega
 symm
 apply lenN_of
 ·rw [Nat.pow_add, Nat.mul_comm]
  exact Nat.lt_mul_of_div_lt (nA _) hp |> fun z => by rw [Nat.mul_comm] at z; exact z
 ·right
  have h1 := mH _ hq
  rw [show fT (v / 2 ^ n) + n - 1 = fT (v / 2 ^ n) - 1 + n by omega, Nat.pow_add]
  exact (Nat.le_div_iff_mul_le hp).mp (qZ _ hq)
theorem uB (v n : Nat) (h : v ≠ 0) : fT (v * 2 ^ n) = fT v + n := by
 have hp := Nat.two_pow_pos n
 have := lF (v * 2 ^ n) n (Nat.le_mul_of_pos_left _ (by omega))
 rw [Nat.mul_div_cancel _ hp] at this
 omega
theorem aBq (v : Nat) (h : v ≠ 0) : fT v = fT (v / 2) + 1 := by
 by_cases h1 : v = 1
 ·subst h1; decide
 ·have := lF v 1 (by omega)
  rw [Nat.pow_one] at this; omega
theorem tab_all : ∀ i : Fin 256, bt (⟨#[0, 1, 2, 2, 3, 3, 3, 3, 4, 4, 4, 4, 4, 4, 4, 4, 5, 5, 5, 5, 5, 5, 5, 5, 5, 5, 5, 5, 5, 5, 5, 5, 6, 6, 6, 6, 6, 6, 6, 6, 6, 6, 6, 6, 6, 6, 6, 6, 6, 6, 6, 6, 6, 6, 6, 6, 6, 6, 6, 6, 6, 6, 6, 6, 7, 7, 7, 7, 7, 7, 7, 7, 7, 7, 7, 7, 7, 7, 7, 7, 7, 7, 7, 7, 7, 7, 7, 7, 7, 7, 7, 7, 7, 7, 7, 7, 7, 7, 7, 7, 7, 7, 7, 7, 7, 7, 7, 7, 7, 7, 7, 7, 7, 7, 7, 7, 7, 7, 7, 7, 7, 7, 7, 7, 7, 7, 7, 7, 8, 8, 8, 8, 8, 8, 8, 8, 8, 8, 8, 8, 8, 8, 8, 8, 8, 8, 8, 8, 8, 8, 8, 8, 8, 8, 8, 8, 8, 8, 8, 8, 8, 8, 8, 8, 8, 8, 8, 8, 8, 8, 8, 8, 8, 8, 8, 8, 8, 8, 8, 8, 8, 8, 8, 8, 8, 8, 8, 8, 8, 8, 8, 8, 8, 8, 8, 8, 8, 8, 8, 8, 8, 8, 8, 8, 8, 8, 8, 8, 8, 8, 8, 8, 8, 8, 8, 8, 8, 8, 8, 8, 8, 8, 8, 8, 8, 8, 8, 8, 8, 8, 8, 8, 8, 8, 8, 8, 8, 8, 8, 8, 8, 8, 8, 8, 8, 8, 8, 8, 8, 8, 8, 8, 8, 8, 8, 8]⟩ : ByteArray) ((i.val : Nat) : Int) = (fT i.val : Int) := by decide +kernel
theorem tT (i : Nat) (h : i < 256) : bt (⟨#[0, 1, 2, 2, 3, 3, 3, 3, 4, 4, 4, 4, 4, 4, 4, 4, 5, 5, 5, 5, 5, 5, 5, 5, 5, 5, 5, 5, 5, 5, 5, 5, 6, 6, 6, 6, 6, 6, 6, 6, 6, 6, 6, 6, 6, 6, 6, 6, 6, 6, 6, 6, 6, 6, 6, 6, 6, 6, 6, 6, 6, 6, 6, 6, 7, 7, 7, 7, 7, 7, 7, 7, 7, 7, 7, 7, 7, 7, 7, 7, 7, 7, 7, 7, 7, 7, 7, 7, 7, 7, 7, 7, 7, 7, 7, 7, 7, 7, 7, 7, 7, 7, 7, 7, 7, 7, 7, 7, 7, 7, 7, 7, 7, 7, 7, 7, 7, 7, 7, 7, 7, 7, 7, 7, 7, 7, 7, 7, 8, 8, 8, 8, 8, 8, 8, 8, 8, 8, 8, 8, 8, 8, 8, 8, 8, 8, 8, 8, 8, 8, 8, 8, 8, 8, 8, 8, 8, 8, 8, 8, 8, 8, 8, 8, 8, 8, 8, 8, 8, 8, 8, 8, 8, 8, 8, 8, 8, 8, 8, 8, 8, 8, 8, 8, 8, 8, 8, 8, 8, 8, 8, 8, 8, 8, 8, 8, 8, 8, 8, 8, 8, 8, 8, 8, 8, 8, 8, 8, 8, 8, 8, 8, 8, 8, 8, 8, 8, 8, 8, 8, 8, 8, 8, 8, 8, 8, 8, 8, 8, 8, 8, 8, 8, 8, 8, 8, 8, 8, 8, 8, 8, 8, 8, 8, 8, 8, 8, 8, 8, 8, 8, 8, 8, 8, 8, 8]⟩ : ByteArray) (i : Int) = (fT i : Int) := tab_all ⟨i, h⟩
theorem mJ (v : Nat) (h : v < 18446744073709551616) : fT v ≤ 64 := fZ v 64 h
theorem len_j0 (k x c : Nat) (hx : x < 4294967296) (hc : c ≤ 64) : bits_Len64.j0 (k + 1) (x : Int) (c : Int) = some ((c + fT x : Nat) : Int) := by
 rw [bits_Len64.j0]
 have e1 : (x : Int) / 65536 = ((x / 65536 : Nat) : Int) := by omega
 have e2 : (x : Int) / 65536 / 256 = ((x / 65536 / 256 : Nat) : Int) := by omega
 have e3 : (x : Int) / 256 = ((x / 256 : Nat) : Int) := by omega
 by_cases c1 : (x : Int) ≥ 65536
 ·rw [if_pos c1]
  by_cases c2 : (x : Int) / 65536 ≥ 256
  ·rw [if_pos c2, e2, show ((x / 65536 / 256 : Nat) : Int) % 256 = ((x / 65536 / 256 : Nat) : Int) by omega, if_pos (by omega), if_pos (by omega), tT _ (by omega)]
   have h := lF x 24 (by omega)
   rw [show x / 2 ^ 24 = x / 65536 / 256 by omega] at h
   have b := fZ (x / 65536 / 256) 8 (by omega)
   rw [bS (c + 16) (by omega) (by omega), bS (c + 16 + 8) (by omega) (by omega), bS (fT _) (by omega) (by omega), bS _ (by omega) (by omega)]
   congr 1; omega
  ·rw [if_neg c2, e1, show ((x / 65536 : Nat) : Int) % 256 = ((x / 65536 : Nat) : Int) by omega, if_pos (by omega), if_pos (by omega), tT _ (by omega)]
   have h := lF x 16 (by omega)
   rw [show x / 2 ^ 16 = x / 65536 by omega] at h
   have b := fZ (x / 65536) 8 (by omega)
   rw [bS (c + 16) (by omega) (by omega), bS (fT _) (by omega) (by omega), bS _ (by omega) (by omega)]
   congr 1; omega
 ·rw [if_neg c1]
  by_cases c2 : (x : Int) ≥ 256
  ·rw [if_pos c2, e3, show ((x / 256 : Nat) : Int) % 256 = ((x / 256 : Nat) : Int) by omega, if_pos (by omega), if_pos (by omega), tT _ (by omega)]
   have h := lF x 8 (by omega)
   rw [show x / 2 ^ 8 = x / 256 by omega] at h
   have b := fZ (x / 256) 8 (by omega)
   rw [bS (c + 8) (by omega) (by omega), bS (fT _) (by omega) (by omega), bS _ (by omega) (by omega)]
   congr 1; omega
  ·rw [if_neg c2, show (x : Int) % 256 = (x : Int) by omega, if_pos (by omega), if_pos (by omega), tT _ (by omega)]
   have b := fZ x 8 (by omega)
   rw [bS (fT _) (by omega) (by omega), bS _ (by omega) (by omega)]
   congr 1
theorem len64_f (k v : Nat) (hv : v < 18446744073709551616) : bits_Len64.f (k + 1) (v : Int) = some (fT v : Int) := by
 unfold bits_Len64.f
 by_cases c : (v : Int) ≥ 4294967296
 ·rw [if_pos c, show (v : Int) / 4294967296 = ((v / 4294967296 : Nat) : Int) by omega]
  have h := len_j0 k (v / 4294967296) 32 (by omega) (by decide)
  have e := lF v 32 (by omega)
  rw [show v / 2 ^ 32 = v / 4294967296 by omega] at e
  rw [show ((32 : Nat) : Int) = 32 from rfl] at h
  rw [h]; congr 1; omega
 ·rw [if_neg c]
  have h := len_j0 k v 0 (by omega) (by decide)
  rw [show ((0 : Nat) : Int) = 0 from rfl] at h
  rw [h, Nat.zero_add]
theorem len_f (k v : Nat) (hv : v < 18446744073709551616) : bits_Len.f (k + 1) (v : Int) = some (fT v : Int) := by
 unfold bits_Len.f; rw [len64_f k v hv]; rfl
theorem aA5 (v : Nat) (hv : v < 18446744073709551616) : Ev (fun k => bits_Len.f k (v : Int)) (fT v : Int) := Ev.of (bits_Len.mono _) (len_f 0 v hv)

def cutN (v : Nat) (n : Int) : Nat := if n < 1 then 0 else v % 2 ^ n.toNat
theorem cut_mask (v n : Nat) (hv : v < 18446744073709551616) (hn : n < 64) : Go.bits .and .u64 (v : Int) (IntKind.u64.wrap (shl .u64 1 (n : Int) - 1)) = ((v % 2 ^ n : Nat) : Int) := by
 have hp : 2 ^ n ≤ 2 ^ 63 := Nat.pow_le_pow_right (by decide) (by omega)
 have h0 := Nat.two_pow_pos n
 rw [show (1 : Int) = ((1 : Nat) : Int) from rfl, jM, Nat.one_mul, Nat.mod_eq_of_lt (by omega), show ((2 ^ n : Nat) : Int) - ((1 : Nat) : Int) = ((2 ^ n - 1 : Nat) : Int) by omega, fH _ (by omega), uM _ _ hv (by omega)]
theorem cut_f (v : Nat) (hv : v < 18446744073709551616) (n : Int) (h2 : n ≤ 9223372036854775807) : fG.f (v : Int) n = some (cutN v n : Int) := by
 unfold fG.f cutN
 by_cases c : n < 1
 ·rw [if_pos c, if_pos c]; rfl
 ·rw [if_neg c, if_neg c]
  obtain ⟨m, rfl⟩ := kH (show 0 ≤ n by omega)
  by_cases c' : (m : Int) ≥ 64
  ·rw [if_pos c', Int.toNat_natCast, Nat.mod_eq_of_lt (by have := lY (show 64 ≤ m by omega); omega)]
  ·rw [if_neg c', fH _ (by omega), if_pos (by omega), cut_mask _ _ hv (by omega), Int.toNat_natCast]
end Go.Proofs.YtolpdiifmacdbaaGreat.BitsF

/- Whole numbers in limbs of 64 bits; rounds of two kinds: plain numbers alone. -/
namespace Go.Proofs.YtolpdiifmacdbaaGreat.Round
open Go.RowKit Go.Proofs.YtolpdiifmacdbaaGreat.P Go.Proofs.YtolpdiifmacdbaaGreat.Num Go.Proofs.YtolpdiifmacdbaaGreat.BitsF Go.Proofs.YtolpdiifmacdbaaGreatW.PrintWords Go.Proofs.YtolpdiifmacdbaaGreatW.PrintLast Go.Proofs.YtolpdiifmacdbaaGreatW.PrintMore

def Ev2 {α : Type} (g : Nat → Nat → Option α) (r : α) : Prop := ∃ K, ∀ k n, K ≤ k → K ≤ n → g k n = some r
theorem Ev2.of {α : Type} {g : Nat → Option α} {r : α} (h : Ev g r) : Ev2 (fun _ n => g n) r := by
 obtain ⟨K, h⟩ := h
 exact ⟨K, fun _ n _ hn => h n hn⟩
theorem Ev2.now {α : Type} (r : α) : Ev2 (fun _ _ => some r) r := ⟨0, fun _ _ _ _ => rfl⟩
theorem Ev2.step {α : Type} {g f : Nat → Nat → Option α} {r : α} (h : ∀ k n, g (k + 1) n = f k n) (k : Ev2 f r) : Ev2 g r := by
 obtain ⟨K, k⟩ := k
 refine ⟨K + 1, fun m n hm hn => ?_⟩
 obtain ⟨q, rfl⟩ : ∃ q, m = q + 1 := ⟨m - 1, by omega⟩
 rw [h]; exact k q n (by omega) (by omega)
theorem Ev2.congr {α : Type} {g f : Nat → Nat → Option α} {r : α} (h : ∀ k n, g k n = f k n) (k : Ev2 f r) : Ev2 g r := by
 obtain ⟨K, k⟩ := k
 exact ⟨K, fun m n hm hn => (h m n).trans (k m n hm hn)⟩
theorem Ev2.diag {α : Type} {g : Nat → Nat → Option α} {r : α} (h : Ev2 g r) : Ev (fun n => g n n) r := by
 obtain ⟨K, h⟩ := h
 exact ⟨K, fun n hn => h n n hn hn⟩
theorem Ev2.bind {α β : Type} {g : Nat → Option α} {f : Nat → Nat → α → Option β} {a : α} {r : β} (h : Ev g a) (k : Ev2 (fun m n => f m n a) r) : Ev2 (fun m n => (g n).bind (f m n)) r := by
 obtain ⟨K, h⟩ := h
 obtain ⟨K', k⟩ := k
 refine ⟨max K K', fun m n hm hn => ?_⟩
 show (g n).bind (f m n) = some r
 rw [h n (by omega)]; exact k m n (by omega) (by omega)
theorem Ev2.inner {α : Type} {g : Nat → Nat → Option α} {r : α} (h : Ev2 g r) : Ev2 (fun _ n => g n n) r := Ev2.of (Ev2.diag h)

def lim (xs : List Int) (i : Nat) : Nat := (rd xs (i : Int)).toNat
def lo (xs : List Int) : Nat → Nat
 |0 => 0
 |i + 1 => lo xs i + lim xs i * 2 ^ (64 * i)
structure kD (xs : List Int) : Prop where
 len : xs.length = 10
 rng : ∀ i : Nat, 0 ≤ rd xs (i : Int) ∧ rd xs (i : Int) < 18446744073709551616
theorem kD.rd {xs : List Int} (h : kD xs) (i : Nat) : Go.Proofs.YtolpdiifmacdbaaGreatW.PrintWords.rd xs (i : Int) = (lim xs i : Int) := by
 have := h.rng i; unfold lim; omega
theorem kD.lt {xs : List Int} (h : kD xs) (i : Nat) : lim xs i < 18446744073709551616 := by
 have := h.rng i; unfold lim; omega
theorem vR (xs : List Int) (i j : Nat) (v : Int) (h : i < xs.length) : rd (xs.set i v) (j : Int) = if j = i then v else rd xs (j : Int) := by
 unfold rd
 rw [Int.toNat_natCast, List.getD_eq_getElem?_getD, List.getD_eq_getElem?_getD, List.getElem?_set]
 by_cases c : j = i
 ·subst c; rw [if_pos rfl, if_pos rfl, if_pos h]; rfl
 ·rw [if_neg (fun e => c e.symm), if_neg c]
theorem mP (xs : List Int) (i j : Nat) (v : Int) (h : i < xs.length) : lim (xs.set i v) j = if j = i then v.toNat else lim xs j := by
 unfold lim; rw [vR xs i j v h]; split <;> rfl
theorem kD.set {xs : List Int} (h : kD xs) (i v : Nat) (hi : i < 10) (hv : v < 18446744073709551616) : kD (xs.set i (v : Int)) := by
 refine ⟨by rw [List.length_set]; exact h.len, fun j => ?_⟩
 rw [vR xs i j _ (by rw [h.len]; exact hi)]
 split
 ·omega
 ·exact h.rng j
theorem lo_congr {xs ys : List Int} {i : Nat} (h : ∀ j, j < i → lim xs j = lim ys j) : lo xs i = lo ys i := by
 induction i with
 |zero => rfl
 |succ i ih => unfold lo; rw [ih (fun j hj => h j (by omega)), h i (by omega)]
theorem aAU (xs : List Int) (i : Nat) (v : Int) (h : i < xs.length) : lo (xs.set i v) i = lo xs i :=
 lo_congr fun j hj => by rw [mP xs i j v h, if_neg (by omega)]
theorem aBt (xs : List Int) (i v : Nat) (h : i < xs.length) (h0 : lim xs i = 0) : ∀ n, i < n → lo (xs.set i (v : Int)) n = lo xs n + v * 2 ^ (64 * i) := by
 intro n
 induction n with
 |zero => intro h; omega
 |succ n ih =>
  intro hn
  unfold lo
  rw [mP xs i n _ h]
  by_cases c : n = i
  ·subst c
   rw [if_pos rfl, aAU xs n _ h, h0, Int.toNat_natCast]; omega
  ·rw [if_neg c, ih (by omega)]; omega
theorem lo_lt {xs : List Int} (h : kD xs) (i : Nat) : lo xs i < 2 ^ (64 * i) := by
 induction i with
 |zero => exact Nat.one_pos
 |succ i ih =>
  unfold lo
  rw [show 64 * (i + 1) = 64 * i + 64 by omega, Nat.pow_add]
  have h1 := h.lt i
  have h2 : (lim xs i + 1) * 2 ^ (64 * i) ≤ 18446744073709551616 * 2 ^ (64 * i) := Nat.mul_le_mul_right _ h1
  rw [Nat.add_mul] at h2
  have : (2 : Nat) ^ 64 = 18446744073709551616 := by decide
  rw [this, Nat.mul_comm (2 ^ (64 * i))]
  omega
@[irreducible] def T640 : Nat := 2 ^ (64 * 10)
theorem uS : 2 ^ (64 * 10) = T640 := by unfold T640; rfl
theorem lo_top {xs : List Int} (h : kD xs) : lo xs 10 < T640 := by rw [← uS]; exact lo_lt h 10
theorem qP {xs : List Int} (n : Nat) : lo xs n = 0 ↔ ∀ i, i < n → lim xs i = 0 := by
 induction n with
 |zero => exact ⟨fun _ i hi => by omega, fun _ => rfl⟩
 |succ n ih =>
  unfold lo
  have hp : 2 ^ (64 * n) ≠ 0 := by have := Nat.two_pow_pos (64 * n); omega
  constructor
  ·intro h i hi
   have h1 : lo xs n = 0 := by omega
   have h2 : lim xs n * 2 ^ (64 * n) = 0 := by omega
   by_cases c : i = n
   ·subst c; exact (Nat.mul_eq_zero.mp h2).resolve_right hp
   ·exact ih.mp h1 i (by omega)
  ·intro h
   rw [ih.mpr (fun i hi => h i (by omega)), h n (by omega), Nat.zero_mul]
theorem aAF : kD (List.replicate 10 (0 : Int)) := by
 refine ⟨rfl, fun i => ?_⟩
 unfold rd
 rw [List.getD_eq_getElem?_getD, List.getElem?_replicate]
 split <;> simp
theorem pO (i : Nat) : lim (List.replicate 10 (0 : Int)) i = 0 := by
 unfold lim rd
 rw [List.getD_eq_getElem?_getD, List.getElem?_replicate]
 split <;> simp
theorem rH {xs : List Int} (h : kD xs) : (xs ++ [] == List.replicate 10 (0 : Int) ++ []) = decide (lo xs 10 = 0) := by
 rw [List.append_nil, List.append_nil]
 by_cases z : lo xs 10 = 0
 ·rw [decide_eq_true z, beq_iff_eq]
  refine List.ext_getElem (by rw [h.len]; rfl) fun i h1 h2 => ?_
  have h3 := (qP 10).mp z i (by rw [h.len] at h1; exact h1)
  have h4 := h.rd i
  rw [h3] at h4
  unfold rd at h4
  rw [Int.toNat_natCast, List.getD_eq_getElem?_getD, List.getElem?_eq_getElem h1] at h4
  rw [List.getElem_replicate]
  simpa using h4
 ·rw [decide_eq_false z, beq_eq_false_iff_ne]
  intro e
  apply z
  rw [e]
  exact (qP 10).mpr fun i _ => pO i
theorem lC (xs : List Int) : lo xs 0 = 0 := rfl
theorem jL (xs : List Int) (i : Nat) : lo xs (i + 1) = lo xs i + lim xs i * 2 ^ (64 * i) := rfl
attribute [irreducible] lo
end Go.Proofs.YtolpdiifmacdbaaGreat.Round

/- What the program's package format computes, as plain numbers: widths, parts, classes, whole numbers and exponents. -/
namespace Go.Proofs.YtolpdiifmacdbaaGreat.Fmt
open Go.RowKit Go.Proofs.YtolpdiifmacdbaaGreat.P Go.Proofs.YtolpdiifmacdbaaGreat.Num Go.Proofs.YtolpdiifmacdbaaGreat.BitsF Go.Proofs.YtolpdiifmacdbaaGreatW.PrintWords Go.Proofs.YtolpdiifmacdbaaGreatW.PrintLast Go.Proofs.YtolpdiifmacdbaaGreatW.PrintMore

def fe (f : Int) : Nat := if f = 0 then 5 else 8
def fm (f : Int) : Nat := if f = 0 then 10 else if f = 1 then 7 else 23
theorem qK (f : Int) : (fe f = 5 ∧ fm f = 10) ∨ (fe f = 8 ∧ fm f = 7) ∨ (fe f = 8 ∧ fm f = 23) := by
 unfold fe fm
 split
 ·exact .inl ⟨rfl, rfl⟩
 ·split
  ·exact .inr (.inl ⟨rfl, rfl⟩)
  ·exact .inr (.inr ⟨rfl, rfl⟩)
theorem dS (f : Int) : 5 ≤ fe f ∧ fe f ≤ 8 ∧ 7 ≤ fm f ∧ fm f ≤ 23 ∧ fe f + fm f ≤ 31 := by
 rcases qK f with ⟨h1, h2⟩ | ⟨h1, h2⟩ | ⟨h1, h2⟩ <;> rw [h1, h2] <;> decide
def gF (f : Int) : Nat := 2 ^ fe f - 1
def dM (f : Int) : Int := 2 - 2 ^ (fe f - 1)
theorem gH (f : Int) : dM f = -14 ∨ dM f = -126 := by
 unfold dM
 rcases qK f with ⟨h1, _⟩ | ⟨h1, _⟩ | ⟨h1, _⟩ <;> rw [h1] <;> simp
theorem gJ (f : Int) : gF f = 31 ∨ gF f = 255 := by
 unfold gF
 rcases qK f with ⟨h1, _⟩ | ⟨h1, _⟩ | ⟨h1, _⟩ <;> rw [h1] <;> simp
def eQ (f : Int) (neg : Bool) : Nat := if neg then 2 ^ (fe f + fm f) else 0
def dU (f : Int) (v : Nat) : Bool := decide (v / 2 ^ (fe f + fm f) % 2 = 1)
def lK (f : Int) (v : Nat) : Nat := v / 2 ^ fm f % 2 ^ fe f
def jP (f : Int) (v : Nat) : Nat := v % 2 ^ fm f
theorem yB (f : Int) (v : Nat) : lK f v ≤ gF f := by
 unfold lK gF
 have := Nat.mod_lt (v / 2 ^ fm f) (Nat.two_pow_pos (fe f))
 omega
theorem qF (f : Int) (v : Nat) : jP f v < 2 ^ fm f := Nat.mod_lt _ (Nat.two_pow_pos _)

theorem wu (n : Nat) (h : n < 9223372036854775808) : IntKind.u64.wrap (wrap64 (n : Int)) = (n : Int) := by rw [bS _ (by omega) (by omega), fH _ (by omega)]
theorem dZ {n : Nat} (h : n ≤ 31) : 2 ^ n ≤ 2147483648 := Nat.pow_le_pow_right (show 0 < 2 by decide) h
theorem pQ {n : Nat} (h : n ≤ 32) : 2 ^ n ≤ 4294967296 := Nat.pow_le_pow_right (show 0 < 2 by decide) h
theorem mV (n : Nat) (h : n ≤ 31) : shl .u32 1 (n : Int) = ((2 ^ n : Nat) : Int) := by
 have := dZ h
 rw [show (1 : Int) = ((1 : Nat) : Int) from rfl, tQ, Nat.one_mul, Nat.mod_eq_of_lt (by omega)]
theorem pR (a n : Nat) (ha : a < 4294967296) (hn : n ≤ 31) : Go.bits .and .u32 (a : Int) ((shl .u32 1 (n : Int) - 1) % 4294967296) = ((a % 2 ^ n : Nat) : Int) := by
 have h1 := dZ hn
 have h0 := Nat.two_pow_pos n
 rw [mV n hn, show (((2 ^ n : Nat) : Int) - 1) % 4294967296 = ((2 ^ n - 1 : Nat) : Int) by omega, wO _ _ ha (by omega), Nat.and_two_pow_sub_one_eq_mod]
theorem and1_u32 (a : Nat) (ha : a < 4294967296) : Go.bits .and .u32 (a : Int) 1 = ((a % 2 : Nat) : Int) := by
 rw [show (1 : Int) = ((2 ^ 1 - 1 : Nat) : Int) from rfl, wO _ _ ha (by decide), Nat.and_two_pow_sub_one_eq_mod]
theorem kC (n : Nat) (h : n ≤ 31) : shl .i64 1 (n : Int) = ((2 ^ n : Nat) : Int) := by
 have := dZ h
 have := Nat.two_pow_pos n
 unfold shl
 rw [Int.toNat_natCast, Nat.min_eq_left (show n ≤ IntKind.i64.bits by show n ≤ 64; omega), i64_wrap, Int.one_mul, ← uI, bS _ (by omega) (by omega)]

theorem iL (f : Int) : bI.f f = some ((fe f : Int), (fm f : Int)) := by
 unfold bI.f fe fm
 by_cases h : f = 0
 ·subst h; rfl
 ·rw [if_neg h, if_neg h, if_neg h]
  by_cases h1 : f = 1
  ·subst h1; rfl
  ·rw [if_neg h1, if_neg h1]; rfl
def zP (f : Int) (neg : Bool) (at_ frac : Nat) : Nat := at_ * 2 ^ fm f + frac + eQ f neg
theorem vO (f : Int) (neg : Bool) (a c : Nat) (ha : a ≤ gF f) (hc : c < 2 ^ fm f) : bX.f f neg (a : Int) (c : Int) = some (zP f neg a c : Int) := by
 unfold bX.f zP eQ
 rw [iL]
 obtain ⟨b1, b2, b3, b4, b5⟩ := dS f
 have hp := Nat.two_pow_pos (fm f)
 have hle : a * 2 ^ fm f + 2 ^ fm f ≤ 2 ^ (fe f + fm f) := by
  rw [Nat.pow_add, ← Nat.succ_mul]
  apply Nat.mul_le_mul_right
  unfold gF at ha
  have := Nat.two_pow_pos (fe f); omega
 have h31 := dZ b5
 have e1 : shl .u32 ((a : Int) % 4294967296) (fm f : Int) = ((a * 2 ^ fm f : Nat) : Int) := by
  have : a < 4294967296 := by have := gJ f; omega
  rw [show (a : Int) % 4294967296 = ((a : Nat) : Int) by omega, tQ, Nat.mod_eq_of_lt (by omega)]
 have e2 : Go.bits .or .u32 ((a * 2 ^ fm f : Nat) : Int) (c : Int) = ((a * 2 ^ fm f + c : Nat) : Int) := by
  rw [nI _ _ (by omega) (by omega), lX _ _ (fm f) (Nat.mul_mod_left ..) hc]
 simp only [Option.bind_some]
 rw [fH (fm f) (by omega), if_pos (by omega), e1, e2]
 cases neg
 ·simp
 ·simp only [if_true]
  rw [show (fe f : Int) + (fm f : Int) = ((fe f + fm f : Nat) : Int) by omega, wu _ (by omega), if_pos (by omega), mV _ b5, nI _ _ (by omega) (by omega), Nat.or_comm, lX _ (a * 2 ^ fm f + c) (fe f + fm f) (by simp) (by omega)]
  congr 2; omega
theorem xK (f : Int) : dK.f f = some (gF f : Int) := by
 unfold dK.f gF
 rw [iL]
 obtain ⟨b1, b2, b3, b4, b5⟩ := dS f
 have hp := Nat.two_pow_pos (fe f)
 have h31 := dZ (show fe f ≤ 31 by omega)
 simp only [Option.bind_some]
 rw [fH (fe f) (by omega), if_pos (by omega), kC _ (by omega), bS _ (by omega) (by omega)]
 congr 1; omega
theorem oL (f : Int) : dC.f f = some (dM f) := by
 unfold dC.f dM
 rw [iL]
 obtain ⟨b1, b2, b3, b4, b5⟩ := dS f
 have h31 := dZ (show fe f - 1 ≤ 31 by omega)
 have h0 := Nat.two_pow_pos (fe f - 1)
 simp only [Option.bind_some]
 rw [show (fe f : Int) - 1 = ((fe f - 1 : Nat) : Int) by omega, wu _ (by omega), if_pos (by omega), kC _ (by omega), bS _ (by omega) (by omega), uI]
theorem sV (f : Int) (neg : Bool) : dN.f f neg = some (eQ f neg : Int) := by
 unfold dN.f
 have h := vO f neg 0 0 (Nat.zero_le _) (Nat.two_pow_pos _)
 rw [show ((0 : Nat) : Int) = 0 from rfl] at h
 rw [h]; unfold zP; simp
def nD (f : Int) (neg : Bool) : Nat := gF f * 2 ^ fm f + eQ f neg
theorem wE (f : Int) (neg : Bool) : dF.f f neg = some (nD f neg : Int) := by
 unfold dF.f nD
 have h := vO f neg (gF f) 0 (Nat.le_refl _) (Nat.two_pow_pos _)
 rw [show ((0 : Nat) : Int) = 0 from rfl] at h
 rw [xK]; simp only [Option.bind_some]; rw [h]; unfold zP; simp
def nS (f : Int) (neg : Bool) : Nat := gF f * 2 ^ fm f - 1 + eQ f neg
theorem zY (f : Int) (neg : Bool) : dO.f f neg = some (nS f neg : Int) := by
 unfold dO.f nS
 obtain ⟨b1, b2, b3, b4, b5⟩ := dS f
 have hp := Nat.two_pow_pos (fm f)
 have h31 := dZ (show fm f ≤ 31 by omega)
 have ht := gJ f
 rw [iL, xK]
 simp only [Option.bind_some]
 rw [fH (fm f) (by omega), if_pos (by omega), bS _ (by omega) (by omega), mV _ (by omega), show (((2 ^ fm f : Nat) : Int) - 1) % 4294967296 = ((2 ^ fm f - 1 : Nat) : Int) by omega, show (gF f : Int) - 1 = ((gF f - 1 : Nat) : Int) by omega, vO f neg _ _ (by omega) (by omega)]
 simp only [Option.bind_some]
 unfold zP
 congr 2
 have : gF f * 2 ^ fm f = (gF f - 1) * 2 ^ fm f + 2 ^ fm f := by rw [← Nat.succ_mul]; congr 1; omega
 omega
end Go.Proofs.YtolpdiifmacdbaaGreat.Fmt

/- What the reference's formats are: the same plain numbers. -/
namespace Go.Proofs.YtolpdiifmacdbaaGreat.Round
open Go.RowKit Go.Proofs.YtolpdiifmacdbaaGreat.P Go.Proofs.YtolpdiifmacdbaaGreat.Num Go.Proofs.YtolpdiifmacdbaaGreat.BitsF Go.Proofs.YtolpdiifmacdbaaGreat.Fmt Go.Proofs.YtolpdiifmacdbaaGreatW.PrintWords Go.Proofs.YtolpdiifmacdbaaGreatW.PrintLast Go.Proofs.YtolpdiifmacdbaaGreatW.PrintMore

theorem l9 (a b : Nat) : (((a : Int) == (b : Int)) : Bool) = decide (a = b) := by
 by_cases h : a = b
 ·subst h; simp
 ·rw [beq_eq_false_iff_ne.mpr (by omega)]; simp [h]
theorem eU (f : Int) : aD.f f = some ((fe f : Int), (fm f : Int)) := by
 unfold aD.f fe fm
 by_cases h : f = 0
 ·subst h; rfl
 ·rw [if_neg h, if_neg h, if_neg h]
  by_cases h1 : f = 1
  ·subst h1; rfl
  ·rw [if_neg h1, if_neg h1]; rfl
theorem oG (f : Int) (neg : Bool) : bW.f f neg = some (eQ f neg : Int) := by
 unfold bW.f eQ
 obtain ⟨b1, b2, b3, b4, b5⟩ := dS f
 rw [eU]; simp only [Option.bind_some]
 cases neg
 ·rfl
 ·simp only [if_true]
  rw [show (fe f : Int) + (fm f : Int) = ((fe f + fm f : Nat) : Int) by omega, bS _ (by omega) (by omega), if_pos (by omega), mV _ b5]
theorem jA (f : Int) (neg : Bool) : aZ.f f neg = some (eQ f neg : Int) := by
 unfold aZ.f; rw [oG]; rfl
theorem oO (f : Int) : bB.f f = some (1 - dM f) := by
 unfold bB.f dM
 obtain ⟨b1, b2, b3, b4, b5⟩ := dS f
 have h31 := dZ (show fe f - 1 ≤ 31 by omega)
 have h0 := Nat.two_pow_pos (fe f - 1)
 rw [eU]; simp only [Option.bind_some]
 rw [show (fe f : Int) - 1 = ((fe f - 1 : Nat) : Int) by omega, bS _ (by omega) (by omega), if_pos (by omega), kC _ (by omega), bS _ (by omega) (by omega), ← uI]
 congr 1; omega
theorem lI (f : Int) (neg : Bool) : nD f neg < 4294967296 ∧ gF f * 2 ^ fm f + 2 ^ fm f = 2 ^ (fe f + fm f) := by
 obtain ⟨b1, b2, b3, b4, b5⟩ := dS f
 have h31 := dZ b5
 have hp := Nat.two_pow_pos (fm f)
 have e : gF f * 2 ^ fm f + 2 ^ fm f = 2 ^ (fe f + fm f) := by
  rw [Nat.pow_add, ← Nat.succ_mul]; congr 1
  unfold gF; have := Nat.two_pow_pos (fe f); omega
 refine ⟨?_, e⟩
 unfold nD eQ; split <;> omega
theorem lN (f : Int) (neg : Bool) : bV.f f neg = some (nD f neg : Int) := by
 unfold bV.f nD
 obtain ⟨b1, b2, b3, b4, b5⟩ := dS f
 obtain ⟨_, hi⟩ := lI f neg
 have h31 := dZ b5
 have hp := Nat.two_pow_pos (fm f)
 have hpe := Nat.two_pow_pos (fe f)
 have h8 := dZ (show fe f ≤ 31 by omega)
 rw [eU, oG]; simp only [Option.bind_some]
 rw [if_pos (by omega), if_pos (by omega), mV _ (by omega), show (((2 ^ fe f : Nat) : Int) - 1) % 4294967296 = ((gF f : Nat) : Int) by unfold gF; omega, tQ, Nat.mod_eq_of_lt (by omega)]
 unfold eQ
 cases neg
 ·simp only [Bool.false_eq_true, if_false]
  rw [nI _ _ (by omega) (by omega), Nat.zero_or, Nat.add_zero]
 ·simp only [if_true]
  rw [nI _ _ (by omega) (by omega), lX _ _ (fe f + fm f) (by simp) (by omega), Nat.add_comm]
end Go.Proofs.YtolpdiifmacdbaaGreat.Round

-- Printed by a program of this session's out of Lean's print of the translation; Lean checks it.
namespace Go.Proofs.YtolpdiifmacdbaaGreat.P
open Go.RowKit Go.Proofs.YtolpdiifmacdbaaGreatW.PrintWords Go.Proofs.YtolpdiifmacdbaaGreatW.PrintLast Go.Proofs.YtolpdiifmacdbaaGreatW.PrintMore
attribute [local go_sem] max2_int min2_int max_two min_two max_three min_three max_four min_four

-- NOT PRINTED: function 76 (clip_plus)

-- NOT PRINTED: function 30 (clip_Add)

-- NEED 0
/-! ### annealref1_Key: function 79 -/
-- NEED 0
/-! ### annealref1_Compare: function 31 -/
-- NOT PRINTED: function 6 (anneallaw19_ClipKeeps)

end Go.Proofs.YtolpdiifmacdbaaGreat.P

/- The reference's parts of a number, its class, its whole number and exponent, its place in the order: as plain numbers. -/
namespace Go.Proofs.YtolpdiifmacdbaaGreat.Round
open Go.RowKit Go.Proofs.YtolpdiifmacdbaaGreat.P Go.Proofs.YtolpdiifmacdbaaGreat.Num Go.Proofs.YtolpdiifmacdbaaGreat.BitsF Go.Proofs.YtolpdiifmacdbaaGreat.Fmt Go.Proofs.YtolpdiifmacdbaaGreatW.PrintWords Go.Proofs.YtolpdiifmacdbaaGreatW.PrintLast Go.Proofs.YtolpdiifmacdbaaGreatW.PrintMore

def lM (f : Int) (v : Nat) : Nat := v % 2 ^ (fe f + fm f + 1)
theorem aAz (f : Int) (v : Nat) : lM f v < 2 ^ (fe f + fm f + 1) := Nat.mod_lt _ (Nat.two_pow_pos _)
theorem low_32 (f : Int) (v : Nat) : lM f v < 4294967296 := by
 obtain ⟨b1, b2, b3, b4, b5⟩ := dS f
 have := aAz f v
 have := pQ (show fe f + fm f + 1 ≤ 32 by omega)
 omega
def maskN (f : Int) : Nat := 2 ^ (fe f + fm f + 1) - 1
theorem mask_lit (n : Nat) (hn : n ≤ 32) : (IntKind.u64.wrap (shl .u64 1 (n : Int) - 1)) % 4294967296 = ((2 ^ n - 1 : Nat) : Int) := by
 have h32 := pQ hn
 have h0 := Nat.two_pow_pos n
 rw [show shl .u64 1 (n : Int) = _ from jM 1 n, Nat.one_mul]
 generalize 2 ^ n = P at *
 rw [Nat.mod_eq_of_lt (by omega), jD]
 omega
theorem width_f (f : Int) : wrap64 ((wrap64 (1 + (fe f : Int))) + (fm f : Int)) = ((fe f + fm f + 1 : Nat) : Int) := by
 obtain ⟨b1, b2, b3, b4, b5⟩ := dS f
 rw [bS (1 + (fe f : Int)) (by omega) (by omega), bS _ (by omega) (by omega)]; omega
theorem iZ (f : Int) : bM.f f = some (maskN f : Int) := by
 unfold bM.f
 have h := dS f
 rw [eU, Option.bind_some]
 dsimp only
 rw [width_f, mask_lit _ (by omega)]
 exact if_pos (Int.natCast_nonneg _)
theorem pU (f : Int) (v : Nat) (hv : v < 4294967296) : Go.bits .and .u32 (v : Int) (maskN f : Int) = (lM f v : Int) := by
 unfold maskN lM
 have h := dS f
 have h32 := pQ (show fe f + fm f + 1 ≤ 32 by omega)
 generalize fe f + fm f + 1 = n at *
 have h0 := Nat.two_pow_pos n
 rw [wO _ _ hv (by omega), Nat.and_two_pow_sub_one_eq_mod]
theorem top_bit (f : Int) (v : Nat) : ((((lM f v / 2 ^ (fe f + fm f) : Nat) : Int) == 1) : Bool) = dU f (lM f v) := by
 rw [show (1 : Int) = ((1 : Nat) : Int) from rfl, l9]
 unfold dU
 have : lM f v / 2 ^ (fe f + fm f) < 2 := by rw [Nat.div_lt_iff_lt_mul (Nat.two_pow_pos _), Nat.mul_comm, ← Nat.pow_succ]; exact aAz f v
 rw [Nat.mod_eq_of_lt this]
theorem vV (a n : Nat) (hn : n ≤ 31) : wrap64 ((a % 2 ^ n : Nat) : Int) = ((a % 2 ^ n : Nat) : Int) := by
 have h1 := dZ hn
 have h2 := Nat.mod_lt a (Nat.two_pow_pos n)
 generalize a % 2 ^ n = q at *
 exact bS _ (by omega) (by omega)
theorem aBd (a n : Nat) (hn : n ≤ 31) : IntKind.u64.wrap ((a % 2 ^ n : Nat) : Int) = ((a % 2 ^ n : Nat) : Int) := by
 have h1 := dZ hn
 have h2 := Nat.mod_lt a (Nat.two_pow_pos n)
 generalize a % 2 ^ n = q at *
 exact fH _ (by omega)
theorem mU (f : Int) (v : Nat) (hv : v < 4294967296) : bQ.f f (v : Int) = some (dU f (lM f v), (lK f (lM f v) : Int), (jP f (lM f v) : Int)) := by
 unfold bQ.f
 obtain ⟨b1, b2, b3, b4, b5⟩ := dS f
 have hl := low_32 f v
 rw [eU, Option.bind_some, iZ, Option.bind_some]
 dsimp only
 rw [pU f v hv, show (fe f : Int) + (fm f : Int) = ((fe f + fm f : Nat) : Int) by omega, bS _ (by omega) (by omega), if_pos (by omega), if_pos (by omega), if_pos (by omega), rG _ _ hl, rG _ _ hl, pR _ _ (Nat.lt_of_le_of_lt (Nat.div_le_self _ _) hl) (by omega), pR _ _ hl (by omega), top_bit, vV _ _ (by omega), aBd _ _ (by omega)]
 unfold lK jP
 exact Eq.refl _
def dA (f : Int) (v : Nat) : Nat :=
 if lK f v = 0 then (if jP f v = 0 then 0 else 1) else if lK f v < gF f then 2 else if jP f v = 0 then 3 else if jP f v / 2 ^ (fm f - 1) = 1 then 4 else 5
theorem o9 (f : Int) (v : Nat) (hv : v < 4294967296) : Ev (fun k => aH.f k f (v : Int)) (dA f (lM f v) : Int) := by
 obtain ⟨b1, b2, b3, b4, b5⟩ := dS f
 have h31 := dZ (show fe f ≤ 31 by omega)
 have h0 := Nat.two_pow_pos (fe f)
 have hfr := qF f (lM f v)
 have h31' := dZ (show fm f ≤ 31 by omega)
 refine ⟨1, fun k hk => ?_⟩
 obtain ⟨k, rfl⟩ : ∃ j, k = j + 1 := ⟨k - 1, by omega⟩
 unfold aH.f dA
 rw [eU, mU f v hv]
 simp only [Option.bind_some]
 generalize lK f (lM f v) = e
 generalize jP f (lM f v) = m at *
 have ht : wrap64 (((2 ^ fe f : Nat) : Int) - 1) = (gF f : Int) := by rw [bS _ (by omega) (by omega)]; unfold gF; omega
 by_cases c : e = 0
 ·subst c
  rw [if_pos (by rfl), aH.j0, if_pos rfl]
  by_cases c2 : m = 0
  ·subst c2; rfl
  ·rw [if_neg (by simp; omega), if_pos (by rfl), if_neg c2]; rfl
 ·rw [if_neg (by omega), aH.j0, if_neg (by decide), if_neg (by omega), if_pos (by omega), kC _ (by omega), ht, if_neg c]
  by_cases c2 : e < gF f
  ·rw [if_pos (by omega), if_pos c2]; rfl
  ·rw [if_neg (by omega), if_neg c2]
   by_cases c3 : m = 0
   ·rw [if_pos (by omega), if_pos c3]; rfl
   ·rw [if_neg (by omega), if_neg c3, bS _ (by omega) (by omega), if_pos (by omega), show (fm f : Int) - 1 = ((fm f - 1 : Nat) : Int) by omega, mE _ _ (by omega)]
    by_cases c4 : m / 2 ^ (fm f - 1) = 1
    ·rw [if_pos (by rw [c4]; rfl), if_pos c4]; rfl
    ·rw [if_neg (by omega), if_neg c4]; rfl
theorem oV (f : Int) (v : Nat) : dA f v < 3 ↔ lK f v < gF f := by
 have := gJ f
 unfold dA
 split
 ·split <;> omega
 ·split
  ·omega
  ·split
   ·omega
   ·split <;> omega
def bZ (f : Int) (v : Nat) : Nat := if lK f v = 0 then jP f v else jP f v + 2 ^ fm f
def bT (f : Int) (v : Nat) : Int := dM f - fm f + (lK f v - 1 : Nat)
theorem or_top (m n : Nat) (h : m < 2 ^ n) (hn : n ≤ 31) : Go.bits .or .u64 (m : Int) (shl .u64 1 (n : Int)) = ((m + 2 ^ n : Nat) : Int) := by
 have h31 := dZ hn
 rw [show (1 : Int) = ((1 : Nat) : Int) from rfl, jM, Nat.one_mul, Nat.mod_eq_of_lt (by omega), yI _ _ (by omega) (by omega), Nat.or_comm, lX _ _ n (by simp) h, Nat.add_comm]
theorem vL (f : Int) (v : Nat) : lM f v = lK f (lM f v) * 2 ^ fm f + jP f (lM f v) + eQ f (dU f (lM f v)) := by
 have hlt := aAz f v
 generalize lM f v = x at *
 unfold lK jP eQ dU
 have h1 : x / 2 ^ (fe f + fm f) < 2 := by rw [Nat.div_lt_iff_lt_mul (Nat.two_pow_pos _), Nat.mul_comm, ← Nat.pow_succ]; exact hlt
 have h2 : x / 2 ^ fm f / 2 ^ fe f = x / 2 ^ (fe f + fm f) := by rw [Nat.div_div_eq_div_mul, ← Nat.pow_add, Nat.add_comm]
 have h3 := Nat.div_add_mod x (2 ^ fm f)
 have h4 := Nat.div_add_mod (x / 2 ^ fm f) (2 ^ fe f)
 rw [h2] at h4
 have h5 : 2 ^ (fe f + fm f) = 2 ^ fm f * 2 ^ fe f := by rw [← Nat.pow_add, Nat.add_comm]
 rw [Nat.mod_eq_of_lt h1]
 generalize x / 2 ^ (fe f + fm f) = b at *
 generalize hq : x / 2 ^ fm f % 2 ^ fe f = q at *
 generalize x % 2 ^ fm f = r at *
 rw [← h4, Nat.mul_add] at h3
 have h6 : b = 0 ∨ b = 1 := by omega
 rcases h6 with rfl | rfl
 ·rw [if_neg (by decide)]; rw [Nat.mul_comm q]; omega
 ·rw [if_pos (by decide), h5, Nat.mul_comm q]
  rw [Nat.mul_one] at h3
  omega
theorem aAJ (f : Int) (v : Nat) (hv : v < 4294967296) : bU.f f (v : Int) = some (dU f (lM f v)) := by
 unfold bU.f; rw [mU f v hv]; rfl
/- The reference's classes and order of any numbers: plain numbers. -/

theorem tF (v a b c : Nat) (h : b + c ≤ a) : v % 2 ^ a / 2 ^ b % 2 ^ c = v / 2 ^ b % 2 ^ c := by
 apply Nat.eq_of_testBit_eq
 intro i
 rw [Nat.testBit_mod_two_pow, Nat.testBit_mod_two_pow, Nat.testBit_div_two_pow, Nat.testBit_div_two_pow, Nat.testBit_mod_two_pow]
 by_cases h1 : i < c
 ·have : i + b < a := by omega
  simp [h1, this]
 ·simp [h1]
theorem tZ (f : Int) (v : Nat) : dU f (lM f v) = dU f v := by
 unfold dU lM
 have := tF v (fe f + fm f + 1) (fe f + fm f) 1 (Nat.le_refl _)
 rw [Nat.pow_one] at this
 rw [this]
theorem oF (f : Int) (v : Nat) : lK f (lM f v) = lK f v := tF v (fe f + fm f + 1) (fm f) (fe f) (by omega)
theorem pV (f : Int) (v : Nat) : jP f (lM f v) = jP f v := by
 have := tF v (fe f + fm f + 1) 0 (fm f) (by omega)
 rw [Nat.pow_zero, Nat.div_one, Nat.div_one] at this
 exact this
theorem cls_low (f : Int) (v : Nat) : dA f (lM f v) = dA f v := by unfold dA; rw [oF, pV]
theorem aBg (f : Int) (v : Nat) : bZ f (lM f v) = bZ f v := by unfold bZ; rw [oF, pV]
theorem zR (f : Int) (v : Nat) : bT f (lM f v) = bT f v := by unfold bT; rw [oF]

theorem rM (f : Int) (v : Nat) (hv : v < 4294967296) : Ev (fun k => aH.f k f (v : Int)) (dA f v : Int) := by
 have := o9 f v hv; rw [cls_low] at this; exact this
theorem vP (f : Int) (v : Nat) (hv : v < 4294967296) : bU.f f (v : Int) = some (dU f v) := by rw [aAJ f v hv, tZ]
theorem mI (f : Int) (v : Nat) (hv : v < 4294967296) : Ev (fun k => bG.f k f (v : Int)) (decide (dA f v = 0)) := by
 refine Ev.congr (fun k => by unfold bG.f; rfl) (Ev.bind (rM f v hv) (Ev.congr (fun k => ?_) (Ev.now _)))
 rw [show (0 : Int) = ((0 : Nat) : Int) from rfl, l9]
def fE (f : Int) (v : Nat) : Bool := decide (4 ≤ dA f v)
def fM (f : Int) (v : Nat) : Bool := decide (dA f v = 5)
theorem sI (f : Int) (v : Nat) : dA f v ≤ 5 := by
 unfold dA
 repeat' split
 all_goals omega
theorem nY (f : Int) (L : List Int) (i v : Nat) (b c : Bool) (r : Bool × Bool) (hi : i < L.length) (hn : L.length ≤ 100) (hv : v < 4294967296) (hr : rd L (i : Int) = (v : Int))
  (h : Ev (fun k => aI.l0 k f L (b || fE f v) (c || fM f v) ((i + 1 : Nat) : Int)) r) : Ev (fun k => aI.l0 k f L b c (i : Int)) r := by
 have hw : wrap64 ((i : Int) + 1) = ((i + 1 : Nat) : Int) := by rw [bS _ (by omega) (by omega)]; omega
 have hc := sI f v
 refine Ev.step (fun k => by rw [aI.l0, if_pos (by omega), if_pos (Int.natCast_nonneg _), hr, hw]) (Ev.bind (rM f v hv) (Ev.congr (fun k => ?_) h))
 have e5 : (((dA f v : Nat) : Int) == 5) = fM f v := by rw [show (5 : Int) = ((5 : Nat) : Int) from rfl, l9]; rfl
 rw [e5]
 cases b
 ·by_cases c4 : dA f v = 4
  ·have n4 : fE f v = true := by unfold fE; rw [c4]; rfl
   rw [if_neg (by decide), if_pos (by omega), n4]
   cases c <;> simp
  ·have n4 : fE f v = fM f v := by unfold fE fM; apply decide_eq_decide.mpr; omega
   rw [if_neg (by decide), if_neg (by omega), n4]
   cases c <;> simp
 ·cases c <;> simp
theorem yV (f : Int) (L : List Int) (b c : Bool) : Ev (fun k => aI.l0 k f L b c (L.length : Int)) (b, c) :=
 Ev.step (fun k => by rw [aI.l0, if_neg (by omega)]) (Ev.now _)
theorem nans1_ev (f : Int) (v : Nat) (hv : v < 4294967296) : Ev (fun k => aI.f k f [(v : Int)]) (fE f v, fM f v) := by
 refine Ev.congr (fun k => by unfold aI.f; rfl) (nY f _ 0 v false false _ (by simp) (by simp) hv rfl ?_)
 rw [Bool.false_or, Bool.false_or]
 exact yV f [(v : Int)] _ _
/- The reference's finite numbers: their whole numbers and exponents. -/

theorem uQ (f : Int) (v : Nat) (hv : v < 4294967296) (h : lK f (lM f v) < gF f) :
  Ev (fun k => bE.f k f (v : Int)) (dU f (lM f v), bT f (lM f v), (bZ f (lM f v) : Int)) := by
 obtain ⟨b1, b2, b3, b4, b5⟩ := dS f
 have hfr := qF f (lM f v)
 have hls := gH f
 have htp := gJ f
 obtain ⟨K, hK⟩ := o9 f v hv
 refine ⟨K, fun k hk => ?_⟩
 show bE.f k f (v : Int) = _
 unfold bE.f
 rw [eU, mU f v hv, show aH.f k f (v : Int) = _ from hK k hk, oO]
 simp only [Option.bind_some]
 unfold bT bZ dA
 generalize lK f (lM f v) = e at *
 generalize jP f (lM f v) = m at *
 by_cases c : e = 0
 ·subst c
  have e1 : wrap64 ((wrap64 (1 - (1 - dM f))) - (fm f : Int)) = dM f - fm f + ((0 - 1 : Nat) : Int) := by
   rw [bS (1 - (1 - dM f)) (by omega) (by omega), bS _ (by omega) (by omega)]; omega
  rw [e1]
  by_cases c2 : m = 0
  ·subst c2; rfl
  ·simp only [if_true, if_neg c2]; rfl
 ·rw [if_neg c, if_pos h, if_neg c]
  have e1 : wrap64 ((wrap64 ((e : Int) - (1 - dM f))) - (fm f : Int)) = dM f - fm f + ((e - 1 : Nat) : Int) := by
   rw [bS ((e : Int) - (1 - dM f)) (by omega) (by omega), bS _ (by omega) (by omega)]; omega
  rw [e1, or_top m _ hfr (by omega), if_pos (by rfl), if_pos (by omega)]
/- The program's parts of a number, its class, its whole number and exponent: as plain numbers; the reference's are the same. -/

theorem sum_w (f : Int) : IntKind.u64.wrap (wrap64 ((fe f : Int) + (fm f : Int))) = ((fe f + fm f : Nat) : Int) := by
 have h := dS f
 rw [show (fe f : Int) + (fm f : Int) = ((fe f + fm f : Nat) : Int) by omega, wu _ (by omega)]
theorem uO (f : Int) (v : Nat) (hv : v < 4294967296) : dX.f f (v : Int) = some (dU f v, (lK f v : Int), (jP f v : Int)) := by
 unfold dX.f
 have h := dS f
 have hd : v / 2 ^ (fe f + fm f) < 4294967296 := Nat.lt_of_le_of_lt (Nat.div_le_self _ _) hv
 have hd' : v / 2 ^ fm f < 4294967296 := Nat.lt_of_le_of_lt (Nat.div_le_self _ _) hv
 rw [iL, Option.bind_some]
 dsimp only
 rw [sum_w, fH (fm f) (by omega), fH (fe f) (by omega), if_pos (Int.natCast_nonneg _), if_pos (Int.natCast_nonneg _), if_pos (Int.natCast_nonneg _), rG _ _ hv, rG _ _ hv, and1_u32 _ hd, pR _ _ hd' (by omega), pR _ _ hv (by omega), vV _ _ (by omega)]
 rw [show (1 : Int) = ((1 : Nat) : Int) from rfl, l9]
 unfold dU lK jP
 exact Eq.refl _
theorem yM (k : Nat) (f : Int) (e m : Nat) (he : e ≤ gF f) (hm : m < 2 ^ fm f) (hz : ¬ (e = 0 ∧ m = 0)) :
  aW.j0 (k + 1) f (fm f : Int) (e : Int) (m : Int) false = some (((if e = 0 then (if m = 0 then 0 else 1) else if e < gF f then 2 else if m = 0 then 3 else if m / 2 ^ (fm f - 1) = 1 then 4 else 5 : Nat)) : Int) := by
 have h := dS f
 have h31 := dZ (show fm f ≤ 31 by omega)
 rw [aW.j0, if_neg (by decide)]
 by_cases c : e = 0
 ·subst c
  rw [if_pos (by rfl), if_pos rfl, if_neg (fun h => hz ⟨rfl, h⟩)]; rfl
 ·rw [if_neg (by omega), if_neg c, xK, Option.bind_some]
  by_cases c2 : e < gF f
  ·rw [if_pos (by omega), if_pos c2]; rfl
  ·rw [if_neg (by omega), if_neg c2]
   by_cases c3 : m = 0
   ·rw [if_pos (by omega), if_pos c3]; rfl
   ·rw [if_neg (by omega), if_neg c3, show (fm f : Int) - 1 = ((fm f - 1 : Nat) : Int) by omega, wu _ (by omega), if_pos (Int.natCast_nonneg _), rG _ _ (by omega)]
    by_cases c4 : m / 2 ^ (fm f - 1) = 1
    ·rw [if_pos (by rw [c4]; rfl), if_pos c4]; rfl
    ·rw [if_neg (by omega), if_neg c4]; rfl
theorem nH (f : Int) (v : Nat) (hv : v < 4294967296) : Ev (fun k => aW.f k f (v : Int)) (dA f v : Int) := by
 have he := yB f v
 have hm := qF f v
 refine ⟨1, fun k hk => ?_⟩
 obtain ⟨k, rfl⟩ : ∃ j, k = j + 1 := ⟨k - 1, by omega⟩
 show aW.f (k + 1) f (v : Int) = _
 unfold aW.f dA
 rw [iL, Option.bind_some, uO f v hv, Option.bind_some]
 dsimp only
 generalize lK f v = e at *
 generalize jP f v = m at *
 by_cases c : e = 0 ∧ m = 0
 ·obtain ⟨rfl, rfl⟩ := c
  rw [if_pos (by rfl), aW.j0, if_pos (by rfl), if_pos rfl, if_pos rfl]; rfl
 ·by_cases c2 : e = 0
  ·have e2 : (((m : Int) == 0) : Bool) = false := by simp; omega
   rw [if_pos (by omega), e2, yM k f e m he hm c]
  ·rw [if_neg (by omega), yM k f e m he hm c]
theorem tL (f : Int) (v : Nat) (hv : v < 4294967296) : dQ.f f (v : Int) = some (dU f v) := by
 unfold dQ.f; rw [uO f v hv]; rfl
def rO (f : Int) : Nat := gF f * 2 ^ fm f + 2 ^ (fm f - 1)
theorem vT (f : Int) : 2 ^ (fm f - 1) < 2 ^ fm f := by
 have h := dS f
 exact Nat.pow_lt_pow_right (by decide) (by omega)
theorem nan_f (f : Int) : gK.f f = some (rO f : Int) := by
 unfold gK.f
 have h := dS f
 rw [iL, Option.bind_some, xK, Option.bind_some]
 dsimp only
 rw [show (fm f : Int) - 1 = ((fm f - 1 : Nat) : Int) by omega, wu _ (by omega), if_pos (Int.natCast_nonneg _), mV _ (by omega), vO f false _ _ (Nat.le_refl _) (vT f), Option.bind_some]
 unfold zP rO
 simp [eQ]
theorem zV (f : Int) : eT.f f = some ((rO f : Int), true, false, false, false, false) := by
 unfold eT.f; rw [nan_f]; rfl
theorem lU (f : Int) : cK.f f = some (rO f : Int) := by
 unfold cK.f
 have h := dS f
 obtain ⟨hi, _⟩ := lI f false
 have hh := vT f
 have h31 := dZ (show fm f ≤ 31 by omega)
 rw [eU, Option.bind_some, lN, Option.bind_some]
 dsimp only
 rw [show (fm f : Int) - 1 = ((fm f - 1 : Nat) : Int) by omega, bS _ (by omega) (by omega), if_pos (Int.natCast_nonneg _), mV _ (by omega), nI _ _ hi (by omega)]
 unfold nD rO
 rw [show eQ f false = 0 from rfl, Nat.add_zero, lX _ _ (fm f) (Nat.mul_mod_left ..) hh]
theorem unpack_f (f : Int) (v : Nat) (hv : v < 4294967296) (h : lK f v < gF f) : fF.f f (v : Int) = some (dU f v, bT f v, (bZ f v : Int)) := by
 unfold fF.f bT bZ
 obtain ⟨b1, b2, b3, b4, b5⟩ := dS f
 have hm := qF f v
 have h31 := dZ (show fm f ≤ 31 by omega)
 have hl := gH f
 have ht := gJ f
 rw [iL, Option.bind_some, uO f v hv, Option.bind_some]
 dsimp only
 generalize lK f v = e at *
 generalize jP f v = m at *
 by_cases c : e = 0
 ·subst c
  rw [if_pos (by rfl), oL, Option.bind_some, if_pos rfl, bS (dM f - fm f) (by omega) (by omega), fH m (by omega)]
  simp
 ·rw [if_neg (by omega), xK, Option.bind_some, if_neg (by omega), oL, Option.bind_some, if_neg c, fH (fm f) (by omega), if_pos (Int.natCast_nonneg _), fH m (by omega), or_top m _ hm (by omega), bS (dM f - fm f) (by omega) (by omega), bS (dM f - fm f + e) (by omega) (by omega), bS _ (by omega) (by omega), show dM f - (fm f : Int) + (e : Int) - 1 = dM f - fm f + ((e - 1 : Nat) : Int) by omega]
theorem of_f (f : Int) (v : Nat) (hv : v < 4294967296) (h : lK f v < gF f) : fD.f f (v : Int) = some (dU f v, bT f v, (bZ f v : Int), false) := by
 unfold fD.f; rw [unpack_f f v hv h]; rfl

theorem mK (f : Int) (v : Nat) (hv : v < 4294967296) (h : lK f v < gF f) : Ev (fun k => bE.f k f (v : Int)) (dU f v, bT f v, (bZ f v : Int)) := by
 have := uQ f v hv (by rw [oF]; exact h); rw [tZ, zR, aBg] at this; exact this
theorem mO (f : Int) (v : Nat) (hv : v < 4294967296) : Ev (fun k => bL.f k f (v : Int)) (decide (dA f v = 3)) := by
 refine Ev.congr (fun k => by unfold bL.f; rfl) (Ev.bind (rM f v hv) (Ev.congr (fun k => ?_) (Ev.now _)))
 rw [show (3 : Int) = ((3 : Nat) : Int) from rfl, l9]
end Go.Proofs.YtolpdiifmacdbaaGreat.Round

-- Printed by a program of this session's out of Lean's print of the translation; Lean checks it.
namespace Go.Proofs.YtolpdiifmacdbaaGreat.P
open Go.RowKit Go.Proofs.YtolpdiifmacdbaaGreatW.PrintWords Go.Proofs.YtolpdiifmacdbaaGreatW.PrintLast Go.Proofs.YtolpdiifmacdbaaGreatW.PrintMore
attribute [local go_sem] max2_int min2_int max_two min_two max_three min_three max_four min_four

-- NEED 1
/-! ### aC: function 104 -/
mutual
def aC.j0 : Nat → Int → Int → Bool → Int → Int → Bool → Bool → Option (Int × Bool × Bool × Bool × Bool × Bool)
 |0, _, _, _, _, _, _, _ => none
 |k + 1, x0, x1, x2, x3, x4, x5, x29 => if x29 = true then ((dN.f x0 x2).bind fun t134 => (some (t134, false, false, false, false, false))) else ((bI.f x0).bind fun bt135 => ((dH.f k x0 x3 x4).bind fun t137 => ((cO.f k x4 (wrap64 (t137 - x3)) x5).bind fun bt138 => ((gP.f x1 x2 bt138.1 bt138.2).bind fun t140 => (if t140 = true then (aC.j1 k x0 x1 x2 x3 x4 bt135.2 t137 (IntKind.u64.wrap (bt138.1 + 1)) bt138.2) else (aC.j1 k x0 x1 x2 x3 x4 bt135.2 t137 bt138.1 bt138.2))))))
def aC.j1 : Nat → Int → Int → Bool → Int → Int → Int → Int → Int → Int → Option (Int × Bool × Bool × Bool × Bool × Bool)
 |0, _, _, _, _, _, _, _, _, _ => none
 |k + 1, x0, x1, x2, x3, x4, x15, x16, x17, x18 => if 0 ≤ (IntKind.u64.wrap (wrap64 (x15 + 1))) then (if (shr .u64 x17 (IntKind.u64.wrap (wrap64 (x15 + 1)))) = 0 then (aC.j2 k x0 x1 x2 x3 x4 x15 x16 x17 x18) else (aC.j2 k x0 x1 x2 x3 x4 x15 (wrap64 (x16 + 1)) (x17 / 2) x18)) else (none)
def aC.j2 : Nat → Int → Int → Bool → Int → Int → Int → Int → Int → Int → Option (Int × Bool × Bool × Bool × Bool × Bool)
 |0, _, _, _, _, _, _, _, _, _ => none
 |k + 1, x0, x1, x2, x3, x4, x15, x16, x17, x18 => (dC.f x0).bind fun t141 => (if 0 ≤ (IntKind.u64.wrap (x15)) then (if (shr .u64 x17 (IntKind.u64.wrap (x15))) = 0 then (aC.j3 k x0 x1 x2 x3 x4 x15 x17 x18 0) else (aC.j3 k x0 x1 x2 x3 x4 x15 x17 x18 (wrap64 ((wrap64 ((wrap64 (x16 + x15)) - t141)) + 1)))) else (none))
def aC.j3 : Nat → Int → Int → Bool → Int → Int → Int → Int → Int → Int → Option (Int × Bool × Bool × Bool × Bool × Bool)
 |0, _, _, _, _, _, _, _, _, _ => none
 |k + 1, x0, x1, x2, x3, x4, x15, x17, x18, x19 => (dK.f x0).bind fun t142 => (if x19 ≥ t142 then ((bR.f x0 x1 x2).bind fun bt143 => (some (bt143.1, bt143.2.1, bt143.2.2.1, bt143.2.2.2.1, bt143.2.2.2.2.1, bt143.2.2.2.2.2))) else (if x18 = 0 then ((fG.f x17 x15).bind fun t150 => ((bX.f x0 x2 x19 ((t150) % 4294967296)).bind fun t151 => (some (t151, false, false, false, false, (x18 != 0))))) else (if x4 = 0 then ((fG.f x17 x15).bind fun t152 => ((bX.f x0 x2 x19 ((t152) % 4294967296)).bind fun t153 => (some (t153, false, false, false, true, (x18 != 0))))) else ((bits_Len.f k x4).bind fun t154 => ((dC.f x0).bind fun t155 => ((fG.f x17 x15).bind fun t156 => ((bX.f x0 x2 x19 ((t156) % 4294967296)).bind fun t157 => (some (t157, false, false, false, decide ((wrap64 ((wrap64 (x3 + t154)) - 1)) < t155), (x18 != 0))))))))))
end
def aC.f (k : Nat) (a0 a1 : Int) (a2 : Bool) (a3 a4 : Int) (a5 : Bool) : Option (Int × Bool × Bool × Bool × Bool × Bool) := if a4 = 0 then (aC.j0 k a0 a1 a2 (mn (mx a3 (-10000)) 10000) a4 a5 (!a5)) else (aC.j0 k a0 a1 a2 (mn (mx a3 (-10000)) 10000) a4 a5 false)
theorem aC.eX : ∀ k, (∀ y0 y1 y2 y3 y4 y5 y6, LeO (aC.j0 k y0 y1 y2 y3 y4 y5 y6) (aC.j0 (k + 1) y0 y1 y2 y3 y4 y5 y6)) ∧ (∀ y0 y1 y2 y3 y4 y5 y6 y7 y8, LeO (aC.j1 k y0 y1 y2 y3 y4 y5 y6 y7 y8) (aC.j1 (k + 1) y0 y1 y2 y3 y4 y5 y6 y7 y8)) ∧ (∀ y0 y1 y2 y3 y4 y5 y6 y7 y8, LeO (aC.j2 k y0 y1 y2 y3 y4 y5 y6 y7 y8) (aC.j2 (k + 1) y0 y1 y2 y3 y4 y5 y6 y7 y8)) ∧ (∀ y0 y1 y2 y3 y4 y5 y6 y7 y8, LeO (aC.j3 k y0 y1 y2 y3 y4 y5 y6 y7 y8) (aC.j3 (k + 1) y0 y1 y2 y3 y4 y5 y6 y7 y8))
 |0 => ⟨fun _ _ _ _ _ _ _ r h => by simp [aC.j0] at h, fun _ _ _ _ _ _ _ _ _ r h => by simp [aC.j1] at h, fun _ _ _ _ _ _ _ _ _ r h => by simp [aC.j2] at h, fun _ _ _ _ _ _ _ _ _ r h => by simp [aC.j3] at h⟩
 |k + 1 => by
  obtain ⟨ih0, ih1, ih2, ih3⟩ := aC.eX k
  refine ⟨?_, ?_, ?_, ?_⟩
  ·intro y0 y1 y2 y3 y4 y5 y6
   unfold aC.j0
   repeat' first
   |(with_reducible first|exact ih0 _ _ _ _ _ _ _|exact ih1 _ _ _ _ _ _ _ _ _|exact ih2 _ _ _ _ _ _ _ _ _|exact ih3 _ _ _ _ _ _ _ _ _|exact bits_Len.mono _ _|exact dH.mono _ _ _ _|exact cO.mono _ _ _ _|exact LeO.refl _|exact LeO.none _|refine LeO.ite ?_ ?_|refine LeO.bind ?_ (fun _ => ?_))
   |exact ih0 _ _ _ _ _ _ _
   |exact ih1 _ _ _ _ _ _ _ _ _
   |exact ih2 _ _ _ _ _ _ _ _ _
   |exact ih3 _ _ _ _ _ _ _ _ _
   |exact bits_Len.mono _ _
   |exact dH.mono _ _ _ _
   |exact cO.mono _ _ _ _
   |exact LeO.none _
   |refine LeO.ite ?_ ?_
   |refine LeO.bind ?_ (fun _ => ?_)
  ·intro y0 y1 y2 y3 y4 y5 y6 y7 y8
   unfold aC.j1
   repeat' first
   |(with_reducible first|exact ih0 _ _ _ _ _ _ _|exact ih1 _ _ _ _ _ _ _ _ _|exact ih2 _ _ _ _ _ _ _ _ _|exact ih3 _ _ _ _ _ _ _ _ _|exact bits_Len.mono _ _|exact dH.mono _ _ _ _|exact cO.mono _ _ _ _|exact LeO.refl _|exact LeO.none _|refine LeO.ite ?_ ?_|refine LeO.bind ?_ (fun _ => ?_))
   |exact ih0 _ _ _ _ _ _ _
   |exact ih1 _ _ _ _ _ _ _ _ _
   |exact ih2 _ _ _ _ _ _ _ _ _
   |exact ih3 _ _ _ _ _ _ _ _ _
   |exact bits_Len.mono _ _
   |exact dH.mono _ _ _ _
   |exact cO.mono _ _ _ _
   |exact LeO.none _
   |refine LeO.ite ?_ ?_
   |refine LeO.bind ?_ (fun _ => ?_)
  ·intro y0 y1 y2 y3 y4 y5 y6 y7 y8
   unfold aC.j2
   repeat' first
   |(with_reducible first|exact ih0 _ _ _ _ _ _ _|exact ih1 _ _ _ _ _ _ _ _ _|exact ih2 _ _ _ _ _ _ _ _ _|exact ih3 _ _ _ _ _ _ _ _ _|exact bits_Len.mono _ _|exact dH.mono _ _ _ _|exact cO.mono _ _ _ _|exact LeO.refl _|exact LeO.none _|refine LeO.ite ?_ ?_|refine LeO.bind ?_ (fun _ => ?_))
   |exact ih0 _ _ _ _ _ _ _
   |exact ih1 _ _ _ _ _ _ _ _ _
   |exact ih2 _ _ _ _ _ _ _ _ _
   |exact ih3 _ _ _ _ _ _ _ _ _
   |exact bits_Len.mono _ _
   |exact dH.mono _ _ _ _
   |exact cO.mono _ _ _ _
   |exact LeO.none _
   |refine LeO.ite ?_ ?_
   |refine LeO.bind ?_ (fun _ => ?_)
  ·intro y0 y1 y2 y3 y4 y5 y6 y7 y8
   unfold aC.j3
   repeat' first
   |(with_reducible first|exact ih0 _ _ _ _ _ _ _|exact ih1 _ _ _ _ _ _ _ _ _|exact ih2 _ _ _ _ _ _ _ _ _|exact ih3 _ _ _ _ _ _ _ _ _|exact bits_Len.mono _ _|exact dH.mono _ _ _ _|exact cO.mono _ _ _ _|exact LeO.refl _|exact LeO.none _|refine LeO.ite ?_ ?_|refine LeO.bind ?_ (fun _ => ?_))
   |exact ih0 _ _ _ _ _ _ _
   |exact ih1 _ _ _ _ _ _ _ _ _
   |exact ih2 _ _ _ _ _ _ _ _ _
   |exact ih3 _ _ _ _ _ _ _ _ _
   |exact bits_Len.mono _ _
   |exact dH.mono _ _ _ _
   |exact cO.mono _ _ _ _
   |exact LeO.none _
   |refine LeO.ite ?_ ?_
   |refine LeO.bind ?_ (fun _ => ?_)
theorem aC.mono : ∀ a0 a1 a2 a3 a4 a5 k, LeO (aC.f k a0 a1 a2 a3 a4 a5) (aC.f (k + 1) a0 a1 a2 a3 a4 a5) := by
 intro a0 a1 a2 a3 a4 a5 k
 obtain ⟨ih0, ih1, ih2, ih3⟩ := aC.eX k
 unfold aC.f
 repeat' first
   |(with_reducible first|exact ih0 _ _ _ _ _ _ _|exact ih1 _ _ _ _ _ _ _ _ _|exact ih2 _ _ _ _ _ _ _ _ _|exact ih3 _ _ _ _ _ _ _ _ _|exact bits_Len.mono _ _|exact dH.mono _ _ _ _|exact cO.mono _ _ _ _|exact LeO.refl _|exact LeO.none _|refine LeO.ite ?_ ?_|refine LeO.bind ?_ (fun _ => ?_))
   |exact ih0 _ _ _ _ _ _ _
   |exact ih1 _ _ _ _ _ _ _ _ _
   |exact ih2 _ _ _ _ _ _ _ _ _
   |exact ih3 _ _ _ _ _ _ _ _ _
   |exact bits_Len.mono _ _
   |exact dH.mono _ _ _ _
   |exact cO.mono _ _ _ _
   |exact LeO.none _
   |refine LeO.ite ?_ ?_
   |refine LeO.bind ?_ (fun _ => ?_)

end Go.Proofs.YtolpdiifmacdbaaGreat.P

/- What the program's rounding computes, as plain numbers. -/
namespace Go.Proofs.YtolpdiifmacdbaaGreat.Round
open Go.RowKit Go.Proofs.YtolpdiifmacdbaaGreat.P Go.Proofs.YtolpdiifmacdbaaGreat.Num Go.Proofs.YtolpdiifmacdbaaGreat.BitsF Go.Proofs.YtolpdiifmacdbaaGreat.Fmt Go.Proofs.YtolpdiifmacdbaaGreatW.PrintWords Go.Proofs.YtolpdiifmacdbaaGreatW.PrintLast Go.Proofs.YtolpdiifmacdbaaGreatW.PrintMore

def iF (s : Nat) (d : Int) : Nat := if d ≤ 0 then s * 2 ^ (-d).toNat else s / 2 ^ d.toNat
def fJ (s : Nat) (d : Int) (more : Bool) : Nat :=
 if d ≤ 0 ∨ s % 2 ^ d.toNat = 0 then (if more then 1 else 0)
 else if s / 2 ^ (d.toNat - 1) % 2 = 0 then 1 else if s % 2 ^ (d.toNat - 1) ≠ 0 ∨ more = true then 3 else 2
def upN (mode : Int) (neg : Bool) (q left : Nat) : Bool :=
 if mode = 1 then false else if mode = 2 then (!neg && decide (left ≠ 0)) else if mode = 3 then (neg && decide (left ≠ 0))
 else if mode = 4 then decide (2 ≤ left) else (decide (left = 3) || (decide (left = 2) && decide (q % 2 = 1)))
def gQ (f x : Int) (s : Nat) : Nat := if s = 0 then 0 else (x + fT s - 1 - dM f).toNat
def dP (f x : Int) (s : Nat) : Int := dM f - fm f + gQ f x s
def sZ (f mode : Int) (neg : Bool) (x : Int) (s : Nat) (more : Bool) : Nat :=
 gQ f x s * 2 ^ fm f + iF s (dP f x s - x) + (if upN mode neg (iF s (dP f x s - x)) (fJ s (dP f x s - x) more) then 1 else 0)
def iQ (f : Int) (k : Nat) : Bool := decide (gF f * 2 ^ fm f ≤ k)
def iX (mode : Int) (neg : Bool) : Bool := if mode = 1 then false else if mode = 2 then !neg else if mode = 3 then neg else true
def kF (f x : Int) (s : Nat) (more : Bool) : Bool := decide (fJ s (dP f x s - x) more ≠ 0)
def lH (f x : Int) (s : Nat) (more : Bool) : Bool := kF f x s more && (decide (s = 0) || decide (x + fT s - 1 < dM f))
def gD (f mode : Int) (neg : Bool) (x : Int) (s : Nat) (more : Bool) : Nat :=
 (if iQ f (sZ f mode neg x s more) then (if iX mode neg then gF f * 2 ^ fm f else gF f * 2 ^ fm f - 1) else sZ f mode neg x s more) + eQ f neg
def kY (f mode : Int) (neg : Bool) (x : Int) (s : Nat) (more : Bool) : Bool × Bool × Bool :=
 if iQ f (sZ f mode neg x s more) then (true, false, true) else (false, lH f x s more, kF f x s more)
def jX (x : Int) : Int := mn (mx x (-10000)) 10000
theorem nP (x : Int) : -10000 ≤ jX x ∧ jX x ≤ 10000 := by
 unfold jX mn mx; split <;> split <;> omega
theorem iP (x : Int) (h : -10000 ≤ x) (h' : x ≤ 10000) : jX x = x := by
 unfold jX mn mx; split <;> split <;> omega

theorem unit_f (k : Nat) (f x : Int) (s : Nat) (hs : s < 18446744073709551616) (h1 : -10000 ≤ x) (h2 : x ≤ 10000) : dH.f (k + 1) f x (s : Int) = some (dP f x s) := by
 unfold dH.f dP gQ
 obtain ⟨b1, b2, b3, b4, b5⟩ := dS f
 have hl := gH f
 have hn := mJ s hs
 simp only [iL, oL, Option.bind_some]
 by_cases c : s = 0
 ·subst c
  rw [if_neg (by decide), if_pos rfl, bS _ (by omega) (by omega)]; simp
 ·rw [if_pos (by omega), if_neg c, len_f k s hs]
  simp only [Option.bind_some]
  rw [bS (x + _) (by omega) (by omega), bS (x + _ - 1) (by omega) (by omega)]
  unfold mx
  split
  ·rw [bS _ (by omega) (by omega)]; congr 1; omega
  ·rw [bS _ (by omega) (by omega)]; congr 1; omega
theorem quo_lt (s : Nat) (d : Int) (h : d ≤ 0) (h' : s * 2 ^ (-d).toNat < 18446744073709551616) : s * 2 ^ (-d).toNat % 18446744073709551616 = iF s d := by
 unfold iF; rw [if_pos h, Nat.mod_eq_of_lt h']
theorem wD (s : Nat) (d : Int) (more : Bool) : fJ s d more ≤ 3 := by
 unfold fJ; split
 ·split <;> omega
 ·split
  ·omega
  ·split <;> omega
theorem zS (v : Nat) (n : Int) : (jY v n).1 = if 0 ≤ n then v / 2 ^ n.toNat else v * 2 ^ (-n).toNat % 18446744073709551616 := by
 unfold jY; split <;> rfl
theorem gW {s : Nat} {d : Int} (more : Bool) (h : d ≤ 0 ∨ s % 2 ^ d.toNat = 0) : fJ s d more = if more then 1 else 0 := by
 unfold fJ; rw [if_pos h]
theorem kQ {s : Nat} {d : Int} (more : Bool) (h : ¬ d ≤ 0) (h' : ¬ s % 2 ^ d.toNat = 0) :
  fJ s d more = if s / 2 ^ (d.toNat - 1) % 2 = 0 then 1 else if s % 2 ^ (d.toNat - 1) ≠ 0 ∨ more = true then 3 else 2 := by
 unfold fJ; rw [if_neg (not_or.mpr ⟨h, h'⟩)]
theorem units_f (k s : Nat) (hs : s < 18446744073709551616) (d : Int) (h1 : -100000 ≤ d) (h2 : d ≤ 100000) (more : Bool) (hq : d ≤ 0 → s * 2 ^ (-d).toNat < 18446744073709551616) :
  cO.f (k + 1) (s : Int) d more = some ((iF s d : Int), (fJ s d more : Int)) := by
 unfold cO.f
 by_cases c : d ≤ 0
 ·rw [if_pos c, tY s hs d (by omega) (by omega)]
  have e : (jY s d).1 = iF s d := by
   rw [zS]
   by_cases c0 : 0 ≤ d
   ·obtain rfl : d = 0 := by omega
    unfold iF; simp
   ·rw [if_neg c0]; exact quo_lt s d c (hq c)
  simp only [Option.bind_some, e]
  rw [gW more (.inl c)]
  cases more <;> rfl
 ·rw [if_neg c]
  obtain ⟨m, rfl⟩ := kH (show 0 ≤ d by omega)
  have hm : (m : Int) - 1 = ((m - 1 : Nat) : Int) := by omega
  rw [tY s hs _ (by omega) (by omega), bS _ (by omega) (by omega), hm, tY s hs _ (by omega) (by omega)]
  simp only [Option.bind_some, iH]
  have hqe : iF s (m : Int) = s / 2 ^ m := by unfold iF; rw [if_neg c, Int.toNat_natCast]
  have hd : s / 2 ^ (m - 1) < 18446744073709551616 := Nat.lt_of_le_of_lt (Nat.div_le_self _ _) hs
  rw [hqe]
  by_cases z : s % 2 ^ m = 0
  ·have hl : fJ s (m : Int) more = if more then 1 else 0 := gW more (.inr (by rw [Int.toNat_natCast]; exact z))
   rw [hl, if_neg (by simp [z])]
   cases more <;> rfl
  ·have hl : fJ s (m : Int) more = _ := kQ more c (by rw [Int.toNat_natCast]; exact z)
   rw [Int.toNat_natCast] at hl
   rw [hl, if_pos (by simp [z]), nK _ hd]
   by_cases y : s / 2 ^ (m - 1) % 2 = 0
   ·simp only [y, if_true, Int.natCast_zero]; rfl
   ·simp only [y, if_false]
    rw [if_neg (by omega)]
    by_cases w : s % 2 ^ (m - 1) = 0
    ·simp only [w, ne_eq, not_true_eq_false, decide_false, Bool.false_eq_true, if_false, false_or]
     cases more <;> rfl
    ·simp only [w, ne_eq, not_false_eq_true, decide_true, if_true, true_or]; rfl
theorem up_f (mode : Int) (neg : Bool) (q left : Nat) (hq : q < 18446744073709551616) : gP.f mode neg (q : Int) (left : Int) = some (upN mode neg q left) := by
 unfold gP.f upN
 have eb : (((left : Int) != 0) : Bool) = decide (left ≠ 0) := by rw [show (0 : Int) = ((0 : Nat) : Int) from rfl, bne_cast]
 have e1 : ((Go.bits .and .u64 (q : Int) 1 == 1) : Bool) = decide (q % 2 = 1) := by
  rw [nK q hq, show (1 : Int) = ((1 : Nat) : Int) from rfl]
  by_cases h : q % 2 = 1
  ·rw [h]; rfl
  ·rw [decide_eq_false h, beq_eq_false_iff_ne]; omega
 rw [eb, e1]
 by_cases m1 : mode = 1
 ·rw [if_pos m1, if_pos m1]
 ·rw [if_neg m1, if_neg m1]
  by_cases m2 : mode = 2
  ·rw [if_pos m2, if_pos m2]; cases neg <;> simp
  ·rw [if_neg m2, if_neg m2]
   by_cases m3 : mode = 3
   ·rw [if_pos m3, if_pos m3]; cases neg <;> simp
   ·rw [if_neg m3, if_neg m3]
    by_cases m4 : mode = 4
    ·rw [if_pos m4, if_pos m4]; congr 1; apply decide_eq_decide.mpr; omega
    ·rw [if_neg m4, if_neg m4]
     by_cases l3 : left = 3
     ·subst l3; rfl
     ·rw [if_neg (by omega), decide_eq_false l3, Bool.false_or]
      by_cases l2 : left = 2
      ·subst l2; simp
      ·rw [if_neg (by omega), decide_eq_false l2, Bool.false_and]
theorem beyond_f (f mode : Int) (neg : Bool) : bR.f f mode neg = some (((if iX mode neg then nD f neg else nS f neg : Nat) : Int), false, false, true, false, true) := by
 unfold bR.f iX
 simp only [zY, wE, Option.bind_some]
 by_cases m1 : mode = 1
 ·rw [if_pos m1, if_pos m1]; rfl
 ·rw [if_neg m1, if_neg m1]
  by_cases m2 : mode = 2
  ·rw [if_pos m2, if_pos m2]; cases neg <;> rfl
  ·rw [if_neg m2, if_neg m2]
   by_cases m3 : mode = 3
   ·rw [if_pos m3, if_pos m3]; cases neg <;> rfl
   ·rw [if_neg m3, if_neg m3]; rfl

theorem sJ (f x : Int) (s : Nat) : iF s (dP f x s - x) < 2 ^ (fm f + 1) ∧ (gQ f x s ≠ 0 → 2 ^ fm f ≤ iF s (dP f x s - x)) := by
 obtain ⟨b1, b2, b3, b4, b5⟩ := dS f
 by_cases c : s = 0
 ·subst c
  have : gQ f x 0 = 0 := by unfold gQ; rw [if_pos rfl]
  refine ⟨?_, fun h => absurd this h⟩
  have h0 := Nat.two_pow_pos (fm f + 1)
  unfold iF; split <;> simp [h0]
 ·have hlt := nA s
  have hle := qZ s c
  have hpos := mH s c
  have hr : gQ f x s = (x + fT s - 1 - dM f).toNat := by unfold gQ; rw [if_neg c]
  unfold dP iF
  generalize fT s = L at *
  by_cases d : dM f - (fm f : Int) + (gQ f x s : Int) - x ≤ 0
  ·rw [if_pos d]
   obtain ⟨j, hj⟩ := kH (show 0 ≤ -(dM f - (fm f : Int) + (gQ f x s : Int) - x) by omega)
   rw [hj, Int.toNat_natCast]
   have hjL : L + j ≤ fm f + 1 := by omega
   constructor
   ·calc s * 2 ^ j < 2 ^ L * 2 ^ j := Nat.mul_lt_mul_of_pos_right hlt (Nat.two_pow_pos _)
     _ = 2 ^ (L + j) := (Nat.pow_add ..).symm
     _ ≤ 2 ^ (fm f + 1) := Nat.pow_le_pow_right (by decide) hjL
   ·intro h
    calc 2 ^ fm f = 2 ^ (L - 1) * 2 ^ j := by rw [← Nat.pow_add]; congr 1; omega
     _ ≤ s * 2 ^ j := Nat.mul_le_mul_right _ hle
  ·rw [if_neg d]
   obtain ⟨j, hj⟩ := kH (show 0 ≤ dM f - (fm f : Int) + (gQ f x s : Int) - x by omega)
   rw [hj, Int.toNat_natCast]
   constructor
   ·rw [Nat.div_lt_iff_lt_mul (Nat.two_pow_pos _), ← Nat.pow_add]
    exact Nat.lt_of_lt_of_le hlt (Nat.pow_le_pow_right (by decide) (by omega))
   ·intro h
    rw [Nat.le_div_iff_mul_le (Nat.two_pow_pos _), ← Nat.pow_add]
    exact Nat.le_trans (Nat.pow_le_pow_right (by decide) (by omega)) hle
theorem qG (f x : Int) (s : Nat) (hs : s < 18446744073709551616) (h1 : -10000 ≤ x) (h2 : x ≤ 10000) : -200 ≤ dP f x s ∧ dP f x s ≤ 10100 ∧ gQ f x s ≤ 10200 := by
 obtain ⟨b1, b2, b3, b4, b5⟩ := dS f
 have hl := gH f
 have hn := mJ s hs
 unfold dP
 have hr : gQ f x s = 0 ∨ (gQ f x s : Int) = x + fT s - 1 - dM f := by
  unfold gQ; split
  ·left; rfl
  ·omega
 omega
theorem exc_cast (l : Nat) : (((l : Int) != 0) : Bool) = decide (l ≠ 0) := by rw [show (0 : Int) = ((0 : Nat) : Int) from rfl, bne_cast]

theorem xP (k : Nat) (f mode : Int) (neg : Bool) (x : Int) (s q l a : Nat) (hs : s < 18446744073709551616) (hq : q < 18446744073709551616) (h1 : -10000 ≤ x) (h2 : x ≤ 10000) (K : Nat)
  (hK : K = a * 2 ^ fm f + q % 2 ^ fm f) :
  aC.j3 (k + 2) f mode neg x (s : Int) (fm f : Int) (q : Int) (l : Int) (a : Int) = some
   ((((if iQ f K then (if iX mode neg then gF f * 2 ^ fm f else gF f * 2 ^ fm f - 1) else K) + eQ f neg : Nat) : Int), false, false,
    iQ f K, !iQ f K && (decide (l ≠ 0) && (decide (s = 0) || decide (x + fT s - 1 < dM f))), iQ f K || decide (l ≠ 0)) := by
 obtain ⟨b1, b2, b3, b4, b5⟩ := dS f
 have hp := Nat.two_pow_pos (fm f)
 have hm : q % 2 ^ fm f < 2 ^ fm f := Nat.mod_lt _ hp
 have h31 := dZ (show fm f ≤ 31 by omega)
 have ho : (a : Int) ≥ (gF f : Int) ↔ iQ f K = true := by
  unfold iQ
  rw [decide_eq_true_iff, hK]
  constructor
  ·intro h
   have : gF f * 2 ^ fm f ≤ a * 2 ^ fm f := Nat.mul_le_mul_right _ (by omega)
   omega
  ·intro h
   rcases Nat.lt_or_ge a (gF f) with c | c
   ·have : (a + 1) * 2 ^ fm f ≤ gF f * 2 ^ fm f := Nat.mul_le_mul_right _ c
    rw [Nat.add_mul, Nat.one_mul] at this; omega
   ·omega
 rw [aC.j3, xK]
 simp only [Option.bind_some]
 by_cases c : (a : Int) ≥ (gF f : Int)
 ·rw [if_pos c, beyond_f, ho.mp c]
  simp only [Option.bind_some, if_true, Bool.not_true, Bool.false_and, Bool.true_or]
  congr 2
  unfold nD nS
  split <;> rfl
 ·rw [if_neg c]
  have co : iQ f K = false := by simpa using fun h => c (ho.mpr h)
  have ec : fG.f (q : Int) (fm f : Int) = some ((q % 2 ^ fm f : Nat) : Int) := by
   rw [cut_f q hq _ (by omega)]; unfold cutN; rw [if_neg (by omega), Int.toNat_natCast]
  have ej : bX.f f neg (a : Int) (((q % 2 ^ fm f : Nat) : Int) % 4294967296) = some ((K + eQ f neg : Nat) : Int) := by
   rw [show ((q % 2 ^ fm f : Nat) : Int) % 4294967296 = ((q % 2 ^ fm f : Nat) : Int) by omega, vO f neg _ _ (by omega) hm, hK]; rfl
  rw [co, ec]
  simp only [Option.bind_some, ej, Bool.false_eq_true, if_false, Bool.not_false, Bool.true_and, Bool.false_or, exc_cast]
  by_cases l0 : l = 0
  ·subst l0; simp
  ·rw [if_neg (by omega)]
   by_cases s0 : s = 0
   ·subst s0; simp [l0]
   ·have hn := mJ s hs
    rw [if_neg (by omega), len_f (k) s hs, oL]
    simp only [Option.bind_some]
    rw [bS (x + _) (by omega) (by omega), bS _ (by omega) (by omega)]
    simp [l0, s0]
theorem pack_j1 (k : Nat) (f mode : Int) (neg : Bool) (x : Int) (s q l U : Nat) (hU : U ≤ 10200) (hs : s < 18446744073709551616) (hq : q ≤ 2 ^ (fm f + 1)) (hq' : U ≠ 0 → 2 ^ fm f ≤ q) (h1 : -10000 ≤ x) (h2 : x ≤ 10000) (K : Nat)
  (hK : K = U * 2 ^ fm f + q) :
  aC.j1 (k + 4) f mode neg x (s : Int) (fm f : Int) (dM f - fm f + U) (q : Int) (l : Int) = some
   ((((if iQ f K then (if iX mode neg then gF f * 2 ^ fm f else gF f * 2 ^ fm f - 1) else K) + eQ f neg : Nat) : Int), false, false,
    iQ f K, !iQ f K && (decide (l ≠ 0) && (decide (s = 0) || decide (x + fT s - 1 < dM f))), iQ f K || decide (l ≠ 0)) := by
 obtain ⟨b1, b2, b3, b4, b5⟩ := dS f
 have hl := gH f
 have hp := Nat.two_pow_pos (fm f)
 have h31 := dZ (show fm f + 1 ≤ 31 by omega)
 have hq64 : q < 18446744073709551616 := by omega
 have e1 : wrap64 ((fm f : Int) + 1) = ((fm f + 1 : Nat) : Int) := by rw [bS] <;> omega
 have hsucc : 2 ^ (fm f + 1) = 2 * 2 ^ fm f := by rw [Nat.pow_succ, Nat.mul_comm]
 rw [aC.j1, e1, fH _ (by omega), if_pos (by omega), mE _ _ hq64]
 by_cases c : q = 2 ^ (fm f + 1)
 ·have hd : q / 2 ^ (fm f + 1) = 1 := by rw [c, Nat.div_self (by omega)]
  rw [hd, if_neg (by decide), bS _ (by omega) (by omega), show (q : Int) / 2 = ((2 ^ fm f : Nat) : Int) by omega, aC.j2, oL]
  simp only [Option.bind_some]
  rw [fH _ (by omega), if_pos (by omega), mE _ _ (by omega), Nat.div_self hp, if_neg (by decide)]
  rw [show dM f - (fm f : Int) + (U : Int) + 1 + (fm f : Int) = dM f + (U : Int) + 1 by omega, bS (dM f + (U : Int) + 1) (by omega) (by omega), bS (dM f + (U : Int) + 1 - dM f) (by omega) (by omega), bS _ (by omega) (by omega), show dM f + (U : Int) + 1 - dM f + 1 = ((U + 2 : Nat) : Int) by omega]
  exact xP k f mode neg x s _ l (U + 2) hs (by omega) h1 h2 K (by rw [hK, c, hsucc, Nat.mod_self, Nat.add_mul]; omega)
 ·have hd : q / 2 ^ (fm f + 1) = 0 := Nat.div_eq_of_lt (by omega)
  rw [hd, if_pos (by decide), aC.j2, oL]
  simp only [Option.bind_some]
  rw [fH _ (by omega), if_pos (by omega), mE _ _ hq64]
  by_cases c2 : q < 2 ^ fm f
  ·have hU0 : U = 0 := by
    rcases Nat.eq_zero_or_pos U with h | h
    ·exact h
    ·have := hq' (by omega); omega
   subst hU0
   rw [Nat.div_eq_of_lt c2, if_pos (by decide)]
   have h := xP k f mode neg x s q l 0 hs hq64 h1 h2 K (by rw [hK, Nat.mod_eq_of_lt c2])
   rw [show ((0 : Nat) : Int) = 0 from rfl] at h
   exact h
  ·have hd1 : q / 2 ^ fm f = 1 := Nat.div_eq_of_lt_le (by omega) (by omega)
   rw [hd1, if_neg (by decide)]
   rw [show dM f - (fm f : Int) + (U : Int) + (fm f : Int) = dM f + (U : Int) by omega, bS (dM f + (U : Int)) (by omega) (by omega), bS (dM f + (U : Int) - dM f) (by omega) (by omega), bS _ (by omega) (by omega), show dM f + (U : Int) - dM f + 1 = ((U + 1 : Nat) : Int) by omega]
   have hm1 : q % 2 ^ fm f = q - 2 ^ fm f := by
    have := Nat.div_add_mod q (2 ^ fm f)
    rw [hd1, Nat.mul_one] at this; omega
   exact xP k f mode neg x s q l (U + 1) hs hq64 h1 h2 K (by rw [hK, hm1, Nat.add_mul]; omega)
theorem pack_f (k : Nat) (f mode : Int) (neg : Bool) (x : Int) (s : Nat) (more : Bool) (hs : s < 18446744073709551616) :
  aC.f (k + 5) f mode neg x (s : Int) more = some ((gD f mode neg (jX x) s more : Int), false, false, kY f mode neg (jX x) s more) := by
 unfold aC.f
 have hc : mn (mx x (-10000)) 10000 = jX x := rfl
 obtain ⟨h1, h2⟩ := nP x
 rw [hc]
 generalize jX x = x at *
 by_cases z : s = 0 ∧ more = false
 ·obtain ⟨rfl, rfl⟩ := z
  rw [if_pos (by decide), aC.j0]
  simp only [Bool.not_false, if_true]
  rw [sV]
  have hk : sZ f mode neg x 0 false = 0 := by
   unfold sZ
   have hr : gQ f x 0 = 0 := by unfold gQ; rw [if_pos rfl]
   have hq : iF 0 (dP f x 0 - x) = 0 := by unfold iF; split <;> simp
   have hl : fJ 0 (dP f x 0 - x) false = 0 := by rw [gW _ (.inr (by simp))]; rfl
   rw [hr, hq, hl]
   have : upN mode neg 0 0 = false := by unfold upN; simp
   rw [this]; simp
  have hl : fJ 0 (dP f x 0 - x) false = 0 := by rw [gW _ (.inr (by simp))]; rfl
  have ho : iQ f 0 = false := by
   unfold iQ
   have := gJ f
   have := Nat.two_pow_pos (fm f)
   rw [decide_eq_false_iff_not]
   have : 0 < gF f * 2 ^ fm f := Nat.mul_pos (by omega) (by omega)
   omega
  unfold gD kY lH kF
  rw [hk, ho, hl]; simp
 ·have hj : (if (s : Int) = 0 then aC.j0 (k + 5) f mode neg x (s : Int) more (!more) else aC.j0 (k + 5) f mode neg x (s : Int) more false) = aC.j0 (k + 5) f mode neg x (s : Int) more false := by
   by_cases c : (s : Int) = 0
   ·rw [if_pos c]
    cases more
    ·exact absurd ⟨by omega, rfl⟩ z
    ·rfl
   ·rw [if_neg c]
  rw [hj, aC.j0, if_neg (by decide), iL]
  obtain ⟨u1, u2, u3⟩ := qG f x s hs h1 h2
  obtain ⟨q1, q2⟩ := sJ f x s
  obtain ⟨b1, b2, b3, b4, b5⟩ := dS f
  have h31 := dZ (show fm f + 1 ≤ 31 by omega)
  have hll := wD s (dP f x s - x) more
  have hq64 : iF s (dP f x s - x) < 18446744073709551616 := by omega
  have hd : dP f x s - x ≤ 0 → s * 2 ^ (-(dP f x s - x)).toNat < 18446744073709551616 := by
   intro h; have := hq64; unfold iF at this; rw [if_pos h] at this; exact this
  simp only [Option.bind_some]
  rw [unit_f _ f x s hs h1 h2]
  simp only [Option.bind_some]
  rw [bS _ (by omega) (by omega), units_f _ s hs _ (by omega) (by omega) more hd]
  simp only [Option.bind_some]
  rw [up_f _ _ _ _ hq64]
  simp only [Option.bind_some]
  have hun : dP f x s = dM f - fm f + (gQ f x s : Nat) := rfl
  have key : ∀ up : Bool, aC.j1 (k + 4) f mode neg x (s : Int) (fm f : Int) (dP f x s) ((iF s (dP f x s - x) + (if up then 1 else 0) : Nat) : Int) (fJ s (dP f x s - x) more : Int) = _ :=
   fun up => pack_j1 k f mode neg x s _ _ (gQ f x s) u3 hs (by split <;> omega) (fun h => Nat.le_trans (q2 h) (Nat.le_add_right _ _)) h1 h2 _ rfl
  have res : ∀ up : Bool, up = upN mode neg (iF s (dP f x s - x)) (fJ s (dP f x s - x) more) → aC.j1 (k + 4) f mode neg x (s : Int) (fm f : Int) (dP f x s) ((iF s (dP f x s - x) + (if up then 1 else 0) : Nat) : Int) (fJ s (dP f x s - x) more : Int) = some ((gD f mode neg x s more : Int), false, false, kY f mode neg x s more) := by
   intro up hup
   rw [key up]
   subst hup
   unfold gD kY lH kF sZ
   rw [← Nat.add_assoc]
   by_cases o : iQ f (gQ f x s * 2 ^ fm f + iF s (dP f x s - x) + if upN mode neg (iF s (dP f x s - x)) (fJ s (dP f x s - x) more) = true then 1 else 0) = true
   ·rw [o]; simp
   ·rw [Bool.not_eq_true] at o; rw [o]; simp
  by_cases hu : upN mode neg (iF s (dP f x s - x)) (fJ s (dP f x s - x) more) = true
  ·rw [if_pos hu]
   have h := res true hu.symm
   rw [if_pos rfl] at h
   rw [show ((iF s (dP f x s - x) : Nat) : Int) + 1 = ((iF s (dP f x s - x) + 1 : Nat) : Int) by omega, fH _ (by omega)]
   exact h
  ·rw [if_neg hu]
   rw [Bool.not_eq_true] at hu
   have h := res false hu.symm
   rw [if_neg (by decide), Nat.add_zero] at h
   exact h
/- What is a number already is rounded to it; a greater number isn't rounded to a lesser one: of the plain numbers that the rounding computes. -/

theorem jE (f : Int) (v : Nat) : bZ f v < 2 ^ (fm f + 1) := by
 have hf := qF f v
 have hs : 2 ^ (fm f + 1) = 2 * 2 ^ fm f := by rw [Nat.pow_succ, Nat.mul_comm]
 unfold bZ; split <;> omega

def uE (r h : Nat) (more : Bool) : Nat := if r < h then (if r = 0 ∧ more = false then 0 else 1) else if r = h ∧ more = false then 2 else 3
theorem nN (s : Nat) (d : Int) (more : Bool) (hd : ¬ d ≤ 0) : fJ s d more = uE (s % 2 ^ d.toNat) (2 ^ (d.toNat - 1)) more := by
 obtain ⟨m, hm⟩ : ∃ m, d.toNat = m + 1 := ⟨d.toNat - 1, by omega⟩
 have hh := Nat.two_pow_pos m
 have hs : 2 ^ (m + 1) = 2 ^ m * 2 := Nat.pow_succ ..
 have h1 := Nat.mod_lt s (Nat.two_pow_pos (m + 1))
 have h3 : s / 2 ^ m = (s / 2 ^ (m + 1)) * 2 + (s % 2 ^ (m + 1)) / 2 ^ m := by
  have h2 := Nat.div_add_mod s (2 ^ (m + 1))
  rw [hs] at h2 ⊢
  have e : s = 2 ^ m * (s / (2 ^ m * 2) * 2) + s % (2 ^ m * 2) := by
   rw [← Nat.mul_assoc, Nat.mul_right_comm]; exact h2.symm
  exact (congrArg (· / 2 ^ m) e).trans (Nat.mul_add_div hh _ _)
 have h4 : s % 2 ^ m = s % 2 ^ (m + 1) % 2 ^ m := by rw [hs, Nat.mod_mul_right_mod]
 have hz : ¬ s % 2 ^ (m + 1) = 0 → fJ s d more = if s / 2 ^ m % 2 = 0 then 1 else if s % 2 ^ m ≠ 0 ∨ more = true then 3 else 2 := by
  intro h'
  have := kQ more hd (by rw [hm]; exact h')
  rw [hm, Nat.add_sub_cancel] at this; exact this
 rw [hm, Nat.add_sub_cancel]
 by_cases c : s % 2 ^ (m + 1) = 0
 ·rw [gW _ (.inr (by rw [hm]; exact c)), c]
  unfold uE
  rw [if_pos hh]
  cases more <;> simp
 ·rw [hz c, h3, h4]
  generalize s % 2 ^ (m + 1) = r at *
  unfold uE
  by_cases lt : r < 2 ^ m
  ·rw [if_pos lt, Nat.div_eq_of_lt lt, if_pos (by omega), if_neg (by omega)]
  ·have e1 : r / 2 ^ m = 1 := Nat.div_eq_of_lt_le (by omega) (by omega)
   have e2 : r % 2 ^ m = r - 2 ^ m := by rw [Nat.mod_eq_sub_mod (by omega), Nat.mod_eq_of_lt (by omega)]
   rw [if_neg lt, e1, e2, if_neg (by omega)]
   by_cases e3 : r = 2 ^ m
   ·subst e3; cases more <;> simp
   ·rw [if_pos (.inl (by omega)), if_neg (by omega)]
end Go.Proofs.YtolpdiifmacdbaaGreat.Round

-- Printed by a program of this session's out of Lean's print of the translation; Lean checks it.
namespace Go.Proofs.YtolpdiifmacdbaaGreat.P
open Go.RowKit Go.Proofs.YtolpdiifmacdbaaGreatW.PrintWords Go.Proofs.YtolpdiifmacdbaaGreatW.PrintLast Go.Proofs.YtolpdiifmacdbaaGreatW.PrintMore
attribute [local go_sem] max2_int min2_int max_two min_two max_three min_three max_four min_four

-- NOT PRINTED: function 66 (clip_Clip_1)

-- NEED 0
/-! ### format_IsNan: function 176 -/
-- NEED 0
/-! ### format_Mask: function 174 -/
-- NEED 0
/-! ### format_Turn: function 160 -/
-- NEED 0
/-! ### order_Key: function 177 -/
end Go.Proofs.YtolpdiifmacdbaaGreat.P

/- Which numbers are none, infinite, nought; bits of a format alone: the program's, as plain numbers. -/
namespace Go.Proofs.YtolpdiifmacdbaaGreat.Round
open Go.RowKit Go.Proofs.YtolpdiifmacdbaaGreat.P Go.Proofs.YtolpdiifmacdbaaGreat.Num Go.Proofs.YtolpdiifmacdbaaGreat.BitsF Go.Proofs.YtolpdiifmacdbaaGreat.Fmt Go.Proofs.YtolpdiifmacdbaaGreatW.PrintWords Go.Proofs.YtolpdiifmacdbaaGreatW.PrintLast Go.Proofs.YtolpdiifmacdbaaGreatW.PrintMore

theorem pY (f : Int) (v : Nat) (hv : v < 4294967296) : Ev (fun k => bH.f k f (v : Int)) (decide (dA f v = 0)) := by
 refine Ev.congr (fun k => by unfold bH.f; rfl) (Ev.bind (nH f v hv) (Ev.congr (fun k => ?_) (Ev.now _)))
 rw [show (0 : Int) = ((0 : Nat) : Int) from rfl, l9]
theorem iM (f : Int) (v : Nat) (hv : v < 4294967296) : Ev (fun k => aV.f k f (v : Int)) (decide (dA f v = 3)) := by
 refine Ev.congr (fun k => by unfold aV.f; rfl) (Ev.bind (nH f v hv) (Ev.congr (fun k => ?_) (Ev.now _)))
 rw [show (3 : Int) = ((3 : Nat) : Int) from rfl, l9]
theorem jS (f : Int) (L : List Int) (i v : Nat) (b c : Bool) (r : Int × Bool × Bool × Bool × Bool × Bool × Bool) (hi : i < L.length) (hn : L.length ≤ 100) (hv : v < 4294967296) (hr : rd L (i : Int) = (v : Int))
  (h : Ev (fun k => bJ.l0 k f (b || fE f v) L (L.length : Int) ((i + 1 : Nat) : Int) (c || fM f v) false false false false) r) : Ev (fun k => bJ.l0 k f b L (L.length : Int) (i : Int) c false false false false) r := by
 have hw : wrap64 ((i : Int) + 1) = ((i + 1 : Nat) : Int) := by rw [bS _ (by omega) (by omega)]; omega
 refine Ev.step (fun k => by rw [bJ.l0, if_pos (by omega), if_pos (Int.natCast_nonneg _), if_pos (by omega), hr, hw]) (Ev.bind (nH f v hv) (Ev.congr (fun k => ?_) h))
 have e5 : (((dA f v : Nat) : Int) == 5) = fM f v := by rw [show (5 : Int) = ((5 : Nat) : Int) from rfl, l9]; rfl
 have e4 : decide (((dA f v : Nat) : Int) ≥ 4) = fE f v := by unfold fE; apply decide_eq_decide.mpr; omega
 rw [e5, e4]
 cases b <;> cases c <;> simp
theorem qY (f : Int) (L : List Int) (b c : Bool) : Ev (fun k => bJ.l0 k f b L (L.length : Int) (L.length : Int) c false false false false) ((rO f : Int), c, false, false, false, false, b) :=
 Ev.step (fun k => by rw [bJ.l0, if_neg (by omega), nan_f]; rfl) (Ev.now _)
theorem aAY (f : Int) (v : Nat) (hv : v < 4294967296) : Ev (fun k => bJ.f k f [(v : Int)]) ((rO f : Int), fM f v, false, false, false, false, fE f v) := by
 refine Ev.congr (fun k => by unfold bJ.f; rfl) (jS f _ 0 v false false _ (by simp) (by simp) hv rfl ?_)
 rw [Bool.false_or, Bool.false_or]
 exact qY f [(v : Int)] _ _
theorem uW (f : Int) (a b : Nat) (ha : a < 4294967296) (hb : b < 4294967296) : Ev (fun k => bJ.f k f [(a : Int), (b : Int)]) ((rO f : Int), fM f a || fM f b, false, false, false, false, fE f a || fE f b) := by
 refine Ev.congr (fun k => by unfold bJ.f; rfl) (jS f _ 0 a false false _ (by simp) (by simp) ha rfl (jS f _ 1 b _ _ _ (by simp) (by simp) hb rfl ?_))
 rw [Bool.false_or, Bool.false_or]
 exact qY f [(a : Int), (b : Int)] _ _
theorem p8 (f : Int) (v : Nat) (h : dA f v = 0) : lM f v = eQ f (dU f v) ∧ bZ f v = 0 := by
 have hz : lK f v = 0 ∧ jP f v = 0 := by
  unfold dA at h
  by_cases c : lK f v = 0
  ·rw [if_pos c] at h
   by_cases d : jP f v = 0
   ·exact ⟨c, d⟩
   ·rw [if_neg d] at h; omega
  ·rw [if_neg c] at h
   split at h
   ·omega
   ·split at h
    ·omega
    ·split at h <;> omega
 have hp := vL f v
 rw [oF, pV, tZ, hz.1, hz.2] at hp
 refine ⟨by omega, ?_⟩
 unfold bZ; rw [if_pos hz.1, hz.2]
theorem aAr (f : Int) (v : Nat) (h : dA f v = 3) : lM f v = nD f (dU f v) := by
 have hz : lK f v = gF f ∧ jP f v = 0 := by
  have he := yB f v
  unfold dA at h
  by_cases c : lK f v = 0
  ·rw [if_pos c] at h
   split at h <;> omega
  ·rw [if_neg c] at h
   by_cases d : lK f v < gF f
   ·rw [if_pos d] at h; omega
   ·rw [if_neg d] at h
    by_cases z : jP f v = 0
    ·exact ⟨by omega, z⟩
    ·rw [if_neg z] at h; split at h <;> omega
 have hp := vL f v
 rw [oF, pV, tZ, hz.1, hz.2] at hp
 unfold nD; omega
theorem uH (f : Int) (v : Nat) : bZ f v < 18446744073709551616 := by
 have h := dS f
 have h1 := jE f v
 have h2 := dZ (show fm f + 1 ≤ 31 by omega)
 omega
theorem eZ (f : Int) (v : Nat) : -200 ≤ bT f v ∧ bT f v ≤ 300 := by
 have := gH f; have := gJ f; have := dS f; have := yB f v
 unfold bT; omega
theorem jK (f : Int) (v : Nat) (h : dA f v < 3) : lK f v < gF f := (oV f v).mp h
/- Sums to all bits that rounding asks for: plain numbers alone. -/

def jI (s : Nat) : Nat := 62 - fT s
def gB (na : Bool) (Ea : Int) (A : Nat) (nb : Bool) (Eb : Int) (B : Nat) : Bool × Int × Nat × Bool :=
 if na = nb then (na, Ea, A + B / 2 ^ (Ea - Eb).toNat, decide (B % 2 ^ (Ea - Eb).toNat ≠ 0))
 else (na, Ea, A - B / 2 ^ (Ea - Eb).toNat - (if B % 2 ^ (Ea - Eb).toNat ≠ 0 then 1 else 0), decide (B % 2 ^ (Ea - Eb).toNat ≠ 0))
def kV (n1 : Bool) (e1 : Int) (s1 : Nat) (n2 : Bool) (e2 : Int) (s2 : Nat) : Bool × Int × Nat × Bool :=
 if s1 = 0 then (n2, e2, s2, false) else if s2 = 0 then (n1, e1, s1, false)
 else if e1 - (jI s1 : Int) < e2 - (jI s2 : Int) ∨ e1 - (jI s1 : Int) = e2 - (jI s2 : Int) ∧ s1 * 2 ^ jI s1 < s2 * 2 ^ jI s2 then gB n2 (e2 - (jI s2 : Int)) (s2 * 2 ^ jI s2) n1 (e1 - (jI s1 : Int)) (s1 * 2 ^ jI s1)
 else gB n1 (e1 - (jI s1 : Int)) (s1 * 2 ^ jI s1) n2 (e2 - (jI s2 : Int)) (s2 * 2 ^ jI s2)
theorem iY (s : Nat) (h : s ≠ 0) (h' : s < 4611686018427387904) : jI s ≤ 61 ∧ fT s + jI s = 62 ∧ 2305843009213693952 ≤ s * 2 ^ jI s ∧ s * 2 ^ jI s < 4611686018427387904 := by
 have h1 := fZ s 62 h'
 have h2 := mH s h
 have e : fT s + jI s = 62 := by unfold jI; omega
 have hp := Nat.two_pow_pos (jI s)
 have l1 := Nat.mul_le_mul_right (2 ^ jI s) (qZ s h)
 have l2 := Nat.mul_lt_mul_of_pos_right (nA s) hp
 rw [← Nat.pow_add, show fT s - 1 + jI s = 61 by omega] at l1
 rw [← Nat.pow_add, e] at l2
 exact ⟨by omega, e, l1, l2⟩
/- Sums, rounded: plain numbers alone. -/

def lW (f mode : Int) (a b : Bool) : Nat := if a = b then eQ f a else eQ f (decide (mode = 3))
def gN (f mode : Int) (a b : Bool) (r : Bool × Int × Nat × Bool) : Nat := if r.2.2 = (0, false) then lW f mode a b else gD f mode r.1 r.2.1 r.2.2.1 r.2.2.2
def iE (f mode : Int) (r : Bool × Int × Nat × Bool) : Bool × Bool × Bool := if r.2.2 = (0, false) then (false, false, false) else kY f mode r.1 r.2.1 r.2.2.1 r.2.2.2
/- Sums of which nothing is lost: plain numbers alone. -/

theorem qI (m E F : Int) (h1 : m ≤ E) (h2 : E ≤ F) : 2 ^ (F - m).toNat = 2 ^ (F - E).toNat * 2 ^ (E - m).toNat := by
 rw [← Nat.pow_add]; congr 1; omega
/- A rounding depends on the value alone: more bits of the same value make no difference. Quotients and roots to so many bits. Plain numbers alone. -/

theorem wZ (r h t P : Nat) (m : Bool) (ht : t < P) : uE (r * P + t) (h * P) m = uE r h (m || decide (t ≠ 0)) := by
 have h1 : r * P + t < h * P ↔ r < h := by
  constructor
  ·intro c; exact Nat.lt_of_mul_lt_mul_right (Nat.lt_of_le_of_lt (Nat.le_add_right _ _) c)
  ·intro c
   have := Nat.mul_le_mul_right P (show r + 1 ≤ h from c)
   rw [Nat.add_mul] at this; omega
 have h2 : r * P + t = h * P ↔ r = h ∧ t = 0 := by
  constructor
  ·intro c
   have a : ¬ r < h := fun l => by have := h1.mpr l; omega
   have b : ¬ h < r := fun l => by
    have := Nat.mul_le_mul_right P (show h + 1 ≤ r from l)
    rw [Nat.add_mul] at this; omega
   have e : r = h := by omega
   subst e; exact ⟨rfl, by omega⟩
  ·rintro ⟨rfl, rfl⟩; rfl
 have h3 : r * P + t = 0 ↔ r = 0 ∧ t = 0 := by
  constructor
  ·intro c
   have : r * P = 0 := by omega
   rw [Nat.mul_eq_zero] at this; omega
  ·rintro ⟨rfl, rfl⟩; simp
 unfold uE
 simp only [h1, h2, h3]
 by_cases c : t = 0
 ·subst c; simp
 ·simp [c]
theorem sW (s t j : Nat) (ht : t < 2 ^ j) (hs : s ≠ 0) : fT (s * 2 ^ j + t) = fT s + j := by
 have hp := Nat.two_pow_pos j
 have h1 : 2 ^ j ≤ s * 2 ^ j := Nat.le_mul_of_pos_left _ (by omega)
 have := lF (s * 2 ^ j + t) j (by omega)
 rw [Nat.mul_comm, Nat.mul_add_div hp, Nat.div_eq_of_lt ht, Nat.add_zero] at this
 rw [Nat.mul_comm s]; omega
theorem qN (s t j : Nat) (hs : s ≠ 0) : s * 2 ^ j + t ≠ 0 := by
 have h1 : 2 ^ j ≤ s * 2 ^ j := Nat.le_mul_of_pos_left _ (by omega)
 have hp := Nat.two_pow_pos j
 omega
theorem rE (f x : Int) (s t j : Nat) (ht : t < 2 ^ j) (hs : s ≠ 0) : gQ f x (s * 2 ^ j + t) = gQ f (x + j) s := by
 unfold gQ
 rw [if_neg (qN s t j hs), if_neg hs, sW s t j ht hs]
 congr 1; omega
theorem wY (f x : Int) (s t j : Nat) (ht : t < 2 ^ j) (hs : s ≠ 0) : dP f x (s * 2 ^ j + t) = dP f (x + j) s := by
 unfold dP; rw [rE f x s t j ht hs]
theorem sQ (f x : Int) (s : Nat) (hs : 2 ^ (fm f + 1) ≤ s) : 1 ≤ dP f x s - x ∧ s ≠ 0 := by
 have hl := lenN_ge s (fm f + 1) hs
 have hp := Nat.two_pow_pos (fm f + 1)
 have h0 : s ≠ 0 := by omega
 refine ⟨?_, h0⟩
 unfold dP gQ
 rw [if_neg h0]; omega
theorem xN (f x : Int) (s t j : Nat) (m : Bool) (ht : t < 2 ^ j) (hs : 2 ^ (fm f + 1) ≤ s) :
  iF (s * 2 ^ j + t) (dP f x (s * 2 ^ j + t) - x) = iF s (dP f (x + j) s - (x + j)) ∧
  fJ (s * 2 ^ j + t) (dP f x (s * 2 ^ j + t) - x) m = fJ s (dP f (x + j) s - (x + j)) (m || decide (t ≠ 0)) := by
 obtain ⟨hd, h0⟩ := sQ f (x + j) s hs
 rw [wY f x s t j ht h0]
 generalize dP f (x + j) s = U at *
 obtain ⟨d, e⟩ := kH (show 0 ≤ U - (x + j) by omega)
 rw [e] at hd ⊢
 rw [show U - x = ((d + j : Nat) : Int) by omega]
 have hp := Nat.two_pow_pos j
 have hq : (s * 2 ^ j + t) / 2 ^ j = s := by rw [Nat.mul_comm, Nat.mul_add_div hp, Nat.div_eq_of_lt ht, Nat.add_zero]
 constructor
 ·unfold iF
  rw [if_neg (by omega), if_neg (by omega), Int.toNat_natCast, Int.toNat_natCast, Nat.add_comm d j, Nat.pow_add, ← Nat.div_div_eq_div_mul, hq]
 ·rw [nN _ _ _ (show ¬ ((d + j : Nat) : Int) ≤ 0 by omega), nN _ _ _ (show ¬ (d : Int) ≤ 0 by omega), Int.toNat_natCast, Int.toNat_natCast]
  have h1 : (s * 2 ^ j + t) % 2 ^ (d + j) = s % 2 ^ d * 2 ^ j + t := by
   rw [Nat.add_comm d j, Nat.pow_add, Nat.mod_mul, hq, Nat.mul_comm s, Nat.mul_add_mod, Nat.mod_eq_of_lt ht]
   rw [Nat.add_comm, Nat.mul_comm (2 ^ j)]
  have h2 : 2 ^ (d + j - 1) = 2 ^ (d - 1) * 2 ^ j := by rw [← Nat.pow_add]; congr 1; omega
  rw [h1, h2, wZ _ _ _ _ _ ht]
theorem kZ (f mode : Int) (neg : Bool) (x : Int) (s t j : Nat) (m : Bool) (ht : t < 2 ^ j) (hs : 2 ^ (fm f + 1) ≤ s) :
  gD f mode neg x (s * 2 ^ j + t) m = gD f mode neg (x + j) s (m || decide (t ≠ 0)) ∧ kY f mode neg x (s * 2 ^ j + t) m = kY f mode neg (x + j) s (m || decide (t ≠ 0)) := by
 obtain ⟨h1, h2⟩ := xN f x s t j m ht hs
 have h0 := (sQ f x s hs).2
 have h3 := rE f x s t j ht h0
 have hk : sZ f mode neg x (s * 2 ^ j + t) m = sZ f mode neg (x + j) s (m || decide (t ≠ 0)) := by unfold sZ; rw [h1, h2, h3]
 have hi : kF f x (s * 2 ^ j + t) m = kF f (x + j) s (m || decide (t ≠ 0)) := by unfold kF; rw [h2]
 have hu : lH f x (s * 2 ^ j + t) m = lH f (x + j) s (m || decide (t ≠ 0)) := by
  unfold lH
  rw [hi, sW s t j ht h0, decide_eq_false (qN s t j h0), decide_eq_false h0]
  congr 2; apply decide_eq_decide.mpr; omega
 unfold gD kY
 rw [hk, hi, hu]; exact ⟨rfl, rfl⟩
/- Amounts: what a number's bits without its sign stand for, in units of the least number; rounding depends on the amount alone. -/

def magN (f : Int) (v : Nat) : Nat := v % 2 ^ (fe f + fm f)
theorem zZ (r h j : Nat) : uE (r * 2 ^ j) (h * 2 ^ j) false = uE r h false := by
 have hp := Nat.two_pow_pos j
 unfold uE
 have h1 : r * 2 ^ j < h * 2 ^ j ↔ r < h := Nat.mul_lt_mul_right hp
 have h2 : r * 2 ^ j = 0 ↔ r = 0 := by rw [Nat.mul_eq_zero]; omega
 have h3 : r * 2 ^ j = h * 2 ^ j ↔ r = h := ⟨fun e => Nat.eq_of_mul_eq_mul_right hp e, fun e => by rw [e]⟩
 simp only [h1, h2, h3]
theorem mG (s : Nat) (d : Int) (h : d ≤ 0 ∨ s % 2 ^ d.toNat = 0) : fJ s d false = 0 := gW false h
theorem vQ (s j : Nat) (d : Int) : iF (s * 2 ^ j) d = iF s (d - j) ∧ fJ (s * 2 ^ j) d false = fJ s (d - j) false := by
 by_cases c : d ≤ 0
 ·rw [mG _ _ (.inl c), mG _ _ (.inl (by omega))]
  refine ⟨?_, rfl⟩
  unfold iF
  rw [if_pos c, if_pos (by omega), show (-(d - (j : Int))).toNat = j + (-d).toNat by omega, Nat.pow_add, Nat.mul_assoc]
 ·obtain ⟨n, rfl⟩ := kH (show 0 ≤ d by omega)
  by_cases c2 : (n : Int) - j ≤ 0
  ·obtain ⟨i, rfl⟩ : ∃ i, j = n + i := ⟨j - n, by omega⟩
   have e : s * 2 ^ (n + i) = s * 2 ^ i * 2 ^ n := by rw [Nat.add_comm, Nat.pow_add, Nat.mul_assoc]
   have hp := Nat.two_pow_pos n
   constructor
   ·unfold iF
    rw [if_neg c, if_pos c2, Int.toNat_natCast, e, Nat.mul_div_cancel _ hp, show (-((n : Int) - ((n + i : Nat) : Int))).toNat = i by omega]
   ·rw [mG _ _ (.inr (by rw [Int.toNat_natCast, e, Nat.mul_mod_left])), mG _ _ (.inl c2)]
  ·obtain ⟨i, rfl⟩ : ∃ i, n = i + j := ⟨n - j, by omega⟩
   have hp := Nat.two_pow_pos j
   have e : ((i + j : Nat) : Int) - (j : Int) = (i : Int) := by omega
   rw [e] at c2 ⊢
   have hi : i ≠ 0 := by omega
   constructor
   ·unfold iF
    rw [if_neg c, if_neg c2, Int.toNat_natCast, Int.toNat_natCast, Nat.pow_add, Nat.mul_div_mul_right _ _ hp]
   ·rw [nN _ _ _ c, nN _ _ _ c2, Int.toNat_natCast, Int.toNat_natCast, Nat.pow_add, Nat.mul_mod_mul_right, show i + j - 1 = i - 1 + j by omega, Nat.pow_add, zZ]
theorem sU (f x : Int) (s j : Nat) : gQ f x (s * 2 ^ j) = gQ f (x + j) s := by
 unfold gQ
 by_cases c : s = 0
 ·subst c; rw [Nat.zero_mul, if_pos rfl, if_pos rfl]
 ·rw [if_neg (Nat.mul_ne_zero c (Nat.ne_of_gt (Nat.two_pow_pos j))), if_neg c, uB s j c]
  congr 1; omega
theorem aAZ (f mode : Int) (neg : Bool) (x : Int) (s j : Nat) : sZ f mode neg x (s * 2 ^ j) false = sZ f mode neg (x + j) s false := by
 have hr := sU f x s j
 have hu : dP f x (s * 2 ^ j) = dP f (x + j) s := by unfold dP; rw [hr]
 obtain ⟨hq, hl⟩ := vQ s j (dP f (x + j) s - x)
 rw [show dP f (x + j) s - x - j = dP f (x + j) s - (x + j) by omega] at hq hl
 unfold sZ
 rw [hr, hu, hq, hl]
theorem vS (f : Int) (v : Nat) : magN f v / 2 ^ fm f = lK f v ∧ magN f v % 2 ^ fm f = jP f v := by
 unfold magN lK jP
 rw [Nat.add_comm (fe f), Nat.pow_add]
 exact ⟨Nat.mod_mul_right_div_self .., Nat.mod_mul_right_mod ..⟩
/- Bits with a sign, beyond the greatest number: plain numbers alone (for rounds without chapter 9). -/

def infK (f : Int) : Nat := gF f * 2 ^ fm f
theorem infK_lt (f : Int) : infK f < 2 ^ (fe f + fm f) ∧ 0 < infK f := by
 obtain ⟨_, hi⟩ := lI f false
 have hp := Nat.two_pow_pos (fm f)
 have ht : 0 < gF f * 2 ^ fm f := Nat.mul_pos (by have := gJ f; omega) hp
 unfold infK; omega
theorem sK (f : Int) (P : Nat) (neg : Bool) (h : P < 2 ^ (fe f + fm f)) : dU f (P + eQ f neg) = neg ∧ magN f (P + eQ f neg) = P ∧ P + eQ f neg < 2 ^ (fe f + fm f + 1) := by
 unfold dU magN eQ
 have hp := Nat.two_pow_pos (fe f + fm f)
 cases neg
 ·simp only [Bool.false_eq_true, if_false, Nat.add_zero]
  rw [Nat.div_eq_of_lt h, Nat.mod_eq_of_lt h, Nat.pow_succ]
  exact ⟨rfl, rfl, by omega⟩
 ·simp only [if_true]
  rw [Nat.add_div_right _ hp, Nat.div_eq_of_lt h, Nat.add_mod_right, Nat.mod_eq_of_lt h, Nat.pow_succ]
  exact ⟨rfl, rfl, by omega⟩
theorem mag_cls (f : Int) (v : Nat) (h : magN f v = infK f) : dA f v = 3 := by
 obtain ⟨h1, h2⟩ := vS f v
 have ht := gJ f
 unfold dA
 rw [← h1, ← h2, h]
 unfold infK
 rw [Nat.mul_div_cancel _ (Nat.two_pow_pos _), Nat.mul_mod_left, if_neg (by omega), if_neg (by omega), if_pos rfl]
/- Numbers near one, drawn: plain numbers. -/

def xV (f : Int) : Nat := gF f / 2
theorem nU (f : Int) : fe f = 5 ∧ fm f = 10 ∧ xV f = 15 ∧ dM f = -14 ∧ gF f = 31 ∨ fe f = 8 ∧ fm f = 7 ∧ xV f = 127 ∧ dM f = -126 ∧ gF f = 255 ∨ fe f = 8 ∧ fm f = 23 ∧ xV f = 127 ∧ dM f = -126 ∧ gF f = 255 := by
 unfold xV gF dM
 rcases qK f with ⟨h1, h2⟩ | ⟨h1, h2⟩ | ⟨h1, h2⟩ <;> rw [h1, h2] <;> simp
theorem mild_shl (f : Int) : shl .u32 4 (fm f : Int) = ((4 * 2 ^ fm f : Nat) : Int) ∧ shl .u32 2 (fm f : Int) = ((2 * 2 ^ fm f : Nat) : Int) ∧
  shl .u32 ((((shl .u32 1 (fe f : Int)) - 1) % 4294967296) / 2) (fm f : Int) = ((xV f * 2 ^ fm f : Nat) : Int) := by
 rcases nU f with ⟨h1, h2, h3, _⟩ | ⟨h1, h2, h3, _⟩ | ⟨h1, h2, h3, _⟩ <;> rw [h1, h2, h3] <;> decide
theorem zF (f : Int) : 4 * 2 ^ fm f + xV f * 2 ^ fm f < 2 ^ (fe f + fm f) ∧ 2 * 2 ^ fm f ≤ xV f * 2 ^ fm f := by
 rcases nU f with ⟨h1, h2, h3, _⟩ | ⟨h1, h2, h3, _⟩ | ⟨h1, h2, h3, _⟩ <;> rw [h1, h2, h3] <;> decide
theorem zL (O P a : Nat) (h : 2 * P ≤ O) (hO : O + 4 * P < 2147483648) (hP : 0 < P) : ((((O : Nat) : Int) - ((2 * P : Nat) : Int)) % 4294967296 + Int.tmod ((a : Int) / 8) ((4 * P : Nat) : Int)) % 4294967296 = ((O - 2 * P + a / 8 % (4 * P) : Nat) : Int) := by
 have e : Int.tmod ((a : Int) / 8) ((4 * P : Nat) : Int) = ((a / 8 % (4 * P) : Nat) : Int) := by
  rw [show (a : Int) / 8 = ((a / 8 : Nat) : Int) from rfl, Int.tmod_eq_emod_of_nonneg (Int.natCast_nonneg _)]; rfl
 have hm := Nat.mod_lt (a / 8) (show 4 * P > 0 by omega)
 rw [e]
 generalize a / 8 % (4 * P) = m at *
 omega
theorem or_sign (f : Int) (m : Nat) (h : m < 2 ^ (fe f + fm f)) : Go.bits .or .u32 (m : Int) (eQ f true : Int) = ((m + eQ f true : Nat) : Int) := by
 have hb := dS f
 have h31 := dZ (show fe f + fm f ≤ 31 by omega)
 have hs : eQ f true = 2 ^ (fe f + fm f) := rfl
 rw [nI m _ (by omega) (by omega), Nat.or_comm, lX _ _ (fe f + fm f) (by rw [hs, Nat.mod_self]) h, Nat.add_comm]
theorem mild_f (f : Int) (a : Nat) (ha : a < 4294967296) : ∃ m : Nat, ∃ neg : Bool, eH.f f (a : Int) = some ((m + eQ f neg : Nat) : Int) ∧ (m = 0 ∧ neg = false ∨ (xV f - 2) * 2 ^ fm f ≤ m ∧ m < (xV f + 2) * 2 ^ fm f) := by
 unfold eH.f
 by_cases c : Int.tmod (a : Int) 7 = 0
 ·rw [if_pos c]
  exact ⟨0, false, rfl, .inl ⟨rfl, rfl⟩⟩
 ·rw [if_neg c, eU, Option.bind_some]
  dsimp only
  obtain ⟨s1, s2, s3⟩ := mild_shl f
  obtain ⟨r1, r2⟩ := zF f
  have hb := dS f
  have h31 := dZ (show fe f + fm f ≤ 31 by omega)
  have hp := Nat.two_pow_pos (fm f)
  rw [s1, s2, s3, if_pos (Int.natCast_nonneg _), if_pos (Int.natCast_nonneg _), if_neg (by omega), zL _ _ _ r2 (by omega) hp]
  have hm := Nat.mod_lt (a / 8) (show 4 * 2 ^ fm f > 0 by omega)
  have h2 : (xV f - 2) * 2 ^ fm f = xV f * 2 ^ fm f - 2 * 2 ^ fm f := Nat.sub_mul _ _ _
  have h3 : (xV f + 2) * 2 ^ fm f = xV f * 2 ^ fm f + 2 * 2 ^ fm f := Nat.add_mul _ _ _
  generalize hM : xV f * 2 ^ fm f - 2 * 2 ^ fm f + a / 8 % (4 * 2 ^ fm f) = m at *
  by_cases d : Go.bits .and .u32 (a : Int) 1 = 1
  ·rw [if_pos d, jA, Option.bind_some, or_sign f m (by omega)]
   exact ⟨m, true, rfl, .inr ⟨by omega, by omega⟩⟩
  ·rw [if_neg d]
   exact ⟨m, false, rfl, .inr ⟨by omega, by omega⟩⟩
/- Small whole numbers as numbers: plain numbers alone. -/

theorem lQ (f mode : Int) (neg : Bool) (x : Int) (s j : Nat) : gD f mode neg x (s * 2 ^ j) false = gD f mode neg (x + j) s false ∧ kY f mode neg x (s * 2 ^ j) false = kY f mode neg (x + j) s false := by
 have hk := aAZ f mode neg x s j
 have hr := sU f x s j
 have hu : dP f x (s * 2 ^ j) = dP f (x + j) s := by unfold dP; rw [hr]
 have hl := (vQ s j (dP f (x + j) s - x)).2
 rw [show dP f (x + j) s - x - j = dP f (x + j) s - (x + j) by omega] at hl
 have hi : kF f x (s * 2 ^ j) false = kF f (x + j) s false := by unfold kF; rw [hu, hl]
 have hun : lH f x (s * 2 ^ j) false = lH f (x + j) s false := by
  unfold lH
  rw [hi]
  congr 1
  by_cases c : s = 0
  ·subst c; simp
  ·rw [decide_eq_false c, decide_eq_false (Nat.mul_ne_zero c (Nat.ne_of_gt (Nat.two_pow_pos j))), uB s j c]
   congr 1; apply decide_eq_decide.mpr; omega
 unfold gD kY
 rw [hk, hi, hun]; exact ⟨rfl, rfl⟩
theorem zero_all (f : Int) (b : Bool) : dA f (eQ f b) = 0 ∧ dU f (eQ f b) = b ∧ eQ f b < 4294967296 := by
 have hb := dS f
 have h31 := dZ (show fe f + fm f ≤ 31 by omega)
 have hp := Nat.two_pow_pos (fm f)
 obtain ⟨p1, p2, p3⟩ := sK f 0 b (Nat.two_pow_pos _)
 obtain ⟨q1, q2⟩ := vS f (0 + eQ f b)
 rw [p2] at q1 q2
 rw [Nat.zero_add] at *
 refine ⟨?_, p1, ?_⟩
 ·unfold dA; rw [← q1, ← q2, Nat.zero_div, Nat.zero_mod]; rfl
 ·unfold eQ; split <;> omega
theorem inf_all (f : Int) (b : Bool) : dA f (nD f b) = 3 ∧ dU f (nD f b) = b ∧ nD f b < 4294967296 := by
 obtain ⟨i1, i2⟩ := infK_lt f
 obtain ⟨p1, p2, p3⟩ := sK f (infK f) b i1
 exact ⟨mag_cls f _ p2, p1, (lI f b).1⟩
end Go.Proofs.YtolpdiifmacdbaaGreat.Round
