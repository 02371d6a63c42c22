import Derived.Test.YtfapjegkilljnaaQobM8
import Derived.Test.YtfapjegkilljnaaQobM9
import Derived.Test.YtfapjegkilljnaaQobM7
import Derived.Test.YtfapjegkilljnaaQobZ
import Derived.Test.YtfapjegkilljnaaQobM4
import Derived.Test.YtfapjegkilljnaaProg
import Derived.Test.YtfapjegkilljnaaQobM5
import Derived.Test.YtfapjegkilljnaaQobM3
/- What the reckoner tells of printed functions. -/
set_option linter.unusedVariables false
set_option linter.unusedSimpArgs false
set_option maxRecDepth 100000
set_option maxHeartbeats 8000000
namespace Go.Proofs.Ytfapjegkilljnaa.P
open Go.RowKit Go.Proofs.YtfapjegkilljnaaW.PrintWords Go.Proofs.YtfapjegkilljnaaW.PrintLast Go.Proofs.YtfapjegkilljnaaW.PrintMore
set_option maxRecDepth 100000
theorem bO.jY {k n : Nat} (hk : k ≤ n) {x0 x1 : Int} {x2 x3 : Int} {x13 x49 : Bool} {ex6 ex7 : Bool} {ex8 ex9 ex10 : Bool} : LeO (bO.j0 k x0 x1 x2 x3 x13 x49) (L.bO.j8 n x49 x13 x3 x2 x1 x0 ex6 ex7 ex8 ex9 ex10) := by
 cases k with
 |zero => rw [bO.j0]; exact LeO.none _
 |succ k =>
 replace hk := Nat.le_of_succ_le hk
 rw [bO.j0, L.bO.j8_eq]
 repeat' first
  |(with_reducible exact LeO.refl _)
  |exact LeO.none _
  |(with_reducible first|exact fun r h => at_rounds (aQ.mono _ _) hk h|exact fun r h => at_rounds (bV.mono _ _ _) hk h|exact fun r h => at_rounds (aD.mono _ _) hk h|exact aA.le hk|refine LeO.bind ?_ (fun _ => ?_)|refine LeO.iA Iff.rfl (fun _ => ?_) (fun _ => ?_))
  |exact fun r h => at_rounds (aQ.mono _ _) hk h
  |exact fun r h => at_rounds (bV.mono _ _ _) hk h
  |exact fun r h => at_rounds (aD.mono _ _) hk h
  |exact aA.le hk
  |exact LeO.refl _
  |(with_reducible first|refine LeO.pos (by assumption) ?_|refine LeO.neg (by assumption) ?_|refine LeO.mV (by assumption) ?_|refine LeO.nE (by assumption) ?_|refine LeO.iA (by omega) (fun _ => ?_) (fun _ => ?_))
set_option maxHeartbeats 4000000 in
theorem bO.le {k n : Nat} (hk : k ≤ n) {a0 a1 : Int} {a2 a3 : Int} : LeO (bO.f k a0 a1 a2 a3) (L.bO.f n a0 a1 a2 a3) := by
 unfold bO.f
 rw [L.bO.eq]
 try simp only [Bool.and_true]
 repeat' first
  |(with_reducible exact LeO.refl _)
  |exact LeO.none _
  |(with_reducible first|exact bO.jY hk|exact fun r h => at_rounds (aQ.mono _ _) hk h|exact fun r h => at_rounds (bV.mono _ _ _) hk h|exact fun r h => at_rounds (aD.mono _ _) hk h|exact aA.le hk|refine LeO.bind ?_ (fun _ => ?_)|refine LeO.iA Iff.rfl (fun _ => ?_) (fun _ => ?_))
  |exact bO.jY hk
  |exact fun r h => at_rounds (aQ.mono _ _) hk h
  |exact fun r h => at_rounds (bV.mono _ _ _) hk h
  |exact fun r h => at_rounds (aD.mono _ _) hk h
  |exact aA.le hk
  |exact LeO.refl _
  |(with_reducible first|refine LeO.pos (by assumption) ?_|refine LeO.neg (by assumption) ?_|refine LeO.mV (by assumption) ?_|refine LeO.nE (by assumption) ?_|refine LeO.iA (by omega) (fun _ => ?_) (fun _ => ?_))
theorem bO.calls (k : Nat) (a0 a1 : Int) (a2 a3 r1 : Int) (r2 r3 : Bool) (r4 r5 r6 : Bool) (w : World) (h : bO.f k a0 a1 a2 a3 = some (r1, r2, r3, r4, r5, r6)) :
  Calls Try.prog 32 #[.int .i64 a0, .int .i64 a1, .int .u32 a2, .int .u32 a3] w fun e w' => e = .returned (.tuple #[.int .u32 r1, .agg #[.bool r2, .bool r3, .bool r4, .bool r5, .bool r6]]) ∧ Below w.heap.size w w' :=
 Go.Proofs.Ytfapjegkilljnaa.Ek.jG L.bO.ok k ((a0, ()), (a1, ()), (a2, ()), (a3, ()), ()) (r1, r2, r3, r4, r5, r6) rfl (bO.le (Nat.le_refl _) _ h) w
theorem aN.iT {k n : Nat} (hk : k ≤ n) {x0 x1 : Int} {x16 x99 x381000 : Bool} {x381001 x381002 : Int} {x381003 x386000 : Bool} {x386001 x386002 : Int} {x386003 ex12 : Bool} {ex13 ex14 : Bool} {ex15 ex16 : Bool} : LeO (aN.j2 k x0 x1 x16 x99 x381000 x381001 x381002 x381003 x386000 x386001 x386002 x386003) (L.aN.j15 n x99 x16 x1 x0 x386000 x386001 x386002 x386003 x381000 x381001 x381002 x381003 ex12 ex13 ex14 ex15 ex16) := by
 cases k with
 |zero => rw [aN.j2]; exact LeO.none _
 |succ k =>
 replace hk := Nat.le_of_succ_le hk
 rw [aN.j2, L.aN.j15_eq]
 repeat' first
  |(with_reducible exact LeO.refl _)
  |exact LeO.none _
  |(with_reducible first|exact fun r h => at_rounds (bV.mono _ _ _) hk h|exact fun r h => at_rounds (aQ.mono _ _) hk h|exact fun r h => at_rounds (aD.mono _ _) hk h|exact fun r h => at_rounds (aM.mono _ _ _ _ _) hk h|exact aG.le hk|exact aA.le hk|refine LeO.bind ?_ (fun _ => ?_)|refine LeO.iA Iff.rfl (fun _ => ?_) (fun _ => ?_))
  |exact fun r h => at_rounds (bV.mono _ _ _) hk h
  |exact fun r h => at_rounds (aQ.mono _ _) hk h
  |exact fun r h => at_rounds (aD.mono _ _) hk h
  |exact fun r h => at_rounds (aM.mono _ _ _ _ _) hk h
  |exact aG.le hk
  |exact aA.le hk
  |exact LeO.refl _
  |(with_reducible first|refine LeO.pos (by assumption) ?_|refine LeO.neg (by assumption) ?_|refine LeO.mV (by assumption) ?_|refine LeO.nE (by assumption) ?_|refine LeO.iA (by omega) (fun _ => ?_) (fun _ => ?_))
theorem aN.iD {k n : Nat} (hk : k ≤ n) {x0 x1 : Int} {x2 x3 x4 : Int} {x16 x17 : Bool} {x18 x71 : Bool} {ex9 ex10 : Bool} {ex11 ex12 ex13 : Bool} : LeO (aN.j1 k x0 x1 x2 x3 x4 x16 x17 x18 x71) (L.aN.j11 n x71 x18 x17 x16 x4 x3 x2 x1 x0 ex9 ex10 ex11 ex12 ex13) := by
 cases k with
 |zero => rw [aN.j1]; exact LeO.none _
 |succ k =>
 replace hk := Nat.le_of_succ_le hk
 rw [aN.j1, L.aN.rG]
 repeat' first
  |(with_reducible exact LeO.refl _)
  |exact LeO.none _
  |(with_reducible first|exact aN.iT hk|exact fun r h => at_rounds (bV.mono _ _ _) hk h|exact fun r h => at_rounds (aQ.mono _ _) hk h|exact fun r h => at_rounds (aD.mono _ _) hk h|exact fun r h => at_rounds (aM.mono _ _ _ _ _) hk h|exact aG.le hk|exact aA.le hk|refine LeO.bind ?_ (fun _ => ?_)|refine LeO.iA Iff.rfl (fun _ => ?_) (fun _ => ?_))
  |exact aN.iT hk
  |exact fun r h => at_rounds (bV.mono _ _ _) hk h
  |exact fun r h => at_rounds (aQ.mono _ _) hk h
  |exact fun r h => at_rounds (aD.mono _ _) hk h
  |exact fun r h => at_rounds (aM.mono _ _ _ _ _) hk h
  |exact aG.le hk
  |exact aA.le hk
  |exact LeO.refl _
  |(with_reducible first|refine LeO.pos (by assumption) ?_|refine LeO.neg (by assumption) ?_|refine LeO.mV (by assumption) ?_|refine LeO.nE (by assumption) ?_|refine LeO.iA (by omega) (fun _ => ?_) (fun _ => ?_))
theorem aN.jY {k n : Nat} (hk : k ≤ n) {x0 x1 : Int} {x2 x3 x4 : Int} {x16 x17 : Bool} {x18 ex8 : Bool} {ex9 ex10 : Bool} {ex11 ex12 : Bool} : LeO (aN.j0 k x0 x1 x2 x3 x4 x16 x17 x18) (L.aN.j10 n x18 x17 x16 x4 x3 x2 x1 x0 ex8 ex9 ex10 ex11 ex12) := by
 cases k with
 |zero => rw [aN.j0]; exact LeO.none _
 |succ k =>
 replace hk := Nat.le_of_succ_le hk
 rw [aN.j0, L.aN.yI]
 repeat' first
  |(with_reducible exact LeO.refl _)
  |exact LeO.none _
  |(with_reducible first|exact aN.iT hk|exact aN.iD hk|exact fun r h => at_rounds (bV.mono _ _ _) hk h|exact fun r h => at_rounds (aQ.mono _ _) hk h|exact fun r h => at_rounds (aD.mono _ _) hk h|exact fun r h => at_rounds (aM.mono _ _ _ _ _) hk h|exact aG.le hk|exact aA.le hk|refine LeO.bind ?_ (fun _ => ?_)|refine LeO.iA Iff.rfl (fun _ => ?_) (fun _ => ?_))
  |exact aN.iT hk
  |exact aN.iD hk
  |exact fun r h => at_rounds (bV.mono _ _ _) hk h
  |exact fun r h => at_rounds (aQ.mono _ _) hk h
  |exact fun r h => at_rounds (aD.mono _ _) hk h
  |exact fun r h => at_rounds (aM.mono _ _ _ _ _) hk h
  |exact aG.le hk
  |exact aA.le hk
  |exact LeO.refl _
  |(with_reducible first|refine LeO.pos (by assumption) ?_|refine LeO.neg (by assumption) ?_|refine LeO.mV (by assumption) ?_|refine LeO.nE (by assumption) ?_|refine LeO.iA (by omega) (fun _ => ?_) (fun _ => ?_))
set_option maxHeartbeats 4000000 in
theorem aN.le {k n : Nat} (hk : k ≤ n) {a0 a1 : Int} {a2 a3 a4 : Int} : LeO (aN.f k a0 a1 a2 a3 a4) (L.aN.f n a0 a1 a2 a3 a4) := by
 unfold aN.f
 rw [L.aN.eq]
 try simp only [Bool.and_true]
 repeat' first
  |(with_reducible exact LeO.refl _)
  |exact LeO.none _
  |(with_reducible first|exact aN.iT hk|exact aN.iD hk|exact aN.jY hk|exact fun r h => at_rounds (bV.mono _ _ _) hk h|exact fun r h => at_rounds (aQ.mono _ _) hk h|exact fun r h => at_rounds (aD.mono _ _) hk h|exact fun r h => at_rounds (aM.mono _ _ _ _ _) hk h|exact aG.le hk|exact aA.le hk|refine LeO.bind ?_ (fun _ => ?_)|refine LeO.iA Iff.rfl (fun _ => ?_) (fun _ => ?_))
  |exact aN.iT hk
  |exact aN.iD hk
  |exact aN.jY hk
  |exact fun r h => at_rounds (bV.mono _ _ _) hk h
  |exact fun r h => at_rounds (aQ.mono _ _) hk h
  |exact fun r h => at_rounds (aD.mono _ _) hk h
  |exact fun r h => at_rounds (aM.mono _ _ _ _ _) hk h
  |exact aG.le hk
  |exact aA.le hk
  |exact LeO.refl _
  |(with_reducible first|refine LeO.pos (by assumption) ?_|refine LeO.neg (by assumption) ?_|refine LeO.mV (by assumption) ?_|refine LeO.nE (by assumption) ?_|refine LeO.iA (by omega) (fun _ => ?_) (fun _ => ?_))
theorem aN.calls (k : Nat) (a0 a1 : Int) (a2 a3 : Int) (a4 r1 : Int) (r2 r3 : Bool) (r4 r5 r6 : Bool) (w : World) (h : aN.f k a0 a1 a2 a3 a4 = some (r1, r2, r3, r4, r5, r6)) :
  Calls Try.prog 61 #[.int .i64 a0, .int .i64 a1, .int .u32 a2, .int .u32 a3, .int .u32 a4] w fun e w' => e = .returned (.tuple #[.int .u32 r1, .agg #[.bool r2, .bool r3, .bool r4, .bool r5, .bool r6]]) ∧ Below w.heap.size w w' :=
 Go.Proofs.Ytfapjegkilljnaa.Ek.jG L.aN.ok k ((a0, ()), (a1, ()), (a2, ()), (a3, ()), (a4, ()), ()) (r1, r2, r3, r4, r5, r6) rfl (aN.le (Nat.le_refl _) _ h) w
theorem aU.iD {k n : Nat} (hk : k ≤ n) {x0 x1 : Int} {x2 x3 : Int} {x13 : Bool} {x15 : Int} {x69 ex7 : Bool} {ex8 ex9 : Bool} {ex10 ex11 : Bool} : LeO (aU.j1 k x0 x1 x2 x3 x13 x15 x69) (L.aU.j11 n x69 x15 x13 x3 x2 x1 x0 ex7 ex8 ex9 ex10 ex11) := by
 cases k with
 |zero => rw [aU.j1]; exact LeO.none _
 |succ k =>
 replace hk := Nat.le_of_succ_le hk
 rw [aU.j1, L.aU.rG]
 repeat' first
  |(with_reducible exact LeO.refl _)
  |exact LeO.none _
  |(with_reducible first|exact fun r h => at_rounds (aQ.mono _ _) hk h|exact fun r h => at_rounds (aI.mono _ _) hk h|exact fun r h => at_rounds (bits_Len.mono _) hk h|exact fun r h => at_rounds (aH.mono _ _) hk h|exact aA.le hk|refine LeO.bind ?_ (fun _ => ?_)|refine LeO.iA Iff.rfl (fun _ => ?_) (fun _ => ?_))
  |exact fun r h => at_rounds (aQ.mono _ _) hk h
  |exact fun r h => at_rounds (aI.mono _ _) hk h
  |exact fun r h => at_rounds (bits_Len.mono _) hk h
  |exact fun r h => at_rounds (aH.mono _ _) hk h
  |exact aA.le hk
  |exact LeO.refl _
  |(with_reducible first|refine LeO.pos (by assumption) ?_|refine LeO.neg (by assumption) ?_|refine LeO.mV (by assumption) ?_|refine LeO.nE (by assumption) ?_|refine LeO.iA (by omega) (fun _ => ?_) (fun _ => ?_))
theorem aU.jY {k n : Nat} (hk : k ≤ n) {x0 x1 : Int} {x2 x3 : Int} {x13 : Bool} {x14 x15 : Int} {x46 ex8 : Bool} {ex9 ex10 : Bool} {ex11 ex12 : Bool} : LeO (aU.j0 k x0 x1 x2 x3 x13 x14 x15 x46) (L.aU.j7 n x46 x15 x14 x13 x3 x2 x1 x0 ex8 ex9 ex10 ex11 ex12) := by
 cases k with
 |zero => rw [aU.j0]; exact LeO.none _
 |succ k =>
 replace hk := Nat.le_of_succ_le hk
 rw [aU.j0, L.aU.j7_eq]
 repeat' first
  |(with_reducible exact LeO.refl _)
  |exact LeO.none _
  |(with_reducible first|exact aU.iD hk|exact fun r h => at_rounds (aQ.mono _ _) hk h|exact fun r h => at_rounds (aI.mono _ _) hk h|exact fun r h => at_rounds (bits_Len.mono _) hk h|exact fun r h => at_rounds (aH.mono _ _) hk h|exact aA.le hk|refine LeO.bind ?_ (fun _ => ?_)|refine LeO.iA Iff.rfl (fun _ => ?_) (fun _ => ?_))
  |exact aU.iD hk
  |exact fun r h => at_rounds (aQ.mono _ _) hk h
  |exact fun r h => at_rounds (aI.mono _ _) hk h
  |exact fun r h => at_rounds (bits_Len.mono _) hk h
  |exact fun r h => at_rounds (aH.mono _ _) hk h
  |exact aA.le hk
  |exact LeO.refl _
  |(with_reducible first|refine LeO.pos (by assumption) ?_|refine LeO.neg (by assumption) ?_|refine LeO.mV (by assumption) ?_|refine LeO.nE (by assumption) ?_|refine LeO.iA (by omega) (fun _ => ?_) (fun _ => ?_))
set_option maxHeartbeats 4000000 in
theorem aU.le {k n : Nat} (hk : k ≤ n) {a0 a1 : Int} {a2 a3 : Int} : LeO (aU.f k a0 a1 a2 a3) (L.aU.f n a0 a1 a2 a3) := by
 unfold aU.f
 rw [L.aU.eq]
 try simp only [Bool.and_true]
 repeat' first
  |(with_reducible exact LeO.refl _)
  |exact LeO.none _
  |(with_reducible first|exact aU.iD hk|exact aU.jY hk|exact fun r h => at_rounds (aQ.mono _ _) hk h|exact fun r h => at_rounds (aI.mono _ _) hk h|exact fun r h => at_rounds (bits_Len.mono _) hk h|exact fun r h => at_rounds (aH.mono _ _) hk h|exact aA.le hk|refine LeO.bind ?_ (fun _ => ?_)|refine LeO.iA Iff.rfl (fun _ => ?_) (fun _ => ?_))
  |exact aU.iD hk
  |exact aU.jY hk
  |exact fun r h => at_rounds (aQ.mono _ _) hk h
  |exact fun r h => at_rounds (aI.mono _ _) hk h
  |exact fun r h => at_rounds (bits_Len.mono _) hk h
  |exact fun r h => at_rounds (aH.mono _ _) hk h
  |exact aA.le hk
  |exact LeO.refl _
  |(with_reducible first|refine LeO.pos (by assumption) ?_|refine LeO.neg (by assumption) ?_|refine LeO.mV (by assumption) ?_|refine LeO.nE (by assumption) ?_|refine LeO.iA (by omega) (fun _ => ?_) (fun _ => ?_))
theorem aU.calls (k : Nat) (a0 a1 : Int) (a2 a3 r1 : Int) (r2 r3 : Bool) (r4 r5 r6 : Bool) (w : World) (h : aU.f k a0 a1 a2 a3 = some (r1, r2, r3, r4, r5, r6)) :
  Calls Try.prog 90 #[.int .i64 a0, .int .i64 a1, .int .u32 a2, .int .u32 a3] w fun e w' => e = .returned (.tuple #[.int .u32 r1, .agg #[.bool r2, .bool r3, .bool r4, .bool r5, .bool r6]]) ∧ Below w.heap.size w w' :=
 Go.Proofs.Ytfapjegkilljnaa.Ek.jG L.aU.ok k ((a0, ()), (a1, ()), (a2, ()), (a3, ()), ()) (r1, r2, r3, r4, r5, r6) rfl (aU.le (Nat.le_refl _) _ h) w
theorem bA.iD {k n : Nat} (hk : k ≤ n) {x0 x1 : Int} {x68 x488000 : Bool} {x488001 x488002 : Int} {x488003 x489000 : Bool} {x489001 x489002 : Int} {x489003 x494000 : Bool} {x494001 x494002 : Int} {x494003 ex15 : Bool} {ex16 ex17 : Bool} {ex18 ex19 : Bool} : LeO (bA.j1 k x0 x1 x68 x488000 x488001 x488002 x488003 x489000 x489001 x489002 x489003 x494000 x494001 x494002 x494003) (L.bA.j10 n x68 x1 x0 x494000 x494001 x494002 x494003 x489000 x489001 x489002 x489003 x488000 x488001 x488002 x488003 ex15 ex16 ex17 ex18 ex19) := by
 cases k with
 |zero => rw [bA.j1]; exact LeO.none _
 |succ k =>
 replace hk := Nat.le_of_succ_le hk
 rw [bA.j1, L.bA.yI]
 repeat' first
  |(with_reducible exact LeO.refl _)
  |exact LeO.none _
  |(with_reducible first|exact fun r h => at_rounds (aQ.mono _ _) hk h|exact fun r h => at_rounds (aD.mono _ _) hk h|exact fun r h => at_rounds (aM.mono _ _ _ _ _) hk h|exact aG.le hk|exact aA.le hk|refine LeO.bind ?_ (fun _ => ?_)|refine LeO.iA Iff.rfl (fun _ => ?_) (fun _ => ?_))
  |exact fun r h => at_rounds (aQ.mono _ _) hk h
  |exact fun r h => at_rounds (aD.mono _ _) hk h
  |exact fun r h => at_rounds (aM.mono _ _ _ _ _) hk h
  |exact aG.le hk
  |exact aA.le hk
  |exact LeO.refl _
  |(with_reducible first|refine LeO.pos (by assumption) ?_|refine LeO.neg (by assumption) ?_|refine LeO.mV (by assumption) ?_|refine LeO.nE (by assumption) ?_|refine LeO.iA (by omega) (fun _ => ?_) (fun _ => ?_))
theorem bA.jY {k n : Nat} (hk : k ≤ n) {x0 x1 : Int} {x2 x3 : Int} {x13 x14 : Bool} {x39 ex7 : Bool} {ex8 ex9 : Bool} {ex10 ex11 : Bool} : LeO (bA.j0 k x0 x1 x2 x3 x13 x14 x39) (L.bA.j6 n x39 x14 x13 x3 x2 x1 x0 ex7 ex8 ex9 ex10 ex11) := by
 cases k with
 |zero => rw [bA.j0]; exact LeO.none _
 |succ k =>
 replace hk := Nat.le_of_succ_le hk
 rw [bA.j0, L.bA.j6_eq]
 repeat' first
  |(with_reducible exact LeO.refl _)
  |exact LeO.none _
  |(with_reducible first|exact bA.iD hk|exact fun r h => at_rounds (aQ.mono _ _) hk h|exact fun r h => at_rounds (aD.mono _ _) hk h|exact fun r h => at_rounds (aM.mono _ _ _ _ _) hk h|exact aG.le hk|exact aA.le hk|refine LeO.bind ?_ (fun _ => ?_)|refine LeO.iA Iff.rfl (fun _ => ?_) (fun _ => ?_))
  |exact bA.iD hk
  |exact fun r h => at_rounds (aQ.mono _ _) hk h
  |exact fun r h => at_rounds (aD.mono _ _) hk h
  |exact fun r h => at_rounds (aM.mono _ _ _ _ _) hk h
  |exact aG.le hk
  |exact aA.le hk
  |exact LeO.refl _
  |(with_reducible first|refine LeO.pos (by assumption) ?_|refine LeO.neg (by assumption) ?_|refine LeO.mV (by assumption) ?_|refine LeO.nE (by assumption) ?_|refine LeO.iA (by omega) (fun _ => ?_) (fun _ => ?_))
set_option maxHeartbeats 4000000 in
theorem bA.le {k n : Nat} (hk : k ≤ n) {a0 a1 : Int} {a2 a3 : Int} : LeO (bA.f k a0 a1 a2 a3) (L.bA.f n a0 a1 a2 a3) := by
 unfold bA.f
 rw [L.bA.eq]
 try simp only [Bool.and_true]
 repeat' first
  |(with_reducible exact LeO.refl _)
  |exact LeO.none _
  |(with_reducible first|exact bA.iD hk|exact bA.jY hk|exact fun r h => at_rounds (aQ.mono _ _) hk h|exact fun r h => at_rounds (aD.mono _ _) hk h|exact fun r h => at_rounds (aM.mono _ _ _ _ _) hk h|exact aG.le hk|exact aA.le hk|refine LeO.bind ?_ (fun _ => ?_)|refine LeO.iA Iff.rfl (fun _ => ?_) (fun _ => ?_))
  |exact bA.iD hk
  |exact bA.jY hk
  |exact fun r h => at_rounds (aQ.mono _ _) hk h
  |exact fun r h => at_rounds (aD.mono _ _) hk h
  |exact fun r h => at_rounds (aM.mono _ _ _ _ _) hk h
  |exact aG.le hk
  |exact aA.le hk
  |exact LeO.refl _
  |(with_reducible first|refine LeO.pos (by assumption) ?_|refine LeO.neg (by assumption) ?_|refine LeO.mV (by assumption) ?_|refine LeO.nE (by assumption) ?_|refine LeO.iA (by omega) (fun _ => ?_) (fun _ => ?_))
theorem bA.calls (k : Nat) (a0 a1 : Int) (a2 a3 r1 : Int) (r2 r3 : Bool) (r4 r5 r6 : Bool) (w : World) (h : bA.f k a0 a1 a2 a3 = some (r1, r2, r3, r4, r5, r6)) :
  Calls Try.prog 102 #[.int .i64 a0, .int .i64 a1, .int .u32 a2, .int .u32 a3] w fun e w' => e = .returned (.tuple #[.int .u32 r1, .agg #[.bool r2, .bool r3, .bool r4, .bool r5, .bool r6]]) ∧ Below w.heap.size w w' :=
 Go.Proofs.Ytfapjegkilljnaa.Ek.jG L.bA.ok k ((a0, ()), (a1, ()), (a2, ()), (a3, ()), ()) (r1, r2, r3, r4, r5, r6) rfl (bA.le (Nat.le_refl _) _ h) w
set_option maxHeartbeats 4000000 in
theorem bY.le {k n : Nat} (hk : k ≤ n) {a0 a1 a2 : Int} : LeO (bY.f k a0 a1 a2) (L.bY.f n a0 a1 a2) := by
 unfold bY.f
 rw [L.bY.eq]
 try simp only [Bool.and_true]
 repeat' first
  |(with_reducible exact LeO.refl _)
  |exact LeO.none _
  |(with_reducible first|exact fun r h => at_rounds (aQ.mono _ _) hk h|exact fun r h => at_rounds (aK.mono _ _) hk h|exact fun r h => at_rounds (aD.mono _ _) hk h|exact fun r h => at_rounds (bits_Len.mono _) hk h|exact fun r h => at_rounds (aH.mono _ _) hk h|exact fun r h => at_rounds (bQ.mono _) hk h|exact aA.le hk|refine LeO.bind ?_ (fun _ => ?_)|refine LeO.iA Iff.rfl (fun _ => ?_) (fun _ => ?_))
  |exact fun r h => at_rounds (aQ.mono _ _) hk h
  |exact fun r h => at_rounds (aK.mono _ _) hk h
  |exact fun r h => at_rounds (aD.mono _ _) hk h
  |exact fun r h => at_rounds (bits_Len.mono _) hk h
  |exact fun r h => at_rounds (aH.mono _ _) hk h
  |exact fun r h => at_rounds (bQ.mono _) hk h
  |exact aA.le hk
  |exact LeO.refl _
  |(with_reducible first|refine LeO.pos (by assumption) ?_|refine LeO.neg (by assumption) ?_|refine LeO.mV (by assumption) ?_|refine LeO.nE (by assumption) ?_|refine LeO.iA (by omega) (fun _ => ?_) (fun _ => ?_))
theorem bY.calls (k : Nat) (a0 a1 : Int) (a2 r1 : Int) (r2 r3 : Bool) (r4 r5 r6 : Bool) (w : World) (h : bY.f k a0 a1 a2 = some (r1, r2, r3, r4, r5, r6)) :
  Calls Try.prog 103 #[.int .i64 a0, .int .i64 a1, .int .u32 a2] w fun e w' => e = .returned (.tuple #[.int .u32 r1, .agg #[.bool r2, .bool r3, .bool r4, .bool r5, .bool r6]]) ∧ Below w.heap.size w w' :=
 Go.Proofs.Ytfapjegkilljnaa.Ek.jG L.bY.ok k ((a0, ()), (a1, ()), (a2, ()), ()) (r1, r2, r3, r4, r5, r6) rfl (bY.le (Nat.le_refl _) _ h) w
attribute [local go_sem] max2_int min2_int max_two min_two max_three min_three max_four min_four

-- NEED 3
/-! ### iY: function 20 -/
def iY.f (k : Nat) (a0 a1 : Int) : Option (Int) := (bO.f k 2 0 a0 a1).bind fun bt301 => (some bt301.1)
theorem iY.calls (k : Nat) (a0 a1 r : Int) (w : World) (h : iY.f k a0 a1 = some r) :
  Calls Try.prog 20 #[.int .u32 a0, .int .u32 a1] w fun e w' => e = .returned (.int .u32 r) ∧ Below w.heap.size w w' := by
 have hu60 := Try.underlying60
 have HB := Aside0.mk (Below.refl w.heap.size w)
 have H : ((bO.f k 2 0 a0 a1).bind fun bt301 => (some bt301.1)) = some r := h
 clear h
 replace H := bq_ H
 obtain ⟨⟨t301, t302, t303, t304, t305, t306⟩, A30, H⟩ := H
 replace H : (some t301) = some r := H
 have A3 := Aside0.mk A30
 clear A30
 obtain rfl := Option.some.inj H
 go_enter Try.func20, Try.ntmps20
 go_wp2_with (first | ((with_reducible refine gate_callee (f := 32) rfl ?_); refine goesL_ (some 10) rfl rfl Try.func32 (by kernel_rfl) rfl #[.int .i64 2, .int .i64 0, .int .u32 a0, .int .u32 a1] rfl gl ?_; (with_reducible refine (bO.calls k 2 0 a0 a1 t301 t302 t303 t304 t305 t306 _ A3.out).mono ?_); rintro e w4 ⟨rfl, hb⟩; refine ⟨_, rfl, ?_⟩; have n0_ := Aside0.mk (below_step (bl0 HB.out) hb); clear HB; have HB := n0_; clear n0_) | ((with_reducible refine gate_dst (N := 6) rfl ?_); refine box_event ?hg (N := 6) ?hd (cs := F5) (t := 60) ?hr ?_; (case hd => rfl); (case hg => rfl); (case hr => first | (go_simp; done) | (go_simp; rfl)); intro gb307 hg w5 hbox hb; have n0_ := Aside0.mk (below_step (bl0 HB.out) hb); have n1_ := Aside0.mk (hbox); have n2_ := Aside0.mk ((by rw [hg]; exact (below_size (bl0 HB.out)) : w.heap.size ≤ gb307)); have n3_ := n2_; clear HB; have HB := n0_; have BK307 := n1_; have GW307 := n2_; have GE307 := n3_; clear n0_ n1_ n2_ n3_; clear hb hbox hg; obtain ⟨hcz6_0, hcz6_1, hcz6_2, hcz6_3, hcz6_4⟩ := bc5 BK307.out; obtain ⟨hfz6_0, hfz6_1, hfz6_2, hfz6_3, hfz6_4⟩ := bf5 BK307.out))
 go_ret
 exact ⟨by first | rfl | (simp [bK, bL] <;> rfl) | (simp [*, bK, bL] <;> rfl), bl1 HB.out GE307.out⟩

attribute [local go_sem] max2_int min2_int max_two min_two max_three min_three max_four min_four

-- NEED 3
/-! ### gV: function 36 -/
def gV.f (k : Nat) (a0 a1 a2 : Int) : Option (Int) := (aN.f k 2 0 a0 a1 a2).bind fun bt393 => (some bt393.1)
theorem gV.calls (k : Nat) (a0 a1 : Int) (a2 r : Int) (w : World) (h : gV.f k a0 a1 a2 = some r) :
  Calls Try.prog 36 #[.int .u32 a0, .int .u32 a1, .int .u32 a2] w fun e w' => e = .returned (.int .u32 r) ∧ Below w.heap.size w w' := by
 have hu60 := Try.underlying60
 have HB := Aside0.mk (Below.refl w.heap.size w)
 have H : ((aN.f k 2 0 a0 a1 a2).bind fun bt393 => (some bt393.1)) = some r := h
 clear h
 replace H := bq_ H
 obtain ⟨⟨t393, t394, t395, t396, t397, t398⟩, A40, H⟩ := H
 replace H : (some t393) = some r := H
 have A4 := Aside0.mk A40
 clear A40
 obtain rfl := Option.some.inj H
 go_enter Try.func36, Try.ntmps36
 go_wp2_with (first | ((with_reducible refine gate_callee (f := 61) rfl ?_); refine goesL_ (some 13) rfl rfl Try.func61 (by kernel_rfl) rfl #[.int .i64 2, .int .i64 0, .int .u32 a0, .int .u32 a1, .int .u32 a2] rfl gl ?_; (with_reducible refine (aN.calls k 2 0 a0 a1 a2 t393 t394 t395 t396 t397 t398 _ A4.out).mono ?_); rintro e w5 ⟨rfl, hb⟩; refine ⟨_, rfl, ?_⟩; have n0_ := Aside0.mk (below_step (bl0 HB.out) hb); clear HB; have HB := n0_; clear n0_) | ((with_reducible refine gate_dst (N := 8) rfl ?_); refine box_event ?hg (N := 8) ?hd (cs := F5) (t := 60) ?hr ?_; (case hd => rfl); (case hg => rfl); (case hr => first | (go_simp; done) | (go_simp; rfl)); intro gb399 hg w6 hbox hb; have n0_ := Aside0.mk (below_step (bl0 HB.out) hb); have n1_ := Aside0.mk (hbox); have n2_ := Aside0.mk ((by rw [hg]; exact (below_size (bl0 HB.out)) : w.heap.size ≤ gb399)); have n3_ := n2_; clear HB; have HB := n0_; have BK399 := n1_; have GW399 := n2_; have GE399 := n3_; clear n0_ n1_ n2_ n3_; clear hb hbox hg; obtain ⟨hcz7_0, hcz7_1, hcz7_2, hcz7_3, hcz7_4⟩ := bc5 BK399.out; obtain ⟨hfz7_0, hfz7_1, hfz7_2, hfz7_3, hfz7_4⟩ := bf5 BK399.out))
 go_ret
 exact ⟨by first | rfl | (simp [bK, bL] <;> rfl) | (simp [*, bK, bL] <;> rfl), bl1 HB.out GE399.out⟩

attribute [local go_sem] max2_int min2_int max_two min_two max_three min_three max_four min_four

-- NEED 3
/-! ### dN: function 60 -/
def dN.f (k : Nat) (a0 a1 : Int) : Option (Int) := (aU.f k 2 0 a0 a1).bind fun bt450 => (some bt450.1)
theorem dN.calls (k : Nat) (a0 a1 r : Int) (w : World) (h : dN.f k a0 a1 = some r) :
  Calls Try.prog 60 #[.int .u32 a0, .int .u32 a1] w fun e w' => e = .returned (.int .u32 r) ∧ Below w.heap.size w w' := by
 have hu60 := Try.underlying60
 have HB := Aside0.mk (Below.refl w.heap.size w)
 have H : ((aU.f k 2 0 a0 a1).bind fun bt450 => (some bt450.1)) = some r := h
 clear h
 replace H := bq_ H
 obtain ⟨⟨t450, t451, t452, t453, t454, t455⟩, A30, H⟩ := H
 replace H : (some t450) = some r := H
 have A3 := Aside0.mk A30
 clear A30
 obtain rfl := Option.some.inj H
 go_enter Try.func60, Try.ntmps60
 go_wp2_with (first | ((with_reducible refine gate_callee (f := 90) rfl ?_); refine goesL_ (some 10) rfl rfl Try.func90 (by kernel_rfl) rfl #[.int .i64 2, .int .i64 0, .int .u32 a0, .int .u32 a1] rfl gl ?_; (with_reducible refine (aU.calls k 2 0 a0 a1 t450 t451 t452 t453 t454 t455 _ A3.out).mono ?_); rintro e w4 ⟨rfl, hb⟩; refine ⟨_, rfl, ?_⟩; have n0_ := Aside0.mk (below_step (bl0 HB.out) hb); clear HB; have HB := n0_; clear n0_) | ((with_reducible refine gate_dst (N := 6) rfl ?_); refine box_event ?hg (N := 6) ?hd (cs := F5) (t := 60) ?hr ?_; (case hd => rfl); (case hg => rfl); (case hr => first | (go_simp; done) | (go_simp; rfl)); intro gb456 hg w5 hbox hb; have n0_ := Aside0.mk (below_step (bl0 HB.out) hb); have n1_ := Aside0.mk (hbox); have n2_ := Aside0.mk ((by rw [hg]; exact (below_size (bl0 HB.out)) : w.heap.size ≤ gb456)); have n3_ := n2_; clear HB; have HB := n0_; have BK456 := n1_; have GW456 := n2_; have GE456 := n3_; clear n0_ n1_ n2_ n3_; clear hb hbox hg; obtain ⟨hcz6_0, hcz6_1, hcz6_2, hcz6_3, hcz6_4⟩ := bc5 BK456.out; obtain ⟨hfz6_0, hfz6_1, hfz6_2, hfz6_3, hfz6_4⟩ := bf5 BK456.out))
 go_ret
 exact ⟨by first | rfl | (simp [bK, bL] <;> rfl) | (simp [*, bK, bL] <;> rfl), bl1 HB.out GE456.out⟩

end Go.Proofs.Ytfapjegkilljnaa.P

/- Entries of functions. -/
namespace Go.Proofs.Ytfapjegkilljnaa.L
open Go.RowKit Go.Proofs.Ytfapjegkilljnaa.P Go.Proofs.Ytfapjegkilljnaa.Ek Go.Proofs.YtfapjegkilljnaaW.PrintWords Go.Proofs.YtfapjegkilljnaaW.PrintLast Go.Proofs.YtfapjegkilljnaaW.PrintMore
noncomputable def bX.c : Fc := iR [hI .i64, hI .u32] [hI .u32] (T := Int) (fun y => ((y, ()), ())) fun n x => bX.f x.1.1 x.2.1.1
theorem bX.ok : iI Try.prog 62 bX.c := eD Try.func62 (by kernel_rfl) (by kernel_rfl) (by decide) (fun _ => cO (by decide) _) fun n x y h m w => (bX.calls x.1.1 x.2.1.1 y w h).mono fun e w' he => ⟨he.1, he.2.below⟩
noncomputable def dG.cls : Cls := [(49, aQ.c), (62, bX.c), (102, bA.c)]
theorem dG.jI : bW Try.prog dG.cls := bW.cons aQ.ok (bW.cons bX.ok (bW.cons bA.ok (bW.nil)))
noncomputable def dG.K (v : SV) : Option (Int × Bool × Bool × Bool × Bool × Bool) := (mY [hI .u32, .agg [.b, .b, .b, .b, .b]] v).map (fun z => (z.1.1, z.2.1.1, z.2.1.2.1, z.2.1.2.2.1, z.2.1.2.2.2.1, z.2.1.2.2.2.2.1))
noncomputable def dG.cuts : List Nat := []
noncomputable def dG.f (k : Nat) (a0 a1 : Int) (a2 a3 : Int) : Option (Int × Bool × Bool × Bool × Bool × Bool) := evF Try.prog dG.cls Try.f101 dG.cuts k [.one (.i .i64 (.x a0)), .one (.i .i64 (.x a1)), .one (.i .u32 (.x a2)), .one (.i .u32 (.x a3))] dG.K
noncomputable def dG.c : Fc := iR [hI .i64, hI .i64, hI .u32, hI .u32] [hI .u32, .agg [.b, .b, .b, .b, .b]] (T := Int × Bool × Bool × Bool × Bool × Bool) (fun y => ((y.1, ()), (y.2.1, y.2.2.1, y.2.2.2.1, y.2.2.2.2.1, y.2.2.2.2.2, ()), ())) fun n x => dG.f n x.1.1 x.2.1.1 x.2.2.1.1 x.2.2.2.1.1
theorem dG.ok : iI Try.prog 101 dG.c := mkOk dG.jI Try.func101 (by kernel_rfl) (by kernel_rfl) (by decide) (fun _ => rfl) (fun _ _ => rfl)
/- Functions' trees, printed by a tool of mine out of the reckoner; Lean's kernel checks each. -/
set_option maxRecDepth 100000
theorem dG.eq (n0 : Nat) (a0 a1 : Int) (a2 a3 : Int) : dG.f n0 a0 a1 a2 a3 = ((aQ.f n0 a0 [a2, a3]).bind fun t0 => (if t0.2.2.2.2.2.2 = true then (some ((t0.1, t0.2.1, t0.2.2.1, t0.2.2.2.1, t0.2.2.2.2.1, t0.2.2.2.2.2.1))) else ((bX.f a0 a3).bind fun t1 => ((bA.f n0 a0 a1 a2 t1).bind fun t2 => (some ((t2.1, t2.2.1, t2.2.2.1, t2.2.2.2.1, t2.2.2.2.2.1, t2.2.2.2.2.2))))))) := by kernel_rfl
end Go.Proofs.Ytfapjegkilljnaa.L

/- What the reckoner tells of printed functions. -/
namespace Go.Proofs.Ytfapjegkilljnaa.P
open Go.RowKit Go.Proofs.YtfapjegkilljnaaW.PrintWords Go.Proofs.YtfapjegkilljnaaW.PrintLast Go.Proofs.YtfapjegkilljnaaW.PrintMore
set_option maxRecDepth 100000
set_option maxHeartbeats 4000000 in
theorem dG.le {k n : Nat} (hk : k ≤ n) {a0 a1 : Int} {a2 a3 : Int} : LeO (dG.f k a0 a1 a2 a3) (L.dG.f n a0 a1 a2 a3) := by
 unfold dG.f
 rw [L.dG.eq]
 try simp only [Bool.and_true]
 repeat' first
  |(with_reducible exact LeO.refl _)
  |exact LeO.none _
  |(with_reducible first|exact fun r h => at_rounds (aQ.mono _ _) hk h|exact bA.le hk|refine LeO.bind ?_ (fun _ => ?_)|refine LeO.iA Iff.rfl (fun _ => ?_) (fun _ => ?_))
  |exact fun r h => at_rounds (aQ.mono _ _) hk h
  |exact bA.le hk
  |exact LeO.refl _
  |(with_reducible first|refine LeO.pos (by assumption) ?_|refine LeO.neg (by assumption) ?_|refine LeO.mV (by assumption) ?_|refine LeO.nE (by assumption) ?_|refine LeO.iA (by omega) (fun _ => ?_) (fun _ => ?_))
theorem dG.calls (k : Nat) (a0 a1 : Int) (a2 a3 r1 : Int) (r2 r3 : Bool) (r4 r5 r6 : Bool) (w : World) (h : dG.f k a0 a1 a2 a3 = some (r1, r2, r3, r4, r5, r6)) :
  Calls Try.prog 101 #[.int .i64 a0, .int .i64 a1, .int .u32 a2, .int .u32 a3] w fun e w' => e = .returned (.tuple #[.int .u32 r1, .agg #[.bool r2, .bool r3, .bool r4, .bool r5, .bool r6]]) ∧ Below w.heap.size w w' :=
 Go.Proofs.Ytfapjegkilljnaa.Ek.jG L.dG.ok k ((a0, ()), (a1, ()), (a2, ()), (a3, ()), ()) (r1, r2, r3, r4, r5, r6) rfl (dG.le (Nat.le_refl _) _ h) w
attribute [local go_sem] max2_int min2_int max_two min_two max_three min_three max_four min_four

-- NEED 4
/-! ### jA: function 86 -/
def jA.f (k : Nat) (a0 a1 : Int) : Option (Int) := (dG.f k 2 0 a0 a1).bind fun bt520 => (some bt520.1)
theorem jA.calls (k : Nat) (a0 a1 r : Int) (w : World) (h : jA.f k a0 a1 = some r) :
  Calls Try.prog 86 #[.int .u32 a0, .int .u32 a1] w fun e w' => e = .returned (.int .u32 r) ∧ Below w.heap.size w w' := by
 have hu60 := Try.underlying60
 have HB := Aside0.mk (Below.refl w.heap.size w)
 have H : ((dG.f k 2 0 a0 a1).bind fun bt520 => (some bt520.1)) = some r := h
 clear h
 replace H := bq_ H
 obtain ⟨⟨t520, t521, t522, t523, t524, t525⟩, A30, H⟩ := H
 replace H : (some t520) = some r := H
 have A3 := Aside0.mk A30
 clear A30
 obtain rfl := Option.some.inj H
 go_enter Try.func86, Try.ntmps86
 go_wp2_with (first | ((with_reducible refine gate_callee (f := 101) rfl ?_); refine goesL_ (some 10) rfl rfl Try.func101 (by kernel_rfl) rfl #[.int .i64 2, .int .i64 0, .int .u32 a0, .int .u32 a1] rfl gl ?_; (with_reducible refine (dG.calls k 2 0 a0 a1 t520 t521 t522 t523 t524 t525 _ A3.out).mono ?_); rintro e w4 ⟨rfl, hb⟩; refine ⟨_, rfl, ?_⟩; have n0_ := Aside0.mk (below_step (bl0 HB.out) hb); clear HB; have HB := n0_; clear n0_) | ((with_reducible refine gate_dst (N := 6) rfl ?_); refine box_event ?hg (N := 6) ?hd (cs := F5) (t := 60) ?hr ?_; (case hd => rfl); (case hg => rfl); (case hr => first | (go_simp; done) | (go_simp; rfl)); intro gb526 hg w5 hbox hb; have n0_ := Aside0.mk (below_step (bl0 HB.out) hb); have n1_ := Aside0.mk (hbox); have n2_ := Aside0.mk ((by rw [hg]; exact (below_size (bl0 HB.out)) : w.heap.size ≤ gb526)); have n3_ := n2_; clear HB; have HB := n0_; have BK526 := n1_; have GW526 := n2_; have GE526 := n3_; clear n0_ n1_ n2_ n3_; clear hb hbox hg; obtain ⟨hcz6_0, hcz6_1, hcz6_2, hcz6_3, hcz6_4⟩ := bc5 BK526.out; obtain ⟨hfz6_0, hfz6_1, hfz6_2, hfz6_3, hfz6_4⟩ := bf5 BK526.out))
 go_ret
 exact ⟨by first | rfl | (simp [bK, bL] <;> rfl) | (simp [*, bK, bL] <;> rfl), bl1 HB.out GE526.out⟩

attribute [local go_sem] max2_int min2_int max_two min_two max_three min_three max_four min_four

-- NEED 3
/-! ### iV: function 87 -/
def iV.f (k : Nat) (a0 a1 : Int) : Option (Int) := (bA.f k 2 0 a0 a1).bind fun bt527 => (some bt527.1)
theorem iV.calls (k : Nat) (a0 a1 r : Int) (w : World) (h : iV.f k a0 a1 = some r) :
  Calls Try.prog 87 #[.int .u32 a0, .int .u32 a1] w fun e w' => e = .returned (.int .u32 r) ∧ Below w.heap.size w w' := by
 have hu60 := Try.underlying60
 have HB := Aside0.mk (Below.refl w.heap.size w)
 have H : ((bA.f k 2 0 a0 a1).bind fun bt527 => (some bt527.1)) = some r := h
 clear h
 replace H := bq_ H
 obtain ⟨⟨t527, t528, t529, t530, t531, t532⟩, A30, H⟩ := H
 replace H : (some t527) = some r := H
 have A3 := Aside0.mk A30
 clear A30
 obtain rfl := Option.some.inj H
 go_enter Try.func87, Try.ntmps87
 go_wp2_with (first | ((with_reducible refine gate_callee (f := 102) rfl ?_); refine goesL_ (some 10) rfl rfl Try.func102 (by kernel_rfl) rfl #[.int .i64 2, .int .i64 0, .int .u32 a0, .int .u32 a1] rfl gl ?_; (with_reducible refine (bA.calls k 2 0 a0 a1 t527 t528 t529 t530 t531 t532 _ A3.out).mono ?_); rintro e w4 ⟨rfl, hb⟩; refine ⟨_, rfl, ?_⟩; have n0_ := Aside0.mk (below_step (bl0 HB.out) hb); clear HB; have HB := n0_; clear n0_) | ((with_reducible refine gate_dst (N := 6) rfl ?_); refine box_event ?hg (N := 6) ?hd (cs := F5) (t := 60) ?hr ?_; (case hd => rfl); (case hg => rfl); (case hr => first | (go_simp; done) | (go_simp; rfl)); intro gb533 hg w5 hbox hb; have n0_ := Aside0.mk (below_step (bl0 HB.out) hb); have n1_ := Aside0.mk (hbox); have n2_ := Aside0.mk ((by rw [hg]; exact (below_size (bl0 HB.out)) : w.heap.size ≤ gb533)); have n3_ := n2_; clear HB; have HB := n0_; have BK533 := n1_; have GW533 := n2_; have GE533 := n3_; clear n0_ n1_ n2_ n3_; clear hb hbox hg; obtain ⟨hcz6_0, hcz6_1, hcz6_2, hcz6_3, hcz6_4⟩ := bc5 BK533.out; obtain ⟨hfz6_0, hfz6_1, hfz6_2, hfz6_3, hfz6_4⟩ := bf5 BK533.out))
 go_ret
 exact ⟨by first | rfl | (simp [bK, bL] <;> rfl) | (simp [*, bK, bL] <;> rfl), bl1 HB.out GE533.out⟩

attribute [local go_sem] max2_int min2_int max_two min_two max_three min_three max_four min_four

-- NEED 2
/-! ### annealref10_Mul: function 15 -/
end Go.Proofs.Ytfapjegkilljnaa.P

/- Functions of single numbers: the program's, as plain numbers. -/
namespace Go.Proofs.Ytfapjegkilljnaa.Round
open Go.RowKit Go.Proofs.Ytfapjegkilljnaa.P Go.Proofs.Ytfapjegkilljnaa.Num Go.Proofs.Ytfapjegkilljnaa.BitsF Go.Proofs.Ytfapjegkilljnaa.Fmt Go.Proofs.YtfapjegkilljnaaW.PrintWords Go.Proofs.YtfapjegkilljnaaW.PrintLast Go.Proofs.YtfapjegkilljnaaW.PrintMore

theorem fadd_ev (a b : Nat) (ha : a < 4294967296) (hb : b < 4294967296) : Ev (fun k => iV.f k (a : Int) (b : Int)) ((sumN 2 0 a b : Nat) : Int) :=
 Ev.congr (fun k => by unfold iV.f; rfl) (Ev.bind (add_ev 2 0 a b ha hb) (Ev.now _))
theorem fsub_ev (a b : Nat) (ha : a < 4294967296) (hb : b < 4294967296) : Ev (fun k => jA.f k (a : Int) (b : Int)) ((subN 2 0 a b : Nat) : Int) :=
 Ev.congr (fun k => by unfold jA.f; rfl) (Ev.bind (sub_ev 2 0 a b ha hb) (Ev.now _))
theorem fmul_ev (a b : Nat) (ha : a < 4294967296) (hb : b < 4294967296) : Ev (fun k => iY.f k (a : Int) (b : Int)) ((mulN 2 0 a b : Nat) : Int) :=
 Ev.congr (fun k => by unfold iY.f; rfl) (Ev.bind (mul_ev 2 0 a b ha hb) (Ev.now _))
theorem yS (a b : Nat) (ha : a < 4294967296) (hb : b < 4294967296) : Ev (fun k => dN.f k (a : Int) (b : Int)) ((divN 2 0 a b : Nat) : Int) :=
 Ev.congr (fun k => by unfold dN.f; rfl) (Ev.bind (div_ev 2 0 a b ha hb) (Ev.now _))
theorem yL (a b c : Nat) (ha : a < 4294967296) (hb : b < 4294967296) (hc : c < 4294967296) : Ev (fun k => gV.f k (a : Int) (b : Int) (c : Int)) ((uN 2 0 a b c : Nat) : Int) :=
 Ev.congr (fun k => by unfold gV.f; rfl) (Ev.bind (wQ 2 0 a b c ha hb hc) (Ev.now _))
theorem fminus_f (a : Nat) (ha : a < 4294967296) : gM.f (a : Int) = some ((jE 2 a : Nat) : Int) := by
 unfold gM.f; rw [zV 2 a ha, Option.bind_some]
end Go.Proofs.Ytfapjegkilljnaa.Round

/- Roots: the program's, as plain numbers (for rounds without chapter 1). -/
namespace Go.Proofs.Ytfapjegkilljnaa.BitsF
open Go.RowKit Go.Proofs.Ytfapjegkilljnaa.P Go.Proofs.Ytfapjegkilljnaa.Num Go.Proofs.YtfapjegkilljnaaW.PrintWords Go.Proofs.YtfapjegkilljnaaW.PrintLast Go.Proofs.YtfapjegkilljnaaW.PrintMore

def gY : Nat → Nat → Nat → Nat
 |0, _, r => r
 |j + 1, v, r => if (r + 2 ^ j) * (r + 2 ^ j) ≤ v then gY j v (r + 2 ^ j) else gY j v r
def iX (v : Nat) : Nat := gY 32 v 0
theorem xU (j : Nat) : ∀ v r, r * r ≤ v → v < (r + 2 ^ j) * (r + 2 ^ j) → gY j v r * gY j v r ≤ v ∧ v < (gY j v r + 1) * (gY j v r + 1) := by
 induction j with
 |zero => intro v r h h'; exact ⟨h, h'⟩
 |succ j ih =>
  intro v r h h'
  unfold gY
  by_cases c : (r + 2 ^ j) * (r + 2 ^ j) ≤ v
  ·rw [if_pos c]; exact ih v _ c (by rw [Nat.add_assoc, ← Nat.mul_two, ← Nat.pow_succ]; exact h')
  ·rw [if_neg c]; exact ih v r h (by omega)
theorem yE (j : Nat) : ∀ v r n, r + 2 ^ j ≤ n → gY j v r < n := by
 induction j with
 |zero => intro v r n h; unfold gY; have := Nat.two_pow_pos 0; omega
 |succ j ih =>
  intro v r n h
  rw [Nat.pow_succ] at h
  unfold gY
  split
  ·exact ih _ _ _ (by omega)
  ·exact ih _ _ _ (by omega)
theorem rootN_is (v : Nat) (hv : v < 18446744073709551616) : iX v * iX v ≤ v ∧ v < (iX v + 1) * (iX v + 1) := xU 32 v 0 (by omega) (by omega)
theorem rootN_lt (v : Nat) : iX v < 4294967296 := yE 32 v 0 _ (by decide)
theorem sq_lt {a b : Nat} (h : a < b) : a * a < b * b := Nat.mul_self_lt_mul_self h
theorem sq32 {a : Nat} (h : a < 4294967296) : a * a < 18446744073709551616 := sq_lt (b := 4294967296) h
theorem beq_cast (a b : Nat) : (((a : Int) == (b : Int)) : Bool) = decide (a = b) := by
 by_cases h : a = b
 ·subst h; simp
 ·rw [beq_eq_false_iff_ne.mpr (by omega)]; simp [h]
theorem root_l0 (v j : Nat) : ∀ r k : Nat, r % 2 ^ j = 0 → r + 2 ^ j ≤ 4294967296 →
  bQ.l0 (j + 1 + k) (v : Int) (r : Int) ((2 ^ j / 2 : Nat) : Int) = some ((gY j v r : Int), decide (gY j v r * gY j v r = v)) := by
 induction j with
 |zero =>
  intro r k h h'
  rw [show 0 + 1 + k = k + 1 by omega, bQ.l0, if_neg (by decide)]
  rw [Nat.pow_zero] at h'
  unfold gY
  rw [show (r : Int) * (r : Int) = ((r * r : Nat) : Int) by simp, fB _ (sq32 (by omega)), beq_cast, Int.emod_eq_of_lt (by omega) (by omega)]
 |succ j ih =>
  intro r k h h'
  have hp := Nat.two_pow_pos j
  have e : 2 ^ (j + 1) / 2 = 2 ^ j := by rw [Nat.pow_succ, Nat.mul_div_cancel _ (by decide)]
  have e2 : ((2 ^ j : Nat) : Int) / 2 = ((2 ^ j / 2 : Nat) : Int) := by omega
  have hh : r % 2 ^ j = 0 := by
   rw [Nat.pow_succ] at h
   have := Nat.mod_mul_right_mod r (2 ^ j) 2
   rw [h] at this; simpa using this.symm
  rw [Nat.pow_succ] at h'
  rw [show j + 1 + 1 + k = (j + 1 + k) + 1 by omega, bQ.l0, e, if_pos (by omega), or_u64 _ _ (by omega) (by omega), pW r (2 ^ j) (j + 1) h (by rw [Nat.pow_succ]; omega)]
  rw [show ((r + 2 ^ j : Nat) : Int) * ((r + 2 ^ j : Nat) : Int) = (((r + 2 ^ j) * (r + 2 ^ j) : Nat) : Int) by simp, fB _ (sq32 (by omega)), e2]
  unfold gY
  by_cases c : (r + 2 ^ j) * (r + 2 ^ j) ≤ v
  ·rw [if_pos (by omega), if_pos c]
   exact ih (r + 2 ^ j) k (by rw [Nat.add_mod_right]; exact hh) (by omega)
  ·rw [if_neg (by omega), if_neg c]
   exact ih r k hh (by omega)
theorem root_ev (v : Nat) : Ev (fun k => bQ.f k (v : Int)) ((iX v : Int), decide (iX v * iX v = v)) :=
 Ev.of (bQ.mono _) (k := 33) (by
  have h := root_l0 v 32 0 0 (by decide) (by decide)
  rw [show ((2 ^ 32 / 2 : Nat) : Int) = 2147483648 by decide, show ((0 : Nat) : Int) = 0 from rfl] at h
  exact h)
end Go.Proofs.Ytfapjegkilljnaa.BitsF

/- Roots of numbers: the program's, as plain numbers. -/
namespace Go.Proofs.Ytfapjegkilljnaa.Round
open Go.RowKit Go.Proofs.Ytfapjegkilljnaa.P Go.Proofs.Ytfapjegkilljnaa.Num Go.Proofs.Ytfapjegkilljnaa.BitsF Go.Proofs.Ytfapjegkilljnaa.Fmt Go.Proofs.YtfapjegkilljnaaW.PrintWords Go.Proofs.YtfapjegkilljnaaW.PrintLast Go.Proofs.YtfapjegkilljnaaW.PrintMore

theorem rV (x : Int) : Int.tmod x 2 = 0 ↔ x % 2 = 0 := by
 constructor
 ·intro h
  have := Int.mul_tdiv_add_tmod x 2
  omega
 ·intro h
  obtain ⟨y, rfl⟩ : ∃ y, x = 2 * y := ⟨x / 2, by omega⟩
  exact Int.mul_tmod_right ..
theorem sG (x : Int) (h : x % 2 = 0) : Int.tdiv x 2 = x / 2 := by
 obtain ⟨y, rfl⟩ : ∃ y, x = 2 * y := ⟨x / 2, by omega⟩
 rw [Int.mul_tdiv_cancel_left y (by decide)]; omega
def jP (f : Int) (a : Nat) : Nat := if (bF f a - (dV f a : Int)) % 2 = 0 then dV f a else dV f a - 1
def gX (f : Int) (a : Nat) : Nat := bM f a * 2 ^ jP f a
def sideN (f mode : Int) (a : Nat) : Nat := mW f mode false ((bF f a - (jP f a : Int)) / 2) (iX (gX f a)) (!decide (iX (gX f a) * iX (gX f a) = gX f a))
def sideX (f mode : Int) (a : Nat) : Bool × Bool × Bool := excN f mode false ((bF f a - (jP f a : Int)) / 2) (iX (gX f a)) (!decide (iX (gX f a) * iX (gX f a) = gX f a))
def mU (f mode : Int) (a : Nat) : Nat :=
 if 4 ≤ bJ f a then nO f else if bJ f a = 0 then d9 f (cZ f a) else if cZ f a = true then nO f else if bJ f a = 3 then nQ f false else sideN f mode a
def sqrtX (f mode : Int) (a : Nat) : Bool × Bool × Bool × Bool × Bool :=
 if 4 ≤ bJ f a then (eZ f a, false, false, false, false) else if bJ f a = 0 then (false, false, false, false, false) else if cZ f a = true then (true, false, false, false, false) else if bJ f a = 3 then (false, false, false, false, false) else (false, false, sideX f mode a)
theorem uO (f : Int) (a : Nat) (h : bM f a ≠ 0) : (bF f a - (jP f a : Int)) % 2 = 0 ∧ jP f a ≤ dV f a ∧ dV f a ≤ jP f a + 1 ∧ 1152921504606846976 ≤ gX f a ∧ gX f a < 4611686018427387904 ∧ 1073741824 ≤ iX (gX f a) := by
 obtain ⟨k1, k2, k3, k4, k5⟩ := jH f a h
 have main : (bF f a - (jP f a : Int)) % 2 = 0 ∧ jP f a ≤ dV f a ∧ dV f a ≤ jP f a + 1 := by
  unfold jP; split <;> omega
 obtain ⟨m1, m2, m3⟩ := main
 have v1 : gX f a ≤ bM f a * 2 ^ dV f a := Nat.mul_le_mul_left _ (Nat.pow_le_pow_right (by decide) m2)
 have v2 : bM f a * 2 ^ dV f a ≤ gX f a * 2 := by
  unfold gX
  rw [Nat.mul_assoc, ← Nat.pow_succ]
  exact Nat.mul_le_mul_left _ (Nat.pow_le_pow_right (by decide) m3)
 have v3 : 1152921504606846976 ≤ gX f a := by omega
 refine ⟨m1, m2, m3, v3, by omega, ?_⟩
 obtain ⟨_, r2⟩ := rootN_is (gX f a) (by omega)
 rcases Nat.lt_or_ge (iX (gX f a)) 1073741824 with c | c
 ·have := Nat.mul_self_le_mul_self (show iX (gX f a) + 1 ≤ 1073741824 from c)
  omega
 ·exact c
theorem of_inf (f : Int) (v : Nat) (hv : v < 4294967296) (h : bJ f v = 3) : dL.f f (v : Int) = some (cZ f v, 0, 0, false) := by
 have he := xQ f v
 have hx : ¬ oW f v < gW f := fun c => by have := (pR f v).mpr c; omega
 have ht := gD f
 unfold dL.f dW.f
 rw [fC, Option.bind_some, qP f v hv, Option.bind_some]
 dsimp only
 rw [if_neg (by omega), uJ, Option.bind_some, if_pos (by omega)]; rfl
theorem zW (f mode : Int) (a : Nat) (ha : a < 4294967296) (h0 : bJ f a ≠ 0) (h3 : bJ f a < 3) (k0 : Int × Bool × Bool × Bool × Bool × Bool → Option (Int × Bool × Bool × Bool × Bool × Bool)) (hk : ∀ r, k0 r = some r) (c : Nat) (hc : c = jP f a) :
  Ev (fun k => (aH.f k (bM f a : Int) (-(c : Int))).bind fun bt636 => ((bQ.f k bt636.1).bind fun bt638 => ((aA.f k f mode false ((bF f a - (c : Int)) / 2) (IntKind.u64.wrap (bt638.1)) (!bt638.2)).bind fun bt640 => k0 bt640))) ((sideN f mode a : Int), false, false, sideX f mode a) := by
 subst hc
 have hw := lJ f a h0 h3
 obtain ⟨m1, m2, m3, v1, v2, v3⟩ := uO f a hw
 obtain ⟨k1, k2, k3, k4, k5⟩ := jH f a hw
 obtain ⟨l1, l2⟩ := dQ f a
 have hs := qQ f a
 have hr := rootN_lt (gX f a)
 refine Ev.bind (nP _ hs (-(jP f a : Int)) (by omega) (by omega)) ?_
 dsimp only
 rw [vH _ _ (show bM f a * 2 ^ jP f a < 18446744073709551616 by unfold gX at v2; omega)]
 refine Ev.bind (root_ev (gX f a)) ?_
 dsimp only
 have hp := lH f mode false ((bF f a - (jP f a : Int)) / 2) (iX (gX f a)) (!decide (iX (gX f a) * iX (gX f a) = gX f a)) (by omega)
 rw [jV _ (by omega) (by omega)] at hp
 rw [fB _ (by omega)]
 refine Ev.bind hp (Ev.congr (fun k => by rw [hk]; rfl) (Ev.now _))
theorem aAc (f mode : Int) (a : Nat) (ha : a < 4294967296) : Ev (fun k => bY.f k f mode (a : Int)) ((mU f mode a : Int), sqrtX f mode a) := by
 refine Ev.congr (fun k => by unfold bY.f; rfl) (Ev.bind (aAb f a ha) ?_)
 have hle := pI f a
 unfold mU sqrtX
 by_cases c4 : 4 ≤ bJ f a
 ·rw [if_pos c4, if_pos c4]
  exact Ev.congr (fun k => by rw [if_pos (show dO f a = true from decide_eq_true c4)]) (Ev.now _)
 ·rw [if_neg c4, if_neg c4]
  have n4 : ¬ dO f a = true := by unfold dO; simp; omega
  by_cases c3 : bJ f a = 3
  ·refine Ev.congr (fun k => by rw [if_neg n4, of_inf f a ha c3, Option.bind_some]) (Ev.bind (kG f a ha) ?_)
   rw [if_neg (show ¬ bJ f a = 0 by omega), if_neg (show ¬ bJ f a = 0 by omega), decide_eq_false (show ¬ bJ f a = 0 by omega)]
   dsimp only
   cases hn : cZ f a
   ·rw [if_neg (show ¬ false = true by decide), if_neg (show ¬ false = true by decide), if_pos c3, if_pos c3]
    exact Ev.congr (fun k => by rw [if_neg (show ¬ false = true by decide), if_neg (show ¬ false = true by decide)]) (Ev.bind (fH f a ha) (Ev.congr (fun k => by rw [if_pos (decide_eq_true c3), sV]; rfl) (Ev.now _)))
   ·rw [if_pos (show true = true from rfl), if_pos (show true = true from rfl)]
    exact Ev.congr (fun k => by rw [if_neg (show ¬ false = true by decide), if_pos (show true = true from rfl), wV]; rfl) (Ev.now _)
  ·refine Ev.congr (fun k => by rw [if_neg n4, of_f f a ha (iN f a (by omega)), Option.bind_some]) (Ev.bind (kG f a ha) ?_)
   dsimp only
   by_cases c0 : bJ f a = 0
   ·rw [if_pos c0, if_pos c0]
    exact Ev.congr (fun k => by rw [if_pos (decide_eq_true c0), rQ]; rfl) (Ev.now _)
   ·rw [if_neg c0, if_neg c0, decide_eq_false c0]
    cases hn : cZ f a
    ·rw [if_neg (show ¬ false = true by decide), if_neg (show ¬ false = true by decide), if_neg c3, if_neg c3]
     refine Ev.congr (fun k => by rw [if_neg (show ¬ false = true by decide), if_neg (show ¬ false = true by decide)]) (Ev.bind (fH f a ha) ?_)
     have hs := qQ f a
     have hw := lJ f a c0 (by omega)
     obtain ⟨k1, k2, k3, k4, k5⟩ := jH f a hw
     obtain ⟨l1, l2⟩ := dQ f a
     refine Ev.congr (fun k => by rw [if_neg (by simp [c3])]) (Ev.bind (pJ _ hs) ?_)
     have e1 : wrap64 (62 - (iG (bM f a) : Int)) = (dV f a : Int) := by rw [bT _ (by omega) (by omega)]; omega
     have e2 : wrap64 (bF f a - (dV f a : Int)) = bF f a - (dV f a : Int) := bT _ (by omega) (by omega)
     have e3 : wrap64 (-(dV f a : Int)) = -(dV f a : Int) := bT _ (by omega) (by omega)
     have e4 : wrap64 ((dV f a : Int) - 1) = ((dV f a - 1 : Nat) : Int) := by rw [bT _ (by omega) (by omega)]; omega
     have e5 : wrap64 (-((dV f a - 1 : Nat) : Int)) = -((dV f a - 1 : Nat) : Int) := bT _ (by omega) (by omega)
     have e6 : wrap64 (bF f a - ((dV f a - 1 : Nat) : Int)) = bF f a - ((dV f a - 1 : Nat) : Int) := bT _ (by omega) (by omega)
     by_cases ev : (bF f a - (dV f a : Int)) % 2 = 0
     ·have hl : dV f a = jP f a := by unfold jP; rw [if_pos ev]
      have e7 : wrap64 (Int.tdiv (bF f a - (dV f a : Int)) 2) = (bF f a - (dV f a : Int)) / 2 := by rw [sG _ ev, bT _ (by omega) (by omega)]
      have h := zW f mode a ha c0 (by omega) some (fun r => rfl) _ hl
      refine Ev.congr (fun k => ?_) h
      rw [e1, e2, if_pos ((rV _).mpr ev), e3, e7]
     ·have hl : dV f a - 1 = jP f a := by unfold jP; rw [if_neg ev]
      have e7 : wrap64 (Int.tdiv (bF f a - ((dV f a - 1 : Nat) : Int)) 2) = (bF f a - ((dV f a - 1 : Nat) : Int)) / 2 := by rw [sG _ (by omega), bT _ (by omega) (by omega)]
      have h := zW f mode a ha c0 (by omega) some (fun r => rfl) _ hl
      refine Ev.congr (fun k => ?_) h
      rw [e1, e2, if_neg (fun h => ev ((rV _).mp h)), e4, e5, e6, e7]
    ·rw [if_pos (show true = true from rfl), if_pos (show true = true from rfl)]
     exact Ev.congr (fun k => by rw [if_neg (show ¬ false = true by decide), if_pos (show true = true from rfl), wV]; rfl) (Ev.now _)
end Go.Proofs.Ytfapjegkilljnaa.Round

/- annealseat.Params as the closed reckoner has it: of known widths, of whatever numbers. -/
namespace Go.Proofs.Ytfapjegkilljnaa.Xe
open Go.RowKit Go.Proofs.YtfapjegkilljnaaW.PrintWords Go.Proofs.YtfapjegkilljnaaW.PrintLast Go.Proofs.YtfapjegkilljnaaW.PrintMore
def parT (id : Nat) (l m : Tm) (i j : Nat) : Tm := .f id (.c l (.c m (.c (.l (.ofNat i)) (.l (.ofNat j)))))
def parN (id : Nat) (l m : Tm) (i : Nat) : Nat → Nat → List C
 |0, _ => []
 |n + 1, j => .i .u32 (parT id l m i j) :: parN id l m i n (j + 1)
def zT (id : Nat) (l m : Tm) (i : Nat) : Nat → Nat → (List C → Bool) → Bool
 |0, _, K => K []
 |n + 1, j, K => eG (Nat.succ j) fun j' => zT id l m i n j' fun r => K (.i .u32 (.f id (.c l (.c m (.c (.l (.ofNat i)) (.l (.ofNat j)))))) :: r)
theorem yT (id : Nat) (l m : Tm) (i : Nat) : ∀ (n j : Nat) (K : List C → Bool), zT id l m i n j K = K (parN id l m i n j) := by
 intro n
 induction n with
 |zero => intro j K; rfl
 |succ n ih => intro j K; rw [zT, dK, ih]; rfl
def numV (g : Nat → Int) : Nat → Nat → List Value
 |0, _ => []
 |n + 1, j => .int .u32 (g j) :: numV g n (j + 1)
def ParC (w : World) (base e : Nat) (g : Nat → Nat → Int) : List Nat → Nat → List Value → Prop
 |a :: b :: r, i, cs => ∃ vw vb q, cs = .int .i64 (b : Int) :: .int .i64 (a : Int) :: .int .i64 2 :: vw :: .int .i64 1 :: .int .i64 (b : Int) :: .int .i64 2 :: vb :: q ∧
  w.ownsRow base e 1 vw (a * b) (numV (g i) (a * b) 0) ∧ w.ownsRow base e 1 vb b (numV (g i) b 0) ∧ ParC w base e g (b :: r) (i + 1) q
 |_, _, cs => cs = []
noncomputable def parK (id e : Nat) (l m : Tm) : List Nat → Nat → Hp → (List C → Hp → Bool) → Bool
 |a :: q, i, h, K => match q with
  |b :: r => eG (Nat.mul a b) fun ab => zT id l m i ab 0 fun ws => zT id l m i b 0 fun bs =>
   addK h e 1 ws fun g h => addK h e 1 bs fun g' h => eG (Nat.succ i) fun i' => parK id e l m (b :: r) i' h fun cs h =>
    K (.i .i64 (.l (.ofNat b)) :: .i .i64 (.l (.ofNat a)) :: .i .i64 (.l 2) :: .sl g 0 1 ab :: .i .i64 (.l 1) :: .i .i64 (.l (.ofNat b)) :: .i .i64 (.l 2) :: .sl g' 0 1 b :: cs) h
  |[] => K [] h
 |[], _, h, K => K [] h
def litsK : List C → (List Nat → Bool) → Bool
 |[], K => K []
 |.i k (.l (.ofNat n)) :: r, K => cnd (Nat.beq (fM k) 3 && Nat.blt 0 n && Nat.ble n 1000) (eG n fun n => litsK r fun q => K (n :: q)) false
 |_, _ => false
def boolT : BE → Option Tm
 |.tt => some (.l 1)
 |.ff => some (.l 0)
 |.q t => some t
 |_ => none
def isF : Option Bool → Bool
 |some false => true
 |_ => false
noncomputable def rowT (mx : Nat) (h : Hp) : C → Option Tm
 |.u g => match look h.us g with
  |some (.ro k t) => cnd (Nat.beq (fM k) 6 && isF (known h.pc (.lt (.l (.ofNat mx)) (.len t)))) (some t) none
  |_ => none
 |_ => none
noncomputable def parE (mx id e e' : Nat) : Fc := fun args h K => match args with
 |[.one w, .one l, .one (.b m)] => match w with
  |.sl wg wo wz wn => match fQ h 1 (.sl wg wo wz wn) with
   |some cs => litsK cs fun ws => match rowT mx h l with
    |some t => match boolT m with
     |some m => cnd (Nat.blt 1 ws.length && Nat.ble ws.length 1000) (parK id e t m ws 0 h fun cs h => addK h e' 8 cs fun g h => eG (Nat.sub ws.length 1) fun n => K (.pv (.one (.sl g 0 8 n))) h) false
     |none => false
    |none => false
   |none => false
  |_ => false
 |_ => false
section
variable [Rho] {w0 : World} {A : Nat → Prop} {m : M} {h : Hp} {w : World}
theorem rO (m : M) (id : Nat) (l mt : Tm) (i : Nat) : ∀ n j, vals m (parN id l mt i n j) = numV (fun j => (parT id l mt i j).d) n j := by
 intro n
 induction n with
 |zero => intro j; rfl
 |succ n ih => intro j; show _ :: vals m (parN id l mt i n (j + 1)) = _; rw [ih]; rfl
theorem vF {id : Nat} {l mt : Tm} {i : Nat} (hr : ∀ j, IntKind.u32.has (parT id l mt i j).d) : ∀ n j, oks A (parN id l mt i n j) := by
 intro n
 induction n with
 |zero => intro j c hc; cases hc
 |succ n ih =>
  intro j c hc
  rcases List.mem_cons.1 hc with rfl | hc
  ·exact hr j
  ·exact ih _ c hc
theorem parK_v {id e base : Nat} {l mt : Tm} {g : Nat → Nat → Int} (hg : ∀ i j, (parT id l mt i j).d = g i j) (hr : ∀ i j, IntKind.u32.has (g i j)) : ∀ (ws : List Nat) (i : Nat) (h : Hp) (A : Nat → Prop) (m : M) (K : List C → Hp → Bool) (cs : List Value),
  (∀ a ∈ ws, 0 < a ∧ a ≤ 1000) → gQ w0 A m h w → (∀ j x, look h.heap j = some x → x.2.2.1 = true → m.b j < base) → ParC w base e g ws i cs → parK id e l mt ws i h K = true →
  ∃ (A' : Nat → Prop) (m' : M) (h' : Hp) (q : List C), K q h' = true ∧ gQ w0 A' m' h' w ∧ Grow none A A' m m' h h' ∧ oks A' q ∧ vals m' q = cs ∧ (∀ j x, look h'.heap j = some x → x.2.2.1 = true → m'.b j < base) := by
 intro ws
 induction ws with
 |nil => intro i h A m K cs _ r hf hc hk; exact ⟨A, m, h, [], hk, r, .refl _ _ _ _, fun c hc => (by cases hc), hc.symm, hf⟩
 |cons a ws ih =>
  intro i h A m K cs hp r hf hc hk
  cases ws with
  |nil => exact ⟨A, m, h, [], hk, r, .refl _ _ _ _, fun c hc => (by cases hc), hc.symm, hf⟩
  |cons b ws =>
   obtain ⟨vw, vb, q, rfl, c1, c2, c3⟩ := hc
   have ha := hp a (by simp)
   have hb := hp b (by simp)
   have fit : ∀ n : Nat, n ≤ 1000 → IntKind.i64.has (n : Int) := fun n hn => by
    show (-9223372036854775808 : Int) ≤ n ∧ (n : Int) ≤ 9223372036854775807
    omega
   rw [parK, dK, yT, yT] at hk
   have eg : ∀ n, vals m (parN id l mt i n 0) = numV (g i) n 0 := fun n => by rw [rO]; simp only [hg]
   obtain ⟨A1, m1, h1, g1, k1, r1, w1, a1, e1, f1⟩ := uL (n := a * b) r (vF (fun j => by rw [hg]; exact hr i j) _ _) (by rw [show Nat.mul a b = a * b from rfl, eg]; exact c1) (Nat.mul_pos ha.1 hb.1) hf hk
   have eg1 : ∀ n, vals m1 (parN id l mt i n 0) = numV (g i) n 0 := fun n => by rw [rO]; simp only [hg]
   obtain ⟨A2, m2, h2, g2, k2, r2, w2, a2, e2, f2⟩ := uL (n := b) r1 (vF (fun j => by rw [hg]; exact hr i j) _ _) (by rw [eg1]; exact c2) hb.1 f1 k1
   rw [dK] at k2
   obtain ⟨A3, m3, h3, p, k3, r3, w3, a3, e3, f3⟩ := ih (i + 1) h2 A2 m2 _ q (fun x hx => hp x (List.mem_cons_of_mem _ hx)) r2 f2 c3 k2
   have g12 := w1.trans w2
   have g13 := g12.trans w3
   refine ⟨A3, m3, h3, _, k3, r3, g13, ?_, ?_, f3⟩
   ·intro c hc
    simp only [List.mem_cons] at hc
    rcases hc with rfl | rfl | rfl | rfl | rfl | rfl | rfl | rfl | hc
    ·exact fit b hb.2
    ·exact fit a ha.2
    ·exact fit 2 (by decide)
    ·exact w3.sub _ (w2.sub _ a1)
    ·exact fit 1 (by decide)
    ·exact fit b hb.2
    ·exact fit 2 (by decide)
    ·exact w3.sub _ a2
    ·exact a3 c hc
   ·have x1 : (C.sl g1 0 1 (a * b)).v m3 = vw := by
     rw [e1]
     exact C.eF ((w2.trans w3).ext) (show (C.sl g1 0 1 (a * b)).ok A1 from a1)
    have x2 : (C.sl g2 0 1 b).v m3 = vb := by
     rw [e2]
     exact C.eF w3.ext (show (C.sl g2 0 1 b).ok A2 from a2)
    show Value.int .i64 (b : Int) :: Value.int .i64 (a : Int) :: Value.int .i64 2 :: (C.sl g1 0 1 (a * b)).v m3 :: Value.int .i64 1 :: Value.int .i64 (b : Int) :: Value.int .i64 2 :: (C.sl g2 0 1 b).v m3 :: vals m3 p = _
    rw [x1, x2, e3]
theorem litsK_v : ∀ {cs : List C} {K : List Nat → Bool}, litsK cs K = true → ∃ ws : List Nat, K ws = true ∧ (∀ a ∈ ws, 0 < a ∧ a ≤ 1000) ∧ ∀ m : M, vals m cs = ws.map fun n : Nat => Value.int .i64 n := by
 intro cs
 induction cs with
 |nil => intro K hk; exact ⟨[], hk, fun a ha => (by cases ha), fun _ => rfl⟩
 |cons c r ih =>
  intro K hk
  unfold litsK at hk
  split at hk
  ·next e => cases e
  ·next k n r' e =>
   cases e
   have h9 := btf hk
   clear hk
   obtain ⟨h1, hk⟩ := h9
   rw [dK] at hk
   simp only [Bool.and_eq_true] at h1
   obtain ⟨⟨h1, h2⟩, h3⟩ := h1
   obtain rfl : k = .i64 := fO (k' := .i64) h1
   have h2 : 0 < n := Nat.le_of_ble_eq_true h2
   have h3 := Nat.le_of_ble_eq_true h3
   obtain ⟨q, k1, k2, k3⟩ := ih hk
   refine ⟨n :: q, k1, fun a ha => ?_, fun m => ?_⟩
   ·rcases List.mem_cons.1 ha with rfl | ha
    ·exact ⟨h2, h3⟩
    ·exact k2 a ha
   ·show _ :: vals m _ = _; rw [k3]; rfl
  ·cases hk
theorem l5 (r : gQ w0 A m h w) {g o n : Nat} {cs : List C} (hs : fQ h 1 (.sl g o 1 n) = some cs) {k : IntKind} {xs : List Int} (hv : vals m cs = xs.map (Value.int k)) : ∃ ad c, (C.sl g o 1 n).v m = .slice ad xs.length c ∧ xs.length ≤ c ∧ Kd.C (Kd.int k) w ad xs.length xs := by
 obtain ⟨h1, h2, h3, h4, h5, h6⟩ := fT (s := ⟨.e, h⟩) r (by decide) hs
 have e : xs.length = n := by
  have := congrArg List.length hv
  rw [bB, h3, List.length_map] at this
  omega
 refine ⟨_, _, by rw [e]; rfl, by omega, rfl, ?_, fun _ => ⟨_, rfl, fun j p hj => ⟨[.int k p], rfl, rfl, fun i u hu => ?_⟩⟩⟩
 ·simp only [maxLen] at h5
  omega
 ·have hi : i = 0 := by
   cases i with
   |zero => rfl
   |succ i => cases hu
  subst hi
  cases hu
  have hk : (Kd.int k).sz = 1 := rfl
  have e9 : j * (Kd.int k).sz + 0 = j := by rw [hk, Nat.mul_one]; rfl
  rw [e9]
  refine h6 j _ ?_
  rw [hv, List.getElem?_map, hj]
  rfl
end
theorem oN {h : Hp} {z g o z' n : Nat} {cs : List C} (hs : fQ h z (.sl g o z' n) = some cs) : z' = z := by
 unfold fQ at hs
 exact (Nat.eq_of_beq_eq_true (dY hs).1).symm
section
variable [Rho] {P : Program}
theorem parE_ok {f : Nat} {fn : Func} (hf : P.funcs[f]? = some fn) (hb : fn.body.isSome = true) (hn : (fn.name == "runtime.NumGoroutine") = false) {mx id e e' : Nat} (hmx : mx ≤ 1000) {G : List Int → Bool → Nat → Nat → Int}
  (hF : ∀ (l m : U) (i j : Nat), (Rho.f id (.p l (.p m (.p (.n i) (.n j))))).int = G l.lst (!(m.int == 0)) i j) (hr : ∀ l b i j, IntKind.u32.has (G l b i j))
  (hc : ∀ (ws : List Nat) (l : List Int) (b : Bool) (aw al : Option Addr) (cw cl : Nat) (W : World), 1 < ws.length → ws.length ≤ cw → l.length ≤ cl → (∀ a ∈ ws, 0 < a ∧ a ≤ 1000) → ws.length ≤ 1000 → l.length ≤ 1000 → Kd.C (Kd.int .i64) W aw ws.length (ws.map fun n : Nat => (n : Int)) → Kd.C (Kd.int .u32) W al l.length l →
   Calls P f #[.slice aw ws.length cw, .slice al l.length cl, .bool b] W fun en W' => ∃ v cs, en = .returned v ∧ W'.ownsRow W.heap.size e' 8 v (ws.length - 1) cs ∧ ParC W' W.heap.size e (G l b) ws 0 cs ∧ Below W.heap.size W W') : jK P f (parE mx id e e') := by
 intro vs h K A m w w0 hrel hv hk
 refine ⟨⟨fn, hf, hb, hn⟩, ?_⟩
 unfold parE at hk
 split at hk
 ·next wc lc mb =>
  split at hk
  ·next wg wo wz wn =>
   split at hk
   ·next cs hcs =>
    obtain rfl := oN hcs
    obtain ⟨ws, k1, k2, k3⟩ := litsK_v hk
    split at k1
    ·next t ht =>
     split at k1
     ·next mt hmt =>
      have h9 := btf k1
      obtain ⟨l1, k4⟩ := h9
      rw [Bool.and_eq_true] at l1
      have l2 := Nat.le_of_ble_eq_true l1.2
      have l1 : 1 < ws.length := Nat.le_of_ble_eq_true l1.1
      -- the widths
      obtain ⟨aw, cw, v1, v3, v2⟩ := l5 hrel hcs (k := .i64) (xs := ws.map fun n : Nat => (n : Int)) (by rw [k3, List.map_map]; rfl)
      rw [List.length_map] at v1 v2 v3
      -- the numbers
      obtain ⟨al, cl, u1, u2, u3, u4⟩ : ∃ al cl, lc.v m = .slice al t.u.lst.length cl ∧ Kd.C (Kd.int .u32) w al t.u.lst.length t.u.lst ∧ t.u.lst.length ≤ 1000 ∧ t.u.lst.length ≤ cl := by
       unfold rowT at ht
       split at ht
       ·next g =>
        split at ht
        ·next k t' hl =>
         obtain ⟨q1, q2⟩ := dY ht
         cases q2
         rw [Bool.and_eq_true] at q1
         obtain rfl : k = .u32 := fO (k' := .u32) q1.1
         have q3 : known h.pc (.lt (.l (.ofNat mx)) (.len t)) = some false := by
          have q4 := q1.2
          unfold isF at q4
          split at q4
          ·next e => exact e
          ·cases q4
         have q5 : decide ((Int.ofNat mx : Int) < ((min t.u.lst.length vY : Nat) : Int)) = false := qJ hrel.pc q3
         have q6 := of_decide_eq_false q5
         have q7 : t.u.lst.length ≤ 1000 := by
          unfold vY at q6
          have : (Int.ofNat mx : Int) = (mx : Int) := rfl
          omega
         obtain ⟨_, _, ad, c, x1, x2, _, _, x4⟩ := hrel.us _ _ hl
         exact ⟨ad, c, x1, Kd.C_below x2 hrel.bel, q7, x4⟩
        ·cases ht
       ·cases ht
      -- the truth value
      have hbd : mb.d = !(mt.d == 0) := by
       unfold boolT at hmt
       split at hmt
       ·cases hmt; rfl
       ·cases hmt; rfl
       ·cases hmt; rfl
       ·cases hmt
      have ea : (([.one (.sl wg wo 1 wn), .one lc, .one (.b mb)] : List PV).map (PV.v m)).toArray = #[.slice aw ws.length cw, .slice al t.u.lst.length cl, .bool (!(mt.d == 0))] := by
       show #[(C.sl wg wo 1 wn).v m, lc.v m, Value.bool mb.d] = _
       rw [v1, u1, hbd]
      rw [ea]
      refine (hc ws t.u.lst _ aw al cw cl w l1 v3 u4 k2 l2 u3 v2 u2).mono ?_
      rintro en w' ⟨v, cs', rfl, c1, c2, c3⟩
      have r1 := hrel.grow c3
      have hfr : ∀ j x, look h.heap j = some x → x.2.2.1 = true → m.b j < w.heap.size := by
       intro j x hj _
       obtain ⟨e1, z1, wr1, cs1⟩ := x
       obtain ⟨_, _, _, _, rest, a5, _⟩ := hrel.heap j e1 z1 wr1 cs1 hj
       exact blk_lt a5
      obtain ⟨A1, m1, h1, q, k5, r2, w2, o2, e2, f2⟩ := parK_v (g := G t.u.lst (!(mt.d == 0))) (fun i j => hF _ _ i j) (fun i j => hr _ _ i j) ws 0 h A m _ cs' k2 r1 hfr c2 k4
      obtain ⟨A2, m2, h2, g2, k6, r3, w3, a3, e3, _⟩ := uL (n := ws.length - 1) r2 o2 (by rw [e2]; exact c1) (by omega) f2 k5
      rw [dK] at k6
      exact ⟨_, A2, m2, h2, k6, by rw [e3]; rfl, a3, r3, w2.trans w3⟩
     ·cases k1
    ·cases k1
   ·cases hk
  ·cases hk
 ·cases hk
end
end Go.Proofs.Ytfapjegkilljnaa.Xe

/- Numbers drawn, of any format at all: plain numbers. -/
namespace Go.Proofs.Ytfapjegkilljnaa.Round
open Go.RowKit Go.Proofs.Ytfapjegkilljnaa.P Go.Proofs.Ytfapjegkilljnaa.Num Go.Proofs.Ytfapjegkilljnaa.BitsF Go.Proofs.Ytfapjegkilljnaa.Fmt Go.Proofs.YtfapjegkilljnaaW.PrintWords Go.Proofs.YtfapjegkilljnaaW.PrintLast Go.Proofs.YtfapjegkilljnaaW.PrintMore

theorem any_in (n : Int) : ∃ m : Nat, IntKind.u32.wrap n = (m : Int) ∧ m < 4294967296 := by
 rw [nL]
 exact ⟨(n % 4294967296).toNat, by omega, by omega⟩
theorem uR (op : BinOp) (a b : Int) (h : op = .and ∨ op = .or) : ∃ m : Nat, Go.bits op .u32 a b = (m : Int) ∧ m < 4294967296 := by
 rcases h with rfl | rfl
 ·exact any_in _
 ·exact any_in _
theorem num_any (f : Int) (a : Nat) : ∃ x : Nat, aW.f f (a : Int) = some (x : Int) ∧ x < 4294967296 := by
 have e := Int.tmod_eq_emod_of_nonneg (b := 15) (Int.natCast_nonneg a)
 have hp : 0 ≤ Int.tmod (a : Int) 15 ∧ Int.tmod (a : Int) 15 < 15 := by rw [e]; omega
 have fin : ∀ y : Int, ∃ x : Nat, (if (a : Int) / 2147483648 = 1 then (some (d9 f true : Int)).bind (fun t => some (Go.bits .or .u32 (Go.bits .and .u32 y (maskN f : Int)) t)) else some (Go.bits .and .u32 y (maskN f : Int))) = some (x : Int) ∧ x < 4294967296 := by
  intro y
  by_cases c : (a : Int) / 2147483648 = 1
  ·rw [if_pos c, Option.bind_some]
   obtain ⟨m, h1, h2⟩ := uR .or (Go.bits .and .u32 y (maskN f : Int)) (d9 f true : Int) (.inr rfl)
   exact ⟨m, by rw [h1], h2⟩
  ·rw [if_neg c]
   obtain ⟨m, h1, h2⟩ := uR .and y (maskN f : Int) (.inl rfl)
   exact ⟨m, by rw [h1], h2⟩
 unfold aW.f
 rw [iM, Option.bind_some]
 dsimp only
 rcases pU f with ⟨h1, h2⟩ | ⟨h1, h2⟩ | ⟨h1, h2⟩
 ·rw [h1, h2, if_pos (by decide), if_pos (by decide), if_neg (by decide), if_pos (show (0 : Int) ≤ wrap64 (((10 : Nat) : Int) - 1) by unfold wrap64; omega), if_neg (by decide), Option.bind_some, if_pos hp.1, if_pos (by exact hp.2), lZ, Option.bind_some, kH]
  exact fin _
 ·rw [h1, h2, if_pos (by decide), if_pos (by decide), if_neg (by decide), if_pos (show (0 : Int) ≤ wrap64 (((7 : Nat) : Int) - 1) by unfold wrap64; omega), if_neg (by decide), Option.bind_some, if_pos hp.1, if_pos (by exact hp.2), lZ, Option.bind_some, kH]
  exact fin _
 ·rw [h1, h2, if_pos (by decide), if_pos (by decide), if_neg (by decide), if_pos (show (0 : Int) ≤ wrap64 (((23 : Nat) : Int) - 1) by unfold wrap64; omega), if_neg (by decide), Option.bind_some, if_pos hp.1, if_pos (by exact hp.2), lZ, Option.bind_some, kH]
  exact fin _
end Go.Proofs.Ytfapjegkilljnaa.Round

-- Printed by a program of this session's out of Lean's print of the translation; Lean checks it.
namespace Go.Proofs.Ytfapjegkilljnaa.P
open Go.RowKit Go.Proofs.YtfapjegkilljnaaW.PrintWords Go.Proofs.YtfapjegkilljnaaW.PrintLast Go.Proofs.YtfapjegkilljnaaW.PrintMore
attribute [local go_sem] max2_int min2_int max_two min_two max_three min_three max_four min_four

-- NEED 1
/-! ### aC: function 16 -/
mutual
def aC.l0 : Nat → Int → Int → Int → List Int → Bool → Int → Int → Int → Int → List Int → Option (Int × Int × Int × List Int)
 |0, _, _, _, _, _, _, _, _, _, _ => none
 |k + 1, x0, x1, x2, x3, x4, x12, x737000, x737001, x737002, x737003 => if x12 < (wrap64 (x0 * x1)) then (if (x3.length : Int) > 0 then (if (x3.length : Int) = 0 then (none) else (if 0 ≤ (Int.tmod x12 (x3.length : Int)) then (if (Int.tmod x12 (x3.length : Int)) < (x3.length : Int) then (aC.j1 k x0 x1 x2 x3 x4 x12 (((rd x3 (Int.tmod x12 (x3.length : Int))) + ((((wrap64 (Int.tdiv x12 (x3.length : Int))) % 4294967296) * 40503) % 4294967296)) % 4294967296) x737000 x737001 x737002 x737003) else (none)) else (none))) else (aC.j1 k x0 x1 x2 x3 x4 x12 ((((x12) % 4294967296) * 2654435761) % 4294967296) x737000 x737001 x737002 x737003)) else (some (x737000, x737001, x737002, x737003))
def aC.j1 : Nat → Int → Int → Int → List Int → Bool → Int → Int → Int → Int → Int → List Int → Option (Int × Int × Int × List Int)
 |0, _, _, _, _, _, _, _, _, _, _, _ => none
 |k + 1, x0, x1, x2, x3, x4, x12, x13, x737000, x737001, x737002, x737003 => if x4 = true then ((dD.f x2 x13).bind fun t738 => (if x737003.length < 35184372088832 then (aC.l0 k x0 x1 x2 x3 x4 (wrap64 (x12 + 1)) x737000 x737001 x737002 (x737003 ++ [t738])) else (none))) else ((aW.f x2 x13).bind fun t742 => (if x737003.length < 35184372088832 then (aC.l0 k x0 x1 x2 x3 x4 (wrap64 (x12 + 1)) x737000 x737001 x737002 (x737003 ++ [t742])) else (none)))
end
def aC.f (k : Nat) (a0 a1 a2 : Int) (l3 : List Int) (a4 : Bool) : Option (Int × Int × Int × List Int) := aC.l0 k a0 a1 a2 l3 a4 0 a0 a1 a2 ([] : List Int)
def aC.T7 : Bool × List (List Nat × List Nat) := (true, [([], []), ([], []), ([], []), ([2], [2]), ([1, 3], [1, 3]), ([0, 4], [0, 4]), ([5], [5]), ([], []), ([], []), ([8], [8]), ([7, 9], [7, 9]), ([10], [10]), ([11], [11]), ([6, 12], [6, 12]), ([13, 0, 1, 2, 3, 4, 5, 6, 7, 8, 9, 10, 11, 12, 13], [13])])
def aC.B7 : List Nat := [0, 0, 0, 4, 14, 31, 63, 0, 0, 256, 896, 1920, 3968, 8191, 16383]
theorem aC.tab7 : rtab .any (opsOf Try.f16 7) = aC.T7 := by kernel_rfl
theorem aC.bits7 : waitsOk aC.T7.2 aC.B7 = true := by kernel_rfl
def aC.T9 : Bool × List (List Nat × List Nat) := (true, [([], []), ([0], [0]), ([], []), ([], []), ([2, 3], [2, 3]), ([4], [4]), ([1, 5, 4], [1, 5]), ([0, 1, 2, 3, 4, 5, 6], []), ([7, 6, 6, 0, 1, 2, 3, 4, 5, 6], [6, 7])])
def aC.B9 : List Nat := [0, 1, 0, 0, 12, 28, 63, 127, 255]
theorem aC.tab9 : rtab .any (opsOf Try.f16 9) = aC.T9 := by kernel_rfl
theorem aC.bits9 : waitsOk aC.T9.2 aC.B9 = true := by kernel_rfl
def aC.T10 : Bool × List (List Nat × List Nat) := (true, [([], []), ([0], [0]), ([], []), ([], []), ([2, 3], [2, 3]), ([4], [4]), ([1, 5, 4], [1, 5]), ([0, 1, 2, 3, 4, 5, 6], []), ([7, 6, 6, 0, 1, 2, 3, 4, 5, 6], [6, 7])])
def aC.B10 : List Nat := [0, 1, 0, 0, 12, 28, 63, 127, 255]
theorem aC.tab10 : rtab .any (opsOf Try.f16 10) = aC.T10 := by kernel_rfl
theorem aC.yZ : waitsOk aC.T10.2 aC.B10 = true := by kernel_rfl
theorem aC.calls (k : Nat) (a0 a1 a2 : Int) (A3 : Option Addr) (c3 : Nat) (l3 : List Int) (a4 : Bool) (r1 r2 r3 : Int) (r4 : List Int) (w : World) (hr3 : Kd.C (Kd.int .u32) w A3 l3.length l3) (hc3 : l3.length ≤ c3) (h : aC.f k a0 a1 a2 l3 a4 = some (r1, r2, r3, r4)) :
  Calls Try.prog 16 #[.int .i64 a0, .int .i64 a1, .int .i64 a2, .slice A3 l3.length c3, .bool a4] w fun e w' => ∃ v3_ : Value, e = .returned (.agg #[.int .i64 r1, .int .i64 r2, .int .i64 r3, v3_]) ∧ Kd.R (Kd.int .u32) 25 w' w.heap.size (fun _ => True) v3_ r4 ∧ Below w.heap.size w w' := by
 have hu46 := Try.underlying46
 have HR3 := Aside0.mk hr3
 have HC3 := Aside0.mk hc3
 clear hr3 hc3
 have HB := Aside0.mk (Below.refl w.heap.size w)
 have H : (aC.l0 k a0 a1 a2 l3 a4 0 a0 a1 a2 ([] : List Int)) = some (r1, r2, r3, r4) := h
 clear h
 have H' := Aside0.mk H
 clear H
 go_enter Try.func16, Try.ntmps16
 go_wp2_with (first | ((with_reducible refine gate_dst (N := 10) rfl ?_); refine box_event ?hg (N := 10) ?hd (cs := #[.int .i64 0, .int .i64 0, .int .i64 0, .slice none 0 0]) (t := 46) ?hr ?_; (case hd => rfl); (case hg => rfl); (case hr => first | (go_simp; done) | (go_simp; rfl)); intro gb735 hg w6 hbox hb; have n0_ := Aside0.mk (below_step (bl0 HB.out) hb); have n1_ := Aside0.mk (hbox); have n2_ := Aside0.mk ((by rw [hg]; exact (below_size (bl0 HB.out)) : w.heap.size ≤ gb735)); have n3_ := n2_; clear HB; have HB := n0_; have BK735 := n1_; have GW735 := n2_; have GE735 := n3_; clear n0_ n1_ n2_ n3_; clear hb hbox hg) | ((with_reducible refine gate_dst (N := 11) rfl ?_); refine box_event ?hg (N := 11) ?hd (cs := #[.int .i64 0, .int .i64 0, .int .i64 0, .slice none 0 0]) (t := 46) ?hr ?_; (case hd => rfl); (case hg => rfl); (case hr => first | (go_simp; done) | (go_simp; rfl)); intro gb736 hg w7 hbox hb; have n0_ := Aside0.mk (blk_below (g := gb735) (o := .cells #[.int .i64 0, .int .i64 0, .int .i64 0, .slice none 0 0] 46 (0, 0)) (bv BK735.out) hb); have n1_ := Aside0.mk (below_step (bl1 HB.out GE735.out) hb); have n2_ := Aside0.mk (hbox); have n3_ := Aside0.mk ((by rw [hg]; exact (below_size (bl1 HB.out GE735.out)) : w.heap.size ≤ gb736)); have n4_ := n3_; have n5_ := Aside0.mk ((by rw [hg]; exact Nat.ne_of_lt (blk_lt (g := gb735) (o := .cells #[.int .i64 0, .int .i64 0, .int .i64 0, .slice none 0 0] 46 (0, 0)) (bv BK735.out)) : gb735 ≠ gb736)); have n6_ := Aside0.mk (Ne.symm n5_.out); clear BK735; clear HB; have BK735 := n0_; have HB := n1_; have BK736 := n2_; have GW736 := n3_; have GE736 := n4_; have NB735_736 := n5_; have NB736_735 := n6_; clear n0_ n1_ n2_ n3_ n4_ n5_ n6_; clear hb hbox hg; have hnb8 := NB736_735.out; have hnc8 := NB735_736.out; obtain ⟨hcz9_0, hcz9_1, hcz9_2, hcz9_3⟩ := bc4 BK736.out; obtain ⟨hfz9_0, hfz9_1, hfz9_2, hfz9_3⟩ := bf4 BK736.out))
 go_loopg [12] k (fun kq v12 w' => ∃ (x12_1 : Int) (x737003_1 : List Int) (u737003 : Value), v12 = .int .i64 x12_1 ∧ Aside0 (aC.l0 kq a0 a1 a2 l3 a4 x12_1 a0 a1 a2 x737003_1 = some (r1, r2, r3, r4)) ∧ Aside0 (kq ≤ k) ∧ Aside0 (Kd.R (Kd.int .u32) 25 w' w.heap.size (fun _ => True) u737003 x737003_1) ∧ Aside0 (w'.heap[gb735]? = some (.cells #[.int .i64 0, .int .i64 0, .int .i64 0, (.slice none 0 0)] 46 (0, 0))) ∧ Aside0 (w'.heap[gb736]? = some (.cells #[.int .i64 a0, .int .i64 a1, .int .i64 a2, u737003] 46 (0, 0))) ∧ Aside0 (Below w.heap.size w w'))
 case atStart => exact ⟨(0), (([] : List Int)), (.slice none 0 0), (gr_), H', ⟨Nat.le_refl _⟩, ⟨by first | exact Kd.R_nil _ _ _ _ _ | exact Kd.N_nil _ _ _ _ _ | exact Kd.V_nil _ _ _ _ _ | exact Kd.Q_nil _ _ _ _ _ | exact Kd.S_nil _ _ _ _ _⟩, ⟨by (with_reducible repeat first | apply bd | apply be | apply ba); refine blk_far ?_ NB735_736.out _; (with_reducible repeat first | apply bd | apply be | apply ba); refine blk_far ?_ NB735_736.out _; (with_reducible repeat first | apply bd | apply be | apply ba); refine blk_far ?_ NB735_736.out _; (with_reducible repeat first | apply bd | apply be | apply ba); refine blk_far ?_ NB735_736.out _; (with_reducible repeat first | apply bd | apply be | apply ba); exact BK735.out⟩, ⟨by (with_reducible repeat first | apply bd | apply be | apply ba); refine blk_put (cs := #[.int .i64 a0, .int .i64 a1, .int .i64 a2, .slice none 0 0]) ?_ 3 _ rfl; (with_reducible repeat first | apply bd | apply be | apply ba); refine blk_put (cs := #[.int .i64 a0, .int .i64 a1, .int .i64 0, .slice none 0 0]) ?_ 2 _ rfl; (with_reducible repeat first | apply bd | apply be | apply ba); refine blk_put (cs := #[.int .i64 a0, .int .i64 0, .int .i64 0, .slice none 0 0]) ?_ 1 _ rfl; (with_reducible repeat first | apply bd | apply be | apply ba); refine blk_put (cs := #[.int .i64 0, .int .i64 0, .int .i64 0, .slice none 0 0]) ?_ 0 _ rfl; (with_reducible repeat first | apply bd | apply be | apply ba); exact BK736.out⟩, ⟨bl2 HB.out GE735.out GE736.out⟩⟩
 case round =>
  clear H'
  try clear c1 p2 c3 p6 c8 hcz9_0 hcz9_1 hcz9_2 hcz9_3 hfz9_0 hfz9_1 hfz9_2 hfz9_3
  obtain ⟨x12_1, x737003_1, u737003, rfl, HA, HK1, HO_737003, BK735, BK736, HB⟩ := hrel
  cases gk with
  |zero => exact absurd HA.out (by simp [aC.l0])
  |succ k1 =>
   have H := HA.out
   clear HA
   simp only [aC.l0] at H
   by_cases c10 : x12_1 < (wrap64 (a0 * a1))
   ·rw [if_pos c10] at H
    have c10b0 : decide (x12_1 < (wrap64 (a0 * a1))) = true := decide_eq_true c10
    clear c10
    obtain ⟨ji11, hji11⟩ : ∃ j_ : Int, ((((x12_1) % 4294967296) * 2654435761) % 4294967296) = j_ := ⟨_, rfl⟩
    replace H : (if (l3.length : Int) > 0 then (if (l3.length : Int) = 0 then (none) else (if 0 ≤ (Int.tmod x12_1 (l3.length : Int)) then (if (Int.tmod x12_1 (l3.length : Int)) < (l3.length : Int) then (aC.j1 k1 a0 a1 a2 l3 a4 x12_1 (((rd l3 (Int.tmod x12_1 (l3.length : Int))) + ((((wrap64 (Int.tdiv x12_1 (l3.length : Int))) % 4294967296) * 40503) % 4294967296)) % 4294967296) a0 a1 a2 x737003_1) else (none)) else (none))) else (aC.j1 k1 a0 a1 a2 l3 a4 x12_1 ji11 a0 a1 a2 x737003_1)) = some (r1, r2, r3, r4) := by first | (rw [hji11] at H; exact H) | (simp only [hji11] at H ⊢; exact H)
    have hji11l : 0 ≤ ji11 := by rw [← hji11]; exact Int.emod_nonneg _ (by decide)
    have hji11h : ji11 ≤ 4294967295 := by have := Int.emod_lt_of_pos ((((x12_1) % 4294967296) * 2654435761)) (show (0 : Int) < 4294967296 by decide); omega
    have hji11w : (IntKind.u32.wrap (((x12_1) % 4294967296) * 2654435761)) = ji11 := (lL _).trans hji11
    (try (have hji11_ := hji11; simp only [Int.add_emod_emod, Int.emod_add_emod, Int.sub_emod_emod, Int.emod_sub_emod] at hji11_))
    have HC12 := Aside0.mk H
    clear H
    go_upto_if 30 with (fail)
    go_cut [13] (fun v13 wc => ∃ (kq : Nat) (x13_11 : Int), v13 = .int .u32 x13_11 ∧ Aside0 (aC.j1 kq a0 a1 a2 l3 a4 x12_1 x13_11 a0 a1 a2 x737003_1 = some (r1, r2, r3, r4)) ∧ Aside0 (kq ≤ k1) ∧ Aside0 (Kd.R (Kd.int .u32) 25 wc w.heap.size (fun _ => True) u737003 x737003_1) ∧ Aside0 (wc.heap[gb735]? = some (.cells #[.int .i64 0, .int .i64 0, .int .i64 0, (.slice none 0 0)] 46 (0, 0))) ∧ Aside0 (wc.heap[gb736]? = some (.cells #[.int .i64 a0, .int .i64 a1, .int .i64 a2, u737003] 46 (0, 0))) ∧ Aside0 (Below w.heap.size w wc))
    case first =>
     have H := HC12.out
     clear HC12
     by_cases c13 : (l3.length : Int) > 0
     ·rw [if_pos c13] at H
      have c13b0 : decide (0 < (l3.length : Int)) = true := decide_eq_true c13
      have c13b1 : decide (0 < l3.length) = true := decide_eq_true (by omega)
      clear c13
      (first | rw [c13b0] | rw [c13b1] | (simp only [i64_w, i32_w]; rw [c13b0]) | skip)
      by_cases c14 : (l3.length : Int) = 0
      ·rw [if_pos c14] at H
       exact absurd H (by simp)
      ·rw [if_neg c14] at H
       have c14b0 : ((l3.length : Int) == 0) = false := beq_eq_false_iff_ne.mpr c14
       have c14b1 : ((l3.length : Int) != 0) = true := bne_iff_ne.mpr c14
       have c14b2 : ¬ (l3 = []) := fun h_ => c14 (by rw [h_]; rfl)
       obtain ⟨ji15, hji15⟩ : ∃ j_ : Int, (Int.tmod x12_1 (l3.length : Int)) = j_ := ⟨_, rfl⟩
       replace H : (if 0 ≤ (ji15) then (if (ji15) < (l3.length : Int) then (aC.j1 k1 a0 a1 a2 l3 a4 x12_1 (((rd l3 (ji15)) + ((((wrap64 (Int.tdiv x12_1 (l3.length : Int))) % 4294967296) * 40503) % 4294967296)) % 4294967296) a0 a1 a2 x737003_1) else (none)) else (none)) = some (r1, r2, r3, r4) := by first | (rw [hji15] at H; exact H) | (simp only [hji15] at H ⊢; exact H)
       by_cases c16 : 0 ≤ (ji15)
       ·rw [if_pos c16] at H
        have c16b0 : decide (0 ≤ (ji15)) = true := decide_eq_true c16
        clear c16
        by_cases c17 : (ji15) < (l3.length : Int)
        ·rw [if_pos c17] at H
         have c17b0 : decide ((ji15) < (l3.length : Int)) = true := decide_eq_true c17
         clear c17
         obtain ⟨ji18, hji18⟩ : ∃ j_ : Int, ((((wrap64 (Int.tdiv x12_1 (l3.length : Int))) % 4294967296) * 40503) % 4294967296) = j_ := ⟨_, rfl⟩
         replace H : (aC.j1 k1 a0 a1 a2 l3 a4 x12_1 (((rd l3 (ji15)) + (ji18)) % 4294967296) a0 a1 a2 x737003_1) = some (r1, r2, r3, r4) := by first | (rw [hji18] at H; exact H) | (simp only [hji18] at H ⊢; exact H)
         have hji18l : 0 ≤ ji18 := by rw [← hji18]; exact Int.emod_nonneg _ (by decide)
         have hji18h : ji18 ≤ 4294967295 := by have := Int.emod_lt_of_pos ((((wrap64 (Int.tdiv x12_1 (l3.length : Int))) % 4294967296) * 40503)) (show (0 : Int) < 4294967296 by decide); omega
         have hji18w : (IntKind.u32.wrap (((wrap64 (Int.tdiv x12_1 (l3.length : Int))) % 4294967296) * 40503)) = ji18 := (lL _).trans hji18
         (try (have hji18_ := hji18; simp only [Int.add_emod_emod, Int.emod_add_emod, Int.sub_emod_emod, Int.emod_sub_emod] at hji18_))
         obtain ⟨ji19, hji19⟩ : ∃ j_ : Int, (((rd l3 (ji15)) + (ji18)) % 4294967296) = j_ := ⟨_, rfl⟩
         replace H : (aC.j1 k1 a0 a1 a2 l3 a4 x12_1 ji19 a0 a1 a2 x737003_1) = some (r1, r2, r3, r4) := by first | (rw [hji19] at H; exact H) | (simp only [hji19] at H ⊢; exact H)
         have hji19l : 0 ≤ ji19 := by rw [← hji19]; exact Int.emod_nonneg _ (by decide)
         have hji19h : ji19 ≤ 4294967295 := by have := Int.emod_lt_of_pos (((rd l3 (ji15)) + (ji18))) (show (0 : Int) < 4294967296 by decide); omega
         have hji19w : (IntKind.u32.wrap ((rd l3 (ji15)) + (ji18))) = ji19 := (lL _).trans hji19
         (try (have hji19_ := hji19; simp only [Int.add_emod_emod, Int.emod_add_emod, Int.sub_emod_emod, Int.emod_sub_emod] at hji19_))
         have H' := Aside0.mk H
         clear H
         try go_wp2
         have n0_ := Aside0.mk (Kd.R_drew HO_737003.out)
         have n1_ := Aside0.mk (blk_drew BK735.out)
         have n2_ := Aside0.mk (blk_drew BK736.out)
         have n3_ := Aside0.mk (below_drew1 HB.out)
         clear HO_737003
         clear BK735
         clear BK736
         clear HB
         have HO_737003 := n0_
         have BK735 := n1_
         have BK736 := n2_
         have HB := n3_
         clear n0_ n1_ n2_ n3_
         have p737 : 0 ≤ ((ji15) : Int) := of_decide_eq_true (by first | (with_reducible assumption) | assumption)
         have q737 : (ji15) < (l3.length : Int) := of_decide_eq_true (by first | (with_reducible assumption) | assumption)
         obtain ⟨ad737, e737, hx737_0⟩ := Kd.at_int HR3.out (ji15) p737 q737
         have hw737_0 := hx737_0
         cases e737
         replace hx737_0 := (HB.out.cell (World.block_lt_of_cell? w _ hx737_0)).trans hx737_0
         replace p737 := eq_true p737
         replace q737 := eq_true q737
         refine start_ (n := 15) (S := fun w' => w'.cell? (ad737.add ((ji15)).toNat) = some (.int .u32 (rd l3 (ji15)))) (ds := []) (tf 0 15) (by kernel_rfl) rfl rfl (((HB.out.cell (World.block_lt_of_cell? w _ hw737_0)).trans hw737_0)) (fun hHeld => ?_); refine with_tabW aC.tab7 aC.bits7 (fun HT_ HW_ => ?_)
         generalize wr.drew = w20 at HO_737003 BK735 BK736 HB hx737_0 hHeld ⊢
         refine pure_ (i := 0) (N := some 31) (v := ?_) (a' := ?_) (tf 1 14) rfl rfl (any_of HT_.out (by kernel_rfl)) (fun _ _ _ h => h) (Or.inl ⟨by rfl, ?_⟩) ?_ ?_
         rotate_left
         ·intro w'
          go_simp
          with_reducible rfl
         rotate_left
         ·simp only [Act.put, sb, sz, ss, i64_w, i32_w]
          rfl
         refine pure_ (i := 1) (N := some 32) (v := ?_) (a' := ?_) (tf 2 13) rfl rfl (any_of HT_.out (by kernel_rfl)) (fun _ _ _ h => h) (Or.inl ⟨by rfl, ?_⟩) ?_ ?_
         rotate_left
         ·intro w'
          go_simp
          with_reducible rfl
         rotate_left
         ·simp only [Act.put, sb, sz, ss, i64_w, i32_w]
          rfl
         refine pure_ (i := 2) (N := some 33) (v := ?_) (a' := ?_) (tf 3 12) rfl rfl (any_of HT_.out (by kernel_rfl)) (fun _ _ _ h => h) (Or.inl ⟨by rfl, ?_⟩) ?_ ?_
         rotate_left
         ·intro w'
          go_simp
          with_reducible rfl
         rotate_left
         ·simp only [Act.put, sb, sz, ss, i64_w, i32_w]
          rfl
         refine pure_ (i := 3) (N := some 34) (v := ?_) (a' := ?_) (tf 4 11) rfl rfl (any_of HT_.out (by kernel_rfl)) (fun _ _ _ h => h) (Or.inl ⟨by rfl, ?_⟩) ?_ ?_
         rotate_left
         ·intro w'
          go_simp
          with_reducible rfl
         rotate_left
         ·simp only [Act.put, sb, sz, ss, i64_w, i32_w]
          rfl
         refine pure_ (i := 4) (N := some 35) (v := ?_) (a' := ?_) (tf 5 10) rfl rfl (any_of HT_.out (by kernel_rfl)) (fun _ _ _ h => h) (Or.inl ⟨by rfl, ?_⟩) ?_ ?_
         rotate_left
         ·intro w'
          go_simp
          with_reducible rfl
         rotate_left
         ·simp only [Act.put, sb, sz, ss, i64_w, i32_w]
          rfl
         refine pure_ (i := 5) (N := some 36) (v := ?_) (a' := ?_) (tf 6 9) rfl rfl (any_of HT_.out (by kernel_rfl)) (fun _ _ _ h => h) (Or.inl ⟨by rfl, ?_⟩) ?_ ?_
         rotate_left
         ·intro w'
          go_simp
          with_reducible rfl
         rotate_left
         ·simp only [Act.put, sb, sz, ss, i64_w, i32_w]
          rfl
         refine pure_ (i := 7) (N := some 38) (v := ?_) (a' := ?_) #[true, true, true, true, true, true, false, true, false, false, false, false, false, false, false] rfl rfl (any_of HT_.out (by kernel_rfl)) (fun _ _ _ h => h) (Or.inl ⟨by rfl, ?_⟩) ?_ ?_
         rotate_left
         ·intro w'
          go_simp
          with_reducible rfl
         rotate_left
         ·simp only [Act.put, sb, sz, ss, i64_w, i32_w]
          rfl
         refine pure_ (i := 8) (N := some 39) (v := ?_) (a' := ?_) #[true, true, true, true, true, true, false, true, true, false, false, false, false, false, false] rfl rfl (any_of HT_.out (by kernel_rfl)) (fun _ _ _ h => h) (Or.inl ⟨by rfl, ?_⟩) ?_ ?_
         rotate_left
         ·intro w'
          go_simp
          with_reducible rfl
         rotate_left
         ·simp only [Act.put, sb, sz, ss, i64_w, i32_w]
          rfl
         refine pure_ (i := 9) (N := some 40) (v := ?_) (a' := ?_) #[true, true, true, true, true, true, false, true, true, true, false, false, false, false, false] rfl rfl (any_of HT_.out (by kernel_rfl)) (fun _ _ _ h => h) (Or.inl ⟨by rfl, ?_⟩) ?_ ?_
         rotate_left
         ·intro w'
          go_simp
          with_reducible rfl
         rotate_left
         ·simp only [Act.put, sb, sz, ss, i64_w, i32_w]
          rfl
         refine pure_ (i := 10) (N := some 41) (v := ?_) (a' := ?_) #[true, true, true, true, true, true, false, true, true, true, true, false, false, false, false] rfl rfl (any_of HT_.out (by kernel_rfl)) (fun _ _ _ h => h) (Or.inl ⟨by rfl, ?_⟩) ?_ ?_
         rotate_left
         ·intro w'
          go_simp
          with_reducible rfl
         rotate_left
         ·simp only [Act.put, sb, sz, ss, i64_w, i32_w]
          rfl
         refine pure_ (i := 11) (N := some 42) (v := ?_) (a' := ?_) #[true, true, true, true, true, true, false, true, true, true, true, true, false, false, false] rfl rfl (any_of HT_.out (by kernel_rfl)) (fun _ _ _ h => h) (Or.inl ⟨by rfl, ?_⟩) ?_ ?_
         rotate_left
         ·intro w'
          go_simp
          with_reducible rfl
         rotate_left
         ·simp only [Act.put, sb, sz, ss, i64_w, i32_w]
          rfl
         refine pure_ (i := 12) (N := some 43) (v := ?_) (a' := ?_) #[true, true, true, true, true, true, false, true, true, true, true, true, true, false, false] rfl rfl (any_of HT_.out (by kernel_rfl)) (fun _ _ _ h => h) (Or.inl ⟨by rfl, ?_⟩) ?_ ?_
         rotate_left
         ·intro w'
          go_simp
          with_reducible rfl
         rotate_left
         ·simp only [Act.put, sb, sz, ss, i64_w, i32_w]
          rfl
         refine take_ (i := 6) (N := some 37) (v := ?_) (a' := ?_) (tf 13 2) rfl rfl (take_ofW HT_.out HW_.out (by kernel_rfl)) (fun _ _ _ h => h) (Or.inl ⟨by rfl, ?_⟩) hHeld ?_ ?_
         rotate_left
         ·intro w' s0
          go_simp
          with_reducible rfl
         rotate_left
         ·simp only [Act.put, sb, sz, ss, i64_w, i32_w]
          rfl
         refine pure_ (i := 13) (N := some 44) (v := ?_) (a' := ?_) (tf 14 1) rfl rfl (any_of HT_.out (by kernel_rfl)) (fun _ _ _ h => h) (Or.inl ⟨by rfl, ?_⟩) ?_ ?_
         rotate_left
         ·intro w'
          go_simp
          with_reducible rfl
         rotate_left
         ·simp only [Act.put, sb, sz, ss, i64_w, i32_w]
          rfl
         refine pure_ (i := 14) (N := some 13) (v := ?_) (a' := ?_) (tf 15 0) rfl rfl (any_of HT_.out (by kernel_rfl)) (fun _ _ _ h => h) (Or.inl ⟨by rfl, ?_⟩) ?_ ?_
         rotate_left
         ·intro w'
          go_simp
          with_reducible rfl
         rotate_left
         ·simp only [Act.put, sb, sz, ss, i64_w, i32_w]
          rfl
         refine done_ (done_of HT_.out (by kernel_rfl)) ?_
         try go_wp2
         go_meet
         case rel => exact ⟨_, (ji19), (by first | rfl | (rw [← hji19w, ← hji18w]; simp only [lL]; done) | (rw [← hji19w, ← hji18w]; simp only [lL]; rfl) | (simp; done) | (simp only [← hji19] <;> (first | rfl | (simp; done))) | (simp [*]; done) | (congr 1; (try unfold wrap64); omega) | (congr 1; rw [IntKind.wrap_u64]; omega)), H', ⟨by have := HK1.out; first | omega | exact Nat.le_refl _⟩, ⟨by (with_reducible repeat (first | apply Kd.R_alloc | apply Kd.R_drewN | apply Kd.R_drew)); exact HO_737003.out⟩, ⟨by (with_reducible repeat first | apply bd | apply be | apply ba); exact BK735.out⟩, ⟨by (with_reducible repeat first | apply bd | apply be | apply ba); exact BK736.out⟩, ⟨bl2 HB.out GE735.out GE736.out⟩⟩
        ·rw [if_neg c17] at H
         exact absurd H (by simp)
       ·rw [if_neg c16] at H
        exact absurd H (by simp)
     ·rw [if_neg c13] at H
      have c13b0 : decide (0 < (l3.length : Int)) = false := decide_eq_false c13
      have c13b1 : decide (0 < l3.length) = false := decide_eq_false (by omega)
      clear c13
      (first | rw [c13b0] | rw [c13b1] | (simp only [i64_w, i32_w]; rw [c13b0]) | skip)
      have H' := Aside0.mk H
      clear H
      go_wp2
      go_meet
      case rel => exact ⟨_, (ji11), (by first | rfl | (simp; done) | (simp only [← hji11] <;> (first | rfl | (simp; done))) | (simp [*]; done) | (congr 1; (try unfold wrap64); omega) | (congr 1; rw [IntKind.wrap_u64]; omega)), H', ⟨by have := HK1.out; first | omega | exact Nat.le_refl _⟩, ⟨by (with_reducible repeat (first | apply Kd.R_alloc | apply Kd.R_drewN | apply Kd.R_drew)); exact HO_737003.out⟩, ⟨by (with_reducible repeat first | apply bd | apply be | apply ba); exact BK735.out⟩, ⟨by (with_reducible repeat first | apply bd | apply be | apply ba); exact BK736.out⟩, ⟨bl2 HB.out GE735.out GE736.out⟩⟩
    case rest =>
     clear HC12
     try clear c1 p2 c3 p6 p7 q7 hx7 c8 c10 c10b0 c13 c13b0 c13b1 c14 c14b0 c14b1 c14b2 c16 c16b0 c17 c17b0 hcz9_0 hcz9_1 hcz9_2 hcz9_3 hfz9_0 hfz9_1 hfz9_2 hfz9_3 hx737_0 p2 p6 p737 q737
     obtain ⟨kq, x13_11, rfl, HA, HJ11, HO_737003, BK735, BK736, HB⟩ := hcut
     cases kq with
     |zero => exact absurd HA.out (by simp [aC.j1])
     |succ kj11 =>
      have H := HA.out
      clear HA
      simp only [aC.j1] at H
      by_cases c21 : a4 = true
      ·subst c21
       have H1 : ((dD.f a2 x13_11).bind fun t738 => (if x737003_1.length < 35184372088832 then (aC.l0 kj11 a0 a1 a2 l3 true (wrap64 (x12_1 + 1)) a0 a1 a2 (x737003_1 ++ [t738])) else (none))) = some (r1, r2, r3, r4) := by rw [if_pos rfl] at H; exact H
       clear H
       have H := H1
       clear H1
       replace H := bq_ H
       obtain ⟨t738, A220, H⟩ := H
       replace H : (if x737003_1.length < 35184372088832 then (aC.l0 kj11 a0 a1 a2 l3 true (wrap64 (x12_1 + 1)) a0 a1 a2 (x737003_1 ++ [t738])) else (none)) = some (r1, r2, r3, r4) := H
       have A22 := Aside0.mk A220
       clear A220
       by_cases c23 : x737003_1.length < 35184372088832
       ·rw [if_pos c23] at H
        have LMc23 := Aside0.mk c23
        clear c23
        obtain ⟨y739, hy739⟩ : ∃ y_ : List Int, y_ = (x737003_1 ++ [t738]) := ⟨_, rfl⟩
        replace H : (aC.l0 kj11 a0 a1 a2 l3 true (wrap64 (x12_1 + 1)) a0 a1 a2 y739) = some (r1, r2, r3, r4) := by first | (rw [hy739]; with_reducible exact H) | (have H2_ := (Option.bind_some _ _).symm.trans H; rw [hy739]; with_reducible exact H2_) | (have H2_ := (Option.bind_some _ _).symm.trans H; with_reducible exact H2_) | with_reducible exact H | (rw [hy739]; exact H) | exact H
        have Ny739 := Aside0.mk hy739
        clear hy739
        have H' := Aside0.mk H
        clear H
        try go_wp2
        have n0_ := Aside0.mk (Kd.R_drew HO_737003.out)
        have n1_ := Aside0.mk (blk_drew BK735.out)
        have n2_ := Aside0.mk (blk_drew BK736.out)
        have n3_ := Aside0.mk (below_drew1 HB.out)
        clear HO_737003
        clear BK735
        clear BK736
        clear HB
        have HO_737003 := n0_
        have BK735 := n1_
        have BK736 := n2_
        have HB := n3_
        clear n0_ n1_ n2_ n3_
        refine start_ (n := 9) (S := fun w' => w'.cell? ⟨gb736, 0, none⟩ = some (.int .i64 a0) ∧ w'.cell? ⟨gb736, 1, none⟩ = some (.int .i64 a1) ∧ w'.cell? ⟨gb736, 2, none⟩ = some (.int .i64 a2) ∧ w'.cell? ⟨gb736, 3, none⟩ = some (u737003)) (ds := [8]) (tf 0 9) (by kernel_rfl) rfl rfl ⟨(blk_cell BK736.out 0).trans rfl, (blk_cell BK736.out 1).trans rfl, (blk_cell BK736.out 2).trans rfl, (blk_cell BK736.out 3).trans rfl⟩ (fun hHeld => ?_); refine with_tabW aC.tab9 aC.bits9 (fun HT_ HW_ => ?_)
        generalize wc.drew = w24 at HO_737003 BK735 BK736 HB hHeld ⊢
        refine pure_ (i := 0) (N := some 46) (v := ?_) (a' := ?_) (tf 1 8) rfl rfl (any_of HT_.out (by kernel_rfl)) (fun _ _ _ h => h) (Or.inl ⟨by rfl, ?_⟩) ?_ ?_
        rotate_left
        ·intro w'
         go_simp
         with_reducible rfl
        rotate_left
        ·simp only [Act.put, sb, sz, ss, i64_w, i32_w]
         rfl
        refine pure_ (i := 2) (N := some 48) (v := ?_) (a' := ?_) #[true, false, true, false, false, false, false, false, false] rfl rfl (any_of HT_.out (by kernel_rfl)) (fun _ _ _ h => h) (Or.inl ⟨by rfl, ?_⟩) ?_ ?_
        rotate_left
        ·intro w'
         go_simp
         with_reducible rfl
        rotate_left
        ·simp only [Act.put, sb, sz, ss, i64_w, i32_w]
         rfl
        refine pure_ (i := 3) (N := some 49) (v := ?_) (a' := ?_) #[true, false, true, true, false, false, false, false, false] rfl rfl (any_of HT_.out (by kernel_rfl)) (fun _ _ _ h => h) (Or.inl ⟨by rfl, ?_⟩) ?_ ?_
        rotate_left
        ·intro w'
         go_simp
         with_reducible rfl
        rotate_left
        ·simp only [Act.put, sb, sz, ss, i64_w, i32_w]
         rfl
        refine take_ (i := 1) (N := some 47) (v := ?_) (a' := ?_) (tf 4 5) rfl rfl (take_ofW HT_.out HW_.out (by kernel_rfl)) (fun _ _ _ h => h) (Or.inl ⟨by rfl, ?_⟩) hHeld ?_ ?_
        rotate_left
        ·rintro w' ⟨s0, s1, s2, s3⟩
         go_simp
         with_reducible rfl
        rotate_left
        ·simp only [Act.put, sb, sz, ss, i64_w, i32_w]
         rfl
        refine one_ (i := 4) (N := some 50) (tf 5 4) rfl rfl (one_of HT_.out (by kernel_rfl)) (by decide) (fun K hK => ?_)
        refine goes_ Try.func14 (by kernel_rfl) rfl #[.int .i64 a2, .int .u32 x13_11] (by rfl) rfl rfl gl ?_
        with_reducible refine (dD.calls a2 x13_11 t738 _ A22.out).mono ?_
        rintro e w' ⟨rfl, ⟨nd, rfl⟩⟩
        refine ⟨_, rfl, ?_⟩
        refine hK.out _ _ ⟨(blk_cell BK736.out 0).trans rfl, (blk_cell BK736.out 1).trans rfl, (blk_cell BK736.out 2).trans rfl, (blk_cell BK736.out 3).trans rfl⟩ (fun hHeld => ?_)
        clear hK K
        refine norm_ (a' := ?_) ?_ ?_
        rotate_left
        ·show Act.put _ (some 50) _ = _
         simp only [Act.put, sb, sz, ss, i64_w, i32_w]
         rfl
        refine one_ (i := 5) (N := some 51) (tf 6 3) rfl rfl (one_of HT_.out (by kernel_rfl)) (by decide) (fun K hK => ?_)
        refine value_ (w1 := ?_) (v := ?_) (by rfl) rfl ?_ ?_
        rotate_left 2
        ·go_simp
         constructor
         ·rfl
         ·rfl
        refine hK.out _ _ ⟨(blk_cell (blk_alloc BK736.out _) 0).trans rfl, (blk_cell (blk_alloc BK736.out _) 1).trans rfl, (blk_cell (blk_alloc BK736.out _) 2).trans rfl, (blk_cell (blk_alloc BK736.out _) 3).trans rfl⟩ (fun hHeld => ?_)
        clear hK K
        refine norm_ (a' := ?_) ?_ ?_
        rotate_left
        ·show Act.put _ (some 51) _ = _
         simp only [Act.put, sb, sz, ss, i64_w, i32_w]
         rfl
        refine one_ (i := 6) (N := some 52) (tf 7 2) rfl rfl (one_of HT_.out (by kernel_rfl)) (by decide) (fun K hK => ?_)
        refine Kd.R_append_step (Kd.int .u32) (w0 := w) w.heap.size (by rfl) (.tmp 47) (.tmp 51) 22 25 (.int .u32 0) 4 rfl Try.underlying22 xV rfl (by decide) (by omega) u737003 x737003_1 t738 [.int .u32 t738] (fun _ => True) (fun _ => False) rfl rfl ?aP (fun _ hk => hk.elim) ?aF ?aO ?aB ?aS ?aL ?_
        (case aP => exact rfl)
        (case aB => exact (bl2 HB.out GE735.out GE736.out))
        (case aF => exact (fun _ _ => trivial))
        (case aO => exact (by (with_reducible repeat (first | apply Kd.R_alloc | apply Kd.R_drewN | apply Kd.R_drew)); exact HO_737003.out))
        (case aS => exact (below_size (bl2 HB.out GE735.out GE736.out)))
        (case aL => have := LMc23.out; omega)
        intro v740 w25 ho hb hg hat
        rw [← Ny739.out] at ho
        have n0_ := Aside0.mk (blk_grown (g := gb735) (o := .cells #[.int .i64 0, .int .i64 0, .int .i64 0, .slice none 0 0] 46 (0, 0)) (bv BK735.out) hg (Kd.R_ne HO_737003.out BK735.out (by decide)))
        have n1_ := Aside0.mk (blk_grown (g := gb736) (o := .cells #[.int .i64 a0, .int .i64 a1, .int .i64 a2, u737003] 46 (0, 0)) (bv BK736.out) hg (Kd.R_ne HO_737003.out BK736.out (by decide)))
        have n2_ := Aside0.mk (hb)
        have n3_ := Aside0.mk (ho)
        clear BK735
        clear BK736
        clear HB
        clear HO_737003
        have BK735 := n0_
        have BK736 := n1_
        have HB := n2_
        have HO741 := n3_
        clear n0_ n1_ n2_ n3_
        clear ho hb hg hat
        obtain ⟨Ao26, co26, eo26⟩ := Kd.R_slice HO741.out
        (first | subst eo26 | (injection eo26 with f1_ f2_ f3_; have f4_ := f1_.symm; have f5_ := f3_.symm; clear f1_ f2_ f3_; subst f4_; subst f5_))
        refine hK.out _ _ ⟨(blk_cell BK736.out 0).trans rfl, (blk_cell BK736.out 1).trans rfl, (blk_cell BK736.out 2).trans rfl, (blk_cell BK736.out 3).trans rfl⟩ (fun hHeld => ?_)
        clear hK K
        refine norm_ (a' := ?_) ?_ ?_
        rotate_left
        ·show Act.put _ (some 52) _ = _
         simp only [Act.put, sb, sz, ss, i64_w, i32_w]
         rfl
        refine pure_ (i := 7) (N := some 53) (v := ?_) (a' := ?_) (tf 8 1) rfl rfl (any_of HT_.out (by kernel_rfl)) (fun _ _ _ h => h) (Or.inl ⟨by rfl, ?_⟩) ?_ ?_
        rotate_left
        ·intro w'
         go_simp
         with_reducible rfl
        rotate_left
        ·simp only [Act.put, sb, sz, ss, i64_w, i32_w]
         rfl
        refine last_ (i := 8) (N := none) (tf 9 0) rfl rfl (one_of HT_.out (by kernel_rfl)) (by decide) (fun K hK => ?_)
        have hs27 : w25.cell? ⟨gb736, 3, none⟩ = some (u737003) := (blk_cell BK736.out 3).trans rfl
        have hfs27 := blk_frozen BK736.out 3
        have hns27_0 := NB735_736.out
        have hms27_0 := NB736_735.out
        refine skip_ (w1 := ?_) (by rfl) rfl ?_ ?_
        rotate_left
        ·go_simp
         rfl
        refine hK.out _ _ ?_
        clear hK K
        refine done_ (done_of HT_.out (by kernel_rfl)) ?_
        try go_wp2
        (try subst hji11)
        go_roundg kj11
        case measure => have := HK1.out; have := HJ11.out; omega
        case rel => exact ⟨(wrap64 (x12_1 + 1)), (y739), (.slice Ao26 y739.length co26), (gr_), H', ⟨by have := HK1.out; have := HJ11.out; omega⟩, ⟨by (with_reducible repeat (first | apply Kd.R_alloc | apply Kd.R_drewN | apply Kd.R_drew)); exact Kd.R_mono (Kd.R_far (p := ⟨gb736, 3, none⟩) (Kd.R_types HO741.out BK736.out (by decide)) (fun _ hk => hk.2) (.slice Ao26 y739.length co26)) (fun _ hk => trivial)⟩, ⟨by (with_reducible repeat first | apply bd | apply be | apply ba); refine blk_far ?_ NB735_736.out _; (with_reducible repeat first | apply bd | apply be | apply ba); exact BK735.out⟩, ⟨by (with_reducible repeat first | apply bd | apply be | apply ba); refine blk_put (cs := #[.int .i64 a0, .int .i64 a1, .int .i64 a2, u737003]) ?_ 3 _ rfl; (with_reducible repeat first | apply bd | apply be | apply ba); exact BK736.out⟩, ⟨bl2 HB.out GE735.out GE736.out⟩⟩
       ·rw [if_neg c23] at H
        exact absurd H (by simp)
      ·replace c21 := Bool.eq_false_iff.mpr c21
       subst c21
       have H1 : ((aW.f a2 x13_11).bind fun t742 => (if x737003_1.length < 35184372088832 then (aC.l0 kj11 a0 a1 a2 l3 false (wrap64 (x12_1 + 1)) a0 a1 a2 (x737003_1 ++ [t742])) else (none))) = some (r1, r2, r3, r4) := by rw [if_neg (show ¬ (false = true) by decide)] at H; exact H
       clear H
       have H := H1
       clear H1
       replace H := bq_ H
       obtain ⟨t742, A280, H⟩ := H
       replace H : (if x737003_1.length < 35184372088832 then (aC.l0 kj11 a0 a1 a2 l3 false (wrap64 (x12_1 + 1)) a0 a1 a2 (x737003_1 ++ [t742])) else (none)) = some (r1, r2, r3, r4) := H
       have A28 := Aside0.mk A280
       clear A280
       by_cases c29 : x737003_1.length < 35184372088832
       ·rw [if_pos c29] at H
        have LMc29 := Aside0.mk c29
        clear c29
        obtain ⟨y743, hy743⟩ : ∃ y_ : List Int, y_ = (x737003_1 ++ [t742]) := ⟨_, rfl⟩
        replace H : (aC.l0 kj11 a0 a1 a2 l3 false (wrap64 (x12_1 + 1)) a0 a1 a2 y743) = some (r1, r2, r3, r4) := by first | (rw [hy743]; with_reducible exact H) | (have H2_ := (Option.bind_some _ _).symm.trans H; rw [hy743]; with_reducible exact H2_) | (have H2_ := (Option.bind_some _ _).symm.trans H; with_reducible exact H2_) | with_reducible exact H | (rw [hy743]; exact H) | exact H
        have Ny743 := Aside0.mk hy743
        clear hy743
        have H' := Aside0.mk H
        clear H
        try go_wp2
        have n0_ := Aside0.mk (Kd.R_drew HO_737003.out)
        have n1_ := Aside0.mk (blk_drew BK735.out)
        have n2_ := Aside0.mk (blk_drew BK736.out)
        have n3_ := Aside0.mk (below_drew1 HB.out)
        clear HO_737003
        clear BK735
        clear BK736
        clear HB
        have HO_737003 := n0_
        have BK735 := n1_
        have BK736 := n2_
        have HB := n3_
        clear n0_ n1_ n2_ n3_
        refine start_ (n := 9) (S := fun w' => w'.cell? ⟨gb736, 0, none⟩ = some (.int .i64 a0) ∧ w'.cell? ⟨gb736, 1, none⟩ = some (.int .i64 a1) ∧ w'.cell? ⟨gb736, 2, none⟩ = some (.int .i64 a2) ∧ w'.cell? ⟨gb736, 3, none⟩ = some (u737003)) (ds := [8]) (tf 0 9) (by kernel_rfl) rfl rfl ⟨(blk_cell BK736.out 0).trans rfl, (blk_cell BK736.out 1).trans rfl, (blk_cell BK736.out 2).trans rfl, (blk_cell BK736.out 3).trans rfl⟩ (fun hHeld => ?_); refine with_tabW aC.tab10 aC.yZ (fun HT_ HW_ => ?_)
        generalize wc.drew = w30 at HO_737003 BK735 BK736 HB hHeld ⊢
        refine pure_ (i := 0) (N := some 54) (v := ?_) (a' := ?_) (tf 1 8) rfl rfl (any_of HT_.out (by kernel_rfl)) (fun _ _ _ h => h) (Or.inl ⟨by rfl, ?_⟩) ?_ ?_
        rotate_left
        ·intro w'
         go_simp
         with_reducible rfl
        rotate_left
        ·simp only [Act.put, sb, sz, ss, i64_w, i32_w]
         rfl
        refine pure_ (i := 2) (N := some 56) (v := ?_) (a' := ?_) #[true, false, true, false, false, false, false, false, false] rfl rfl (any_of HT_.out (by kernel_rfl)) (fun _ _ _ h => h) (Or.inl ⟨by rfl, ?_⟩) ?_ ?_
        rotate_left
        ·intro w'
         go_simp
         with_reducible rfl
        rotate_left
        ·simp only [Act.put, sb, sz, ss, i64_w, i32_w]
         rfl
        refine pure_ (i := 3) (N := some 57) (v := ?_) (a' := ?_) #[true, false, true, true, false, false, false, false, false] rfl rfl (any_of HT_.out (by kernel_rfl)) (fun _ _ _ h => h) (Or.inl ⟨by rfl, ?_⟩) ?_ ?_
        rotate_left
        ·intro w'
         go_simp
         with_reducible rfl
        rotate_left
        ·simp only [Act.put, sb, sz, ss, i64_w, i32_w]
         rfl
        refine take_ (i := 1) (N := some 55) (v := ?_) (a' := ?_) (tf 4 5) rfl rfl (take_ofW HT_.out HW_.out (by kernel_rfl)) (fun _ _ _ h => h) (Or.inl ⟨by rfl, ?_⟩) hHeld ?_ ?_
        rotate_left
        ·rintro w' ⟨s0, s1, s2, s3⟩
         go_simp
         with_reducible rfl
        rotate_left
        ·simp only [Act.put, sb, sz, ss, i64_w, i32_w]
         rfl
        refine one_ (i := 4) (N := some 58) (tf 5 4) rfl rfl (one_of HT_.out (by kernel_rfl)) (by decide) (fun K hK => ?_)
        refine goes_ Try.func26 (by kernel_rfl) rfl #[.int .i64 a2, .int .u32 x13_11] (by rfl) rfl rfl gl ?_
        with_reducible refine (aW.calls a2 x13_11 t742 _ A28.out).mono ?_
        rintro e w31 ⟨rfl, hb⟩
        refine ⟨_, rfl, ?_⟩
        have n0_ := Aside0.mk (Kd.R_below (by (with_reducible repeat (first | apply Kd.R_alloc | apply Kd.R_drewN | apply Kd.R_drew)); exact HO_737003.out) hb)
        have n1_ := Aside0.mk (blk_below (g := gb735) (o := .cells #[.int .i64 0, .int .i64 0, .int .i64 0, .slice none 0 0] 46 (0, 0)) (bv BK735.out) hb)
        have n2_ := Aside0.mk (blk_below (g := gb736) (o := .cells #[.int .i64 a0, .int .i64 a1, .int .i64 a2, u737003] 46 (0, 0)) (bv BK736.out) hb)
        have n3_ := Aside0.mk (below_step (bl2 HB.out GE735.out GE736.out) hb)
        clear HO_737003
        clear BK735
        clear BK736
        clear HB
        have HO_737003 := n0_
        have BK735 := n1_
        have BK736 := n2_
        have HB := n3_
        clear n0_ n1_ n2_ n3_
        (try clear hb)
        (try clear hb2)
        (try clear hk)
        (try clear hi)
        refine hK.out _ _ ⟨(blk_cell BK736.out 0).trans rfl, (blk_cell BK736.out 1).trans rfl, (blk_cell BK736.out 2).trans rfl, (blk_cell BK736.out 3).trans rfl⟩ (fun hHeld => ?_)
        clear hK K
        refine norm_ (a' := ?_) ?_ ?_
        rotate_left
        ·show Act.put _ (some 58) _ = _
         simp only [Act.put, sb, sz, ss, i64_w, i32_w]
         rfl
        refine one_ (i := 5) (N := some 59) (tf 6 3) rfl rfl (one_of HT_.out (by kernel_rfl)) (by decide) (fun K hK => ?_)
        refine value_ (w1 := ?_) (v := ?_) (by rfl) rfl ?_ ?_
        rotate_left 2
        ·go_simp
         constructor
         ·rfl
         ·rfl
        refine hK.out _ _ ⟨(blk_cell (blk_alloc BK736.out _) 0).trans rfl, (blk_cell (blk_alloc BK736.out _) 1).trans rfl, (blk_cell (blk_alloc BK736.out _) 2).trans rfl, (blk_cell (blk_alloc BK736.out _) 3).trans rfl⟩ (fun hHeld => ?_)
        clear hK K
        refine norm_ (a' := ?_) ?_ ?_
        rotate_left
        ·show Act.put _ (some 59) _ = _
         simp only [Act.put, sb, sz, ss, i64_w, i32_w]
         rfl
        refine one_ (i := 6) (N := some 60) (tf 7 2) rfl rfl (one_of HT_.out (by kernel_rfl)) (by decide) (fun K hK => ?_)
        refine Kd.R_append_step (Kd.int .u32) (w0 := w) w.heap.size (by rfl) (.tmp 55) (.tmp 59) 22 25 (.int .u32 0) 4 rfl Try.underlying22 xV rfl (by decide) (by omega) u737003 x737003_1 t742 [.int .u32 t742] (fun _ => True) (fun _ => False) rfl rfl ?aP (fun _ hk => hk.elim) ?aF ?aO ?aB ?aS ?aL ?_
        (case aP => exact rfl)
        (case aB => exact (bl2 HB.out GE735.out GE736.out))
        (case aF => exact (fun _ _ => trivial))
        (case aO => exact (by (with_reducible repeat (first | apply Kd.R_alloc | apply Kd.R_drewN | apply Kd.R_drew)); exact HO_737003.out))
        (case aS => exact (below_size (bl2 HB.out GE735.out GE736.out)))
        (case aL => have := LMc29.out; omega)
        intro v744 w32 ho hb hg hat
        rw [← Ny743.out] at ho
        have n0_ := Aside0.mk (blk_grown (g := gb735) (o := .cells #[.int .i64 0, .int .i64 0, .int .i64 0, .slice none 0 0] 46 (0, 0)) (bv BK735.out) hg (Kd.R_ne HO_737003.out BK735.out (by decide)))
        have n1_ := Aside0.mk (blk_grown (g := gb736) (o := .cells #[.int .i64 a0, .int .i64 a1, .int .i64 a2, u737003] 46 (0, 0)) (bv BK736.out) hg (Kd.R_ne HO_737003.out BK736.out (by decide)))
        have n2_ := Aside0.mk (hb)
        have n3_ := Aside0.mk (ho)
        clear BK735
        clear BK736
        clear HB
        clear HO_737003
        have BK735 := n0_
        have BK736 := n1_
        have HB := n2_
        have HO745 := n3_
        clear n0_ n1_ n2_ n3_
        clear ho hb hg hat
        obtain ⟨Ao33, co33, eo33⟩ := Kd.R_slice HO745.out
        (first | subst eo33 | (injection eo33 with f1_ f2_ f3_; have f4_ := f1_.symm; have f5_ := f3_.symm; clear f1_ f2_ f3_; subst f4_; subst f5_))
        refine hK.out _ _ ⟨(blk_cell BK736.out 0).trans rfl, (blk_cell BK736.out 1).trans rfl, (blk_cell BK736.out 2).trans rfl, (blk_cell BK736.out 3).trans rfl⟩ (fun hHeld => ?_)
        clear hK K
        refine norm_ (a' := ?_) ?_ ?_
        rotate_left
        ·show Act.put _ (some 60) _ = _
         simp only [Act.put, sb, sz, ss, i64_w, i32_w]
         rfl
        refine pure_ (i := 7) (N := some 61) (v := ?_) (a' := ?_) (tf 8 1) rfl rfl (any_of HT_.out (by kernel_rfl)) (fun _ _ _ h => h) (Or.inl ⟨by rfl, ?_⟩) ?_ ?_
        rotate_left
        ·intro w'
         go_simp
         with_reducible rfl
        rotate_left
        ·simp only [Act.put, sb, sz, ss, i64_w, i32_w]
         rfl
        refine last_ (i := 8) (N := none) (tf 9 0) rfl rfl (one_of HT_.out (by kernel_rfl)) (by decide) (fun K hK => ?_)
        have hs34 : w32.cell? ⟨gb736, 3, none⟩ = some (u737003) := (blk_cell BK736.out 3).trans rfl
        have hfs34 := blk_frozen BK736.out 3
        have hns34_0 := NB735_736.out
        have hms34_0 := NB736_735.out
        refine skip_ (w1 := ?_) (by rfl) rfl ?_ ?_
        rotate_left
        ·go_simp
         rfl
        refine hK.out _ _ ?_
        clear hK K
        refine done_ (done_of HT_.out (by kernel_rfl)) ?_
        try go_wp2
        (try subst hji11)
        go_roundg kj11
        case measure => have := HK1.out; have := HJ11.out; omega
        case rel => exact ⟨(wrap64 (x12_1 + 1)), (y743), (.slice Ao33 y743.length co33), (gr_), H', ⟨by have := HK1.out; have := HJ11.out; omega⟩, ⟨by (with_reducible repeat (first | apply Kd.R_alloc | apply Kd.R_drewN | apply Kd.R_drew)); exact Kd.R_mono (Kd.R_far (p := ⟨gb736, 3, none⟩) (Kd.R_types HO745.out BK736.out (by decide)) (fun _ hk => hk.2) (.slice Ao33 y743.length co33)) (fun _ hk => trivial)⟩, ⟨by (with_reducible repeat first | apply bd | apply be | apply ba); refine blk_far ?_ NB735_736.out _; (with_reducible repeat first | apply bd | apply be | apply ba); exact BK735.out⟩, ⟨by (with_reducible repeat first | apply bd | apply be | apply ba); refine blk_put (cs := #[.int .i64 a0, .int .i64 a1, .int .i64 a2, u737003]) ?_ 3 _ rfl; (with_reducible repeat first | apply bd | apply be | apply ba); exact BK736.out⟩, ⟨bl2 HB.out GE735.out GE736.out⟩⟩
       ·rw [if_neg c29] at H
        exact absurd H (by simp)
   ·rw [if_neg c10] at H
    have c10b0 : decide (x12_1 < (wrap64 (a0 * a1))) = false := decide_eq_false c10
    clear c10
    simp only [Option.some.injEq, Prod.mk.injEq] at H
    obtain ⟨rfl, rfl, rfl, rfl⟩ := H
    have hnb35 := NB736_735.out
    have hnc35 := NB735_736.out
    have hcz36_0 : wr.cell? ⟨gb736, 0, none⟩ = some (.int .i64 a0) := (blk_cell BK736.out 0).trans rfl
    have hcz36_1 : wr.cell? ⟨gb736, 1, none⟩ = some (.int .i64 a1) := (blk_cell BK736.out 1).trans rfl
    have hcz36_2 : wr.cell? ⟨gb736, 2, none⟩ = some (.int .i64 a2) := (blk_cell BK736.out 2).trans rfl
    have hcz36_3 : wr.cell? ⟨gb736, 3, none⟩ = some (u737003) := (blk_cell BK736.out 3).trans rfl
    have hfz36_0 := blk_frozen BK736.out 0
    have hfz36_1 := blk_frozen BK736.out 1
    have hfz36_2 := blk_frozen BK736.out 2
    have hfz36_3 := blk_frozen BK736.out 3
    have hcz37_0 : wr.cell? ⟨gb735, 0, none⟩ = some (.int .i64 0) := (blk_cell BK735.out 0).trans rfl
    have hcz37_1 : wr.cell? ⟨gb735, 1, none⟩ = some (.int .i64 0) := (blk_cell BK735.out 1).trans rfl
    have hcz37_2 : wr.cell? ⟨gb735, 2, none⟩ = some (.int .i64 0) := (blk_cell BK735.out 2).trans rfl
    have hcz37_3 : wr.cell? ⟨gb735, 3, none⟩ = some (.slice none 0 0) := (blk_cell BK735.out 3).trans rfl
    have hfz37_0 := blk_frozen BK735.out 0
    have hfz37_1 := blk_frozen BK735.out 1
    have hfz37_2 := blk_frozen BK735.out 2
    have hfz37_3 := blk_frozen BK735.out 3
    obtain ⟨Ao38, co38, eo38⟩ := Kd.R_slice HO_737003.out
    subst eo38
    go_wp2
    refine bodyPost_ret (results_cell_row rfl _ _ gb735 46 #[.int .i64 a0, .int .i64 a1, .int .i64 a2, .slice Ao38 x737003_1.length co38] (0, 0) _ rfl (by (with_reducible repeat first | apply bd | apply be | apply ba); refine blk_put (cs := #[.int .i64 a0, .int .i64 a1, .int .i64 a2, .slice none 0 0]) ?_ 3 _ rfl; (with_reducible repeat first | apply bd | apply be | apply ba); refine blk_put (cs := #[.int .i64 a0, .int .i64 a1, .int .i64 0, .slice none 0 0]) ?_ 2 _ rfl; (with_reducible repeat first | apply bd | apply be | apply ba); refine blk_put (cs := #[.int .i64 a0, .int .i64 0, .int .i64 0, .slice none 0 0]) ?_ 1 _ rfl; (with_reducible repeat first | apply bd | apply be | apply ba); refine blk_put (cs := #[.int .i64 0, .int .i64 0, .int .i64 0, .slice none 0 0]) ?_ 0 _ rfl; (with_reducible repeat first | apply bd | apply be | apply ba); exact BK735.out) Try.underlying46 rfl (by kernel_rfl)) rfl ?_
    exact ⟨_, by first | rfl | (simp [bK, bL] <;> rfl) | (simp [*, bK, bL] <;> rfl), by (with_reducible repeat (first | apply Kd.R_alloc | apply Kd.R_drewN | apply Kd.R_drew)); exact Kd.R_mono (Kd.R_far (p := ⟨gb735, 3, none⟩) (Kd.R_far (p := ⟨gb735, 2, none⟩) (Kd.R_far (p := ⟨gb735, 1, none⟩) (Kd.R_far (p := ⟨gb735, 0, none⟩) (Kd.R_types HO_737003.out BK735.out (by decide)) (fun _ hk => hk.2) (.int .i64 a0)) (fun _ hk => hk.2) (.int .i64 a1)) (fun _ hk => hk.2) (.int .i64 a2)) (fun _ hk => hk.2) (.slice Ao38 x737003_1.length co38)) (fun _ hk => trivial), bl2 HB.out GE735.out GE736.out⟩

end Go.Proofs.Ytfapjegkilljnaa.P
