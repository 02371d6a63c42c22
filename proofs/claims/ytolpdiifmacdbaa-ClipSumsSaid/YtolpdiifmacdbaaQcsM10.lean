import Derived.Test.YtolpdiifmacdbaaQcsM8
import Derived.Test.YtolpdiifmacdbaaQcsM9
import Derived.Test.YtolpdiifmacdbaaQcsM7
import Derived.Test.YtolpdiifmacdbaaQcsZ
import Derived.Test.YtolpdiifmacdbaaQcsM4
import Derived.Test.YtolpdiifmacdbaaQcsM5
import Derived.Test.YtolpdiifmacdbaaQcsM3
/- What the reckoner tells of printed functions. -/
set_option linter.unusedVariables false
set_option linter.unusedSimpArgs false
set_option maxRecDepth 100000
set_option maxHeartbeats 8000000
namespace Go.Proofs.Ytolpdiifmacdbaa.P
open Go.RowKit Go.Proofs.YtolpdiifmacdbaaW.PrintWords Go.Proofs.YtolpdiifmacdbaaW.PrintLast Go.Proofs.YtolpdiifmacdbaaW.PrintMore
set_option maxRecDepth 100000
set_option maxHeartbeats 4000000 in
theorem bT.le {k n : Nat} (hk : k ≤ n) {a0 a1 a2 : Int} : LeO (bT.f k a0 a1 a2) (L.bT.f n a0 a1 a2) := by
 unfold bT.f
 rw [L.bT.eq]
 try simp only [Bool.and_true]
 repeat' first
  |(with_reducible exact LeO.refl _)
  |exact LeO.none _
  |(with_reducible first|exact fun r h => at_rounds (aN.mono _ _) hk h|exact fun r h => at_rounds (aQ.mono _ _) hk h|exact fun r h => at_rounds (aD.mono _ _) hk h|exact fun r h => at_rounds (bits_Len.mono _) hk h|exact fun r h => at_rounds (aH.mono _ _) hk h|exact fun r h => at_rounds (bM.mono _) hk h|exact aA.le hk|refine LeO.bind ?_ (fun _ => ?_)|refine LeO.gQ Iff.rfl (fun _ => ?_) (fun _ => ?_))
  |exact fun r h => at_rounds (aN.mono _ _) hk h
  |exact fun r h => at_rounds (aQ.mono _ _) hk h
  |exact fun r h => at_rounds (aD.mono _ _) hk h
  |exact fun r h => at_rounds (bits_Len.mono _) hk h
  |exact fun r h => at_rounds (aH.mono _ _) hk h
  |exact fun r h => at_rounds (bM.mono _) hk h
  |exact aA.le hk
  |exact LeO.refl _
  |(with_reducible first|refine LeO.pos (by assumption) ?_|refine LeO.neg (by assumption) ?_|refine LeO.mM (by assumption) ?_|refine LeO.mJ (by assumption) ?_|refine LeO.gQ (by omega) (fun _ => ?_) (fun _ => ?_))
theorem bT.calls (k : Nat) (a0 a1 : Int) (a2 r1 : Int) (r2 r3 : Bool) (r4 r5 r6 : Bool) (w : World) (h : bT.f k a0 a1 a2 = some (r1, r2, r3, r4, r5, r6)) :
  Calls Try.prog 76 #[.int .i64 a0, .int .i64 a1, .int .u32 a2] w fun e w' => e = .returned (.tuple #[.int .u32 r1, .agg #[.bool r2, .bool r3, .bool r4, .bool r5, .bool r6]]) ∧ Below w.heap.size w w' :=
 Go.Proofs.Ytolpdiifmacdbaa.Ek.jU L.bT.ok k ((a0, ()), (a1, ()), (a2, ()), ()) (r1, r2, r3, r4, r5, r6) rfl (bT.le (Nat.le_refl _) _ h) w
theorem aM.iD {k n : Nat} (hk : k ≤ n) {x0 x1 : Int} {x16 x99 x400000 : Bool} {x400001 x400002 : Int} {x400003 x405000 : Bool} {x405001 x405002 : Int} {x405003 ex12 : Bool} {ex13 ex14 : Bool} {ex15 ex16 : Bool} : LeO (aM.j2 k x0 x1 x16 x99 x400000 x400001 x400002 x400003 x405000 x405001 x405002 x405003) (L.aM.j15 n x99 x16 x1 x0 x405000 x405001 x405002 x405003 x400000 x400001 x400002 x400003 ex12 ex13 ex14 ex15 ex16) := by
 cases k with
 |zero => rw [aM.j2]; exact LeO.none _
 |succ k =>
 replace hk := Nat.le_of_succ_le hk
 rw [aM.j2, L.aM.j15_eq]
 repeat' first
  |(with_reducible exact LeO.refl _)
  |exact LeO.none _
  |(with_reducible first|exact fun r h => at_rounds (bR.mono _ _ _) hk h|exact fun r h => at_rounds (aN.mono _ _) hk h|exact fun r h => at_rounds (aD.mono _ _) hk h|exact fun r h => at_rounds (aK.mono _ _ _ _ _) hk h|exact aG.le hk|exact aA.le hk|refine LeO.bind ?_ (fun _ => ?_)|refine LeO.gQ Iff.rfl (fun _ => ?_) (fun _ => ?_))
  |exact fun r h => at_rounds (bR.mono _ _ _) hk h
  |exact fun r h => at_rounds (aN.mono _ _) hk h
  |exact fun r h => at_rounds (aD.mono _ _) hk h
  |exact fun r h => at_rounds (aK.mono _ _ _ _ _) hk h
  |exact aG.le hk
  |exact aA.le hk
  |exact LeO.refl _
  |(with_reducible first|refine LeO.pos (by assumption) ?_|refine LeO.neg (by assumption) ?_|refine LeO.mM (by assumption) ?_|refine LeO.mJ (by assumption) ?_|refine LeO.gQ (by omega) (fun _ => ?_) (fun _ => ?_))
theorem aM.gI {k n : Nat} (hk : k ≤ n) {x0 x1 : Int} {x2 x3 x4 : Int} {x16 x17 : Bool} {x18 x71 : Bool} {ex9 ex10 : Bool} {ex11 ex12 ex13 : Bool} : LeO (aM.j1 k x0 x1 x2 x3 x4 x16 x17 x18 x71) (L.aM.j11 n x71 x18 x17 x16 x4 x3 x2 x1 x0 ex9 ex10 ex11 ex12 ex13) := by
 cases k with
 |zero => rw [aM.j1]; exact LeO.none _
 |succ k =>
 replace hk := Nat.le_of_succ_le hk
 rw [aM.j1, L.aM.rF]
 repeat' first
  |(with_reducible exact LeO.refl _)
  |exact LeO.none _
  |(with_reducible first|exact aM.iD hk|exact fun r h => at_rounds (bR.mono _ _ _) hk h|exact fun r h => at_rounds (aN.mono _ _) hk h|exact fun r h => at_rounds (aD.mono _ _) hk h|exact fun r h => at_rounds (aK.mono _ _ _ _ _) hk h|exact aG.le hk|exact aA.le hk|refine LeO.bind ?_ (fun _ => ?_)|refine LeO.gQ Iff.rfl (fun _ => ?_) (fun _ => ?_))
  |exact aM.iD hk
  |exact fun r h => at_rounds (bR.mono _ _ _) hk h
  |exact fun r h => at_rounds (aN.mono _ _) hk h
  |exact fun r h => at_rounds (aD.mono _ _) hk h
  |exact fun r h => at_rounds (aK.mono _ _ _ _ _) hk h
  |exact aG.le hk
  |exact aA.le hk
  |exact LeO.refl _
  |(with_reducible first|refine LeO.pos (by assumption) ?_|refine LeO.neg (by assumption) ?_|refine LeO.mM (by assumption) ?_|refine LeO.mJ (by assumption) ?_|refine LeO.gQ (by omega) (fun _ => ?_) (fun _ => ?_))
theorem aM.jD {k n : Nat} (hk : k ≤ n) {x0 x1 : Int} {x2 x3 x4 : Int} {x16 x17 : Bool} {x18 ex8 : Bool} {ex9 ex10 : Bool} {ex11 ex12 : Bool} : LeO (aM.j0 k x0 x1 x2 x3 x4 x16 x17 x18) (L.aM.j10 n x18 x17 x16 x4 x3 x2 x1 x0 ex8 ex9 ex10 ex11 ex12) := by
 cases k with
 |zero => rw [aM.j0]; exact LeO.none _
 |succ k =>
 replace hk := Nat.le_of_succ_le hk
 rw [aM.j0, L.aM.yC]
 repeat' first
  |(with_reducible exact LeO.refl _)
  |exact LeO.none _
  |(with_reducible first|exact aM.iD hk|exact aM.gI hk|exact fun r h => at_rounds (bR.mono _ _ _) hk h|exact fun r h => at_rounds (aN.mono _ _) hk h|exact fun r h => at_rounds (aD.mono _ _) hk h|exact fun r h => at_rounds (aK.mono _ _ _ _ _) hk h|exact aG.le hk|exact aA.le hk|refine LeO.bind ?_ (fun _ => ?_)|refine LeO.gQ Iff.rfl (fun _ => ?_) (fun _ => ?_))
  |exact aM.iD hk
  |exact aM.gI hk
  |exact fun r h => at_rounds (bR.mono _ _ _) hk h
  |exact fun r h => at_rounds (aN.mono _ _) hk h
  |exact fun r h => at_rounds (aD.mono _ _) hk h
  |exact fun r h => at_rounds (aK.mono _ _ _ _ _) hk h
  |exact aG.le hk
  |exact aA.le hk
  |exact LeO.refl _
  |(with_reducible first|refine LeO.pos (by assumption) ?_|refine LeO.neg (by assumption) ?_|refine LeO.mM (by assumption) ?_|refine LeO.mJ (by assumption) ?_|refine LeO.gQ (by omega) (fun _ => ?_) (fun _ => ?_))
set_option maxHeartbeats 4000000 in
theorem aM.le {k n : Nat} (hk : k ≤ n) {a0 a1 : Int} {a2 a3 a4 : Int} : LeO (aM.f k a0 a1 a2 a3 a4) (L.aM.f n a0 a1 a2 a3 a4) := by
 unfold aM.f
 rw [L.aM.eq]
 try simp only [Bool.and_true]
 repeat' first
  |(with_reducible exact LeO.refl _)
  |exact LeO.none _
  |(with_reducible first|exact aM.iD hk|exact aM.gI hk|exact aM.jD hk|exact fun r h => at_rounds (bR.mono _ _ _) hk h|exact fun r h => at_rounds (aN.mono _ _) hk h|exact fun r h => at_rounds (aD.mono _ _) hk h|exact fun r h => at_rounds (aK.mono _ _ _ _ _) hk h|exact aG.le hk|exact aA.le hk|refine LeO.bind ?_ (fun _ => ?_)|refine LeO.gQ Iff.rfl (fun _ => ?_) (fun _ => ?_))
  |exact aM.iD hk
  |exact aM.gI hk
  |exact aM.jD hk
  |exact fun r h => at_rounds (bR.mono _ _ _) hk h
  |exact fun r h => at_rounds (aN.mono _ _) hk h
  |exact fun r h => at_rounds (aD.mono _ _) hk h
  |exact fun r h => at_rounds (aK.mono _ _ _ _ _) hk h
  |exact aG.le hk
  |exact aA.le hk
  |exact LeO.refl _
  |(with_reducible first|refine LeO.pos (by assumption) ?_|refine LeO.neg (by assumption) ?_|refine LeO.mM (by assumption) ?_|refine LeO.mJ (by assumption) ?_|refine LeO.gQ (by omega) (fun _ => ?_) (fun _ => ?_))
theorem aM.calls (k : Nat) (a0 a1 : Int) (a2 a3 : Int) (a4 r1 : Int) (r2 r3 : Bool) (r4 r5 r6 : Bool) (w : World) (h : aM.f k a0 a1 a2 a3 a4 = some (r1, r2, r3, r4, r5, r6)) :
  Calls Try.prog 96 #[.int .i64 a0, .int .i64 a1, .int .u32 a2, .int .u32 a3, .int .u32 a4] w fun e w' => e = .returned (.tuple #[.int .u32 r1, .agg #[.bool r2, .bool r3, .bool r4, .bool r5, .bool r6]]) ∧ Below w.heap.size w w' :=
 Go.Proofs.Ytolpdiifmacdbaa.Ek.jU L.aM.ok k ((a0, ()), (a1, ()), (a2, ()), (a3, ()), (a4, ()), ()) (r1, r2, r3, r4, r5, r6) rfl (aM.le (Nat.le_refl _) _ h) w
theorem aU.gI {k n : Nat} (hk : k ≤ n) {x0 x1 : Int} {x2 x3 : Int} {x13 : Bool} {x15 : Int} {x69 ex7 : Bool} {ex8 ex9 : Bool} {ex10 ex11 : Bool} : LeO (aU.j1 k x0 x1 x2 x3 x13 x15 x69) (L.aU.j11 n x69 x15 x13 x3 x2 x1 x0 ex7 ex8 ex9 ex10 ex11) := by
 cases k with
 |zero => rw [aU.j1]; exact LeO.none _
 |succ k =>
 replace hk := Nat.le_of_succ_le hk
 rw [aU.j1, L.aU.rF]
 repeat' first
  |(with_reducible exact LeO.refl _)
  |exact LeO.none _
  |(with_reducible first|exact fun r h => at_rounds (aN.mono _ _) hk h|exact fun r h => at_rounds (aI.mono _ _) hk h|exact fun r h => at_rounds (bits_Len.mono _) hk h|exact fun r h => at_rounds (aH.mono _ _) hk h|exact aA.le hk|refine LeO.bind ?_ (fun _ => ?_)|refine LeO.gQ Iff.rfl (fun _ => ?_) (fun _ => ?_))
  |exact fun r h => at_rounds (aN.mono _ _) hk h
  |exact fun r h => at_rounds (aI.mono _ _) hk h
  |exact fun r h => at_rounds (bits_Len.mono _) hk h
  |exact fun r h => at_rounds (aH.mono _ _) hk h
  |exact aA.le hk
  |exact LeO.refl _
  |(with_reducible first|refine LeO.pos (by assumption) ?_|refine LeO.neg (by assumption) ?_|refine LeO.mM (by assumption) ?_|refine LeO.mJ (by assumption) ?_|refine LeO.gQ (by omega) (fun _ => ?_) (fun _ => ?_))
theorem aU.jD {k n : Nat} (hk : k ≤ n) {x0 x1 : Int} {x2 x3 : Int} {x13 : Bool} {x14 x15 : Int} {x46 ex8 : Bool} {ex9 ex10 : Bool} {ex11 ex12 : Bool} : LeO (aU.j0 k x0 x1 x2 x3 x13 x14 x15 x46) (L.aU.j7 n x46 x15 x14 x13 x3 x2 x1 x0 ex8 ex9 ex10 ex11 ex12) := by
 cases k with
 |zero => rw [aU.j0]; exact LeO.none _
 |succ k =>
 replace hk := Nat.le_of_succ_le hk
 rw [aU.j0, L.aU.j7_eq]
 repeat' first
  |(with_reducible exact LeO.refl _)
  |exact LeO.none _
  |(with_reducible first|exact aU.gI hk|exact fun r h => at_rounds (aN.mono _ _) hk h|exact fun r h => at_rounds (aI.mono _ _) hk h|exact fun r h => at_rounds (bits_Len.mono _) hk h|exact fun r h => at_rounds (aH.mono _ _) hk h|exact aA.le hk|refine LeO.bind ?_ (fun _ => ?_)|refine LeO.gQ Iff.rfl (fun _ => ?_) (fun _ => ?_))
  |exact aU.gI hk
  |exact fun r h => at_rounds (aN.mono _ _) hk h
  |exact fun r h => at_rounds (aI.mono _ _) hk h
  |exact fun r h => at_rounds (bits_Len.mono _) hk h
  |exact fun r h => at_rounds (aH.mono _ _) hk h
  |exact aA.le hk
  |exact LeO.refl _
  |(with_reducible first|refine LeO.pos (by assumption) ?_|refine LeO.neg (by assumption) ?_|refine LeO.mM (by assumption) ?_|refine LeO.mJ (by assumption) ?_|refine LeO.gQ (by omega) (fun _ => ?_) (fun _ => ?_))
set_option maxHeartbeats 4000000 in
theorem aU.le {k n : Nat} (hk : k ≤ n) {a0 a1 : Int} {a2 a3 : Int} : LeO (aU.f k a0 a1 a2 a3) (L.aU.f n a0 a1 a2 a3) := by
 unfold aU.f
 rw [L.aU.eq]
 try simp only [Bool.and_true]
 repeat' first
  |(with_reducible exact LeO.refl _)
  |exact LeO.none _
  |(with_reducible first|exact aU.gI hk|exact aU.jD hk|exact fun r h => at_rounds (aN.mono _ _) hk h|exact fun r h => at_rounds (aI.mono _ _) hk h|exact fun r h => at_rounds (bits_Len.mono _) hk h|exact fun r h => at_rounds (aH.mono _ _) hk h|exact aA.le hk|refine LeO.bind ?_ (fun _ => ?_)|refine LeO.gQ Iff.rfl (fun _ => ?_) (fun _ => ?_))
  |exact aU.gI hk
  |exact aU.jD hk
  |exact fun r h => at_rounds (aN.mono _ _) hk h
  |exact fun r h => at_rounds (aI.mono _ _) hk h
  |exact fun r h => at_rounds (bits_Len.mono _) hk h
  |exact fun r h => at_rounds (aH.mono _ _) hk h
  |exact aA.le hk
  |exact LeO.refl _
  |(with_reducible first|refine LeO.pos (by assumption) ?_|refine LeO.neg (by assumption) ?_|refine LeO.mM (by assumption) ?_|refine LeO.mJ (by assumption) ?_|refine LeO.gQ (by omega) (fun _ => ?_) (fun _ => ?_))
theorem aU.calls (k : Nat) (a0 a1 : Int) (a2 a3 r1 : Int) (r2 r3 : Bool) (r4 r5 r6 : Bool) (w : World) (h : aU.f k a0 a1 a2 a3 = some (r1, r2, r3, r4, r5, r6)) :
  Calls Try.prog 70 #[.int .i64 a0, .int .i64 a1, .int .u32 a2, .int .u32 a3] w fun e w' => e = .returned (.tuple #[.int .u32 r1, .agg #[.bool r2, .bool r3, .bool r4, .bool r5, .bool r6]]) ∧ Below w.heap.size w w' :=
 Go.Proofs.Ytolpdiifmacdbaa.Ek.jU L.aU.ok k ((a0, ()), (a1, ()), (a2, ()), (a3, ()), ()) (r1, r2, r3, r4, r5, r6) rfl (aU.le (Nat.le_refl _) _ h) w
theorem bJ.jD {k n : Nat} (hk : k ≤ n) {x0 x1 : Int} {x2 x3 : Int} {x13 x49 : Bool} {ex6 ex7 : Bool} {ex8 ex9 ex10 : Bool} : LeO (bJ.j0 k x0 x1 x2 x3 x13 x49) (L.bJ.j8 n x49 x13 x3 x2 x1 x0 ex6 ex7 ex8 ex9 ex10) := by
 cases k with
 |zero => rw [bJ.j0]; exact LeO.none _
 |succ k =>
 replace hk := Nat.le_of_succ_le hk
 rw [bJ.j0, L.bJ.j8_eq]
 repeat' first
  |(with_reducible exact LeO.refl _)
  |exact LeO.none _
  |(with_reducible first|exact fun r h => at_rounds (aN.mono _ _) hk h|exact fun r h => at_rounds (bR.mono _ _ _) hk h|exact fun r h => at_rounds (aD.mono _ _) hk h|exact aA.le hk|refine LeO.bind ?_ (fun _ => ?_)|refine LeO.gQ Iff.rfl (fun _ => ?_) (fun _ => ?_))
  |exact fun r h => at_rounds (aN.mono _ _) hk h
  |exact fun r h => at_rounds (bR.mono _ _ _) hk h
  |exact fun r h => at_rounds (aD.mono _ _) hk h
  |exact aA.le hk
  |exact LeO.refl _
  |(with_reducible first|refine LeO.pos (by assumption) ?_|refine LeO.neg (by assumption) ?_|refine LeO.mM (by assumption) ?_|refine LeO.mJ (by assumption) ?_|refine LeO.gQ (by omega) (fun _ => ?_) (fun _ => ?_))
set_option maxHeartbeats 4000000 in
theorem bJ.le {k n : Nat} (hk : k ≤ n) {a0 a1 : Int} {a2 a3 : Int} : LeO (bJ.f k a0 a1 a2 a3) (L.bJ.f n a0 a1 a2 a3) := by
 unfold bJ.f
 rw [L.bJ.eq]
 try simp only [Bool.and_true]
 repeat' first
  |(with_reducible exact LeO.refl _)
  |exact LeO.none _
  |(with_reducible first|exact bJ.jD hk|exact fun r h => at_rounds (aN.mono _ _) hk h|exact fun r h => at_rounds (bR.mono _ _ _) hk h|exact fun r h => at_rounds (aD.mono _ _) hk h|exact aA.le hk|refine LeO.bind ?_ (fun _ => ?_)|refine LeO.gQ Iff.rfl (fun _ => ?_) (fun _ => ?_))
  |exact bJ.jD hk
  |exact fun r h => at_rounds (aN.mono _ _) hk h
  |exact fun r h => at_rounds (bR.mono _ _ _) hk h
  |exact fun r h => at_rounds (aD.mono _ _) hk h
  |exact aA.le hk
  |exact LeO.refl _
  |(with_reducible first|refine LeO.pos (by assumption) ?_|refine LeO.neg (by assumption) ?_|refine LeO.mM (by assumption) ?_|refine LeO.mJ (by assumption) ?_|refine LeO.gQ (by omega) (fun _ => ?_) (fun _ => ?_))
theorem bJ.calls (k : Nat) (a0 a1 : Int) (a2 a3 r1 : Int) (r2 r3 : Bool) (r4 r5 r6 : Bool) (w : World) (h : bJ.f k a0 a1 a2 a3 = some (r1, r2, r3, r4, r5, r6)) :
  Calls Try.prog 71 #[.int .i64 a0, .int .i64 a1, .int .u32 a2, .int .u32 a3] w fun e w' => e = .returned (.tuple #[.int .u32 r1, .agg #[.bool r2, .bool r3, .bool r4, .bool r5, .bool r6]]) ∧ Below w.heap.size w w' :=
 Go.Proofs.Ytolpdiifmacdbaa.Ek.jU L.bJ.ok k ((a0, ()), (a1, ()), (a2, ()), (a3, ()), ()) (r1, r2, r3, r4, r5, r6) rfl (bJ.le (Nat.le_refl _) _ h) w
theorem bA.gI {k n : Nat} (hk : k ≤ n) {x0 x1 : Int} {x68 x589000 : Bool} {x589001 x589002 : Int} {x589003 x590000 : Bool} {x590001 x590002 : Int} {x590003 x595000 : Bool} {x595001 x595002 : Int} {x595003 ex15 : Bool} {ex16 ex17 : Bool} {ex18 ex19 : Bool} : LeO (bA.j1 k x0 x1 x68 x589000 x589001 x589002 x589003 x590000 x590001 x590002 x590003 x595000 x595001 x595002 x595003) (L.bA.j10 n x68 x1 x0 x595000 x595001 x595002 x595003 x590000 x590001 x590002 x590003 x589000 x589001 x589002 x589003 ex15 ex16 ex17 ex18 ex19) := by
 cases k with
 |zero => rw [bA.j1]; exact LeO.none _
 |succ k =>
 replace hk := Nat.le_of_succ_le hk
 rw [bA.j1, L.bA.yC]
 repeat' first
  |(with_reducible exact LeO.refl _)
  |exact LeO.none _
  |(with_reducible first|exact fun r h => at_rounds (aN.mono _ _) hk h|exact fun r h => at_rounds (aD.mono _ _) hk h|exact fun r h => at_rounds (aK.mono _ _ _ _ _) hk h|exact aG.le hk|exact aA.le hk|refine LeO.bind ?_ (fun _ => ?_)|refine LeO.gQ Iff.rfl (fun _ => ?_) (fun _ => ?_))
  |exact fun r h => at_rounds (aN.mono _ _) hk h
  |exact fun r h => at_rounds (aD.mono _ _) hk h
  |exact fun r h => at_rounds (aK.mono _ _ _ _ _) hk h
  |exact aG.le hk
  |exact aA.le hk
  |exact LeO.refl _
  |(with_reducible first|refine LeO.pos (by assumption) ?_|refine LeO.neg (by assumption) ?_|refine LeO.mM (by assumption) ?_|refine LeO.mJ (by assumption) ?_|refine LeO.gQ (by omega) (fun _ => ?_) (fun _ => ?_))
theorem bA.jD {k n : Nat} (hk : k ≤ n) {x0 x1 : Int} {x2 x3 : Int} {x13 x14 : Bool} {x39 ex7 : Bool} {ex8 ex9 : Bool} {ex10 ex11 : Bool} : LeO (bA.j0 k x0 x1 x2 x3 x13 x14 x39) (L.bA.j6 n x39 x14 x13 x3 x2 x1 x0 ex7 ex8 ex9 ex10 ex11) := by
 cases k with
 |zero => rw [bA.j0]; exact LeO.none _
 |succ k =>
 replace hk := Nat.le_of_succ_le hk
 rw [bA.j0, L.bA.j6_eq]
 repeat' first
  |(with_reducible exact LeO.refl _)
  |exact LeO.none _
  |(with_reducible first|exact bA.gI hk|exact fun r h => at_rounds (aN.mono _ _) hk h|exact fun r h => at_rounds (aD.mono _ _) hk h|exact fun r h => at_rounds (aK.mono _ _ _ _ _) hk h|exact aG.le hk|exact aA.le hk|refine LeO.bind ?_ (fun _ => ?_)|refine LeO.gQ Iff.rfl (fun _ => ?_) (fun _ => ?_))
  |exact bA.gI hk
  |exact fun r h => at_rounds (aN.mono _ _) hk h
  |exact fun r h => at_rounds (aD.mono _ _) hk h
  |exact fun r h => at_rounds (aK.mono _ _ _ _ _) hk h
  |exact aG.le hk
  |exact aA.le hk
  |exact LeO.refl _
  |(with_reducible first|refine LeO.pos (by assumption) ?_|refine LeO.neg (by assumption) ?_|refine LeO.mM (by assumption) ?_|refine LeO.mJ (by assumption) ?_|refine LeO.gQ (by omega) (fun _ => ?_) (fun _ => ?_))
set_option maxHeartbeats 4000000 in
theorem bA.le {k n : Nat} (hk : k ≤ n) {a0 a1 : Int} {a2 a3 : Int} : LeO (bA.f k a0 a1 a2 a3) (L.bA.f n a0 a1 a2 a3) := by
 unfold bA.f
 rw [L.bA.eq]
 try simp only [Bool.and_true]
 repeat' first
  |(with_reducible exact LeO.refl _)
  |exact LeO.none _
  |(with_reducible first|exact bA.gI hk|exact bA.jD hk|exact fun r h => at_rounds (aN.mono _ _) hk h|exact fun r h => at_rounds (aD.mono _ _) hk h|exact fun r h => at_rounds (aK.mono _ _ _ _ _) hk h|exact aG.le hk|exact aA.le hk|refine LeO.bind ?_ (fun _ => ?_)|refine LeO.gQ Iff.rfl (fun _ => ?_) (fun _ => ?_))
  |exact bA.gI hk
  |exact bA.jD hk
  |exact fun r h => at_rounds (aN.mono _ _) hk h
  |exact fun r h => at_rounds (aD.mono _ _) hk h
  |exact fun r h => at_rounds (aK.mono _ _ _ _ _) hk h
  |exact aG.le hk
  |exact aA.le hk
  |exact LeO.refl _
  |(with_reducible first|refine LeO.pos (by assumption) ?_|refine LeO.neg (by assumption) ?_|refine LeO.mM (by assumption) ?_|refine LeO.mJ (by assumption) ?_|refine LeO.gQ (by omega) (fun _ => ?_) (fun _ => ?_))
theorem bA.calls (k : Nat) (a0 a1 : Int) (a2 a3 r1 : Int) (r2 r3 : Bool) (r4 r5 r6 : Bool) (w : World) (h : bA.f k a0 a1 a2 a3 = some (r1, r2, r3, r4, r5, r6)) :
  Calls Try.prog 75 #[.int .i64 a0, .int .i64 a1, .int .u32 a2, .int .u32 a3] w fun e w' => e = .returned (.tuple #[.int .u32 r1, .agg #[.bool r2, .bool r3, .bool r4, .bool r5, .bool r6]]) ∧ Below w.heap.size w w' :=
 Go.Proofs.Ytolpdiifmacdbaa.Ek.jU L.bA.ok k ((a0, ()), (a1, ()), (a2, ()), (a3, ()), ()) (r1, r2, r3, r4, r5, r6) rfl (bA.le (Nat.le_refl _) _ h) w
attribute [local go_sem] max2_int min2_int max_two min_two max_three min_three max_four min_four

-- NEED 3
/-! ### gP: function 55 -/
def gP.f (k : Nat) (a0 : Int) : Option (Int) := (bT.f k 2 0 a0).bind fun bt302 => (some bt302.1)
theorem gP.calls (k : Nat) (a0 r : Int) (w : World) (h : gP.f k a0 = some r) :
  Calls Try.prog 55 #[.int .u32 a0] w fun e w' => e = .returned (.int .u32 r) ∧ Below w.heap.size w w' := by
 have hu82 := Try.underlying82
 have HB := Aside0.mk (Below.refl w.heap.size w)
 have H : ((bT.f k 2 0 a0).bind fun bt302 => (some bt302.1)) = some r := h
 clear h
 replace H := bq_ H
 obtain ⟨⟨t302, t303, t304, t305, t306, t307⟩, A20, H⟩ := H
 replace H : (some t302) = some r := H
 have A2 := Aside0.mk A20
 clear A20
 obtain rfl := Option.some.inj H
 go_enter Try.func55, Try.ntmps55
 go_wp2_with (first | ((with_reducible refine gate_callee (f := 76) rfl ?_); refine goesL_ (some 7) rfl rfl Try.func76 (by kernel_rfl) rfl #[.int .i64 2, .int .i64 0, .int .u32 a0] rfl gl ?_; (with_reducible refine (bT.calls k 2 0 a0 t302 t303 t304 t305 t306 t307 _ A2.out).mono ?_); rintro e w3 ⟨rfl, hb⟩; refine ⟨_, rfl, ?_⟩; have n0_ := Aside0.mk (below_step (bl0 HB.out) hb); clear HB; have HB := n0_; clear n0_) | ((with_reducible refine gate_dst (N := 4) rfl ?_); refine box_event ?hg (N := 4) ?hd (cs := F5) (t := 82) ?hr ?_; (case hd => rfl); (case hg => rfl); (case hr => first | (go_simp; done) | (go_simp; rfl)); intro gb308 hg w4 hbox hb; have n0_ := Aside0.mk (below_step (bl0 HB.out) hb); have n1_ := Aside0.mk (hbox); have n2_ := Aside0.mk ((by rw [hg]; exact (below_size (bl0 HB.out)) : w.heap.size ≤ gb308)); have n3_ := n2_; clear HB; have HB := n0_; have BK308 := n1_; have GW308 := n2_; have GE308 := n3_; clear n0_ n1_ n2_ n3_; clear hb hbox hg; obtain ⟨hcz5_0, hcz5_1, hcz5_2, hcz5_3, hcz5_4⟩ := bc5 BK308.out; obtain ⟨hfz5_0, hfz5_1, hfz5_2, hfz5_3, hfz5_4⟩ := bf5 BK308.out))
 go_ret
 exact ⟨by first | rfl | (simp [bQ, bP] <;> rfl) | (simp [*, bQ, bP] <;> rfl), bl1 HB.out GE308.out⟩

attribute [local go_sem] max2_int min2_int max_two min_two max_three min_three max_four min_four

-- NEED 3
/-! ### iN: function 72 -/
def iN.f (k : Nat) (a0 a1 a2 : Int) : Option (Int) := (aM.f k 2 0 a0 a1 a2).bind fun bt412 => (some bt412.1)
theorem iN.calls (k : Nat) (a0 a1 : Int) (a2 r : Int) (w : World) (h : iN.f k a0 a1 a2 = some r) :
  Calls Try.prog 72 #[.int .u32 a0, .int .u32 a1, .int .u32 a2] w fun e w' => e = .returned (.int .u32 r) ∧ Below w.heap.size w w' := by
 have hu82 := Try.underlying82
 have HB := Aside0.mk (Below.refl w.heap.size w)
 have H : ((aM.f k 2 0 a0 a1 a2).bind fun bt412 => (some bt412.1)) = some r := h
 clear h
 replace H := bq_ H
 obtain ⟨⟨t412, t413, t414, t415, t416, t417⟩, A40, H⟩ := H
 replace H : (some t412) = some r := H
 have A4 := Aside0.mk A40
 clear A40
 obtain rfl := Option.some.inj H
 go_enter Try.func72, Try.ntmps72
 go_wp2_with (first | ((with_reducible refine gate_callee (f := 96) rfl ?_); refine goesL_ (some 13) rfl rfl Try.func96 (by kernel_rfl) rfl #[.int .i64 2, .int .i64 0, .int .u32 a0, .int .u32 a1, .int .u32 a2] rfl gl ?_; (with_reducible refine (aM.calls k 2 0 a0 a1 a2 t412 t413 t414 t415 t416 t417 _ A4.out).mono ?_); rintro e w5 ⟨rfl, hb⟩; refine ⟨_, rfl, ?_⟩; have n0_ := Aside0.mk (below_step (bl0 HB.out) hb); clear HB; have HB := n0_; clear n0_) | ((with_reducible refine gate_dst (N := 8) rfl ?_); refine box_event ?hg (N := 8) ?hd (cs := F5) (t := 82) ?hr ?_; (case hd => rfl); (case hg => rfl); (case hr => first | (go_simp; done) | (go_simp; rfl)); intro gb418 hg w6 hbox hb; have n0_ := Aside0.mk (below_step (bl0 HB.out) hb); have n1_ := Aside0.mk (hbox); have n2_ := Aside0.mk ((by rw [hg]; exact (below_size (bl0 HB.out)) : w.heap.size ≤ gb418)); have n3_ := n2_; clear HB; have HB := n0_; have BK418 := n1_; have GW418 := n2_; have GE418 := n3_; clear n0_ n1_ n2_ n3_; clear hb hbox hg; obtain ⟨hcz7_0, hcz7_1, hcz7_2, hcz7_3, hcz7_4⟩ := bc5 BK418.out; obtain ⟨hfz7_0, hfz7_1, hfz7_2, hfz7_3, hfz7_4⟩ := bf5 BK418.out))
 go_ret
 exact ⟨by first | rfl | (simp [bQ, bP] <;> rfl) | (simp [*, bQ, bP] <;> rfl), bl1 HB.out GE418.out⟩

-- NEED 3
/-! ### clip_Length: function 47 -/
attribute [local go_sem] max2_int min2_int max_two min_two max_three min_three max_four min_four

-- NEED 3
/-! ### iF: function 44 -/
def iF.f (k : Nat) (a0 a1 : Int) : Option (Int) := (aU.f k 2 0 a0 a1).bind fun bt498 => (some bt498.1)
theorem iF.calls (k : Nat) (a0 a1 r : Int) (w : World) (h : iF.f k a0 a1 = some r) :
  Calls Try.prog 44 #[.int .u32 a0, .int .u32 a1] w fun e w' => e = .returned (.int .u32 r) ∧ Below w.heap.size w w' := by
 have hu82 := Try.underlying82
 have HB := Aside0.mk (Below.refl w.heap.size w)
 have H : ((aU.f k 2 0 a0 a1).bind fun bt498 => (some bt498.1)) = some r := h
 clear h
 replace H := bq_ H
 obtain ⟨⟨t498, t499, t500, t501, t502, t503⟩, A30, H⟩ := H
 replace H : (some t498) = some r := H
 have A3 := Aside0.mk A30
 clear A30
 obtain rfl := Option.some.inj H
 go_enter Try.func44, Try.ntmps44
 go_wp2_with (first | ((with_reducible refine gate_callee (f := 70) rfl ?_); refine goesL_ (some 10) rfl rfl Try.func70 (by kernel_rfl) rfl #[.int .i64 2, .int .i64 0, .int .u32 a0, .int .u32 a1] rfl gl ?_; (with_reducible refine (aU.calls k 2 0 a0 a1 t498 t499 t500 t501 t502 t503 _ A3.out).mono ?_); rintro e w4 ⟨rfl, hb⟩; refine ⟨_, rfl, ?_⟩; have n0_ := Aside0.mk (below_step (bl0 HB.out) hb); clear HB; have HB := n0_; clear n0_) | ((with_reducible refine gate_dst (N := 6) rfl ?_); refine box_event ?hg (N := 6) ?hd (cs := F5) (t := 82) ?hr ?_; (case hd => rfl); (case hg => rfl); (case hr => first | (go_simp; done) | (go_simp; rfl)); intro gb504 hg w5 hbox hb; have n0_ := Aside0.mk (below_step (bl0 HB.out) hb); have n1_ := Aside0.mk (hbox); have n2_ := Aside0.mk ((by rw [hg]; exact (below_size (bl0 HB.out)) : w.heap.size ≤ gb504)); have n3_ := n2_; clear HB; have HB := n0_; have BK504 := n1_; have GW504 := n2_; have GE504 := n3_; clear n0_ n1_ n2_ n3_; clear hb hbox hg; obtain ⟨hcz6_0, hcz6_1, hcz6_2, hcz6_3, hcz6_4⟩ := bc5 BK504.out; obtain ⟨hfz6_0, hfz6_1, hfz6_2, hfz6_3, hfz6_4⟩ := bf5 BK504.out))
 go_ret
 exact ⟨by first | rfl | (simp [bQ, bP] <;> rfl) | (simp [*, bQ, bP] <;> rfl), bl1 HB.out GE504.out⟩

attribute [local go_sem] max2_int min2_int max_two min_two max_three min_three max_four min_four

-- NEED 3
/-! ### iM: function 46 -/
def iM.f (k : Nat) (a0 a1 : Int) : Option (Int) := (bJ.f k 2 0 a0 a1).bind fun bt540 => (some bt540.1)
theorem iM.calls (k : Nat) (a0 a1 r : Int) (w : World) (h : iM.f k a0 a1 = some r) :
  Calls Try.prog 46 #[.int .u32 a0, .int .u32 a1] w fun e w' => e = .returned (.int .u32 r) ∧ Below w.heap.size w w' := by
 have hu82 := Try.underlying82
 have HB := Aside0.mk (Below.refl w.heap.size w)
 have H : ((bJ.f k 2 0 a0 a1).bind fun bt540 => (some bt540.1)) = some r := h
 clear h
 replace H := bq_ H
 obtain ⟨⟨t540, t541, t542, t543, t544, t545⟩, A30, H⟩ := H
 replace H : (some t540) = some r := H
 have A3 := Aside0.mk A30
 clear A30
 obtain rfl := Option.some.inj H
 go_enter Try.func46, Try.ntmps46
 go_wp2_with (first | ((with_reducible refine gate_callee (f := 71) rfl ?_); refine goesL_ (some 10) rfl rfl Try.func71 (by kernel_rfl) rfl #[.int .i64 2, .int .i64 0, .int .u32 a0, .int .u32 a1] rfl gl ?_; (with_reducible refine (bJ.calls k 2 0 a0 a1 t540 t541 t542 t543 t544 t545 _ A3.out).mono ?_); rintro e w4 ⟨rfl, hb⟩; refine ⟨_, rfl, ?_⟩; have n0_ := Aside0.mk (below_step (bl0 HB.out) hb); clear HB; have HB := n0_; clear n0_) | ((with_reducible refine gate_dst (N := 6) rfl ?_); refine box_event ?hg (N := 6) ?hd (cs := F5) (t := 82) ?hr ?_; (case hd => rfl); (case hg => rfl); (case hr => first | (go_simp; done) | (go_simp; rfl)); intro gb546 hg w5 hbox hb; have n0_ := Aside0.mk (below_step (bl0 HB.out) hb); have n1_ := Aside0.mk (hbox); have n2_ := Aside0.mk ((by rw [hg]; exact (below_size (bl0 HB.out)) : w.heap.size ≤ gb546)); have n3_ := n2_; clear HB; have HB := n0_; have BK546 := n1_; have GW546 := n2_; have GE546 := n3_; clear n0_ n1_ n2_ n3_; clear hb hbox hg; obtain ⟨hcz6_0, hcz6_1, hcz6_2, hcz6_3, hcz6_4⟩ := bc5 BK546.out; obtain ⟨hfz6_0, hfz6_1, hfz6_2, hfz6_3, hfz6_4⟩ := bf5 BK546.out))
 go_ret
 exact ⟨by first | rfl | (simp [bQ, bP] <;> rfl) | (simp [*, bQ, bP] <;> rfl), bl1 HB.out GE546.out⟩

attribute [local go_sem] max2_int min2_int max_two min_two max_three min_three max_four min_four

-- NEED 3
/-! ### iG: function 54 -/
def iG.f (k : Nat) (a0 a1 : Int) : Option (Int) := (bA.f k 2 0 a0 a1).bind fun bt602 => (some bt602.1)
theorem iG.calls (k : Nat) (a0 a1 r : Int) (w : World) (h : iG.f k a0 a1 = some r) :
  Calls Try.prog 54 #[.int .u32 a0, .int .u32 a1] w fun e w' => e = .returned (.int .u32 r) ∧ Below w.heap.size w w' := by
 have hu82 := Try.underlying82
 have HB := Aside0.mk (Below.refl w.heap.size w)
 have H : ((bA.f k 2 0 a0 a1).bind fun bt602 => (some bt602.1)) = some r := h
 clear h
 replace H := bq_ H
 obtain ⟨⟨t602, t603, t604, t605, t606, t607⟩, A30, H⟩ := H
 replace H : (some t602) = some r := H
 have A3 := Aside0.mk A30
 clear A30
 obtain rfl := Option.some.inj H
 go_enter Try.func54, Try.ntmps54
 go_wp2_with (first | ((with_reducible refine gate_callee (f := 75) rfl ?_); refine goesL_ (some 10) rfl rfl Try.func75 (by kernel_rfl) rfl #[.int .i64 2, .int .i64 0, .int .u32 a0, .int .u32 a1] rfl gl ?_; (with_reducible refine (bA.calls k 2 0 a0 a1 t602 t603 t604 t605 t606 t607 _ A3.out).mono ?_); rintro e w4 ⟨rfl, hb⟩; refine ⟨_, rfl, ?_⟩; have n0_ := Aside0.mk (below_step (bl0 HB.out) hb); clear HB; have HB := n0_; clear n0_) | ((with_reducible refine gate_dst (N := 6) rfl ?_); refine box_event ?hg (N := 6) ?hd (cs := F5) (t := 82) ?hr ?_; (case hd => rfl); (case hg => rfl); (case hr => first | (go_simp; done) | (go_simp; rfl)); intro gb608 hg w5 hbox hb; have n0_ := Aside0.mk (below_step (bl0 HB.out) hb); have n1_ := Aside0.mk (hbox); have n2_ := Aside0.mk ((by rw [hg]; exact (below_size (bl0 HB.out)) : w.heap.size ≤ gb608)); have n3_ := n2_; clear HB; have HB := n0_; have BK608 := n1_; have GW608 := n2_; have GE608 := n3_; clear n0_ n1_ n2_ n3_; clear hb hbox hg; obtain ⟨hcz6_0, hcz6_1, hcz6_2, hcz6_3, hcz6_4⟩ := bc5 BK608.out; obtain ⟨hfz6_0, hfz6_1, hfz6_2, hfz6_3, hfz6_4⟩ := bf5 BK608.out))
 go_ret
 exact ⟨by first | rfl | (simp [bQ, bP] <;> rfl) | (simp [*, bQ, bP] <;> rfl), bl1 HB.out GE608.out⟩

end Go.Proofs.Ytolpdiifmacdbaa.P

/- Functions of single numbers: the program's, as plain numbers. -/
namespace Go.Proofs.Ytolpdiifmacdbaa.Round
open Go.RowKit Go.Proofs.Ytolpdiifmacdbaa.P Go.Proofs.Ytolpdiifmacdbaa.Num Go.Proofs.Ytolpdiifmacdbaa.BitsF Go.Proofs.Ytolpdiifmacdbaa.Fmt Go.Proofs.YtolpdiifmacdbaaW.PrintWords Go.Proofs.YtolpdiifmacdbaaW.PrintLast Go.Proofs.YtolpdiifmacdbaaW.PrintMore

theorem fadd_ev (a b : Nat) (ha : a < 4294967296) (hb : b < 4294967296) : Ev (fun k => iG.f k (a : Int) (b : Int)) ((pR 2 0 a b : Nat) : Int) :=
 Ev.congr (fun k => by unfold iG.f; rfl) (Ev.bind (add_ev 2 0 a b ha hb) (Ev.now _))
theorem fmul_ev (a b : Nat) (ha : a < 4294967296) (hb : b < 4294967296) : Ev (fun k => iM.f k (a : Int) (b : Int)) ((mulN 2 0 a b : Nat) : Int) :=
 Ev.congr (fun k => by unfold iM.f; rfl) (Ev.bind (mul_ev 2 0 a b ha hb) (Ev.now _))
theorem fdiv_ev (a b : Nat) (ha : a < 4294967296) (hb : b < 4294967296) : Ev (fun k => iF.f k (a : Int) (b : Int)) ((divN 2 0 a b : Nat) : Int) :=
 Ev.congr (fun k => by unfold iF.f; rfl) (Ev.bind (div_ev 2 0 a b ha hb) (Ev.now _))
theorem ffma_ev (a b c : Nat) (ha : a < 4294967296) (hb : b < 4294967296) (hc : c < 4294967296) : Ev (fun k => iN.f k (a : Int) (b : Int) (c : Int)) ((tQ 2 0 a b c : Nat) : Int) :=
 Ev.congr (fun k => by unfold iN.f; rfl) (Ev.bind (vF 2 0 a b c ha hb hc) (Ev.now _))
end Go.Proofs.Ytolpdiifmacdbaa.Round

/- Roots: the program's, as plain numbers (for rounds without chapter 1). -/
namespace Go.Proofs.Ytolpdiifmacdbaa.BitsF
open Go.RowKit Go.Proofs.Ytolpdiifmacdbaa.P Go.Proofs.Ytolpdiifmacdbaa.Num Go.Proofs.YtolpdiifmacdbaaW.PrintWords Go.Proofs.YtolpdiifmacdbaaW.PrintLast Go.Proofs.YtolpdiifmacdbaaW.PrintMore

def gH : Nat → Nat → Nat → Nat
 |0, _, r => r
 |j + 1, v, r => if (r + 2 ^ j) * (r + 2 ^ j) ≤ v then gH j v (r + 2 ^ j) else gH j v r
def iO (v : Nat) : Nat := gH 32 v 0
theorem wH (j : Nat) : ∀ v r, r * r ≤ v → v < (r + 2 ^ j) * (r + 2 ^ j) → gH j v r * gH j v r ≤ v ∧ v < (gH j v r + 1) * (gH j v r + 1) := by
 induction j with
 |zero => intro v r h h'; exact ⟨h, h'⟩
 |succ j ih =>
  intro v r h h'
  unfold gH
  by_cases c : (r + 2 ^ j) * (r + 2 ^ j) ≤ v
  ·rw [if_pos c]; exact ih v _ c (by rw [Nat.add_assoc, ← Nat.mul_two, ← Nat.pow_succ]; exact h')
  ·rw [if_neg c]; exact ih v r h (by omega)
theorem zG (j : Nat) : ∀ v r n, r + 2 ^ j ≤ n → gH j v r < n := by
 induction j with
 |zero => intro v r n h; unfold gH; have := Nat.two_pow_pos 0; omega
 |succ j ih =>
  intro v r n h
  rw [Nat.pow_succ] at h
  unfold gH
  split
  ·exact ih _ _ _ (by omega)
  ·exact ih _ _ _ (by omega)
theorem rootN_is (v : Nat) (hv : v < 18446744073709551616) : iO v * iO v ≤ v ∧ v < (iO v + 1) * (iO v + 1) := wH 32 v 0 (by omega) (by omega)
theorem rootN_lt (v : Nat) : iO v < 4294967296 := zG 32 v 0 _ (by decide)
theorem sq_lt {a b : Nat} (h : a < b) : a * a < b * b := Nat.mul_self_lt_mul_self h
theorem sq32 {a : Nat} (h : a < 4294967296) : a * a < 18446744073709551616 := sq_lt (b := 4294967296) h
theorem beq_cast (a b : Nat) : (((a : Int) == (b : Int)) : Bool) = decide (a = b) := by
 by_cases h : a = b
 ·subst h; simp
 ·rw [beq_eq_false_iff_ne.mpr (by omega)]; simp [h]
theorem root_l0 (v j : Nat) : ∀ r k : Nat, r % 2 ^ j = 0 → r + 2 ^ j ≤ 4294967296 →
  bM.l0 (j + 1 + k) (v : Int) (r : Int) ((2 ^ j / 2 : Nat) : Int) = some ((gH j v r : Int), decide (gH j v r * gH j v r = v)) := by
 induction j with
 |zero =>
  intro r k h h'
  rw [show 0 + 1 + k = k + 1 by omega, bM.l0, if_neg (by decide)]
  rw [Nat.pow_zero] at h'
  unfold gH
  rw [show (r : Int) * (r : Int) = ((r * r : Nat) : Int) by simp, eG _ (sq32 (by omega)), beq_cast, Int.emod_eq_of_lt (by omega) (by omega)]
 |succ j ih =>
  intro r k h h'
  have hp := Nat.two_pow_pos j
  have e : 2 ^ (j + 1) / 2 = 2 ^ j := by rw [Nat.pow_succ, Nat.mul_div_cancel _ (by decide)]
  have e2 : ((2 ^ j : Nat) : Int) / 2 = ((2 ^ j / 2 : Nat) : Int) := by omega
  have hh : r % 2 ^ j = 0 := by
   rw [Nat.pow_succ] at h
   have := Nat.mod_mul_right_mod r (2 ^ j) 2
   rw [h] at this; simpa using this.symm
  rw [Nat.pow_succ] at h'
  rw [show j + 1 + 1 + k = (j + 1 + k) + 1 by omega, bM.l0, e, if_pos (by omega), or_u64 _ _ (by omega) (by omega), qU r (2 ^ j) (j + 1) h (by rw [Nat.pow_succ]; omega)]
  rw [show ((r + 2 ^ j : Nat) : Int) * ((r + 2 ^ j : Nat) : Int) = (((r + 2 ^ j) * (r + 2 ^ j) : Nat) : Int) by simp, eG _ (sq32 (by omega)), e2]
  unfold gH
  by_cases c : (r + 2 ^ j) * (r + 2 ^ j) ≤ v
  ·rw [if_pos (by omega), if_pos c]
   exact ih (r + 2 ^ j) k (by rw [Nat.add_mod_right]; exact hh) (by omega)
  ·rw [if_neg (by omega), if_neg c]
   exact ih r k hh (by omega)
theorem root_ev (v : Nat) : Ev (fun k => bM.f k (v : Int)) ((iO v : Int), decide (iO v * iO v = v)) :=
 Ev.of (bM.mono _) (k := 33) (by
  have h := root_l0 v 32 0 0 (by decide) (by decide)
  rw [show ((2 ^ 32 / 2 : Nat) : Int) = 2147483648 by decide, show ((0 : Nat) : Int) = 0 from rfl] at h
  exact h)
end Go.Proofs.Ytolpdiifmacdbaa.BitsF

/- Roots of numbers: the program's, as plain numbers. -/
namespace Go.Proofs.Ytolpdiifmacdbaa.Round
open Go.RowKit Go.Proofs.Ytolpdiifmacdbaa.P Go.Proofs.Ytolpdiifmacdbaa.Num Go.Proofs.Ytolpdiifmacdbaa.BitsF Go.Proofs.Ytolpdiifmacdbaa.Fmt Go.Proofs.YtolpdiifmacdbaaW.PrintWords Go.Proofs.YtolpdiifmacdbaaW.PrintLast Go.Proofs.YtolpdiifmacdbaaW.PrintMore

theorem rE (x : Int) : Int.tmod x 2 = 0 ↔ x % 2 = 0 := by
 constructor
 ·intro h
  have := Int.mul_tdiv_add_tmod x 2
  omega
 ·intro h
  obtain ⟨y, rfl⟩ : ∃ y, x = 2 * y := ⟨x / 2, by omega⟩
  exact Int.mul_tmod_right ..
theorem qY (x : Int) (h : x % 2 = 0) : Int.tdiv x 2 = x / 2 := by
 obtain ⟨y, rfl⟩ : ∃ y, x = 2 * y := ⟨x / 2, by omega⟩
 rw [Int.mul_tdiv_cancel_left y (by decide)]; omega
def iZ (f : Int) (a : Nat) : Nat := if (bC f a - (dN f a : Int)) % 2 = 0 then dN f a else dN f a - 1
def gF (f : Int) (a : Nat) : Nat := bG f a * 2 ^ iZ f a
def sideN (f mode : Int) (a : Nat) : Nat := j4 f mode false ((bC f a - (iZ f a : Int)) / 2) (iO (gF f a)) (!decide (iO (gF f a) * iO (gF f a) = gF f a))
def sideX (f mode : Int) (a : Nat) : Bool × Bool × Bool := vB f mode false ((bC f a - (iZ f a : Int)) / 2) (iO (gF f a)) (!decide (iO (gF f a) * iO (gF f a) = gF f a))
def qK (f mode : Int) (a : Nat) : Nat :=
 if 4 ≤ bE f a then nP f else if bE f a = 0 then cK f (bZ f a) else if bZ f a = true then nP f else if bE f a = 3 then mO f false else sideN f mode a
def sqrtX (f mode : Int) (a : Nat) : Bool × Bool × Bool × Bool × Bool :=
 if 4 ≤ bE f a then (eQ f a, false, false, false, false) else if bE f a = 0 then (false, false, false, false, false) else if bZ f a = true then (true, false, false, false, false) else if bE f a = 3 then (false, false, false, false, false) else (false, false, sideX f mode a)
theorem rT (f : Int) (a : Nat) (h : bG f a ≠ 0) : (bC f a - (iZ f a : Int)) % 2 = 0 ∧ iZ f a ≤ dN f a ∧ dN f a ≤ iZ f a + 1 ∧ 1152921504606846976 ≤ gF f a ∧ gF f a < 4611686018427387904 ∧ 1073741824 ≤ iO (gF f a) := by
 obtain ⟨k1, k2, k3, k4, k5⟩ := iV f a h
 have main : (bC f a - (iZ f a : Int)) % 2 = 0 ∧ iZ f a ≤ dN f a ∧ dN f a ≤ iZ f a + 1 := by
  unfold iZ; split <;> omega
 obtain ⟨m1, m2, m3⟩ := main
 have v1 : gF f a ≤ bG f a * 2 ^ dN f a := Nat.mul_le_mul_left _ (Nat.pow_le_pow_right (by decide) m2)
 have v2 : bG f a * 2 ^ dN f a ≤ gF f a * 2 := by
  unfold gF
  rw [Nat.mul_assoc, ← Nat.pow_succ]
  exact Nat.mul_le_mul_left _ (Nat.pow_le_pow_right (by decide) m3)
 have v3 : 1152921504606846976 ≤ gF f a := by omega
 refine ⟨m1, m2, m3, v3, by omega, ?_⟩
 obtain ⟨_, r2⟩ := rootN_is (gF f a) (by omega)
 rcases Nat.lt_or_ge (iO (gF f a)) 1073741824 with c | c
 ·have := Nat.mul_self_le_mul_self (show iO (gF f a) + 1 ≤ 1073741824 from c)
  omega
 ·exact c
theorem of_inf (f : Int) (v : Nat) (hv : v < 4294967296) (h : bE f v = 3) : dE.f f (v : Int) = some (bZ f v, 0, 0, false) := by
 have he := wM f v
 have hx : ¬ lK f v < fC f := fun c => by have := (oM f v).mpr c; omega
 have ht := fG f
 unfold dE.f dP.f
 rw [fF, Option.bind_some, pW f v hv, Option.bind_some]
 dsimp only
 rw [if_neg (by omega), rZ, Option.bind_some, if_pos (by omega)]; rfl
theorem wT (f mode : Int) (a : Nat) (ha : a < 4294967296) (h0 : bE f a ≠ 0) (h3 : bE f a < 3) (k0 : Int × Bool × Bool × Bool × Bool × Bool → Option (Int × Bool × Bool × Bool × Bool × Bool)) (hk : ∀ r, k0 r = some r) (c : Nat) (hc : c = iZ f a) :
  Ev (fun k => (aH.f k (bG f a : Int) (-(c : Int))).bind fun bt636 => ((bM.f k bt636.1).bind fun bt638 => ((aA.f k f mode false ((bC f a - (c : Int)) / 2) (IntKind.u64.wrap (bt638.1)) (!bt638.2)).bind fun bt640 => k0 bt640))) ((sideN f mode a : Int), false, false, sideX f mode a) := by
 subst hc
 have hw := kT f a h0 h3
 obtain ⟨m1, m2, m3, v1, v2, v3⟩ := rT f a hw
 obtain ⟨k1, k2, k3, k4, k5⟩ := iV f a hw
 obtain ⟨l1, l2⟩ := dH f a
 have hs := pV f a
 have hr := rootN_lt (gF f a)
 refine Ev.bind (mP _ hs (-(iZ f a : Int)) (by omega) (by omega)) ?_
 dsimp only
 rw [tL _ _ (show bG f a * 2 ^ iZ f a < 18446744073709551616 by unfold gF at v2; omega)]
 refine Ev.bind (root_ev (gF f a)) ?_
 dsimp only
 have hp := kK f mode false ((bC f a - (iZ f a : Int)) / 2) (iO (gF f a)) (!decide (iO (gF f a) * iO (gF f a) = gF f a)) (by omega)
 rw [jE _ (by omega) (by omega)] at hp
 rw [eG _ (by omega)]
 refine Ev.bind hp (Ev.congr (fun k => by rw [hk]; rfl) (Ev.now _))
theorem sqrt_ev (f mode : Int) (a : Nat) (ha : a < 4294967296) : Ev (fun k => bT.f k f mode (a : Int)) ((qK f mode a : Int), sqrtX f mode a) := by
 refine Ev.congr (fun k => by unfold bT.f; rfl) (Ev.bind (wO f a ha) ?_)
 have hle := oV f a
 unfold qK sqrtX
 by_cases c4 : 4 ≤ bE f a
 ·rw [if_pos c4, if_pos c4]
  exact Ev.congr (fun k => by rw [if_pos (show dX f a = true from decide_eq_true c4)]) (Ev.now _)
 ·rw [if_neg c4, if_neg c4]
  have n4 : ¬ dX f a = true := by unfold dX; simp; omega
  by_cases c3 : bE f a = 3
  ·refine Ev.congr (fun k => by rw [if_neg n4, of_inf f a ha c3, Option.bind_some]) (Ev.bind (mK f a ha) ?_)
   rw [if_neg (show ¬ bE f a = 0 by omega), if_neg (show ¬ bE f a = 0 by omega), decide_eq_false (show ¬ bE f a = 0 by omega)]
   dsimp only
   cases hn : bZ f a
   ·rw [if_neg (show ¬ false = true by decide), if_neg (show ¬ false = true by decide), if_pos c3, if_pos c3]
    exact Ev.congr (fun k => by rw [if_neg (show ¬ false = true by decide), if_neg (show ¬ false = true by decide)]) (Ev.bind (eU f a ha) (Ev.congr (fun k => by rw [if_pos (decide_eq_true c3), sJ]; rfl) (Ev.now _)))
   ·rw [if_pos (show true = true from rfl), if_pos (show true = true from rfl)]
    exact Ev.congr (fun k => by rw [if_neg (show ¬ false = true by decide), if_pos (show true = true from rfl), vD]; rfl) (Ev.now _)
  ·refine Ev.congr (fun k => by rw [if_neg n4, of_f f a ha (iC f a (by omega)), Option.bind_some]) (Ev.bind (mK f a ha) ?_)
   dsimp only
   by_cases c0 : bE f a = 0
   ·rw [if_pos c0, if_pos c0]
    exact Ev.congr (fun k => by rw [if_pos (decide_eq_true c0), qP]; rfl) (Ev.now _)
   ·rw [if_neg c0, if_neg c0, decide_eq_false c0]
    cases hn : bZ f a
    ·rw [if_neg (show ¬ false = true by decide), if_neg (show ¬ false = true by decide), if_neg c3, if_neg c3]
     refine Ev.congr (fun k => by rw [if_neg (show ¬ false = true by decide), if_neg (show ¬ false = true by decide)]) (Ev.bind (eU f a ha) ?_)
     have hs := pV f a
     have hw := kT f a c0 (by omega)
     obtain ⟨k1, k2, k3, k4, k5⟩ := iV f a hw
     obtain ⟨l1, l2⟩ := dH f a
     refine Ev.congr (fun k => by rw [if_neg (by simp [c3])]) (Ev.bind (xV _ hs) ?_)
     have e1 : wrap64 (62 - (gD (bG f a) : Int)) = (dN f a : Int) := by rw [bS _ (by omega) (by omega)]; omega
     have e2 : wrap64 (bC f a - (dN f a : Int)) = bC f a - (dN f a : Int) := bS _ (by omega) (by omega)
     have e3 : wrap64 (-(dN f a : Int)) = -(dN f a : Int) := bS _ (by omega) (by omega)
     have e4 : wrap64 ((dN f a : Int) - 1) = ((dN f a - 1 : Nat) : Int) := by rw [bS _ (by omega) (by omega)]; omega
     have e5 : wrap64 (-((dN f a - 1 : Nat) : Int)) = -((dN f a - 1 : Nat) : Int) := bS _ (by omega) (by omega)
     have e6 : wrap64 (bC f a - ((dN f a - 1 : Nat) : Int)) = bC f a - ((dN f a - 1 : Nat) : Int) := bS _ (by omega) (by omega)
     by_cases ev : (bC f a - (dN f a : Int)) % 2 = 0
     ·have hl : dN f a = iZ f a := by unfold iZ; rw [if_pos ev]
      have e7 : wrap64 (Int.tdiv (bC f a - (dN f a : Int)) 2) = (bC f a - (dN f a : Int)) / 2 := by rw [qY _ ev, bS _ (by omega) (by omega)]
      have h := wT f mode a ha c0 (by omega) some (fun r => rfl) _ hl
      refine Ev.congr (fun k => ?_) h
      rw [e1, e2, if_pos ((rE _).mpr ev), e3, e7]
     ·have hl : dN f a - 1 = iZ f a := by unfold iZ; rw [if_neg ev]
      have e7 : wrap64 (Int.tdiv (bC f a - ((dN f a - 1 : Nat) : Int)) 2) = (bC f a - ((dN f a - 1 : Nat) : Int)) / 2 := by rw [qY _ (by omega), bS _ (by omega) (by omega)]
      have h := wT f mode a ha c0 (by omega) some (fun r => rfl) _ hl
      refine Ev.congr (fun k => ?_) h
      rw [e1, e2, if_neg (fun h => ev ((rE _).mp h)), e4, e5, e6, e7]
    ·rw [if_pos (show true = true from rfl), if_pos (show true = true from rfl)]
     exact Ev.congr (fun k => by rw [if_neg (show ¬ false = true by decide), if_pos (show true = true from rfl), vD]; rfl) (Ev.now _)
end Go.Proofs.Ytolpdiifmacdbaa.Round

/- annealseat.Params as the closed reckoner has it: of known widths, of whatever numbers. -/
namespace Go.Proofs.Ytolpdiifmacdbaa.Xe
open Go.RowKit Go.Proofs.YtolpdiifmacdbaaW.PrintWords Go.Proofs.YtolpdiifmacdbaaW.PrintLast Go.Proofs.YtolpdiifmacdbaaW.PrintMore
def parT (id : Nat) (l m : Tm) (i j : Nat) : Tm := .f id (.c l (.c m (.c (.l (.ofNat i)) (.l (.ofNat j)))))
def parN (id : Nat) (l m : Tm) (i : Nat) : Nat → Nat → List C
 |0, _ => []
 |n + 1, j => .i .u32 (parT id l m i j) :: parN id l m i n (j + 1)
def zF (id : Nat) (l m : Tm) (i : Nat) : Nat → Nat → (List C → Bool) → Bool
 |0, _, K => K []
 |n + 1, j, K => dY (Nat.succ j) fun j' => zF id l m i n j' fun r => K (.i .u32 (.f id (.c l (.c m (.c (.l (.ofNat i)) (.l (.ofNat j)))))) :: r)
theorem wW (id : Nat) (l m : Tm) (i : Nat) : ∀ (n j : Nat) (K : List C → Bool), zF id l m i n j K = K (parN id l m i n j) := by
 intro n
 induction n with
 |zero => intro j K; rfl
 |succ n ih => intro j K; rw [zF, dG, ih]; rfl
def numV (g : Nat → Int) : Nat → Nat → List Value
 |0, _ => []
 |n + 1, j => .int .u32 (g j) :: numV g n (j + 1)
def ParC (w : World) (base e : Nat) (g : Nat → Nat → Int) : List Nat → Nat → List Value → Prop
 |a :: b :: r, i, cs => ∃ vw vb q, cs = .int .i64 (b : Int) :: .int .i64 (a : Int) :: .int .i64 2 :: vw :: .int .i64 1 :: .int .i64 (b : Int) :: .int .i64 2 :: vb :: q ∧
  w.ownsRow base e 1 vw (a * b) (numV (g i) (a * b) 0) ∧ w.ownsRow base e 1 vb b (numV (g i) b 0) ∧ ParC w base e g (b :: r) (i + 1) q
 |_, _, cs => cs = []
noncomputable def parK (id e : Nat) (l m : Tm) : List Nat → Nat → Hp → (List C → Hp → Bool) → Bool
 |a :: q, i, h, K => match q with
  |b :: r => dY (Nat.mul a b) fun ab => zF id l m i ab 0 fun ws => zF id l m i b 0 fun bs =>
   addK h e 1 ws fun g h => addK h e 1 bs fun g' h => dY (Nat.succ i) fun i' => parK id e l m (b :: r) i' h fun cs h =>
    K (.i .i64 (.l (.ofNat b)) :: .i .i64 (.l (.ofNat a)) :: .i .i64 (.l 2) :: .sl g 0 1 ab :: .i .i64 (.l 1) :: .i .i64 (.l (.ofNat b)) :: .i .i64 (.l 2) :: .sl g' 0 1 b :: cs) h
  |[] => K [] h
 |[], _, h, K => K [] h
def litsK : List C → (List Nat → Bool) → Bool
 |[], K => K []
 |.i k (.l (.ofNat n)) :: r, K => cnd (Nat.beq (fD k) 3 && Nat.blt 0 n && Nat.ble n 1000) (dY n fun n => litsK r fun q => K (n :: q)) false
 |_, _ => false
def boolT : BE → Option Tm
 |.tt => some (.l 1)
 |.ff => some (.l 0)
 |.q t => some t
 |_ => none
def isF : Option Bool → Bool
 |some false => true
 |_ => false
noncomputable def rowT (mx : Nat) (h : Hp) : C → Option Tm
 |.u g => match look h.us g with
  |some (.ro k t) => cnd (Nat.beq (fD k) 6 && isF (known h.pc (.lt (.l (.ofNat mx)) (.len t)))) (some t) none
  |_ => none
 |_ => none
noncomputable def parE (mx id e e' : Nat) : Fc := fun args h K => match args with
 |[.one w, .one l, .one (.b m)] => match w with
  |.sl wg wo wz wn => match fP h 1 (.sl wg wo wz wn) with
   |some cs => litsK cs fun ws => match rowT mx h l with
    |some t => match boolT m with
     |some m => cnd (Nat.blt 1 ws.length && Nat.ble ws.length 1000) (parK id e t m ws 0 h fun cs h => addK h e' 8 cs fun g h => dY (Nat.sub ws.length 1) fun n => K (.pv (.one (.sl g 0 8 n))) h) false
     |none => false
    |none => false
   |none => false
  |_ => false
 |_ => false
section
variable [Rho] {w0 : World} {A : Nat → Prop} {m : M} {h : Hp} {w : World}
theorem qW (m : M) (id : Nat) (l mt : Tm) (i : Nat) : ∀ n j, vals m (parN id l mt i n j) = numV (fun j => (parT id l mt i j).d) n j := by
 intro n
 induction n with
 |zero => intro j; rfl
 |succ n ih => intro j; show _ :: vals m (parN id l mt i n (j + 1)) = _; rw [ih]; rfl
theorem tV {id : Nat} {l mt : Tm} {i : Nat} (hr : ∀ j, IntKind.u32.has (parT id l mt i j).d) : ∀ n j, oks A (parN id l mt i n j) := by
 intro n
 induction n with
 |zero => intro j c hc; cases hc
 |succ n ih =>
  intro j c hc
  rcases List.mem_cons.1 hc with rfl | hc
  ·exact hr j
  ·exact ih _ c hc
theorem parK_v {id e base : Nat} {l mt : Tm} {g : Nat → Nat → Int} (hg : ∀ i j, (parT id l mt i j).d = g i j) (hr : ∀ i j, IntKind.u32.has (g i j)) : ∀ (ws : List Nat) (i : Nat) (h : Hp) (A : Nat → Prop) (m : M) (K : List C → Hp → Bool) (cs : List Value),
  (∀ a ∈ ws, 0 < a ∧ a ≤ 1000) → fU w0 A m h w → (∀ j x, look h.heap j = some x → x.2.2.1 = true → m.b j < base) → ParC w base e g ws i cs → parK id e l mt ws i h K = true →
  ∃ (A' : Nat → Prop) (m' : M) (h' : Hp) (q : List C), K q h' = true ∧ fU w0 A' m' h' w ∧ Grow none A A' m m' h h' ∧ oks A' q ∧ vals m' q = cs ∧ (∀ j x, look h'.heap j = some x → x.2.2.1 = true → m'.b j < base) := by
 intro ws
 induction ws with
 |nil => intro i h A m K cs _ r hf hc hk; exact ⟨A, m, h, [], hk, r, .refl _ _ _ _, fun c hc => (by cases hc), hc.symm, hf⟩
 |cons a ws ih =>
  intro i h A m K cs hp r hf hc hk
  cases ws with
  |nil => exact ⟨A, m, h, [], hk, r, .refl _ _ _ _, fun c hc => (by cases hc), hc.symm, hf⟩
  |cons b ws =>
   obtain ⟨vw, vb, q, rfl, c1, c2, c3⟩ := hc
   have ha := hp a (by simp)
   have hb := hp b (by simp)
   have fit : ∀ n : Nat, n ≤ 1000 → IntKind.i64.has (n : Int) := fun n hn => by
    show (-9223372036854775808 : Int) ≤ n ∧ (n : Int) ≤ 9223372036854775807
    omega
   rw [parK, dG, wW, wW] at hk
   have eg : ∀ n, vals m (parN id l mt i n 0) = numV (g i) n 0 := fun n => by rw [qW]; simp only [hg]
   obtain ⟨A1, m1, h1, g1, k1, r1, w1, a1, e1, f1⟩ := rY (n := a * b) r (tV (fun j => by rw [hg]; exact hr i j) _ _) (by rw [show Nat.mul a b = a * b from rfl, eg]; exact c1) (Nat.mul_pos ha.1 hb.1) hf hk
   have eg1 : ∀ n, vals m1 (parN id l mt i n 0) = numV (g i) n 0 := fun n => by rw [qW]; simp only [hg]
   obtain ⟨A2, m2, h2, g2, k2, r2, w2, a2, e2, f2⟩ := rY (n := b) r1 (tV (fun j => by rw [hg]; exact hr i j) _ _) (by rw [eg1]; exact c2) hb.1 f1 k1
   rw [dG] at k2
   obtain ⟨A3, m3, h3, p, k3, r3, w3, a3, e3, f3⟩ := ih (i + 1) h2 A2 m2 _ q (fun x hx => hp x (List.mem_cons_of_mem _ hx)) r2 f2 c3 k2
   have g12 := w1.trans w2
   have g13 := g12.trans w3
   refine ⟨A3, m3, h3, _, k3, r3, g13, ?_, ?_, f3⟩
   ·intro c hc
    simp only [List.mem_cons] at hc
    rcases hc with rfl | rfl | rfl | rfl | rfl | rfl | rfl | rfl | hc
    ·exact fit b hb.2
    ·exact fit a ha.2
    ·exact fit 2 (by decide)
    ·exact w3.sub _ (w2.sub _ a1)
    ·exact fit 1 (by decide)
    ·exact fit b hb.2
    ·exact fit 2 (by decide)
    ·exact w3.sub _ a2
    ·exact a3 c hc
   ·have x1 : (C.sl g1 0 1 (a * b)).v m3 = vw := by
     rw [e1]
     exact C.dU ((w2.trans w3).ext) (show (C.sl g1 0 1 (a * b)).ok A1 from a1)
    have x2 : (C.sl g2 0 1 b).v m3 = vb := by
     rw [e2]
     exact C.dU w3.ext (show (C.sl g2 0 1 b).ok A2 from a2)
    show Value.int .i64 (b : Int) :: Value.int .i64 (a : Int) :: Value.int .i64 2 :: (C.sl g1 0 1 (a * b)).v m3 :: Value.int .i64 1 :: Value.int .i64 (b : Int) :: Value.int .i64 2 :: (C.sl g2 0 1 b).v m3 :: vals m3 p = _
    rw [x1, x2, e3]
theorem litsK_v : ∀ {cs : List C} {K : List Nat → Bool}, litsK cs K = true → ∃ ws : List Nat, K ws = true ∧ (∀ a ∈ ws, 0 < a ∧ a ≤ 1000) ∧ ∀ m : M, vals m cs = ws.map fun n : Nat => Value.int .i64 n := by
 intro cs
 induction cs with
 |nil => intro K hk; exact ⟨[], hk, fun a ha => (by cases ha), fun _ => rfl⟩
 |cons c r ih =>
  intro K hk
  unfold litsK at hk
  split at hk
  ·next e => cases e
  ·next k n r' e =>
   cases e
   have h9 := btf hk
   clear hk
   obtain ⟨h1, hk⟩ := h9
   rw [dG] at hk
   simp only [Bool.and_eq_true] at h1
   obtain ⟨⟨h1, h2⟩, h3⟩ := h1
   obtain rfl : k = .i64 := fH (k' := .i64) h1
   have h2 : 0 < n := Nat.le_of_ble_eq_true h2
   have h3 := Nat.le_of_ble_eq_true h3
   obtain ⟨q, k1, k2, k3⟩ := ih hk
   refine ⟨n :: q, k1, fun a ha => ?_, fun m => ?_⟩
   ·rcases List.mem_cons.1 ha with rfl | ha
    ·exact ⟨h2, h3⟩
    ·exact k2 a ha
   ·show _ :: vals m _ = _; rw [k3]; rfl
  ·cases hk
theorem vH (r : fU w0 A m h w) {g o n : Nat} {cs : List C} (hs : fP h 1 (.sl g o 1 n) = some cs) {k : IntKind} {xs : List Int} (hv : vals m cs = xs.map (Value.int k)) : ∃ ad c, (C.sl g o 1 n).v m = .slice ad xs.length c ∧ xs.length ≤ c ∧ Kd.C (Kd.int k) w ad xs.length xs := by
 obtain ⟨h1, h2, h3, h4, h5, h6⟩ := gM (s := ⟨.e, h⟩) r (by decide) hs
 have e : xs.length = n := by
  have := congrArg List.length hv
  rw [bB, h3, List.length_map] at this
  omega
 refine ⟨_, _, by rw [e]; rfl, by omega, rfl, ?_, fun _ => ⟨_, rfl, fun j p hj => ⟨[.int k p], rfl, rfl, fun i u hu => ?_⟩⟩⟩
 ·simp only [maxLen] at h5
  omega
 ·have hi : i = 0 := by
   cases i with
   |zero => rfl
   |succ i => cases hu
  subst hi
  cases hu
  have hk : (Kd.int k).sz = 1 := rfl
  have e9 : j * (Kd.int k).sz + 0 = j := by rw [hk, Nat.mul_one]; rfl
  rw [e9]
  refine h6 j _ ?_
  rw [hv, List.getElem?_map, hj]
  rfl
end
theorem xI {h : Hp} {z g o z' n : Nat} {cs : List C} (hs : fP h z (.sl g o z' n) = some cs) : z' = z := by
 unfold fP at hs
 exact (Nat.eq_of_beq_eq_true (dO hs).1).symm
section
variable [Rho] {P : Program}
theorem parE_ok {f : Nat} {fn : Func} (hf : P.funcs[f]? = some fn) (hb : fn.body.isSome = true) (hn : (fn.name == "runtime.NumGoroutine") = false) {mx id e e' : Nat} (hmx : mx ≤ 1000) {G : List Int → Bool → Nat → Nat → Int}
  (hF : ∀ (l m : U) (i j : Nat), (Rho.f id (.p l (.p m (.p (.n i) (.n j))))).int = G l.lst (!(m.int == 0)) i j) (hr : ∀ l b i j, IntKind.u32.has (G l b i j))
  (hc : ∀ (ws : List Nat) (l : List Int) (b : Bool) (aw al : Option Addr) (cw cl : Nat) (W : World), 1 < ws.length → ws.length ≤ cw → l.length ≤ cl → (∀ a ∈ ws, 0 < a ∧ a ≤ 1000) → ws.length ≤ 1000 → l.length ≤ 1000 → Kd.C (Kd.int .i64) W aw ws.length (ws.map fun n : Nat => (n : Int)) → Kd.C (Kd.int .u32) W al l.length l →
   Calls P f #[.slice aw ws.length cw, .slice al l.length cl, .bool b] W fun en W' => ∃ v cs, en = .returned v ∧ W'.ownsRow W.heap.size e' 8 v (ws.length - 1) cs ∧ ParC W' W.heap.size e (G l b) ws 0 cs ∧ Below W.heap.size W W') : kZ P f (parE mx id e e') := by
 intro vs h K A m w w0 hrel hv hk
 refine ⟨⟨fn, hf, hb, hn⟩, ?_⟩
 unfold parE at hk
 split at hk
 ·next wc lc mb =>
  split at hk
  ·next wg wo wz wn =>
   split at hk
   ·next cs hcs =>
    obtain rfl := xI hcs
    obtain ⟨ws, k1, k2, k3⟩ := litsK_v hk
    split at k1
    ·next t ht =>
     split at k1
     ·next mt hmt =>
      have h9 := btf k1
      obtain ⟨l1, k4⟩ := h9
      rw [Bool.and_eq_true] at l1
      have l2 := Nat.le_of_ble_eq_true l1.2
      have l1 : 1 < ws.length := Nat.le_of_ble_eq_true l1.1
      -- the widths
      obtain ⟨aw, cw, v1, v3, v2⟩ := vH hrel hcs (k := .i64) (xs := ws.map fun n : Nat => (n : Int)) (by rw [k3, List.map_map]; rfl)
      rw [List.length_map] at v1 v2 v3
      -- the numbers
      obtain ⟨al, cl, u1, u2, u3, u4⟩ : ∃ al cl, lc.v m = .slice al t.u.lst.length cl ∧ Kd.C (Kd.int .u32) w al t.u.lst.length t.u.lst ∧ t.u.lst.length ≤ 1000 ∧ t.u.lst.length ≤ cl := by
       unfold rowT at ht
       split at ht
       ·next g =>
        split at ht
        ·next k t' hl =>
         obtain ⟨q1, q2⟩ := dO ht
         cases q2
         rw [Bool.and_eq_true] at q1
         obtain rfl : k = .u32 := fH (k' := .u32) q1.1
         have q3 : known h.pc (.lt (.l (.ofNat mx)) (.len t)) = some false := by
          have q4 := q1.2
          unfold isF at q4
          split at q4
          ·next e => exact e
          ·cases q4
         have q5 : decide ((Int.ofNat mx : Int) < ((min t.u.lst.length vE : Nat) : Int)) = false := pX hrel.pc q3
         have q6 := of_decide_eq_false q5
         have q7 : t.u.lst.length ≤ 1000 := by
          unfold vE at q6
          have : (Int.ofNat mx : Int) = (mx : Int) := rfl
          omega
         obtain ⟨_, _, ad, c, x1, x2, _, _, x4⟩ := hrel.us _ _ hl
         exact ⟨ad, c, x1, Kd.C_below x2 hrel.bel, q7, x4⟩
        ·cases ht
       ·cases ht
      -- the truth value
      have hbd : mb.d = !(mt.d == 0) := by
       unfold boolT at hmt
       split at hmt
       ·cases hmt; rfl
       ·cases hmt; rfl
       ·cases hmt; rfl
       ·cases hmt
      have ea : (([.one (.sl wg wo 1 wn), .one lc, .one (.b mb)] : List PV).map (PV.v m)).toArray = #[.slice aw ws.length cw, .slice al t.u.lst.length cl, .bool (!(mt.d == 0))] := by
       show #[(C.sl wg wo 1 wn).v m, lc.v m, Value.bool mb.d] = _
       rw [v1, u1, hbd]
      rw [ea]
      refine (hc ws t.u.lst _ aw al cw cl w l1 v3 u4 k2 l2 u3 v2 u2).mono ?_
      rintro en w' ⟨v, cs', rfl, c1, c2, c3⟩
      have r1 := hrel.grow c3
      have hfr : ∀ j x, look h.heap j = some x → x.2.2.1 = true → m.b j < w.heap.size := by
       intro j x hj _
       obtain ⟨e1, z1, wr1, cs1⟩ := x
       obtain ⟨_, _, _, _, rest, a5, _⟩ := hrel.heap j e1 z1 wr1 cs1 hj
       exact blk_lt a5
      obtain ⟨A1, m1, h1, q, k5, r2, w2, o2, e2, f2⟩ := parK_v (g := G t.u.lst (!(mt.d == 0))) (fun i j => hF _ _ i j) (fun i j => hr _ _ i j) ws 0 h A m _ cs' k2 r1 hfr c2 k4
      obtain ⟨A2, m2, h2, g2, k6, r3, w3, a3, e3, _⟩ := rY (n := ws.length - 1) r2 o2 (by rw [e2]; exact c1) (by omega) f2 k5
      rw [dG] at k6
      exact ⟨_, A2, m2, h2, k6, by rw [e3]; rfl, a3, r3, w2.trans w3⟩
     ·cases k1
    ·cases k1
   ·cases hk
  ·cases hk
 ·cases hk
end
end Go.Proofs.Ytolpdiifmacdbaa.Xe

/- Numbers drawn, of any format at all: plain numbers. -/
namespace Go.Proofs.Ytolpdiifmacdbaa.Round
open Go.RowKit Go.Proofs.Ytolpdiifmacdbaa.P Go.Proofs.Ytolpdiifmacdbaa.Num Go.Proofs.Ytolpdiifmacdbaa.BitsF Go.Proofs.Ytolpdiifmacdbaa.Fmt Go.Proofs.YtolpdiifmacdbaaW.PrintWords Go.Proofs.YtolpdiifmacdbaaW.PrintLast Go.Proofs.YtolpdiifmacdbaaW.PrintMore

theorem any_in (n : Int) : ∃ m : Nat, IntKind.u32.wrap n = (m : Int) ∧ m < 4294967296 := by
 rw [mH]
 exact ⟨(n % 4294967296).toNat, by omega, by omega⟩
theorem uS (op : BinOp) (a b : Int) (h : op = .and ∨ op = .or) : ∃ m : Nat, Go.bits op .u32 a b = (m : Int) ∧ m < 4294967296 := by
 rcases h with rfl | rfl
 ·exact any_in _
 ·exact any_in _
theorem num_any (f : Int) (a : Nat) : ∃ x : Nat, aV.f f (a : Int) = some (x : Int) ∧ x < 4294967296 := by
 have e := Int.tmod_eq_emod_of_nonneg (b := 15) (Int.natCast_nonneg a)
 have hp : 0 ≤ Int.tmod (a : Int) 15 ∧ Int.tmod (a : Int) 15 < 15 := by rw [e]; omega
 have fin : ∀ y : Int, ∃ x : Nat, (if (a : Int) / 2147483648 = 1 then (some (cK f true : Int)).bind (fun t => some (Go.bits .or .u32 (Go.bits .and .u32 y (maskN f : Int)) t)) else some (Go.bits .and .u32 y (maskN f : Int))) = some (x : Int) ∧ x < 4294967296 := by
  intro y
  by_cases c : (a : Int) / 2147483648 = 1
  ·rw [if_pos c, Option.bind_some]
   obtain ⟨m, h1, h2⟩ := uS .or (Go.bits .and .u32 y (maskN f : Int)) (cK f true : Int) (.inr rfl)
   exact ⟨m, by rw [h1], h2⟩
  ·rw [if_neg c]
   obtain ⟨m, h1, h2⟩ := uS .and y (maskN f : Int) (.inl rfl)
   exact ⟨m, by rw [h1], h2⟩
 unfold aV.f
 rw [gW, Option.bind_some]
 dsimp only
 rcases oO f with ⟨h1, h2⟩ | ⟨h1, h2⟩ | ⟨h1, h2⟩
 ·rw [h1, h2, if_pos (by decide), if_pos (by decide), if_neg (by decide), if_pos (show (0 : Int) ≤ wrap64 (((10 : Nat) : Int) - 1) by unfold wrap64; omega), if_neg (by decide), Option.bind_some, if_pos hp.1, if_pos (by exact hp.2), lC, Option.bind_some, jS]
  exact fin _
 ·rw [h1, h2, if_pos (by decide), if_pos (by decide), if_neg (by decide), if_pos (show (0 : Int) ≤ wrap64 (((7 : Nat) : Int) - 1) by unfold wrap64; omega), if_neg (by decide), Option.bind_some, if_pos hp.1, if_pos (by exact hp.2), lC, Option.bind_some, jS]
  exact fin _
 ·rw [h1, h2, if_pos (by decide), if_pos (by decide), if_neg (by decide), if_pos (show (0 : Int) ≤ wrap64 (((23 : Nat) : Int) - 1) by unfold wrap64; omega), if_neg (by decide), Option.bind_some, if_pos hp.1, if_pos (by exact hp.2), lC, Option.bind_some, jS]
  exact fin _
end Go.Proofs.Ytolpdiifmacdbaa.Round

-- Printed by a program of this session's out of Lean's print of the translation; Lean checks it.
namespace Go.Proofs.Ytolpdiifmacdbaa.P
open Go.RowKit Go.Proofs.YtolpdiifmacdbaaW.PrintWords Go.Proofs.YtolpdiifmacdbaaW.PrintLast Go.Proofs.YtolpdiifmacdbaaW.PrintMore
attribute [local go_sem] max2_int min2_int max_two min_two max_three min_three max_four min_four

-- NEED 1
/-! ### aC: function 17 -/
mutual
def aC.l0 : Nat → Int → Int → Int → List Int → Bool → Int → Int → Int → Int → List Int → Option (Int × Int × Int × List Int)
 |0, _, _, _, _, _, _, _, _, _, _ => none
 |k + 1, x0, x1, x2, x3, x4, x12, x119000, x119001, x119002, x119003 => if x12 < (wrap64 (x0 * x1)) then (if (x3.length : Int) > 0 then (if (x3.length : Int) = 0 then (none) else (if 0 ≤ (Int.tmod x12 (x3.length : Int)) then (if (Int.tmod x12 (x3.length : Int)) < (x3.length : Int) then (aC.j1 k x0 x1 x2 x3 x4 x12 (((rd x3 (Int.tmod x12 (x3.length : Int))) + ((((wrap64 (Int.tdiv x12 (x3.length : Int))) % 4294967296) * 40503) % 4294967296)) % 4294967296) x119000 x119001 x119002 x119003) else (none)) else (none))) else (aC.j1 k x0 x1 x2 x3 x4 x12 ((((x12) % 4294967296) * 2654435761) % 4294967296) x119000 x119001 x119002 x119003)) else (some (x119000, x119001, x119002, x119003))
def aC.j1 : Nat → Int → Int → Int → List Int → Bool → Int → Int → Int → Int → Int → List Int → Option (Int × Int × Int × List Int)
 |0, _, _, _, _, _, _, _, _, _, _, _ => none
 |k + 1, x0, x1, x2, x3, x4, x12, x13, x119000, x119001, x119002, x119003 => if x4 = true then ((dA.f x2 x13).bind fun t120 => (if x119003.length < 35184372088832 then (aC.l0 k x0 x1 x2 x3 x4 (wrap64 (x12 + 1)) x119000 x119001 x119002 (x119003 ++ [t120])) else (none))) else ((aV.f x2 x13).bind fun t124 => (if x119003.length < 35184372088832 then (aC.l0 k x0 x1 x2 x3 x4 (wrap64 (x12 + 1)) x119000 x119001 x119002 (x119003 ++ [t124])) else (none)))
end
def aC.f (k : Nat) (a0 a1 a2 : Int) (l3 : List Int) (a4 : Bool) : Option (Int × Int × Int × List Int) := aC.l0 k a0 a1 a2 l3 a4 0 a0 a1 a2 ([] : List Int)
def aC.T7 : Bool × List (List Nat × List Nat) := (true, [([], []), ([], []), ([], []), ([2], [2]), ([1, 3], [1, 3]), ([0, 4], [0, 4]), ([5], [5]), ([], []), ([], []), ([8], [8]), ([7, 9], [7, 9]), ([10], [10]), ([11], [11]), ([6, 12], [6, 12]), ([13, 0, 1, 2, 3, 4, 5, 6, 7, 8, 9, 10, 11, 12, 13], [13])])
def aC.B7 : List Nat := [0, 0, 0, 4, 14, 31, 63, 0, 0, 256, 896, 1920, 3968, 8191, 16383]
theorem aC.tab7 : rtab .any (opsOf Try.f17 7) = aC.T7 := by kernel_rfl
theorem aC.bits7 : waitsOk aC.T7.2 aC.B7 = true := by kernel_rfl
def aC.T9 : Bool × List (List Nat × List Nat) := (true, [([], []), ([0], [0]), ([], []), ([], []), ([2, 3], [2, 3]), ([4], [4]), ([1, 5, 4], [1, 5]), ([0, 1, 2, 3, 4, 5, 6], []), ([7, 6, 6, 0, 1, 2, 3, 4, 5, 6], [6, 7])])
def aC.B9 : List Nat := [0, 1, 0, 0, 12, 28, 63, 127, 255]
theorem aC.tab9 : rtab .any (opsOf Try.f17 9) = aC.T9 := by kernel_rfl
theorem aC.bits9 : waitsOk aC.T9.2 aC.B9 = true := by kernel_rfl
def aC.T10 : Bool × List (List Nat × List Nat) := (true, [([], []), ([0], [0]), ([], []), ([], []), ([2, 3], [2, 3]), ([4], [4]), ([1, 5, 4], [1, 5]), ([0, 1, 2, 3, 4, 5, 6], []), ([7, 6, 6, 0, 1, 2, 3, 4, 5, 6], [6, 7])])
def aC.B10 : List Nat := [0, 1, 0, 0, 12, 28, 63, 127, 255]
theorem aC.tab10 : rtab .any (opsOf Try.f17 10) = aC.T10 := by kernel_rfl
theorem aC.yH : waitsOk aC.T10.2 aC.B10 = true := by kernel_rfl
theorem aC.calls (k : Nat) (a0 a1 a2 : Int) (A3 : Option Addr) (c3 : Nat) (l3 : List Int) (a4 : Bool) (r1 r2 r3 : Int) (r4 : List Int) (w : World) (hr3 : Kd.C (Kd.int .u32) w A3 l3.length l3) (hc3 : l3.length ≤ c3) (h : aC.f k a0 a1 a2 l3 a4 = some (r1, r2, r3, r4)) :
  Calls Try.prog 17 #[.int .i64 a0, .int .i64 a1, .int .i64 a2, .slice A3 l3.length c3, .bool a4] w fun e w' => ∃ v3_ : Value, e = .returned (.agg #[.int .i64 r1, .int .i64 r2, .int .i64 r3, v3_]) ∧ Kd.R (Kd.int .u32) 35 w' w.heap.size (fun _ => True) v3_ r4 ∧ Below w.heap.size w w' := by
 have hu32 := Try.underlying32
 have HR3 := Aside0.mk hr3
 have HC3 := Aside0.mk hc3
 clear hr3 hc3
 have HB := Aside0.mk (Below.refl w.heap.size w)
 have H : (aC.l0 k a0 a1 a2 l3 a4 0 a0 a1 a2 ([] : List Int)) = some (r1, r2, r3, r4) := h
 clear h
 have H' := Aside0.mk H
 clear H
 go_enter Try.func17, Try.ntmps17
 go_wp2_with (first | ((with_reducible refine gate_dst (N := 10) rfl ?_); refine box_event ?hg (N := 10) ?hd (cs := #[.int .i64 0, .int .i64 0, .int .i64 0, .slice none 0 0]) (t := 32) ?hr ?_; (case hd => rfl); (case hg => rfl); (case hr => first | (go_simp; done) | (go_simp; rfl)); intro gb117 hg w6 hbox hb; have n0_ := Aside0.mk (below_step (bl0 HB.out) hb); have n1_ := Aside0.mk (hbox); have n2_ := Aside0.mk ((by rw [hg]; exact (below_size (bl0 HB.out)) : w.heap.size ≤ gb117)); have n3_ := n2_; clear HB; have HB := n0_; have BK117 := n1_; have GW117 := n2_; have GE117 := n3_; clear n0_ n1_ n2_ n3_; clear hb hbox hg) | ((with_reducible refine gate_dst (N := 11) rfl ?_); refine box_event ?hg (N := 11) ?hd (cs := #[.int .i64 0, .int .i64 0, .int .i64 0, .slice none 0 0]) (t := 32) ?hr ?_; (case hd => rfl); (case hg => rfl); (case hr => first | (go_simp; done) | (go_simp; rfl)); intro gb118 hg w7 hbox hb; have n0_ := Aside0.mk (blk_below (g := gb117) (o := .cells #[.int .i64 0, .int .i64 0, .int .i64 0, .slice none 0 0] 32 (0, 0)) (bv BK117.out) hb); have n1_ := Aside0.mk (below_step (bl1 HB.out GE117.out) hb); have n2_ := Aside0.mk (hbox); have n3_ := Aside0.mk ((by rw [hg]; exact (below_size (bl1 HB.out GE117.out)) : w.heap.size ≤ gb118)); have n4_ := n3_; have n5_ := Aside0.mk ((by rw [hg]; exact Nat.ne_of_lt (blk_lt (g := gb117) (o := .cells #[.int .i64 0, .int .i64 0, .int .i64 0, .slice none 0 0] 32 (0, 0)) (bv BK117.out)) : gb117 ≠ gb118)); have n6_ := Aside0.mk (Ne.symm n5_.out); clear BK117; clear HB; have BK117 := n0_; have HB := n1_; have BK118 := n2_; have GW118 := n3_; have GE118 := n4_; have NB117_118 := n5_; have NB118_117 := n6_; clear n0_ n1_ n2_ n3_ n4_ n5_ n6_; clear hb hbox hg; have hnb8 := NB118_117.out; have hnc8 := NB117_118.out; obtain ⟨hcz9_0, hcz9_1, hcz9_2, hcz9_3⟩ := bc4 BK118.out; obtain ⟨hfz9_0, hfz9_1, hfz9_2, hfz9_3⟩ := bf4 BK118.out))
 go_loopg [12] k (fun kq v12 w' => ∃ (x12_1 : Int) (x119003_1 : List Int) (u119003 : Value), v12 = .int .i64 x12_1 ∧ Aside0 (aC.l0 kq a0 a1 a2 l3 a4 x12_1 a0 a1 a2 x119003_1 = some (r1, r2, r3, r4)) ∧ Aside0 (kq ≤ k) ∧ Aside0 (Kd.R (Kd.int .u32) 35 w' w.heap.size (fun _ => True) u119003 x119003_1) ∧ Aside0 (w'.heap[gb117]? = some (.cells #[.int .i64 0, .int .i64 0, .int .i64 0, (.slice none 0 0)] 32 (0, 0))) ∧ Aside0 (w'.heap[gb118]? = some (.cells #[.int .i64 a0, .int .i64 a1, .int .i64 a2, u119003] 32 (0, 0))) ∧ Aside0 (Below w.heap.size w w'))
 case atStart => exact ⟨(0), (([] : List Int)), (.slice none 0 0), (gr_), H', ⟨Nat.le_refl _⟩, ⟨by first | exact Kd.R_nil _ _ _ _ _ | exact Kd.N_nil _ _ _ _ _ | exact Kd.V_nil _ _ _ _ _ | exact Kd.Q_nil _ _ _ _ _ | exact Kd.S_nil _ _ _ _ _⟩, ⟨by (with_reducible repeat first | apply bd | apply be | apply ba); refine blk_far ?_ NB117_118.out _; (with_reducible repeat first | apply bd | apply be | apply ba); refine blk_far ?_ NB117_118.out _; (with_reducible repeat first | apply bd | apply be | apply ba); refine blk_far ?_ NB117_118.out _; (with_reducible repeat first | apply bd | apply be | apply ba); refine blk_far ?_ NB117_118.out _; (with_reducible repeat first | apply bd | apply be | apply ba); exact BK117.out⟩, ⟨by (with_reducible repeat first | apply bd | apply be | apply ba); refine blk_put (cs := #[.int .i64 a0, .int .i64 a1, .int .i64 a2, .slice none 0 0]) ?_ 3 _ rfl; (with_reducible repeat first | apply bd | apply be | apply ba); refine blk_put (cs := #[.int .i64 a0, .int .i64 a1, .int .i64 0, .slice none 0 0]) ?_ 2 _ rfl; (with_reducible repeat first | apply bd | apply be | apply ba); refine blk_put (cs := #[.int .i64 a0, .int .i64 0, .int .i64 0, .slice none 0 0]) ?_ 1 _ rfl; (with_reducible repeat first | apply bd | apply be | apply ba); refine blk_put (cs := #[.int .i64 0, .int .i64 0, .int .i64 0, .slice none 0 0]) ?_ 0 _ rfl; (with_reducible repeat first | apply bd | apply be | apply ba); exact BK118.out⟩, ⟨bl2 HB.out GE117.out GE118.out⟩⟩
 case round =>
  clear H'
  try clear c1 p2 c3 p6 c8 hcz9_0 hcz9_1 hcz9_2 hcz9_3 hfz9_0 hfz9_1 hfz9_2 hfz9_3
  obtain ⟨x12_1, x119003_1, u119003, rfl, HA, HK1, HO_119003, BK117, BK118, HB⟩ := hrel
  cases gk with
  |zero => exact absurd HA.out (by simp [aC.l0])
  |succ k1 =>
   have H := HA.out
   clear HA
   simp only [aC.l0] at H
   by_cases c10 : x12_1 < (wrap64 (a0 * a1))
   ·rw [if_pos c10] at H
    have c10b0 : decide (x12_1 < (wrap64 (a0 * a1))) = true := decide_eq_true c10
    clear c10
    obtain ⟨ji11, hji11⟩ : ∃ j_ : Int, ((((x12_1) % 4294967296) * 2654435761) % 4294967296) = j_ := ⟨_, rfl⟩
    replace H : (if (l3.length : Int) > 0 then (if (l3.length : Int) = 0 then (none) else (if 0 ≤ (Int.tmod x12_1 (l3.length : Int)) then (if (Int.tmod x12_1 (l3.length : Int)) < (l3.length : Int) then (aC.j1 k1 a0 a1 a2 l3 a4 x12_1 (((rd l3 (Int.tmod x12_1 (l3.length : Int))) + ((((wrap64 (Int.tdiv x12_1 (l3.length : Int))) % 4294967296) * 40503) % 4294967296)) % 4294967296) a0 a1 a2 x119003_1) else (none)) else (none))) else (aC.j1 k1 a0 a1 a2 l3 a4 x12_1 ji11 a0 a1 a2 x119003_1)) = some (r1, r2, r3, r4) := by first | (rw [hji11] at H; exact H) | (simp only [hji11] at H ⊢; exact H)
    have hji11l : 0 ≤ ji11 := by rw [← hji11]; exact Int.emod_nonneg _ (by decide)
    have hji11h : ji11 ≤ 4294967295 := by have := Int.emod_lt_of_pos ((((x12_1) % 4294967296) * 2654435761)) (show (0 : Int) < 4294967296 by decide); omega
    have hji11w : (IntKind.u32.wrap (((x12_1) % 4294967296) * 2654435761)) = ji11 := (jY _).trans hji11
    (try (have hji11_ := hji11; simp only [Int.add_emod_emod, Int.emod_add_emod, Int.sub_emod_emod, Int.emod_sub_emod] at hji11_))
    have HC12 := Aside0.mk H
    clear H
    go_upto_if 30 with (fail)
    go_cut [13] (fun v13 wc => ∃ (kq : Nat) (x13_11 : Int), v13 = .int .u32 x13_11 ∧ Aside0 (aC.j1 kq a0 a1 a2 l3 a4 x12_1 x13_11 a0 a1 a2 x119003_1 = some (r1, r2, r3, r4)) ∧ Aside0 (kq ≤ k1) ∧ Aside0 (Kd.R (Kd.int .u32) 35 wc w.heap.size (fun _ => True) u119003 x119003_1) ∧ Aside0 (wc.heap[gb117]? = some (.cells #[.int .i64 0, .int .i64 0, .int .i64 0, (.slice none 0 0)] 32 (0, 0))) ∧ Aside0 (wc.heap[gb118]? = some (.cells #[.int .i64 a0, .int .i64 a1, .int .i64 a2, u119003] 32 (0, 0))) ∧ Aside0 (Below w.heap.size w wc))
    case first =>
     have H := HC12.out
     clear HC12
     by_cases c13 : (l3.length : Int) > 0
     ·rw [if_pos c13] at H
      have c13b0 : decide (0 < (l3.length : Int)) = true := decide_eq_true c13
      have c13b1 : decide (0 < l3.length) = true := decide_eq_true (by omega)
      clear c13
      (first | rw [c13b0] | rw [c13b1] | (simp only [i64_w, i32_w]; rw [c13b0]) | skip)
      by_cases c14 : (l3.length : Int) = 0
      ·rw [if_pos c14] at H
       exact absurd H (by simp)
      ·rw [if_neg c14] at H
       have c14b0 : ((l3.length : Int) == 0) = false := beq_eq_false_iff_ne.mpr c14
       have c14b1 : ((l3.length : Int) != 0) = true := bne_iff_ne.mpr c14
       have c14b2 : ¬ (l3 = []) := fun h_ => c14 (by rw [h_]; rfl)
       obtain ⟨ji15, hji15⟩ : ∃ j_ : Int, (Int.tmod x12_1 (l3.length : Int)) = j_ := ⟨_, rfl⟩
       replace H : (if 0 ≤ (ji15) then (if (ji15) < (l3.length : Int) then (aC.j1 k1 a0 a1 a2 l3 a4 x12_1 (((rd l3 (ji15)) + ((((wrap64 (Int.tdiv x12_1 (l3.length : Int))) % 4294967296) * 40503) % 4294967296)) % 4294967296) a0 a1 a2 x119003_1) else (none)) else (none)) = some (r1, r2, r3, r4) := by first | (rw [hji15] at H; exact H) | (simp only [hji15] at H ⊢; exact H)
       by_cases c16 : 0 ≤ (ji15)
       ·rw [if_pos c16] at H
        have c16b0 : decide (0 ≤ (ji15)) = true := decide_eq_true c16
        clear c16
        by_cases c17 : (ji15) < (l3.length : Int)
        ·rw [if_pos c17] at H
         have c17b0 : decide ((ji15) < (l3.length : Int)) = true := decide_eq_true c17
         clear c17
         obtain ⟨ji18, hji18⟩ : ∃ j_ : Int, ((((wrap64 (Int.tdiv x12_1 (l3.length : Int))) % 4294967296) * 40503) % 4294967296) = j_ := ⟨_, rfl⟩
         replace H : (aC.j1 k1 a0 a1 a2 l3 a4 x12_1 (((rd l3 (ji15)) + (ji18)) % 4294967296) a0 a1 a2 x119003_1) = some (r1, r2, r3, r4) := by first | (rw [hji18] at H; exact H) | (simp only [hji18] at H ⊢; exact H)
         have hji18l : 0 ≤ ji18 := by rw [← hji18]; exact Int.emod_nonneg _ (by decide)
         have hji18h : ji18 ≤ 4294967295 := by have := Int.emod_lt_of_pos ((((wrap64 (Int.tdiv x12_1 (l3.length : Int))) % 4294967296) * 40503)) (show (0 : Int) < 4294967296 by decide); omega
         have hji18w : (IntKind.u32.wrap (((wrap64 (Int.tdiv x12_1 (l3.length : Int))) % 4294967296) * 40503)) = ji18 := (jY _).trans hji18
         (try (have hji18_ := hji18; simp only [Int.add_emod_emod, Int.emod_add_emod, Int.sub_emod_emod, Int.emod_sub_emod] at hji18_))
         obtain ⟨ji19, hji19⟩ : ∃ j_ : Int, (((rd l3 (ji15)) + (ji18)) % 4294967296) = j_ := ⟨_, rfl⟩
         replace H : (aC.j1 k1 a0 a1 a2 l3 a4 x12_1 ji19 a0 a1 a2 x119003_1) = some (r1, r2, r3, r4) := by first | (rw [hji19] at H; exact H) | (simp only [hji19] at H ⊢; exact H)
         have hji19l : 0 ≤ ji19 := by rw [← hji19]; exact Int.emod_nonneg _ (by decide)
         have hji19h : ji19 ≤ 4294967295 := by have := Int.emod_lt_of_pos (((rd l3 (ji15)) + (ji18))) (show (0 : Int) < 4294967296 by decide); omega
         have hji19w : (IntKind.u32.wrap ((rd l3 (ji15)) + (ji18))) = ji19 := (jY _).trans hji19
         (try (have hji19_ := hji19; simp only [Int.add_emod_emod, Int.emod_add_emod, Int.sub_emod_emod, Int.emod_sub_emod] at hji19_))
         have H' := Aside0.mk H
         clear H
         try go_wp2
         have n0_ := Aside0.mk (Kd.R_drew HO_119003.out)
         have n1_ := Aside0.mk (blk_drew BK117.out)
         have n2_ := Aside0.mk (blk_drew BK118.out)
         have n3_ := Aside0.mk (below_drew1 HB.out)
         clear HO_119003
         clear BK117
         clear BK118
         clear HB
         have HO_119003 := n0_
         have BK117 := n1_
         have BK118 := n2_
         have HB := n3_
         clear n0_ n1_ n2_ n3_
         have p119 : 0 ≤ ((ji15) : Int) := of_decide_eq_true (by first | (with_reducible assumption) | assumption)
         have q119 : (ji15) < (l3.length : Int) := of_decide_eq_true (by first | (with_reducible assumption) | assumption)
         obtain ⟨ad119, e119, hx119_0⟩ := Kd.at_int HR3.out (ji15) p119 q119
         have hw119_0 := hx119_0
         cases e119
         replace hx119_0 := (HB.out.cell (World.block_lt_of_cell? w _ hx119_0)).trans hx119_0
         replace p119 := eq_true p119
         replace q119 := eq_true q119
         refine start_ (n := 15) (S := fun w' => w'.cell? (ad119.add ((ji15)).toNat) = some (.int .u32 (rd l3 (ji15)))) (ds := []) (tf 0 15) (by kernel_rfl) rfl rfl (((HB.out.cell (World.block_lt_of_cell? w _ hw119_0)).trans hw119_0)) (fun hHeld => ?_); refine with_tabW aC.tab7 aC.bits7 (fun HT_ HW_ => ?_)
         generalize wr.drew = w20 at HO_119003 BK117 BK118 HB hx119_0 hHeld ⊢
         refine pure_ (i := 0) (N := some 31) (v := ?_) (a' := ?_) (tf 1 14) rfl rfl (any_of HT_.out (by kernel_rfl)) (fun _ _ _ h => h) (Or.inl ⟨by rfl, ?_⟩) ?_ ?_
         rotate_left
         ·intro w'
          go_simp
          with_reducible rfl
         rotate_left
         ·simp only [Act.put, sb, sz, ss, i64_w, i32_w]
          rfl
         refine pure_ (i := 1) (N := some 32) (v := ?_) (a' := ?_) (tf 2 13) rfl rfl (any_of HT_.out (by kernel_rfl)) (fun _ _ _ h => h) (Or.inl ⟨by rfl, ?_⟩) ?_ ?_
         rotate_left
         ·intro w'
          go_simp
          with_reducible rfl
         rotate_left
         ·simp only [Act.put, sb, sz, ss, i64_w, i32_w]
          rfl
         refine pure_ (i := 2) (N := some 33) (v := ?_) (a' := ?_) (tf 3 12) rfl rfl (any_of HT_.out (by kernel_rfl)) (fun _ _ _ h => h) (Or.inl ⟨by rfl, ?_⟩) ?_ ?_
         rotate_left
         ·intro w'
          go_simp
          with_reducible rfl
         rotate_left
         ·simp only [Act.put, sb, sz, ss, i64_w, i32_w]
          rfl
         refine pure_ (i := 3) (N := some 34) (v := ?_) (a' := ?_) (tf 4 11) rfl rfl (any_of HT_.out (by kernel_rfl)) (fun _ _ _ h => h) (Or.inl ⟨by rfl, ?_⟩) ?_ ?_
         rotate_left
         ·intro w'
          go_simp
          with_reducible rfl
         rotate_left
         ·simp only [Act.put, sb, sz, ss, i64_w, i32_w]
          rfl
         refine pure_ (i := 4) (N := some 35) (v := ?_) (a' := ?_) (tf 5 10) rfl rfl (any_of HT_.out (by kernel_rfl)) (fun _ _ _ h => h) (Or.inl ⟨by rfl, ?_⟩) ?_ ?_
         rotate_left
         ·intro w'
          go_simp
          with_reducible rfl
         rotate_left
         ·simp only [Act.put, sb, sz, ss, i64_w, i32_w]
          rfl
         refine pure_ (i := 5) (N := some 36) (v := ?_) (a' := ?_) (tf 6 9) rfl rfl (any_of HT_.out (by kernel_rfl)) (fun _ _ _ h => h) (Or.inl ⟨by rfl, ?_⟩) ?_ ?_
         rotate_left
         ·intro w'
          go_simp
          with_reducible rfl
         rotate_left
         ·simp only [Act.put, sb, sz, ss, i64_w, i32_w]
          rfl
         refine pure_ (i := 7) (N := some 38) (v := ?_) (a' := ?_) #[true, true, true, true, true, true, false, true, false, false, false, false, false, false, false] rfl rfl (any_of HT_.out (by kernel_rfl)) (fun _ _ _ h => h) (Or.inl ⟨by rfl, ?_⟩) ?_ ?_
         rotate_left
         ·intro w'
          go_simp
          with_reducible rfl
         rotate_left
         ·simp only [Act.put, sb, sz, ss, i64_w, i32_w]
          rfl
         refine pure_ (i := 8) (N := some 39) (v := ?_) (a' := ?_) #[true, true, true, true, true, true, false, true, true, false, false, false, false, false, false] rfl rfl (any_of HT_.out (by kernel_rfl)) (fun _ _ _ h => h) (Or.inl ⟨by rfl, ?_⟩) ?_ ?_
         rotate_left
         ·intro w'
          go_simp
          with_reducible rfl
         rotate_left
         ·simp only [Act.put, sb, sz, ss, i64_w, i32_w]
          rfl
         refine pure_ (i := 9) (N := some 40) (v := ?_) (a' := ?_) #[true, true, true, true, true, true, false, true, true, true, false, false, false, false, false] rfl rfl (any_of HT_.out (by kernel_rfl)) (fun _ _ _ h => h) (Or.inl ⟨by rfl, ?_⟩) ?_ ?_
         rotate_left
         ·intro w'
          go_simp
          with_reducible rfl
         rotate_left
         ·simp only [Act.put, sb, sz, ss, i64_w, i32_w]
          rfl
         refine pure_ (i := 10) (N := some 41) (v := ?_) (a' := ?_) #[true, true, true, true, true, true, false, true, true, true, true, false, false, false, false] rfl rfl (any_of HT_.out (by kernel_rfl)) (fun _ _ _ h => h) (Or.inl ⟨by rfl, ?_⟩) ?_ ?_
         rotate_left
         ·intro w'
          go_simp
          with_reducible rfl
         rotate_left
         ·simp only [Act.put, sb, sz, ss, i64_w, i32_w]
          rfl
         refine pure_ (i := 11) (N := some 42) (v := ?_) (a' := ?_) #[true, true, true, true, true, true, false, true, true, true, true, true, false, false, false] rfl rfl (any_of HT_.out (by kernel_rfl)) (fun _ _ _ h => h) (Or.inl ⟨by rfl, ?_⟩) ?_ ?_
         rotate_left
         ·intro w'
          go_simp
          with_reducible rfl
         rotate_left
         ·simp only [Act.put, sb, sz, ss, i64_w, i32_w]
          rfl
         refine pure_ (i := 12) (N := some 43) (v := ?_) (a' := ?_) #[true, true, true, true, true, true, false, true, true, true, true, true, true, false, false] rfl rfl (any_of HT_.out (by kernel_rfl)) (fun _ _ _ h => h) (Or.inl ⟨by rfl, ?_⟩) ?_ ?_
         rotate_left
         ·intro w'
          go_simp
          with_reducible rfl
         rotate_left
         ·simp only [Act.put, sb, sz, ss, i64_w, i32_w]
          rfl
         refine take_ (i := 6) (N := some 37) (v := ?_) (a' := ?_) (tf 13 2) rfl rfl (take_ofW HT_.out HW_.out (by kernel_rfl)) (fun _ _ _ h => h) (Or.inl ⟨by rfl, ?_⟩) hHeld ?_ ?_
         rotate_left
         ·intro w' s0
          go_simp
          with_reducible rfl
         rotate_left
         ·simp only [Act.put, sb, sz, ss, i64_w, i32_w]
          rfl
         refine pure_ (i := 13) (N := some 44) (v := ?_) (a' := ?_) (tf 14 1) rfl rfl (any_of HT_.out (by kernel_rfl)) (fun _ _ _ h => h) (Or.inl ⟨by rfl, ?_⟩) ?_ ?_
         rotate_left
         ·intro w'
          go_simp
          with_reducible rfl
         rotate_left
         ·simp only [Act.put, sb, sz, ss, i64_w, i32_w]
          rfl
         refine pure_ (i := 14) (N := some 13) (v := ?_) (a' := ?_) (tf 15 0) rfl rfl (any_of HT_.out (by kernel_rfl)) (fun _ _ _ h => h) (Or.inl ⟨by rfl, ?_⟩) ?_ ?_
         rotate_left
         ·intro w'
          go_simp
          with_reducible rfl
         rotate_left
         ·simp only [Act.put, sb, sz, ss, i64_w, i32_w]
          rfl
         refine done_ (done_of HT_.out (by kernel_rfl)) ?_
         try go_wp2
         go_meet
         case rel => exact ⟨_, (ji19), (by first | rfl | (rw [← hji19w, ← hji18w]; simp only [jY]; done) | (rw [← hji19w, ← hji18w]; simp only [jY]; rfl) | (rw [← hji19w, ← hji18w]; simp only [jY]; done) | (rw [← hji19w, ← hji18w]; simp only [jY]; rfl) | (simp; done) | (simp only [← hji19] <;> (first | rfl | (simp; done))) | (simp [*]; done) | (congr 1; (try unfold wrap64); omega) | (congr 1; rw [IntKind.wrap_u64]; omega)), H', ⟨by have := HK1.out; first | omega | exact Nat.le_refl _⟩, ⟨by (with_reducible repeat (first | apply Kd.R_alloc | apply Kd.R_drewN | apply Kd.R_drew)); exact HO_119003.out⟩, ⟨by (with_reducible repeat first | apply bd | apply be | apply ba); exact BK117.out⟩, ⟨by (with_reducible repeat first | apply bd | apply be | apply ba); exact BK118.out⟩, ⟨bl2 HB.out GE117.out GE118.out⟩⟩
        ·rw [if_neg c17] at H
         exact absurd H (by simp)
       ·rw [if_neg c16] at H
        exact absurd H (by simp)
     ·rw [if_neg c13] at H
      have c13b0 : decide (0 < (l3.length : Int)) = false := decide_eq_false c13
      have c13b1 : decide (0 < l3.length) = false := decide_eq_false (by omega)
      clear c13
      (first | rw [c13b0] | rw [c13b1] | (simp only [i64_w, i32_w]; rw [c13b0]) | skip)
      have H' := Aside0.mk H
      clear H
      go_wp2
      go_meet
      case rel => exact ⟨_, (ji11), (by first | rfl | (simp; done) | (simp only [← hji11] <;> (first | rfl | (simp; done))) | (simp [*]; done) | (congr 1; (try unfold wrap64); omega) | (congr 1; rw [IntKind.wrap_u64]; omega)), H', ⟨by have := HK1.out; first | omega | exact Nat.le_refl _⟩, ⟨by (with_reducible repeat (first | apply Kd.R_alloc | apply Kd.R_drewN | apply Kd.R_drew)); exact HO_119003.out⟩, ⟨by (with_reducible repeat first | apply bd | apply be | apply ba); exact BK117.out⟩, ⟨by (with_reducible repeat first | apply bd | apply be | apply ba); exact BK118.out⟩, ⟨bl2 HB.out GE117.out GE118.out⟩⟩
    case rest =>
     clear HC12
     try clear c1 p1 q1 hx1 p2 c3 p6 c8 c10 c10b0 p11 q11 hx11 c13 c13b0 c13b1 c14 c14b0 c14b1 c14b2 c16 c16b0 c17 c17b0 hcz9_0 hcz9_1 hcz9_2 hcz9_3 hfz9_0 hfz9_1 hfz9_2 hfz9_3 hx119_0 p119 p2 p6 q119
     obtain ⟨kq, x13_11, rfl, HA, HJ11, HO_119003, BK117, BK118, HB⟩ := hcut
     cases kq with
     |zero => exact absurd HA.out (by simp [aC.j1])
     |succ kj11 =>
      have H := HA.out
      clear HA
      simp only [aC.j1] at H
      by_cases c21 : a4 = true
      ·subst c21
       have H1 : ((dA.f a2 x13_11).bind fun t120 => (if x119003_1.length < 35184372088832 then (aC.l0 kj11 a0 a1 a2 l3 true (wrap64 (x12_1 + 1)) a0 a1 a2 (x119003_1 ++ [t120])) else (none))) = some (r1, r2, r3, r4) := by rw [if_pos rfl] at H; exact H
       clear H
       have H := H1
       clear H1
       replace H := bq_ H
       obtain ⟨t120, A220, H⟩ := H
       replace H : (if x119003_1.length < 35184372088832 then (aC.l0 kj11 a0 a1 a2 l3 true (wrap64 (x12_1 + 1)) a0 a1 a2 (x119003_1 ++ [t120])) else (none)) = some (r1, r2, r3, r4) := H
       have A22 := Aside0.mk A220
       clear A220
       by_cases c23 : x119003_1.length < 35184372088832
       ·rw [if_pos c23] at H
        have LMc23 := Aside0.mk c23
        clear c23
        obtain ⟨y121, hy121⟩ : ∃ y_ : List Int, y_ = (x119003_1 ++ [t120]) := ⟨_, rfl⟩
        replace H : (aC.l0 kj11 a0 a1 a2 l3 true (wrap64 (x12_1 + 1)) a0 a1 a2 y121) = some (r1, r2, r3, r4) := by first | (rw [hy121]; with_reducible exact H) | (have H2_ := (Option.bind_some _ _).symm.trans H; rw [hy121]; with_reducible exact H2_) | (have H2_ := (Option.bind_some _ _).symm.trans H; with_reducible exact H2_) | with_reducible exact H | (rw [hy121]; exact H) | exact H
        have Ny121 := Aside0.mk hy121
        clear hy121
        have H' := Aside0.mk H
        clear H
        try go_wp2
        have n0_ := Aside0.mk (Kd.R_drew HO_119003.out)
        have n1_ := Aside0.mk (blk_drew BK117.out)
        have n2_ := Aside0.mk (blk_drew BK118.out)
        have n3_ := Aside0.mk (below_drew1 HB.out)
        clear HO_119003
        clear BK117
        clear BK118
        clear HB
        have HO_119003 := n0_
        have BK117 := n1_
        have BK118 := n2_
        have HB := n3_
        clear n0_ n1_ n2_ n3_
        refine start_ (n := 9) (S := fun w' => w'.cell? ⟨gb118, 0, none⟩ = some (.int .i64 a0) ∧ w'.cell? ⟨gb118, 1, none⟩ = some (.int .i64 a1) ∧ w'.cell? ⟨gb118, 2, none⟩ = some (.int .i64 a2) ∧ w'.cell? ⟨gb118, 3, none⟩ = some (u119003)) (ds := [8]) (tf 0 9) (by kernel_rfl) rfl rfl ⟨(blk_cell BK118.out 0).trans rfl, (blk_cell BK118.out 1).trans rfl, (blk_cell BK118.out 2).trans rfl, (blk_cell BK118.out 3).trans rfl⟩ (fun hHeld => ?_); refine with_tabW aC.tab9 aC.bits9 (fun HT_ HW_ => ?_)
        generalize wc.drew = w24 at HO_119003 BK117 BK118 HB hHeld ⊢
        refine pure_ (i := 0) (N := some 46) (v := ?_) (a' := ?_) (tf 1 8) rfl rfl (any_of HT_.out (by kernel_rfl)) (fun _ _ _ h => h) (Or.inl ⟨by rfl, ?_⟩) ?_ ?_
        rotate_left
        ·intro w'
         go_simp
         with_reducible rfl
        rotate_left
        ·simp only [Act.put, sb, sz, ss, i64_w, i32_w]
         rfl
        refine pure_ (i := 2) (N := some 48) (v := ?_) (a' := ?_) #[true, false, true, false, false, false, false, false, false] rfl rfl (any_of HT_.out (by kernel_rfl)) (fun _ _ _ h => h) (Or.inl ⟨by rfl, ?_⟩) ?_ ?_
        rotate_left
        ·intro w'
         go_simp
         with_reducible rfl
        rotate_left
        ·simp only [Act.put, sb, sz, ss, i64_w, i32_w]
         rfl
        refine pure_ (i := 3) (N := some 49) (v := ?_) (a' := ?_) #[true, false, true, true, false, false, false, false, false] rfl rfl (any_of HT_.out (by kernel_rfl)) (fun _ _ _ h => h) (Or.inl ⟨by rfl, ?_⟩) ?_ ?_
        rotate_left
        ·intro w'
         go_simp
         with_reducible rfl
        rotate_left
        ·simp only [Act.put, sb, sz, ss, i64_w, i32_w]
         rfl
        refine take_ (i := 1) (N := some 47) (v := ?_) (a' := ?_) (tf 4 5) rfl rfl (take_ofW HT_.out HW_.out (by kernel_rfl)) (fun _ _ _ h => h) (Or.inl ⟨by rfl, ?_⟩) hHeld ?_ ?_
        rotate_left
        ·rintro w' ⟨s0, s1, s2, s3⟩
         go_simp
         with_reducible rfl
        rotate_left
        ·simp only [Act.put, sb, sz, ss, i64_w, i32_w]
         rfl
        refine one_ (i := 4) (N := some 50) (tf 5 4) rfl rfl (one_of HT_.out (by kernel_rfl)) (by decide) (fun K hK => ?_)
        refine goes_ Try.func35 (by kernel_rfl) rfl #[.int .i64 a2, .int .u32 x13_11] (by rfl) rfl rfl gl ?_
        with_reducible refine (dA.calls a2 x13_11 t120 _ A22.out).mono ?_
        rintro e w' ⟨rfl, ⟨nd, rfl⟩⟩
        refine ⟨_, rfl, ?_⟩
        refine hK.out _ _ ⟨(blk_cell BK118.out 0).trans rfl, (blk_cell BK118.out 1).trans rfl, (blk_cell BK118.out 2).trans rfl, (blk_cell BK118.out 3).trans rfl⟩ (fun hHeld => ?_)
        clear hK K
        refine norm_ (a' := ?_) ?_ ?_
        rotate_left
        ·show Act.put _ (some 50) _ = _
         simp only [Act.put, sb, sz, ss, i64_w, i32_w]
         rfl
        refine one_ (i := 5) (N := some 51) (tf 6 3) rfl rfl (one_of HT_.out (by kernel_rfl)) (by decide) (fun K hK => ?_)
        refine value_ (w1 := ?_) (v := ?_) (by rfl) rfl ?_ ?_
        rotate_left 2
        ·go_simp
         constructor
         ·rfl
         ·rfl
        refine hK.out _ _ ⟨(blk_cell (blk_alloc BK118.out _) 0).trans rfl, (blk_cell (blk_alloc BK118.out _) 1).trans rfl, (blk_cell (blk_alloc BK118.out _) 2).trans rfl, (blk_cell (blk_alloc BK118.out _) 3).trans rfl⟩ (fun hHeld => ?_)
        clear hK K
        refine norm_ (a' := ?_) ?_ ?_
        rotate_left
        ·show Act.put _ (some 51) _ = _
         simp only [Act.put, sb, sz, ss, i64_w, i32_w]
         rfl
        refine one_ (i := 6) (N := some 52) (tf 7 2) rfl rfl (one_of HT_.out (by kernel_rfl)) (by decide) (fun K hK => ?_)
        refine Kd.R_append_step (Kd.int .u32) (w0 := w) w.heap.size (by rfl) (.tmp 47) (.tmp 51) 23 35 (.int .u32 0) 4 rfl Try.underlying23 xC rfl (by decide) (by omega) u119003 x119003_1 t120 [.int .u32 t120] (fun _ => True) (fun _ => False) rfl rfl ?aP (fun _ hk => hk.elim) ?aF ?aO ?aB ?aS ?aL ?_
        (case aP => exact rfl)
        (case aB => exact (bl2 HB.out GE117.out GE118.out))
        (case aF => exact (fun _ _ => trivial))
        (case aO => exact (by (with_reducible repeat (first | apply Kd.R_alloc | apply Kd.R_drewN | apply Kd.R_drew)); exact HO_119003.out))
        (case aS => exact (below_size (bl2 HB.out GE117.out GE118.out)))
        (case aL => have := LMc23.out; omega)
        intro v122 w25 ho hb hg hat
        rw [← Ny121.out] at ho
        have n0_ := Aside0.mk (blk_grown (g := gb117) (o := .cells #[.int .i64 0, .int .i64 0, .int .i64 0, .slice none 0 0] 32 (0, 0)) (bv BK117.out) hg (Kd.R_ne HO_119003.out BK117.out (by decide)))
        have n1_ := Aside0.mk (blk_grown (g := gb118) (o := .cells #[.int .i64 a0, .int .i64 a1, .int .i64 a2, u119003] 32 (0, 0)) (bv BK118.out) hg (Kd.R_ne HO_119003.out BK118.out (by decide)))
        have n2_ := Aside0.mk (hb)
        have n3_ := Aside0.mk (ho)
        clear BK117
        clear BK118
        clear HB
        clear HO_119003
        have BK117 := n0_
        have BK118 := n1_
        have HB := n2_
        have HO123 := n3_
        clear n0_ n1_ n2_ n3_
        clear ho hb hg hat
        obtain ⟨Ao26, co26, eo26⟩ := Kd.R_slice HO123.out
        (first | subst eo26 | (injection eo26 with f1_ f2_ f3_; have f4_ := f1_.symm; have f5_ := f3_.symm; clear f1_ f2_ f3_; subst f4_; subst f5_))
        refine hK.out _ _ ⟨(blk_cell BK118.out 0).trans rfl, (blk_cell BK118.out 1).trans rfl, (blk_cell BK118.out 2).trans rfl, (blk_cell BK118.out 3).trans rfl⟩ (fun hHeld => ?_)
        clear hK K
        refine norm_ (a' := ?_) ?_ ?_
        rotate_left
        ·show Act.put _ (some 52) _ = _
         simp only [Act.put, sb, sz, ss, i64_w, i32_w]
         rfl
        refine pure_ (i := 7) (N := some 53) (v := ?_) (a' := ?_) (tf 8 1) rfl rfl (any_of HT_.out (by kernel_rfl)) (fun _ _ _ h => h) (Or.inl ⟨by rfl, ?_⟩) ?_ ?_
        rotate_left
        ·intro w'
         go_simp
         with_reducible rfl
        rotate_left
        ·simp only [Act.put, sb, sz, ss, i64_w, i32_w]
         rfl
        refine last_ (i := 8) (N := none) (tf 9 0) rfl rfl (one_of HT_.out (by kernel_rfl)) (by decide) (fun K hK => ?_)
        have hs27 : w25.cell? ⟨gb118, 3, none⟩ = some (u119003) := (blk_cell BK118.out 3).trans rfl
        have hfs27 := blk_frozen BK118.out 3
        have hns27_0 := NB117_118.out
        have hms27_0 := NB118_117.out
        refine skip_ (w1 := ?_) (by rfl) rfl ?_ ?_
        rotate_left
        ·go_simp
         rfl
        refine hK.out _ _ ?_
        clear hK K
        refine done_ (done_of HT_.out (by kernel_rfl)) ?_
        try go_wp2
        (try subst hji11)
        go_roundg kj11
        case measure => have := HK1.out; have := HJ11.out; omega
        case rel => exact ⟨(wrap64 (x12_1 + 1)), (y121), (.slice Ao26 y121.length co26), (gr_), H', ⟨by have := HK1.out; have := HJ11.out; omega⟩, ⟨by (with_reducible repeat (first | apply Kd.R_alloc | apply Kd.R_drewN | apply Kd.R_drew)); exact Kd.R_mono (Kd.R_far (p := ⟨gb118, 3, none⟩) (Kd.R_types HO123.out BK118.out (by decide)) (fun _ hk => hk.2) (.slice Ao26 y121.length co26)) (fun _ hk => trivial)⟩, ⟨by (with_reducible repeat first | apply bd | apply be | apply ba); refine blk_far ?_ NB117_118.out _; (with_reducible repeat first | apply bd | apply be | apply ba); exact BK117.out⟩, ⟨by (with_reducible repeat first | apply bd | apply be | apply ba); refine blk_put (cs := #[.int .i64 a0, .int .i64 a1, .int .i64 a2, u119003]) ?_ 3 _ rfl; (with_reducible repeat first | apply bd | apply be | apply ba); exact BK118.out⟩, ⟨bl2 HB.out GE117.out GE118.out⟩⟩
       ·rw [if_neg c23] at H
        exact absurd H (by simp)
      ·replace c21 := Bool.eq_false_iff.mpr c21
       subst c21
       have H1 : ((aV.f a2 x13_11).bind fun t124 => (if x119003_1.length < 35184372088832 then (aC.l0 kj11 a0 a1 a2 l3 false (wrap64 (x12_1 + 1)) a0 a1 a2 (x119003_1 ++ [t124])) else (none))) = some (r1, r2, r3, r4) := by rw [if_neg (show ¬ (false = true) by decide)] at H; exact H
       clear H
       have H := H1
       clear H1
       replace H := bq_ H
       obtain ⟨t124, A280, H⟩ := H
       replace H : (if x119003_1.length < 35184372088832 then (aC.l0 kj11 a0 a1 a2 l3 false (wrap64 (x12_1 + 1)) a0 a1 a2 (x119003_1 ++ [t124])) else (none)) = some (r1, r2, r3, r4) := H
       have A28 := Aside0.mk A280
       clear A280
       by_cases c29 : x119003_1.length < 35184372088832
       ·rw [if_pos c29] at H
        have LMc29 := Aside0.mk c29
        clear c29
        obtain ⟨y125, hy125⟩ : ∃ y_ : List Int, y_ = (x119003_1 ++ [t124]) := ⟨_, rfl⟩
        replace H : (aC.l0 kj11 a0 a1 a2 l3 false (wrap64 (x12_1 + 1)) a0 a1 a2 y125) = some (r1, r2, r3, r4) := by first | (rw [hy125]; with_reducible exact H) | (have H2_ := (Option.bind_some _ _).symm.trans H; rw [hy125]; with_reducible exact H2_) | (have H2_ := (Option.bind_some _ _).symm.trans H; with_reducible exact H2_) | with_reducible exact H | (rw [hy125]; exact H) | exact H
        have Ny125 := Aside0.mk hy125
        clear hy125
        have H' := Aside0.mk H
        clear H
        try go_wp2
        have n0_ := Aside0.mk (Kd.R_drew HO_119003.out)
        have n1_ := Aside0.mk (blk_drew BK117.out)
        have n2_ := Aside0.mk (blk_drew BK118.out)
        have n3_ := Aside0.mk (below_drew1 HB.out)
        clear HO_119003
        clear BK117
        clear BK118
        clear HB
        have HO_119003 := n0_
        have BK117 := n1_
        have BK118 := n2_
        have HB := n3_
        clear n0_ n1_ n2_ n3_
        refine start_ (n := 9) (S := fun w' => w'.cell? ⟨gb118, 0, none⟩ = some (.int .i64 a0) ∧ w'.cell? ⟨gb118, 1, none⟩ = some (.int .i64 a1) ∧ w'.cell? ⟨gb118, 2, none⟩ = some (.int .i64 a2) ∧ w'.cell? ⟨gb118, 3, none⟩ = some (u119003)) (ds := [8]) (tf 0 9) (by kernel_rfl) rfl rfl ⟨(blk_cell BK118.out 0).trans rfl, (blk_cell BK118.out 1).trans rfl, (blk_cell BK118.out 2).trans rfl, (blk_cell BK118.out 3).trans rfl⟩ (fun hHeld => ?_); refine with_tabW aC.tab10 aC.yH (fun HT_ HW_ => ?_)
        generalize wc.drew = w30 at HO_119003 BK117 BK118 HB hHeld ⊢
        refine pure_ (i := 0) (N := some 54) (v := ?_) (a' := ?_) (tf 1 8) rfl rfl (any_of HT_.out (by kernel_rfl)) (fun _ _ _ h => h) (Or.inl ⟨by rfl, ?_⟩) ?_ ?_
        rotate_left
        ·intro w'
         go_simp
         with_reducible rfl
        rotate_left
        ·simp only [Act.put, sb, sz, ss, i64_w, i32_w]
         rfl
        refine pure_ (i := 2) (N := some 56) (v := ?_) (a' := ?_) #[true, false, true, false, false, false, false, false, false] rfl rfl (any_of HT_.out (by kernel_rfl)) (fun _ _ _ h => h) (Or.inl ⟨by rfl, ?_⟩) ?_ ?_
        rotate_left
        ·intro w'
         go_simp
         with_reducible rfl
        rotate_left
        ·simp only [Act.put, sb, sz, ss, i64_w, i32_w]
         rfl
        refine pure_ (i := 3) (N := some 57) (v := ?_) (a' := ?_) #[true, false, true, true, false, false, false, false, false] rfl rfl (any_of HT_.out (by kernel_rfl)) (fun _ _ _ h => h) (Or.inl ⟨by rfl, ?_⟩) ?_ ?_
        rotate_left
        ·intro w'
         go_simp
         with_reducible rfl
        rotate_left
        ·simp only [Act.put, sb, sz, ss, i64_w, i32_w]
         rfl
        refine take_ (i := 1) (N := some 55) (v := ?_) (a' := ?_) (tf 4 5) rfl rfl (take_ofW HT_.out HW_.out (by kernel_rfl)) (fun _ _ _ h => h) (Or.inl ⟨by rfl, ?_⟩) hHeld ?_ ?_
        rotate_left
        ·rintro w' ⟨s0, s1, s2, s3⟩
         go_simp
         with_reducible rfl
        rotate_left
        ·simp only [Act.put, sb, sz, ss, i64_w, i32_w]
         rfl
        refine one_ (i := 4) (N := some 58) (tf 5 4) rfl rfl (one_of HT_.out (by kernel_rfl)) (by decide) (fun K hK => ?_)
        refine goes_ Try.func36 (by kernel_rfl) rfl #[.int .i64 a2, .int .u32 x13_11] (by rfl) rfl rfl gl ?_
        with_reducible refine (aV.calls a2 x13_11 t124 _ A28.out).mono ?_
        rintro e w31 ⟨rfl, hb⟩
        refine ⟨_, rfl, ?_⟩
        have n0_ := Aside0.mk (Kd.R_below (by (with_reducible repeat (first | apply Kd.R_alloc | apply Kd.R_drewN | apply Kd.R_drew)); exact HO_119003.out) hb)
        have n1_ := Aside0.mk (blk_below (g := gb117) (o := .cells #[.int .i64 0, .int .i64 0, .int .i64 0, .slice none 0 0] 32 (0, 0)) (bv BK117.out) hb)
        have n2_ := Aside0.mk (blk_below (g := gb118) (o := .cells #[.int .i64 a0, .int .i64 a1, .int .i64 a2, u119003] 32 (0, 0)) (bv BK118.out) hb)
        have n3_ := Aside0.mk (below_step (bl2 HB.out GE117.out GE118.out) hb)
        clear HO_119003
        clear BK117
        clear BK118
        clear HB
        have HO_119003 := n0_
        have BK117 := n1_
        have BK118 := n2_
        have HB := n3_
        clear n0_ n1_ n2_ n3_
        (try clear hb)
        (try clear hb2)
        (try clear hk)
        (try clear hi)
        refine hK.out _ _ ⟨(blk_cell BK118.out 0).trans rfl, (blk_cell BK118.out 1).trans rfl, (blk_cell BK118.out 2).trans rfl, (blk_cell BK118.out 3).trans rfl⟩ (fun hHeld => ?_)
        clear hK K
        refine norm_ (a' := ?_) ?_ ?_
        rotate_left
        ·show Act.put _ (some 58) _ = _
         simp only [Act.put, sb, sz, ss, i64_w, i32_w]
         rfl
        refine one_ (i := 5) (N := some 59) (tf 6 3) rfl rfl (one_of HT_.out (by kernel_rfl)) (by decide) (fun K hK => ?_)
        refine value_ (w1 := ?_) (v := ?_) (by rfl) rfl ?_ ?_
        rotate_left 2
        ·go_simp
         constructor
         ·rfl
         ·rfl
        refine hK.out _ _ ⟨(blk_cell (blk_alloc BK118.out _) 0).trans rfl, (blk_cell (blk_alloc BK118.out _) 1).trans rfl, (blk_cell (blk_alloc BK118.out _) 2).trans rfl, (blk_cell (blk_alloc BK118.out _) 3).trans rfl⟩ (fun hHeld => ?_)
        clear hK K
        refine norm_ (a' := ?_) ?_ ?_
        rotate_left
        ·show Act.put _ (some 59) _ = _
         simp only [Act.put, sb, sz, ss, i64_w, i32_w]
         rfl
        refine one_ (i := 6) (N := some 60) (tf 7 2) rfl rfl (one_of HT_.out (by kernel_rfl)) (by decide) (fun K hK => ?_)
        refine Kd.R_append_step (Kd.int .u32) (w0 := w) w.heap.size (by rfl) (.tmp 55) (.tmp 59) 23 35 (.int .u32 0) 4 rfl Try.underlying23 xC rfl (by decide) (by omega) u119003 x119003_1 t124 [.int .u32 t124] (fun _ => True) (fun _ => False) rfl rfl ?aP (fun _ hk => hk.elim) ?aF ?aO ?aB ?aS ?aL ?_
        (case aP => exact rfl)
        (case aB => exact (bl2 HB.out GE117.out GE118.out))
        (case aF => exact (fun _ _ => trivial))
        (case aO => exact (by (with_reducible repeat (first | apply Kd.R_alloc | apply Kd.R_drewN | apply Kd.R_drew)); exact HO_119003.out))
        (case aS => exact (below_size (bl2 HB.out GE117.out GE118.out)))
        (case aL => have := LMc29.out; omega)
        intro v126 w32 ho hb hg hat
        rw [← Ny125.out] at ho
        have n0_ := Aside0.mk (blk_grown (g := gb117) (o := .cells #[.int .i64 0, .int .i64 0, .int .i64 0, .slice none 0 0] 32 (0, 0)) (bv BK117.out) hg (Kd.R_ne HO_119003.out BK117.out (by decide)))
        have n1_ := Aside0.mk (blk_grown (g := gb118) (o := .cells #[.int .i64 a0, .int .i64 a1, .int .i64 a2, u119003] 32 (0, 0)) (bv BK118.out) hg (Kd.R_ne HO_119003.out BK118.out (by decide)))
        have n2_ := Aside0.mk (hb)
        have n3_ := Aside0.mk (ho)
        clear BK117
        clear BK118
        clear HB
        clear HO_119003
        have BK117 := n0_
        have BK118 := n1_
        have HB := n2_
        have HO127 := n3_
        clear n0_ n1_ n2_ n3_
        clear ho hb hg hat
        obtain ⟨Ao33, co33, eo33⟩ := Kd.R_slice HO127.out
        (first | subst eo33 | (injection eo33 with f1_ f2_ f3_; have f4_ := f1_.symm; have f5_ := f3_.symm; clear f1_ f2_ f3_; subst f4_; subst f5_))
        refine hK.out _ _ ⟨(blk_cell BK118.out 0).trans rfl, (blk_cell BK118.out 1).trans rfl, (blk_cell BK118.out 2).trans rfl, (blk_cell BK118.out 3).trans rfl⟩ (fun hHeld => ?_)
        clear hK K
        refine norm_ (a' := ?_) ?_ ?_
        rotate_left
        ·show Act.put _ (some 60) _ = _
         simp only [Act.put, sb, sz, ss, i64_w, i32_w]
         rfl
        refine pure_ (i := 7) (N := some 61) (v := ?_) (a' := ?_) (tf 8 1) rfl rfl (any_of HT_.out (by kernel_rfl)) (fun _ _ _ h => h) (Or.inl ⟨by rfl, ?_⟩) ?_ ?_
        rotate_left
        ·intro w'
         go_simp
         with_reducible rfl
        rotate_left
        ·simp only [Act.put, sb, sz, ss, i64_w, i32_w]
         rfl
        refine last_ (i := 8) (N := none) (tf 9 0) rfl rfl (one_of HT_.out (by kernel_rfl)) (by decide) (fun K hK => ?_)
        have hs34 : w32.cell? ⟨gb118, 3, none⟩ = some (u119003) := (blk_cell BK118.out 3).trans rfl
        have hfs34 := blk_frozen BK118.out 3
        have hns34_0 := NB117_118.out
        have hms34_0 := NB118_117.out
        refine skip_ (w1 := ?_) (by rfl) rfl ?_ ?_
        rotate_left
        ·go_simp
         rfl
        refine hK.out _ _ ?_
        clear hK K
        refine done_ (done_of HT_.out (by kernel_rfl)) ?_
        try go_wp2
        (try subst hji11)
        go_roundg kj11
        case measure => have := HK1.out; have := HJ11.out; omega
        case rel => exact ⟨(wrap64 (x12_1 + 1)), (y125), (.slice Ao33 y125.length co33), (gr_), H', ⟨by have := HK1.out; have := HJ11.out; omega⟩, ⟨by (with_reducible repeat (first | apply Kd.R_alloc | apply Kd.R_drewN | apply Kd.R_drew)); exact Kd.R_mono (Kd.R_far (p := ⟨gb118, 3, none⟩) (Kd.R_types HO127.out BK118.out (by decide)) (fun _ hk => hk.2) (.slice Ao33 y125.length co33)) (fun _ hk => trivial)⟩, ⟨by (with_reducible repeat first | apply bd | apply be | apply ba); refine blk_far ?_ NB117_118.out _; (with_reducible repeat first | apply bd | apply be | apply ba); exact BK117.out⟩, ⟨by (with_reducible repeat first | apply bd | apply be | apply ba); refine blk_put (cs := #[.int .i64 a0, .int .i64 a1, .int .i64 a2, u119003]) ?_ 3 _ rfl; (with_reducible repeat first | apply bd | apply be | apply ba); exact BK118.out⟩, ⟨bl2 HB.out GE117.out GE118.out⟩⟩
       ·rw [if_neg c29] at H
        exact absurd H (by simp)
   ·rw [if_neg c10] at H
    have c10b0 : decide (x12_1 < (wrap64 (a0 * a1))) = false := decide_eq_false c10
    clear c10
    simp only [Option.some.injEq, Prod.mk.injEq] at H
    obtain ⟨rfl, rfl, rfl, rfl⟩ := H
    have hnb35 := NB118_117.out
    have hnc35 := NB117_118.out
    have hcz36_0 : wr.cell? ⟨gb118, 0, none⟩ = some (.int .i64 a0) := (blk_cell BK118.out 0).trans rfl
    have hcz36_1 : wr.cell? ⟨gb118, 1, none⟩ = some (.int .i64 a1) := (blk_cell BK118.out 1).trans rfl
    have hcz36_2 : wr.cell? ⟨gb118, 2, none⟩ = some (.int .i64 a2) := (blk_cell BK118.out 2).trans rfl
    have hcz36_3 : wr.cell? ⟨gb118, 3, none⟩ = some (u119003) := (blk_cell BK118.out 3).trans rfl
    have hfz36_0 := blk_frozen BK118.out 0
    have hfz36_1 := blk_frozen BK118.out 1
    have hfz36_2 := blk_frozen BK118.out 2
    have hfz36_3 := blk_frozen BK118.out 3
    have hcz37_0 : wr.cell? ⟨gb117, 0, none⟩ = some (.int .i64 0) := (blk_cell BK117.out 0).trans rfl
    have hcz37_1 : wr.cell? ⟨gb117, 1, none⟩ = some (.int .i64 0) := (blk_cell BK117.out 1).trans rfl
    have hcz37_2 : wr.cell? ⟨gb117, 2, none⟩ = some (.int .i64 0) := (blk_cell BK117.out 2).trans rfl
    have hcz37_3 : wr.cell? ⟨gb117, 3, none⟩ = some (.slice none 0 0) := (blk_cell BK117.out 3).trans rfl
    have hfz37_0 := blk_frozen BK117.out 0
    have hfz37_1 := blk_frozen BK117.out 1
    have hfz37_2 := blk_frozen BK117.out 2
    have hfz37_3 := blk_frozen BK117.out 3
    obtain ⟨Ao38, co38, eo38⟩ := Kd.R_slice HO_119003.out
    subst eo38
    go_wp2
    refine bodyPost_ret (results_cell_row rfl _ _ gb117 32 #[.int .i64 a0, .int .i64 a1, .int .i64 a2, .slice Ao38 x119003_1.length co38] (0, 0) _ rfl (by (with_reducible repeat first | apply bd | apply be | apply ba); refine blk_put (cs := #[.int .i64 a0, .int .i64 a1, .int .i64 a2, .slice none 0 0]) ?_ 3 _ rfl; (with_reducible repeat first | apply bd | apply be | apply ba); refine blk_put (cs := #[.int .i64 a0, .int .i64 a1, .int .i64 0, .slice none 0 0]) ?_ 2 _ rfl; (with_reducible repeat first | apply bd | apply be | apply ba); refine blk_put (cs := #[.int .i64 a0, .int .i64 0, .int .i64 0, .slice none 0 0]) ?_ 1 _ rfl; (with_reducible repeat first | apply bd | apply be | apply ba); refine blk_put (cs := #[.int .i64 0, .int .i64 0, .int .i64 0, .slice none 0 0]) ?_ 0 _ rfl; (with_reducible repeat first | apply bd | apply be | apply ba); exact BK117.out) Try.underlying32 rfl (by kernel_rfl)) rfl ?_
    exact ⟨_, by first | rfl | (simp [bQ, bP] <;> rfl) | (simp [*, bQ, bP] <;> rfl), by (with_reducible repeat (first | apply Kd.R_alloc | apply Kd.R_drewN | apply Kd.R_drew)); exact Kd.R_mono (Kd.R_far (p := ⟨gb117, 3, none⟩) (Kd.R_far (p := ⟨gb117, 2, none⟩) (Kd.R_far (p := ⟨gb117, 1, none⟩) (Kd.R_far (p := ⟨gb117, 0, none⟩) (Kd.R_types HO_119003.out BK117.out (by decide)) (fun _ hk => hk.2) (.int .i64 a0)) (fun _ hk => hk.2) (.int .i64 a1)) (fun _ hk => hk.2) (.int .i64 a2)) (fun _ hk => hk.2) (.slice Ao38 x119003_1.length co38)) (fun _ hk => trivial), bl2 HB.out GE117.out GE118.out⟩


-- NEED 1
/-! ### aJ: function 7 -/
mutual
def aJ.l0 : Nat → List Int → List Int → Bool → List (S34) → Int → Option ((List (S34)))
 |0, _, _, _, _, _ => none
 |k + 1, x0, x1, x2, x7, x8 => if (wrap64 (x8 + 1)) < (x0.length : Int) then (aJ.l1 k x0 x1 x2 x7 x8 ([] : List Int) 0) else (some x7)
def aJ.l1 : Nat → List Int → List Int → Bool → List (S34) → Int → List Int → Int → Option ((List (S34)))
 |0, _, _, _, _, _, _, _ => none
 |k + 1, x0, x1, x2, x7, x8, x9, x10 => if x10 < (x1.length : Int) then (if 0 ≤ x10 then (if x9.length < 35184372088832 then (aJ.l1 k x0 x1 x2 x7 x8 (x9 ++ [((rd x1 x10) + ((((x8) % 4294967296) * 77) % 4294967296)) % 4294967296]) (wrap64 (x10 + 1))) else (none)) else (none)) else (if 0 ≤ (wrap64 (x8 + 1)) then (if (wrap64 (x8 + 1)) < (x0.length : Int) then (if 0 ≤ x8 then (if x8 < (x0.length : Int) then ((aC.f k (rd x0 (wrap64 (x8 + 1))) (rd x0 x8) 2 x9 x2).bind fun bt134 => ((aC.f k 1 (rd x0 (wrap64 (x8 + 1))) 2 x9 x2).bind fun bt141 => (if x7.length < 1466015503701 then (aJ.l0 k x0 x1 x2 (x7 ++ [(⟨(⟨bt134.1, bt134.2.1, bt134.2.2.1, bt134.2.2.2⟩ : S32), (⟨bt141.1, bt141.2.1, bt141.2.2.1, bt141.2.2.2⟩ : S32)⟩ : S34)]) (wrap64 (x8 + 1))) else (none)))) else (none)) else (none)) else (none)) else (none))
end
def aJ.f (k : Nat) (l0 l1 : List Int) (a2 : Bool) : Option ((List (S34))) := aJ.l0 k l0 l1 a2 ([] : List (S34)) 0
def aJ.T10 : Bool × List (List Nat × List Nat) := (true, [([], []), ([], []), ([], []), ([2], [2]), ([1, 3], [1, 3]), ([4], [4]), ([], []), ([], []), ([6, 7], [6, 7]), ([8], [8]), ([], []), ([], []), ([5, 9, 10, 11], [5, 9, 10, 11]), ([], []), ([], []), ([14], [14]), ([13, 15], [13, 15]), ([16], [16]), ([], []), ([], []), ([17, 18, 19, 12], [17, 18, 19]), ([12, 20], [12, 20]), ([21], [21]), ([0, 22, 20], [0, 22]), ([23, 23, 0, 1, 2, 3, 4, 5, 6, 7, 8, 9, 10, 11, 12, 13, 14, 15, 16, 17, 18, 19, 20, 21, 22, 23], [0, 23])])
def aJ.B10 : List Nat := [0, 0, 0, 4, 14, 30, 0, 0, 192, 448, 0, 0, 4094, 0, 0, 16384, 57344, 122880, 0, 0, 1048574, 2097150, 4194302, 8388607, 16777215]
theorem aJ.tab10 : rtab .any (opsOf Try.f7 10) = aJ.T10 := by kernel_rfl
theorem aJ.yH : waitsOk aJ.T10.2 aJ.B10 = true := by kernel_rfl
theorem aJ.calls (k : Nat) (A0 : Option Addr) (c0 : Nat) (l0 : List Int) (A1 : Option Addr) (c1 : Nat) (l1 : List Int) (a2 : Bool) (r : List (S34)) (w : World) (hr0 : Kd.C (Kd.int .i64) w A0 l0.length l0) (hc0 : l0.length ≤ c0) (hr1 : Kd.C (Kd.int .u32) w A1 l1.length l1) (hc1 : l1.length ≤ c1) (h : aJ.f k l0 l1 a2 = some r) :
  Calls Try.prog 7 #[.slice A0 l0.length c0, .slice A1 l1.length c1, .bool a2] w fun e w' => ∃ v0_ : Value, e = .returned (v0_) ∧ Kd.S k34 34 w' w.heap.size (fun _ => True) v0_ r ∧ Below w.heap.size w w' := by
 have hu34 := Try.underlying34
 have HR0 := Aside0.mk hr0
 have HC0 := Aside0.mk hc0
 clear hr0 hc0
 have HR1 := Aside0.mk hr1
 have HC1 := Aside0.mk hc1
 clear hr1 hc1
 have HB := Aside0.mk (Below.refl w.heap.size w)
 have H : (aJ.l0 k l0 l1 a2 ([] : List (S34)) 0) = some r := h
 clear h
 have H' := Aside0.mk H
 clear H
 go_enter Try.func7, Try.ntmps7
 go_wp2
 go_loopg [7, 8] k (fun kq v7 v8 w' => ∃ (x7_1 : List (S34)) (x8_1 : Int), v8 = .int .i64 x8_1 ∧ Aside0 (aJ.l0 kq l0 l1 a2 x7_1 x8_1 = some r) ∧ Aside0 (kq ≤ k) ∧ Aside0 (Kd.S k34 34 w' w.heap.size (fun _ => True) v7 x7_1) ∧ Aside0 (Below w.heap.size w w'))
 case atStart => exact ⟨(([] : List (S34))), (0), (gr_), H', ⟨Nat.le_refl _⟩, ⟨by first | exact Kd.S_nil _ _ _ _ _ | exact Kd.N_nil _ _ _ _ _ | exact Kd.V_nil _ _ _ _ _ | exact Kd.Q_nil _ _ _ _ _ | exact Kd.R_nil _ _ _ _ _⟩, ⟨bl0 HB.out⟩⟩
 case round =>
  clear H'
  try clear c1 p2
  obtain ⟨x7_1, x8_1, rfl, HA, HK1, HO_7, HB⟩ := hrel
  cases gk with
  |zero => exact absurd HA.out (by simp [aJ.l0])
  |succ k1 =>
   have H := HA.out
   clear HA
   simp only [aJ.l0] at H
   by_cases c4 : (wrap64 (x8_1 + 1)) < (l0.length : Int)
   ·rw [if_pos c4] at H
    have c4b0 : decide ((wrap64 (x8_1 + 1)) < (l0.length : Int)) = true := decide_eq_true c4
    clear c4
    have H' := Aside0.mk H
    clear H
    go_wp2
    go_loopg [9, 10] k1 (fun kq v9 v10 w' => ∃ (x9_2 : List Int) (x10_2 : Int), v10 = .int .i64 x10_2 ∧ Aside0 (aJ.l1 kq l0 l1 a2 x7_1 x8_1 x9_2 x10_2 = some r) ∧ Aside0 (kq ≤ k1) ∧ Aside0 (Kd.S k34 34 w' w.heap.size (fun k_ => some k_ ≠ (v9 : Value).ownBlock) u7 x7_1) ∧ Aside0 (Kd.R (Kd.int .u32) 35 w' w.heap.size (fun _ => True) v9 x9_2) ∧ Aside0 (Below w.heap.size w w'))
    case atStart => exact ⟨(([] : List Int)), (0), (gr_), H', ⟨Nat.le_refl _⟩, ⟨by (with_reducible repeat (first | apply Kd.S_alloc | apply Kd.S_drewN | apply Kd.S_drew)); exact Kd.S_mono HO_7.out (fun _ hk => (by simp [Value.ownBlock]))⟩, ⟨by first | exact Kd.R_nil _ _ _ _ _ | exact Kd.N_nil _ _ _ _ _ | exact Kd.V_nil _ _ _ _ _ | exact Kd.Q_nil _ _ _ _ _ | exact Kd.S_nil _ _ _ _ _⟩, ⟨bl0 HB.out⟩⟩
    case round =>
     clear H'
     try clear c1 p2 c4 c4b0 p2
     obtain ⟨x9_2, x10_2, rfl, HA, HK2, HO_7, HO_9, HB⟩ := hrel
     cases gk with
     |zero => exact absurd HA.out (by simp [aJ.l1])
     |succ k2 =>
      have H := HA.out
      clear HA
      simp only [aJ.l1] at H
      by_cases c5 : x10_2 < (l1.length : Int)
      ·rw [if_pos c5] at H
       have c5b0 : decide (x10_2 < (l1.length : Int)) = true := decide_eq_true c5
       clear c5
       by_cases c6 : 0 ≤ x10_2
       ·rw [if_pos c6] at H
        have c6b0 : decide (0 ≤ x10_2) = true := decide_eq_true c6
        clear c6
        obtain ⟨ji7, hji7⟩ : ∃ j_ : Int, ((((x8_1) % 4294967296) * 77) % 4294967296) = j_ := ⟨_, rfl⟩
        replace H : (if x9_2.length < 35184372088832 then (aJ.l1 k2 l0 l1 a2 x7_1 x8_1 (x9_2 ++ [((rd l1 x10_2) + (ji7)) % 4294967296]) (wrap64 (x10_2 + 1))) else (none)) = some r := by first | (rw [hji7] at H; exact H) | (simp only [hji7] at H ⊢; exact H)
        have hji7l : 0 ≤ ji7 := by rw [← hji7]; exact Int.emod_nonneg _ (by decide)
        have hji7h : ji7 ≤ 4294967295 := by have := Int.emod_lt_of_pos ((((x8_1) % 4294967296) * 77)) (show (0 : Int) < 4294967296 by decide); omega
        have hji7w : (IntKind.u32.wrap (((x8_1) % 4294967296) * 77)) = ji7 := (jY _).trans hji7
        (try (have hji7_ := hji7; simp only [Int.add_emod_emod, Int.emod_add_emod, Int.sub_emod_emod, Int.emod_sub_emod] at hji7_))
        obtain ⟨ji8, hji8⟩ : ∃ j_ : Int, (((rd l1 x10_2) + (ji7)) % 4294967296) = j_ := ⟨_, rfl⟩
        replace H : (if x9_2.length < 35184372088832 then (aJ.l1 k2 l0 l1 a2 x7_1 x8_1 (x9_2 ++ [ji8]) (wrap64 (x10_2 + 1))) else (none)) = some r := by first | (rw [hji8] at H; exact H) | (simp only [hji8] at H ⊢; exact H)
        have hji8l : 0 ≤ ji8 := by rw [← hji8]; exact Int.emod_nonneg _ (by decide)
        have hji8h : ji8 ≤ 4294967295 := by have := Int.emod_lt_of_pos (((rd l1 x10_2) + (ji7))) (show (0 : Int) < 4294967296 by decide); omega
        have hji8w : (IntKind.u32.wrap ((rd l1 x10_2) + (ji7))) = ji8 := (jY _).trans hji8
        (try (have hji8_ := hji8; simp only [Int.add_emod_emod, Int.emod_add_emod, Int.sub_emod_emod, Int.emod_sub_emod] at hji8_))
        by_cases c9 : x9_2.length < 35184372088832
        ·rw [if_pos c9] at H
         have LMc9 := Aside0.mk c9
         clear c9
         obtain ⟨y129, hy129⟩ : ∃ y_ : List Int, y_ = (x9_2 ++ [ji8]) := ⟨_, rfl⟩
         replace H : (aJ.l1 k2 l0 l1 a2 x7_1 x8_1 y129 (wrap64 (x10_2 + 1))) = some r := by first | (rw [hy129]; with_reducible exact H) | (have H2_ := (Option.bind_some _ _).symm.trans H; rw [hy129]; with_reducible exact H2_) | (have H2_ := (Option.bind_some _ _).symm.trans H; with_reducible exact H2_) | with_reducible exact H | (rw [hy129]; exact H) | exact H
         have Ny129 := Aside0.mk hy129
         clear hy129
         have H' := Aside0.mk H
         clear H
         have p128 : 0 ≤ (x10_2 : Int) := of_decide_eq_true (by first | (with_reducible assumption) | assumption)
         have q128 : x10_2 < (l1.length : Int) := of_decide_eq_true (by first | (with_reducible assumption) | assumption)
         obtain ⟨ad128, e128, hx128_0⟩ := Kd.at_int HR1.out x10_2 p128 q128
         cases e128
         replace hx128_0 := (HB.out.cell (World.block_lt_of_cell? w _ hx128_0)).trans hx128_0
         replace p128 := eq_true p128
         replace q128 := eq_true q128
         go_wp2_with (first | ((with_reducible refine gate_builtin (b := .append) (xs := #[.tmp 24, .tmp 33]) rfl ?_); at_builtin; refine Kd.R_append (Kd.int .u32) (w0 := w) w.heap.size rfl (.tmp 24) (.tmp 33) 23 35 (.int .u32 0) 4 rfl Try.underlying23 xC rfl (by decide) (by omega) u9 x9_2 ji8 [.int .u32 ji8] (fun _ => True) (fun _ => False) rfl rfl ?aP (fun _ hk => hk.elim) ?aF ?aO ?aB ?aS ?aL ?_; (case aP => exact rfl); (case aB => exact (bl0 HB.out)); (case aF => exact (fun _ _ => trivial)); (case aO => exact (by (with_reducible repeat (first | apply Kd.R_alloc | apply Kd.R_drewN | apply Kd.R_drew)); exact HO_9.out)); (case aS => exact (below_size (bl0 HB.out))); (case aL => have := LMc9.out; omega); intro v130 w10 ho hb hg hat; rw [← Ny129.out] at ho; have n0_ := Aside0.mk (Kd.S_after (ok := (fun _ => True)) (by (with_reducible repeat (first | apply Kd.S_alloc | apply Kd.S_drewN | apply Kd.S_drew)); exact Kd.S_mono HO_7.out (fun _ hk => ⟨trivial, hk⟩)) hg hat); have n1_ := Aside0.mk (hb); have n2_ := Aside0.mk (ho); clear HO_7; clear HB; clear HO_9; have HO_7 := n0_; have HB := n1_; have HO131 := n2_; clear n0_ n1_ n2_; clear ho hb hg hat))
         (try subst hji8)
         (try subst hji7)
         go_roundg k2
         case measure => have := HK1.out; have := HK2.out; omega
         case rel => exact ⟨(y129), (wrap64 (x10_2 + 1)), (gr_), H', ⟨by have := HK1.out; have := HK2.out; omega⟩, ⟨by (with_reducible repeat (first | apply Kd.S_alloc | apply Kd.S_drewN | apply Kd.S_drew)); exact Kd.S_mono HO_7.out (fun _ hk => hk.2)⟩, ⟨by (with_reducible repeat (first | apply Kd.R_alloc | apply Kd.R_drewN | apply Kd.R_drew)); exact HO131.out⟩, ⟨bl0 HB.out⟩⟩
        ·rw [if_neg c9] at H
         exact absurd H (by simp)
       ·rw [if_neg c6] at H
        exact absurd H (by simp)
      ·rw [if_neg c5] at H
       have c5b0 : decide (x10_2 < (l1.length : Int)) = false := decide_eq_false c5
       clear c5
       obtain ⟨ji11, hji11⟩ : ∃ j_ : Int, (wrap64 (x8_1 + 1)) = j_ := ⟨_, rfl⟩
       replace H : (if 0 ≤ (ji11) then (if (ji11) < (l0.length : Int) then (if 0 ≤ x8_1 then (if x8_1 < (l0.length : Int) then ((aC.f k2 (rd l0 (ji11)) (rd l0 x8_1) 2 x9_2 a2).bind fun bt134 => ((aC.f k2 1 (rd l0 (ji11)) 2 x9_2 a2).bind fun bt141 => (if x7_1.length < 1466015503701 then (aJ.l0 k2 l0 l1 a2 (x7_1 ++ [(⟨(⟨bt134.1, bt134.2.1, bt134.2.2.1, bt134.2.2.2⟩ : S32), (⟨bt141.1, bt141.2.1, bt141.2.2.1, bt141.2.2.2⟩ : S32)⟩ : S34)]) ji11) else (none)))) else (none)) else (none)) else (none)) else (none)) = some r := by first | (rw [hji11] at H; exact H) | (simp only [hji11] at H ⊢; exact H)
       (try rw [hji11] at c4b0)
       have hji11w : (IntKind.i64.wrap (x8_1 + 1)) = ji11 := (i64_w _).trans hji11
       by_cases c12 : 0 ≤ (ji11)
       ·rw [if_pos c12] at H
        have c12b0 : decide (0 ≤ (ji11)) = true := decide_eq_true c12
        clear c12
        by_cases c13 : (ji11) < (l0.length : Int)
        ·rw [if_pos c13] at H
         have c13b0 : decide ((ji11) < (l0.length : Int)) = true := decide_eq_true c13
         clear c13
         by_cases c14 : 0 ≤ x8_1
         ·rw [if_pos c14] at H
          have c14b0 : decide (0 ≤ x8_1) = true := decide_eq_true c14
          clear c14
          by_cases c15 : x8_1 < (l0.length : Int)
          ·rw [if_pos c15] at H
           have c15b0 : decide (x8_1 < (l0.length : Int)) = true := decide_eq_true c15
           clear c15
           replace H := bq_ H
           obtain ⟨⟨t134, t135, t136, t137⟩, A160, H⟩ := H
           replace H : ((aC.f k2 1 (rd l0 (ji11)) 2 x9_2 a2).bind fun bt141 => (if x7_1.length < 1466015503701 then (aJ.l0 k2 l0 l1 a2 (x7_1 ++ [(⟨(⟨t134, t135, t136, t137⟩ : S32), (⟨bt141.1, bt141.2.1, bt141.2.2.1, bt141.2.2.2⟩ : S32)⟩ : S34)]) ji11) else (none))) = some r := H
           have A16 := Aside0.mk A160
           clear A160
           replace H := bq_ H
           obtain ⟨⟨t141, t142, t143, t144⟩, A170, H⟩ := H
           replace H : (if x7_1.length < 1466015503701 then (aJ.l0 k2 l0 l1 a2 (x7_1 ++ [(⟨(⟨t134, t135, t136, t137⟩ : S32), (⟨t141, t142, t143, t144⟩ : S32)⟩ : S34)]) ji11) else (none)) = some r := H
           have A17 := Aside0.mk A170
           clear A170
           by_cases c18 : x7_1.length < 1466015503701
           ·rw [if_pos c18] at H
            have LMc18 := Aside0.mk c18
            clear c18
            obtain ⟨y147, hy147⟩ : ∃ y_ : List (S34), y_ = (x7_1 ++ [(⟨(⟨t134, t135, t136, t137⟩ : S32), (⟨t141, t142, t143, t144⟩ : S32)⟩ : S34)]) := ⟨_, rfl⟩
            replace H : (aJ.l0 k2 l0 l1 a2 y147 ji11) = some r := by first | (rw [hy147]; with_reducible exact H) | (have H2_ := (Option.bind_some _ _).symm.trans H; rw [hy147]; with_reducible exact H2_) | (have H2_ := (Option.bind_some _ _).symm.trans H; with_reducible exact H2_) | with_reducible exact H | (rw [hy147]; exact H) | exact H
            have Ny147 := Aside0.mk hy147
            clear hy147
            have H' := Aside0.mk H
            clear H
            try go_wp2
            have n0_ := Aside0.mk (Kd.S_drew HO_7.out)
            have n1_ := Aside0.mk (Kd.R_drew HO_9.out)
            have n2_ := Aside0.mk (below_drew1 HB.out)
            clear HO_7
            clear HO_9
            clear HB
            have HO_7 := n0_
            have HO_9 := n1_
            have HB := n2_
            clear n0_ n1_ n2_
            have p132 : 0 ≤ ((ji11) : Int) := of_decide_eq_true (by first | (with_reducible assumption) | assumption)
            have q132 : (ji11) < (l0.length : Int) := of_decide_eq_true (by first | (with_reducible assumption) | assumption)
            obtain ⟨ad132, e132, hx132_0⟩ := Kd.at_int HR0.out (ji11) p132 q132
            have hw132_0 := hx132_0
            cases e132
            replace hx132_0 := (HB.out.cell (World.block_lt_of_cell? w _ hx132_0)).trans hx132_0
            replace p132 := eq_true p132
            replace q132 := eq_true q132
            have p133 : 0 ≤ (x8_1 : Int) := of_decide_eq_true (by first | (with_reducible assumption) | assumption)
            have q133 : x8_1 < (l0.length : Int) := of_decide_eq_true (by first | (with_reducible assumption) | assumption)
            obtain ⟨ad133, e133, hx133_0⟩ := Kd.at_int HR0.out x8_1 p133 q133
            have hw133_0 := hx133_0
            obtain rfl : ad132 = ad133 := (by injection e133)
            replace hx133_0 := (HB.out.cell (World.block_lt_of_cell? w _ hx133_0)).trans hx133_0
            replace p133 := eq_true p133
            replace q133 := eq_true q133
            have p140 : 0 ≤ ((ji11) : Int) := of_decide_eq_true (by first | (with_reducible assumption) | assumption)
            have q140 : (ji11) < (l0.length : Int) := of_decide_eq_true (by first | (with_reducible assumption) | assumption)
            obtain ⟨ad140, e140, hx140_0⟩ := Kd.at_int HR0.out (ji11) p140 q140
            have hw140_0 := hx140_0
            obtain rfl : ad132 = ad140 := (by injection e140)
            replace hx140_0 := (HB.out.cell (World.block_lt_of_cell? w _ hx140_0)).trans hx140_0
            replace p140 := eq_true p140
            replace q140 := eq_true q140
            obtain ⟨Ao20, co20, eo20⟩ := Kd.R_slice HO_9.out
            (first | subst eo20 | (injection eo20 with f1_ f2_ f3_; have f4_ := f1_.symm; have f5_ := f3_.symm; clear f1_ f2_ f3_; subst f4_; subst f5_))
            refine start_ (n := 25) (S := fun w' => w'.cell? (ad132.add ((ji11)).toNat) = some (.int .i64 (rd l0 (ji11))) ∧ w'.cell? (ad132.add (x8_1).toNat) = some (.int .i64 (rd l0 x8_1)) ∧ w'.cell? (ad132.add ((ji11)).toNat) = some (.int .i64 (rd l0 (ji11)))) (ds := []) (tf 0 25) (by kernel_rfl) rfl rfl ⟨((HB.out.cell (World.block_lt_of_cell? w _ hw132_0)).trans hw132_0), ((HB.out.cell (World.block_lt_of_cell? w _ hw133_0)).trans hw133_0), ((HB.out.cell (World.block_lt_of_cell? w _ hw140_0)).trans hw140_0)⟩ (fun hHeld => ?_); refine with_tabW aJ.tab10 aJ.yH (fun HT_ HW_ => ?_)
            generalize wr.drew = w19 at HO_7 HO_9 HB hx132_0 hx133_0 hx140_0 hHeld ⊢
            refine pure_ (i := 0) (N := some 35) (v := ?_) (a' := ?_) (tf 1 24) rfl rfl (any_of HT_.out (by kernel_rfl)) (fun _ _ _ h => h) (Or.inl ⟨by rfl, ?_⟩) ?_ ?_
            rotate_left
            ·intro w'
             go_simp
             with_reducible rfl
            rotate_left
            ·simp only [Act.put, sb, sz, ss, i64_w, i32_w]
             rfl
            refine pure_ (i := 1) (N := some 36) (v := ?_) (a' := ?_) (tf 2 23) rfl rfl (any_of HT_.out (by kernel_rfl)) (fun _ _ _ h => h) (Or.inl ⟨by rfl, ?_⟩) ?_ ?_
            rotate_left
            ·intro w'
             go_simp
             with_reducible rfl
            rotate_left
            ·simp only [Act.put, sb, sz, ss, i64_w, i32_w]
             rfl
            refine pure_ (i := 2) (N := some 37) (v := ?_) (a' := ?_) (tf 3 22) rfl rfl (any_of HT_.out (by kernel_rfl)) (fun _ _ _ h => h) (Or.inl ⟨by rfl, ?_⟩) ?_ ?_
            rotate_left
            ·intro w'
             go_simp
             with_reducible rfl
            rotate_left
            ·simp only [Act.put, sb, sz, ss, i64_w, i32_w]
             rfl
            refine pure_ (i := 3) (N := some 38) (v := ?_) (a' := ?_) (tf 4 21) rfl rfl (any_of HT_.out (by kernel_rfl)) (fun _ _ _ h => h) (Or.inl ⟨by rfl, ?_⟩) ?_ ?_
            rotate_left
            ·intro w'
             go_simp
             with_reducible rfl
            rotate_left
            ·simp only [Act.put, sb, sz, ss, i64_w, i32_w]
             rfl
            refine pure_ (i := 4) (N := some 39) (v := ?_) (a' := ?_) (tf 5 20) rfl rfl (any_of HT_.out (by kernel_rfl)) (fun _ _ _ h => h) (Or.inl ⟨by rfl, ?_⟩) ?_ ?_
            rotate_left
            ·intro w'
             go_simp
             with_reducible rfl
            rotate_left
            ·simp only [Act.put, sb, sz, ss, i64_w, i32_w]
             rfl
            refine pure_ (i := 6) (N := some 41) (v := ?_) (a' := ?_) #[true, true, true, true, true, false, true, false, false, false, false, false, false, false, false, false, false, false, false, false, false, false, false, false, false] rfl rfl (any_of HT_.out (by kernel_rfl)) (fun _ _ _ h => h) (Or.inl ⟨by rfl, ?_⟩) ?_ ?_
            rotate_left
            ·intro w'
             go_simp
             with_reducible rfl
            rotate_left
            ·simp only [Act.put, sb, sz, ss, i64_w, i32_w]
             rfl
            refine pure_ (i := 7) (N := some 42) (v := ?_) (a' := ?_) #[true, true, true, true, true, false, true, true, false, false, false, false, false, false, false, false, false, false, false, false, false, false, false, false, false] rfl rfl (any_of HT_.out (by kernel_rfl)) (fun _ _ _ h => h) (Or.inl ⟨by rfl, ?_⟩) ?_ ?_
            rotate_left
            ·intro w'
             go_simp
             with_reducible rfl
            rotate_left
            ·simp only [Act.put, sb, sz, ss, i64_w, i32_w]
             rfl
            refine pure_ (i := 8) (N := some 43) (v := ?_) (a' := ?_) #[true, true, true, true, true, false, true, true, true, false, false, false, false, false, false, false, false, false, false, false, false, false, false, false, false] rfl rfl (any_of HT_.out (by kernel_rfl)) (fun _ _ _ h => h) (Or.inl ⟨by rfl, ?_⟩) ?_ ?_
            rotate_left
            ·intro w'
             go_simp
             with_reducible rfl
            rotate_left
            ·simp only [Act.put, sb, sz, ss, i64_w, i32_w]
             rfl
            refine pure_ (i := 10) (N := some 45) (v := ?_) (a' := ?_) #[true, true, true, true, true, false, true, true, true, false, true, false, false, false, false, false, false, false, false, false, false, false, false, false, false] rfl rfl (any_of HT_.out (by kernel_rfl)) (fun _ _ _ h => h) (Or.inl ⟨by rfl, ?_⟩) ?_ ?_
            rotate_left
            ·intro w'
             go_simp
             with_reducible rfl
            rotate_left
            ·simp only [Act.put, sb, sz, ss, i64_w, i32_w]
             rfl
            refine pure_ (i := 11) (N := some 46) (v := ?_) (a' := ?_) #[true, true, true, true, true, false, true, true, true, false, true, true, false, false, false, false, false, false, false, false, false, false, false, false, false] rfl rfl (any_of HT_.out (by kernel_rfl)) (fun _ _ _ h => h) (Or.inl ⟨by rfl, ?_⟩) ?_ ?_
            rotate_left
            ·intro w'
             go_simp
             with_reducible rfl
            rotate_left
            ·simp only [Act.put, sb, sz, ss, i64_w, i32_w]
             rfl
            refine pure_ (i := 13) (N := some 48) (v := ?_) (a' := ?_) #[true, true, true, true, true, false, true, true, true, false, true, true, false, true, false, false, false, false, false, false, false, false, false, false, false] rfl rfl (any_of HT_.out (by kernel_rfl)) (fun _ _ _ h => h) (Or.inl ⟨by rfl, ?_⟩) ?_ ?_
            rotate_left
            ·intro w'
             go_simp
             with_reducible rfl
            rotate_left
            ·simp only [Act.put, sb, sz, ss, i64_w, i32_w]
             rfl
            refine pure_ (i := 14) (N := some 49) (v := ?_) (a' := ?_) #[true, true, true, true, true, false, true, true, true, false, true, true, false, true, true, false, false, false, false, false, false, false, false, false, false] rfl rfl (any_of HT_.out (by kernel_rfl)) (fun _ _ _ h => h) (Or.inl ⟨by rfl, ?_⟩) ?_ ?_
            rotate_left
            ·intro w'
             go_simp
             with_reducible rfl
            rotate_left
            ·simp only [Act.put, sb, sz, ss, i64_w, i32_w]
             rfl
            refine pure_ (i := 15) (N := some 50) (v := ?_) (a' := ?_) #[true, true, true, true, true, false, true, true, true, false, true, true, false, true, true, true, false, false, false, false, false, false, false, false, false] rfl rfl (any_of HT_.out (by kernel_rfl)) (fun _ _ _ h => h) (Or.inl ⟨by rfl, ?_⟩) ?_ ?_
            rotate_left
            ·intro w'
             go_simp
             with_reducible rfl
            rotate_left
            ·simp only [Act.put, sb, sz, ss, i64_w, i32_w]
             rfl
            refine pure_ (i := 16) (N := some 51) (v := ?_) (a' := ?_) #[true, true, true, true, true, false, true, true, true, false, true, true, false, true, true, true, true, false, false, false, false, false, false, false, false] rfl rfl (any_of HT_.out (by kernel_rfl)) (fun _ _ _ h => h) (Or.inl ⟨by rfl, ?_⟩) ?_ ?_
            rotate_left
            ·intro w'
             go_simp
             with_reducible rfl
            rotate_left
            ·simp only [Act.put, sb, sz, ss, i64_w, i32_w]
             rfl
            refine pure_ (i := 18) (N := some 53) (v := ?_) (a' := ?_) #[true, true, true, true, true, false, true, true, true, false, true, true, false, true, true, true, true, false, true, false, false, false, false, false, false] rfl rfl (any_of HT_.out (by kernel_rfl)) (fun _ _ _ h => h) (Or.inl ⟨by rfl, ?_⟩) ?_ ?_
            rotate_left
            ·intro w'
             go_simp
             with_reducible rfl
            rotate_left
            ·simp only [Act.put, sb, sz, ss, i64_w, i32_w]
             rfl
            refine pure_ (i := 19) (N := some 54) (v := ?_) (a' := ?_) #[true, true, true, true, true, false, true, true, true, false, true, true, false, true, true, true, true, false, true, true, false, false, false, false, false] rfl rfl (any_of HT_.out (by kernel_rfl)) (fun _ _ _ h => h) (Or.inl ⟨by rfl, ?_⟩) ?_ ?_
            rotate_left
            ·intro w'
             go_simp
             with_reducible rfl
            rotate_left
            ·simp only [Act.put, sb, sz, ss, i64_w, i32_w]
             rfl
            refine take_ (i := 5) (N := some 40) (v := ?_) (a' := ?_) #[true, true, true, true, true, true, true, true, true, false, true, true, false, true, true, true, true, false, true, true, false, false, false, false, false] rfl rfl (take_ofW HT_.out HW_.out (by kernel_rfl)) (fun _ _ _ h => h) (Or.inl ⟨by rfl, ?_⟩) hHeld ?_ ?_
            rotate_left
            ·rintro w' ⟨s0, s1, s2⟩
             go_simp
             with_reducible rfl
            rotate_left
            ·simp only [Act.put, sb, sz, ss, i64_w, i32_w]
             rfl
            refine take_ (i := 9) (N := some 44) (v := ?_) (a' := ?_) #[true, true, true, true, true, true, true, true, true, true, true, true, false, true, true, true, true, false, true, true, false, false, false, false, false] rfl rfl (take_ofW HT_.out HW_.out (by kernel_rfl)) (fun _ _ _ h => h) (Or.inl ⟨by rfl, ?_⟩) hHeld ?_ ?_
            rotate_left
            ·rintro w' ⟨s0, s1, s2⟩
             go_simp
             with_reducible rfl
            rotate_left
            ·simp only [Act.put, sb, sz, ss, i64_w, i32_w]
             rfl
            refine take_ (i := 17) (N := some 52) (v := ?_) (a' := ?_) #[true, true, true, true, true, true, true, true, true, true, true, true, false, true, true, true, true, true, true, true, false, false, false, false, false] rfl rfl (take_ofW HT_.out HW_.out (by kernel_rfl)) (fun _ _ _ h => h) (Or.inl ⟨by rfl, ?_⟩) hHeld ?_ ?_
            rotate_left
            ·rintro w' ⟨s0, s1, s2⟩
             go_simp
             with_reducible rfl
            rotate_left
            ·simp only [Act.put, sb, sz, ss, i64_w, i32_w]
             rfl
            refine one_ (i := 12) (N := some 47) (tf 20 5) rfl rfl (one_of HT_.out (by kernel_rfl)) (by decide) (fun K hK => ?_)
            refine goes_ Try.func17 (by kernel_rfl) rfl #[.int .i64 (rd l0 (ji11)), .int .i64 (rd l0 x8_1), .int .i64 2, .slice Ao20 x9_2.length co20, .bool a2] (by rfl) rfl rfl (by (try simp only [List.map_toArray, List.map_cons, List.map_nil]); first | done | (simp only [hji11]; rfl) | rfl | (simp only [List.length_drop, List.length_take]; rfl)) ?_
            with_reducible refine (aC.calls k2 (rd l0 (ji11)) (rd l0 x8_1) 2 _ _ x9_2 a2 t134 t135 t136 t137 _ ?side1 ?side2 A16.out).mono ?_
            (case side1 => repeat (first | exact (Kd.R_reads' HO_9.out).2.2 | (with_reducible refine Kd.C_alloc ?_ _) | (with_reducible refine Kd.C_drewN ?_ _) | (with_reducible refine Kd.C_drew ?_)))
            (case side2 => exact (Kd.R_reads' HO_9.out).2.1)
            rintro e w21 ⟨v138, rfl, ho0, hb⟩
            refine ⟨_, rfl, ?_⟩
            have n0_ := Aside0.mk (Kd.S_elder' (by (with_reducible repeat (first | apply Kd.S_alloc | apply Kd.S_drewN | apply Kd.S_drew)); exact HO_7.out) (Kd.R_base ho0) hb)
            have n1_ := Aside0.mk (Kd.R_elder' (by (with_reducible repeat (first | apply Kd.R_alloc | apply Kd.R_drewN | apply Kd.R_drew)); exact HO_9.out) (Kd.R_base ho0) hb)
            have n2_ := Aside0.mk (Kd.R_lower (Kd.R_new' ho0 (Kd.R_lt (by (with_reducible repeat (first | apply Kd.R_alloc | apply Kd.R_drewN | apply Kd.R_drew)); exact HO_9.out))) (below_size (bl0 HB.out)))
            have n3_ := Aside0.mk (below_step (bl0 HB.out) hb)
            clear HO_7
            clear HO_9
            clear HB
            have HO_7 := n0_
            have HO_9 := n1_
            have HO139 := n2_
            have HB := n3_
            clear n0_ n1_ n2_ n3_
            (try clear hb)
            (try clear hb2)
            (try clear hk)
            (try clear hi)
            (try clear ho0)
            refine hK.out _ _ ⟨((HB.out.cell (World.block_lt_of_cell? w _ hw132_0)).trans hw132_0), ((HB.out.cell (World.block_lt_of_cell? w _ hw133_0)).trans hw133_0), ((HB.out.cell (World.block_lt_of_cell? w _ hw140_0)).trans hw140_0)⟩ (fun hHeld => ?_)
            clear hK K
            refine norm_ (a' := ?_) ?_ ?_
            rotate_left
            ·show Act.put _ (some 47) _ = _
             simp only [Act.put, sb, sz, ss, i64_w, i32_w]
             rfl
            refine one_ (i := 20) (N := some 55) (tf 21 4) rfl rfl (one_of HT_.out (by kernel_rfl)) (by decide) (fun K hK => ?_)
            refine goes_ Try.func17 (by kernel_rfl) rfl #[.int .i64 1, .int .i64 (rd l0 (ji11)), .int .i64 2, .slice Ao20 x9_2.length co20, .bool a2] (by rfl) rfl rfl (by (try simp only [List.map_toArray, List.map_cons, List.map_nil]); first | done | (simp only [hji11]; rfl) | rfl | (simp only [List.length_drop, List.length_take]; rfl)) ?_
            with_reducible refine (aC.calls k2 1 (rd l0 (ji11)) 2 _ _ x9_2 a2 t141 t142 t143 t144 _ ?side1 ?side2 A17.out).mono ?_
            (case side1 => repeat (first | exact (Kd.R_reads' HO_9.out).2.2 | (with_reducible refine Kd.C_alloc ?_ _) | (with_reducible refine Kd.C_drewN ?_ _) | (with_reducible refine Kd.C_drew ?_)))
            (case side2 => exact (Kd.R_reads' HO_9.out).2.1)
            rintro e w22 ⟨v145, rfl, ho0, hb⟩
            refine ⟨_, rfl, ?_⟩
            have n0_ := Aside0.mk (Kd.S_elder' (by (with_reducible repeat (first | apply Kd.S_alloc | apply Kd.S_drewN | apply Kd.S_drew)); exact HO_7.out) (Kd.R_base ho0) hb)
            have n1_ := Aside0.mk (Kd.R_elder' (by (with_reducible repeat (first | apply Kd.R_alloc | apply Kd.R_drewN | apply Kd.R_drew)); exact HO_9.out) (Kd.R_base ho0) hb)
            have n2_ := Aside0.mk (Kd.R_elder' (by (with_reducible repeat (first | apply Kd.R_alloc | apply Kd.R_drewN | apply Kd.R_drew)); exact HO139.out) (Kd.R_base ho0) hb)
            have n3_ := Aside0.mk (Kd.R_lower (Kd.R_new' (Kd.R_new' ho0 (Kd.R_lt (by (with_reducible repeat (first | apply Kd.R_alloc | apply Kd.R_drewN | apply Kd.R_drew)); exact HO_9.out))) (Kd.R_lt (by (with_reducible repeat (first | apply Kd.R_alloc | apply Kd.R_drewN | apply Kd.R_drew)); exact HO139.out))) (below_size (bl0 HB.out)))
            have n4_ := Aside0.mk (below_step (bl0 HB.out) hb)
            clear HO_7
            clear HO_9
            clear HO139
            clear HB
            have HO_7 := n0_
            have HO_9 := n1_
            have HO139 := n2_
            have HO146 := n3_
            have HB := n4_
            clear n0_ n1_ n2_ n3_ n4_
            (try clear hb)
            (try clear hb2)
            (try clear hk)
            (try clear hi)
            (try clear ho0)
            obtain ⟨Ao23, co23, eo23⟩ := Kd.R_slice HO146.out
            (first | subst eo23 | (injection eo23 with f1_ f2_ f3_; have f4_ := f1_.symm; have f5_ := f3_.symm; clear f1_ f2_ f3_; subst f4_; subst f5_))
            obtain ⟨Ao24, co24, eo24⟩ := Kd.R_slice HO139.out
            (first | subst eo24 | (injection eo24 with f1_ f2_ f3_; have f4_ := f1_.symm; have f5_ := f3_.symm; clear f1_ f2_ f3_; subst f4_; subst f5_))
            refine hK.out _ _ ⟨((HB.out.cell (World.block_lt_of_cell? w _ hw132_0)).trans hw132_0), ((HB.out.cell (World.block_lt_of_cell? w _ hw133_0)).trans hw133_0), ((HB.out.cell (World.block_lt_of_cell? w _ hw140_0)).trans hw140_0)⟩ (fun hHeld => ?_)
            clear hK K
            refine norm_ (a' := ?_) ?_ ?_
            rotate_left
            ·show Act.put _ (some 55) _ = _
             simp only [Act.put, sb, sz, ss, i64_w, i32_w]
             rfl
            refine pure_ (i := 21) (N := some 56) (v := ?_) (a' := ?_) (tf 22 3) rfl rfl (any_of HT_.out (by kernel_rfl)) (fun _ _ _ h => h) (Or.inl ⟨by rfl, ?_⟩) ?_ ?_
            rotate_left
            ·intro w'
             go_simp
             with_reducible rfl
            rotate_left
            ·simp only [Act.put, sb, sz, ss, i64_w, i32_w]
             rfl
            refine one_ (i := 22) (N := some 57) (tf 23 2) rfl rfl (one_of HT_.out (by kernel_rfl)) (by decide) (fun K hK => ?_)
            refine value_ (w1 := ?_) (v := ?_) (by rfl) rfl ?_ ?_
            rotate_left 2
            ·go_simp
             constructor
             ·rfl
             ·rfl
            refine hK.out _ _ ⟨(World.cell?_alloc_lt _ _ _ (World.block_lt_of_cell? _ _ (((HB.out.cell (World.block_lt_of_cell? w _ hw132_0)).trans hw132_0)))).trans (((HB.out.cell (World.block_lt_of_cell? w _ hw132_0)).trans hw132_0)), (World.cell?_alloc_lt _ _ _ (World.block_lt_of_cell? _ _ (((HB.out.cell (World.block_lt_of_cell? w _ hw133_0)).trans hw133_0)))).trans (((HB.out.cell (World.block_lt_of_cell? w _ hw133_0)).trans hw133_0)), (World.cell?_alloc_lt _ _ _ (World.block_lt_of_cell? _ _ (((HB.out.cell (World.block_lt_of_cell? w _ hw140_0)).trans hw140_0)))).trans (((HB.out.cell (World.block_lt_of_cell? w _ hw140_0)).trans hw140_0))⟩ (fun hHeld => ?_)
            clear hK K
            refine norm_ (a' := ?_) ?_ ?_
            rotate_left
            ·show Act.put _ (some 57) _ = _
             simp only [Act.put, sb, sz, ss, i64_w, i32_w]
             rfl
            refine one_ (i := 23) (N := some 58) (tf 24 1) rfl rfl (one_of HT_.out (by kernel_rfl)) (by decide) (fun K hK => ?_)
            refine Kd.S_append_step k34 (w0 := w) w.heap.size (by rfl) (.tmp 35) (.tmp 57) 22 34 (.agg #[(.int .i64 0), (.int .i64 0), (.int .i64 0), (.slice none 0 0), (.int .i64 0), (.int .i64 0), (.int .i64 0), (.slice none 0 0)]) 96 rfl Try.underlying22 info34 rfl (by decide) (by omega) u7 x7_1 (⟨(⟨t134, t135, t136, t137⟩ : S32), (⟨t141, t142, t143, t144⟩ : S32)⟩ : S34) [.int .i64 t134, .int .i64 t135, .int .i64 t136, .slice Ao24 t137.length co24, .int .i64 t141, .int .i64 t142, .int .i64 t143, .slice Ao23 t144.length co23] (fun k_ => some k_ ≠ (.slice Ao20 x9_2.length co20 : Value).ownBlock) (fun k_ => some k_ = (.slice Ao24 t137.length co24 : Value).ownBlock ∨ some k_ = (.slice Ao23 t144.length co23 : Value).ownBlock) rfl rfl ?aP (fun k_ hk_ => hk_.elim (fun h_ => ((Kd.R_mono (ok' := fun k_ => ((fun k_ => some k_ ≠ (.slice Ao20 x9_2.length co20 : Value).ownBlock)) k_ ∧ some k_ ≠ (u7 : Value).ownBlock) (Kd.R_apart' (HO139.out) (Kd.S_typed HO_7.out) (by decide)) (fun k_ hk => ⟨hk.1.1.2, hk.2⟩))).1 k_ h_.symm) (fun h_ => ((Kd.R_mono (ok' := fun k_ => ((fun k_ => some k_ ≠ (.slice Ao20 x9_2.length co20 : Value).ownBlock)) k_ ∧ some k_ ≠ (u7 : Value).ownBlock) (Kd.R_apart' (HO146.out) (Kd.S_typed HO_7.out) (by decide)) (fun k_ hk => ⟨hk.1.1.2, hk.2⟩))).1 k_ h_.symm)) ?aF ?aO ?aB ?aS ?aL ?_
            (case aP => exact k34_mkM _ _ _ (⟨(⟨t134, t135, t136, t137⟩ : S32), (⟨t141, t142, t143, t144⟩ : S32)⟩ : S34) (Kd.R_mono (Kd.R_tight rfl (Kd.R_mono (ok' := fun k_ => ((fun k_ => some k_ ≠ (.slice Ao20 x9_2.length co20 : Value).ownBlock)) k_ ∧ some k_ ≠ (u7 : Value).ownBlock) (Kd.R_apart' (HO139.out) (Kd.S_typed HO_7.out) (by decide)) (fun k_ hk => ⟨hk.1.1.2, hk.2⟩))) (fun _ h_ => Or.inl h_)) (Kd.R_mono (Kd.R_tight rfl (Kd.R_mono (ok' := fun k_ => ((fun k_ => some k_ ≠ (.slice Ao20 x9_2.length co20 : Value).ownBlock)) k_ ∧ some k_ ≠ (u7 : Value).ownBlock) (Kd.R_apart' (HO146.out) (Kd.S_typed HO_7.out) (by decide)) (fun k_ hk => ⟨hk.1.1.2, hk.2⟩))) (fun _ h_ => Or.inr (h_))))
            (case aB => exact (bl0 HB.out))
            (case aF => exact (fun k_ hk => Kd.fresh' (Kd.R_lt (by (with_reducible repeat (first | apply Kd.R_alloc | apply Kd.R_drewN | apply Kd.R_drew)); exact HO_9.out)) k_ hk))
            (case aO => exact (by (with_reducible repeat (first | apply Kd.S_alloc | apply Kd.S_drewN | apply Kd.S_drew)); exact Kd.S_mono HO_7.out (fun k_ hk => ⟨hk.1.1, fun e_ => e_.elim (fun h_ => hk.1.2 h_) (fun h_ => hk.2 h_)⟩)))
            (case aS => exact (below_size (bl0 HB.out)))
            (case aL => have := LMc18.out; omega)
            intro v148 w25 ho hb hg hat
            rw [← Ny147.out] at ho
            have n0_ := Aside0.mk (Kd.R_over' (by (with_reducible repeat (first | apply Kd.R_alloc | apply Kd.R_drewN | apply Kd.R_drew)); exact HO_9.out) (Kd.S_typed (by (with_reducible repeat (first | apply Kd.S_alloc | apply Kd.S_drewN | apply Kd.S_drew)); exact HO_7.out)) (by decide) hg)
            have n1_ := Aside0.mk (hb)
            have n2_ := Aside0.mk (ho)
            clear HO_9
            clear HB
            clear HO_7
            clear HO139
            clear HO146
            have HO_9 := n0_
            have HB := n1_
            have HO149 := n2_
            clear n0_ n1_ n2_
            clear ho hb hg hat
            refine hK.out _ _ ⟨((HB.out.cell (World.block_lt_of_cell? w _ hw132_0)).trans hw132_0), ((HB.out.cell (World.block_lt_of_cell? w _ hw133_0)).trans hw133_0), ((HB.out.cell (World.block_lt_of_cell? w _ hw140_0)).trans hw140_0)⟩ (fun hHeld => ?_)
            clear hK K
            refine norm_ (a' := ?_) ?_ ?_
            rotate_left
            ·show Act.put _ (some 58) _ = _
             simp only [Act.put, sb, sz, ss, i64_w, i32_w]
             rfl
            refine pure_ (i := 24) (N := some 7) (v := ?_) (a' := ?_) (tf 25 0) rfl rfl (any_of HT_.out (by kernel_rfl)) (fun _ _ _ h => h) (Or.inl ⟨by rfl, ?_⟩) ?_ ?_
            rotate_left
            ·intro w'
             go_simp
             with_reducible rfl
            rotate_left
            ·simp only [Act.put, sb, sz, ss, i64_w, i32_w]
             rfl
            refine done_ (done_of HT_.out (by kernel_rfl)) ?_
            try go_wp2
            go_roundg k2
            case measure => have := HK1.out; have := HK2.out; omega
            case rel => exact ⟨(y147), (ji11), (by first | rfl | (simp; done) | (simp only [← hji11] <;> (first | rfl | (simp; done))) | (simp [*]; done) | (congr 1; (try unfold wrap64); omega) | (congr 1; rw [IntKind.wrap_u64]; omega)), H', ⟨by have := HK1.out; have := HK2.out; omega⟩, ⟨by (with_reducible repeat (first | apply Kd.S_alloc | apply Kd.S_drewN | apply Kd.S_drew)); exact Kd.S_mono HO149.out (fun _ hk => trivial)⟩, ⟨bl0 HB.out⟩⟩
           ·rw [if_neg c18] at H
            exact absurd H (by simp)
          ·rw [if_neg c15] at H
           exact absurd H (by simp)
         ·rw [if_neg c14] at H
          exact absurd H (by simp)
        ·rw [if_neg c13] at H
         exact absurd H (by simp)
       ·rw [if_neg c12] at H
        exact absurd H (by simp)
   ·rw [if_neg c4] at H
    have c4b0 : decide ((wrap64 (x8_1 + 1)) < (l0.length : Int)) = false := decide_eq_false c4
    clear c4
    obtain rfl := Option.some.inj H
    go_wp2
    go_ret
    exact ⟨_, by first | rfl | (simp [bQ, bP] <;> rfl) | (simp [*, bQ, bP] <;> rfl), by (with_reducible repeat (first | apply Kd.S_alloc | apply Kd.S_drewN | apply Kd.S_drew)); exact HO_7.out, bl0 HB.out⟩

end Go.Proofs.Ytolpdiifmacdbaa.P
