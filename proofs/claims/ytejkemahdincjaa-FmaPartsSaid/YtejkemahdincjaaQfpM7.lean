import Derived.Test.YtejkemahdincjaaQfpM1
import Derived.Test.YtejkemahdincjaaQfpM6
import Derived.Test.YtejkemahdincjaaQfpM4
import Derived.Test.YtejkemahdincjaaQfpM5
import Derived.Test.YtejkemahdincjaaQfpZ
import Derived.Test.YtejkemahdincjaaQfpM3
import Derived.Test.YtejkemahdincjaaProg
/- What the reckoner tells of printed functions. -/
set_option linter.unusedVariables false
set_option linter.unusedSimpArgs false
namespace Go.Proofs.Ytejkemahdincjaa.P
open Go.RowKit Go.Proofs.YtejkemahdincjaaW.PrintWords Go.Proofs.YtejkemahdincjaaW.PrintLast Go.Proofs.YtejkemahdincjaaW.PrintMore
theorem sum_Exact.j2_le {k n : Nat} (hk : k ≤ n) {x160000 : Bool} {x160001 : Int} {x160002 : Int} {x160003 : Bool} {ex0 : Bool} {ex1 : Int} {ex2 : Int} {ex3 : Bool} : LeO (sum_Exact.j2 k x160000 x160001 x160002 x160003) (L.sum_Exact.j16 n ex0 ex1 ex2 ex3 x160000 x160001 x160002 x160003) := by
 cases k with
 |zero => rw [sum_Exact.j2]; exact LeO.none _
 |succ k =>
 replace hk := Nat.le_of_succ_le hk
 rw [sum_Exact.j2, L.sum_Exact.j16_eq]
 repeat' first
  |(with_reducible exact LeO.refl _)
  |exact LeO.none _
  |(with_reducible exact fun r h => at_rounds (sum_full.mono _ _ _ _) hk h)
  |(with_reducible exact fun r h => at_rounds (bits_Shift.mono _ _) hk h)
  |(with_reducible refine LeO.bind ?_ (fun _ => ?_))
  |(with_reducible refine LeO.ite3 Iff.rfl (fun _ => ?_) (fun _ => ?_))
  |exact fun r h => at_rounds (sum_full.mono _ _ _ _) hk h
  |exact fun r h => at_rounds (bits_Shift.mono _ _) hk h
  |exact LeO.refl _
  |(with_reducible refine LeO.pos (by assumption) ?_)
  |(with_reducible refine LeO.neg (by assumption) ?_)
  |(with_reducible refine LeO.posl (by assumption) ?_)
  |(with_reducible refine LeO.negl (by assumption) ?_)
  |(with_reducible refine LeO.ite3 (by omega) (fun _ => ?_) (fun _ => ?_))
theorem sum_Exact.j1_le {k n : Nat} (hk : k ≤ n) {x160000 : Bool} {x160001 : Int} {x160002 : Int} {x160003 : Bool} {x161000 : Bool} {x161001 : Int} {x161002 : Int} {x161003 : Bool} {ex0 : Bool} {ex1 : Int} {ex2 : Int} {ex3 : Bool} : LeO (sum_Exact.j1 k x160000 x160001 x160002 x160003 x161000 x161001 x161002 x161003) (L.sum_Exact.j8 n ex0 ex1 ex2 ex3 x161000 x161001 x161002 x161003 x160000 x160001 x160002 x160003) := by
 cases k with
 |zero => rw [sum_Exact.j1]; exact LeO.none _
 |succ k =>
 replace hk := Nat.le_of_succ_le hk
 rw [sum_Exact.j1, L.sum_Exact.j8_eq]
 repeat' first
  |(with_reducible exact LeO.refl _)
  |exact LeO.none _
  |(with_reducible exact sum_Exact.j2_le hk)
  |(with_reducible exact fun r h => at_rounds (sum_full.mono _ _ _ _) hk h)
  |(with_reducible exact fun r h => at_rounds (bits_Shift.mono _ _) hk h)
  |(with_reducible refine LeO.bind ?_ (fun _ => ?_))
  |(with_reducible refine LeO.ite3 Iff.rfl (fun _ => ?_) (fun _ => ?_))
  |exact sum_Exact.j2_le hk
  |exact fun r h => at_rounds (sum_full.mono _ _ _ _) hk h
  |exact fun r h => at_rounds (bits_Shift.mono _ _) hk h
  |exact LeO.refl _
  |(with_reducible refine LeO.pos (by assumption) ?_)
  |(with_reducible refine LeO.neg (by assumption) ?_)
  |(with_reducible refine LeO.posl (by assumption) ?_)
  |(with_reducible refine LeO.negl (by assumption) ?_)
  |(with_reducible refine LeO.ite3 (by omega) (fun _ => ?_) (fun _ => ?_))
theorem sum_Exact.j0_le {k n : Nat} (hk : k ≤ n) {x39 : Bool} {x160000 : Bool} {x160001 : Int} {x160002 : Int} {x160003 : Bool} {x161000 : Bool} {x161001 : Int} {x161002 : Int} {x161003 : Bool} {ex1 : Bool} {ex2 : Int} {ex3 : Int} {ex4 : Bool} : LeO (sum_Exact.j0 k x39 x160000 x160001 x160002 x160003 x161000 x161001 x161002 x161003) (L.sum_Exact.j7 n x39 ex1 ex2 ex3 ex4 x161000 x161001 x161002 x161003 x160000 x160001 x160002 x160003) := by
 cases k with
 |zero => rw [sum_Exact.j0]; exact LeO.none _
 |succ k =>
 replace hk := Nat.le_of_succ_le hk
 rw [sum_Exact.j0, L.sum_Exact.j7_eq]
 repeat' first
  |(with_reducible exact LeO.refl _)
  |exact LeO.none _
  |(with_reducible exact sum_Exact.j2_le hk)
  |(with_reducible exact sum_Exact.j1_le hk)
  |(with_reducible exact fun r h => at_rounds (sum_full.mono _ _ _ _) hk h)
  |(with_reducible exact fun r h => at_rounds (bits_Shift.mono _ _) hk h)
  |(with_reducible refine LeO.bind ?_ (fun _ => ?_))
  |(with_reducible refine LeO.ite3 Iff.rfl (fun _ => ?_) (fun _ => ?_))
  |exact sum_Exact.j2_le hk
  |exact sum_Exact.j1_le hk
  |exact fun r h => at_rounds (sum_full.mono _ _ _ _) hk h
  |exact fun r h => at_rounds (bits_Shift.mono _ _) hk h
  |exact LeO.refl _
  |(with_reducible refine LeO.pos (by assumption) ?_)
  |(with_reducible refine LeO.neg (by assumption) ?_)
  |(with_reducible refine LeO.posl (by assumption) ?_)
  |(with_reducible refine LeO.negl (by assumption) ?_)
  |(with_reducible refine LeO.ite3 (by omega) (fun _ => ?_) (fun _ => ?_))
theorem sum_Exact.le {k n : Nat} (hk : k ≤ n) {a0_0 : Bool} {a0_1 : Int} {a0_2 : Int} {a0_3 : Bool} {a1_0 : Bool} {a1_1 : Int} {a1_2 : Int} {a1_3 : Bool} : LeO (sum_Exact.f k a0_0 a0_1 a0_2 a0_3 a1_0 a1_1 a1_2 a1_3) (L.sum_Exact.f n a0_0 a0_1 a0_2 a0_3 a1_0 a1_1 a1_2 a1_3) := by
 unfold sum_Exact.f
 rw [L.sum_Exact.eq]
 repeat' first
  |(with_reducible exact LeO.refl _)
  |exact LeO.none _
  |(with_reducible exact sum_Exact.j2_le hk)
  |(with_reducible exact sum_Exact.j1_le hk)
  |(with_reducible exact sum_Exact.j0_le hk)
  |(with_reducible exact fun r h => at_rounds (sum_full.mono _ _ _ _) hk h)
  |(with_reducible exact fun r h => at_rounds (bits_Shift.mono _ _) hk h)
  |(with_reducible refine LeO.bind ?_ (fun _ => ?_))
  |(with_reducible refine LeO.ite3 Iff.rfl (fun _ => ?_) (fun _ => ?_))
  |exact sum_Exact.j2_le hk
  |exact sum_Exact.j1_le hk
  |exact sum_Exact.j0_le hk
  |exact fun r h => at_rounds (sum_full.mono _ _ _ _) hk h
  |exact fun r h => at_rounds (bits_Shift.mono _ _) hk h
  |exact LeO.refl _
  |(with_reducible refine LeO.pos (by assumption) ?_)
  |(with_reducible refine LeO.neg (by assumption) ?_)
  |(with_reducible refine LeO.posl (by assumption) ?_)
  |(with_reducible refine LeO.negl (by assumption) ?_)
  |(with_reducible refine LeO.ite3 (by omega) (fun _ => ?_) (fun _ => ?_))
theorem sum_Exact.calls (k : Nat) (a0_0 : Bool) (a0_1 : Int) (a0_2 : Int) (a0_3 : Bool) (a1_0 : Bool) (a1_1 : Int) (a1_2 : Int) (a1_3 : Bool) (r1 : Bool) (r2 : Int) (r3 : Int) (r4 : Bool) (w : World) (h : sum_Exact.f k a0_0 a0_1 a0_2 a0_3 a1_0 a1_1 a1_2 a1_3 = some (r1, r2, r3, r4)) :
  Calls Try.prog 30 #[.agg #[.bool a0_0, .int .i64 a0_1, .int .u64 a0_2, .bool a0_3], .agg #[.bool a1_0, .int .i64 a1_1, .int .u64 a1_2, .bool a1_3]] w fun e w' => e = .returned (.agg #[.bool r1, .int .i64 r2, .int .u64 r3, .bool r4]) ∧ Below w.heap.size w w' :=
 Go.Proofs.Ytejkemahdincjaa.Ek.calls_of L.sum_Exact.ok k ((a0_0, a0_1, a0_2, a0_3, ()), (a1_0, a1_1, a1_2, a1_3, ()), ()) (r1, r2, r3, r4) rfl (sum_Exact.le (Nat.le_refl _) _ h) w
theorem round_beyond.le {k n : Nat} (hk : k ≤ n) {a0 : Int} {a1 : Int} {a2 : Bool} : LeO (round_beyond.f a0 a1 a2) (L.round_beyond.f n a0 a1 a2) := by
 unfold round_beyond.f
 rw [L.round_beyond.eq]
 repeat' first
  |(with_reducible exact LeO.refl _)
  |exact LeO.none _
  |(with_reducible refine LeO.bind ?_ (fun _ => ?_))
  |(with_reducible refine LeO.ite3 Iff.rfl (fun _ => ?_) (fun _ => ?_))
  |exact LeO.refl _
  |(with_reducible refine LeO.pos (by assumption) ?_)
  |(with_reducible refine LeO.neg (by assumption) ?_)
  |(with_reducible refine LeO.posl (by assumption) ?_)
  |(with_reducible refine LeO.negl (by assumption) ?_)
  |(with_reducible refine LeO.ite3 (by omega) (fun _ => ?_) (fun _ => ?_))
theorem round_beyond.calls (a0 : Int) (a1 : Int) (a2 : Bool) (r1 : Int) (r2 : Bool) (r3 : Bool) (r4 : Bool) (r5 : Bool) (r6 : Bool) (w : World) (h : round_beyond.f a0 a1 a2 = some (r1, r2, r3, r4, r5, r6)) :
  Calls Try.prog 62 #[.int .i64 a0, .int .i64 a1, .bool a2] w fun e w' => e = .returned (.tuple #[.int .u32 r1, .agg #[.bool r2, .bool r3, .bool r4, .bool r5, .bool r6]]) ∧ Below w.heap.size w w' :=
 Go.Proofs.Ytejkemahdincjaa.Ek.calls_of L.round_beyond.ok 0 ((a0, ()), (a1, ()), (a2, ()), ()) (r1, r2, r3, r4, r5, r6) rfl (round_beyond.le (Nat.le_refl _) _ h) w
theorem annealseat_Num.le {k n : Nat} (hk : k ≤ n) {a0 : Int} {a1 : Int} : LeO (annealseat_Num.f a0 a1) (L.annealseat_Num.f n a0 a1) := by
 unfold annealseat_Num.f
 rw [L.annealseat_Num.eq]
 repeat' first
  |(with_reducible exact LeO.refl _)
  |exact LeO.none _
  |(with_reducible refine LeO.bind ?_ (fun _ => ?_))
  |(with_reducible refine LeO.ite3 Iff.rfl (fun _ => ?_) (fun _ => ?_))
  |exact LeO.refl _
  |(with_reducible refine LeO.pos (by assumption) ?_)
  |(with_reducible refine LeO.neg (by assumption) ?_)
  |(with_reducible refine LeO.posl (by assumption) ?_)
  |(with_reducible refine LeO.negl (by assumption) ?_)
  |(with_reducible refine LeO.ite3 (by omega) (fun _ => ?_) (fun _ => ?_))
theorem annealseat_Num.calls (a0 : Int) (a1 : Int) (r : Int) (w : World) (h : annealseat_Num.f a0 a1 = some r) :
  Calls Try.prog 8 #[.int .i64 a0, .int .u32 a1] w fun e w' => e = .returned (.int .u32 r) ∧ Below w.heap.size w w' :=
 Go.Proofs.Ytejkemahdincjaa.Ek.calls_of L.annealseat_Num.ok 0 ((a0, ()), (a1, ()), ()) r rfl (annealseat_Num.le (Nat.le_refl _) _ h) w
theorem annealref1_Pack.j6_le {k n : Nat} (hk : k ≤ n) {x0 : Int} {x1 : Int} {x2 : Bool} {x15 : Int} {x18 : Int} {x19 : Int} {x384000 : Bool} {x384001 : Bool} {x384002 : Bool} {x384003 : Bool} {x384004 : Bool} {ex11 : Bool} {ex12 : Bool} {ex13 : Bool} {ex14 : Bool} {ex15 : Bool} : LeO (annealref1_Pack.j6 k x0 x1 x2 x15 x18 x19 x384000 x384001 x384002 x384003 x384004) (L.annealref1_Pack.j18 n x19 x18 x15 x2 x1 x0 x384000 x384001 x384002 x384003 x384004 ex11 ex12 ex13 ex14 ex15) := by
 cases k with
 |zero => rw [annealref1_Pack.j6]; exact LeO.none _
 |succ k =>
 replace hk := Nat.le_of_succ_le hk
 rw [annealref1_Pack.j6, L.annealref1_Pack.j18_eq]
 repeat' first
  |(with_reducible exact LeO.refl _)
  |exact LeO.none _
  |(with_reducible exact fun r h => at_rounds (annealref1_Len.mono _) hk h)
  |(with_reducible exact fun r h => at_rounds (annealref1_divide.mono _ _) hk h)
  |(with_reducible exact fun r h => at_rounds (annealref1_over.mono _ _ _) hk h)
  |(with_reducible refine LeO.bind ?_ (fun _ => ?_))
  |(with_reducible refine LeO.ite3 Iff.rfl (fun _ => ?_) (fun _ => ?_))
  |exact fun r h => at_rounds (annealref1_Len.mono _) hk h
  |exact fun r h => at_rounds (annealref1_divide.mono _ _) hk h
  |exact fun r h => at_rounds (annealref1_over.mono _ _ _) hk h
  |exact LeO.refl _
  |(with_reducible refine LeO.pos (by assumption) ?_)
  |(with_reducible refine LeO.neg (by assumption) ?_)
  |(with_reducible refine LeO.posl (by assumption) ?_)
  |(with_reducible refine LeO.negl (by assumption) ?_)
  |(with_reducible refine LeO.ite3 (by omega) (fun _ => ?_) (fun _ => ?_))
theorem annealref1_Pack.j5_le {k n : Nat} (hk : k ≤ n) {x0 : Int} {x1 : Int} {x2 : Bool} {x15 : Int} {x18 : Int} {x19 : Int} {x377000 : Bool} {x377001 : Bool} {x377002 : Bool} {x377003 : Bool} {x377004 : Bool} {ex11 : Bool} {ex12 : Bool} {ex13 : Bool} {ex14 : Bool} {ex15 : Bool} : LeO (annealref1_Pack.j5 k x0 x1 x2 x15 x18 x19 x377000 x377001 x377002 x377003 x377004) (L.annealref1_Pack.j18 n x19 x18 x15 x2 x1 x0 x377000 x377001 x377002 x377003 x377004 ex11 ex12 ex13 ex14 ex15) := by
 cases k with
 |zero => rw [annealref1_Pack.j5]; exact LeO.none _
 |succ k =>
 replace hk := Nat.le_of_succ_le hk
 rw [annealref1_Pack.j5, L.annealref1_Pack.j18_eq]
 repeat' first
  |(with_reducible exact LeO.refl _)
  |exact LeO.none _
  |(with_reducible exact annealref1_Pack.j6_le hk)
  |(with_reducible exact fun r h => at_rounds (annealref1_Len.mono _) hk h)
  |(with_reducible exact fun r h => at_rounds (annealref1_divide.mono _ _) hk h)
  |(with_reducible exact fun r h => at_rounds (annealref1_over.mono _ _ _) hk h)
  |(with_reducible refine LeO.bind ?_ (fun _ => ?_))
  |(with_reducible refine LeO.ite3 Iff.rfl (fun _ => ?_) (fun _ => ?_))
  |exact annealref1_Pack.j6_le hk
  |exact fun r h => at_rounds (annealref1_Len.mono _) hk h
  |exact fun r h => at_rounds (annealref1_divide.mono _ _) hk h
  |exact fun r h => at_rounds (annealref1_over.mono _ _ _) hk h
  |exact LeO.refl _
  |(with_reducible refine LeO.pos (by assumption) ?_)
  |(with_reducible refine LeO.neg (by assumption) ?_)
  |(with_reducible refine LeO.posl (by assumption) ?_)
  |(with_reducible refine LeO.negl (by assumption) ?_)
  |(with_reducible refine LeO.ite3 (by omega) (fun _ => ?_) (fun _ => ?_))
theorem annealref1_Pack.j4_le {k n : Nat} (hk : k ≤ n) {x0 : Int} {x1 : Int} {x2 : Bool} {x15 : Int} {x16 : Int} {x17 : Int} {x18 : Int} {x19 : Int} {x22 : Bool} {ex9 : Bool} {ex10 : Bool} {ex11 : Bool} {ex12 : Bool} {ex13 : Bool} : LeO (annealref1_Pack.j4 k x0 x1 x2 x15 x16 x17 x18 x19 x22) (L.annealref1_Pack.j15 n x22 x19 x18 x17 x16 x15 x2 x1 x0 ex9 ex10 ex11 ex12 ex13) := by
 cases k with
 |zero => rw [annealref1_Pack.j4]; exact LeO.none _
 |succ k =>
 replace hk := Nat.le_of_succ_le hk
 rw [annealref1_Pack.j4, L.annealref1_Pack.j15_eq]
 repeat' first
  |(with_reducible exact LeO.refl _)
  |exact LeO.none _
  |(with_reducible exact annealref1_Pack.j6_le hk)
  |(with_reducible exact annealref1_Pack.j5_le hk)
  |(with_reducible exact fun r h => at_rounds (annealref1_Len.mono _) hk h)
  |(with_reducible exact fun r h => at_rounds (annealref1_divide.mono _ _) hk h)
  |(with_reducible exact fun r h => at_rounds (annealref1_over.mono _ _ _) hk h)
  |(with_reducible refine LeO.bind ?_ (fun _ => ?_))
  |(with_reducible refine LeO.ite3 Iff.rfl (fun _ => ?_) (fun _ => ?_))
  |exact annealref1_Pack.j6_le hk
  |exact annealref1_Pack.j5_le hk
  |exact fun r h => at_rounds (annealref1_Len.mono _) hk h
  |exact fun r h => at_rounds (annealref1_divide.mono _ _) hk h
  |exact fun r h => at_rounds (annealref1_over.mono _ _ _) hk h
  |exact LeO.refl _
  |(with_reducible refine LeO.pos (by assumption) ?_)
  |(with_reducible refine LeO.neg (by assumption) ?_)
  |(with_reducible refine LeO.posl (by assumption) ?_)
  |(with_reducible refine LeO.negl (by assumption) ?_)
  |(with_reducible refine LeO.ite3 (by omega) (fun _ => ?_) (fun _ => ?_))
theorem annealref1_Pack.j3_le {k n : Nat} (hk : k ≤ n) {x0 : Int} {x1 : Int} {x2 : Bool} {x15 : Int} {x16 : Int} {x17 : Int} {x18 : Int} {x19 : Int} {x20 : Bool} {x21 : Bool} {x22 : Bool} {ex11 : Bool} {ex12 : Bool} {ex13 : Bool} {ex14 : Bool} {ex15 : Bool} : LeO (annealref1_Pack.j3 k x0 x1 x2 x15 x16 x17 x18 x19 x20 x21 x22) (L.annealref1_Pack.j13 n x22 x21 x20 x19 x18 x17 x16 x15 x2 x1 x0 ex11 ex12 ex13 ex14 ex15) := by
 cases k with
 |zero => rw [annealref1_Pack.j3]; exact LeO.none _
 |succ k =>
 replace hk := Nat.le_of_succ_le hk
 rw [annealref1_Pack.j3, L.annealref1_Pack.j13_eq]
 repeat' first
  |(with_reducible exact LeO.refl _)
  |exact LeO.none _
  |(with_reducible exact annealref1_Pack.j6_le hk)
  |(with_reducible exact annealref1_Pack.j5_le hk)
  |(with_reducible exact annealref1_Pack.j4_le hk)
  |(with_reducible exact fun r h => at_rounds (annealref1_Len.mono _) hk h)
  |(with_reducible exact fun r h => at_rounds (annealref1_divide.mono _ _) hk h)
  |(with_reducible exact fun r h => at_rounds (annealref1_over.mono _ _ _) hk h)
  |(with_reducible refine LeO.bind ?_ (fun _ => ?_))
  |(with_reducible refine LeO.ite3 Iff.rfl (fun _ => ?_) (fun _ => ?_))
  |exact annealref1_Pack.j6_le hk
  |exact annealref1_Pack.j5_le hk
  |exact annealref1_Pack.j4_le hk
  |exact fun r h => at_rounds (annealref1_Len.mono _) hk h
  |exact fun r h => at_rounds (annealref1_divide.mono _ _) hk h
  |exact fun r h => at_rounds (annealref1_over.mono _ _ _) hk h
  |exact LeO.refl _
  |(with_reducible refine LeO.pos (by assumption) ?_)
  |(with_reducible refine LeO.neg (by assumption) ?_)
  |(with_reducible refine LeO.posl (by assumption) ?_)
  |(with_reducible refine LeO.negl (by assumption) ?_)
  |(with_reducible refine LeO.ite3 (by omega) (fun _ => ?_) (fun _ => ?_))
theorem annealref1_Pack.j2_le {k n : Nat} (hk : k ≤ n) {x0 : Int} {x1 : Int} {x2 : Bool} {x15 : Int} {x16 : Int} {x17 : Int} {x18 : Int} {x19 : Int} {x20 : Bool} {x21 : Bool} {ex10 : Bool} {ex11 : Bool} {ex12 : Bool} {ex13 : Bool} {ex14 : Bool} : LeO (annealref1_Pack.j2 k x0 x1 x2 x15 x16 x17 x18 x19 x20 x21) (L.annealref1_Pack.j12 n x21 x20 x19 x18 x17 x16 x15 x2 x1 x0 ex10 ex11 ex12 ex13 ex14) := by
 cases k with
 |zero => rw [annealref1_Pack.j2]; exact LeO.none _
 |succ k =>
 replace hk := Nat.le_of_succ_le hk
 rw [annealref1_Pack.j2, L.annealref1_Pack.j12_eq]
 repeat' first
  |(with_reducible exact LeO.refl _)
  |exact LeO.none _
  |(with_reducible exact annealref1_Pack.j6_le hk)
  |(with_reducible exact annealref1_Pack.j5_le hk)
  |(with_reducible exact annealref1_Pack.j4_le hk)
  |(with_reducible exact annealref1_Pack.j3_le hk)
  |(with_reducible exact fun r h => at_rounds (annealref1_Len.mono _) hk h)
  |(with_reducible exact fun r h => at_rounds (annealref1_divide.mono _ _) hk h)
  |(with_reducible exact fun r h => at_rounds (annealref1_over.mono _ _ _) hk h)
  |(with_reducible refine LeO.bind ?_ (fun _ => ?_))
  |(with_reducible refine LeO.ite3 Iff.rfl (fun _ => ?_) (fun _ => ?_))
  |exact annealref1_Pack.j6_le hk
  |exact annealref1_Pack.j5_le hk
  |exact annealref1_Pack.j4_le hk
  |exact annealref1_Pack.j3_le hk
  |exact fun r h => at_rounds (annealref1_Len.mono _) hk h
  |exact fun r h => at_rounds (annealref1_divide.mono _ _) hk h
  |exact fun r h => at_rounds (annealref1_over.mono _ _ _) hk h
  |exact LeO.refl _
  |(with_reducible refine LeO.pos (by assumption) ?_)
  |(with_reducible refine LeO.neg (by assumption) ?_)
  |(with_reducible refine LeO.posl (by assumption) ?_)
  |(with_reducible refine LeO.negl (by assumption) ?_)
  |(with_reducible refine LeO.ite3 (by omega) (fun _ => ?_) (fun _ => ?_))
theorem annealref1_Pack.j1_le {k n : Nat} (hk : k ≤ n) {x0 : Int} {x1 : Int} {x2 : Bool} {x3 : Int} {x4 : Int} {x5 : Bool} {x15 : Int} {x16 : Int} {x17 : Int} {ex9 : Bool} {ex10 : Bool} {ex11 : Bool} {ex12 : Bool} {ex13 : Bool} : LeO (annealref1_Pack.j1 k x0 x1 x2 x3 x4 x5 x15 x16 x17) (L.annealref1_Pack.j9 n x17 x16 x15 x5 x4 x3 x2 x1 x0 ex9 ex10 ex11 ex12 ex13) := by
 cases k with
 |zero => rw [annealref1_Pack.j1]; exact LeO.none _
 |succ k =>
 replace hk := Nat.le_of_succ_le hk
 rw [annealref1_Pack.j1, L.annealref1_Pack.j9_eq]
 repeat' first
  |(with_reducible exact LeO.refl _)
  |exact LeO.none _
  |(with_reducible exact annealref1_Pack.j6_le hk)
  |(with_reducible exact annealref1_Pack.j5_le hk)
  |(with_reducible exact annealref1_Pack.j4_le hk)
  |(with_reducible exact annealref1_Pack.j3_le hk)
  |(with_reducible exact annealref1_Pack.j2_le hk)
  |(with_reducible exact fun r h => at_rounds (annealref1_Len.mono _) hk h)
  |(with_reducible exact fun r h => at_rounds (annealref1_divide.mono _ _) hk h)
  |(with_reducible exact fun r h => at_rounds (annealref1_over.mono _ _ _) hk h)
  |(with_reducible refine LeO.bind ?_ (fun _ => ?_))
  |(with_reducible refine LeO.ite3 Iff.rfl (fun _ => ?_) (fun _ => ?_))
  |exact annealref1_Pack.j6_le hk
  |exact annealref1_Pack.j5_le hk
  |exact annealref1_Pack.j4_le hk
  |exact annealref1_Pack.j3_le hk
  |exact annealref1_Pack.j2_le hk
  |exact fun r h => at_rounds (annealref1_Len.mono _) hk h
  |exact fun r h => at_rounds (annealref1_divide.mono _ _) hk h
  |exact fun r h => at_rounds (annealref1_over.mono _ _ _) hk h
  |exact LeO.refl _
  |(with_reducible refine LeO.pos (by assumption) ?_)
  |(with_reducible refine LeO.neg (by assumption) ?_)
  |(with_reducible refine LeO.posl (by assumption) ?_)
  |(with_reducible refine LeO.negl (by assumption) ?_)
  |(with_reducible refine LeO.ite3 (by omega) (fun _ => ?_) (fun _ => ?_))
theorem annealref1_Pack.j0_le {k n : Nat} (hk : k ≤ n) {x0 : Int} {x1 : Int} {x2 : Bool} {x3 : Int} {x4 : Int} {x5 : Bool} {x35 : Bool} {ex7 : Bool} {ex8 : Bool} {ex9 : Bool} {ex10 : Bool} {ex11 : Bool} : LeO (annealref1_Pack.j0 k x0 x1 x2 x3 x4 x5 x35) (L.annealref1_Pack.j3 n x35 x5 x4 x3 x2 x1 x0 ex7 ex8 ex9 ex10 ex11) := by
 cases k with
 |zero => rw [annealref1_Pack.j0]; exact LeO.none _
 |succ k =>
 replace hk := Nat.le_of_succ_le hk
 rw [annealref1_Pack.j0, L.annealref1_Pack.j3_eq]
 repeat' first
  |(with_reducible exact LeO.refl _)
  |exact LeO.none _
  |(with_reducible exact annealref1_Pack.j6_le hk)
  |(with_reducible exact annealref1_Pack.j5_le hk)
  |(with_reducible exact annealref1_Pack.j4_le hk)
  |(with_reducible exact annealref1_Pack.j3_le hk)
  |(with_reducible exact annealref1_Pack.j2_le hk)
  |(with_reducible exact annealref1_Pack.j1_le hk)
  |(with_reducible exact fun r h => at_rounds (annealref1_Len.mono _) hk h)
  |(with_reducible exact fun r h => at_rounds (annealref1_divide.mono _ _) hk h)
  |(with_reducible exact fun r h => at_rounds (annealref1_over.mono _ _ _) hk h)
  |(with_reducible refine LeO.bind ?_ (fun _ => ?_))
  |(with_reducible refine LeO.ite3 Iff.rfl (fun _ => ?_) (fun _ => ?_))
  |exact annealref1_Pack.j6_le hk
  |exact annealref1_Pack.j5_le hk
  |exact annealref1_Pack.j4_le hk
  |exact annealref1_Pack.j3_le hk
  |exact annealref1_Pack.j2_le hk
  |exact annealref1_Pack.j1_le hk
  |exact fun r h => at_rounds (annealref1_Len.mono _) hk h
  |exact fun r h => at_rounds (annealref1_divide.mono _ _) hk h
  |exact fun r h => at_rounds (annealref1_over.mono _ _ _) hk h
  |exact LeO.refl _
  |(with_reducible refine LeO.pos (by assumption) ?_)
  |(with_reducible refine LeO.neg (by assumption) ?_)
  |(with_reducible refine LeO.posl (by assumption) ?_)
  |(with_reducible refine LeO.negl (by assumption) ?_)
  |(with_reducible refine LeO.ite3 (by omega) (fun _ => ?_) (fun _ => ?_))
theorem annealref1_Pack.le {k n : Nat} (hk : k ≤ n) {a0 : Int} {a1 : Int} {a2 : Bool} {a3 : Int} {a4 : Int} {a5 : Bool} : LeO (annealref1_Pack.f k a0 a1 a2 a3 a4 a5) (L.annealref1_Pack.f n a0 a1 a2 a3 a4 a5) := by
 unfold annealref1_Pack.f
 rw [L.annealref1_Pack.eq]
 repeat' first
  |(with_reducible exact LeO.refl _)
  |exact LeO.none _
  |(with_reducible exact annealref1_Pack.j6_le hk)
  |(with_reducible exact annealref1_Pack.j5_le hk)
  |(with_reducible exact annealref1_Pack.j4_le hk)
  |(with_reducible exact annealref1_Pack.j3_le hk)
  |(with_reducible exact annealref1_Pack.j2_le hk)
  |(with_reducible exact annealref1_Pack.j1_le hk)
  |(with_reducible exact annealref1_Pack.j0_le hk)
  |(with_reducible exact fun r h => at_rounds (annealref1_Len.mono _) hk h)
  |(with_reducible exact fun r h => at_rounds (annealref1_divide.mono _ _) hk h)
  |(with_reducible exact fun r h => at_rounds (annealref1_over.mono _ _ _) hk h)
  |(with_reducible refine LeO.bind ?_ (fun _ => ?_))
  |(with_reducible refine LeO.ite3 Iff.rfl (fun _ => ?_) (fun _ => ?_))
  |exact annealref1_Pack.j6_le hk
  |exact annealref1_Pack.j5_le hk
  |exact annealref1_Pack.j4_le hk
  |exact annealref1_Pack.j3_le hk
  |exact annealref1_Pack.j2_le hk
  |exact annealref1_Pack.j1_le hk
  |exact annealref1_Pack.j0_le hk
  |exact fun r h => at_rounds (annealref1_Len.mono _) hk h
  |exact fun r h => at_rounds (annealref1_divide.mono _ _) hk h
  |exact fun r h => at_rounds (annealref1_over.mono _ _ _) hk h
  |exact LeO.refl _
  |(with_reducible refine LeO.pos (by assumption) ?_)
  |(with_reducible refine LeO.neg (by assumption) ?_)
  |(with_reducible refine LeO.posl (by assumption) ?_)
  |(with_reducible refine LeO.negl (by assumption) ?_)
  |(with_reducible refine LeO.ite3 (by omega) (fun _ => ?_) (fun _ => ?_))
theorem annealref1_Pack.calls (k : Nat) (a0 : Int) (a1 : Int) (a2 : Bool) (a3 : Int) (a4 : Int) (a5 : Bool) (r1 : Int) (r2 : Bool) (r3 : Bool) (r4 : Bool) (r5 : Bool) (r6 : Bool) (w : World) (h : annealref1_Pack.f k a0 a1 a2 a3 a4 a5 = some (r1, r2, r3, r4, r5, r6)) :
  Calls Try.prog 43 #[.int .i64 a0, .int .i64 a1, .bool a2, .int .i64 a3, .int .u64 a4, .bool a5] w fun e w' => e = .returned (.tuple #[.int .u32 r1, .agg #[.bool r2, .bool r3, .bool r4, .bool r5, .bool r6]]) ∧ Below w.heap.size w w' :=
 Go.Proofs.Ytejkemahdincjaa.Ek.calls_of L.annealref1_Pack.ok k ((a0, ()), (a1, ()), (a2, ()), (a3, ()), (a4, ()), (a5, ()), ()) (r1, r2, r3, r4, r5, r6) rfl (annealref1_Pack.le (Nat.le_refl _) _ h) w
attribute [local go_sem] max2_int min2_int max_two min_two max_three min_three max_four min_four

-- NEED 0
/-! ### annealref1_Minus: function 17 -/
def annealref1_Minus.f (k : Nat) (a0 : Int) (a1 : Int) : Option (Int) := (annealref1_nans.f k a0 (([a1] : List Int))).bind fun bt451 => (if bt451.1 = true then ((annealref1_Mask.f a0).bind fun t453 => (some (Go.bits .and .u32 a1 t453))) else ((annealref1_sign.f a0 true).bind fun t454 => ((annealref1_Mask.f a0).bind fun t455 => (some (Go.bits .and .u32 (Go.bits .xor .u32 a1 t454) t455)))))
set_option maxHeartbeats 8000000 in
set_option maxRecDepth 100000 in
theorem annealref1_Minus.calls (k : Nat) (a0 : Int) (a1 : Int) (r : Int) (w : World) (h : annealref1_Minus.f k a0 a1 = some r) :
  Calls Try.prog 17 #[.int .i64 a0, .int .u32 a1] w fun e w' => e = .returned (.int .u32 r) ∧ Below w.heap.size w w' := by
 have HB := Aside0.mk (Below.refl w.heap.size w)
 have H : ((annealref1_nans.f k a0 (([a1] : List Int))).bind fun bt451 => (if bt451.1 = true then ((annealref1_Mask.f a0).bind fun t453 => (some (Go.bits .and .u32 a1 t453))) else ((annealref1_sign.f a0 true).bind fun t454 => ((annealref1_Mask.f a0).bind fun t455 => (some (Go.bits .and .u32 (Go.bits .xor .u32 a1 t454) t455)))))) = some r := h
 clear h
 obtain ⟨y448, hy448⟩ : ∃ y_ : List Int, y_ = (([a1] : List Int)) := ⟨_, rfl⟩
 replace H : ((annealref1_nans.f k a0 y448).bind fun bt451 => (if bt451.1 = true then ((annealref1_Mask.f a0).bind fun t453 => (some (Go.bits .and .u32 a1 t453))) else ((annealref1_sign.f a0 true).bind fun t454 => ((annealref1_Mask.f a0).bind fun t455 => (some (Go.bits .and .u32 (Go.bits .xor .u32 a1 t454) t455)))))) = some r := by first | (rw [hy448]; with_reducible exact H) | (have H2_ := (Option.bind_some _ _).symm.trans H; rw [hy448]; with_reducible exact H2_) | (have H2_ := (Option.bind_some _ _).symm.trans H; with_reducible exact H2_) | with_reducible exact H | (rw [hy448]; exact H) | exact H
 have Ny448 := Aside0.mk hy448
 clear hy448
 replace H := Option.bind_eq_some_iff.mp H
 obtain ⟨⟨t451, t452⟩, A30, H⟩ := H
 replace H : (if t451 = true then ((annealref1_Mask.f a0).bind fun t453 => (some (Go.bits .and .u32 a1 t453))) else ((annealref1_sign.f a0 true).bind fun t454 => ((annealref1_Mask.f a0).bind fun t455 => (some (Go.bits .and .u32 (Go.bits .xor .u32 a1 t454) t455))))) = some r := H
 have A3 := Aside0.mk A30
 clear A30
 by_cases c4 : t451 = true
 ·subst c4
  have H1 : ((annealref1_Mask.f a0).bind fun t453 => (some (Go.bits .and .u32 a1 t453))) = some r := by rw [if_pos rfl] at H; exact H
  clear H
  have H := H1
  clear H1
  replace H := Option.bind_eq_some_iff.mp H
  obtain ⟨t453, A50, H⟩ := H
  replace H : (some (Go.bits .and .u32 a1 t453)) = some r := H
  have A5 := Aside0.mk A50
  clear A50
  obtain rfl := Option.some.inj H
  go_enter Try.func17, Try.ntmps17
  go_wp2_with (first | ((with_reducible refine gate_dst (N := 10) rfl ?_); refine Kd.R_lit (Kd.int .u32) _ 22 ?hg (N := 10) ?hd (xs := ([a1] : List Int)) (inner := [.int .u32 a1]) (ok := fun _ => True) (okp := fun _ => True) ?hr ?hp (fun _ hk => hk) trivial (Below.refl _ _) (Nat.le_refl _) (by simp) ?_; (case hd => rfl); (case hg => rfl); (case hr => first | (go_simp; done) | (go_simp; rfl)); (case hp => exact (Reps.one (show Kd.M (Kd.int .u32) _ _ _ a1 [.int .u32 a1] from rfl) (Reps.none _ _))); intro v449 w6 ho7 hb hg_ hnew_; clear hg_ hnew_; (first | rw [← Ny448.out] at ho7 | (simp only [Int.reduceToNat] at ho7; rw [← Ny448.out] at ho7)); have n0_ := Aside0.mk (Kd.R_lower ho7 (below_size (bl0 HB.out))); have n1_ := Aside0.mk (below_step (bl0 HB.out) hb); clear HB; have HO450 := n0_; have HB := n1_; clear n0_ n1_; clear hb ho7; obtain ⟨Ao8, co8, eo8⟩ := Kd.R_slice HO450.out; subst eo8) | ((with_reducible refine gate_callee (f := 33) rfl ?_); refine goesL_ (some 11) rfl rfl Try.func33 (by kernel_rfl) rfl #[.int .i64 a0, .slice Ao8 y448.length co8] rfl gl ?_; (with_reducible refine (annealref1_nans.calls k a0 _ _ y448 true t452 _ ?side1 ?side2 A3.out).mono ?_); (case side1 => repeat (first | exact (Kd.R_reads' HO450.out).2.2 | (with_reducible refine Kd.C_alloc ?_ _) | (with_reducible refine Kd.C_drewN ?_ _) | (with_reducible refine Kd.C_drew ?_))); (case side2 => exact (Kd.R_reads' HO450.out).2.1); rintro e w' ⟨rfl, ⟨nd, rfl⟩⟩; refine ⟨_, rfl, ?_⟩) | ((with_reducible refine gate_callee (f := 24) rfl ?_); refine goesL_ (some 17) rfl rfl Try.func24 (by kernel_rfl) rfl #[.int .i64 a0] rfl gl ?_; (with_reducible refine (annealref1_Mask.calls a0 t453 _ A5.out).mono ?_); rintro e w' ⟨rfl, ⟨nd, rfl⟩⟩; refine ⟨_, rfl, ?_⟩))
  go_ret
  exact ⟨by first | rfl | (simp [errW_none, errW_some] <;> rfl) | (simp [*, errW_none, errW_some] <;> rfl), bl0 HB.out⟩
 ·replace c4 := Bool.eq_false_iff.mpr c4
  subst c4
  have H1 : ((annealref1_sign.f a0 true).bind fun t454 => ((annealref1_Mask.f a0).bind fun t455 => (some (Go.bits .and .u32 (Go.bits .xor .u32 a1 t454) t455)))) = some r := by rw [if_neg (show ¬ (false = true) by decide)] at H; exact H
  clear H
  have H := H1
  clear H1
  replace H := Option.bind_eq_some_iff.mp H
  obtain ⟨t454, A90, H⟩ := H
  replace H : ((annealref1_Mask.f a0).bind fun t455 => (some (Go.bits .and .u32 (Go.bits .xor .u32 a1 t454) t455))) = some r := H
  have A9 := Aside0.mk A90
  clear A90
  replace H := Option.bind_eq_some_iff.mp H
  obtain ⟨t455, A100, H⟩ := H
  replace H : (some (Go.bits .and .u32 (Go.bits .xor .u32 a1 t454) t455)) = some r := H
  have A10 := Aside0.mk A100
  clear A100
  obtain rfl := Option.some.inj H
  go_enter Try.func17, Try.ntmps17
  go_wp2_with (first | ((with_reducible refine gate_dst (N := 10) rfl ?_); refine Kd.R_lit (Kd.int .u32) _ 22 ?hg (N := 10) ?hd (xs := ([a1] : List Int)) (inner := [.int .u32 a1]) (ok := fun _ => True) (okp := fun _ => True) ?hr ?hp (fun _ hk => hk) trivial (Below.refl _ _) (Nat.le_refl _) (by simp) ?_; (case hd => rfl); (case hg => rfl); (case hr => first | (go_simp; done) | (go_simp; rfl)); (case hp => exact (Reps.one (show Kd.M (Kd.int .u32) _ _ _ a1 [.int .u32 a1] from rfl) (Reps.none _ _))); intro v449 w11 ho12 hb hg_ hnew_; clear hg_ hnew_; (first | rw [← Ny448.out] at ho12 | (simp only [Int.reduceToNat] at ho12; rw [← Ny448.out] at ho12)); have n0_ := Aside0.mk (Kd.R_lower ho12 (below_size (bl0 HB.out))); have n1_ := Aside0.mk (below_step (bl0 HB.out) hb); clear HB; have HO450 := n0_; have HB := n1_; clear n0_ n1_; clear hb ho12; obtain ⟨Ao13, co13, eo13⟩ := Kd.R_slice HO450.out; subst eo13) | ((with_reducible refine gate_callee (f := 33) rfl ?_); refine goesL_ (some 11) rfl rfl Try.func33 (by kernel_rfl) rfl #[.int .i64 a0, .slice Ao13 y448.length co13] rfl gl ?_; (with_reducible refine (annealref1_nans.calls k a0 _ _ y448 false t452 _ ?side1 ?side2 A3.out).mono ?_); (case side1 => repeat (first | exact (Kd.R_reads' HO450.out).2.2 | (with_reducible refine Kd.C_alloc ?_ _) | (with_reducible refine Kd.C_drewN ?_ _) | (with_reducible refine Kd.C_drew ?_))); (case side2 => exact (Kd.R_reads' HO450.out).2.1); rintro e w' ⟨rfl, ⟨nd, rfl⟩⟩; refine ⟨_, rfl, ?_⟩) | ((with_reducible refine gate_callee (f := 44) rfl ?_); refine goesL_ (some 21) rfl rfl Try.func44 (by kernel_rfl) rfl #[.int .i64 a0, .bool true] rfl gl ?_; (with_reducible refine (annealref1_sign.calls a0 true t454 _ A9.out).mono ?_); rintro e w' ⟨rfl, ⟨nd, rfl⟩⟩; refine ⟨_, rfl, ?_⟩) | ((with_reducible refine gate_callee (f := 24) rfl ?_); refine goesL_ (some 24) rfl rfl Try.func24 (by kernel_rfl) rfl #[.int .i64 a0] rfl gl ?_; (with_reducible refine (annealref1_Mask.calls a0 t455 _ A10.out).mono ?_); rintro e w' ⟨rfl, ⟨nd, rfl⟩⟩; refine ⟨_, rfl, ?_⟩))
  go_ret
  exact ⟨by first | rfl | (simp [errW_none, errW_some] <;> rfl) | (simp [*, errW_none, errW_some] <;> rfl), bl0 HB.out⟩

end Go.Proofs.Ytejkemahdincjaa.P

/- Entries of functions. -/
namespace Go.Proofs.Ytejkemahdincjaa.E
open Go.RowKit Go.Proofs.Ytejkemahdincjaa.P Go.Proofs.Ytejkemahdincjaa.Ek Go.Proofs.YtejkemahdincjaaW.PrintWords Go.Proofs.YtejkemahdincjaaW.PrintLast Go.Proofs.YtejkemahdincjaaW.PrintMore
noncomputable def annealref1_nans.c : Fc := mkFcA [.s (hI .i64), .sl .u32] [hB, hB] (T := Bool × Bool) (fun y => ((y.1, ()), (y.2, ()), ())) fun n x => annealref1_nans.f n x.1.1 x.2.1
theorem annealref1_nans.ok : FcOk Try.prog 33 annealref1_nans.c := oldA_ok Try.func33 (by kernel_rfl) (by kernel_rfl) (by decide) (fun _ => giveR_ok (by decide) _) fun n x y h m w vs ha => by obtain ⟨q0, e0, ha⟩ := ha; subst e0; obtain ⟨A1, c1, q1, e1, R1, D1, ha⟩ := ha; subst e1; subst ha; exact (annealref1_nans.calls n x.1.1 A1 c1 x.2.1 y.1 y.2 w R1 D1 h).mono fun e w' he => ⟨he.1, he.2.below⟩
noncomputable def annealref1_Nan.c : Fc := mkFc [hI .i64] [hI .u32] (T := Int) (fun y => ((y, ()), ())) fun n x => annealref1_Nan.f x.1.1
theorem annealref1_Nan.ok : FcOk Try.prog 34 annealref1_Nan.c := old_ok Try.func34 (by kernel_rfl) (by kernel_rfl) (by decide) (fun _ => giveR_ok (by decide) _) fun n x y h m w => (annealref1_Nan.calls x.1.1 y w h).mono fun e w' he => ⟨he.1, he.2.below⟩
noncomputable def annealref1_inf.c : Fc := mkFc [hI .i64, hI .u32] [hB] (T := Bool) (fun y => ((y, ()), ())) fun n x => annealref1_inf.f n x.1.1 x.2.1.1
theorem annealref1_inf.ok : FcOk Try.prog 35 annealref1_inf.c := old_ok Try.func35 (by kernel_rfl) (by kernel_rfl) (by decide) (fun _ => giveR_ok (by decide) _) fun n x y h m w => (annealref1_inf.calls n x.1.1 x.2.1.1 y w h).mono fun e w' he => ⟨he.1, he.2.below⟩
noncomputable def annealref1_neg.c : Fc := mkFc [hI .i64, hI .u32] [hB] (T := Bool) (fun y => ((y, ()), ())) fun n x => annealref1_neg.f x.1.1 x.2.1.1
theorem annealref1_neg.ok : FcOk Try.prog 36 annealref1_neg.c := old_ok Try.func36 (by kernel_rfl) (by kernel_rfl) (by decide) (fun _ => giveR_ok (by decide) _) fun n x y h m w => (annealref1_neg.calls x.1.1 x.2.1.1 y w h).mono fun e w' he => ⟨he.1, he.2.below⟩
noncomputable def annealref1_Mask.c : Fc := mkFc [hI .i64] [hI .u32] (T := Int) (fun y => ((y, ()), ())) fun n x => annealref1_Mask.f x.1.1
theorem annealref1_Mask.ok : FcOk Try.prog 24 annealref1_Mask.c := old_ok Try.func24 (by kernel_rfl) (by kernel_rfl) (by decide) (fun _ => giveR_ok (by decide) _) fun n x y h m w => (annealref1_Mask.calls x.1.1 y w h).mono fun e w' he => ⟨he.1, he.2.below⟩
noncomputable def annealref1_zero.c : Fc := mkFc [hI .i64, hI .u32] [hB] (T := Bool) (fun y => ((y, ()), ())) fun n x => annealref1_zero.f n x.1.1 x.2.1.1
theorem annealref1_zero.ok : FcOk Try.prog 37 annealref1_zero.c := old_ok Try.func37 (by kernel_rfl) (by kernel_rfl) (by decide) (fun _ => giveR_ok (by decide) _) fun n x y h m w => (annealref1_zero.calls n x.1.1 x.2.1.1 y w h).mono fun e w' he => ⟨he.1, he.2.below⟩
noncomputable def annealref1_Unpack.c : Fc := mkFc [hI .i64, hI .u32] [hB, hI .i64, hI .u64] (T := Bool × Int × Int) (fun y => ((y.1, ()), (y.2.1, ()), (y.2.2, ()), ())) fun n x => annealref1_Unpack.f n x.1.1 x.2.1.1
theorem annealref1_Unpack.ok : FcOk Try.prog 40 annealref1_Unpack.c := old_ok Try.func40 (by kernel_rfl) (by kernel_rfl) (by decide) (fun _ => giveR_ok (by decide) _) fun n x y h m w => (annealref1_Unpack.calls n x.1.1 x.2.1.1 y.1 y.2.1 y.2.2 w h).mono fun e w' he => ⟨he.1, he.2.below⟩
noncomputable def annealref1_spread.cls : Cls := []
theorem annealref1_spread.clsOk : ClsOk Try.prog annealref1_spread.cls := ClsOk.nil
noncomputable def annealref1_spread.K (v : SV) : Option (Bool × List Int) := (takeR [.agg [.b, .a .u64 10]] v).map (fun z => (z.1.1, z.1.2.1))
noncomputable def annealref1_spread.cuts : List Nat := []
noncomputable def annealref1_spread.f (k : Nat) (a0 : Bool) (a1 : Int) (a2 : Int) : Option (Bool × List Int) := evF Try.prog annealref1_spread.cls Try.f39 annealref1_spread.cuts k [.one (.b (.q a0)), .one (.i .i64 (.x a1)), .one (.i .u64 (.x a2))] annealref1_spread.K
noncomputable def annealref1_spread.c : Fc := mkFc [hB, hI .i64, hI .u64] [.agg [.b, .a .u64 10]] (T := Bool × List Int) (fun y => ((y.1, y.2, ()), ())) fun n x => annealref1_spread.f n x.1.1 x.2.1.1 x.2.2.1.1
theorem annealref1_spread.ok : FcOk Try.prog 39 annealref1_spread.c := mkOk annealref1_spread.clsOk Try.func39 (by kernel_rfl) (by kernel_rfl) (by decide) (fun _ => rfl) (fun _ _ => rfl)
noncomputable def annealref1_below.cls : Cls := []
theorem annealref1_below.clsOk : ClsOk Try.prog annealref1_below.cls := ClsOk.nil
noncomputable def annealref1_below.K (v : SV) : Option (Bool) := (takeR [hB] v).map (fun z => (z.1.1))
noncomputable def annealref1_below.cuts : List Nat := []
noncomputable def annealref1_below.f (k : Nat) (a0_0 : Bool) (a0_1 : List Int) (a1_0 : Bool) (a1_1 : List Int) : Option (Bool) := evF Try.prog annealref1_below.cls Try.f83 annealref1_below.cuts k [.agg [cb a0_0, .a .u64 a0_1 10], .agg [cb a1_0, .a .u64 a1_1 10]] annealref1_below.K
noncomputable def annealref1_below.c : Fc := mkFc [.agg [.b, .a .u64 10], .agg [.b, .a .u64 10]] [hB] (T := Bool) (fun y => ((y, ()), ())) fun n x => annealref1_below.f n x.1.1 x.1.2.1 x.2.1.1 x.2.1.2.1
theorem annealref1_below.ok : FcOk Try.prog 83 annealref1_below.c := mkOk annealref1_below.clsOk Try.func83 (by kernel_rfl) (by kernel_rfl) (by decide) (fun _ => rfl) (fun _ _ => rfl)
noncomputable def annealref1_minus.cls : Cls := [(83, annealref1_below.c)]
theorem annealref1_minus.clsOk : ClsOk Try.prog annealref1_minus.cls := ClsOk.cons annealref1_below.ok (ClsOk.nil)
noncomputable def annealref1_minus.K (v : SV) : Option (Bool × List Int) := (takeR [.agg [.b, .a .u64 10]] v).map (fun z => (z.1.1, z.1.2.1))
noncomputable def annealref1_minus.cuts : List Nat := []
noncomputable def annealref1_minus.f (k : Nat) (a0_0 : Bool) (a0_1 : List Int) (a1_0 : Bool) (a1_1 : List Int) : Option (Bool × List Int) := evF Try.prog annealref1_minus.cls Try.f80 annealref1_minus.cuts k [.agg [cb a0_0, .a .u64 a0_1 10], .agg [cb a1_0, .a .u64 a1_1 10]] annealref1_minus.K
noncomputable def annealref1_minus.c : Fc := mkFc [.agg [.b, .a .u64 10], .agg [.b, .a .u64 10]] [.agg [.b, .a .u64 10]] (T := Bool × List Int) (fun y => ((y.1, y.2, ()), ())) fun n x => annealref1_minus.f n x.1.1 x.1.2.1 x.2.1.1 x.2.1.2.1
theorem annealref1_minus.ok : FcOk Try.prog 80 annealref1_minus.c := mkOk annealref1_minus.clsOk Try.func80 (by kernel_rfl) (by kernel_rfl) (by decide) (fun _ => rfl) (fun _ _ => rfl)
noncomputable def annealref1_plus.cls : Cls := [(80, annealref1_minus.c)]
theorem annealref1_plus.clsOk : ClsOk Try.prog annealref1_plus.cls := ClsOk.cons annealref1_minus.ok (ClsOk.nil)
noncomputable def annealref1_plus.K (v : SV) : Option (Bool × List Int) := (takeR [.agg [.b, .a .u64 10]] v).map (fun z => (z.1.1, z.1.2.1))
noncomputable def annealref1_plus.cuts : List Nat := []
noncomputable def annealref1_plus.f (k : Nat) (a0_0 : Bool) (a0_1 : List Int) (a1_0 : Bool) (a1_1 : List Int) : Option (Bool × List Int) := evF Try.prog annealref1_plus.cls Try.f68 annealref1_plus.cuts k [.agg [cb a0_0, .a .u64 a0_1 10], .agg [cb a1_0, .a .u64 a1_1 10]] annealref1_plus.K
noncomputable def annealref1_plus.c : Fc := mkFc [.agg [.b, .a .u64 10], .agg [.b, .a .u64 10]] [.agg [.b, .a .u64 10]] (T := Bool × List Int) (fun y => ((y.1, y.2, ()), ())) fun n x => annealref1_plus.f n x.1.1 x.1.2.1 x.2.1.1 x.2.1.2.1
theorem annealref1_plus.ok : FcOk Try.prog 68 annealref1_plus.c := mkOk annealref1_plus.clsOk Try.func68 (by kernel_rfl) (by kernel_rfl) (by decide) (fun _ => rfl) (fun _ _ => rfl)
noncomputable def annealref1_nought.cls : Cls := []
theorem annealref1_nought.clsOk : ClsOk Try.prog annealref1_nought.cls := ClsOk.nil
noncomputable def annealref1_nought.K (v : SV) : Option (Bool) := (takeR [hB] v).map (fun z => (z.1.1))
noncomputable def annealref1_nought.cuts : List Nat := []
noncomputable def annealref1_nought.f (k : Nat) (a0_0 : Bool) (a0_1 : List Int) : Option (Bool) := evF Try.prog annealref1_nought.cls Try.f69 annealref1_nought.cuts k [.agg [cb a0_0, .a .u64 a0_1 10]] annealref1_nought.K
noncomputable def annealref1_nought.c : Fc := mkFc [.agg [.b, .a .u64 10]] [hB] (T := Bool) (fun y => ((y, ()), ())) fun n x => annealref1_nought.f n x.1.1 x.1.2.1
theorem annealref1_nought.ok : FcOk Try.prog 69 annealref1_nought.c := mkOk annealref1_nought.clsOk Try.func69 (by kernel_rfl) (by kernel_rfl) (by decide) (fun _ => rfl) (fun _ _ => rfl)
noncomputable def annealref1_Zero.c : Fc := mkFc [hI .i64, hB] [hI .u32] (T := Int) (fun y => ((y, ()), ())) fun n x => annealref1_Zero.f x.1.1 x.2.1.1
theorem annealref1_Zero.ok : FcOk Try.prog 22 annealref1_Zero.c := old_ok Try.func22 (by kernel_rfl) (by kernel_rfl) (by decide) (fun _ => giveR_ok (by decide) _) fun n x y h m w => (annealref1_Zero.calls x.1.1 x.2.1.1 y w h).mono fun e w' he => ⟨he.1, he.2.below⟩
noncomputable def annealref1_Len.c : Fc := mkFc [hI .u64] [hI .i64] (T := Int) (fun y => ((y, ()), ())) fun n x => annealref1_Len.f n x.1.1
theorem annealref1_Len.ok : FcOk Try.prog 73 annealref1_Len.c := old_ok Try.func73 (by kernel_rfl) (by kernel_rfl) (by decide) (fun _ => giveR_ok (by decide) _) fun n x y h m w => (annealref1_Len.calls n x.1.1 y w h).mono fun e w' he => ⟨he.1, he.2.below⟩
noncomputable def annealref1_Pack.c : Fc := mkFc [hI .i64, hI .i64, hB, hI .i64, hI .u64, hB] [hI .u32, .agg [.b, .b, .b, .b, .b]] (T := Int × Bool × Bool × Bool × Bool × Bool) (fun y => ((y.1, ()), (y.2.1, y.2.2.1, y.2.2.2.1, y.2.2.2.2.1, y.2.2.2.2.2, ()), ())) fun n x => annealref1_Pack.f n x.1.1 x.2.1.1 x.2.2.1.1 x.2.2.2.1.1 x.2.2.2.2.1.1 x.2.2.2.2.2.1.1
theorem annealref1_Pack.ok : FcOk Try.prog 43 annealref1_Pack.c := old_ok Try.func43 (by kernel_rfl) (by kernel_rfl) (by decide) (fun _ => giveR_ok (by decide) _) fun n x y h m w => (annealref1_Pack.calls n x.1.1 x.2.1.1 x.2.2.1.1 x.2.2.2.1.1 x.2.2.2.2.1.1 x.2.2.2.2.2.1.1 y.1 y.2.1 y.2.2.1 y.2.2.2.1 y.2.2.2.2.1 y.2.2.2.2.2 w h).mono fun e w' he => ⟨he.1, he.2⟩
noncomputable def annealref1_rounded.cls : Cls := [(73, annealref1_Len.c), (43, annealref1_Pack.c)]
theorem annealref1_rounded.clsOk : ClsOk Try.prog annealref1_rounded.cls := ClsOk.cons annealref1_Len.ok (ClsOk.cons annealref1_Pack.ok (ClsOk.nil))
noncomputable def annealref1_rounded.K (v : SV) : Option (Int × Bool × Bool × Bool × Bool × Bool) := (takeR [hI .u32, .agg [.b, .b, .b, .b, .b]] v).map (fun z => (z.1.1, z.2.1.1, z.2.1.2.1, z.2.1.2.2.1, z.2.1.2.2.2.1, z.2.1.2.2.2.2.1))
noncomputable def annealref1_rounded.cuts : List Nat := []
noncomputable def annealref1_rounded.f (k : Nat) (a0 : Int) (a1 : Int) (a2_0 : Bool) (a2_1 : List Int) : Option (Int × Bool × Bool × Bool × Bool × Bool) := evF Try.prog annealref1_rounded.cls Try.f70 annealref1_rounded.cuts k [.one (.i .i64 (.x a0)), .one (.i .i64 (.x a1)), .agg [cb a2_0, .a .u64 a2_1 10]] annealref1_rounded.K
noncomputable def annealref1_rounded.c : Fc := mkFc [hI .i64, hI .i64, .agg [.b, .a .u64 10]] [hI .u32, .agg [.b, .b, .b, .b, .b]] (T := Int × Bool × Bool × Bool × Bool × Bool) (fun y => ((y.1, ()), (y.2.1, y.2.2.1, y.2.2.2.1, y.2.2.2.2.1, y.2.2.2.2.2, ()), ())) fun n x => annealref1_rounded.f n x.1.1 x.2.1.1 x.2.2.1.1 x.2.2.1.2.1
theorem annealref1_rounded.ok : FcOk Try.prog 70 annealref1_rounded.c := mkOk annealref1_rounded.clsOk Try.func70 (by kernel_rfl) (by kernel_rfl) (by decide) (fun _ => rfl) (fun _ _ => rfl)
noncomputable def annealref1_total.cls : Cls := [(68, annealref1_plus.c), (69, annealref1_nought.c), (22, annealref1_Zero.c), (70, annealref1_rounded.c)]
theorem annealref1_total.clsOk : ClsOk Try.prog annealref1_total.cls := ClsOk.cons annealref1_plus.ok (ClsOk.cons annealref1_nought.ok (ClsOk.cons annealref1_Zero.ok (ClsOk.cons annealref1_rounded.ok (ClsOk.nil))))
noncomputable def annealref1_total.K (v : SV) : Option (Int × Bool × Bool × Bool × Bool × Bool) := (takeR [hI .u32, .agg [.b, .b, .b, .b, .b]] v).map (fun z => (z.1.1, z.2.1.1, z.2.1.2.1, z.2.1.2.2.1, z.2.1.2.2.2.1, z.2.1.2.2.2.2.1))
noncomputable def annealref1_total.cuts : List Nat := []
noncomputable def annealref1_total.f (k : Nat) (a0 : Int) (a1 : Int) (a2_0 : Bool) (a2_1 : List Int) (a3_0 : Bool) (a3_1 : List Int) : Option (Int × Bool × Bool × Bool × Bool × Bool) := evF Try.prog annealref1_total.cls Try.f38 annealref1_total.cuts k [.one (.i .i64 (.x a0)), .one (.i .i64 (.x a1)), .agg [cb a2_0, .a .u64 a2_1 10], .agg [cb a3_0, .a .u64 a3_1 10]] annealref1_total.K
noncomputable def annealref1_total.c : Fc := mkFc [hI .i64, hI .i64, .agg [.b, .a .u64 10], .agg [.b, .a .u64 10]] [hI .u32, .agg [.b, .b, .b, .b, .b]] (T := Int × Bool × Bool × Bool × Bool × Bool) (fun y => ((y.1, ()), (y.2.1, y.2.2.1, y.2.2.2.1, y.2.2.2.2.1, y.2.2.2.2.2, ()), ())) fun n x => annealref1_total.f n x.1.1 x.2.1.1 x.2.2.1.1 x.2.2.1.2.1 x.2.2.2.1.1 x.2.2.2.1.2.1
theorem annealref1_total.ok : FcOk Try.prog 38 annealref1_total.c := mkOk annealref1_total.clsOk Try.func38 (by kernel_rfl) (by kernel_rfl) (by decide) (fun _ => rfl) (fun _ _ => rfl)
noncomputable def annealref1_Add.cls : Cls := [(33, annealref1_nans.c), (34, annealref1_Nan.c), (35, annealref1_inf.c), (36, annealref1_neg.c), (24, annealref1_Mask.c), (37, annealref1_zero.c), (40, annealref1_Unpack.c), (39, annealref1_spread.c), (38, annealref1_total.c)]
theorem annealref1_Add.clsOk : ClsOk Try.prog annealref1_Add.cls := ClsOk.cons annealref1_nans.ok (ClsOk.cons annealref1_Nan.ok (ClsOk.cons annealref1_inf.ok (ClsOk.cons annealref1_neg.ok (ClsOk.cons annealref1_Mask.ok (ClsOk.cons annealref1_zero.ok (ClsOk.cons annealref1_Unpack.ok (ClsOk.cons annealref1_spread.ok (ClsOk.cons annealref1_total.ok (ClsOk.nil)))))))))
noncomputable def annealref1_Add.K (v : SV) : Option (Int × Bool × Bool × Bool × Bool × Bool) := (takeR [hI .u32, .agg [.b, .b, .b, .b, .b]] v).map (fun z => (z.1.1, z.2.1.1, z.2.1.2.1, z.2.1.2.2.1, z.2.1.2.2.2.1, z.2.1.2.2.2.2.1))
noncomputable def annealref1_Add.cuts : List Nat := [6, 12]
noncomputable def annealref1_Add.f (k : Nat) (a0 : Int) (a1 : Int) (a2 : Int) (a3 : Int) : Option (Int × Bool × Bool × Bool × Bool × Bool) := evF Try.prog annealref1_Add.cls Try.f11 annealref1_Add.cuts k [.one (.i .i64 (.x a0)), .one (.i .i64 (.x a1)), .one (.i .u32 (.x a2)), .one (.i .u32 (.x a3))] annealref1_Add.K
noncomputable def annealref1_Add.c : Fc := mkFc [hI .i64, hI .i64, hI .u32, hI .u32] [hI .u32, .agg [.b, .b, .b, .b, .b]] (T := Int × Bool × Bool × Bool × Bool × Bool) (fun y => ((y.1, ()), (y.2.1, y.2.2.1, y.2.2.2.1, y.2.2.2.2.1, y.2.2.2.2.2, ()), ())) fun n x => annealref1_Add.f n x.1.1 x.2.1.1 x.2.2.1.1 x.2.2.2.1.1
theorem annealref1_Add.ok : FcOk Try.prog 11 annealref1_Add.c := mkOk annealref1_Add.clsOk Try.func11 (by kernel_rfl) (by kernel_rfl) (by decide) (fun _ => rfl) (fun _ _ => rfl)
noncomputable def annealref1_Inf.c : Fc := mkFc [hI .i64, hB] [hI .u32] (T := Int) (fun y => ((y, ()), ())) fun n x => annealref1_Inf.f x.1.1 x.2.1.1
theorem annealref1_Inf.ok : FcOk Try.prog 42 annealref1_Inf.c := old_ok Try.func42 (by kernel_rfl) (by kernel_rfl) (by decide) (fun _ => giveR_ok (by decide) _) fun n x y h m w => (annealref1_Inf.calls x.1.1 x.2.1.1 y w h).mono fun e w' he => ⟨he.1, he.2.below⟩
noncomputable def annealref1_Fma.cls : Cls := [(37, annealref1_zero.c), (35, annealref1_inf.c), (33, annealref1_nans.c), (34, annealref1_Nan.c), (36, annealref1_neg.c), (42, annealref1_Inf.c), (24, annealref1_Mask.c), (22, annealref1_Zero.c), (40, annealref1_Unpack.c), (39, annealref1_spread.c), (38, annealref1_total.c)]
theorem annealref1_Fma.clsOk : ClsOk Try.prog annealref1_Fma.cls := ClsOk.cons annealref1_zero.ok (ClsOk.cons annealref1_inf.ok (ClsOk.cons annealref1_nans.ok (ClsOk.cons annealref1_Nan.ok (ClsOk.cons annealref1_neg.ok (ClsOk.cons annealref1_Inf.ok (ClsOk.cons annealref1_Mask.ok (ClsOk.cons annealref1_Zero.ok (ClsOk.cons annealref1_Unpack.ok (ClsOk.cons annealref1_spread.ok (ClsOk.cons annealref1_total.ok (ClsOk.nil)))))))))))
noncomputable def annealref1_Fma.K (v : SV) : Option (Int × Bool × Bool × Bool × Bool × Bool) := (takeR [hI .u32, .agg [.b, .b, .b, .b, .b]] v).map (fun z => (z.1.1, z.2.1.1, z.2.1.2.1, z.2.1.2.2.1, z.2.1.2.2.2.1, z.2.1.2.2.2.2.1))
noncomputable def annealref1_Fma.cuts : List Nat := [2, 5, 14]
noncomputable def annealref1_Fma.f (k : Nat) (a0 : Int) (a1 : Int) (a2 : Int) (a3 : Int) (a4 : Int) : Option (Int × Bool × Bool × Bool × Bool × Bool) := evF Try.prog annealref1_Fma.cls Try.f19 annealref1_Fma.cuts k [.one (.i .i64 (.x a0)), .one (.i .i64 (.x a1)), .one (.i .u32 (.x a2)), .one (.i .u32 (.x a3)), .one (.i .u32 (.x a4))] annealref1_Fma.K
noncomputable def annealref1_Fma.c : Fc := mkFc [hI .i64, hI .i64, hI .u32, hI .u32, hI .u32] [hI .u32, .agg [.b, .b, .b, .b, .b]] (T := Int × Bool × Bool × Bool × Bool × Bool) (fun y => ((y.1, ()), (y.2.1, y.2.2.1, y.2.2.2.1, y.2.2.2.2.1, y.2.2.2.2.2, ()), ())) fun n x => annealref1_Fma.f n x.1.1 x.2.1.1 x.2.2.1.1 x.2.2.2.1.1 x.2.2.2.2.1.1
theorem annealref1_Fma.ok : FcOk Try.prog 19 annealref1_Fma.c := mkOk annealref1_Fma.clsOk Try.func19 (by kernel_rfl) (by kernel_rfl) (by decide) (fun _ => rfl) (fun _ _ => rfl)
noncomputable def annealref1_Minus.c : Fc := mkFc [hI .i64, hI .u32] [hI .u32] (T := Int) (fun y => ((y, ()), ())) fun n x => annealref1_Minus.f n x.1.1 x.2.1.1
theorem annealref1_Minus.ok : FcOk Try.prog 17 annealref1_Minus.c := old_ok Try.func17 (by kernel_rfl) (by kernel_rfl) (by decide) (fun _ => giveR_ok (by decide) _) fun n x y h m w => (annealref1_Minus.calls n x.1.1 x.2.1.1 y w h).mono fun e w' he => ⟨he.1, he.2⟩
noncomputable def annealref1_Sub.cls : Cls := [(17, annealref1_Minus.c), (11, annealref1_Add.c)]
theorem annealref1_Sub.clsOk : ClsOk Try.prog annealref1_Sub.cls := ClsOk.cons annealref1_Minus.ok (ClsOk.cons annealref1_Add.ok (ClsOk.nil))
noncomputable def annealref1_Sub.K (v : SV) : Option (Int × Bool × Bool × Bool × Bool × Bool) := (takeR [hI .u32, .agg [.b, .b, .b, .b, .b]] v).map (fun z => (z.1.1, z.2.1.1, z.2.1.2.1, z.2.1.2.2.1, z.2.1.2.2.2.1, z.2.1.2.2.2.2.1))
noncomputable def annealref1_Sub.cuts : List Nat := []
noncomputable def annealref1_Sub.f (k : Nat) (a0 : Int) (a1 : Int) (a2 : Int) (a3 : Int) : Option (Int × Bool × Bool × Bool × Bool × Bool) := evF Try.prog annealref1_Sub.cls Try.f13 annealref1_Sub.cuts k [.one (.i .i64 (.x a0)), .one (.i .i64 (.x a1)), .one (.i .u32 (.x a2)), .one (.i .u32 (.x a3))] annealref1_Sub.K
noncomputable def annealref1_Sub.c : Fc := mkFc [hI .i64, hI .i64, hI .u32, hI .u32] [hI .u32, .agg [.b, .b, .b, .b, .b]] (T := Int × Bool × Bool × Bool × Bool × Bool) (fun y => ((y.1, ()), (y.2.1, y.2.2.1, y.2.2.2.1, y.2.2.2.2.1, y.2.2.2.2.2, ()), ())) fun n x => annealref1_Sub.f n x.1.1 x.2.1.1 x.2.2.1.1 x.2.2.2.1.1
theorem annealref1_Sub.ok : FcOk Try.prog 13 annealref1_Sub.c := mkOk annealref1_Sub.clsOk Try.func13 (by kernel_rfl) (by kernel_rfl) (by decide) (fun _ => rfl) (fun _ _ => rfl)
end Go.Proofs.Ytejkemahdincjaa.E

-- Printed by a program of this session's out of Lean's print of the translation; Lean checks it.
namespace Go.Proofs.Ytejkemahdincjaa.P
open Go.RowKit Go.Proofs.YtejkemahdincjaaW.PrintWords Go.Proofs.YtejkemahdincjaaW.PrintLast Go.Proofs.YtejkemahdincjaaW.PrintMore
attribute [local go_sem] max2_int min2_int max_two min_two max_three min_three max_four min_four

-- EVALUATED
/-! ### annealref1_Add: function 11 -/
noncomputable def annealref1_Add.f (k : Nat) (a0 : Int) (a1 : Int) (a2 : Int) (a3 : Int) : Option (Int × Bool × Bool × Bool × Bool × Bool) := Go.Proofs.Ytejkemahdincjaa.E.annealref1_Add.f k a0 a1 a2 a3
theorem annealref1_Add.calls (k : Nat) (a0 : Int) (a1 : Int) (a2 : Int) (a3 : Int) (r1 : Int) (r2 : Bool) (r3 : Bool) (r4 : Bool) (r5 : Bool) (r6 : Bool) (w : World) (h : annealref1_Add.f k a0 a1 a2 a3 = some (r1, r2, r3, r4, r5, r6)) :
  Calls Try.prog 11 #[.int .i64 a0, .int .i64 a1, .int .u32 a2, .int .u32 a3] w fun e w' => e = .returned (.tuple #[.int .u32 r1, .agg #[.bool r2, .bool r3, .bool r4, .bool r5, .bool r6]]) ∧ Below w.heap.size w w' :=
 Go.Proofs.Ytejkemahdincjaa.Ek.calls_of Go.Proofs.Ytejkemahdincjaa.E.annealref1_Add.ok k ((a0, ()), (a1, ()), (a2, ()), (a3, ()), ()) (r1, r2, r3, r4, r5, r6) rfl h w


theorem eqA29 (d : Nat) (w : World) (x0 y0 : Bool) (x1 y1 : Bool) (x2 y2 : Bool) (x3 y3 : Bool) (x4 y4 : Bool) :
  (Op.equalIn (d + 2) 29 (.agg #[.bool x0, .bool x1, .bool x2, .bool x3, .bool x4]) (.agg #[.bool y0, .bool y1, .bool y2, .bool y3, .bool y4])).run Try.prog w = .ok (x0 == y0 && (x1 == y1 && (x2 == y2 && (x3 == y3 && (x4 == y4))))) w := by
 refine eqA_of Try.underlying29 (by kernel_rfl) ?_
 refine eqf_cons (by rfl) (by go_simp; rfl) (by go_simp; rfl) (by go_simp) ?_
 refine eqf_cons (by rfl) (by go_simp; rfl) (by go_simp; rfl) (by go_simp) ?_
 refine eqf_cons (by rfl) (by go_simp; rfl) (by go_simp; rfl) (by go_simp) ?_
 refine eqf_cons (by rfl) (by go_simp; rfl) (by go_simp; rfl) (by go_simp) ?_
 exact eqf_last (by rfl) (by go_simp; rfl) (by go_simp; rfl) (by go_simp)

-- NEED 1
/-! ### round_Pack: function 32 -/
mutual
def round_Pack.j0 : Nat → Int → Int → Bool → Int → Int → Bool → Bool → Option (Int × Bool × Bool × Bool × Bool × Bool)
 |0, _, _, _, _, _, _, _ => none
 |k + 1, x0, x1, x2, x3, x4, x5, x29 => if x29 = true then ((format_Zero.f x0 x2).bind fun t198 => (some (t198, false, false, false, false, false))) else ((format_Widths.f x0).bind fun bt199 => ((round_Unit.f k x0 x3 x4).bind fun t201 => ((round_Units.f k x4 (wrap64 (t201 - x3)) x5).bind fun bt202 => ((round_Up.f x1 x2 bt202.1 bt202.2).bind fun t204 => (if t204 = true then (round_Pack.j1 k x0 x1 x2 x3 x4 bt199.2 t201 (IntKind.u64.wrap (bt202.1 + 1)) bt202.2) else (round_Pack.j1 k x0 x1 x2 x3 x4 bt199.2 t201 bt202.1 bt202.2))))))
def round_Pack.j1 : Nat → Int → Int → Bool → Int → Int → Int → Int → Int → Int → Option (Int × Bool × Bool × Bool × Bool × Bool)
 |0, _, _, _, _, _, _, _, _, _ => none
 |k + 1, x0, x1, x2, x3, x4, x15, x16, x17, x18 => if 0 ≤ (IntKind.u64.wrap (wrap64 (x15 + 1))) then (if (shr .u64 x17 (IntKind.u64.wrap (wrap64 (x15 + 1)))) = 0 then (round_Pack.j2 k x0 x1 x2 x3 x4 x15 x16 x17 x18) else (round_Pack.j2 k x0 x1 x2 x3 x4 x15 (wrap64 (x16 + 1)) (x17 / 2) x18)) else (none)
def round_Pack.j2 : Nat → Int → Int → Bool → Int → Int → Int → Int → Int → Int → Option (Int × Bool × Bool × Bool × Bool × Bool)
 |0, _, _, _, _, _, _, _, _, _ => none
 |k + 1, x0, x1, x2, x3, x4, x15, x16, x17, x18 => (format_Least.f x0).bind fun t205 => (if 0 ≤ (IntKind.u64.wrap (x15)) then (if (shr .u64 x17 (IntKind.u64.wrap (x15))) = 0 then (round_Pack.j3 k x0 x1 x2 x3 x4 x15 x17 x18 0) else (round_Pack.j3 k x0 x1 x2 x3 x4 x15 x17 x18 (wrap64 ((wrap64 ((wrap64 (x16 + x15)) - t205)) + 1)))) else (none))
def round_Pack.j3 : Nat → Int → Int → Bool → Int → Int → Int → Int → Int → Int → Option (Int × Bool × Bool × Bool × Bool × Bool)
 |0, _, _, _, _, _, _, _, _, _ => none
 |k + 1, x0, x1, x2, x3, x4, x15, x17, x18, x19 => (format_Top.f x0).bind fun t206 => (if x19 ≥ t206 then ((round_beyond.f x0 x1 x2).bind fun bt207 => (some (bt207.1, bt207.2.1, bt207.2.2.1, bt207.2.2.2.1, bt207.2.2.2.2.1, bt207.2.2.2.2.2))) else (if x18 = 0 then ((bits_Cut.f x17 x15).bind fun t214 => ((format_Join.f x0 x2 x19 ((t214) % 4294967296)).bind fun t215 => (some (t215, false, false, false, false, (x18 != 0))))) else (if x4 = 0 then ((bits_Cut.f x17 x15).bind fun t216 => ((format_Join.f x0 x2 x19 ((t216) % 4294967296)).bind fun t217 => (some (t217, false, false, false, true, (x18 != 0))))) else ((bits_Len.f k x4).bind fun t218 => ((format_Least.f x0).bind fun t219 => ((bits_Cut.f x17 x15).bind fun t220 => ((format_Join.f x0 x2 x19 ((t220) % 4294967296)).bind fun t221 => (some (t221, false, false, false, decide ((wrap64 ((wrap64 (x3 + t218)) - 1)) < t219), (x18 != 0))))))))))
end
def round_Pack.f (k : Nat) (a0 : Int) (a1 : Int) (a2 : Bool) (a3 : Int) (a4 : Int) (a5 : Bool) : Option (Int × Bool × Bool × Bool × Bool × Bool) := if a4 = 0 then (round_Pack.j0 k a0 a1 a2 (mn (mx a3 (-10000)) 10000) a4 a5 (!a5)) else (round_Pack.j0 k a0 a1 a2 (mn (mx a3 (-10000)) 10000) a4 a5 false)
theorem round_Pack.mono_l : ∀ k, (∀ y0 y1 y2 y3 y4 y5 y6, LeO (round_Pack.j0 k y0 y1 y2 y3 y4 y5 y6) (round_Pack.j0 (k + 1) y0 y1 y2 y3 y4 y5 y6)) ∧ (∀ y0 y1 y2 y3 y4 y5 y6 y7 y8, LeO (round_Pack.j1 k y0 y1 y2 y3 y4 y5 y6 y7 y8) (round_Pack.j1 (k + 1) y0 y1 y2 y3 y4 y5 y6 y7 y8)) ∧ (∀ y0 y1 y2 y3 y4 y5 y6 y7 y8, LeO (round_Pack.j2 k y0 y1 y2 y3 y4 y5 y6 y7 y8) (round_Pack.j2 (k + 1) y0 y1 y2 y3 y4 y5 y6 y7 y8)) ∧ (∀ y0 y1 y2 y3 y4 y5 y6 y7 y8, LeO (round_Pack.j3 k y0 y1 y2 y3 y4 y5 y6 y7 y8) (round_Pack.j3 (k + 1) y0 y1 y2 y3 y4 y5 y6 y7 y8))
 |0 => ⟨fun _ _ _ _ _ _ _ r h => by simp [round_Pack.j0] at h, fun _ _ _ _ _ _ _ _ _ r h => by simp [round_Pack.j1] at h, fun _ _ _ _ _ _ _ _ _ r h => by simp [round_Pack.j2] at h, fun _ _ _ _ _ _ _ _ _ r h => by simp [round_Pack.j3] at h⟩
 |k + 1 => by
  obtain ⟨ih0, ih1, ih2, ih3⟩ := round_Pack.mono_l k
  refine ⟨?_, ?_, ?_, ?_⟩
  ·intro y0 y1 y2 y3 y4 y5 y6
   unfold round_Pack.j0
   repeat' first
   |(with_reducible exact ih0 _ _ _ _ _ _ _)
   |(with_reducible exact ih1 _ _ _ _ _ _ _ _ _)
   |(with_reducible exact ih2 _ _ _ _ _ _ _ _ _)
   |(with_reducible exact ih3 _ _ _ _ _ _ _ _ _)
   |(with_reducible exact bits_Len.mono _ _)
   |(with_reducible exact round_Unit.mono _ _ _ _)
   |(with_reducible exact round_Units.mono _ _ _ _)
   |(with_reducible exact LeO.refl _)
   |(with_reducible exact LeO.none _)
   |(with_reducible refine LeO.ite ?_ ?_)
   |(with_reducible refine LeO.bind ?_ (fun _ => ?_))
   |exact ih0 _ _ _ _ _ _ _
   |exact ih1 _ _ _ _ _ _ _ _ _
   |exact ih2 _ _ _ _ _ _ _ _ _
   |exact ih3 _ _ _ _ _ _ _ _ _
   |exact bits_Len.mono _ _
   |exact round_Unit.mono _ _ _ _
   |exact round_Units.mono _ _ _ _
   |exact LeO.none _
   |refine LeO.ite ?_ ?_
   |refine LeO.bind ?_ (fun _ => ?_)
  ·intro y0 y1 y2 y3 y4 y5 y6 y7 y8
   unfold round_Pack.j1
   repeat' first
   |(with_reducible exact ih0 _ _ _ _ _ _ _)
   |(with_reducible exact ih1 _ _ _ _ _ _ _ _ _)
   |(with_reducible exact ih2 _ _ _ _ _ _ _ _ _)
   |(with_reducible exact ih3 _ _ _ _ _ _ _ _ _)
   |(with_reducible exact bits_Len.mono _ _)
   |(with_reducible exact round_Unit.mono _ _ _ _)
   |(with_reducible exact round_Units.mono _ _ _ _)
   |(with_reducible exact LeO.refl _)
   |(with_reducible exact LeO.none _)
   |(with_reducible refine LeO.ite ?_ ?_)
   |(with_reducible refine LeO.bind ?_ (fun _ => ?_))
   |exact ih0 _ _ _ _ _ _ _
   |exact ih1 _ _ _ _ _ _ _ _ _
   |exact ih2 _ _ _ _ _ _ _ _ _
   |exact ih3 _ _ _ _ _ _ _ _ _
   |exact bits_Len.mono _ _
   |exact round_Unit.mono _ _ _ _
   |exact round_Units.mono _ _ _ _
   |exact LeO.none _
   |refine LeO.ite ?_ ?_
   |refine LeO.bind ?_ (fun _ => ?_)
  ·intro y0 y1 y2 y3 y4 y5 y6 y7 y8
   unfold round_Pack.j2
   repeat' first
   |(with_reducible exact ih0 _ _ _ _ _ _ _)
   |(with_reducible exact ih1 _ _ _ _ _ _ _ _ _)
   |(with_reducible exact ih2 _ _ _ _ _ _ _ _ _)
   |(with_reducible exact ih3 _ _ _ _ _ _ _ _ _)
   |(with_reducible exact bits_Len.mono _ _)
   |(with_reducible exact round_Unit.mono _ _ _ _)
   |(with_reducible exact round_Units.mono _ _ _ _)
   |(with_reducible exact LeO.refl _)
   |(with_reducible exact LeO.none _)
   |(with_reducible refine LeO.ite ?_ ?_)
   |(with_reducible refine LeO.bind ?_ (fun _ => ?_))
   |exact ih0 _ _ _ _ _ _ _
   |exact ih1 _ _ _ _ _ _ _ _ _
   |exact ih2 _ _ _ _ _ _ _ _ _
   |exact ih3 _ _ _ _ _ _ _ _ _
   |exact bits_Len.mono _ _
   |exact round_Unit.mono _ _ _ _
   |exact round_Units.mono _ _ _ _
   |exact LeO.none _
   |refine LeO.ite ?_ ?_
   |refine LeO.bind ?_ (fun _ => ?_)
  ·intro y0 y1 y2 y3 y4 y5 y6 y7 y8
   unfold round_Pack.j3
   repeat' first
   |(with_reducible exact ih0 _ _ _ _ _ _ _)
   |(with_reducible exact ih1 _ _ _ _ _ _ _ _ _)
   |(with_reducible exact ih2 _ _ _ _ _ _ _ _ _)
   |(with_reducible exact ih3 _ _ _ _ _ _ _ _ _)
   |(with_reducible exact bits_Len.mono _ _)
   |(with_reducible exact round_Unit.mono _ _ _ _)
   |(with_reducible exact round_Units.mono _ _ _ _)
   |(with_reducible exact LeO.refl _)
   |(with_reducible exact LeO.none _)
   |(with_reducible refine LeO.ite ?_ ?_)
   |(with_reducible refine LeO.bind ?_ (fun _ => ?_))
   |exact ih0 _ _ _ _ _ _ _
   |exact ih1 _ _ _ _ _ _ _ _ _
   |exact ih2 _ _ _ _ _ _ _ _ _
   |exact ih3 _ _ _ _ _ _ _ _ _
   |exact bits_Len.mono _ _
   |exact round_Unit.mono _ _ _ _
   |exact round_Units.mono _ _ _ _
   |exact LeO.none _
   |refine LeO.ite ?_ ?_
   |refine LeO.bind ?_ (fun _ => ?_)
theorem round_Pack.mono : ∀ a0 a1 a2 a3 a4 a5 k, LeO (round_Pack.f k a0 a1 a2 a3 a4 a5) (round_Pack.f (k + 1) a0 a1 a2 a3 a4 a5) := by
 intro a0 a1 a2 a3 a4 a5 k
 obtain ⟨ih0, ih1, ih2, ih3⟩ := round_Pack.mono_l k
 unfold round_Pack.f
 repeat' first
   |(with_reducible exact ih0 _ _ _ _ _ _ _)
   |(with_reducible exact ih1 _ _ _ _ _ _ _ _ _)
   |(with_reducible exact ih2 _ _ _ _ _ _ _ _ _)
   |(with_reducible exact ih3 _ _ _ _ _ _ _ _ _)
   |(with_reducible exact bits_Len.mono _ _)
   |(with_reducible exact round_Unit.mono _ _ _ _)
   |(with_reducible exact round_Units.mono _ _ _ _)
   |(with_reducible exact LeO.refl _)
   |(with_reducible exact LeO.none _)
   |(with_reducible refine LeO.ite ?_ ?_)
   |(with_reducible refine LeO.bind ?_ (fun _ => ?_))
   |exact ih0 _ _ _ _ _ _ _
   |exact ih1 _ _ _ _ _ _ _ _ _
   |exact ih2 _ _ _ _ _ _ _ _ _
   |exact ih3 _ _ _ _ _ _ _ _ _
   |exact bits_Len.mono _ _
   |exact round_Unit.mono _ _ _ _
   |exact round_Units.mono _ _ _ _
   |exact LeO.none _
   |refine LeO.ite ?_ ?_
   |refine LeO.bind ?_ (fun _ => ?_)


-- NEED 2
/-! ### prod_Fma: function 18 -/
mutual
def prod_Fma.j0 : Nat → Int → Int → Int → Int → Int → Bool → Bool → Bool → Option (Int × Bool × Bool × Bool × Bool × Bool)
 |0, _, _, _, _, _, _, _, _ => none
 |k + 1, x0, x1, x2, x3, x4, x16, x17, x18 => if x17 = true then (prod_Fma.j1 k x0 x1 x2 x3 x4 x16 x17 x18 true) else (prod_Fma.j1 k x0 x1 x2 x3 x4 x16 x17 x18 x18)
def prod_Fma.j1 : Nat → Int → Int → Int → Int → Int → Bool → Bool → Bool → Bool → Option (Int × Bool × Bool × Bool × Bool × Bool)
 |0, _, _, _, _, _, _, _, _, _ => none
 |k + 1, x0, x1, x2, x3, x4, x16, x17, x18, x71 => if x71 = true then ((format_Neg.f x0 x4).bind fun t552 => ((sum_Infinite.f k x0 x16 t552 x17 x18).bind fun bt553 => (some (bt553.1, bt553.2.1, bt553.2.2.1, bt553.2.2.2.1, bt553.2.2.2.2.1, bt553.2.2.2.2.2)))) else ((prod_product.f x0 x2 x3).bind fun bt559 => ((sum_Of.f x0 x4).bind fun bt563 => ((sum_Exact.f k bt559.1 bt559.2.1 bt559.2.2.1 bt559.2.2.2 bt563.1 bt563.2.1 bt563.2.2.1 bt563.2.2.2).bind fun bt569 => (if bt569.2.2.1 = 0 then (prod_Fma.j2 k x0 x1 x16 (!bt569.2.2.2) bt563.1 bt563.2.1 bt563.2.2.1 bt563.2.2.2 bt569.1 bt569.2.1 bt569.2.2.1 bt569.2.2.2) else (prod_Fma.j2 k x0 x1 x16 false bt563.1 bt563.2.1 bt563.2.2.1 bt563.2.2.2 bt569.1 bt569.2.1 bt569.2.2.1 bt569.2.2.2)))))
def prod_Fma.j2 : Nat → Int → Int → Bool → Bool → Bool → Int → Int → Bool → Bool → Int → Int → Bool → Option (Int × Bool × Bool × Bool × Bool × Bool)
 |0, _, _, _, _, _, _, _, _, _, _, _, _ => none
 |k + 1, x0, x1, x16, x99, x569000, x569001, x569002, x569003, x574000, x574001, x574002, x574003 => if x99 = true then ((sum_Nought.f x0 x1 x16 x569000).bind fun t574 => (some (t574, false, false, false, false, false))) else ((round_Pack.f k x0 x1 x574000 x574001 x574002 x574003).bind fun bt575 => (some (bt575.1, bt575.2.1, bt575.2.2.1, bt575.2.2.2.1, bt575.2.2.2.2.1, bt575.2.2.2.2.2)))
end
def prod_Fma.f (k : Nat) (a0 : Int) (a1 : Int) (a2 : Int) (a3 : Int) (a4 : Int) : Option (Int × Bool × Bool × Bool × Bool × Bool) := (prod_torn.f k a0 a2 a3).bind fun t528 => ((sum_Nans.f k a0 (([a2, a3, a4] : List Int))).bind fun bt532 => (if bt532.2.2.2.2.2.2 = true then (if bt532.2.1 = true then (some (bt532.1, true, bt532.2.2.1, bt532.2.2.2.1, bt532.2.2.2.2.1, bt532.2.2.2.2.2.1)) else (some (bt532.1, t528, bt532.2.2.1, bt532.2.2.2.1, bt532.2.2.2.2.1, bt532.2.2.2.2.2.1))) else (if t528 = true then ((sum_Bad.f a0).bind fun bt540 => (some (bt540.1, bt540.2.1, bt540.2.2.1, bt540.2.2.2.1, bt540.2.2.2.2.1, bt540.2.2.2.2.2))) else ((format_Neg.f a0 a2).bind fun t546 => ((format_Neg.f a0 a3).bind fun t547 => ((format_IsInf.f k a0 a2).bind fun t548 => (if t548 = true then ((format_IsInf.f k a0 a4).bind fun t549 => (prod_Fma.j0 k a0 a1 a2 a3 a4 (t546 != t547) true t549)) else ((format_IsInf.f k a0 a3).bind fun t550 => ((format_IsInf.f k a0 a4).bind fun t551 => (prod_Fma.j0 k a0 a1 a2 a3 a4 (t546 != t547) t550 t551))))))))))
theorem prod_Fma.mono_l : ∀ k, (∀ y0 y1 y2 y3 y4 y5 y6 y7, LeO (prod_Fma.j0 k y0 y1 y2 y3 y4 y5 y6 y7) (prod_Fma.j0 (k + 1) y0 y1 y2 y3 y4 y5 y6 y7)) ∧ (∀ y0 y1 y2 y3 y4 y5 y6 y7 y8, LeO (prod_Fma.j1 k y0 y1 y2 y3 y4 y5 y6 y7 y8) (prod_Fma.j1 (k + 1) y0 y1 y2 y3 y4 y5 y6 y7 y8)) ∧ (∀ y0 y1 y2 y3 y4 y5 y6 y7 y8 y9 y10 y11, LeO (prod_Fma.j2 k y0 y1 y2 y3 y4 y5 y6 y7 y8 y9 y10 y11) (prod_Fma.j2 (k + 1) y0 y1 y2 y3 y4 y5 y6 y7 y8 y9 y10 y11))
 |0 => ⟨fun _ _ _ _ _ _ _ _ r h => by simp [prod_Fma.j0] at h, fun _ _ _ _ _ _ _ _ _ r h => by simp [prod_Fma.j1] at h, fun _ _ _ _ _ _ _ _ _ _ _ _ r h => by simp [prod_Fma.j2] at h⟩
 |k + 1 => by
  obtain ⟨ih0, ih1, ih2⟩ := prod_Fma.mono_l k
  refine ⟨?_, ?_, ?_⟩
  ·intro y0 y1 y2 y3 y4 y5 y6 y7
   unfold prod_Fma.j0
   repeat' first
   |(with_reducible exact ih0 _ _ _ _ _ _ _ _)
   |(with_reducible exact ih1 _ _ _ _ _ _ _ _ _)
   |(with_reducible exact ih2 _ _ _ _ _ _ _ _ _ _ _ _)
   |(with_reducible exact format_IsInf.mono _ _ _)
   |(with_reducible exact prod_torn.mono _ _ _ _)
   |(with_reducible exact round_Pack.mono _ _ _ _ _ _ _)
   |(with_reducible exact sum_Exact.mono _ _ _ _ _ _ _ _ _)
   |(with_reducible exact sum_Infinite.mono _ _ _ _ _ _)
   |(with_reducible exact sum_Nans.mono _ _ _)
   |(with_reducible exact LeO.refl _)
   |(with_reducible exact LeO.none _)
   |(with_reducible refine LeO.ite ?_ ?_)
   |(with_reducible refine LeO.bind ?_ (fun _ => ?_))
   |exact ih0 _ _ _ _ _ _ _ _
   |exact ih1 _ _ _ _ _ _ _ _ _
   |exact ih2 _ _ _ _ _ _ _ _ _ _ _ _
   |exact format_IsInf.mono _ _ _
   |exact prod_torn.mono _ _ _ _
   |exact round_Pack.mono _ _ _ _ _ _ _
   |exact sum_Exact.mono _ _ _ _ _ _ _ _ _
   |exact sum_Infinite.mono _ _ _ _ _ _
   |exact sum_Nans.mono _ _ _
   |exact LeO.none _
   |refine LeO.ite ?_ ?_
   |refine LeO.bind ?_ (fun _ => ?_)
  ·intro y0 y1 y2 y3 y4 y5 y6 y7 y8
   unfold prod_Fma.j1
   repeat' first
   |(with_reducible exact ih0 _ _ _ _ _ _ _ _)
   |(with_reducible exact ih1 _ _ _ _ _ _ _ _ _)
   |(with_reducible exact ih2 _ _ _ _ _ _ _ _ _ _ _ _)
   |(with_reducible exact format_IsInf.mono _ _ _)
   |(with_reducible exact prod_torn.mono _ _ _ _)
   |(with_reducible exact round_Pack.mono _ _ _ _ _ _ _)
   |(with_reducible exact sum_Exact.mono _ _ _ _ _ _ _ _ _)
   |(with_reducible exact sum_Infinite.mono _ _ _ _ _ _)
   |(with_reducible exact sum_Nans.mono _ _ _)
   |(with_reducible exact LeO.refl _)
   |(with_reducible exact LeO.none _)
   |(with_reducible refine LeO.ite ?_ ?_)
   |(with_reducible refine LeO.bind ?_ (fun _ => ?_))
   |exact ih0 _ _ _ _ _ _ _ _
   |exact ih1 _ _ _ _ _ _ _ _ _
   |exact ih2 _ _ _ _ _ _ _ _ _ _ _ _
   |exact format_IsInf.mono _ _ _
   |exact prod_torn.mono _ _ _ _
   |exact round_Pack.mono _ _ _ _ _ _ _
   |exact sum_Exact.mono _ _ _ _ _ _ _ _ _
   |exact sum_Infinite.mono _ _ _ _ _ _
   |exact sum_Nans.mono _ _ _
   |exact LeO.none _
   |refine LeO.ite ?_ ?_
   |refine LeO.bind ?_ (fun _ => ?_)
  ·intro y0 y1 y2 y3 y4 y5 y6 y7 y8 y9 y10 y11
   unfold prod_Fma.j2
   repeat' first
   |(with_reducible exact ih0 _ _ _ _ _ _ _ _)
   |(with_reducible exact ih1 _ _ _ _ _ _ _ _ _)
   |(with_reducible exact ih2 _ _ _ _ _ _ _ _ _ _ _ _)
   |(with_reducible exact format_IsInf.mono _ _ _)
   |(with_reducible exact prod_torn.mono _ _ _ _)
   |(with_reducible exact round_Pack.mono _ _ _ _ _ _ _)
   |(with_reducible exact sum_Exact.mono _ _ _ _ _ _ _ _ _)
   |(with_reducible exact sum_Infinite.mono _ _ _ _ _ _)
   |(with_reducible exact sum_Nans.mono _ _ _)
   |(with_reducible exact LeO.refl _)
   |(with_reducible exact LeO.none _)
   |(with_reducible refine LeO.ite ?_ ?_)
   |(with_reducible refine LeO.bind ?_ (fun _ => ?_))
   |exact ih0 _ _ _ _ _ _ _ _
   |exact ih1 _ _ _ _ _ _ _ _ _
   |exact ih2 _ _ _ _ _ _ _ _ _ _ _ _
   |exact format_IsInf.mono _ _ _
   |exact prod_torn.mono _ _ _ _
   |exact round_Pack.mono _ _ _ _ _ _ _
   |exact sum_Exact.mono _ _ _ _ _ _ _ _ _
   |exact sum_Infinite.mono _ _ _ _ _ _
   |exact sum_Nans.mono _ _ _
   |exact LeO.none _
   |refine LeO.ite ?_ ?_
   |refine LeO.bind ?_ (fun _ => ?_)
theorem prod_Fma.mono : ∀ a0 a1 a2 a3 a4 k, LeO (prod_Fma.f k a0 a1 a2 a3 a4) (prod_Fma.f (k + 1) a0 a1 a2 a3 a4) := by
 intro a0 a1 a2 a3 a4 k
 obtain ⟨ih0, ih1, ih2⟩ := prod_Fma.mono_l k
 unfold prod_Fma.f
 repeat' first
   |(with_reducible exact ih0 _ _ _ _ _ _ _ _)
   |(with_reducible exact ih1 _ _ _ _ _ _ _ _ _)
   |(with_reducible exact ih2 _ _ _ _ _ _ _ _ _ _ _ _)
   |(with_reducible exact format_IsInf.mono _ _ _)
   |(with_reducible exact prod_torn.mono _ _ _ _)
   |(with_reducible exact round_Pack.mono _ _ _ _ _ _ _)
   |(with_reducible exact sum_Exact.mono _ _ _ _ _ _ _ _ _)
   |(with_reducible exact sum_Infinite.mono _ _ _ _ _ _)
   |(with_reducible exact sum_Nans.mono _ _ _)
   |(with_reducible exact LeO.refl _)
   |(with_reducible exact LeO.none _)
   |(with_reducible refine LeO.ite ?_ ?_)
   |(with_reducible refine LeO.bind ?_ (fun _ => ?_))
   |exact ih0 _ _ _ _ _ _ _ _
   |exact ih1 _ _ _ _ _ _ _ _ _
   |exact ih2 _ _ _ _ _ _ _ _ _ _ _ _
   |exact format_IsInf.mono _ _ _
   |exact prod_torn.mono _ _ _ _
   |exact round_Pack.mono _ _ _ _ _ _ _
   |exact sum_Exact.mono _ _ _ _ _ _ _ _ _
   |exact sum_Infinite.mono _ _ _ _ _ _
   |exact sum_Nans.mono _ _ _
   |exact LeO.none _
   |refine LeO.ite ?_ ?_
   |refine LeO.bind ?_ (fun _ => ?_)

-- NEED 2
/-! ### prod_Mul: function 21 -/
def prod_Mul.j0 : Nat → Int → Int → Int → Int → Bool → Bool → Option (Int × Bool × Bool × Bool × Bool × Bool)
 |0, _, _, _, _, _, _ => none
 |k + 1, x0, x1, x2, x3, x13, x49 => if x49 = true then ((format_Inf.f x0 x13).bind fun t604 => (some (t604, false, false, false, false, false))) else ((prod_product.f x0 x2 x3).bind fun bt605 => ((round_Pack.f k x0 x1 x13 bt605.2.1 bt605.2.2.1 false).bind fun bt610 => (some (bt610.1, bt610.2.1, bt610.2.2.1, bt610.2.2.2.1, bt610.2.2.2.2.1, bt610.2.2.2.2.2))))
def prod_Mul.f (k : Nat) (a0 : Int) (a1 : Int) (a2 : Int) (a3 : Int) : Option (Int × Bool × Bool × Bool × Bool × Bool) := (sum_Nans.f k a0 (([a2, a3] : List Int))).bind fun bt585 => (if bt585.2.2.2.2.2.2 = true then (some (bt585.1, bt585.2.1, bt585.2.2.1, bt585.2.2.2.1, bt585.2.2.2.2.1, bt585.2.2.2.2.2.1)) else ((prod_torn.f k a0 a2 a3).bind fun t593 => (if t593 = true then ((sum_Bad.f a0).bind fun bt594 => (some (bt594.1, bt594.2.1, bt594.2.2.1, bt594.2.2.2.1, bt594.2.2.2.2.1, bt594.2.2.2.2.2))) else ((format_Neg.f a0 a2).bind fun t600 => ((format_Neg.f a0 a3).bind fun t601 => ((format_IsInf.f k a0 a2).bind fun t602 => (if t602 = true then (prod_Mul.j0 k a0 a1 a2 a3 (t600 != t601) true) else ((format_IsInf.f k a0 a3).bind fun t603 => (prod_Mul.j0 k a0 a1 a2 a3 (t600 != t601) t603)))))))))
theorem prod_Mul.mono_l : ∀ k, (∀ y0 y1 y2 y3 y4 y5, LeO (prod_Mul.j0 k y0 y1 y2 y3 y4 y5) (prod_Mul.j0 (k + 1) y0 y1 y2 y3 y4 y5))
 |0 => fun _ _ _ _ _ _ r h => by simp [prod_Mul.j0] at h
 |k + 1 => by
  have ih0 := prod_Mul.mono_l k
  ·intro y0 y1 y2 y3 y4 y5
   unfold prod_Mul.j0
   repeat' first
   |(with_reducible exact ih0 _ _ _ _ _ _)
   |(with_reducible exact format_IsInf.mono _ _ _)
   |(with_reducible exact prod_torn.mono _ _ _ _)
   |(with_reducible exact round_Pack.mono _ _ _ _ _ _ _)
   |(with_reducible exact sum_Nans.mono _ _ _)
   |(with_reducible exact LeO.refl _)
   |(with_reducible exact LeO.none _)
   |(with_reducible refine LeO.ite ?_ ?_)
   |(with_reducible refine LeO.bind ?_ (fun _ => ?_))
   |exact ih0 _ _ _ _ _ _
   |exact format_IsInf.mono _ _ _
   |exact prod_torn.mono _ _ _ _
   |exact round_Pack.mono _ _ _ _ _ _ _
   |exact sum_Nans.mono _ _ _
   |exact LeO.none _
   |refine LeO.ite ?_ ?_
   |refine LeO.bind ?_ (fun _ => ?_)
theorem prod_Mul.mono : ∀ a0 a1 a2 a3 k, LeO (prod_Mul.f k a0 a1 a2 a3) (prod_Mul.f (k + 1) a0 a1 a2 a3) := by
 intro a0 a1 a2 a3 k
 have ih0 := prod_Mul.mono_l k
 unfold prod_Mul.f
 repeat' first
   |(with_reducible exact ih0 _ _ _ _ _ _)
   |(with_reducible exact format_IsInf.mono _ _ _)
   |(with_reducible exact prod_torn.mono _ _ _ _)
   |(with_reducible exact round_Pack.mono _ _ _ _ _ _ _)
   |(with_reducible exact sum_Nans.mono _ _ _)
   |(with_reducible exact LeO.refl _)
   |(with_reducible exact LeO.none _)
   |(with_reducible refine LeO.ite ?_ ?_)
   |(with_reducible refine LeO.bind ?_ (fun _ => ?_))
   |exact ih0 _ _ _ _ _ _
   |exact format_IsInf.mono _ _ _
   |exact prod_torn.mono _ _ _ _
   |exact round_Pack.mono _ _ _ _ _ _ _
   |exact sum_Nans.mono _ _ _
   |exact LeO.none _
   |refine LeO.ite ?_ ?_
   |refine LeO.bind ?_ (fun _ => ?_)

end Go.Proofs.Ytejkemahdincjaa.P

/- Functions' trees, printed by a tool of mine out of the reckoner; Lean's kernel checks each. -/
namespace Go.Proofs.Ytejkemahdincjaa.L
open Go.RowKit Go.Proofs.Ytejkemahdincjaa.P Go.Proofs.Ytejkemahdincjaa.Ek Go.Proofs.YtejkemahdincjaaW.PrintWords Go.Proofs.YtejkemahdincjaaW.PrintLast Go.Proofs.YtejkemahdincjaaW.PrintMore
set_option maxRecDepth 100000
noncomputable def sum_Add.j6 (n0 : Nat) (x0 : Bool) (x1 : Bool) (x2 : Bool) (x3 : Int) (x4 : Int) (x5 : Int) (x6 : Int) (x7 : Bool) (x8 : Bool) (x9 : Bool) (x10 : Bool) (x11 : Bool) := evInJ Try.prog sum_Add.cls Try.f10 sum_Add.cuts [1, 1, 1, 0, 1] [n0] n0 ⟨[(39, (.pv (.one (.b (.q x0))))), (14, (.pv (.one (.b (.q x1))))), (13, (.pv (.one (.b (.q x2))))), (9, (.pv (.one (.p 0 0)))), (3, (.pv (.one (.i .u32 (.x x3))))), (2, (.pv (.one (.i .u32 (.x x4))))), (1, (.pv (.one (.i .i64 (.x x5))))), (0, (.pv (.one (.i .i64 (.x x6)))))], [(0, (29, [(.c (.b (.q x7))), (.c (.b (.q x8))), (.c (.b (.q x9))), (.c (.b (.q x10))), (.c (.b (.q x11)))]))], 1⟩ sum_Add.K
noncomputable def sum_Add.j10 (n0 : Nat) (x0 : Bool) (x1 : Int) (x2 : Int) (x3 : Bool) (x4 : Int) (x5 : Int) (x6 : Bool) (x7 : Bool) (x8 : Int) (x9 : Int) (x10 : Bool) (x11 : Bool) (x12 : Int) (x13 : Int) (x14 : Bool) (x15 : Bool) (x16 : Bool) (x17 : Bool) (x18 : Bool) (x19 : Bool) := evInJ Try.prog sum_Add.cls Try.f10 sum_Add.cuts [1, 1, 1, 1, 1, 1, 0, 1] [n0] n0 ⟨[(68, (.pv (.one (.b (.q x0))))), (17, (.pv (.one (.p 3 0)))), (16, (.pv (.one (.p 2 0)))), (15, (.pv (.one (.p 1 0)))), (9, (.pv (.one (.p 0 0)))), (1, (.pv (.one (.i .i64 (.x x1))))), (0, (.pv (.one (.i .i64 (.x x2)))))], [(3, (52, [(.c (.b (.q x3))), (.c (.i .i64 (.x x4))), (.c (.i .u64 (.x x5))), (.c (.b (.q x6)))])), (2, (52, [(.c (.b (.q x7))), (.c (.i .i64 (.x x8))), (.c (.i .u64 (.x x9))), (.c (.b (.q x10)))])), (1, (52, [(.c (.b (.q x11))), (.c (.i .i64 (.x x12))), (.c (.i .u64 (.x x13))), (.c (.b (.q x14)))])), (0, (29, [(.c (.b (.q x15))), (.c (.b (.q x16))), (.c (.b (.q x17))), (.c (.b (.q x18))), (.c (.b (.q x19)))]))], 4⟩ sum_Add.K
theorem sum_Add.eq (n0 : Nat) (a0 : Int) (a1 : Int) (a2 : Int) (a3 : Int) : sum_Add.f n0 a0 a1 a2 a3 = ((sum_Nans.f n0 a0 [a2, a3]).bind fun t0 => (if Prod.snd (Prod.snd (Prod.snd (Prod.snd (Prod.snd (Prod.snd t0))))) = true then (some ((Prod.fst t0, Prod.fst (Prod.snd t0), Prod.fst (Prod.snd (Prod.snd t0)), Prod.fst (Prod.snd (Prod.snd (Prod.snd t0))), Prod.fst (Prod.snd (Prod.snd (Prod.snd (Prod.snd t0)))), Prod.fst (Prod.snd (Prod.snd (Prod.snd (Prod.snd (Prod.snd t0)))))))) else ((format_IsInf.f n0 a0 a2).bind fun t1 => ((format_IsInf.f n0 a0 a3).bind fun t2 => (if t1 = true then (sum_Add.j6 n0 (true) (t2) (t1) (a3) (a2) (a1) (a0) (false) (false) (false) (false) (false)) else (sum_Add.j6 n0 (t2) (t2) (t1) (a3) (a2) (a1) (a0) (false) (false) (false) (false) (false))))))) := by kernel_rfl
theorem sum_Add.j6_eq (n0 : Nat) (x0 : Bool) (x1 : Bool) (x2 : Bool) (x3 : Int) (x4 : Int) (x5 : Int) (x6 : Int) (x7 : Bool) (x8 : Bool) (x9 : Bool) (x10 : Bool) (x11 : Bool) : sum_Add.j6 n0 x0 x1 x2 x3 x4 x5 x6 x7 x8 x9 x10 x11 = (if x0 = true then ((format_Neg.f x6 x4).bind fun t0 => ((format_Neg.f x6 x3).bind fun t1 => ((sum_Infinite.f n0 x6 t0 t1 x2 x1).bind fun t2 => (some ((Prod.fst t2, Prod.fst (Prod.snd t2), Prod.fst (Prod.snd (Prod.snd t2)), Prod.fst (Prod.snd (Prod.snd (Prod.snd t2))), Prod.fst (Prod.snd (Prod.snd (Prod.snd (Prod.snd t2)))), Prod.snd (Prod.snd (Prod.snd (Prod.snd (Prod.snd t2)))))))))) else ((sum_Of.f x6 x4).bind fun t0 => ((sum_Of.f x6 x3).bind fun t1 => ((Ytejkemahdincjaa.L.sum_Exact.f n0 (Prod.fst t0) (Prod.fst (Prod.snd t0)) (Prod.fst (Prod.snd (Prod.snd t0))) (Prod.snd (Prod.snd (Prod.snd t0))) (Prod.fst t1) (Prod.fst (Prod.snd t1)) (Prod.fst (Prod.snd (Prod.snd t1))) (Prod.snd (Prod.snd (Prod.snd t1)))).bind fun t2 => (if Prod.fst (Prod.snd (Prod.snd t2)) = 0 then (sum_Add.j10 n0 (!(Prod.snd (Prod.snd (Prod.snd t2)))) (x5) (x6) (t2.1) (Prod.fst (Prod.snd t2)) (Prod.fst (Prod.snd (Prod.snd t2))) ((Prod.snd (Prod.snd t2)).2) (t1.1) (Prod.fst (Prod.snd t1)) (Prod.fst (Prod.snd (Prod.snd t1))) ((Prod.snd (Prod.snd t1)).2) (t0.1) (Prod.fst (Prod.snd t0)) (Prod.fst (Prod.snd (Prod.snd t0))) ((Prod.snd (Prod.snd t0)).2) (x7) (x8) (x9) (x10) (x11)) else (sum_Add.j10 n0 (false) (x5) (x6) (t2.1) (Prod.fst (Prod.snd t2)) (Prod.fst (Prod.snd (Prod.snd t2))) ((Prod.snd (Prod.snd t2)).2) (t1.1) (Prod.fst (Prod.snd t1)) (Prod.fst (Prod.snd (Prod.snd t1))) ((Prod.snd (Prod.snd t1)).2) (t0.1) (Prod.fst (Prod.snd t0)) (Prod.fst (Prod.snd (Prod.snd t0))) ((Prod.snd (Prod.snd t0)).2) (x7) (x8) (x9) (x10) (x11))))))) := by kernel_rfl
theorem sum_Add.j10_eq (n0 : Nat) (x0 : Bool) (x1 : Int) (x2 : Int) (x3 : Bool) (x4 : Int) (x5 : Int) (x6 : Bool) (x7 : Bool) (x8 : Int) (x9 : Int) (x10 : Bool) (x11 : Bool) (x12 : Int) (x13 : Int) (x14 : Bool) (x15 : Bool) (x16 : Bool) (x17 : Bool) (x18 : Bool) (x19 : Bool) : sum_Add.j10 n0 x0 x1 x2 x3 x4 x5 x6 x7 x8 x9 x10 x11 x12 x13 x14 x15 x16 x17 x18 x19 = (if x0 = true then ((sum_Nought.f x2 x1 x11 x7).bind fun t0 => (some ((t0, false, false, false, false, false)))) else ((round_Pack.f n0 x2 x1 x3 x4 x5 x6).bind fun t0 => (some ((Prod.fst t0, Prod.fst (Prod.snd t0), Prod.fst (Prod.snd (Prod.snd t0)), Prod.fst (Prod.snd (Prod.snd (Prod.snd t0))), Prod.fst (Prod.snd (Prod.snd (Prod.snd (Prod.snd t0)))), Prod.snd (Prod.snd (Prod.snd (Prod.snd (Prod.snd t0))))))))) := by kernel_rfl
noncomputable def prod_Fma.j10 (n0 : Nat) (x0 : Bool) (x1 : Bool) (x2 : Bool) (x3 : Int) (x4 : Int) (x5 : Int) (x6 : Int) (x7 : Int) (x8 : Bool) (x9 : Bool) (x10 : Bool) (x11 : Bool) (x12 : Bool) := evInJ Try.prog prod_Fma.cls Try.f18 prod_Fma.cuts [1, 1, 1, 1, 1, 1] [n0] n0 ⟨[(18, (.pv (.one (.b (.q x0))))), (17, (.pv (.one (.b (.q x1))))), (16, (.pv (.one (.b (.q x2))))), (11, (.pv (.one (.p 0 0)))), (4, (.pv (.one (.i .u32 (.x x3))))), (3, (.pv (.one (.i .u32 (.x x4))))), (2, (.pv (.one (.i .u32 (.x x5))))), (1, (.pv (.one (.i .i64 (.x x6))))), (0, (.pv (.one (.i .i64 (.x x7)))))], [(0, (29, [(.c (.b (.q x8))), (.c (.b (.q x9))), (.c (.b (.q x10))), (.c (.b (.q x11))), (.c (.b (.q x12)))]))], 1⟩ prod_Fma.K
noncomputable def prod_Fma.j11 (n0 : Nat) (x0 : Bool) (x1 : Bool) (x2 : Bool) (x3 : Bool) (x4 : Int) (x5 : Int) (x6 : Int) (x7 : Int) (x8 : Int) (x9 : Bool) (x10 : Bool) (x11 : Bool) (x12 : Bool) (x13 : Bool) := evInJ Try.prog prod_Fma.cls Try.f18 prod_Fma.cuts [1, 1, 1, 1, 1, 1, 0, 1] [n0] n0 ⟨[(71, (.pv (.one (.b (.q x0))))), (18, (.pv (.one (.b (.q x1))))), (17, (.pv (.one (.b (.q x2))))), (16, (.pv (.one (.b (.q x3))))), (11, (.pv (.one (.p 0 0)))), (4, (.pv (.one (.i .u32 (.x x4))))), (3, (.pv (.one (.i .u32 (.x x5))))), (2, (.pv (.one (.i .u32 (.x x6))))), (1, (.pv (.one (.i .i64 (.x x7))))), (0, (.pv (.one (.i .i64 (.x x8)))))], [(0, (29, [(.c (.b (.q x9))), (.c (.b (.q x10))), (.c (.b (.q x11))), (.c (.b (.q x12))), (.c (.b (.q x13)))]))], 1⟩ prod_Fma.K
noncomputable def prod_Fma.j15 (n0 : Nat) (x0 : Bool) (x1 : Bool) (x2 : Int) (x3 : Int) (x4 : Bool) (x5 : Int) (x6 : Int) (x7 : Bool) (x8 : Bool) (x9 : Int) (x10 : Int) (x11 : Bool) (x12 : Bool) (x13 : Bool) (x14 : Bool) (x15 : Bool) (x16 : Bool) := evInJ Try.prog prod_Fma.cls Try.f18 prod_Fma.cuts [1, 1, 1, 1, 1, 1, 1, 1, 1, 0, 1] [n0] n0 ⟨[(99, (.pv (.one (.b (.q x0))))), (21, (.pv (.one (.p 3 0)))), (20, (.pv (.one (.p 2 0)))), (16, (.pv (.one (.b (.q x1))))), (11, (.pv (.one (.p 0 0)))), (1, (.pv (.one (.i .i64 (.x x2))))), (0, (.pv (.one (.i .i64 (.x x3)))))], [(3, (52, [(.c (.b (.q x4))), (.c (.i .i64 (.x x5))), (.c (.i .u64 (.x x6))), (.c (.b (.q x7)))])), (2, (52, [(.c (.b (.q x8))), (.c (.i .i64 (.x x9))), (.c (.i .u64 (.x x10))), (.c (.b (.q x11)))])), (0, (29, [(.c (.b (.q x12))), (.c (.b (.q x13))), (.c (.b (.q x14))), (.c (.b (.q x15))), (.c (.b (.q x16)))]))], 4⟩ prod_Fma.K
theorem prod_Fma.eq (n0 : Nat) (a0 : Int) (a1 : Int) (a2 : Int) (a3 : Int) (a4 : Int) : prod_Fma.f n0 a0 a1 a2 a3 a4 = ((prod_torn.f n0 a0 a2 a3).bind fun t0 => ((sum_Nans.f n0 a0 [a2, a3, a4]).bind fun t1 => (if Prod.snd (Prod.snd (Prod.snd (Prod.snd (Prod.snd (Prod.snd t1))))) = true then (if Prod.fst (Prod.snd t1) = true then (some ((Prod.fst t1, true, Prod.fst (Prod.snd (Prod.snd t1)), Prod.fst (Prod.snd (Prod.snd (Prod.snd t1))), Prod.fst (Prod.snd (Prod.snd (Prod.snd (Prod.snd t1)))), Prod.fst (Prod.snd (Prod.snd (Prod.snd (Prod.snd (Prod.snd t1)))))))) else (some ((Prod.fst t1, t0, Prod.fst (Prod.snd (Prod.snd t1)), Prod.fst (Prod.snd (Prod.snd (Prod.snd t1))), Prod.fst (Prod.snd (Prod.snd (Prod.snd (Prod.snd t1)))), Prod.fst (Prod.snd (Prod.snd (Prod.snd (Prod.snd (Prod.snd t1))))))))) else (if t0 = true then ((sum_Bad.f a0).bind fun t2 => (some ((Prod.fst t2, Prod.fst (Prod.snd t2), Prod.fst (Prod.snd (Prod.snd t2)), Prod.fst (Prod.snd (Prod.snd (Prod.snd t2))), Prod.fst (Prod.snd (Prod.snd (Prod.snd (Prod.snd t2)))), Prod.snd (Prod.snd (Prod.snd (Prod.snd (Prod.snd t2)))))))) else ((format_Neg.f a0 a2).bind fun t2 => ((format_Neg.f a0 a3).bind fun t3 => ((format_IsInf.f n0 a0 a2).bind fun t4 => (if t4 = true then ((format_IsInf.f n0 a0 a4).bind fun t5 => (prod_Fma.j10 n0 (t5) (true) (!(t2 == t3)) (a4) (a3) (a2) (a1) (a0) (false) (false) (false) (false) (false))) else ((format_IsInf.f n0 a0 a3).bind fun t5 => ((format_IsInf.f n0 a0 a4).bind fun t6 => (prod_Fma.j10 n0 (t6) (t5) (!(t2 == t3)) (a4) (a3) (a2) (a1) (a0) (false) (false) (false) (false) (false)))))))))))) := by kernel_rfl
theorem prod_Fma.j10_eq (n0 : Nat) (x0 : Bool) (x1 : Bool) (x2 : Bool) (x3 : Int) (x4 : Int) (x5 : Int) (x6 : Int) (x7 : Int) (x8 : Bool) (x9 : Bool) (x10 : Bool) (x11 : Bool) (x12 : Bool) : prod_Fma.j10 n0 x0 x1 x2 x3 x4 x5 x6 x7 x8 x9 x10 x11 x12 = (if x1 = true then (prod_Fma.j11 n0 (true) (x0) (x1) (x2) (x3) (x4) (x5) (x6) (x7) (x8) (x9) (x10) (x11) (x12)) else (prod_Fma.j11 n0 (x0) (x0) (x1) (x2) (x3) (x4) (x5) (x6) (x7) (x8) (x9) (x10) (x11) (x12))) := by kernel_rfl
theorem prod_Fma.j11_eq (n0 : Nat) (x0 : Bool) (x1 : Bool) (x2 : Bool) (x3 : Bool) (x4 : Int) (x5 : Int) (x6 : Int) (x7 : Int) (x8 : Int) (x9 : Bool) (x10 : Bool) (x11 : Bool) (x12 : Bool) (x13 : Bool) : prod_Fma.j11 n0 x0 x1 x2 x3 x4 x5 x6 x7 x8 x9 x10 x11 x12 x13 = (if x0 = true then ((format_Neg.f x8 x4).bind fun t0 => ((sum_Infinite.f n0 x8 x3 t0 x2 x1).bind fun t1 => (some ((Prod.fst t1, Prod.fst (Prod.snd t1), Prod.fst (Prod.snd (Prod.snd t1)), Prod.fst (Prod.snd (Prod.snd (Prod.snd t1))), Prod.fst (Prod.snd (Prod.snd (Prod.snd (Prod.snd t1)))), Prod.snd (Prod.snd (Prod.snd (Prod.snd (Prod.snd t1))))))))) else ((prod_product.f x8 x6 x5).bind fun t0 => ((sum_Of.f x8 x4).bind fun t1 => ((Ytejkemahdincjaa.L.sum_Exact.f n0 (Prod.fst t0) (Prod.fst (Prod.snd t0)) (Prod.fst (Prod.snd (Prod.snd t0))) (Prod.snd (Prod.snd (Prod.snd t0))) (Prod.fst t1) (Prod.fst (Prod.snd t1)) (Prod.fst (Prod.snd (Prod.snd t1))) (Prod.snd (Prod.snd (Prod.snd t1)))).bind fun t2 => (if Prod.fst (Prod.snd (Prod.snd t2)) = 0 then (prod_Fma.j15 n0 (!(Prod.snd (Prod.snd (Prod.snd t2)))) (x3) (x7) (x8) (t2.1) (Prod.fst (Prod.snd t2)) (Prod.fst (Prod.snd (Prod.snd t2))) ((Prod.snd (Prod.snd t2)).2) (t1.1) (Prod.fst (Prod.snd t1)) (Prod.fst (Prod.snd (Prod.snd t1))) ((Prod.snd (Prod.snd t1)).2) (x9) (x10) (x11) (x12) (x13)) else (prod_Fma.j15 n0 (false) (x3) (x7) (x8) (t2.1) (Prod.fst (Prod.snd t2)) (Prod.fst (Prod.snd (Prod.snd t2))) ((Prod.snd (Prod.snd t2)).2) (t1.1) (Prod.fst (Prod.snd t1)) (Prod.fst (Prod.snd (Prod.snd t1))) ((Prod.snd (Prod.snd t1)).2) (x9) (x10) (x11) (x12) (x13))))))) := by kernel_rfl
theorem prod_Fma.j15_eq (n0 : Nat) (x0 : Bool) (x1 : Bool) (x2 : Int) (x3 : Int) (x4 : Bool) (x5 : Int) (x6 : Int) (x7 : Bool) (x8 : Bool) (x9 : Int) (x10 : Int) (x11 : Bool) (x12 : Bool) (x13 : Bool) (x14 : Bool) (x15 : Bool) (x16 : Bool) : prod_Fma.j15 n0 x0 x1 x2 x3 x4 x5 x6 x7 x8 x9 x10 x11 x12 x13 x14 x15 x16 = (if x0 = true then ((sum_Nought.f x3 x2 x1 x8).bind fun t0 => (some ((t0, false, false, false, false, false)))) else ((round_Pack.f n0 x3 x2 x4 x5 x6 x7).bind fun t0 => (some ((Prod.fst t0, Prod.fst (Prod.snd t0), Prod.fst (Prod.snd (Prod.snd t0)), Prod.fst (Prod.snd (Prod.snd (Prod.snd t0))), Prod.fst (Prod.snd (Prod.snd (Prod.snd (Prod.snd t0)))), Prod.snd (Prod.snd (Prod.snd (Prod.snd (Prod.snd t0))))))))) := by kernel_rfl
noncomputable def prod_Mul.j8 (n0 : Nat) (x0 : Bool) (x1 : Bool) (x2 : Int) (x3 : Int) (x4 : Int) (x5 : Int) (x6 : Bool) (x7 : Bool) (x8 : Bool) (x9 : Bool) (x10 : Bool) := evInJ Try.prog prod_Mul.cls Try.f21 prod_Mul.cuts [1, 1, 1, 1, 0, 1] [n0] n0 ⟨[(49, (.pv (.one (.b (.q x0))))), (13, (.pv (.one (.b (.q x1))))), (9, (.pv (.one (.p 0 0)))), (3, (.pv (.one (.i .u32 (.x x2))))), (2, (.pv (.one (.i .u32 (.x x3))))), (1, (.pv (.one (.i .i64 (.x x4))))), (0, (.pv (.one (.i .i64 (.x x5)))))], [(0, (29, [(.c (.b (.q x6))), (.c (.b (.q x7))), (.c (.b (.q x8))), (.c (.b (.q x9))), (.c (.b (.q x10)))]))], 1⟩ prod_Mul.K
theorem prod_Mul.eq (n0 : Nat) (a0 : Int) (a1 : Int) (a2 : Int) (a3 : Int) : prod_Mul.f n0 a0 a1 a2 a3 = ((sum_Nans.f n0 a0 [a2, a3]).bind fun t0 => (if Prod.snd (Prod.snd (Prod.snd (Prod.snd (Prod.snd (Prod.snd t0))))) = true then (some ((Prod.fst t0, Prod.fst (Prod.snd t0), Prod.fst (Prod.snd (Prod.snd t0)), Prod.fst (Prod.snd (Prod.snd (Prod.snd t0))), Prod.fst (Prod.snd (Prod.snd (Prod.snd (Prod.snd t0)))), Prod.fst (Prod.snd (Prod.snd (Prod.snd (Prod.snd (Prod.snd t0)))))))) else ((prod_torn.f n0 a0 a2 a3).bind fun t1 => (if t1 = true then ((sum_Bad.f a0).bind fun t2 => (some ((Prod.fst t2, Prod.fst (Prod.snd t2), Prod.fst (Prod.snd (Prod.snd t2)), Prod.fst (Prod.snd (Prod.snd (Prod.snd t2))), Prod.fst (Prod.snd (Prod.snd (Prod.snd (Prod.snd t2)))), Prod.snd (Prod.snd (Prod.snd (Prod.snd (Prod.snd t2)))))))) else ((format_Neg.f a0 a2).bind fun t2 => ((format_Neg.f a0 a3).bind fun t3 => ((format_IsInf.f n0 a0 a2).bind fun t4 => (if t4 = true then (prod_Mul.j8 n0 (true) (!(t2 == t3)) (a3) (a2) (a1) (a0) (false) (false) (false) (false) (false)) else ((format_IsInf.f n0 a0 a3).bind fun t5 => (prod_Mul.j8 n0 (t5) (!(t2 == t3)) (a3) (a2) (a1) (a0) (false) (false) (false) (false) (false))))))))))) := by kernel_rfl
theorem prod_Mul.j8_eq (n0 : Nat) (x0 : Bool) (x1 : Bool) (x2 : Int) (x3 : Int) (x4 : Int) (x5 : Int) (x6 : Bool) (x7 : Bool) (x8 : Bool) (x9 : Bool) (x10 : Bool) : prod_Mul.j8 n0 x0 x1 x2 x3 x4 x5 x6 x7 x8 x9 x10 = (if x0 = true then ((format_Inf.f x5 x1).bind fun t0 => (some ((t0, false, false, false, false, false)))) else ((prod_product.f x5 x3 x2).bind fun t0 => ((round_Pack.f n0 x5 x4 x1 (Prod.fst (Prod.snd t0)) (Prod.fst (Prod.snd (Prod.snd t0))) false).bind fun t1 => (some ((Prod.fst t1, Prod.fst (Prod.snd t1), Prod.fst (Prod.snd (Prod.snd t1)), Prod.fst (Prod.snd (Prod.snd (Prod.snd t1))), Prod.fst (Prod.snd (Prod.snd (Prod.snd (Prod.snd t1)))), Prod.snd (Prod.snd (Prod.snd (Prod.snd (Prod.snd t1)))))))))) := by kernel_rfl
/- Functions' trees, printed by a tool of mine out of the reckoner; Lean's kernel checks each. -/
noncomputable def round_Pack.j3 (n0 : Nat) (x0 : Bool) (x1 : Bool) (x2 : Int) (x3 : Int) (x4 : Bool) (x5 : Int) (x6 : Int) (x7 : Bool) (x8 : Bool) (x9 : Bool) (x10 : Bool) (x11 : Bool) := evInJ Try.prog round_Pack.cls Try.f32 round_Pack.cuts [1, 1, 0, 1] [n0] n0 ⟨[(29, (.pv (.one (.b (.q x0))))), (13, (.pv (.one (.p 0 0)))), (5, (.pv (.one (.b (.q x1))))), (4, (.pv (.one (.i .u64 (.x x2))))), (3, (.pv (.one (.i .i64 (.x x3))))), (2, (.pv (.one (.b (.q x4))))), (1, (.pv (.one (.i .i64 (.x x5))))), (0, (.pv (.one (.i .i64 (.x x6)))))], [(0, (29, [(.c (.b (.q x7))), (.c (.b (.q x8))), (.c (.b (.q x9))), (.c (.b (.q x10))), (.c (.b (.q x11)))]))], 1⟩ round_Pack.K
noncomputable def round_Pack.j9 (n0 : Nat) (x0 : Int) (x1 : Int) (x2 : Int) (x3 : Int) (x4 : Int) (x5 : Int) (x6 : Bool) (x7 : Int) (x8 : Int) (x9 : Bool) (x10 : Bool) (x11 : Bool) (x12 : Bool) (x13 : Bool) := evInJ Try.prog round_Pack.cls Try.f32 round_Pack.cuts [1, 1, 1, 1, 1, 1, 1] [n0] n0 ⟨[(18, (.pv (.one (.i .i64 (.x x0))))), (17, (.pv (.one (.i .u64 (.x x1))))), (16, (.pv (.one (.i .i64 (.x x2))))), (15, (.pv (.one (.i .i64 (.x x3))))), (13, (.pv (.one (.p 0 0)))), (4, (.pv (.one (.i .u64 (.x x4))))), (3, (.pv (.one (.i .i64 (.x x5))))), (2, (.pv (.one (.b (.q x6))))), (1, (.pv (.one (.i .i64 (.x x7))))), (0, (.pv (.one (.i .i64 (.x x8)))))], [(0, (29, [(.c (.b (.q x9))), (.c (.b (.q x10))), (.c (.b (.q x11))), (.c (.b (.q x12))), (.c (.b (.q x13)))]))], 1⟩ round_Pack.K
noncomputable def round_Pack.j11 (n0 : Nat) (x0 : Int) (x1 : Int) (x2 : Int) (x3 : Int) (x4 : Int) (x5 : Int) (x6 : Bool) (x7 : Int) (x8 : Int) (x9 : Bool) (x10 : Bool) (x11 : Bool) (x12 : Bool) (x13 : Bool) := evInJ Try.prog round_Pack.cls Try.f32 round_Pack.cuts [1, 1, 1, 1, 1, 1, 1, 1] [n0] n0 ⟨[(18, (.pv (.one (.i .i64 (.x x0))))), (17, (.pv (.one (.i .u64 (.x x1))))), (16, (.pv (.one (.i .i64 (.x x2))))), (15, (.pv (.one (.i .i64 (.x x3))))), (13, (.pv (.one (.p 0 0)))), (4, (.pv (.one (.i .u64 (.x x4))))), (3, (.pv (.one (.i .i64 (.x x5))))), (2, (.pv (.one (.b (.q x6))))), (1, (.pv (.one (.i .i64 (.x x7))))), (0, (.pv (.one (.i .i64 (.x x8)))))], [(0, (29, [(.c (.b (.q x9))), (.c (.b (.q x10))), (.c (.b (.q x11))), (.c (.b (.q x12))), (.c (.b (.q x13)))]))], 1⟩ round_Pack.K
noncomputable def round_Pack.j14 (n0 : Nat) (x0 : Int) (x1 : Int) (x2 : Int) (x3 : Int) (x4 : Int) (x5 : Int) (x6 : Bool) (x7 : Int) (x8 : Int) (x9 : Bool) (x10 : Bool) (x11 : Bool) (x12 : Bool) (x13 : Bool) := evInJ Try.prog round_Pack.cls Try.f32 round_Pack.cuts [1, 1, 1, 1, 1, 1, 1, 1, 1, 1] [n0] n0 ⟨[(19, (.pv (.one (.i .i64 (.x x0))))), (18, (.pv (.one (.i .i64 (.x x1))))), (17, (.pv (.one (.i .u64 (.x x2))))), (15, (.pv (.one (.i .i64 (.x x3))))), (13, (.pv (.one (.p 0 0)))), (4, (.pv (.one (.i .u64 (.x x4))))), (3, (.pv (.one (.i .i64 (.x x5))))), (2, (.pv (.one (.b (.q x6))))), (1, (.pv (.one (.i .i64 (.x x7))))), (0, (.pv (.one (.i .i64 (.x x8)))))], [(0, (29, [(.c (.b (.q x9))), (.c (.b (.q x10))), (.c (.b (.q x11))), (.c (.b (.q x12))), (.c (.b (.q x13)))]))], 1⟩ round_Pack.K
theorem round_Pack.eq (n0 : Nat) (a0 : Int) (a1 : Int) (a2 : Bool) (a3 : Int) (a4 : Int) (a5 : Bool) : round_Pack.f n0 a0 a1 a2 a3 a4 a5 = (if a4 = 0 then (round_Pack.j3 n0 (!(a5)) (a5) (a4) (mn (mx a3 (-10000)) 10000) (a2) (a1) (a0) (false) (false) (false) (false) (false)) else (round_Pack.j3 n0 (false) (a5) (a4) (mn (mx a3 (-10000)) 10000) (a2) (a1) (a0) (false) (false) (false) (false) (false))) := by kernel_rfl
theorem round_Pack.j3_eq (n0 : Nat) (x0 : Bool) (x1 : Bool) (x2 : Int) (x3 : Int) (x4 : Bool) (x5 : Int) (x6 : Int) (x7 : Bool) (x8 : Bool) (x9 : Bool) (x10 : Bool) (x11 : Bool) : round_Pack.j3 n0 x0 x1 x2 x3 x4 x5 x6 x7 x8 x9 x10 x11 = (if x0 = true then ((format_Zero.f x6 x4).bind fun t0 => (some ((t0, false, false, false, false, false)))) else ((format_Widths.f x6).bind fun t0 => ((round_Unit.f n0 x6 x3 x2).bind fun t1 => ((round_Units.f n0 x2 (wrap64 (t1 - x3)) x1).bind fun t2 => ((round_Up.f x5 x4 (Prod.fst t2) (Prod.snd t2)).bind fun t3 => (if t3 = true then (round_Pack.j9 n0 (Prod.snd t2) (IntKind.wrap IntKind.u64 (Prod.fst t2 + 1)) (t1) (Prod.snd t0) (x2) (x3) (x4) (x5) (x6) (x7) (x8) (x9) (x10) (x11)) else (round_Pack.j9 n0 (Prod.snd t2) (Prod.fst t2) (t1) (Prod.snd t0) (x2) (x3) (x4) (x5) (x6) (x7) (x8) (x9) (x10) (x11)))))))) := by kernel_rfl
theorem round_Pack.j9_eq (n0 : Nat) (x0 : Int) (x1 : Int) (x2 : Int) (x3 : Int) (x4 : Int) (x5 : Int) (x6 : Bool) (x7 : Int) (x8 : Int) (x9 : Bool) (x10 : Bool) (x11 : Bool) (x12 : Bool) (x13 : Bool) : round_Pack.j9 n0 x0 x1 x2 x3 x4 x5 x6 x7 x8 x9 x10 x11 x12 x13 = (if 0 ≤ IntKind.wrap IntKind.u64 (wrap64 (x3 + 1)) then (if shr IntKind.u64 x1 (IntKind.wrap IntKind.u64 (wrap64 (x3 + 1))) = 0 then (round_Pack.j11 n0 (x0) (x1) (x2) (x3) (x4) (x5) (x6) (x7) (x8) (x9) (x10) (x11) (x12) (x13)) else (round_Pack.j11 n0 (x0) (shr IntKind.u64 x1 1) (wrap64 (x2 + 1)) (x3) (x4) (x5) (x6) (x7) (x8) (x9) (x10) (x11) (x12) (x13))) else none) := by kernel_rfl
theorem round_Pack.j11_eq (n0 : Nat) (x0 : Int) (x1 : Int) (x2 : Int) (x3 : Int) (x4 : Int) (x5 : Int) (x6 : Bool) (x7 : Int) (x8 : Int) (x9 : Bool) (x10 : Bool) (x11 : Bool) (x12 : Bool) (x13 : Bool) : round_Pack.j11 n0 x0 x1 x2 x3 x4 x5 x6 x7 x8 x9 x10 x11 x12 x13 = ((format_Least.f x8).bind fun t0 => (if 0 ≤ IntKind.wrap IntKind.u64 x3 then (if shr IntKind.u64 x1 (IntKind.wrap IntKind.u64 x3) = 0 then (round_Pack.j14 n0 (Int.ofNat 0) (x0) (x1) (x3) (x4) (x5) (x6) (x7) (x8) (x9) (x10) (x11) (x12) (x13)) else (round_Pack.j14 n0 (wrap64 (wrap64 (wrap64 (x2 + x3) - t0) + 1)) (x0) (x1) (x3) (x4) (x5) (x6) (x7) (x8) (x9) (x10) (x11) (x12) (x13))) else none)) := by kernel_rfl
theorem round_Pack.j14_eq (n0 : Nat) (x0 : Int) (x1 : Int) (x2 : Int) (x3 : Int) (x4 : Int) (x5 : Int) (x6 : Bool) (x7 : Int) (x8 : Int) (x9 : Bool) (x10 : Bool) (x11 : Bool) (x12 : Bool) (x13 : Bool) : round_Pack.j14 n0 x0 x1 x2 x3 x4 x5 x6 x7 x8 x9 x10 x11 x12 x13 = ((format_Top.f x8).bind fun t0 => (if t0 ≤ x0 then ((Ytejkemahdincjaa.L.round_beyond.f n0 x8 x7 x6).bind fun t1 => (some ((Prod.fst t1, Prod.fst (Prod.snd t1), Prod.fst (Prod.snd (Prod.snd t1)), Prod.fst (Prod.snd (Prod.snd (Prod.snd t1))), Prod.fst (Prod.snd (Prod.snd (Prod.snd (Prod.snd t1)))), Prod.snd (Prod.snd (Prod.snd (Prod.snd (Prod.snd t1)))))))) else (if x1 = 0 then ((bits_Cut.f x2 x3).bind fun t1 => ((format_Join.f x8 x6 x0 (t1 % 4294967296)).bind fun t2 => (some ((t2, false, false, false, false, !x1 == 0))))) else (if x4 = 0 then ((bits_Cut.f x2 x3).bind fun t1 => ((format_Join.f x8 x6 x0 (t1 % 4294967296)).bind fun t2 => (some ((t2, false, false, false, true, !x1 == 0))))) else ((bits_Len.f n0 x4).bind fun t1 => ((format_Least.f x8).bind fun t2 => ((bits_Cut.f x2 x3).bind fun t3 => ((format_Join.f x8 x6 x0 (t3 % 4294967296)).bind fun t4 => (some ((t4, false, false, false, decide (wrap64 (wrap64 (x5 + t1) - 1) < t2), !x1 == 0))))))))))) := by kernel_rfl
noncomputable def annealref1_Mul.j6 (n0 : Nat) (x0 : Bool) (x1 : Bool) (x2 : Int) (x3 : Int) (x4 : Int) (x5 : Int) (x6 : Bool) (x7 : Bool) (x8 : Bool) (x9 : Bool) (x10 : Bool) := evInJ Try.prog annealref1_Mul.cls Try.f16 annealref1_Mul.cuts [1, 1, 1, 0, 1] [n0] n0 ⟨[(56, (.pv (.one (.b (.q x0))))), (12, (.pv (.one (.b (.q x1))))), (9, (.pv (.one (.p 0 0)))), (3, (.pv (.one (.i .u32 (.x x2))))), (2, (.pv (.one (.i .u32 (.x x3))))), (1, (.pv (.one (.i .i64 (.x x4))))), (0, (.pv (.one (.i .i64 (.x x5)))))], [(0, (29, [(.c (.b (.q x6))), (.c (.b (.q x7))), (.c (.b (.q x8))), (.c (.b (.q x9))), (.c (.b (.q x10)))]))], 1⟩ annealref1_Mul.K
noncomputable def annealref1_Mul.j8 (n0 : Nat) (x0 : Bool) (x1 : Bool) (x2 : Int) (x3 : Int) (x4 : Int) (x5 : Int) (x6 : Bool) (x7 : Bool) (x8 : Bool) (x9 : Bool) (x10 : Bool) := evInJ Try.prog annealref1_Mul.cls Try.f16 annealref1_Mul.cuts [1, 1, 1, 1, 0, 1] [n0] n0 ⟨[(67, (.pv (.one (.b (.q x0))))), (12, (.pv (.one (.b (.q x1))))), (9, (.pv (.one (.p 0 0)))), (3, (.pv (.one (.i .u32 (.x x2))))), (2, (.pv (.one (.i .u32 (.x x3))))), (1, (.pv (.one (.i .i64 (.x x4))))), (0, (.pv (.one (.i .i64 (.x x5)))))], [(0, (29, [(.c (.b (.q x6))), (.c (.b (.q x7))), (.c (.b (.q x8))), (.c (.b (.q x9))), (.c (.b (.q x10)))]))], 1⟩ annealref1_Mul.K
theorem annealref1_Mul.eq (n0 : Nat) (a0 : Int) (a1 : Int) (a2 : Int) (a3 : Int) : annealref1_Mul.f n0 a0 a1 a2 a3 = ((annealref1_nans.f n0 a0 [a2, a3]).bind fun t0 => (if Prod.fst t0 = true then ((annealref1_Nan.f a0).bind fun t1 => (some ((t1, Prod.snd t0, false, false, false, false)))) else ((annealref1_neg.f a0 a2).bind fun t1 => ((annealref1_neg.f a0 a3).bind fun t2 => ((annealref1_zero.f n0 a0 a2).bind fun t3 => (if t3 = true then ((annealref1_inf.f n0 a0 a3).bind fun t4 => (if t4 = true then (annealref1_Mul.j6 n0 (true) (!(t1 == t2)) (a3) (a2) (a1) (a0) (false) (false) (false) (false) (false)) else ((annealref1_inf.f n0 a0 a2).bind fun t5 => (if t5 = true then ((annealref1_zero.f n0 a0 a3).bind fun t6 => (annealref1_Mul.j6 n0 (t6) (!(t1 == t2)) (a3) (a2) (a1) (a0) (false) (false) (false) (false) (false))) else (annealref1_Mul.j6 n0 (false) (!(t1 == t2)) (a3) (a2) (a1) (a0) (false) (false) (false) (false) (false)))))) else ((annealref1_inf.f n0 a0 a2).bind fun t4 => (if t4 = true then ((annealref1_zero.f n0 a0 a3).bind fun t5 => (annealref1_Mul.j6 n0 (t5) (!(t1 == t2)) (a3) (a2) (a1) (a0) (false) (false) (false) (false) (false))) else (annealref1_Mul.j6 n0 (false) (!(t1 == t2)) (a3) (a2) (a1) (a0) (false) (false) (false) (false) (false)))))))))) := by kernel_rfl
theorem annealref1_Mul.j6_eq (n0 : Nat) (x0 : Bool) (x1 : Bool) (x2 : Int) (x3 : Int) (x4 : Int) (x5 : Int) (x6 : Bool) (x7 : Bool) (x8 : Bool) (x9 : Bool) (x10 : Bool) : annealref1_Mul.j6 n0 x0 x1 x2 x3 x4 x5 x6 x7 x8 x9 x10 = (if x0 = true then ((annealref1_Nan.f x5).bind fun t0 => (some ((t0, true, false, false, false, false)))) else ((annealref1_inf.f n0 x5 x3).bind fun t0 => (if t0 = true then (annealref1_Mul.j8 n0 (true) (x1) (x2) (x3) (x4) (x5) (x6) (x7) (x8) (x9) (x10)) else ((annealref1_inf.f n0 x5 x2).bind fun t1 => (annealref1_Mul.j8 n0 (t1) (x1) (x2) (x3) (x4) (x5) (x6) (x7) (x8) (x9) (x10)))))) := by kernel_rfl
theorem annealref1_Mul.j8_eq (n0 : Nat) (x0 : Bool) (x1 : Bool) (x2 : Int) (x3 : Int) (x4 : Int) (x5 : Int) (x6 : Bool) (x7 : Bool) (x8 : Bool) (x9 : Bool) (x10 : Bool) : annealref1_Mul.j8 n0 x0 x1 x2 x3 x4 x5 x6 x7 x8 x9 x10 = (if x0 = true then ((annealref1_Inf.f x5 x1).bind fun t0 => (some ((t0, false, false, false, false, false)))) else ((annealref1_Unpack.f n0 x5 x3).bind fun t0 => ((annealref1_Unpack.f n0 x5 x2).bind fun t1 => ((Ytejkemahdincjaa.L.annealref1_Pack.f n0 x5 x4 x1 (wrap64 (Prod.fst (Prod.snd t0) + Prod.fst (Prod.snd t1))) (IntKind.wrap IntKind.u64 (Prod.snd (Prod.snd t0) * Prod.snd (Prod.snd t1))) false).bind fun t2 => (some ((Prod.fst t2, Prod.fst (Prod.snd t2), Prod.fst (Prod.snd (Prod.snd t2)), Prod.fst (Prod.snd (Prod.snd (Prod.snd t2))), Prod.fst (Prod.snd (Prod.snd (Prod.snd (Prod.snd t2)))), Prod.snd (Prod.snd (Prod.snd (Prod.snd (Prod.snd t2))))))))))) := by kernel_rfl
end Go.Proofs.Ytejkemahdincjaa.L

-- Printed by a program of this session's out of Lean's print of the translation; Lean checks it.
namespace Go.Proofs.Ytejkemahdincjaa.P
open Go.RowKit Go.Proofs.YtejkemahdincjaaW.PrintWords Go.Proofs.YtejkemahdincjaaW.PrintLast Go.Proofs.YtejkemahdincjaaW.PrintMore
attribute [local go_sem] max2_int min2_int max_two min_two max_three min_three max_four min_four

-- NEED 1
/-! ### annealref1_Mul: function 16 -/
mutual
def annealref1_Mul.j0 : Nat → Int → Int → Int → Int → Bool → Bool → Option (Int × Bool × Bool × Bool × Bool × Bool)
 |0, _, _, _, _, _, _ => none
 |k + 1, x0, x1, x2, x3, x12, x56 => if x56 = true then ((annealref1_Nan.f x0).bind fun t649 => (some (t649, true, false, false, false, false))) else ((annealref1_inf.f k x0 x2).bind fun t650 => (if t650 = true then (annealref1_Mul.j1 k x0 x1 x2 x3 x12 true) else ((annealref1_inf.f k x0 x3).bind fun t651 => (annealref1_Mul.j1 k x0 x1 x2 x3 x12 t651))))
def annealref1_Mul.j1 : Nat → Int → Int → Int → Int → Bool → Bool → Option (Int × Bool × Bool × Bool × Bool × Bool)
 |0, _, _, _, _, _, _ => none
 |k + 1, x0, x1, x2, x3, x12, x67 => if x67 = true then ((annealref1_Inf.f x0 x12).bind fun t652 => (some (t652, false, false, false, false, false))) else ((annealref1_Unpack.f k x0 x2).bind fun bt653 => ((annealref1_Unpack.f k x0 x3).bind fun bt656 => ((annealref1_Pack.f k x0 x1 x12 (wrap64 (bt653.2.1 + bt656.2.1)) (IntKind.u64.wrap (bt653.2.2 * bt656.2.2)) false).bind fun bt659 => (some (bt659.1, bt659.2.1, bt659.2.2.1, bt659.2.2.2.1, bt659.2.2.2.2.1, bt659.2.2.2.2.2)))))
end
def annealref1_Mul.f (k : Nat) (a0 : Int) (a1 : Int) (a2 : Int) (a3 : Int) : Option (Int × Bool × Bool × Bool × Bool × Bool) := (annealref1_nans.f k a0 (([a2, a3] : List Int))).bind fun bt638 => (if bt638.1 = true then ((annealref1_Nan.f a0).bind fun t640 => (some (t640, bt638.2, false, false, false, false))) else ((annealref1_neg.f a0 a2).bind fun t641 => ((annealref1_neg.f a0 a3).bind fun t642 => ((annealref1_zero.f k a0 a2).bind fun t643 => (if t643 = true then ((annealref1_inf.f k a0 a3).bind fun t644 => (if t644 = true then (annealref1_Mul.j0 k a0 a1 a2 a3 (t641 != t642) true) else ((annealref1_inf.f k a0 a2).bind fun t645 => (if t645 = true then ((annealref1_zero.f k a0 a3).bind fun t646 => (annealref1_Mul.j0 k a0 a1 a2 a3 (t641 != t642) t646)) else (annealref1_Mul.j0 k a0 a1 a2 a3 (t641 != t642) false))))) else ((annealref1_inf.f k a0 a2).bind fun t647 => (if t647 = true then ((annealref1_zero.f k a0 a3).bind fun t648 => (annealref1_Mul.j0 k a0 a1 a2 a3 (t641 != t642) t648)) else (annealref1_Mul.j0 k a0 a1 a2 a3 (t641 != t642) false))))))))
/- What the reckoner tells of printed functions. -/
set_option maxRecDepth 100000
theorem round_Pack.j3_le {k n : Nat} (hk : k ≤ n) {x0 : Int} {x1 : Int} {x2 : Bool} {x3 : Int} {x4 : Int} {x15 : Int} {x17 : Int} {x18 : Int} {x19 : Int} {ex9 : Bool} {ex10 : Bool} {ex11 : Bool} {ex12 : Bool} {ex13 : Bool} : LeO (round_Pack.j3 k x0 x1 x2 x3 x4 x15 x17 x18 x19) (L.round_Pack.j14 n x19 x18 x17 x15 x4 x3 x2 x1 x0 ex9 ex10 ex11 ex12 ex13) := by
 cases k with
 |zero => rw [round_Pack.j3]; exact LeO.none _
 |succ k =>
 replace hk := Nat.le_of_succ_le hk
 rw [round_Pack.j3, L.round_Pack.j14_eq]
 repeat' first
  |(with_reducible exact LeO.refl _)
  |exact LeO.none _
  |(with_reducible exact fun r h => at_rounds (round_Unit.mono _ _ _) hk h)
  |(with_reducible exact fun r h => at_rounds (round_Units.mono _ _ _) hk h)
  |(with_reducible exact round_beyond.le hk)
  |(with_reducible exact fun r h => at_rounds (bits_Len.mono _) hk h)
  |(with_reducible refine LeO.bind ?_ (fun _ => ?_))
  |(with_reducible refine LeO.ite3 Iff.rfl (fun _ => ?_) (fun _ => ?_))
  |exact fun r h => at_rounds (round_Unit.mono _ _ _) hk h
  |exact fun r h => at_rounds (round_Units.mono _ _ _) hk h
  |exact round_beyond.le hk
  |exact fun r h => at_rounds (bits_Len.mono _) hk h
  |exact LeO.refl _
  |(with_reducible refine LeO.pos (by assumption) ?_)
  |(with_reducible refine LeO.neg (by assumption) ?_)
  |(with_reducible refine LeO.posl (by assumption) ?_)
  |(with_reducible refine LeO.negl (by assumption) ?_)
  |(with_reducible refine LeO.ite3 (by omega) (fun _ => ?_) (fun _ => ?_))
theorem round_Pack.j2_le {k n : Nat} (hk : k ≤ n) {x0 : Int} {x1 : Int} {x2 : Bool} {x3 : Int} {x4 : Int} {x15 : Int} {x16 : Int} {x17 : Int} {x18 : Int} {ex9 : Bool} {ex10 : Bool} {ex11 : Bool} {ex12 : Bool} {ex13 : Bool} : LeO (round_Pack.j2 k x0 x1 x2 x3 x4 x15 x16 x17 x18) (L.round_Pack.j11 n x18 x17 x16 x15 x4 x3 x2 x1 x0 ex9 ex10 ex11 ex12 ex13) := by
 cases k with
 |zero => rw [round_Pack.j2]; exact LeO.none _
 |succ k =>
 replace hk := Nat.le_of_succ_le hk
 rw [round_Pack.j2, L.round_Pack.j11_eq]
 repeat' first
  |(with_reducible exact LeO.refl _)
  |exact LeO.none _
  |(with_reducible exact round_Pack.j3_le hk)
  |(with_reducible exact fun r h => at_rounds (round_Unit.mono _ _ _) hk h)
  |(with_reducible exact fun r h => at_rounds (round_Units.mono _ _ _) hk h)
  |(with_reducible exact round_beyond.le hk)
  |(with_reducible exact fun r h => at_rounds (bits_Len.mono _) hk h)
  |(with_reducible refine LeO.bind ?_ (fun _ => ?_))
  |(with_reducible refine LeO.ite3 Iff.rfl (fun _ => ?_) (fun _ => ?_))
  |exact round_Pack.j3_le hk
  |exact fun r h => at_rounds (round_Unit.mono _ _ _) hk h
  |exact fun r h => at_rounds (round_Units.mono _ _ _) hk h
  |exact round_beyond.le hk
  |exact fun r h => at_rounds (bits_Len.mono _) hk h
  |exact LeO.refl _
  |(with_reducible refine LeO.pos (by assumption) ?_)
  |(with_reducible refine LeO.neg (by assumption) ?_)
  |(with_reducible refine LeO.posl (by assumption) ?_)
  |(with_reducible refine LeO.negl (by assumption) ?_)
  |(with_reducible refine LeO.ite3 (by omega) (fun _ => ?_) (fun _ => ?_))
theorem round_Pack.j1_le {k n : Nat} (hk : k ≤ n) {x0 : Int} {x1 : Int} {x2 : Bool} {x3 : Int} {x4 : Int} {x15 : Int} {x16 : Int} {x17 : Int} {x18 : Int} {ex9 : Bool} {ex10 : Bool} {ex11 : Bool} {ex12 : Bool} {ex13 : Bool} : LeO (round_Pack.j1 k x0 x1 x2 x3 x4 x15 x16 x17 x18) (L.round_Pack.j9 n x18 x17 x16 x15 x4 x3 x2 x1 x0 ex9 ex10 ex11 ex12 ex13) := by
 cases k with
 |zero => rw [round_Pack.j1]; exact LeO.none _
 |succ k =>
 replace hk := Nat.le_of_succ_le hk
 rw [round_Pack.j1, L.round_Pack.j9_eq]
 repeat' first
  |(with_reducible exact LeO.refl _)
  |exact LeO.none _
  |(with_reducible exact round_Pack.j3_le hk)
  |(with_reducible exact round_Pack.j2_le hk)
  |(with_reducible exact fun r h => at_rounds (round_Unit.mono _ _ _) hk h)
  |(with_reducible exact fun r h => at_rounds (round_Units.mono _ _ _) hk h)
  |(with_reducible exact round_beyond.le hk)
  |(with_reducible exact fun r h => at_rounds (bits_Len.mono _) hk h)
  |(with_reducible refine LeO.bind ?_ (fun _ => ?_))
  |(with_reducible refine LeO.ite3 Iff.rfl (fun _ => ?_) (fun _ => ?_))
  |exact round_Pack.j3_le hk
  |exact round_Pack.j2_le hk
  |exact fun r h => at_rounds (round_Unit.mono _ _ _) hk h
  |exact fun r h => at_rounds (round_Units.mono _ _ _) hk h
  |exact round_beyond.le hk
  |exact fun r h => at_rounds (bits_Len.mono _) hk h
  |exact LeO.refl _
  |(with_reducible refine LeO.pos (by assumption) ?_)
  |(with_reducible refine LeO.neg (by assumption) ?_)
  |(with_reducible refine LeO.posl (by assumption) ?_)
  |(with_reducible refine LeO.negl (by assumption) ?_)
  |(with_reducible refine LeO.ite3 (by omega) (fun _ => ?_) (fun _ => ?_))
theorem round_Pack.j0_le {k n : Nat} (hk : k ≤ n) {x0 : Int} {x1 : Int} {x2 : Bool} {x3 : Int} {x4 : Int} {x5 : Bool} {x29 : Bool} {ex7 : Bool} {ex8 : Bool} {ex9 : Bool} {ex10 : Bool} {ex11 : Bool} : LeO (round_Pack.j0 k x0 x1 x2 x3 x4 x5 x29) (L.round_Pack.j3 n x29 x5 x4 x3 x2 x1 x0 ex7 ex8 ex9 ex10 ex11) := by
 cases k with
 |zero => rw [round_Pack.j0]; exact LeO.none _
 |succ k =>
 replace hk := Nat.le_of_succ_le hk
 rw [round_Pack.j0, L.round_Pack.j3_eq]
 repeat' first
  |(with_reducible exact LeO.refl _)
  |exact LeO.none _
  |(with_reducible exact round_Pack.j3_le hk)
  |(with_reducible exact round_Pack.j2_le hk)
  |(with_reducible exact round_Pack.j1_le hk)
  |(with_reducible exact fun r h => at_rounds (round_Unit.mono _ _ _) hk h)
  |(with_reducible exact fun r h => at_rounds (round_Units.mono _ _ _) hk h)
  |(with_reducible exact round_beyond.le hk)
  |(with_reducible exact fun r h => at_rounds (bits_Len.mono _) hk h)
  |(with_reducible refine LeO.bind ?_ (fun _ => ?_))
  |(with_reducible refine LeO.ite3 Iff.rfl (fun _ => ?_) (fun _ => ?_))
  |exact round_Pack.j3_le hk
  |exact round_Pack.j2_le hk
  |exact round_Pack.j1_le hk
  |exact fun r h => at_rounds (round_Unit.mono _ _ _) hk h
  |exact fun r h => at_rounds (round_Units.mono _ _ _) hk h
  |exact round_beyond.le hk
  |exact fun r h => at_rounds (bits_Len.mono _) hk h
  |exact LeO.refl _
  |(with_reducible refine LeO.pos (by assumption) ?_)
  |(with_reducible refine LeO.neg (by assumption) ?_)
  |(with_reducible refine LeO.posl (by assumption) ?_)
  |(with_reducible refine LeO.negl (by assumption) ?_)
  |(with_reducible refine LeO.ite3 (by omega) (fun _ => ?_) (fun _ => ?_))
theorem round_Pack.le {k n : Nat} (hk : k ≤ n) {a0 : Int} {a1 : Int} {a2 : Bool} {a3 : Int} {a4 : Int} {a5 : Bool} : LeO (round_Pack.f k a0 a1 a2 a3 a4 a5) (L.round_Pack.f n a0 a1 a2 a3 a4 a5) := by
 unfold round_Pack.f
 rw [L.round_Pack.eq]
 repeat' first
  |(with_reducible exact LeO.refl _)
  |exact LeO.none _
  |(with_reducible exact round_Pack.j3_le hk)
  |(with_reducible exact round_Pack.j2_le hk)
  |(with_reducible exact round_Pack.j1_le hk)
  |(with_reducible exact round_Pack.j0_le hk)
  |(with_reducible exact fun r h => at_rounds (round_Unit.mono _ _ _) hk h)
  |(with_reducible exact fun r h => at_rounds (round_Units.mono _ _ _) hk h)
  |(with_reducible exact round_beyond.le hk)
  |(with_reducible exact fun r h => at_rounds (bits_Len.mono _) hk h)
  |(with_reducible refine LeO.bind ?_ (fun _ => ?_))
  |(with_reducible refine LeO.ite3 Iff.rfl (fun _ => ?_) (fun _ => ?_))
  |exact round_Pack.j3_le hk
  |exact round_Pack.j2_le hk
  |exact round_Pack.j1_le hk
  |exact round_Pack.j0_le hk
  |exact fun r h => at_rounds (round_Unit.mono _ _ _) hk h
  |exact fun r h => at_rounds (round_Units.mono _ _ _) hk h
  |exact round_beyond.le hk
  |exact fun r h => at_rounds (bits_Len.mono _) hk h
  |exact LeO.refl _
  |(with_reducible refine LeO.pos (by assumption) ?_)
  |(with_reducible refine LeO.neg (by assumption) ?_)
  |(with_reducible refine LeO.posl (by assumption) ?_)
  |(with_reducible refine LeO.negl (by assumption) ?_)
  |(with_reducible refine LeO.ite3 (by omega) (fun _ => ?_) (fun _ => ?_))
theorem round_Pack.calls (k : Nat) (a0 : Int) (a1 : Int) (a2 : Bool) (a3 : Int) (a4 : Int) (a5 : Bool) (r1 : Int) (r2 : Bool) (r3 : Bool) (r4 : Bool) (r5 : Bool) (r6 : Bool) (w : World) (h : round_Pack.f k a0 a1 a2 a3 a4 a5 = some (r1, r2, r3, r4, r5, r6)) :
  Calls Try.prog 32 #[.int .i64 a0, .int .i64 a1, .bool a2, .int .i64 a3, .int .u64 a4, .bool a5] w fun e w' => e = .returned (.tuple #[.int .u32 r1, .agg #[.bool r2, .bool r3, .bool r4, .bool r5, .bool r6]]) ∧ Below w.heap.size w w' :=
 Go.Proofs.Ytejkemahdincjaa.Ek.calls_of L.round_Pack.ok k ((a0, ()), (a1, ()), (a2, ()), (a3, ()), (a4, ()), (a5, ()), ()) (r1, r2, r3, r4, r5, r6) rfl (round_Pack.le (Nat.le_refl _) _ h) w
theorem annealref1_Mul.j1_le {k n : Nat} (hk : k ≤ n) {x0 : Int} {x1 : Int} {x2 : Int} {x3 : Int} {x12 : Bool} {x67 : Bool} {ex6 : Bool} {ex7 : Bool} {ex8 : Bool} {ex9 : Bool} {ex10 : Bool} : LeO (annealref1_Mul.j1 k x0 x1 x2 x3 x12 x67) (L.annealref1_Mul.j8 n x67 x12 x3 x2 x1 x0 ex6 ex7 ex8 ex9 ex10) := by
 cases k with
 |zero => rw [annealref1_Mul.j1]; exact LeO.none _
 |succ k =>
 replace hk := Nat.le_of_succ_le hk
 rw [annealref1_Mul.j1, L.annealref1_Mul.j8_eq]
 repeat' first
  |(with_reducible exact LeO.refl _)
  |exact LeO.none _
  |(with_reducible exact fun r h => at_rounds (annealref1_nans.mono _ _) hk h)
  |(with_reducible exact fun r h => at_rounds (annealref1_zero.mono _ _) hk h)
  |(with_reducible exact fun r h => at_rounds (annealref1_inf.mono _ _) hk h)
  |(with_reducible exact fun r h => at_rounds (annealref1_Unpack.mono _ _) hk h)
  |(with_reducible exact annealref1_Pack.le hk)
  |(with_reducible refine LeO.bind ?_ (fun _ => ?_))
  |(with_reducible refine LeO.ite3 Iff.rfl (fun _ => ?_) (fun _ => ?_))
  |exact fun r h => at_rounds (annealref1_nans.mono _ _) hk h
  |exact fun r h => at_rounds (annealref1_zero.mono _ _) hk h
  |exact fun r h => at_rounds (annealref1_inf.mono _ _) hk h
  |exact fun r h => at_rounds (annealref1_Unpack.mono _ _) hk h
  |exact annealref1_Pack.le hk
  |exact LeO.refl _
  |(with_reducible refine LeO.pos (by assumption) ?_)
  |(with_reducible refine LeO.neg (by assumption) ?_)
  |(with_reducible refine LeO.posl (by assumption) ?_)
  |(with_reducible refine LeO.negl (by assumption) ?_)
  |(with_reducible refine LeO.ite3 (by omega) (fun _ => ?_) (fun _ => ?_))
theorem annealref1_Mul.j0_le {k n : Nat} (hk : k ≤ n) {x0 : Int} {x1 : Int} {x2 : Int} {x3 : Int} {x12 : Bool} {x56 : Bool} {ex6 : Bool} {ex7 : Bool} {ex8 : Bool} {ex9 : Bool} {ex10 : Bool} : LeO (annealref1_Mul.j0 k x0 x1 x2 x3 x12 x56) (L.annealref1_Mul.j6 n x56 x12 x3 x2 x1 x0 ex6 ex7 ex8 ex9 ex10) := by
 cases k with
 |zero => rw [annealref1_Mul.j0]; exact LeO.none _
 |succ k =>
 replace hk := Nat.le_of_succ_le hk
 rw [annealref1_Mul.j0, L.annealref1_Mul.j6_eq]
 repeat' first
  |(with_reducible exact LeO.refl _)
  |exact LeO.none _
  |(with_reducible exact annealref1_Mul.j1_le hk)
  |(with_reducible exact fun r h => at_rounds (annealref1_nans.mono _ _) hk h)
  |(with_reducible exact fun r h => at_rounds (annealref1_zero.mono _ _) hk h)
  |(with_reducible exact fun r h => at_rounds (annealref1_inf.mono _ _) hk h)
  |(with_reducible exact fun r h => at_rounds (annealref1_Unpack.mono _ _) hk h)
  |(with_reducible exact annealref1_Pack.le hk)
  |(with_reducible refine LeO.bind ?_ (fun _ => ?_))
  |(with_reducible refine LeO.ite3 Iff.rfl (fun _ => ?_) (fun _ => ?_))
  |exact annealref1_Mul.j1_le hk
  |exact fun r h => at_rounds (annealref1_nans.mono _ _) hk h
  |exact fun r h => at_rounds (annealref1_zero.mono _ _) hk h
  |exact fun r h => at_rounds (annealref1_inf.mono _ _) hk h
  |exact fun r h => at_rounds (annealref1_Unpack.mono _ _) hk h
  |exact annealref1_Pack.le hk
  |exact LeO.refl _
  |(with_reducible refine LeO.pos (by assumption) ?_)
  |(with_reducible refine LeO.neg (by assumption) ?_)
  |(with_reducible refine LeO.posl (by assumption) ?_)
  |(with_reducible refine LeO.negl (by assumption) ?_)
  |(with_reducible refine LeO.ite3 (by omega) (fun _ => ?_) (fun _ => ?_))
theorem annealref1_Mul.le {k n : Nat} (hk : k ≤ n) {a0 : Int} {a1 : Int} {a2 : Int} {a3 : Int} : LeO (annealref1_Mul.f k a0 a1 a2 a3) (L.annealref1_Mul.f n a0 a1 a2 a3) := by
 unfold annealref1_Mul.f
 rw [L.annealref1_Mul.eq]
 repeat' first
  |(with_reducible exact LeO.refl _)
  |exact LeO.none _
  |(with_reducible exact annealref1_Mul.j1_le hk)
  |(with_reducible exact annealref1_Mul.j0_le hk)
  |(with_reducible exact fun r h => at_rounds (annealref1_nans.mono _ _) hk h)
  |(with_reducible exact fun r h => at_rounds (annealref1_zero.mono _ _) hk h)
  |(with_reducible exact fun r h => at_rounds (annealref1_inf.mono _ _) hk h)
  |(with_reducible exact fun r h => at_rounds (annealref1_Unpack.mono _ _) hk h)
  |(with_reducible exact annealref1_Pack.le hk)
  |(with_reducible refine LeO.bind ?_ (fun _ => ?_))
  |(with_reducible refine LeO.ite3 Iff.rfl (fun _ => ?_) (fun _ => ?_))
  |exact annealref1_Mul.j1_le hk
  |exact annealref1_Mul.j0_le hk
  |exact fun r h => at_rounds (annealref1_nans.mono _ _) hk h
  |exact fun r h => at_rounds (annealref1_zero.mono _ _) hk h
  |exact fun r h => at_rounds (annealref1_inf.mono _ _) hk h
  |exact fun r h => at_rounds (annealref1_Unpack.mono _ _) hk h
  |exact annealref1_Pack.le hk
  |exact LeO.refl _
  |(with_reducible refine LeO.pos (by assumption) ?_)
  |(with_reducible refine LeO.neg (by assumption) ?_)
  |(with_reducible refine LeO.posl (by assumption) ?_)
  |(with_reducible refine LeO.negl (by assumption) ?_)
  |(with_reducible refine LeO.ite3 (by omega) (fun _ => ?_) (fun _ => ?_))
theorem annealref1_Mul.calls (k : Nat) (a0 : Int) (a1 : Int) (a2 : Int) (a3 : Int) (r1 : Int) (r2 : Bool) (r3 : Bool) (r4 : Bool) (r5 : Bool) (r6 : Bool) (w : World) (h : annealref1_Mul.f k a0 a1 a2 a3 = some (r1, r2, r3, r4, r5, r6)) :
  Calls Try.prog 16 #[.int .i64 a0, .int .i64 a1, .int .u32 a2, .int .u32 a3] w fun e w' => e = .returned (.tuple #[.int .u32 r1, .agg #[.bool r2, .bool r3, .bool r4, .bool r5, .bool r6]]) ∧ Below w.heap.size w w' :=
 Go.Proofs.Ytejkemahdincjaa.Ek.calls_of L.annealref1_Mul.ok k ((a0, ()), (a1, ()), (a2, ()), (a3, ()), ()) (r1, r2, r3, r4, r5, r6) rfl (annealref1_Mul.le (Nat.le_refl _) _ h) w

-- NEED 2
/-! ### sum_Add: function 10 -/
mutual
def sum_Add.j0 : Nat → Int → Int → Int → Int → Bool → Bool → Bool → Option (Int × Bool × Bool × Bool × Bool × Bool)
 |0, _, _, _, _, _, _, _ => none
 |k + 1, x0, x1, x2, x3, x13, x14, x39 => if x39 = true then ((format_Neg.f x0 x2).bind fun t236 => ((format_Neg.f x0 x3).bind fun t237 => ((sum_Infinite.f k x0 t236 t237 x13 x14).bind fun bt238 => (some (bt238.1, bt238.2.1, bt238.2.2.1, bt238.2.2.2.1, bt238.2.2.2.2.1, bt238.2.2.2.2.2))))) else ((sum_Of.f x0 x2).bind fun bt244 => ((sum_Of.f x0 x3).bind fun bt248 => ((sum_Exact.f k bt244.1 bt244.2.1 bt244.2.2.1 bt244.2.2.2 bt248.1 bt248.2.1 bt248.2.2.1 bt248.2.2.2).bind fun bt254 => (if bt254.2.2.1 = 0 then (sum_Add.j1 k x0 x1 (!bt254.2.2.2) bt244.1 bt244.2.1 bt244.2.2.1 bt244.2.2.2 bt248.1 bt248.2.1 bt248.2.2.1 bt248.2.2.2 bt254.1 bt254.2.1 bt254.2.2.1 bt254.2.2.2) else (sum_Add.j1 k x0 x1 false bt244.1 bt244.2.1 bt244.2.2.1 bt244.2.2.2 bt248.1 bt248.2.1 bt248.2.2.1 bt248.2.2.2 bt254.1 bt254.2.1 bt254.2.2.1 bt254.2.2.2)))))
def sum_Add.j1 : Nat → Int → Int → Bool → Bool → Int → Int → Bool → Bool → Int → Int → Bool → Bool → Int → Int → Bool → Option (Int × Bool × Bool × Bool × Bool × Bool)
 |0, _, _, _, _, _, _, _, _, _, _, _, _, _, _, _ => none
 |k + 1, x0, x1, x68, x253000, x253001, x253002, x253003, x254000, x254001, x254002, x254003, x259000, x259001, x259002, x259003 => if x68 = true then ((sum_Nought.f x0 x1 x253000 x254000).bind fun t259 => (some (t259, false, false, false, false, false))) else ((round_Pack.f k x0 x1 x259000 x259001 x259002 x259003).bind fun bt260 => (some (bt260.1, bt260.2.1, bt260.2.2.1, bt260.2.2.2.1, bt260.2.2.2.2.1, bt260.2.2.2.2.2)))
end
def sum_Add.f (k : Nat) (a0 : Int) (a1 : Int) (a2 : Int) (a3 : Int) : Option (Int × Bool × Bool × Bool × Bool × Bool) := (sum_Nans.f k a0 (([a2, a3] : List Int))).bind fun bt226 => (if bt226.2.2.2.2.2.2 = true then (some (bt226.1, bt226.2.1, bt226.2.2.1, bt226.2.2.2.1, bt226.2.2.2.2.1, bt226.2.2.2.2.2.1)) else ((format_IsInf.f k a0 a2).bind fun t234 => ((format_IsInf.f k a0 a3).bind fun t235 => (if t234 = true then (sum_Add.j0 k a0 a1 a2 a3 t234 t235 true) else (sum_Add.j0 k a0 a1 a2 a3 t234 t235 t235)))))
/- What the reckoner tells of printed functions. -/
set_option maxRecDepth 100000
theorem sum_Add.j1_le {k n : Nat} (hk : k ≤ n) {x0 : Int} {x1 : Int} {x68 : Bool} {x253000 : Bool} {x253001 : Int} {x253002 : Int} {x253003 : Bool} {x254000 : Bool} {x254001 : Int} {x254002 : Int} {x254003 : Bool} {x259000 : Bool} {x259001 : Int} {x259002 : Int} {x259003 : Bool} {ex15 : Bool} {ex16 : Bool} {ex17 : Bool} {ex18 : Bool} {ex19 : Bool} : LeO (sum_Add.j1 k x0 x1 x68 x253000 x253001 x253002 x253003 x254000 x254001 x254002 x254003 x259000 x259001 x259002 x259003) (L.sum_Add.j10 n x68 x1 x0 x259000 x259001 x259002 x259003 x254000 x254001 x254002 x254003 x253000 x253001 x253002 x253003 ex15 ex16 ex17 ex18 ex19) := by
 cases k with
 |zero => rw [sum_Add.j1]; exact LeO.none _
 |succ k =>
 replace hk := Nat.le_of_succ_le hk
 rw [sum_Add.j1, L.sum_Add.j10_eq]
 repeat' first
  |(with_reducible exact LeO.refl _)
  |exact LeO.none _
  |(with_reducible exact fun r h => at_rounds (sum_Nans.mono _ _) hk h)
  |(with_reducible exact fun r h => at_rounds (format_IsInf.mono _ _) hk h)
  |(with_reducible exact fun r h => at_rounds (sum_Infinite.mono _ _ _ _ _) hk h)
  |(with_reducible exact sum_Exact.le hk)
  |(with_reducible exact round_Pack.le hk)
  |(with_reducible refine LeO.bind ?_ (fun _ => ?_))
  |(with_reducible refine LeO.ite3 Iff.rfl (fun _ => ?_) (fun _ => ?_))
  |exact fun r h => at_rounds (sum_Nans.mono _ _) hk h
  |exact fun r h => at_rounds (format_IsInf.mono _ _) hk h
  |exact fun r h => at_rounds (sum_Infinite.mono _ _ _ _ _) hk h
  |exact sum_Exact.le hk
  |exact round_Pack.le hk
  |exact LeO.refl _
  |(with_reducible refine LeO.pos (by assumption) ?_)
  |(with_reducible refine LeO.neg (by assumption) ?_)
  |(with_reducible refine LeO.posl (by assumption) ?_)
  |(with_reducible refine LeO.negl (by assumption) ?_)
  |(with_reducible refine LeO.ite3 (by omega) (fun _ => ?_) (fun _ => ?_))
theorem sum_Add.j0_le {k n : Nat} (hk : k ≤ n) {x0 : Int} {x1 : Int} {x2 : Int} {x3 : Int} {x13 : Bool} {x14 : Bool} {x39 : Bool} {ex7 : Bool} {ex8 : Bool} {ex9 : Bool} {ex10 : Bool} {ex11 : Bool} : LeO (sum_Add.j0 k x0 x1 x2 x3 x13 x14 x39) (L.sum_Add.j6 n x39 x14 x13 x3 x2 x1 x0 ex7 ex8 ex9 ex10 ex11) := by
 cases k with
 |zero => rw [sum_Add.j0]; exact LeO.none _
 |succ k =>
 replace hk := Nat.le_of_succ_le hk
 rw [sum_Add.j0, L.sum_Add.j6_eq]
 repeat' first
  |(with_reducible exact LeO.refl _)
  |exact LeO.none _
  |(with_reducible exact sum_Add.j1_le hk)
  |(with_reducible exact fun r h => at_rounds (sum_Nans.mono _ _) hk h)
  |(with_reducible exact fun r h => at_rounds (format_IsInf.mono _ _) hk h)
  |(with_reducible exact fun r h => at_rounds (sum_Infinite.mono _ _ _ _ _) hk h)
  |(with_reducible exact sum_Exact.le hk)
  |(with_reducible exact round_Pack.le hk)
  |(with_reducible refine LeO.bind ?_ (fun _ => ?_))
  |(with_reducible refine LeO.ite3 Iff.rfl (fun _ => ?_) (fun _ => ?_))
  |exact sum_Add.j1_le hk
  |exact fun r h => at_rounds (sum_Nans.mono _ _) hk h
  |exact fun r h => at_rounds (format_IsInf.mono _ _) hk h
  |exact fun r h => at_rounds (sum_Infinite.mono _ _ _ _ _) hk h
  |exact sum_Exact.le hk
  |exact round_Pack.le hk
  |exact LeO.refl _
  |(with_reducible refine LeO.pos (by assumption) ?_)
  |(with_reducible refine LeO.neg (by assumption) ?_)
  |(with_reducible refine LeO.posl (by assumption) ?_)
  |(with_reducible refine LeO.negl (by assumption) ?_)
  |(with_reducible refine LeO.ite3 (by omega) (fun _ => ?_) (fun _ => ?_))
theorem sum_Add.le {k n : Nat} (hk : k ≤ n) {a0 : Int} {a1 : Int} {a2 : Int} {a3 : Int} : LeO (sum_Add.f k a0 a1 a2 a3) (L.sum_Add.f n a0 a1 a2 a3) := by
 unfold sum_Add.f
 rw [L.sum_Add.eq]
 repeat' first
  |(with_reducible exact LeO.refl _)
  |exact LeO.none _
  |(with_reducible exact sum_Add.j1_le hk)
  |(with_reducible exact sum_Add.j0_le hk)
  |(with_reducible exact fun r h => at_rounds (sum_Nans.mono _ _) hk h)
  |(with_reducible exact fun r h => at_rounds (format_IsInf.mono _ _) hk h)
  |(with_reducible exact fun r h => at_rounds (sum_Infinite.mono _ _ _ _ _) hk h)
  |(with_reducible exact sum_Exact.le hk)
  |(with_reducible exact round_Pack.le hk)
  |(with_reducible refine LeO.bind ?_ (fun _ => ?_))
  |(with_reducible refine LeO.ite3 Iff.rfl (fun _ => ?_) (fun _ => ?_))
  |exact sum_Add.j1_le hk
  |exact sum_Add.j0_le hk
  |exact fun r h => at_rounds (sum_Nans.mono _ _) hk h
  |exact fun r h => at_rounds (format_IsInf.mono _ _) hk h
  |exact fun r h => at_rounds (sum_Infinite.mono _ _ _ _ _) hk h
  |exact sum_Exact.le hk
  |exact round_Pack.le hk
  |exact LeO.refl _
  |(with_reducible refine LeO.pos (by assumption) ?_)
  |(with_reducible refine LeO.neg (by assumption) ?_)
  |(with_reducible refine LeO.posl (by assumption) ?_)
  |(with_reducible refine LeO.negl (by assumption) ?_)
  |(with_reducible refine LeO.ite3 (by omega) (fun _ => ?_) (fun _ => ?_))
theorem sum_Add.calls (k : Nat) (a0 : Int) (a1 : Int) (a2 : Int) (a3 : Int) (r1 : Int) (r2 : Bool) (r3 : Bool) (r4 : Bool) (r5 : Bool) (r6 : Bool) (w : World) (h : sum_Add.f k a0 a1 a2 a3 = some (r1, r2, r3, r4, r5, r6)) :
  Calls Try.prog 10 #[.int .i64 a0, .int .i64 a1, .int .u32 a2, .int .u32 a3] w fun e w' => e = .returned (.tuple #[.int .u32 r1, .agg #[.bool r2, .bool r3, .bool r4, .bool r5, .bool r6]]) ∧ Below w.heap.size w w' :=
 Go.Proofs.Ytejkemahdincjaa.Ek.calls_of L.sum_Add.ok k ((a0, ()), (a1, ()), (a2, ()), (a3, ()), ()) (r1, r2, r3, r4, r5, r6) rfl (sum_Add.le (Nat.le_refl _) _ h) w
theorem prod_Fma.j2_le {k n : Nat} (hk : k ≤ n) {x0 : Int} {x1 : Int} {x16 : Bool} {x99 : Bool} {x569000 : Bool} {x569001 : Int} {x569002 : Int} {x569003 : Bool} {x574000 : Bool} {x574001 : Int} {x574002 : Int} {x574003 : Bool} {ex12 : Bool} {ex13 : Bool} {ex14 : Bool} {ex15 : Bool} {ex16 : Bool} : LeO (prod_Fma.j2 k x0 x1 x16 x99 x569000 x569001 x569002 x569003 x574000 x574001 x574002 x574003) (L.prod_Fma.j15 n x99 x16 x1 x0 x574000 x574001 x574002 x574003 x569000 x569001 x569002 x569003 ex12 ex13 ex14 ex15 ex16) := by
 cases k with
 |zero => rw [prod_Fma.j2]; exact LeO.none _
 |succ k =>
 replace hk := Nat.le_of_succ_le hk
 rw [prod_Fma.j2, L.prod_Fma.j15_eq]
 repeat' first
  |(with_reducible exact LeO.refl _)
  |exact LeO.none _
  |(with_reducible exact fun r h => at_rounds (prod_torn.mono _ _ _) hk h)
  |(with_reducible exact fun r h => at_rounds (sum_Nans.mono _ _) hk h)
  |(with_reducible exact fun r h => at_rounds (format_IsInf.mono _ _) hk h)
  |(with_reducible exact fun r h => at_rounds (sum_Infinite.mono _ _ _ _ _) hk h)
  |(with_reducible exact sum_Exact.le hk)
  |(with_reducible exact round_Pack.le hk)
  |(with_reducible refine LeO.bind ?_ (fun _ => ?_))
  |(with_reducible refine LeO.ite3 Iff.rfl (fun _ => ?_) (fun _ => ?_))
  |exact fun r h => at_rounds (prod_torn.mono _ _ _) hk h
  |exact fun r h => at_rounds (sum_Nans.mono _ _) hk h
  |exact fun r h => at_rounds (format_IsInf.mono _ _) hk h
  |exact fun r h => at_rounds (sum_Infinite.mono _ _ _ _ _) hk h
  |exact sum_Exact.le hk
  |exact round_Pack.le hk
  |exact LeO.refl _
  |(with_reducible refine LeO.pos (by assumption) ?_)
  |(with_reducible refine LeO.neg (by assumption) ?_)
  |(with_reducible refine LeO.posl (by assumption) ?_)
  |(with_reducible refine LeO.negl (by assumption) ?_)
  |(with_reducible refine LeO.ite3 (by omega) (fun _ => ?_) (fun _ => ?_))
theorem prod_Fma.j1_le {k n : Nat} (hk : k ≤ n) {x0 : Int} {x1 : Int} {x2 : Int} {x3 : Int} {x4 : Int} {x16 : Bool} {x17 : Bool} {x18 : Bool} {x71 : Bool} {ex9 : Bool} {ex10 : Bool} {ex11 : Bool} {ex12 : Bool} {ex13 : Bool} : LeO (prod_Fma.j1 k x0 x1 x2 x3 x4 x16 x17 x18 x71) (L.prod_Fma.j11 n x71 x18 x17 x16 x4 x3 x2 x1 x0 ex9 ex10 ex11 ex12 ex13) := by
 cases k with
 |zero => rw [prod_Fma.j1]; exact LeO.none _
 |succ k =>
 replace hk := Nat.le_of_succ_le hk
 rw [prod_Fma.j1, L.prod_Fma.j11_eq]
 repeat' first
  |(with_reducible exact LeO.refl _)
  |exact LeO.none _
  |(with_reducible exact prod_Fma.j2_le hk)
  |(with_reducible exact fun r h => at_rounds (prod_torn.mono _ _ _) hk h)
  |(with_reducible exact fun r h => at_rounds (sum_Nans.mono _ _) hk h)
  |(with_reducible exact fun r h => at_rounds (format_IsInf.mono _ _) hk h)
  |(with_reducible exact fun r h => at_rounds (sum_Infinite.mono _ _ _ _ _) hk h)
  |(with_reducible exact sum_Exact.le hk)
  |(with_reducible exact round_Pack.le hk)
  |(with_reducible refine LeO.bind ?_ (fun _ => ?_))
  |(with_reducible refine LeO.ite3 Iff.rfl (fun _ => ?_) (fun _ => ?_))
  |exact prod_Fma.j2_le hk
  |exact fun r h => at_rounds (prod_torn.mono _ _ _) hk h
  |exact fun r h => at_rounds (sum_Nans.mono _ _) hk h
  |exact fun r h => at_rounds (format_IsInf.mono _ _) hk h
  |exact fun r h => at_rounds (sum_Infinite.mono _ _ _ _ _) hk h
  |exact sum_Exact.le hk
  |exact round_Pack.le hk
  |exact LeO.refl _
  |(with_reducible refine LeO.pos (by assumption) ?_)
  |(with_reducible refine LeO.neg (by assumption) ?_)
  |(with_reducible refine LeO.posl (by assumption) ?_)
  |(with_reducible refine LeO.negl (by assumption) ?_)
  |(with_reducible refine LeO.ite3 (by omega) (fun _ => ?_) (fun _ => ?_))
theorem prod_Fma.j0_le {k n : Nat} (hk : k ≤ n) {x0 : Int} {x1 : Int} {x2 : Int} {x3 : Int} {x4 : Int} {x16 : Bool} {x17 : Bool} {x18 : Bool} {ex8 : Bool} {ex9 : Bool} {ex10 : Bool} {ex11 : Bool} {ex12 : Bool} : LeO (prod_Fma.j0 k x0 x1 x2 x3 x4 x16 x17 x18) (L.prod_Fma.j10 n x18 x17 x16 x4 x3 x2 x1 x0 ex8 ex9 ex10 ex11 ex12) := by
 cases k with
 |zero => rw [prod_Fma.j0]; exact LeO.none _
 |succ k =>
 replace hk := Nat.le_of_succ_le hk
 rw [prod_Fma.j0, L.prod_Fma.j10_eq]
 repeat' first
  |(with_reducible exact LeO.refl _)
  |exact LeO.none _
  |(with_reducible exact prod_Fma.j2_le hk)
  |(with_reducible exact prod_Fma.j1_le hk)
  |(with_reducible exact fun r h => at_rounds (prod_torn.mono _ _ _) hk h)
  |(with_reducible exact fun r h => at_rounds (sum_Nans.mono _ _) hk h)
  |(with_reducible exact fun r h => at_rounds (format_IsInf.mono _ _) hk h)
  |(with_reducible exact fun r h => at_rounds (sum_Infinite.mono _ _ _ _ _) hk h)
  |(with_reducible exact sum_Exact.le hk)
  |(with_reducible exact round_Pack.le hk)
  |(with_reducible refine LeO.bind ?_ (fun _ => ?_))
  |(with_reducible refine LeO.ite3 Iff.rfl (fun _ => ?_) (fun _ => ?_))
  |exact prod_Fma.j2_le hk
  |exact prod_Fma.j1_le hk
  |exact fun r h => at_rounds (prod_torn.mono _ _ _) hk h
  |exact fun r h => at_rounds (sum_Nans.mono _ _) hk h
  |exact fun r h => at_rounds (format_IsInf.mono _ _) hk h
  |exact fun r h => at_rounds (sum_Infinite.mono _ _ _ _ _) hk h
  |exact sum_Exact.le hk
  |exact round_Pack.le hk
  |exact LeO.refl _
  |(with_reducible refine LeO.pos (by assumption) ?_)
  |(with_reducible refine LeO.neg (by assumption) ?_)
  |(with_reducible refine LeO.posl (by assumption) ?_)
  |(with_reducible refine LeO.negl (by assumption) ?_)
  |(with_reducible refine LeO.ite3 (by omega) (fun _ => ?_) (fun _ => ?_))
theorem prod_Fma.le {k n : Nat} (hk : k ≤ n) {a0 : Int} {a1 : Int} {a2 : Int} {a3 : Int} {a4 : Int} : LeO (prod_Fma.f k a0 a1 a2 a3 a4) (L.prod_Fma.f n a0 a1 a2 a3 a4) := by
 unfold prod_Fma.f
 rw [L.prod_Fma.eq]
 repeat' first
  |(with_reducible exact LeO.refl _)
  |exact LeO.none _
  |(with_reducible exact prod_Fma.j2_le hk)
  |(with_reducible exact prod_Fma.j1_le hk)
  |(with_reducible exact prod_Fma.j0_le hk)
  |(with_reducible exact fun r h => at_rounds (prod_torn.mono _ _ _) hk h)
  |(with_reducible exact fun r h => at_rounds (sum_Nans.mono _ _) hk h)
  |(with_reducible exact fun r h => at_rounds (format_IsInf.mono _ _) hk h)
  |(with_reducible exact fun r h => at_rounds (sum_Infinite.mono _ _ _ _ _) hk h)
  |(with_reducible exact sum_Exact.le hk)
  |(with_reducible exact round_Pack.le hk)
  |(with_reducible refine LeO.bind ?_ (fun _ => ?_))
  |(with_reducible refine LeO.ite3 Iff.rfl (fun _ => ?_) (fun _ => ?_))
  |exact prod_Fma.j2_le hk
  |exact prod_Fma.j1_le hk
  |exact prod_Fma.j0_le hk
  |exact fun r h => at_rounds (prod_torn.mono _ _ _) hk h
  |exact fun r h => at_rounds (sum_Nans.mono _ _) hk h
  |exact fun r h => at_rounds (format_IsInf.mono _ _) hk h
  |exact fun r h => at_rounds (sum_Infinite.mono _ _ _ _ _) hk h
  |exact sum_Exact.le hk
  |exact round_Pack.le hk
  |exact LeO.refl _
  |(with_reducible refine LeO.pos (by assumption) ?_)
  |(with_reducible refine LeO.neg (by assumption) ?_)
  |(with_reducible refine LeO.posl (by assumption) ?_)
  |(with_reducible refine LeO.negl (by assumption) ?_)
  |(with_reducible refine LeO.ite3 (by omega) (fun _ => ?_) (fun _ => ?_))
theorem prod_Fma.calls (k : Nat) (a0 : Int) (a1 : Int) (a2 : Int) (a3 : Int) (a4 : Int) (r1 : Int) (r2 : Bool) (r3 : Bool) (r4 : Bool) (r5 : Bool) (r6 : Bool) (w : World) (h : prod_Fma.f k a0 a1 a2 a3 a4 = some (r1, r2, r3, r4, r5, r6)) :
  Calls Try.prog 18 #[.int .i64 a0, .int .i64 a1, .int .u32 a2, .int .u32 a3, .int .u32 a4] w fun e w' => e = .returned (.tuple #[.int .u32 r1, .agg #[.bool r2, .bool r3, .bool r4, .bool r5, .bool r6]]) ∧ Below w.heap.size w w' :=
 Go.Proofs.Ytejkemahdincjaa.Ek.calls_of L.prod_Fma.ok k ((a0, ()), (a1, ()), (a2, ()), (a3, ()), (a4, ()), ()) (r1, r2, r3, r4, r5, r6) rfl (prod_Fma.le (Nat.le_refl _) _ h) w
theorem prod_Mul.j0_le {k n : Nat} (hk : k ≤ n) {x0 : Int} {x1 : Int} {x2 : Int} {x3 : Int} {x13 : Bool} {x49 : Bool} {ex6 : Bool} {ex7 : Bool} {ex8 : Bool} {ex9 : Bool} {ex10 : Bool} : LeO (prod_Mul.j0 k x0 x1 x2 x3 x13 x49) (L.prod_Mul.j8 n x49 x13 x3 x2 x1 x0 ex6 ex7 ex8 ex9 ex10) := by
 cases k with
 |zero => rw [prod_Mul.j0]; exact LeO.none _
 |succ k =>
 replace hk := Nat.le_of_succ_le hk
 rw [prod_Mul.j0, L.prod_Mul.j8_eq]
 repeat' first
  |(with_reducible exact LeO.refl _)
  |exact LeO.none _
  |(with_reducible exact fun r h => at_rounds (sum_Nans.mono _ _) hk h)
  |(with_reducible exact fun r h => at_rounds (prod_torn.mono _ _ _) hk h)
  |(with_reducible exact fun r h => at_rounds (format_IsInf.mono _ _) hk h)
  |(with_reducible exact round_Pack.le hk)
  |(with_reducible refine LeO.bind ?_ (fun _ => ?_))
  |(with_reducible refine LeO.ite3 Iff.rfl (fun _ => ?_) (fun _ => ?_))
  |exact fun r h => at_rounds (sum_Nans.mono _ _) hk h
  |exact fun r h => at_rounds (prod_torn.mono _ _ _) hk h
  |exact fun r h => at_rounds (format_IsInf.mono _ _) hk h
  |exact round_Pack.le hk
  |exact LeO.refl _
  |(with_reducible refine LeO.pos (by assumption) ?_)
  |(with_reducible refine LeO.neg (by assumption) ?_)
  |(with_reducible refine LeO.posl (by assumption) ?_)
  |(with_reducible refine LeO.negl (by assumption) ?_)
  |(with_reducible refine LeO.ite3 (by omega) (fun _ => ?_) (fun _ => ?_))
theorem prod_Mul.le {k n : Nat} (hk : k ≤ n) {a0 : Int} {a1 : Int} {a2 : Int} {a3 : Int} : LeO (prod_Mul.f k a0 a1 a2 a3) (L.prod_Mul.f n a0 a1 a2 a3) := by
 unfold prod_Mul.f
 rw [L.prod_Mul.eq]
 repeat' first
  |(with_reducible exact LeO.refl _)
  |exact LeO.none _
  |(with_reducible exact prod_Mul.j0_le hk)
  |(with_reducible exact fun r h => at_rounds (sum_Nans.mono _ _) hk h)
  |(with_reducible exact fun r h => at_rounds (prod_torn.mono _ _ _) hk h)
  |(with_reducible exact fun r h => at_rounds (format_IsInf.mono _ _) hk h)
  |(with_reducible exact round_Pack.le hk)
  |(with_reducible refine LeO.bind ?_ (fun _ => ?_))
  |(with_reducible refine LeO.ite3 Iff.rfl (fun _ => ?_) (fun _ => ?_))
  |exact prod_Mul.j0_le hk
  |exact fun r h => at_rounds (sum_Nans.mono _ _) hk h
  |exact fun r h => at_rounds (prod_torn.mono _ _ _) hk h
  |exact fun r h => at_rounds (format_IsInf.mono _ _) hk h
  |exact round_Pack.le hk
  |exact LeO.refl _
  |(with_reducible refine LeO.pos (by assumption) ?_)
  |(with_reducible refine LeO.neg (by assumption) ?_)
  |(with_reducible refine LeO.posl (by assumption) ?_)
  |(with_reducible refine LeO.negl (by assumption) ?_)
  |(with_reducible refine LeO.ite3 (by omega) (fun _ => ?_) (fun _ => ?_))
theorem prod_Mul.calls (k : Nat) (a0 : Int) (a1 : Int) (a2 : Int) (a3 : Int) (r1 : Int) (r2 : Bool) (r3 : Bool) (r4 : Bool) (r5 : Bool) (r6 : Bool) (w : World) (h : prod_Mul.f k a0 a1 a2 a3 = some (r1, r2, r3, r4, r5, r6)) :
  Calls Try.prog 21 #[.int .i64 a0, .int .i64 a1, .int .u32 a2, .int .u32 a3] w fun e w' => e = .returned (.tuple #[.int .u32 r1, .agg #[.bool r2, .bool r3, .bool r4, .bool r5, .bool r6]]) ∧ Below w.heap.size w w' :=
 Go.Proofs.Ytejkemahdincjaa.Ek.calls_of L.prod_Mul.ok k ((a0, ()), (a1, ()), (a2, ()), (a3, ()), ()) (r1, r2, r3, r4, r5, r6) rfl (prod_Mul.le (Nat.le_refl _) _ h) w
end Go.Proofs.Ytejkemahdincjaa.P
