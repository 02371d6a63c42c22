import Derived.Test.YtjlgmfgjleajfaaQsfM2
import Derived.Test.YtjlgmfgjleajfaaQsfM3
import Derived.Test.YtjlgmfgjleajfaaQsfZ
import Derived.Test.YtjlgmfgjleajfaaQsfM1
import Derived.Test.YtjlgmfgjleajfaaProg
/- What the reckoner tells of printed functions. -/
set_option linter.unusedVariables false
set_option linter.unusedSimpArgs false
namespace Go.Proofs.Ytjlgmfgjleajfaa.P
open Go.RowKit Go.Proofs.YtjlgmfgjleajfaaW.PrintWords Go.Proofs.YtjlgmfgjleajfaaW.PrintLast Go.Proofs.YtjlgmfgjleajfaaW.PrintMore
set_option maxRecDepth 100000
theorem round_Pack.j3_le {k n : Nat} (hk : k ≤ n) {x0 : Int} {x1 : Int} {x2 : Bool} {x3 : Int} {x4 : Int} {x15 : Int} {x17 : Int} {x18 : Int} {x19 : Int} {ex9 : Bool} {ex10 : Bool} {ex11 : Bool} {ex12 : Bool} {ex13 : Bool} : LeO (round_Pack.j3 k x0 x1 x2 x3 x4 x15 x17 x18 x19) (L.round_Pack.j14 n x19 x18 x17 x15 x4 x3 x2 x1 x0 ex9 ex10 ex11 ex12 ex13) := by
 cases k with
 |zero => rw [round_Pack.j3]; exact LeO.none _
 |succ k =>
 replace hk := Nat.le_of_succ_le hk
 rw [round_Pack.j3, L.round_Pack.j14_eq]
 repeat' first
  |(with_reducible exact LeO.refl _)
  |exact LeO.none _
  |(with_reducible exact fun r h => at_rounds (round_Unit.mono _ _ _) hk h)
  |(with_reducible exact fun r h => at_rounds (round_Units.mono _ _ _) hk h)
  |(with_reducible exact round_beyond.le hk)
  |(with_reducible exact fun r h => at_rounds (bits_Len.mono _) hk h)
  |(with_reducible refine LeO.bind ?_ (fun _ => ?_))
  |(with_reducible refine LeO.ite3 Iff.rfl (fun _ => ?_) (fun _ => ?_))
  |exact fun r h => at_rounds (round_Unit.mono _ _ _) hk h
  |exact fun r h => at_rounds (round_Units.mono _ _ _) hk h
  |exact round_beyond.le hk
  |exact fun r h => at_rounds (bits_Len.mono _) hk h
  |exact LeO.refl _
  |(with_reducible refine LeO.pos (by assumption) ?_)
  |(with_reducible refine LeO.neg (by assumption) ?_)
  |(with_reducible refine LeO.posl (by assumption) ?_)
  |(with_reducible refine LeO.negl (by assumption) ?_)
  |(with_reducible refine LeO.ite3 (by omega) (fun _ => ?_) (fun _ => ?_))
theorem round_Pack.j2_le {k n : Nat} (hk : k ≤ n) {x0 : Int} {x1 : Int} {x2 : Bool} {x3 : Int} {x4 : Int} {x15 : Int} {x16 : Int} {x17 : Int} {x18 : Int} {ex9 : Bool} {ex10 : Bool} {ex11 : Bool} {ex12 : Bool} {ex13 : Bool} : LeO (round_Pack.j2 k x0 x1 x2 x3 x4 x15 x16 x17 x18) (L.round_Pack.j11 n x18 x17 x16 x15 x4 x3 x2 x1 x0 ex9 ex10 ex11 ex12 ex13) := by
 cases k with
 |zero => rw [round_Pack.j2]; exact LeO.none _
 |succ k =>
 replace hk := Nat.le_of_succ_le hk
 rw [round_Pack.j2, L.round_Pack.j11_eq]
 repeat' first
  |(with_reducible exact LeO.refl _)
  |exact LeO.none _
  |(with_reducible exact round_Pack.j3_le hk)
  |(with_reducible exact fun r h => at_rounds (round_Unit.mono _ _ _) hk h)
  |(with_reducible exact fun r h => at_rounds (round_Units.mono _ _ _) hk h)
  |(with_reducible exact round_beyond.le hk)
  |(with_reducible exact fun r h => at_rounds (bits_Len.mono _) hk h)
  |(with_reducible refine LeO.bind ?_ (fun _ => ?_))
  |(with_reducible refine LeO.ite3 Iff.rfl (fun _ => ?_) (fun _ => ?_))
  |exact round_Pack.j3_le hk
  |exact fun r h => at_rounds (round_Unit.mono _ _ _) hk h
  |exact fun r h => at_rounds (round_Units.mono _ _ _) hk h
  |exact round_beyond.le hk
  |exact fun r h => at_rounds (bits_Len.mono _) hk h
  |exact LeO.refl _
  |(with_reducible refine LeO.pos (by assumption) ?_)
  |(with_reducible refine LeO.neg (by assumption) ?_)
  |(with_reducible refine LeO.posl (by assumption) ?_)
  |(with_reducible refine LeO.negl (by assumption) ?_)
  |(with_reducible refine LeO.ite3 (by omega) (fun _ => ?_) (fun _ => ?_))
theorem round_Pack.j1_le {k n : Nat} (hk : k ≤ n) {x0 : Int} {x1 : Int} {x2 : Bool} {x3 : Int} {x4 : Int} {x15 : Int} {x16 : Int} {x17 : Int} {x18 : Int} {ex9 : Bool} {ex10 : Bool} {ex11 : Bool} {ex12 : Bool} {ex13 : Bool} : LeO (round_Pack.j1 k x0 x1 x2 x3 x4 x15 x16 x17 x18) (L.round_Pack.j9 n x18 x17 x16 x15 x4 x3 x2 x1 x0 ex9 ex10 ex11 ex12 ex13) := by
 cases k with
 |zero => rw [round_Pack.j1]; exact LeO.none _
 |succ k =>
 replace hk := Nat.le_of_succ_le hk
 rw [round_Pack.j1, L.round_Pack.j9_eq]
 repeat' first
  |(with_reducible exact LeO.refl _)
  |exact LeO.none _
  |(with_reducible exact round_Pack.j3_le hk)
  |(with_reducible exact round_Pack.j2_le hk)
  |(with_reducible exact fun r h => at_rounds (round_Unit.mono _ _ _) hk h)
  |(with_reducible exact fun r h => at_rounds (round_Units.mono _ _ _) hk h)
  |(with_reducible exact round_beyond.le hk)
  |(with_reducible exact fun r h => at_rounds (bits_Len.mono _) hk h)
  |(with_reducible refine LeO.bind ?_ (fun _ => ?_))
  |(with_reducible refine LeO.ite3 Iff.rfl (fun _ => ?_) (fun _ => ?_))
  |exact round_Pack.j3_le hk
  |exact round_Pack.j2_le hk
  |exact fun r h => at_rounds (round_Unit.mono _ _ _) hk h
  |exact fun r h => at_rounds (round_Units.mono _ _ _) hk h
  |exact round_beyond.le hk
  |exact fun r h => at_rounds (bits_Len.mono _) hk h
  |exact LeO.refl _
  |(with_reducible refine LeO.pos (by assumption) ?_)
  |(with_reducible refine LeO.neg (by assumption) ?_)
  |(with_reducible refine LeO.posl (by assumption) ?_)
  |(with_reducible refine LeO.negl (by assumption) ?_)
  |(with_reducible refine LeO.ite3 (by omega) (fun _ => ?_) (fun _ => ?_))
theorem round_Pack.j0_le {k n : Nat} (hk : k ≤ n) {x0 : Int} {x1 : Int} {x2 : Bool} {x3 : Int} {x4 : Int} {x5 : Bool} {x29 : Bool} {ex7 : Bool} {ex8 : Bool} {ex9 : Bool} {ex10 : Bool} {ex11 : Bool} : LeO (round_Pack.j0 k x0 x1 x2 x3 x4 x5 x29) (L.round_Pack.j3 n x29 x5 x4 x3 x2 x1 x0 ex7 ex8 ex9 ex10 ex11) := by
 cases k with
 |zero => rw [round_Pack.j0]; exact LeO.none _
 |succ k =>
 replace hk := Nat.le_of_succ_le hk
 rw [round_Pack.j0, L.round_Pack.j3_eq]
 repeat' first
  |(with_reducible exact LeO.refl _)
  |exact LeO.none _
  |(with_reducible exact round_Pack.j3_le hk)
  |(with_reducible exact round_Pack.j2_le hk)
  |(with_reducible exact round_Pack.j1_le hk)
  |(with_reducible exact fun r h => at_rounds (round_Unit.mono _ _ _) hk h)
  |(with_reducible exact fun r h => at_rounds (round_Units.mono _ _ _) hk h)
  |(with_reducible exact round_beyond.le hk)
  |(with_reducible exact fun r h => at_rounds (bits_Len.mono _) hk h)
  |(with_reducible refine LeO.bind ?_ (fun _ => ?_))
  |(with_reducible refine LeO.ite3 Iff.rfl (fun _ => ?_) (fun _ => ?_))
  |exact round_Pack.j3_le hk
  |exact round_Pack.j2_le hk
  |exact round_Pack.j1_le hk
  |exact fun r h => at_rounds (round_Unit.mono _ _ _) hk h
  |exact fun r h => at_rounds (round_Units.mono _ _ _) hk h
  |exact round_beyond.le hk
  |exact fun r h => at_rounds (bits_Len.mono _) hk h
  |exact LeO.refl _
  |(with_reducible refine LeO.pos (by assumption) ?_)
  |(with_reducible refine LeO.neg (by assumption) ?_)
  |(with_reducible refine LeO.posl (by assumption) ?_)
  |(with_reducible refine LeO.negl (by assumption) ?_)
  |(with_reducible refine LeO.ite3 (by omega) (fun _ => ?_) (fun _ => ?_))
set_option maxHeartbeats 4000000 in
theorem round_Pack.le {k n : Nat} (hk : k ≤ n) {a0 : Int} {a1 : Int} {a2 : Bool} {a3 : Int} {a4 : Int} {a5 : Bool} : LeO (round_Pack.f k a0 a1 a2 a3 a4 a5) (L.round_Pack.f n a0 a1 a2 a3 a4 a5) := by
 unfold round_Pack.f
 rw [L.round_Pack.eq]
 try simp only [Bool.and_true]
 repeat' first
  |(with_reducible exact LeO.refl _)
  |exact LeO.none _
  |(with_reducible exact round_Pack.j3_le hk)
  |(with_reducible exact round_Pack.j2_le hk)
  |(with_reducible exact round_Pack.j1_le hk)
  |(with_reducible exact round_Pack.j0_le hk)
  |(with_reducible exact fun r h => at_rounds (round_Unit.mono _ _ _) hk h)
  |(with_reducible exact fun r h => at_rounds (round_Units.mono _ _ _) hk h)
  |(with_reducible exact round_beyond.le hk)
  |(with_reducible exact fun r h => at_rounds (bits_Len.mono _) hk h)
  |(with_reducible refine LeO.bind ?_ (fun _ => ?_))
  |(with_reducible refine LeO.ite3 Iff.rfl (fun _ => ?_) (fun _ => ?_))
  |exact round_Pack.j3_le hk
  |exact round_Pack.j2_le hk
  |exact round_Pack.j1_le hk
  |exact round_Pack.j0_le hk
  |exact fun r h => at_rounds (round_Unit.mono _ _ _) hk h
  |exact fun r h => at_rounds (round_Units.mono _ _ _) hk h
  |exact round_beyond.le hk
  |exact fun r h => at_rounds (bits_Len.mono _) hk h
  |exact LeO.refl _
  |(with_reducible refine LeO.pos (by assumption) ?_)
  |(with_reducible refine LeO.neg (by assumption) ?_)
  |(with_reducible refine LeO.posl (by assumption) ?_)
  |(with_reducible refine LeO.negl (by assumption) ?_)
  |(with_reducible refine LeO.ite3 (by omega) (fun _ => ?_) (fun _ => ?_))
theorem round_Pack.calls (k : Nat) (a0 : Int) (a1 : Int) (a2 : Bool) (a3 : Int) (a4 : Int) (a5 : Bool) (r1 : Int) (r2 : Bool) (r3 : Bool) (r4 : Bool) (r5 : Bool) (r6 : Bool) (w : World) (h : round_Pack.f k a0 a1 a2 a3 a4 a5 = some (r1, r2, r3, r4, r5, r6)) :
  Calls Try.prog 30 #[.int .i64 a0, .int .i64 a1, .bool a2, .int .i64 a3, .int .u64 a4, .bool a5] w fun e w' => e = .returned (.tuple #[.int .u32 r1, .agg #[.bool r2, .bool r3, .bool r4, .bool r5, .bool r6]]) ∧ Below w.heap.size w w' :=
 Go.Proofs.Ytjlgmfgjleajfaa.Ek.calls_of L.round_Pack.ok k ((a0, ()), (a1, ()), (a2, ()), (a3, ()), (a4, ()), (a5, ()), ()) (r1, r2, r3, r4, r5, r6) rfl (round_Pack.le (Nat.le_refl _) _ h) w
attribute [local go_sem] max2_int min2_int max_two min_two max_three min_three max_four min_four

-- NEED 2
/-! ### prod_Mul: function 32 -/
def prod_Mul.j0 : Nat → Int → Int → Int → Int → Bool → Bool → Option (Int × Bool × Bool × Bool × Bool × Bool)
 |0, _, _, _, _, _, _ => none
 |k + 1, x0, x1, x2, x3, x13, x49 => if x49 = true then ((format_Inf.f x0 x13).bind fun t300 => (some (t300, false, false, false, false, false))) else ((prod_product.f x0 x2 x3).bind fun bt301 => ((round_Pack.f k x0 x1 x13 bt301.2.1 bt301.2.2.1 false).bind fun bt306 => (some (bt306.1, bt306.2.1, bt306.2.2.1, bt306.2.2.2.1, bt306.2.2.2.2.1, bt306.2.2.2.2.2))))
def prod_Mul.f (k : Nat) (a0 : Int) (a1 : Int) (a2 : Int) (a3 : Int) : Option (Int × Bool × Bool × Bool × Bool × Bool) := (sum_Nans.f k a0 (([a2, a3] : List Int))).bind fun bt281 => (if bt281.2.2.2.2.2.2 = true then (some (bt281.1, bt281.2.1, bt281.2.2.1, bt281.2.2.2.1, bt281.2.2.2.2.1, bt281.2.2.2.2.2.1)) else ((prod_torn.f k a0 a2 a3).bind fun t289 => (if t289 = true then ((sum_Bad.f a0).bind fun bt290 => (some (bt290.1, bt290.2.1, bt290.2.2.1, bt290.2.2.2.1, bt290.2.2.2.2.1, bt290.2.2.2.2.2))) else ((format_Neg.f a0 a2).bind fun t296 => ((format_Neg.f a0 a3).bind fun t297 => ((format_IsInf.f k a0 a2).bind fun t298 => (if t298 = true then (prod_Mul.j0 k a0 a1 a2 a3 (t296 != t297) true) else ((format_IsInf.f k a0 a3).bind fun t299 => (prod_Mul.j0 k a0 a1 a2 a3 (t296 != t297) t299)))))))))
theorem prod_Mul.mono_l : ∀ k, (∀ y0 y1 y2 y3 y4 y5, LeO (prod_Mul.j0 k y0 y1 y2 y3 y4 y5) (prod_Mul.j0 (k + 1) y0 y1 y2 y3 y4 y5))
 |0 => fun _ _ _ _ _ _ r h => by simp [prod_Mul.j0] at h
 |k + 1 => by
  have ih0 := prod_Mul.mono_l k
  ·intro y0 y1 y2 y3 y4 y5
   unfold prod_Mul.j0
   repeat' first
   |(with_reducible exact ih0 _ _ _ _ _ _)
   |(with_reducible exact format_IsInf.mono _ _ _)
   |(with_reducible exact prod_torn.mono _ _ _ _)
   |(with_reducible exact round_Pack.mono _ _ _ _ _ _ _)
   |(with_reducible exact sum_Nans.mono _ _ _)
   |(with_reducible exact LeO.refl _)
   |(with_reducible exact LeO.none _)
   |(with_reducible refine LeO.ite ?_ ?_)
   |(with_reducible refine LeO.bind ?_ (fun _ => ?_))
   |exact ih0 _ _ _ _ _ _
   |exact format_IsInf.mono _ _ _
   |exact prod_torn.mono _ _ _ _
   |exact round_Pack.mono _ _ _ _ _ _ _
   |exact sum_Nans.mono _ _ _
   |exact LeO.none _
   |refine LeO.ite ?_ ?_
   |refine LeO.bind ?_ (fun _ => ?_)
theorem prod_Mul.mono : ∀ a0 a1 a2 a3 k, LeO (prod_Mul.f k a0 a1 a2 a3) (prod_Mul.f (k + 1) a0 a1 a2 a3) := by
 intro a0 a1 a2 a3 k
 have ih0 := prod_Mul.mono_l k
 unfold prod_Mul.f
 repeat' first
   |(with_reducible exact ih0 _ _ _ _ _ _)
   |(with_reducible exact format_IsInf.mono _ _ _)
   |(with_reducible exact prod_torn.mono _ _ _ _)
   |(with_reducible exact round_Pack.mono _ _ _ _ _ _ _)
   |(with_reducible exact sum_Nans.mono _ _ _)
   |(with_reducible exact LeO.refl _)
   |(with_reducible exact LeO.none _)
   |(with_reducible refine LeO.ite ?_ ?_)
   |(with_reducible refine LeO.bind ?_ (fun _ => ?_))
   |exact ih0 _ _ _ _ _ _
   |exact format_IsInf.mono _ _ _
   |exact prod_torn.mono _ _ _ _
   |exact round_Pack.mono _ _ _ _ _ _ _
   |exact sum_Nans.mono _ _ _
   |exact LeO.none _
   |refine LeO.ite ?_ ?_
   |refine LeO.bind ?_ (fun _ => ?_)

attribute [local go_sem] max2_int min2_int max_two min_two max_three min_three max_four min_four

-- NEED 2
/-! ### sum_Add: function 33 -/
mutual
def sum_Add.j0 : Nat → Int → Int → Int → Int → Bool → Bool → Bool → Option (Int × Bool × Bool × Bool × Bool × Bool)
 |0, _, _, _, _, _, _, _ => none
 |k + 1, x0, x1, x2, x3, x13, x14, x39 => if x39 = true then ((format_Neg.f x0 x2).bind fun t362 => ((format_Neg.f x0 x3).bind fun t363 => ((sum_Infinite.f k x0 t362 t363 x13 x14).bind fun bt364 => (some (bt364.1, bt364.2.1, bt364.2.2.1, bt364.2.2.2.1, bt364.2.2.2.2.1, bt364.2.2.2.2.2))))) else ((sum_Of.f x0 x2).bind fun bt370 => ((sum_Of.f x0 x3).bind fun bt374 => ((sum_Exact.f k bt370.1 bt370.2.1 bt370.2.2.1 bt370.2.2.2 bt374.1 bt374.2.1 bt374.2.2.1 bt374.2.2.2).bind fun bt380 => (if bt380.2.2.1 = 0 then (sum_Add.j1 k x0 x1 (!bt380.2.2.2) bt370.1 bt370.2.1 bt370.2.2.1 bt370.2.2.2 bt374.1 bt374.2.1 bt374.2.2.1 bt374.2.2.2 bt380.1 bt380.2.1 bt380.2.2.1 bt380.2.2.2) else (sum_Add.j1 k x0 x1 false bt370.1 bt370.2.1 bt370.2.2.1 bt370.2.2.2 bt374.1 bt374.2.1 bt374.2.2.1 bt374.2.2.2 bt380.1 bt380.2.1 bt380.2.2.1 bt380.2.2.2)))))
def sum_Add.j1 : Nat → Int → Int → Bool → Bool → Int → Int → Bool → Bool → Int → Int → Bool → Bool → Int → Int → Bool → Option (Int × Bool × Bool × Bool × Bool × Bool)
 |0, _, _, _, _, _, _, _, _, _, _, _, _, _, _, _ => none
 |k + 1, x0, x1, x68, x379000, x379001, x379002, x379003, x380000, x380001, x380002, x380003, x385000, x385001, x385002, x385003 => if x68 = true then ((sum_Nought.f x0 x1 x379000 x380000).bind fun t385 => (some (t385, false, false, false, false, false))) else ((round_Pack.f k x0 x1 x385000 x385001 x385002 x385003).bind fun bt386 => (some (bt386.1, bt386.2.1, bt386.2.2.1, bt386.2.2.2.1, bt386.2.2.2.2.1, bt386.2.2.2.2.2)))
end
def sum_Add.f (k : Nat) (a0 : Int) (a1 : Int) (a2 : Int) (a3 : Int) : Option (Int × Bool × Bool × Bool × Bool × Bool) := (sum_Nans.f k a0 (([a2, a3] : List Int))).bind fun bt352 => (if bt352.2.2.2.2.2.2 = true then (some (bt352.1, bt352.2.1, bt352.2.2.1, bt352.2.2.2.1, bt352.2.2.2.2.1, bt352.2.2.2.2.2.1)) else ((format_IsInf.f k a0 a2).bind fun t360 => ((format_IsInf.f k a0 a3).bind fun t361 => (if t360 = true then (sum_Add.j0 k a0 a1 a2 a3 t360 t361 true) else (sum_Add.j0 k a0 a1 a2 a3 t360 t361 t361)))))
theorem sum_Add.mono_l : ∀ k, (∀ y0 y1 y2 y3 y4 y5 y6, LeO (sum_Add.j0 k y0 y1 y2 y3 y4 y5 y6) (sum_Add.j0 (k + 1) y0 y1 y2 y3 y4 y5 y6)) ∧ (∀ y0 y1 y2 y3 y4 y5 y6 y7 y8 y9 y10 y11 y12 y13 y14, LeO (sum_Add.j1 k y0 y1 y2 y3 y4 y5 y6 y7 y8 y9 y10 y11 y12 y13 y14) (sum_Add.j1 (k + 1) y0 y1 y2 y3 y4 y5 y6 y7 y8 y9 y10 y11 y12 y13 y14))
 |0 => ⟨fun _ _ _ _ _ _ _ r h => by simp [sum_Add.j0] at h, fun _ _ _ _ _ _ _ _ _ _ _ _ _ _ _ r h => by simp [sum_Add.j1] at h⟩
 |k + 1 => by
  obtain ⟨ih0, ih1⟩ := sum_Add.mono_l k
  refine ⟨?_, ?_⟩
  ·intro y0 y1 y2 y3 y4 y5 y6
   unfold sum_Add.j0
   repeat' first
   |(with_reducible exact ih0 _ _ _ _ _ _ _)
   |(with_reducible exact ih1 _ _ _ _ _ _ _ _ _ _ _ _ _ _ _)
   |(with_reducible exact format_IsInf.mono _ _ _)
   |(with_reducible exact round_Pack.mono _ _ _ _ _ _ _)
   |(with_reducible exact sum_Exact.mono _ _ _ _ _ _ _ _ _)
   |(with_reducible exact sum_Infinite.mono _ _ _ _ _ _)
   |(with_reducible exact sum_Nans.mono _ _ _)
   |(with_reducible exact LeO.refl _)
   |(with_reducible exact LeO.none _)
   |(with_reducible refine LeO.ite ?_ ?_)
   |(with_reducible refine LeO.bind ?_ (fun _ => ?_))
   |exact ih0 _ _ _ _ _ _ _
   |exact ih1 _ _ _ _ _ _ _ _ _ _ _ _ _ _ _
   |exact format_IsInf.mono _ _ _
   |exact round_Pack.mono _ _ _ _ _ _ _
   |exact sum_Exact.mono _ _ _ _ _ _ _ _ _
   |exact sum_Infinite.mono _ _ _ _ _ _
   |exact sum_Nans.mono _ _ _
   |exact LeO.none _
   |refine LeO.ite ?_ ?_
   |refine LeO.bind ?_ (fun _ => ?_)
  ·intro y0 y1 y2 y3 y4 y5 y6 y7 y8 y9 y10 y11 y12 y13 y14
   unfold sum_Add.j1
   repeat' first
   |(with_reducible exact ih0 _ _ _ _ _ _ _)
   |(with_reducible exact ih1 _ _ _ _ _ _ _ _ _ _ _ _ _ _ _)
   |(with_reducible exact format_IsInf.mono _ _ _)
   |(with_reducible exact round_Pack.mono _ _ _ _ _ _ _)
   |(with_reducible exact sum_Exact.mono _ _ _ _ _ _ _ _ _)
   |(with_reducible exact sum_Infinite.mono _ _ _ _ _ _)
   |(with_reducible exact sum_Nans.mono _ _ _)
   |(with_reducible exact LeO.refl _)
   |(with_reducible exact LeO.none _)
   |(with_reducible refine LeO.ite ?_ ?_)
   |(with_reducible refine LeO.bind ?_ (fun _ => ?_))
   |exact ih0 _ _ _ _ _ _ _
   |exact ih1 _ _ _ _ _ _ _ _ _ _ _ _ _ _ _
   |exact format_IsInf.mono _ _ _
   |exact round_Pack.mono _ _ _ _ _ _ _
   |exact sum_Exact.mono _ _ _ _ _ _ _ _ _
   |exact sum_Infinite.mono _ _ _ _ _ _
   |exact sum_Nans.mono _ _ _
   |exact LeO.none _
   |refine LeO.ite ?_ ?_
   |refine LeO.bind ?_ (fun _ => ?_)
theorem sum_Add.mono : ∀ a0 a1 a2 a3 k, LeO (sum_Add.f k a0 a1 a2 a3) (sum_Add.f (k + 1) a0 a1 a2 a3) := by
 intro a0 a1 a2 a3 k
 obtain ⟨ih0, ih1⟩ := sum_Add.mono_l k
 unfold sum_Add.f
 repeat' first
   |(with_reducible exact ih0 _ _ _ _ _ _ _)
   |(with_reducible exact ih1 _ _ _ _ _ _ _ _ _ _ _ _ _ _ _)
   |(with_reducible exact format_IsInf.mono _ _ _)
   |(with_reducible exact round_Pack.mono _ _ _ _ _ _ _)
   |(with_reducible exact sum_Exact.mono _ _ _ _ _ _ _ _ _)
   |(with_reducible exact sum_Infinite.mono _ _ _ _ _ _)
   |(with_reducible exact sum_Nans.mono _ _ _)
   |(with_reducible exact LeO.refl _)
   |(with_reducible exact LeO.none _)
   |(with_reducible refine LeO.ite ?_ ?_)
   |(with_reducible refine LeO.bind ?_ (fun _ => ?_))
   |exact ih0 _ _ _ _ _ _ _
   |exact ih1 _ _ _ _ _ _ _ _ _ _ _ _ _ _ _
   |exact format_IsInf.mono _ _ _
   |exact round_Pack.mono _ _ _ _ _ _ _
   |exact sum_Exact.mono _ _ _ _ _ _ _ _ _
   |exact sum_Infinite.mono _ _ _ _ _ _
   |exact sum_Nans.mono _ _ _
   |exact LeO.none _
   |refine LeO.ite ?_ ?_
   |refine LeO.bind ?_ (fun _ => ?_)

attribute [local go_sem] max2_int min2_int max_two min_two max_three min_three max_four min_four

-- NEED 2
/-! ### prod_Fma: function 72 -/
mutual
def prod_Fma.j0 : Nat → Int → Int → Int → Int → Int → Bool → Bool → Bool → Option (Int × Bool × Bool × Bool × Bool × Bool)
 |0, _, _, _, _, _, _, _, _ => none
 |k + 1, x0, x1, x2, x3, x4, x16, x17, x18 => if x17 = true then (prod_Fma.j1 k x0 x1 x2 x3 x4 x16 x17 x18 true) else (prod_Fma.j1 k x0 x1 x2 x3 x4 x16 x17 x18 x18)
def prod_Fma.j1 : Nat → Int → Int → Int → Int → Int → Bool → Bool → Bool → Bool → Option (Int × Bool × Bool × Bool × Bool × Bool)
 |0, _, _, _, _, _, _, _, _, _ => none
 |k + 1, x0, x1, x2, x3, x4, x16, x17, x18, x71 => if x71 = true then ((format_Neg.f x0 x4).bind fun t459 => ((sum_Infinite.f k x0 x16 t459 x17 x18).bind fun bt460 => (some (bt460.1, bt460.2.1, bt460.2.2.1, bt460.2.2.2.1, bt460.2.2.2.2.1, bt460.2.2.2.2.2)))) else ((prod_product.f x0 x2 x3).bind fun bt466 => ((sum_Of.f x0 x4).bind fun bt470 => ((sum_Exact.f k bt466.1 bt466.2.1 bt466.2.2.1 bt466.2.2.2 bt470.1 bt470.2.1 bt470.2.2.1 bt470.2.2.2).bind fun bt476 => (if bt476.2.2.1 = 0 then (prod_Fma.j2 k x0 x1 x16 (!bt476.2.2.2) bt470.1 bt470.2.1 bt470.2.2.1 bt470.2.2.2 bt476.1 bt476.2.1 bt476.2.2.1 bt476.2.2.2) else (prod_Fma.j2 k x0 x1 x16 false bt470.1 bt470.2.1 bt470.2.2.1 bt470.2.2.2 bt476.1 bt476.2.1 bt476.2.2.1 bt476.2.2.2)))))
def prod_Fma.j2 : Nat → Int → Int → Bool → Bool → Bool → Int → Int → Bool → Bool → Int → Int → Bool → Option (Int × Bool × Bool × Bool × Bool × Bool)
 |0, _, _, _, _, _, _, _, _, _, _, _, _ => none
 |k + 1, x0, x1, x16, x99, x476000, x476001, x476002, x476003, x481000, x481001, x481002, x481003 => if x99 = true then ((sum_Nought.f x0 x1 x16 x476000).bind fun t481 => (some (t481, false, false, false, false, false))) else ((round_Pack.f k x0 x1 x481000 x481001 x481002 x481003).bind fun bt482 => (some (bt482.1, bt482.2.1, bt482.2.2.1, bt482.2.2.2.1, bt482.2.2.2.2.1, bt482.2.2.2.2.2)))
end
def prod_Fma.f (k : Nat) (a0 : Int) (a1 : Int) (a2 : Int) (a3 : Int) (a4 : Int) : Option (Int × Bool × Bool × Bool × Bool × Bool) := (prod_torn.f k a0 a2 a3).bind fun t435 => ((sum_Nans.f k a0 (([a2, a3, a4] : List Int))).bind fun bt439 => (if bt439.2.2.2.2.2.2 = true then (if bt439.2.1 = true then (some (bt439.1, true, bt439.2.2.1, bt439.2.2.2.1, bt439.2.2.2.2.1, bt439.2.2.2.2.2.1)) else (some (bt439.1, t435, bt439.2.2.1, bt439.2.2.2.1, bt439.2.2.2.2.1, bt439.2.2.2.2.2.1))) else (if t435 = true then ((sum_Bad.f a0).bind fun bt447 => (some (bt447.1, bt447.2.1, bt447.2.2.1, bt447.2.2.2.1, bt447.2.2.2.2.1, bt447.2.2.2.2.2))) else ((format_Neg.f a0 a2).bind fun t453 => ((format_Neg.f a0 a3).bind fun t454 => ((format_IsInf.f k a0 a2).bind fun t455 => (if t455 = true then ((format_IsInf.f k a0 a4).bind fun t456 => (prod_Fma.j0 k a0 a1 a2 a3 a4 (t453 != t454) true t456)) else ((format_IsInf.f k a0 a3).bind fun t457 => ((format_IsInf.f k a0 a4).bind fun t458 => (prod_Fma.j0 k a0 a1 a2 a3 a4 (t453 != t454) t457 t458))))))))))
theorem prod_Fma.mono_l : ∀ k, (∀ y0 y1 y2 y3 y4 y5 y6 y7, LeO (prod_Fma.j0 k y0 y1 y2 y3 y4 y5 y6 y7) (prod_Fma.j0 (k + 1) y0 y1 y2 y3 y4 y5 y6 y7)) ∧ (∀ y0 y1 y2 y3 y4 y5 y6 y7 y8, LeO (prod_Fma.j1 k y0 y1 y2 y3 y4 y5 y6 y7 y8) (prod_Fma.j1 (k + 1) y0 y1 y2 y3 y4 y5 y6 y7 y8)) ∧ (∀ y0 y1 y2 y3 y4 y5 y6 y7 y8 y9 y10 y11, LeO (prod_Fma.j2 k y0 y1 y2 y3 y4 y5 y6 y7 y8 y9 y10 y11) (prod_Fma.j2 (k + 1) y0 y1 y2 y3 y4 y5 y6 y7 y8 y9 y10 y11))
 |0 => ⟨fun _ _ _ _ _ _ _ _ r h => by simp [prod_Fma.j0] at h, fun _ _ _ _ _ _ _ _ _ r h => by simp [prod_Fma.j1] at h, fun _ _ _ _ _ _ _ _ _ _ _ _ r h => by simp [prod_Fma.j2] at h⟩
 |k + 1 => by
  obtain ⟨ih0, ih1, ih2⟩ := prod_Fma.mono_l k
  refine ⟨?_, ?_, ?_⟩
  ·intro y0 y1 y2 y3 y4 y5 y6 y7
   unfold prod_Fma.j0
   repeat' first
   |(with_reducible exact ih0 _ _ _ _ _ _ _ _)
   |(with_reducible exact ih1 _ _ _ _ _ _ _ _ _)
   |(with_reducible exact ih2 _ _ _ _ _ _ _ _ _ _ _ _)
   |(with_reducible exact format_IsInf.mono _ _ _)
   |(with_reducible exact prod_torn.mono _ _ _ _)
   |(with_reducible exact round_Pack.mono _ _ _ _ _ _ _)
   |(with_reducible exact sum_Exact.mono _ _ _ _ _ _ _ _ _)
   |(with_reducible exact sum_Infinite.mono _ _ _ _ _ _)
   |(with_reducible exact sum_Nans.mono _ _ _)
   |(with_reducible exact LeO.refl _)
   |(with_reducible exact LeO.none _)
   |(with_reducible refine LeO.ite ?_ ?_)
   |(with_reducible refine LeO.bind ?_ (fun _ => ?_))
   |exact ih0 _ _ _ _ _ _ _ _
   |exact ih1 _ _ _ _ _ _ _ _ _
   |exact ih2 _ _ _ _ _ _ _ _ _ _ _ _
   |exact format_IsInf.mono _ _ _
   |exact prod_torn.mono _ _ _ _
   |exact round_Pack.mono _ _ _ _ _ _ _
   |exact sum_Exact.mono _ _ _ _ _ _ _ _ _
   |exact sum_Infinite.mono _ _ _ _ _ _
   |exact sum_Nans.mono _ _ _
   |exact LeO.none _
   |refine LeO.ite ?_ ?_
   |refine LeO.bind ?_ (fun _ => ?_)
  ·intro y0 y1 y2 y3 y4 y5 y6 y7 y8
   unfold prod_Fma.j1
   repeat' first
   |(with_reducible exact ih0 _ _ _ _ _ _ _ _)
   |(with_reducible exact ih1 _ _ _ _ _ _ _ _ _)
   |(with_reducible exact ih2 _ _ _ _ _ _ _ _ _ _ _ _)
   |(with_reducible exact format_IsInf.mono _ _ _)
   |(with_reducible exact prod_torn.mono _ _ _ _)
   |(with_reducible exact round_Pack.mono _ _ _ _ _ _ _)
   |(with_reducible exact sum_Exact.mono _ _ _ _ _ _ _ _ _)
   |(with_reducible exact sum_Infinite.mono _ _ _ _ _ _)
   |(with_reducible exact sum_Nans.mono _ _ _)
   |(with_reducible exact LeO.refl _)
   |(with_reducible exact LeO.none _)
   |(with_reducible refine LeO.ite ?_ ?_)
   |(with_reducible refine LeO.bind ?_ (fun _ => ?_))
   |exact ih0 _ _ _ _ _ _ _ _
   |exact ih1 _ _ _ _ _ _ _ _ _
   |exact ih2 _ _ _ _ _ _ _ _ _ _ _ _
   |exact format_IsInf.mono _ _ _
   |exact prod_torn.mono _ _ _ _
   |exact round_Pack.mono _ _ _ _ _ _ _
   |exact sum_Exact.mono _ _ _ _ _ _ _ _ _
   |exact sum_Infinite.mono _ _ _ _ _ _
   |exact sum_Nans.mono _ _ _
   |exact LeO.none _
   |refine LeO.ite ?_ ?_
   |refine LeO.bind ?_ (fun _ => ?_)
  ·intro y0 y1 y2 y3 y4 y5 y6 y7 y8 y9 y10 y11
   unfold prod_Fma.j2
   repeat' first
   |(with_reducible exact ih0 _ _ _ _ _ _ _ _)
   |(with_reducible exact ih1 _ _ _ _ _ _ _ _ _)
   |(with_reducible exact ih2 _ _ _ _ _ _ _ _ _ _ _ _)
   |(with_reducible exact format_IsInf.mono _ _ _)
   |(with_reducible exact prod_torn.mono _ _ _ _)
   |(with_reducible exact round_Pack.mono _ _ _ _ _ _ _)
   |(with_reducible exact sum_Exact.mono _ _ _ _ _ _ _ _ _)
   |(with_reducible exact sum_Infinite.mono _ _ _ _ _ _)
   |(with_reducible exact sum_Nans.mono _ _ _)
   |(with_reducible exact LeO.refl _)
   |(with_reducible exact LeO.none _)
   |(with_reducible refine LeO.ite ?_ ?_)
   |(with_reducible refine LeO.bind ?_ (fun _ => ?_))
   |exact ih0 _ _ _ _ _ _ _ _
   |exact ih1 _ _ _ _ _ _ _ _ _
   |exact ih2 _ _ _ _ _ _ _ _ _ _ _ _
   |exact format_IsInf.mono _ _ _
   |exact prod_torn.mono _ _ _ _
   |exact round_Pack.mono _ _ _ _ _ _ _
   |exact sum_Exact.mono _ _ _ _ _ _ _ _ _
   |exact sum_Infinite.mono _ _ _ _ _ _
   |exact sum_Nans.mono _ _ _
   |exact LeO.none _
   |refine LeO.ite ?_ ?_
   |refine LeO.bind ?_ (fun _ => ?_)
theorem prod_Fma.mono : ∀ a0 a1 a2 a3 a4 k, LeO (prod_Fma.f k a0 a1 a2 a3 a4) (prod_Fma.f (k + 1) a0 a1 a2 a3 a4) := by
 intro a0 a1 a2 a3 a4 k
 obtain ⟨ih0, ih1, ih2⟩ := prod_Fma.mono_l k
 unfold prod_Fma.f
 repeat' first
   |(with_reducible exact ih0 _ _ _ _ _ _ _ _)
   |(with_reducible exact ih1 _ _ _ _ _ _ _ _ _)
   |(with_reducible exact ih2 _ _ _ _ _ _ _ _ _ _ _ _)
   |(with_reducible exact format_IsInf.mono _ _ _)
   |(with_reducible exact prod_torn.mono _ _ _ _)
   |(with_reducible exact round_Pack.mono _ _ _ _ _ _ _)
   |(with_reducible exact sum_Exact.mono _ _ _ _ _ _ _ _ _)
   |(with_reducible exact sum_Infinite.mono _ _ _ _ _ _)
   |(with_reducible exact sum_Nans.mono _ _ _)
   |(with_reducible exact LeO.refl _)
   |(with_reducible exact LeO.none _)
   |(with_reducible refine LeO.ite ?_ ?_)
   |(with_reducible refine LeO.bind ?_ (fun _ => ?_))
   |exact ih0 _ _ _ _ _ _ _ _
   |exact ih1 _ _ _ _ _ _ _ _ _
   |exact ih2 _ _ _ _ _ _ _ _ _ _ _ _
   |exact format_IsInf.mono _ _ _
   |exact prod_torn.mono _ _ _ _
   |exact round_Pack.mono _ _ _ _ _ _ _
   |exact sum_Exact.mono _ _ _ _ _ _ _ _ _
   |exact sum_Infinite.mono _ _ _ _ _ _
   |exact sum_Nans.mono _ _ _
   |exact LeO.none _
   |refine LeO.ite ?_ ?_
   |refine LeO.bind ?_ (fun _ => ?_)

/- What the reckoner tells of printed functions. -/
theorem quot_Div.j1_le {k n : Nat} (hk : k ≤ n) {x0 : Int} {x1 : Int} {x2 : Int} {x3 : Int} {x13 : Bool} {x15 : Int} {x69 : Bool} {ex7 : Bool} {ex8 : Bool} {ex9 : Bool} {ex10 : Bool} {ex11 : Bool} : LeO (quot_Div.j1 k x0 x1 x2 x3 x13 x15 x69) (L.quot_Div.j11 n x69 x15 x13 x3 x2 x1 x0 ex7 ex8 ex9 ex10 ex11) := by
 cases k with
 |zero => rw [quot_Div.j1]; exact LeO.none _
 |succ k =>
 replace hk := Nat.le_of_succ_le hk
 rw [quot_Div.j1, L.quot_Div.j11_eq]
 repeat' first
  |(with_reducible exact LeO.refl _)
  |exact LeO.none _
  |(with_reducible exact fun r h => at_rounds (sum_Nans.mono _ _) hk h)
  |(with_reducible exact fun r h => at_rounds (format_Class.mono _ _) hk h)
  |(with_reducible exact fun r h => at_rounds (bits_Len.mono _) hk h)
  |(with_reducible exact fun r h => at_rounds (bits_Shift.mono _ _) hk h)
  |(with_reducible exact round_Pack.le hk)
  |(with_reducible refine LeO.bind ?_ (fun _ => ?_))
  |(with_reducible refine LeO.ite3 Iff.rfl (fun _ => ?_) (fun _ => ?_))
  |exact fun r h => at_rounds (sum_Nans.mono _ _) hk h
  |exact fun r h => at_rounds (format_Class.mono _ _) hk h
  |exact fun r h => at_rounds (bits_Len.mono _) hk h
  |exact fun r h => at_rounds (bits_Shift.mono _ _) hk h
  |exact round_Pack.le hk
  |exact LeO.refl _
  |(with_reducible refine LeO.pos (by assumption) ?_)
  |(with_reducible refine LeO.neg (by assumption) ?_)
  |(with_reducible refine LeO.posl (by assumption) ?_)
  |(with_reducible refine LeO.negl (by assumption) ?_)
  |(with_reducible refine LeO.ite3 (by omega) (fun _ => ?_) (fun _ => ?_))
theorem quot_Div.j0_le {k n : Nat} (hk : k ≤ n) {x0 : Int} {x1 : Int} {x2 : Int} {x3 : Int} {x13 : Bool} {x14 : Int} {x15 : Int} {x46 : Bool} {ex8 : Bool} {ex9 : Bool} {ex10 : Bool} {ex11 : Bool} {ex12 : Bool} : LeO (quot_Div.j0 k x0 x1 x2 x3 x13 x14 x15 x46) (L.quot_Div.j7 n x46 x15 x14 x13 x3 x2 x1 x0 ex8 ex9 ex10 ex11 ex12) := by
 cases k with
 |zero => rw [quot_Div.j0]; exact LeO.none _
 |succ k =>
 replace hk := Nat.le_of_succ_le hk
 rw [quot_Div.j0, L.quot_Div.j7_eq]
 repeat' first
  |(with_reducible exact LeO.refl _)
  |exact LeO.none _
  |(with_reducible exact quot_Div.j1_le hk)
  |(with_reducible exact fun r h => at_rounds (sum_Nans.mono _ _) hk h)
  |(with_reducible exact fun r h => at_rounds (format_Class.mono _ _) hk h)
  |(with_reducible exact fun r h => at_rounds (bits_Len.mono _) hk h)
  |(with_reducible exact fun r h => at_rounds (bits_Shift.mono _ _) hk h)
  |(with_reducible exact round_Pack.le hk)
  |(with_reducible refine LeO.bind ?_ (fun _ => ?_))
  |(with_reducible refine LeO.ite3 Iff.rfl (fun _ => ?_) (fun _ => ?_))
  |exact quot_Div.j1_le hk
  |exact fun r h => at_rounds (sum_Nans.mono _ _) hk h
  |exact fun r h => at_rounds (format_Class.mono _ _) hk h
  |exact fun r h => at_rounds (bits_Len.mono _) hk h
  |exact fun r h => at_rounds (bits_Shift.mono _ _) hk h
  |exact round_Pack.le hk
  |exact LeO.refl _
  |(with_reducible refine LeO.pos (by assumption) ?_)
  |(with_reducible refine LeO.neg (by assumption) ?_)
  |(with_reducible refine LeO.posl (by assumption) ?_)
  |(with_reducible refine LeO.negl (by assumption) ?_)
  |(with_reducible refine LeO.ite3 (by omega) (fun _ => ?_) (fun _ => ?_))
set_option maxHeartbeats 4000000 in
theorem quot_Div.le {k n : Nat} (hk : k ≤ n) {a0 : Int} {a1 : Int} {a2 : Int} {a3 : Int} : LeO (quot_Div.f k a0 a1 a2 a3) (L.quot_Div.f n a0 a1 a2 a3) := by
 unfold quot_Div.f
 rw [L.quot_Div.eq]
 try simp only [Bool.and_true]
 repeat' first
  |(with_reducible exact LeO.refl _)
  |exact LeO.none _
  |(with_reducible exact quot_Div.j1_le hk)
  |(with_reducible exact quot_Div.j0_le hk)
  |(with_reducible exact fun r h => at_rounds (sum_Nans.mono _ _) hk h)
  |(with_reducible exact fun r h => at_rounds (format_Class.mono _ _) hk h)
  |(with_reducible exact fun r h => at_rounds (bits_Len.mono _) hk h)
  |(with_reducible exact fun r h => at_rounds (bits_Shift.mono _ _) hk h)
  |(with_reducible exact round_Pack.le hk)
  |(with_reducible refine LeO.bind ?_ (fun _ => ?_))
  |(with_reducible refine LeO.ite3 Iff.rfl (fun _ => ?_) (fun _ => ?_))
  |exact quot_Div.j1_le hk
  |exact quot_Div.j0_le hk
  |exact fun r h => at_rounds (sum_Nans.mono _ _) hk h
  |exact fun r h => at_rounds (format_Class.mono _ _) hk h
  |exact fun r h => at_rounds (bits_Len.mono _) hk h
  |exact fun r h => at_rounds (bits_Shift.mono _ _) hk h
  |exact round_Pack.le hk
  |exact LeO.refl _
  |(with_reducible refine LeO.pos (by assumption) ?_)
  |(with_reducible refine LeO.neg (by assumption) ?_)
  |(with_reducible refine LeO.posl (by assumption) ?_)
  |(with_reducible refine LeO.negl (by assumption) ?_)
  |(with_reducible refine LeO.ite3 (by omega) (fun _ => ?_) (fun _ => ?_))
theorem quot_Div.calls (k : Nat) (a0 : Int) (a1 : Int) (a2 : Int) (a3 : Int) (r1 : Int) (r2 : Bool) (r3 : Bool) (r4 : Bool) (r5 : Bool) (r6 : Bool) (w : World) (h : quot_Div.f k a0 a1 a2 a3 = some (r1, r2, r3, r4, r5, r6)) :
  Calls Try.prog 13 #[.int .i64 a0, .int .i64 a1, .int .u32 a2, .int .u32 a3] w fun e w' => e = .returned (.tuple #[.int .u32 r1, .agg #[.bool r2, .bool r3, .bool r4, .bool r5, .bool r6]]) ∧ Below w.heap.size w w' :=
 Go.Proofs.Ytjlgmfgjleajfaa.Ek.calls_of L.quot_Div.ok k ((a0, ()), (a1, ()), (a2, ()), (a3, ()), ()) (r1, r2, r3, r4, r5, r6) rfl (quot_Div.le (Nat.le_refl _) _ h) w
theorem prod_Mul.j0_le {k n : Nat} (hk : k ≤ n) {x0 : Int} {x1 : Int} {x2 : Int} {x3 : Int} {x13 : Bool} {x49 : Bool} {ex6 : Bool} {ex7 : Bool} {ex8 : Bool} {ex9 : Bool} {ex10 : Bool} : LeO (prod_Mul.j0 k x0 x1 x2 x3 x13 x49) (L.prod_Mul.j8 n x49 x13 x3 x2 x1 x0 ex6 ex7 ex8 ex9 ex10) := by
 cases k with
 |zero => rw [prod_Mul.j0]; exact LeO.none _
 |succ k =>
 replace hk := Nat.le_of_succ_le hk
 rw [prod_Mul.j0, L.prod_Mul.j8_eq]
 repeat' first
  |(with_reducible exact LeO.refl _)
  |exact LeO.none _
  |(with_reducible exact fun r h => at_rounds (sum_Nans.mono _ _) hk h)
  |(with_reducible exact fun r h => at_rounds (prod_torn.mono _ _ _) hk h)
  |(with_reducible exact fun r h => at_rounds (format_IsInf.mono _ _) hk h)
  |(with_reducible exact round_Pack.le hk)
  |(with_reducible refine LeO.bind ?_ (fun _ => ?_))
  |(with_reducible refine LeO.ite3 Iff.rfl (fun _ => ?_) (fun _ => ?_))
  |exact fun r h => at_rounds (sum_Nans.mono _ _) hk h
  |exact fun r h => at_rounds (prod_torn.mono _ _ _) hk h
  |exact fun r h => at_rounds (format_IsInf.mono _ _) hk h
  |exact round_Pack.le hk
  |exact LeO.refl _
  |(with_reducible refine LeO.pos (by assumption) ?_)
  |(with_reducible refine LeO.neg (by assumption) ?_)
  |(with_reducible refine LeO.posl (by assumption) ?_)
  |(with_reducible refine LeO.negl (by assumption) ?_)
  |(with_reducible refine LeO.ite3 (by omega) (fun _ => ?_) (fun _ => ?_))
set_option maxHeartbeats 4000000 in
theorem prod_Mul.le {k n : Nat} (hk : k ≤ n) {a0 : Int} {a1 : Int} {a2 : Int} {a3 : Int} : LeO (prod_Mul.f k a0 a1 a2 a3) (L.prod_Mul.f n a0 a1 a2 a3) := by
 unfold prod_Mul.f
 rw [L.prod_Mul.eq]
 try simp only [Bool.and_true]
 repeat' first
  |(with_reducible exact LeO.refl _)
  |exact LeO.none _
  |(with_reducible exact prod_Mul.j0_le hk)
  |(with_reducible exact fun r h => at_rounds (sum_Nans.mono _ _) hk h)
  |(with_reducible exact fun r h => at_rounds (prod_torn.mono _ _ _) hk h)
  |(with_reducible exact fun r h => at_rounds (format_IsInf.mono _ _) hk h)
  |(with_reducible exact round_Pack.le hk)
  |(with_reducible refine LeO.bind ?_ (fun _ => ?_))
  |(with_reducible refine LeO.ite3 Iff.rfl (fun _ => ?_) (fun _ => ?_))
  |exact prod_Mul.j0_le hk
  |exact fun r h => at_rounds (sum_Nans.mono _ _) hk h
  |exact fun r h => at_rounds (prod_torn.mono _ _ _) hk h
  |exact fun r h => at_rounds (format_IsInf.mono _ _) hk h
  |exact round_Pack.le hk
  |exact LeO.refl _
  |(with_reducible refine LeO.pos (by assumption) ?_)
  |(with_reducible refine LeO.neg (by assumption) ?_)
  |(with_reducible refine LeO.posl (by assumption) ?_)
  |(with_reducible refine LeO.negl (by assumption) ?_)
  |(with_reducible refine LeO.ite3 (by omega) (fun _ => ?_) (fun _ => ?_))
theorem prod_Mul.calls (k : Nat) (a0 : Int) (a1 : Int) (a2 : Int) (a3 : Int) (r1 : Int) (r2 : Bool) (r3 : Bool) (r4 : Bool) (r5 : Bool) (r6 : Bool) (w : World) (h : prod_Mul.f k a0 a1 a2 a3 = some (r1, r2, r3, r4, r5, r6)) :
  Calls Try.prog 32 #[.int .i64 a0, .int .i64 a1, .int .u32 a2, .int .u32 a3] w fun e w' => e = .returned (.tuple #[.int .u32 r1, .agg #[.bool r2, .bool r3, .bool r4, .bool r5, .bool r6]]) ∧ Below w.heap.size w w' :=
 Go.Proofs.Ytjlgmfgjleajfaa.Ek.calls_of L.prod_Mul.ok k ((a0, ()), (a1, ()), (a2, ()), (a3, ()), ()) (r1, r2, r3, r4, r5, r6) rfl (prod_Mul.le (Nat.le_refl _) _ h) w
theorem sum_Add.j1_le {k n : Nat} (hk : k ≤ n) {x0 : Int} {x1 : Int} {x68 : Bool} {x379000 : Bool} {x379001 : Int} {x379002 : Int} {x379003 : Bool} {x380000 : Bool} {x380001 : Int} {x380002 : Int} {x380003 : Bool} {x385000 : Bool} {x385001 : Int} {x385002 : Int} {x385003 : Bool} {ex15 : Bool} {ex16 : Bool} {ex17 : Bool} {ex18 : Bool} {ex19 : Bool} : LeO (sum_Add.j1 k x0 x1 x68 x379000 x379001 x379002 x379003 x380000 x380001 x380002 x380003 x385000 x385001 x385002 x385003) (L.sum_Add.j10 n x68 x1 x0 x385000 x385001 x385002 x385003 x380000 x380001 x380002 x380003 x379000 x379001 x379002 x379003 ex15 ex16 ex17 ex18 ex19) := by
 cases k with
 |zero => rw [sum_Add.j1]; exact LeO.none _
 |succ k =>
 replace hk := Nat.le_of_succ_le hk
 rw [sum_Add.j1, L.sum_Add.j10_eq]
 repeat' first
  |(with_reducible exact LeO.refl _)
  |exact LeO.none _
  |(with_reducible exact fun r h => at_rounds (sum_Nans.mono _ _) hk h)
  |(with_reducible exact fun r h => at_rounds (format_IsInf.mono _ _) hk h)
  |(with_reducible exact fun r h => at_rounds (sum_Infinite.mono _ _ _ _ _) hk h)
  |(with_reducible exact sum_Exact.le hk)
  |(with_reducible exact round_Pack.le hk)
  |(with_reducible refine LeO.bind ?_ (fun _ => ?_))
  |(with_reducible refine LeO.ite3 Iff.rfl (fun _ => ?_) (fun _ => ?_))
  |exact fun r h => at_rounds (sum_Nans.mono _ _) hk h
  |exact fun r h => at_rounds (format_IsInf.mono _ _) hk h
  |exact fun r h => at_rounds (sum_Infinite.mono _ _ _ _ _) hk h
  |exact sum_Exact.le hk
  |exact round_Pack.le hk
  |exact LeO.refl _
  |(with_reducible refine LeO.pos (by assumption) ?_)
  |(with_reducible refine LeO.neg (by assumption) ?_)
  |(with_reducible refine LeO.posl (by assumption) ?_)
  |(with_reducible refine LeO.negl (by assumption) ?_)
  |(with_reducible refine LeO.ite3 (by omega) (fun _ => ?_) (fun _ => ?_))
theorem sum_Add.j0_le {k n : Nat} (hk : k ≤ n) {x0 : Int} {x1 : Int} {x2 : Int} {x3 : Int} {x13 : Bool} {x14 : Bool} {x39 : Bool} {ex7 : Bool} {ex8 : Bool} {ex9 : Bool} {ex10 : Bool} {ex11 : Bool} : LeO (sum_Add.j0 k x0 x1 x2 x3 x13 x14 x39) (L.sum_Add.j6 n x39 x14 x13 x3 x2 x1 x0 ex7 ex8 ex9 ex10 ex11) := by
 cases k with
 |zero => rw [sum_Add.j0]; exact LeO.none _
 |succ k =>
 replace hk := Nat.le_of_succ_le hk
 rw [sum_Add.j0, L.sum_Add.j6_eq]
 repeat' first
  |(with_reducible exact LeO.refl _)
  |exact LeO.none _
  |(with_reducible exact sum_Add.j1_le hk)
  |(with_reducible exact fun r h => at_rounds (sum_Nans.mono _ _) hk h)
  |(with_reducible exact fun r h => at_rounds (format_IsInf.mono _ _) hk h)
  |(with_reducible exact fun r h => at_rounds (sum_Infinite.mono _ _ _ _ _) hk h)
  |(with_reducible exact sum_Exact.le hk)
  |(with_reducible exact round_Pack.le hk)
  |(with_reducible refine LeO.bind ?_ (fun _ => ?_))
  |(with_reducible refine LeO.ite3 Iff.rfl (fun _ => ?_) (fun _ => ?_))
  |exact sum_Add.j1_le hk
  |exact fun r h => at_rounds (sum_Nans.mono _ _) hk h
  |exact fun r h => at_rounds (format_IsInf.mono _ _) hk h
  |exact fun r h => at_rounds (sum_Infinite.mono _ _ _ _ _) hk h
  |exact sum_Exact.le hk
  |exact round_Pack.le hk
  |exact LeO.refl _
  |(with_reducible refine LeO.pos (by assumption) ?_)
  |(with_reducible refine LeO.neg (by assumption) ?_)
  |(with_reducible refine LeO.posl (by assumption) ?_)
  |(with_reducible refine LeO.negl (by assumption) ?_)
  |(with_reducible refine LeO.ite3 (by omega) (fun _ => ?_) (fun _ => ?_))
set_option maxHeartbeats 4000000 in
theorem sum_Add.le {k n : Nat} (hk : k ≤ n) {a0 : Int} {a1 : Int} {a2 : Int} {a3 : Int} : LeO (sum_Add.f k a0 a1 a2 a3) (L.sum_Add.f n a0 a1 a2 a3) := by
 unfold sum_Add.f
 rw [L.sum_Add.eq]
 try simp only [Bool.and_true]
 repeat' first
  |(with_reducible exact LeO.refl _)
  |exact LeO.none _
  |(with_reducible exact sum_Add.j1_le hk)
  |(with_reducible exact sum_Add.j0_le hk)
  |(with_reducible exact fun r h => at_rounds (sum_Nans.mono _ _) hk h)
  |(with_reducible exact fun r h => at_rounds (format_IsInf.mono _ _) hk h)
  |(with_reducible exact fun r h => at_rounds (sum_Infinite.mono _ _ _ _ _) hk h)
  |(with_reducible exact sum_Exact.le hk)
  |(with_reducible exact round_Pack.le hk)
  |(with_reducible refine LeO.bind ?_ (fun _ => ?_))
  |(with_reducible refine LeO.ite3 Iff.rfl (fun _ => ?_) (fun _ => ?_))
  |exact sum_Add.j1_le hk
  |exact sum_Add.j0_le hk
  |exact fun r h => at_rounds (sum_Nans.mono _ _) hk h
  |exact fun r h => at_rounds (format_IsInf.mono _ _) hk h
  |exact fun r h => at_rounds (sum_Infinite.mono _ _ _ _ _) hk h
  |exact sum_Exact.le hk
  |exact round_Pack.le hk
  |exact LeO.refl _
  |(with_reducible refine LeO.pos (by assumption) ?_)
  |(with_reducible refine LeO.neg (by assumption) ?_)
  |(with_reducible refine LeO.posl (by assumption) ?_)
  |(with_reducible refine LeO.negl (by assumption) ?_)
  |(with_reducible refine LeO.ite3 (by omega) (fun _ => ?_) (fun _ => ?_))
theorem sum_Add.calls (k : Nat) (a0 : Int) (a1 : Int) (a2 : Int) (a3 : Int) (r1 : Int) (r2 : Bool) (r3 : Bool) (r4 : Bool) (r5 : Bool) (r6 : Bool) (w : World) (h : sum_Add.f k a0 a1 a2 a3 = some (r1, r2, r3, r4, r5, r6)) :
  Calls Try.prog 33 #[.int .i64 a0, .int .i64 a1, .int .u32 a2, .int .u32 a3] w fun e w' => e = .returned (.tuple #[.int .u32 r1, .agg #[.bool r2, .bool r3, .bool r4, .bool r5, .bool r6]]) ∧ Below w.heap.size w w' :=
 Go.Proofs.Ytjlgmfgjleajfaa.Ek.calls_of L.sum_Add.ok k ((a0, ()), (a1, ()), (a2, ()), (a3, ()), ()) (r1, r2, r3, r4, r5, r6) rfl (sum_Add.le (Nat.le_refl _) _ h) w
theorem prod_Fma.j2_le {k n : Nat} (hk : k ≤ n) {x0 : Int} {x1 : Int} {x16 : Bool} {x99 : Bool} {x476000 : Bool} {x476001 : Int} {x476002 : Int} {x476003 : Bool} {x481000 : Bool} {x481001 : Int} {x481002 : Int} {x481003 : Bool} {ex12 : Bool} {ex13 : Bool} {ex14 : Bool} {ex15 : Bool} {ex16 : Bool} : LeO (prod_Fma.j2 k x0 x1 x16 x99 x476000 x476001 x476002 x476003 x481000 x481001 x481002 x481003) (L.prod_Fma.j15 n x99 x16 x1 x0 x481000 x481001 x481002 x481003 x476000 x476001 x476002 x476003 ex12 ex13 ex14 ex15 ex16) := by
 cases k with
 |zero => rw [prod_Fma.j2]; exact LeO.none _
 |succ k =>
 replace hk := Nat.le_of_succ_le hk
 rw [prod_Fma.j2, L.prod_Fma.j15_eq]
 repeat' first
  |(with_reducible exact LeO.refl _)
  |exact LeO.none _
  |(with_reducible exact fun r h => at_rounds (prod_torn.mono _ _ _) hk h)
  |(with_reducible exact fun r h => at_rounds (sum_Nans.mono _ _) hk h)
  |(with_reducible exact fun r h => at_rounds (format_IsInf.mono _ _) hk h)
  |(with_reducible exact fun r h => at_rounds (sum_Infinite.mono _ _ _ _ _) hk h)
  |(with_reducible exact sum_Exact.le hk)
  |(with_reducible exact round_Pack.le hk)
  |(with_reducible refine LeO.bind ?_ (fun _ => ?_))
  |(with_reducible refine LeO.ite3 Iff.rfl (fun _ => ?_) (fun _ => ?_))
  |exact fun r h => at_rounds (prod_torn.mono _ _ _) hk h
  |exact fun r h => at_rounds (sum_Nans.mono _ _) hk h
  |exact fun r h => at_rounds (format_IsInf.mono _ _) hk h
  |exact fun r h => at_rounds (sum_Infinite.mono _ _ _ _ _) hk h
  |exact sum_Exact.le hk
  |exact round_Pack.le hk
  |exact LeO.refl _
  |(with_reducible refine LeO.pos (by assumption) ?_)
  |(with_reducible refine LeO.neg (by assumption) ?_)
  |(with_reducible refine LeO.posl (by assumption) ?_)
  |(with_reducible refine LeO.negl (by assumption) ?_)
  |(with_reducible refine LeO.ite3 (by omega) (fun _ => ?_) (fun _ => ?_))
theorem prod_Fma.j1_le {k n : Nat} (hk : k ≤ n) {x0 : Int} {x1 : Int} {x2 : Int} {x3 : Int} {x4 : Int} {x16 : Bool} {x17 : Bool} {x18 : Bool} {x71 : Bool} {ex9 : Bool} {ex10 : Bool} {ex11 : Bool} {ex12 : Bool} {ex13 : Bool} : LeO (prod_Fma.j1 k x0 x1 x2 x3 x4 x16 x17 x18 x71) (L.prod_Fma.j11 n x71 x18 x17 x16 x4 x3 x2 x1 x0 ex9 ex10 ex11 ex12 ex13) := by
 cases k with
 |zero => rw [prod_Fma.j1]; exact LeO.none _
 |succ k =>
 replace hk := Nat.le_of_succ_le hk
 rw [prod_Fma.j1, L.prod_Fma.j11_eq]
 repeat' first
  |(with_reducible exact LeO.refl _)
  |exact LeO.none _
  |(with_reducible exact prod_Fma.j2_le hk)
  |(with_reducible exact fun r h => at_rounds (prod_torn.mono _ _ _) hk h)
  |(with_reducible exact fun r h => at_rounds (sum_Nans.mono _ _) hk h)
  |(with_reducible exact fun r h => at_rounds (format_IsInf.mono _ _) hk h)
  |(with_reducible exact fun r h => at_rounds (sum_Infinite.mono _ _ _ _ _) hk h)
  |(with_reducible exact sum_Exact.le hk)
  |(with_reducible exact round_Pack.le hk)
  |(with_reducible refine LeO.bind ?_ (fun _ => ?_))
  |(with_reducible refine LeO.ite3 Iff.rfl (fun _ => ?_) (fun _ => ?_))
  |exact prod_Fma.j2_le hk
  |exact fun r h => at_rounds (prod_torn.mono _ _ _) hk h
  |exact fun r h => at_rounds (sum_Nans.mono _ _) hk h
  |exact fun r h => at_rounds (format_IsInf.mono _ _) hk h
  |exact fun r h => at_rounds (sum_Infinite.mono _ _ _ _ _) hk h
  |exact sum_Exact.le hk
  |exact round_Pack.le hk
  |exact LeO.refl _
  |(with_reducible refine LeO.pos (by assumption) ?_)
  |(with_reducible refine LeO.neg (by assumption) ?_)
  |(with_reducible refine LeO.posl (by assumption) ?_)
  |(with_reducible refine LeO.negl (by assumption) ?_)
  |(with_reducible refine LeO.ite3 (by omega) (fun _ => ?_) (fun _ => ?_))
theorem prod_Fma.j0_le {k n : Nat} (hk : k ≤ n) {x0 : Int} {x1 : Int} {x2 : Int} {x3 : Int} {x4 : Int} {x16 : Bool} {x17 : Bool} {x18 : Bool} {ex8 : Bool} {ex9 : Bool} {ex10 : Bool} {ex11 : Bool} {ex12 : Bool} : LeO (prod_Fma.j0 k x0 x1 x2 x3 x4 x16 x17 x18) (L.prod_Fma.j10 n x18 x17 x16 x4 x3 x2 x1 x0 ex8 ex9 ex10 ex11 ex12) := by
 cases k with
 |zero => rw [prod_Fma.j0]; exact LeO.none _
 |succ k =>
 replace hk := Nat.le_of_succ_le hk
 rw [prod_Fma.j0, L.prod_Fma.j10_eq]
 repeat' first
  |(with_reducible exact LeO.refl _)
  |exact LeO.none _
  |(with_reducible exact prod_Fma.j2_le hk)
  |(with_reducible exact prod_Fma.j1_le hk)
  |(with_reducible exact fun r h => at_rounds (prod_torn.mono _ _ _) hk h)
  |(with_reducible exact fun r h => at_rounds (sum_Nans.mono _ _) hk h)
  |(with_reducible exact fun r h => at_rounds (format_IsInf.mono _ _) hk h)
  |(with_reducible exact fun r h => at_rounds (sum_Infinite.mono _ _ _ _ _) hk h)
  |(with_reducible exact sum_Exact.le hk)
  |(with_reducible exact round_Pack.le hk)
  |(with_reducible refine LeO.bind ?_ (fun _ => ?_))
  |(with_reducible refine LeO.ite3 Iff.rfl (fun _ => ?_) (fun _ => ?_))
  |exact prod_Fma.j2_le hk
  |exact prod_Fma.j1_le hk
  |exact fun r h => at_rounds (prod_torn.mono _ _ _) hk h
  |exact fun r h => at_rounds (sum_Nans.mono _ _) hk h
  |exact fun r h => at_rounds (format_IsInf.mono _ _) hk h
  |exact fun r h => at_rounds (sum_Infinite.mono _ _ _ _ _) hk h
  |exact sum_Exact.le hk
  |exact round_Pack.le hk
  |exact LeO.refl _
  |(with_reducible refine LeO.pos (by assumption) ?_)
  |(with_reducible refine LeO.neg (by assumption) ?_)
  |(with_reducible refine LeO.posl (by assumption) ?_)
  |(with_reducible refine LeO.negl (by assumption) ?_)
  |(with_reducible refine LeO.ite3 (by omega) (fun _ => ?_) (fun _ => ?_))
set_option maxHeartbeats 4000000 in
theorem prod_Fma.le {k n : Nat} (hk : k ≤ n) {a0 : Int} {a1 : Int} {a2 : Int} {a3 : Int} {a4 : Int} : LeO (prod_Fma.f k a0 a1 a2 a3 a4) (L.prod_Fma.f n a0 a1 a2 a3 a4) := by
 unfold prod_Fma.f
 rw [L.prod_Fma.eq]
 try simp only [Bool.and_true]
 repeat' first
  |(with_reducible exact LeO.refl _)
  |exact LeO.none _
  |(with_reducible exact prod_Fma.j2_le hk)
  |(with_reducible exact prod_Fma.j1_le hk)
  |(with_reducible exact prod_Fma.j0_le hk)
  |(with_reducible exact fun r h => at_rounds (prod_torn.mono _ _ _) hk h)
  |(with_reducible exact fun r h => at_rounds (sum_Nans.mono _ _) hk h)
  |(with_reducible exact fun r h => at_rounds (format_IsInf.mono _ _) hk h)
  |(with_reducible exact fun r h => at_rounds (sum_Infinite.mono _ _ _ _ _) hk h)
  |(with_reducible exact sum_Exact.le hk)
  |(with_reducible exact round_Pack.le hk)
  |(with_reducible refine LeO.bind ?_ (fun _ => ?_))
  |(with_reducible refine LeO.ite3 Iff.rfl (fun _ => ?_) (fun _ => ?_))
  |exact prod_Fma.j2_le hk
  |exact prod_Fma.j1_le hk
  |exact prod_Fma.j0_le hk
  |exact fun r h => at_rounds (prod_torn.mono _ _ _) hk h
  |exact fun r h => at_rounds (sum_Nans.mono _ _) hk h
  |exact fun r h => at_rounds (format_IsInf.mono _ _) hk h
  |exact fun r h => at_rounds (sum_Infinite.mono _ _ _ _ _) hk h
  |exact sum_Exact.le hk
  |exact round_Pack.le hk
  |exact LeO.refl _
  |(with_reducible refine LeO.pos (by assumption) ?_)
  |(with_reducible refine LeO.neg (by assumption) ?_)
  |(with_reducible refine LeO.posl (by assumption) ?_)
  |(with_reducible refine LeO.negl (by assumption) ?_)
  |(with_reducible refine LeO.ite3 (by omega) (fun _ => ?_) (fun _ => ?_))
theorem prod_Fma.calls (k : Nat) (a0 : Int) (a1 : Int) (a2 : Int) (a3 : Int) (a4 : Int) (r1 : Int) (r2 : Bool) (r3 : Bool) (r4 : Bool) (r5 : Bool) (r6 : Bool) (w : World) (h : prod_Fma.f k a0 a1 a2 a3 a4 = some (r1, r2, r3, r4, r5, r6)) :
  Calls Try.prog 72 #[.int .i64 a0, .int .i64 a1, .int .u32 a2, .int .u32 a3, .int .u32 a4] w fun e w' => e = .returned (.tuple #[.int .u32 r1, .agg #[.bool r2, .bool r3, .bool r4, .bool r5, .bool r6]]) ∧ Below w.heap.size w w' :=
 Go.Proofs.Ytjlgmfgjleajfaa.Ek.calls_of L.prod_Fma.ok k ((a0, ()), (a1, ()), (a2, ()), (a3, ()), (a4, ()), ()) (r1, r2, r3, r4, r5, r6) rfl (prod_Fma.le (Nat.le_refl _) _ h) w
attribute [local go_sem] max2_int min2_int max_two min_two max_three min_three max_four min_four

-- NEED 3
/-! ### funcs_Div: function 9 -/
def funcs_Div.f (k : Nat) (a0 : Int) (a1 : Int) : Option (Int) := (quot_Div.f k 2 0 a0 a1).bind fun bt236 => (some bt236.1)
theorem funcs_Div.mono : ∀ a0 a1 k, LeO (funcs_Div.f k a0 a1) (funcs_Div.f (k + 1) a0 a1) := by
 intro a0 a1 k
 unfold funcs_Div.f
 repeat' first
   |(with_reducible exact quot_Div.mono _ _ _ _ _)
   |(with_reducible exact LeO.refl _)
   |(with_reducible exact LeO.none _)
   |(with_reducible refine LeO.ite ?_ ?_)
   |(with_reducible refine LeO.bind ?_ (fun _ => ?_))
   |exact quot_Div.mono _ _ _ _ _
   |exact LeO.none _
   |refine LeO.ite ?_ ?_
   |refine LeO.bind ?_ (fun _ => ?_)
set_option maxHeartbeats 8000000 in
set_option maxRecDepth 100000 in
theorem funcs_Div.calls (k : Nat) (a0 : Int) (a1 : Int) (r : Int) (w : World) (h : funcs_Div.f k a0 a1 = some r) :
  Calls Try.prog 9 #[.int .u32 a0, .int .u32 a1] w fun e w' => e = .returned (.int .u32 r) ∧ Below w.heap.size w w' := by
 have hu35 := Try.underlying35
 have HB := Aside0.mk (Below.refl w.heap.size w)
 have H : ((quot_Div.f k 2 0 a0 a1).bind fun bt236 => (some bt236.1)) = some r := h
 clear h
 replace H := Option.bind_eq_some_iff.mp H
 obtain ⟨⟨t236, t237, t238, t239, t240, t241⟩, A30, H⟩ := H
 replace H : (some t236) = some r := H
 have A3 := Aside0.mk A30
 clear A30
 obtain rfl := Option.some.inj H
 go_enter Try.func9, Try.ntmps9
 go_wp2_with (first | ((with_reducible refine gate_callee (f := 13) rfl ?_); refine goesL_ (some 10) rfl rfl Try.func13 (by kernel_rfl) rfl #[.int .i64 2, .int .i64 0, .int .u32 a0, .int .u32 a1] rfl gl ?_; (with_reducible refine (quot_Div.calls k 2 0 a0 a1 t236 t237 t238 t239 t240 t241 _ A3.out).mono ?_); rintro e w4 ⟨rfl, hb⟩; refine ⟨_, rfl, ?_⟩; have n0_ := Aside0.mk (below_step (bl0 HB.out) hb); clear HB; have HB := n0_; clear n0_) | ((with_reducible refine gate_dst (N := 6) rfl ?_); refine box_event ?hg (N := 6) ?hd (cs := F5) (t := 35) ?hr ?_; (case hd => rfl); (case hg => rfl); (case hr => first | (go_simp; done) | (go_simp; rfl)); intro gb242 hg w5 hbox hb; have n0_ := Aside0.mk (below_step (bl0 HB.out) hb); have n1_ := Aside0.mk (hbox); have n2_ := Aside0.mk ((by rw [hg]; exact (below_size (bl0 HB.out)) : w.heap.size ≤ gb242)); have n3_ := n2_; clear HB; have HB := n0_; have BK242 := n1_; have GW242 := n2_; have GE242 := n3_; clear n0_ n1_ n2_ n3_; clear hb hbox hg; obtain ⟨hcz6_0, hcz6_1, hcz6_2, hcz6_3, hcz6_4⟩ := bc5 BK242.out; obtain ⟨hfz6_0, hfz6_1, hfz6_2, hfz6_3, hfz6_4⟩ := bf5 BK242.out))
 go_ret
 exact ⟨by first | rfl | (simp [errW_none, errW_some] <;> rfl) | (simp [*, errW_none, errW_some] <;> rfl), bl1 HB.out GE242.out⟩

attribute [local go_sem] max2_int min2_int max_two min_two max_three min_three max_four min_four

-- NEED 0
/-! ### whole_amount: function 31 -/
def whole_amount.f (a0 : Int) : Option (Int) := if a0 < 0 then (some (IntKind.u64.wrap (-(IntKind.u64.wrap (a0))))) else (some (IntKind.u64.wrap (a0)))
set_option maxHeartbeats 8000000 in
set_option maxRecDepth 100000 in
theorem whole_amount.calls (a0 : Int) (r : Int) (w : World) (h : whole_amount.f a0 = some r) :
  Calls Try.prog 31 #[.int .i64 a0] w fun e w' => e = .returned (.int .u64 r) ∧ Drawn0 w w' := by
 have H : (if a0 < 0 then (some (IntKind.u64.wrap (-(IntKind.u64.wrap (a0))))) else (some (IntKind.u64.wrap (a0)))) = some r := h
 clear h
 by_cases c2 : a0 < 0
 ·rw [if_pos c2] at H
  have c2b0 : decide (a0 < 0) = true := decide_eq_true c2
  clear c2
  obtain rfl := Option.some.inj H
  go_enter Try.func31, Try.ntmps31
  go_wp2
  go_ret
  exact ⟨by first | rfl | (simp; done) | (simp [*]; done) | (congr 1; (try unfold wrap64); omega) | (congr 1; rw [IntKind.wrap_u64]; omega), by repeat (first | exact Drawn0.refl _ | apply Drawn0.step)⟩
 ·rw [if_neg c2] at H
  have c2b0 : decide (a0 < 0) = false := decide_eq_false c2
  clear c2
  obtain rfl := Option.some.inj H
  go_enter Try.func31, Try.ntmps31
  go_wp2
  go_ret
  exact ⟨by first | rfl | (simp; done) | (simp [*]; done) | (congr 1; (try unfold wrap64); omega) | (congr 1; rw [IntKind.wrap_u64]; omega), by repeat (first | exact Drawn0.refl _ | apply Drawn0.step)⟩

attribute [local go_sem] max2_int min2_int max_two min_two max_three min_three max_four min_four

-- NEED 2
/-! ### whole_FromInt: function 14 -/
def whole_FromInt.f (k : Nat) (a0 : Int) (a1 : Int) (a2 : Int) : Option (Int × Bool × Bool × Bool × Bool × Bool) := (whole_amount.f a2).bind fun t244 => ((round_Pack.f k a0 a1 (decide (a2 < 0)) 0 t244 false).bind fun bt245 => (some (bt245.1, bt245.2.1, bt245.2.2.1, bt245.2.2.2.1, bt245.2.2.2.2.1, bt245.2.2.2.2.2)))
theorem whole_FromInt.mono : ∀ a0 a1 a2 k, LeO (whole_FromInt.f k a0 a1 a2) (whole_FromInt.f (k + 1) a0 a1 a2) := by
 intro a0 a1 a2 k
 unfold whole_FromInt.f
 repeat' first
   |(with_reducible exact round_Pack.mono _ _ _ _ _ _ _)
   |(with_reducible exact LeO.refl _)
   |(with_reducible exact LeO.none _)
   |(with_reducible refine LeO.ite ?_ ?_)
   |(with_reducible refine LeO.bind ?_ (fun _ => ?_))
   |exact round_Pack.mono _ _ _ _ _ _ _
   |exact LeO.none _
   |refine LeO.ite ?_ ?_
   |refine LeO.bind ?_ (fun _ => ?_)
set_option maxHeartbeats 8000000 in
set_option maxRecDepth 100000 in
theorem whole_FromInt.calls (k : Nat) (a0 : Int) (a1 : Int) (a2 : Int) (r1 : Int) (r2 : Bool) (r3 : Bool) (r4 : Bool) (r5 : Bool) (r6 : Bool) (w : World) (h : whole_FromInt.f k a0 a1 a2 = some (r1, r2, r3, r4, r5, r6)) :
  Calls Try.prog 14 #[.int .i64 a0, .int .i64 a1, .int .i64 a2] w fun e w' => e = .returned (.tuple #[.int .u32 r1, .agg #[.bool r2, .bool r3, .bool r4, .bool r5, .bool r6]]) ∧ Below w.heap.size w w' := by
 have hu35 := Try.underlying35
 have HB := Aside0.mk (Below.refl w.heap.size w)
 have H : ((whole_amount.f a2).bind fun t244 => ((round_Pack.f k a0 a1 (decide (a2 < 0)) 0 t244 false).bind fun bt245 => (some (bt245.1, bt245.2.1, bt245.2.2.1, bt245.2.2.2.1, bt245.2.2.2.2.1, bt245.2.2.2.2.2)))) = some (r1, r2, r3, r4, r5, r6) := h
 clear h
 replace H := Option.bind_eq_some_iff.mp H
 obtain ⟨t244, A40, H⟩ := H
 replace H : ((round_Pack.f k a0 a1 (decide (a2 < 0)) 0 t244 false).bind fun bt245 => (some (bt245.1, bt245.2.1, bt245.2.2.1, bt245.2.2.2.1, bt245.2.2.2.2.1, bt245.2.2.2.2.2))) = some (r1, r2, r3, r4, r5, r6) := H
 have A4 := Aside0.mk A40
 clear A40
 replace H := Option.bind_eq_some_iff.mp H
 obtain ⟨⟨t245, t246, t247, t248, t249, t250⟩, A50, H⟩ := H
 replace H : (some (t245, t246, t247, t248, t249, t250)) = some (r1, r2, r3, r4, r5, r6) := H
 have A5 := Aside0.mk A50
 clear A50
 simp only [Option.some.injEq, Prod.mk.injEq] at H
 obtain ⟨rfl, rfl, rfl, rfl, rfl, rfl⟩ := H
 go_enter Try.func14, Try.ntmps14
 go_wp2_with (first | ((with_reducible refine gate_dst (N := 7) rfl ?_); refine box_event ?hg (N := 7) ?hd (cs := F5) (t := 35) ?hr ?_; (case hd => rfl); (case hg => rfl); (case hr => first | (go_simp; done) | (go_simp; rfl)); intro gb243 hg w6 hbox hb; have n0_ := Aside0.mk (below_step (bl0 HB.out) hb); have n1_ := Aside0.mk (hbox); have n2_ := Aside0.mk ((by rw [hg]; exact (below_size (bl0 HB.out)) : w.heap.size ≤ gb243)); have n3_ := n2_; clear HB; have HB := n0_; have BK243 := n1_; have GW243 := n2_; have GE243 := n3_; clear n0_ n1_ n2_ n3_; clear hb hbox hg) | ((with_reducible refine gate_callee (f := 31) rfl ?_); refine goesL_ (some 13) rfl rfl Try.func31 (by kernel_rfl) rfl #[.int .i64 a2] rfl gl ?_; (with_reducible refine (whole_amount.calls a2 t244 _ A4.out).mono ?_); rintro e w' ⟨rfl, ⟨nd, rfl⟩⟩; refine ⟨_, rfl, ?_⟩; (try (rw [drewN_self w6]; generalize hq_ : World.drewN w6 _ = w6; have n0_ : Aside0 (w6.heap[gb243]? = some (o5_ false false false false false 35)) := ⟨by rw [← hq_]; exact (bv BK243.out)⟩; have n1_ : Aside0 (Below w.heap.size w w6) := ⟨by rw [← hq_]; exact (bl1 HB.out GE243.out)⟩; clear BK243 HB hq_; have BK243 := n0_; have HB := n1_; clear n0_ n1_))) | ((with_reducible refine gate_callee (f := 30) rfl ?_); refine goesL_ (some 14) rfl rfl Try.func30 (by kernel_rfl) rfl #[.int .i64 a0, .int .i64 a1, .bool (decide (a2 < 0)), .int .i64 0, .int .u64 t244, .bool false] rfl gl ?_; (with_reducible refine (round_Pack.calls k a0 a1 (decide (a2 < 0)) 0 t244 false t245 t246 t247 t248 t249 t250 _ A5.out).mono ?_); rintro e w7 ⟨rfl, hb⟩; refine ⟨_, rfl, ?_⟩; have n0_ := Aside0.mk (blk_below (g := gb243) (o := o5_ false false false false false 35) (bv BK243.out) hb); have n1_ := Aside0.mk (below_step (bl1 HB.out GE243.out) hb); clear BK243; clear HB; have BK243 := n0_; have HB := n1_; clear n0_ n1_; obtain ⟨hcz8_0, hcz8_1, hcz8_2, hcz8_3, hcz8_4⟩ := bc5 BK243.out; obtain ⟨hfz8_0, hfz8_1, hfz8_2, hfz8_3, hfz8_4⟩ := bf5 BK243.out))
 refine bodyPost_ret (results_tc rfl _ _ gb243 35 #[.bool t246, .bool t247, .bool t248, .bool t249, .bool t250] (0, 0) _ rfl (by (with_reducible repeat first | apply bd | apply be | apply ba); refine blk_put (cs := q5_ t246 t247 t248 t249 false) ?_ 4 _ rfl; (with_reducible repeat first | apply bd | apply be | apply ba); refine blk_put (cs := q5_ t246 t247 t248 false false) ?_ 3 _ rfl; (with_reducible repeat first | apply bd | apply be | apply ba); refine blk_put (cs := q5_ t246 t247 false false false) ?_ 2 _ rfl; (with_reducible repeat first | apply bd | apply be | apply ba); refine blk_put (cs := q5_ t246 false false false false) ?_ 1 _ rfl; (with_reducible repeat first | apply bd | apply be | apply ba); refine blk_put (cs := F5) ?_ 0 _ rfl; (with_reducible repeat first | apply bd | apply be | apply ba); exact BK243.out) Try.underlying35 rfl (by kernel_rfl)) rfl ?_
 exact ⟨by first | rfl | (simp [errW_none, errW_some] <;> rfl) | (simp [*, errW_none, errW_some] <;> rfl), bl1 HB.out GE243.out⟩

-- NEED 2
/-! ### funcs_Int: function 10 -/
def funcs_Int.f (k : Nat) (a0 : Int) : Option (Int) := (whole_FromInt.f k 2 0 a0).bind fun bt251 => (some bt251.1)
theorem funcs_Int.mono : ∀ a0 k, LeO (funcs_Int.f k a0) (funcs_Int.f (k + 1) a0) := by
 intro a0 k
 unfold funcs_Int.f
 repeat' first
   |(with_reducible exact whole_FromInt.mono _ _ _ _)
   |(with_reducible exact LeO.refl _)
   |(with_reducible exact LeO.none _)
   |(with_reducible refine LeO.ite ?_ ?_)
   |(with_reducible refine LeO.bind ?_ (fun _ => ?_))
   |exact whole_FromInt.mono _ _ _ _
   |exact LeO.none _
   |refine LeO.ite ?_ ?_
   |refine LeO.bind ?_ (fun _ => ?_)
set_option maxHeartbeats 8000000 in
set_option maxRecDepth 100000 in
theorem funcs_Int.calls (k : Nat) (a0 : Int) (r : Int) (w : World) (h : funcs_Int.f k a0 = some r) :
  Calls Try.prog 10 #[.int .i64 a0] w fun e w' => e = .returned (.int .u32 r) ∧ Below w.heap.size w w' := by
 have hu35 := Try.underlying35
 have HB := Aside0.mk (Below.refl w.heap.size w)
 have H : ((whole_FromInt.f k 2 0 a0).bind fun bt251 => (some bt251.1)) = some r := h
 clear h
 replace H := Option.bind_eq_some_iff.mp H
 obtain ⟨⟨t251, t252, t253, t254, t255, t256⟩, A20, H⟩ := H
 replace H : (some t251) = some r := H
 have A2 := Aside0.mk A20
 clear A20
 obtain rfl := Option.some.inj H
 go_enter Try.func10, Try.ntmps10
 go_wp2_with (first | ((with_reducible refine gate_callee (f := 14) rfl ?_); refine goesL_ (some 7) rfl rfl Try.func14 (by kernel_rfl) rfl #[.int .i64 2, .int .i64 0, .int .i64 a0] rfl gl ?_; (with_reducible refine (whole_FromInt.calls k 2 0 a0 t251 t252 t253 t254 t255 t256 _ A2.out).mono ?_); rintro e w3 ⟨rfl, hb⟩; refine ⟨_, rfl, ?_⟩; have n0_ := Aside0.mk (below_step (bl0 HB.out) hb); clear HB; have HB := n0_; clear n0_) | ((with_reducible refine gate_dst (N := 4) rfl ?_); refine box_event ?hg (N := 4) ?hd (cs := F5) (t := 35) ?hr ?_; (case hd => rfl); (case hg => rfl); (case hr => first | (go_simp; done) | (go_simp; rfl)); intro gb257 hg w4 hbox hb; have n0_ := Aside0.mk (below_step (bl0 HB.out) hb); have n1_ := Aside0.mk (hbox); have n2_ := Aside0.mk ((by rw [hg]; exact (below_size (bl0 HB.out)) : w.heap.size ≤ gb257)); have n3_ := n2_; clear HB; have HB := n0_; have BK257 := n1_; have GW257 := n2_; have GE257 := n3_; clear n0_ n1_ n2_ n3_; clear hb hbox hg; obtain ⟨hcz5_0, hcz5_1, hcz5_2, hcz5_3, hcz5_4⟩ := bc5 BK257.out; obtain ⟨hfz5_0, hfz5_1, hfz5_2, hfz5_3, hfz5_4⟩ := bf5 BK257.out))
 go_ret
 exact ⟨by first | rfl | (simp [errW_none, errW_some] <;> rfl) | (simp [*, errW_none, errW_some] <;> rfl), bl1 HB.out GE257.out⟩

attribute [local go_sem] max2_int min2_int max_two min_two max_three min_three max_four min_four

-- NEED 3
/-! ### funcs_Mul: function 15 -/
def funcs_Mul.f (k : Nat) (a0 : Int) (a1 : Int) : Option (Int) := (prod_Mul.f k 2 0 a0 a1).bind fun bt312 => (some bt312.1)
theorem funcs_Mul.mono : ∀ a0 a1 k, LeO (funcs_Mul.f k a0 a1) (funcs_Mul.f (k + 1) a0 a1) := by
 intro a0 a1 k
 unfold funcs_Mul.f
 repeat' first
   |(with_reducible exact prod_Mul.mono _ _ _ _ _)
   |(with_reducible exact LeO.refl _)
   |(with_reducible exact LeO.none _)
   |(with_reducible refine LeO.ite ?_ ?_)
   |(with_reducible refine LeO.bind ?_ (fun _ => ?_))
   |exact prod_Mul.mono _ _ _ _ _
   |exact LeO.none _
   |refine LeO.ite ?_ ?_
   |refine LeO.bind ?_ (fun _ => ?_)
set_option maxHeartbeats 8000000 in
set_option maxRecDepth 100000 in
theorem funcs_Mul.calls (k : Nat) (a0 : Int) (a1 : Int) (r : Int) (w : World) (h : funcs_Mul.f k a0 a1 = some r) :
  Calls Try.prog 15 #[.int .u32 a0, .int .u32 a1] w fun e w' => e = .returned (.int .u32 r) ∧ Below w.heap.size w w' := by
 have hu35 := Try.underlying35
 have HB := Aside0.mk (Below.refl w.heap.size w)
 have H : ((prod_Mul.f k 2 0 a0 a1).bind fun bt312 => (some bt312.1)) = some r := h
 clear h
 replace H := Option.bind_eq_some_iff.mp H
 obtain ⟨⟨t312, t313, t314, t315, t316, t317⟩, A30, H⟩ := H
 replace H : (some t312) = some r := H
 have A3 := Aside0.mk A30
 clear A30
 obtain rfl := Option.some.inj H
 go_enter Try.func15, Try.ntmps15
 go_wp2_with (first | ((with_reducible refine gate_callee (f := 32) rfl ?_); refine goesL_ (some 10) rfl rfl Try.func32 (by kernel_rfl) rfl #[.int .i64 2, .int .i64 0, .int .u32 a0, .int .u32 a1] rfl gl ?_; (with_reducible refine (prod_Mul.calls k 2 0 a0 a1 t312 t313 t314 t315 t316 t317 _ A3.out).mono ?_); rintro e w4 ⟨rfl, hb⟩; refine ⟨_, rfl, ?_⟩; have n0_ := Aside0.mk (below_step (bl0 HB.out) hb); clear HB; have HB := n0_; clear n0_) | ((with_reducible refine gate_dst (N := 6) rfl ?_); refine box_event ?hg (N := 6) ?hd (cs := F5) (t := 35) ?hr ?_; (case hd => rfl); (case hg => rfl); (case hr => first | (go_simp; done) | (go_simp; rfl)); intro gb318 hg w5 hbox hb; have n0_ := Aside0.mk (below_step (bl0 HB.out) hb); have n1_ := Aside0.mk (hbox); have n2_ := Aside0.mk ((by rw [hg]; exact (below_size (bl0 HB.out)) : w.heap.size ≤ gb318)); have n3_ := n2_; clear HB; have HB := n0_; have BK318 := n1_; have GW318 := n2_; have GE318 := n3_; clear n0_ n1_ n2_ n3_; clear hb hbox hg; obtain ⟨hcz6_0, hcz6_1, hcz6_2, hcz6_3, hcz6_4⟩ := bc5 BK318.out; obtain ⟨hfz6_0, hfz6_1, hfz6_2, hfz6_3, hfz6_4⟩ := bf5 BK318.out))
 go_ret
 exact ⟨by first | rfl | (simp [errW_none, errW_some] <;> rfl) | (simp [*, errW_none, errW_some] <;> rfl), bl1 HB.out GE318.out⟩

attribute [local go_sem] max2_int min2_int max_two min_two max_three min_three max_four min_four

-- NEED 3
/-! ### funcs_Add: function 16 -/
def funcs_Add.f (k : Nat) (a0 : Int) (a1 : Int) : Option (Int) := (sum_Add.f k 2 0 a0 a1).bind fun bt392 => (some bt392.1)
theorem funcs_Add.mono : ∀ a0 a1 k, LeO (funcs_Add.f k a0 a1) (funcs_Add.f (k + 1) a0 a1) := by
 intro a0 a1 k
 unfold funcs_Add.f
 repeat' first
   |(with_reducible exact sum_Add.mono _ _ _ _ _)
   |(with_reducible exact LeO.refl _)
   |(with_reducible exact LeO.none _)
   |(with_reducible refine LeO.ite ?_ ?_)
   |(with_reducible refine LeO.bind ?_ (fun _ => ?_))
   |exact sum_Add.mono _ _ _ _ _
   |exact LeO.none _
   |refine LeO.ite ?_ ?_
   |refine LeO.bind ?_ (fun _ => ?_)
set_option maxHeartbeats 8000000 in
set_option maxRecDepth 100000 in
theorem funcs_Add.calls (k : Nat) (a0 : Int) (a1 : Int) (r : Int) (w : World) (h : funcs_Add.f k a0 a1 = some r) :
  Calls Try.prog 16 #[.int .u32 a0, .int .u32 a1] w fun e w' => e = .returned (.int .u32 r) ∧ Below w.heap.size w w' := by
 have hu35 := Try.underlying35
 have HB := Aside0.mk (Below.refl w.heap.size w)
 have H : ((sum_Add.f k 2 0 a0 a1).bind fun bt392 => (some bt392.1)) = some r := h
 clear h
 replace H := Option.bind_eq_some_iff.mp H
 obtain ⟨⟨t392, t393, t394, t395, t396, t397⟩, A30, H⟩ := H
 replace H : (some t392) = some r := H
 have A3 := Aside0.mk A30
 clear A30
 obtain rfl := Option.some.inj H
 go_enter Try.func16, Try.ntmps16
 go_wp2_with (first | ((with_reducible refine gate_callee (f := 33) rfl ?_); refine goesL_ (some 10) rfl rfl Try.func33 (by kernel_rfl) rfl #[.int .i64 2, .int .i64 0, .int .u32 a0, .int .u32 a1] rfl gl ?_; (with_reducible refine (sum_Add.calls k 2 0 a0 a1 t392 t393 t394 t395 t396 t397 _ A3.out).mono ?_); rintro e w4 ⟨rfl, hb⟩; refine ⟨_, rfl, ?_⟩; have n0_ := Aside0.mk (below_step (bl0 HB.out) hb); clear HB; have HB := n0_; clear n0_) | ((with_reducible refine gate_dst (N := 6) rfl ?_); refine box_event ?hg (N := 6) ?hd (cs := F5) (t := 35) ?hr ?_; (case hd => rfl); (case hg => rfl); (case hr => first | (go_simp; done) | (go_simp; rfl)); intro gb398 hg w5 hbox hb; have n0_ := Aside0.mk (below_step (bl0 HB.out) hb); have n1_ := Aside0.mk (hbox); have n2_ := Aside0.mk ((by rw [hg]; exact (below_size (bl0 HB.out)) : w.heap.size ≤ gb398)); have n3_ := n2_; clear HB; have HB := n0_; have BK398 := n1_; have GW398 := n2_; have GE398 := n3_; clear n0_ n1_ n2_ n3_; clear hb hbox hg; obtain ⟨hcz6_0, hcz6_1, hcz6_2, hcz6_3, hcz6_4⟩ := bc5 BK398.out; obtain ⟨hfz6_0, hfz6_1, hfz6_2, hfz6_3, hfz6_4⟩ := bf5 BK398.out))
 go_ret
 exact ⟨by first | rfl | (simp [errW_none, errW_some] <;> rfl) | (simp [*, errW_none, errW_some] <;> rfl), bl1 HB.out GE398.out⟩

attribute [local go_sem] max2_int min2_int max_two min_two max_three min_three max_four min_four

-- NEED 0
/-! ### format_IsNan: function 62 -/
def format_IsNan.f (k : Nat) (a0 : Int) (a1 : Int) : Option (Bool) := (format_Class.f k a0 a1).bind fun t399 => (some (decide (t399 ≥ 4)))
theorem format_IsNan.mono : ∀ a0 a1 k, LeO (format_IsNan.f k a0 a1) (format_IsNan.f (k + 1) a0 a1) := by
 intro a0 a1 k
 unfold format_IsNan.f
 repeat' first
   |(with_reducible exact format_Class.mono _ _ _)
   |(with_reducible exact LeO.refl _)
   |(with_reducible exact LeO.none _)
   |(with_reducible refine LeO.ite ?_ ?_)
   |(with_reducible refine LeO.bind ?_ (fun _ => ?_))
   |exact format_Class.mono _ _ _
   |exact LeO.none _
   |refine LeO.ite ?_ ?_
   |refine LeO.bind ?_ (fun _ => ?_)
set_option maxHeartbeats 8000000 in
set_option maxRecDepth 100000 in
theorem format_IsNan.calls (k : Nat) (a0 : Int) (a1 : Int) (r : Bool) (w : World) (h : format_IsNan.f k a0 a1 = some r) :
  Calls Try.prog 62 #[.int .i64 a0, .int .u32 a1] w fun e w' => e = .returned (.bool r) ∧ Drawn0 w w' := by
 have H : ((format_Class.f k a0 a1).bind fun t399 => (some (decide (t399 ≥ 4)))) = some r := h
 clear h
 replace H := Option.bind_eq_some_iff.mp H
 obtain ⟨t399, A30, H⟩ := H
 replace H : (some (decide (t399 ≥ 4))) = some r := H
 have A3 := Aside0.mk A30
 clear A30
 obtain rfl := Option.some.inj H
 go_enter Try.func62, Try.ntmps62
 go_wp2_with (first | ((with_reducible refine gate_callee (f := 23) rfl ?_); refine goesL_ (some 7) rfl rfl Try.func23 (by kernel_rfl) rfl #[.int .i64 a0, .int .u32 a1] rfl gl ?_; (with_reducible refine (format_Class.calls k a0 a1 t399 _ A3.out).mono ?_); rintro e w' ⟨rfl, ⟨nd, rfl⟩⟩; refine ⟨_, rfl, ?_⟩))
 go_ret
 exact ⟨by first | rfl | (simp; done) | (simp [*]; done) | (congr 1; (try unfold wrap64); omega) | (congr 1; rw [IntKind.wrap_u64]; omega), by repeat (first | exact Drawn0.refl _ | apply Drawn0.step)⟩

-- NEED 0
/-! ### funcs_IsNan: function 34 -/
def funcs_IsNan.f (k : Nat) (a0 : Int) : Option (Bool) := (format_IsNan.f k 2 a0).bind fun t400 => (some t400)
theorem funcs_IsNan.mono : ∀ a0 k, LeO (funcs_IsNan.f k a0) (funcs_IsNan.f (k + 1) a0) := by
 intro a0 k
 unfold funcs_IsNan.f
 repeat' first
   |(with_reducible exact format_IsNan.mono _ _ _)
   |(with_reducible exact LeO.refl _)
   |(with_reducible exact LeO.none _)
   |(with_reducible refine LeO.ite ?_ ?_)
   |(with_reducible refine LeO.bind ?_ (fun _ => ?_))
   |exact format_IsNan.mono _ _ _
   |exact LeO.none _
   |refine LeO.ite ?_ ?_
   |refine LeO.bind ?_ (fun _ => ?_)
set_option maxHeartbeats 8000000 in
set_option maxRecDepth 100000 in
theorem funcs_IsNan.calls (k : Nat) (a0 : Int) (r : Bool) (w : World) (h : funcs_IsNan.f k a0 = some r) :
  Calls Try.prog 34 #[.int .u32 a0] w fun e w' => e = .returned (.bool r) ∧ Drawn0 w w' := by
 have H : ((format_IsNan.f k 2 a0).bind fun t400 => (some t400)) = some r := h
 clear h
 replace H := Option.bind_eq_some_iff.mp H
 obtain ⟨t400, A20, H⟩ := H
 replace H : (some t400) = some r := H
 have A2 := Aside0.mk A20
 clear A20
 obtain rfl := Option.some.inj H
 go_enter Try.func34, Try.ntmps34
 go_wp2_with (first | ((with_reducible refine gate_callee (f := 62) rfl ?_); refine goesL_ (some 4) rfl rfl Try.func62 (by kernel_rfl) rfl #[.int .i64 2, .int .u32 a0] rfl gl ?_; (with_reducible refine (format_IsNan.calls k 2 a0 t400 _ A2.out).mono ?_); rintro e w' ⟨rfl, ⟨nd, rfl⟩⟩; refine ⟨_, rfl, ?_⟩))
 go_ret
 exact ⟨by first | rfl | (simp; done) | (simp [*]; done) | (congr 1; (try unfold wrap64); omega) | (congr 1; rw [IntKind.wrap_u64]; omega), by repeat (first | exact Drawn0.refl _ | apply Drawn0.step)⟩

-- NEED 0
/-! ### funcs_plain: function 35 -/
def funcs_plain.f  : Option (Int) := (format_Nan.f 2).bind fun t401 => (some t401)
set_option maxHeartbeats 8000000 in
set_option maxRecDepth 100000 in
theorem funcs_plain.calls  (r : Int) (w : World) (h : funcs_plain.f  = some r) :
  Calls Try.prog 35 #[] w fun e w' => e = .returned (.int .u32 r) ∧ Drawn0 w w' := by
 have H : ((format_Nan.f 2).bind fun t401 => (some t401)) = some r := h
 clear h
 replace H := Option.bind_eq_some_iff.mp H
 obtain ⟨t401, A10, H⟩ := H
 replace H : (some t401) = some r := H
 have A1 := Aside0.mk A10
 clear A10
 obtain rfl := Option.some.inj H
 go_enter Try.func35, Try.ntmps35
 go_wp2_with (first | ((with_reducible refine gate_callee (f := 43) rfl ?_); refine goesL_ (some 1) rfl rfl Try.func43 (by kernel_rfl) rfl #[.int .i64 2] rfl gl ?_; (with_reducible refine (format_Nan.calls 2 t401 _ A1.out).mono ?_); rintro e w' ⟨rfl, ⟨nd, rfl⟩⟩; refine ⟨_, rfl, ?_⟩))
 go_ret
 exact ⟨by first | rfl | (simp; done) | (simp [*]; done) | (congr 1; (try unfold wrap64); omega) | (congr 1; rw [IntKind.wrap_u64]; omega), by repeat (first | exact Drawn0.refl _ | apply Drawn0.step)⟩

-- NEED 0
/-! ### format_Mask: function 71 -/
def format_Mask.f (a0 : Int) : Option (Int) := (format_Widths.f a0).bind fun bt402 => (if 0 ≤ (IntKind.u64.wrap (wrap64 ((wrap64 (bt402.1 + bt402.2)) + 1))) then (some (((shl .u32 1 (IntKind.u64.wrap (wrap64 ((wrap64 (bt402.1 + bt402.2)) + 1)))) - 1) % 4294967296)) else (none))
set_option maxHeartbeats 8000000 in
set_option maxRecDepth 100000 in
theorem format_Mask.calls (a0 : Int) (r : Int) (w : World) (h : format_Mask.f a0 = some r) :
  Calls Try.prog 71 #[.int .i64 a0] w fun e w' => e = .returned (.int .u32 r) ∧ Drawn0 w w' := by
 have H : ((format_Widths.f a0).bind fun bt402 => (if 0 ≤ (IntKind.u64.wrap (wrap64 ((wrap64 (bt402.1 + bt402.2)) + 1))) then (some (((shl .u32 1 (IntKind.u64.wrap (wrap64 ((wrap64 (bt402.1 + bt402.2)) + 1)))) - 1) % 4294967296)) else (none))) = some r := h
 clear h
 replace H := Option.bind_eq_some_iff.mp H
 obtain ⟨⟨t402, t403⟩, A20, H⟩ := H
 replace H : (if 0 ≤ (IntKind.u64.wrap (wrap64 ((wrap64 (t402 + t403)) + 1))) then (some (((shl .u32 1 (IntKind.u64.wrap (wrap64 ((wrap64 (t402 + t403)) + 1)))) - 1) % 4294967296)) else (none)) = some r := H
 have A2 := Aside0.mk A20
 clear A20
 obtain ⟨ji3, hji3⟩ : ∃ j_ : Int, (IntKind.u64.wrap (wrap64 ((wrap64 (t402 + t403)) + 1))) = j_ := ⟨_, rfl⟩
 replace H : (if 0 ≤ (ji3) then (some (((shl .u32 1 (ji3)) - 1) % 4294967296)) else (none)) = some r := by first | (rw [hji3] at H; exact H) | (simp only [hji3] at H ⊢; exact H)
 (try rw [hji3] at A2)
 by_cases c4 : 0 ≤ (ji3)
 ·rw [if_pos c4] at H
  have c4b0 := eq_true c4
  have c4b1 : decide (0 ≤ (ji3)) = true := decide_eq_true c4
  clear c4
  obtain ⟨ji5, hji5⟩ : ∃ j_ : Int, (shl .u32 1 (ji3)) = j_ := ⟨_, rfl⟩
  replace H : (some (((ji5) - 1) % 4294967296)) = some r := by first | (rw [hji5] at H; exact H) | (simp only [hji5] at H ⊢; exact H)
  (try rw [hji5] at A2)
  have hji5_ : (IntKind.u32.wrap (1 * 2 ^ min (ji3).toNat 32)) = ji5 := hji5
  have hji5z : (ji3) ≤ 32 → (IntKind.u32.wrap (1 * 2 ^ (ji3).toNat)) = ji5 := shl_small hji5
  have hji5u : (IntKind.u32.wrap (2 ^ min (ji3).toNat 32)) = ji5 := by have h_ := hji5_; rw [Int.one_mul] at h_; exact h_
  have hji5v : (ji3) ≤ 32 → (IntKind.u32.wrap (2 ^ (ji3).toNat)) = ji5 := fun hle_ => by have h_ := hji5z hle_; rw [Int.one_mul] at h_; exact h_
  obtain ⟨ji6, hji6⟩ : ∃ j_ : Int, (((ji5) - 1) % 4294967296) = j_ := ⟨_, rfl⟩
  replace H : (some ji6) = some r := by first | (rw [hji6] at H; exact H) | (simp only [hji6] at H ⊢; exact H)
  (try rw [hji6] at A2)
  have hji6l : 0 ≤ ji6 := by rw [← hji6]; exact Int.emod_nonneg _ (by decide)
  have hji6h : ji6 ≤ 4294967295 := by have := Int.emod_lt_of_pos (((ji5) - 1)) (show (0 : Int) < 4294967296 by decide); omega
  have hji6w : (IntKind.u32.wrap ((ji5) - 1)) = ji6 := (u32_w _).trans hji6
  (try (have hji6_ := hji6; simp only [Int.add_emod_emod, Int.emod_add_emod, Int.sub_emod_emod, Int.emod_sub_emod] at hji6_))
  obtain rfl := Option.some.inj H
  go_enter Try.func71, Try.ntmps71
  go_wp2_with (first | ((with_reducible refine gate_callee (f := 45) rfl ?_); refine goesL_ (some 7) rfl rfl Try.func45 (by kernel_rfl) rfl #[.int .i64 a0] rfl gl ?_; (with_reducible refine (format_Widths.calls a0 t402 t403 _ A2.out).mono ?_); rintro e w' ⟨rfl, ⟨nd, rfl⟩⟩; refine ⟨_, rfl, ?_⟩))
  go_ret
  exact ⟨by first | rfl | (simp; done) | (simp only [← hji3, ← hji5, ← hji6] <;> (first | rfl | (simp; done))) | (simp [*]; done) | (congr 1; (try unfold wrap64); omega) | (congr 1; rw [IntKind.wrap_u64]; omega), by repeat (first | exact Drawn0.refl _ | apply Drawn0.step)⟩
 ·rw [if_neg c4] at H
  exact absurd H (by simp)

-- NEED 0
/-! ### format_Turn: function 64 -/
def format_Turn.f (a0 : Int) (a1 : Int) : Option (Int) := (format_Widths.f a0).bind fun bt404 => ((format_Mask.f a0).bind fun t406 => (if 0 ≤ (IntKind.u64.wrap (wrap64 (bt404.1 + bt404.2))) then (some (Go.bits .xor .u32 (Go.bits .and .u32 a1 t406) (shl .u32 1 (IntKind.u64.wrap (wrap64 (bt404.1 + bt404.2)))))) else (none)))
set_option maxHeartbeats 8000000 in
set_option maxRecDepth 100000 in
theorem format_Turn.calls (a0 : Int) (a1 : Int) (r : Int) (w : World) (h : format_Turn.f a0 a1 = some r) :
  Calls Try.prog 64 #[.int .i64 a0, .int .u32 a1] w fun e w' => e = .returned (.int .u32 r) ∧ Drawn0 w w' := by
 have H : ((format_Widths.f a0).bind fun bt404 => ((format_Mask.f a0).bind fun t406 => (if 0 ≤ (IntKind.u64.wrap (wrap64 (bt404.1 + bt404.2))) then (some (Go.bits .xor .u32 (Go.bits .and .u32 a1 t406) (shl .u32 1 (IntKind.u64.wrap (wrap64 (bt404.1 + bt404.2)))))) else (none)))) = some r := h
 clear h
 replace H := Option.bind_eq_some_iff.mp H
 obtain ⟨⟨t404, t405⟩, A30, H⟩ := H
 replace H : ((format_Mask.f a0).bind fun t406 => (if 0 ≤ (IntKind.u64.wrap (wrap64 (t404 + t405))) then (some (Go.bits .xor .u32 (Go.bits .and .u32 a1 t406) (shl .u32 1 (IntKind.u64.wrap (wrap64 (t404 + t405)))))) else (none))) = some r := H
 have A3 := Aside0.mk A30
 clear A30
 replace H := Option.bind_eq_some_iff.mp H
 obtain ⟨t406, A40, H⟩ := H
 replace H : (if 0 ≤ (IntKind.u64.wrap (wrap64 (t404 + t405))) then (some (Go.bits .xor .u32 (Go.bits .and .u32 a1 t406) (shl .u32 1 (IntKind.u64.wrap (wrap64 (t404 + t405)))))) else (none)) = some r := H
 have A4 := Aside0.mk A40
 clear A40
 obtain ⟨ji5, hji5⟩ : ∃ j_ : Int, (IntKind.u64.wrap (wrap64 (t404 + t405))) = j_ := ⟨_, rfl⟩
 replace H : (if 0 ≤ (ji5) then (some (Go.bits .xor .u32 (Go.bits .and .u32 a1 t406) (shl .u32 1 (ji5)))) else (none)) = some r := by first | (rw [hji5] at H; exact H) | (simp only [hji5] at H ⊢; exact H)
 (try rw [hji5] at A3)
 (try rw [hji5] at A4)
 by_cases c6 : 0 ≤ (ji5)
 ·rw [if_pos c6] at H
  have c6b0 := eq_true c6
  have c6b1 : decide (0 ≤ (ji5)) = true := decide_eq_true c6
  clear c6
  obtain ⟨ji7, hji7⟩ : ∃ j_ : Int, (shl .u32 1 (ji5)) = j_ := ⟨_, rfl⟩
  replace H : (some (Go.bits .xor .u32 (Go.bits .and .u32 a1 t406) (ji7))) = some r := by first | (rw [hji7] at H; exact H) | (simp only [hji7] at H ⊢; exact H)
  (try rw [hji7] at A3)
  (try rw [hji7] at A4)
  have hji7_ : (IntKind.u32.wrap (1 * 2 ^ min (ji5).toNat 32)) = ji7 := hji7
  have hji7z : (ji5) ≤ 32 → (IntKind.u32.wrap (1 * 2 ^ (ji5).toNat)) = ji7 := shl_small hji7
  have hji7u : (IntKind.u32.wrap (2 ^ min (ji5).toNat 32)) = ji7 := by have h_ := hji7_; rw [Int.one_mul] at h_; exact h_
  have hji7v : (ji5) ≤ 32 → (IntKind.u32.wrap (2 ^ (ji5).toNat)) = ji7 := fun hle_ => by have h_ := hji7z hle_; rw [Int.one_mul] at h_; exact h_
  obtain rfl := Option.some.inj H
  go_enter Try.func64, Try.ntmps64
  go_wp2_with (first | ((with_reducible refine gate_callee (f := 45) rfl ?_); refine goesL_ (some 9) rfl rfl Try.func45 (by kernel_rfl) rfl #[.int .i64 a0] rfl gl ?_; (with_reducible refine (format_Widths.calls a0 t404 t405 _ A3.out).mono ?_); rintro e w' ⟨rfl, ⟨nd, rfl⟩⟩; refine ⟨_, rfl, ?_⟩) | ((with_reducible refine gate_callee (f := 71) rfl ?_); refine goesL_ (some 14) rfl rfl Try.func71 (by kernel_rfl) rfl #[.int .i64 a0] rfl gl ?_; (with_reducible refine (format_Mask.calls a0 t406 _ A4.out).mono ?_); rintro e w' ⟨rfl, ⟨nd, rfl⟩⟩; refine ⟨_, rfl, ?_⟩))
  go_ret
  exact ⟨by first | rfl | (simp; done) | (simp only [← hji5, ← hji7] <;> (first | rfl | (simp; done))) | (simp [*]; done) | (congr 1; (try unfold wrap64); omega) | (congr 1; rw [IntKind.wrap_u64]; omega), by repeat (first | exact Drawn0.refl _ | apply Drawn0.step)⟩
 ·rw [if_neg c6] at H
  exact absurd H (by simp)

attribute [local go_sem] max2_int min2_int max_two min_two max_three min_three max_four min_four

-- NEED 3
/-! ### sum_Sub: function 63 -/
def sum_Sub.f (k : Nat) (a0 : Int) (a1 : Int) (a2 : Int) (a3 : Int) : Option (Int × Bool × Bool × Bool × Bool × Bool) := (sum_Nans.f k a0 (([a2, a3] : List Int))).bind fun bt411 => (if bt411.2.2.2.2.2.2 = true then (some (bt411.1, bt411.2.1, bt411.2.2.1, bt411.2.2.2.1, bt411.2.2.2.2.1, bt411.2.2.2.2.2.1)) else ((format_Turn.f a0 a3).bind fun t419 => ((sum_Add.f k a0 a1 a2 t419).bind fun bt420 => (some (bt420.1, bt420.2.1, bt420.2.2.1, bt420.2.2.2.1, bt420.2.2.2.2.1, bt420.2.2.2.2.2)))))
theorem sum_Sub.mono : ∀ a0 a1 a2 a3 k, LeO (sum_Sub.f k a0 a1 a2 a3) (sum_Sub.f (k + 1) a0 a1 a2 a3) := by
 intro a0 a1 a2 a3 k
 unfold sum_Sub.f
 repeat' first
   |(with_reducible exact sum_Add.mono _ _ _ _ _)
   |(with_reducible exact sum_Nans.mono _ _ _)
   |(with_reducible exact LeO.refl _)
   |(with_reducible exact LeO.none _)
   |(with_reducible refine LeO.ite ?_ ?_)
   |(with_reducible refine LeO.bind ?_ (fun _ => ?_))
   |exact sum_Add.mono _ _ _ _ _
   |exact sum_Nans.mono _ _ _
   |exact LeO.none _
   |refine LeO.ite ?_ ?_
   |refine LeO.bind ?_ (fun _ => ?_)

end Go.Proofs.Ytjlgmfgjleajfaa.P

/- Entries of functions. -/
namespace Go.Proofs.Ytjlgmfgjleajfaa.L
open Go.RowKit Go.Proofs.Ytjlgmfgjleajfaa.P Go.Proofs.Ytjlgmfgjleajfaa.Ek Go.Proofs.YtjlgmfgjleajfaaW.PrintWords Go.Proofs.YtjlgmfgjleajfaaW.PrintLast Go.Proofs.YtjlgmfgjleajfaaW.PrintMore
noncomputable def format_Turn.c : Fc := mkFc [hI .i64, hI .u32] [hI .u32] (T := Int) (fun y => ((y, ()), ())) fun n x => format_Turn.f x.1.1 x.2.1.1
theorem format_Turn.ok : FcOk Try.prog 64 format_Turn.c := old_ok Try.func64 (by kernel_rfl) (by kernel_rfl) (by decide) (fun _ => giveR_ok (by decide) _) fun n x y h m w => (format_Turn.calls x.1.1 x.2.1.1 y w h).mono fun e w' he => ⟨he.1, he.2.below⟩
noncomputable def sum_Sub.cls : Cls := [(21, sum_Nans.c), (64, format_Turn.c), (33, sum_Add.c)]
theorem sum_Sub.clsOk : ClsOk Try.prog sum_Sub.cls := ClsOk.cons sum_Nans.ok (ClsOk.cons format_Turn.ok (ClsOk.cons sum_Add.ok (ClsOk.nil)))
noncomputable def sum_Sub.K (v : SV) : Option (Int × Bool × Bool × Bool × Bool × Bool) := (takeR [hI .u32, .agg [.b, .b, .b, .b, .b]] v).map (fun z => (z.1.1, z.2.1.1, z.2.1.2.1, z.2.1.2.2.1, z.2.1.2.2.2.1, z.2.1.2.2.2.2.1))
noncomputable def sum_Sub.cuts : List Nat := []
noncomputable def sum_Sub.f (k : Nat) (a0 : Int) (a1 : Int) (a2 : Int) (a3 : Int) : Option (Int × Bool × Bool × Bool × Bool × Bool) := evF Try.prog sum_Sub.cls Try.f63 sum_Sub.cuts k [.one (.i .i64 (.x a0)), .one (.i .i64 (.x a1)), .one (.i .u32 (.x a2)), .one (.i .u32 (.x a3))] sum_Sub.K
noncomputable def sum_Sub.c : Fc := mkFc [hI .i64, hI .i64, hI .u32, hI .u32] [hI .u32, .agg [.b, .b, .b, .b, .b]] (T := Int × Bool × Bool × Bool × Bool × Bool) (fun y => ((y.1, ()), (y.2.1, y.2.2.1, y.2.2.2.1, y.2.2.2.2.1, y.2.2.2.2.2, ()), ())) fun n x => sum_Sub.f n x.1.1 x.2.1.1 x.2.2.1.1 x.2.2.2.1.1
theorem sum_Sub.ok : FcOk Try.prog 63 sum_Sub.c := mkOk sum_Sub.clsOk Try.func63 (by kernel_rfl) (by kernel_rfl) (by decide) (fun _ => rfl) (fun _ _ => rfl)
/- Functions' trees, printed by a tool of mine out of the reckoner; Lean's kernel checks each. -/
set_option maxRecDepth 100000
theorem sum_Sub.eq (n0 : Nat) (a0 : Int) (a1 : Int) (a2 : Int) (a3 : Int) : sum_Sub.f n0 a0 a1 a2 a3 = ((sum_Nans.f n0 a0 [a2, a3]).bind fun t0 => (if Prod.snd (Prod.snd (Prod.snd (Prod.snd (Prod.snd (Prod.snd t0))))) = true then (some ((Prod.fst t0, Prod.fst (Prod.snd t0), Prod.fst (Prod.snd (Prod.snd t0)), Prod.fst (Prod.snd (Prod.snd (Prod.snd t0))), Prod.fst (Prod.snd (Prod.snd (Prod.snd (Prod.snd t0)))), Prod.fst (Prod.snd (Prod.snd (Prod.snd (Prod.snd (Prod.snd t0)))))))) else ((format_Turn.f a0 a3).bind fun t1 => ((sum_Add.f n0 a0 a1 a2 t1).bind fun t2 => (some ((Prod.fst t2, Prod.fst (Prod.snd t2), Prod.fst (Prod.snd (Prod.snd t2)), Prod.fst (Prod.snd (Prod.snd (Prod.snd t2))), Prod.fst (Prod.snd (Prod.snd (Prod.snd (Prod.snd t2)))), Prod.snd (Prod.snd (Prod.snd (Prod.snd (Prod.snd t2))))))))))) := by kernel_rfl
end Go.Proofs.Ytjlgmfgjleajfaa.L

/- What the reckoner tells of printed functions. -/
namespace Go.Proofs.Ytjlgmfgjleajfaa.P
open Go.RowKit Go.Proofs.YtjlgmfgjleajfaaW.PrintWords Go.Proofs.YtjlgmfgjleajfaaW.PrintLast Go.Proofs.YtjlgmfgjleajfaaW.PrintMore
set_option maxRecDepth 100000
set_option maxHeartbeats 4000000 in
theorem sum_Sub.le {k n : Nat} (hk : k ≤ n) {a0 : Int} {a1 : Int} {a2 : Int} {a3 : Int} : LeO (sum_Sub.f k a0 a1 a2 a3) (L.sum_Sub.f n a0 a1 a2 a3) := by
 unfold sum_Sub.f
 rw [L.sum_Sub.eq]
 try simp only [Bool.and_true]
 repeat' first
  |(with_reducible exact LeO.refl _)
  |exact LeO.none _
  |(with_reducible exact fun r h => at_rounds (sum_Nans.mono _ _) hk h)
  |(with_reducible exact sum_Add.le hk)
  |(with_reducible refine LeO.bind ?_ (fun _ => ?_))
  |(with_reducible refine LeO.ite3 Iff.rfl (fun _ => ?_) (fun _ => ?_))
  |exact fun r h => at_rounds (sum_Nans.mono _ _) hk h
  |exact sum_Add.le hk
  |exact LeO.refl _
  |(with_reducible refine LeO.pos (by assumption) ?_)
  |(with_reducible refine LeO.neg (by assumption) ?_)
  |(with_reducible refine LeO.posl (by assumption) ?_)
  |(with_reducible refine LeO.negl (by assumption) ?_)
  |(with_reducible refine LeO.ite3 (by omega) (fun _ => ?_) (fun _ => ?_))
theorem sum_Sub.calls (k : Nat) (a0 : Int) (a1 : Int) (a2 : Int) (a3 : Int) (r1 : Int) (r2 : Bool) (r3 : Bool) (r4 : Bool) (r5 : Bool) (r6 : Bool) (w : World) (h : sum_Sub.f k a0 a1 a2 a3 = some (r1, r2, r3, r4, r5, r6)) :
  Calls Try.prog 63 #[.int .i64 a0, .int .i64 a1, .int .u32 a2, .int .u32 a3] w fun e w' => e = .returned (.tuple #[.int .u32 r1, .agg #[.bool r2, .bool r3, .bool r4, .bool r5, .bool r6]]) ∧ Below w.heap.size w w' :=
 Go.Proofs.Ytjlgmfgjleajfaa.Ek.calls_of L.sum_Sub.ok k ((a0, ()), (a1, ()), (a2, ()), (a3, ()), ()) (r1, r2, r3, r4, r5, r6) rfl (sum_Sub.le (Nat.le_refl _) _ h) w
attribute [local go_sem] max2_int min2_int max_two min_two max_three min_three max_four min_four

-- NEED 4
/-! ### funcs_Sub: function 36 -/
def funcs_Sub.f (k : Nat) (a0 : Int) (a1 : Int) : Option (Int) := (sum_Sub.f k 2 0 a0 a1).bind fun bt426 => (some bt426.1)
theorem funcs_Sub.mono : ∀ a0 a1 k, LeO (funcs_Sub.f k a0 a1) (funcs_Sub.f (k + 1) a0 a1) := by
 intro a0 a1 k
 unfold funcs_Sub.f
 repeat' first
   |(with_reducible exact sum_Sub.mono _ _ _ _ _)
   |(with_reducible exact LeO.refl _)
   |(with_reducible exact LeO.none _)
   |(with_reducible refine LeO.ite ?_ ?_)
   |(with_reducible refine LeO.bind ?_ (fun _ => ?_))
   |exact sum_Sub.mono _ _ _ _ _
   |exact LeO.none _
   |refine LeO.ite ?_ ?_
   |refine LeO.bind ?_ (fun _ => ?_)
set_option maxHeartbeats 8000000 in
set_option maxRecDepth 100000 in
theorem funcs_Sub.calls (k : Nat) (a0 : Int) (a1 : Int) (r : Int) (w : World) (h : funcs_Sub.f k a0 a1 = some r) :
  Calls Try.prog 36 #[.int .u32 a0, .int .u32 a1] w fun e w' => e = .returned (.int .u32 r) ∧ Below w.heap.size w w' := by
 have hu35 := Try.underlying35
 have HB := Aside0.mk (Below.refl w.heap.size w)
 have H : ((sum_Sub.f k 2 0 a0 a1).bind fun bt426 => (some bt426.1)) = some r := h
 clear h
 replace H := Option.bind_eq_some_iff.mp H
 obtain ⟨⟨t426, t427, t428, t429, t430, t431⟩, A30, H⟩ := H
 replace H : (some t426) = some r := H
 have A3 := Aside0.mk A30
 clear A30
 obtain rfl := Option.some.inj H
 go_enter Try.func36, Try.ntmps36
 go_wp2_with (first | ((with_reducible refine gate_callee (f := 63) rfl ?_); refine goesL_ (some 10) rfl rfl Try.func63 (by kernel_rfl) rfl #[.int .i64 2, .int .i64 0, .int .u32 a0, .int .u32 a1] rfl gl ?_; (with_reducible refine (sum_Sub.calls k 2 0 a0 a1 t426 t427 t428 t429 t430 t431 _ A3.out).mono ?_); rintro e w4 ⟨rfl, hb⟩; refine ⟨_, rfl, ?_⟩; have n0_ := Aside0.mk (below_step (bl0 HB.out) hb); clear HB; have HB := n0_; clear n0_) | ((with_reducible refine gate_dst (N := 6) rfl ?_); refine box_event ?hg (N := 6) ?hd (cs := F5) (t := 35) ?hr ?_; (case hd => rfl); (case hg => rfl); (case hr => first | (go_simp; done) | (go_simp; rfl)); intro gb432 hg w5 hbox hb; have n0_ := Aside0.mk (below_step (bl0 HB.out) hb); have n1_ := Aside0.mk (hbox); have n2_ := Aside0.mk ((by rw [hg]; exact (below_size (bl0 HB.out)) : w.heap.size ≤ gb432)); have n3_ := n2_; clear HB; have HB := n0_; have BK432 := n1_; have GW432 := n2_; have GE432 := n3_; clear n0_ n1_ n2_ n3_; clear hb hbox hg; obtain ⟨hcz6_0, hcz6_1, hcz6_2, hcz6_3, hcz6_4⟩ := bc5 BK432.out; obtain ⟨hfz6_0, hfz6_1, hfz6_2, hfz6_3, hfz6_4⟩ := bf5 BK432.out))
 go_ret
 exact ⟨by first | rfl | (simp [errW_none, errW_some] <;> rfl) | (simp [*, errW_none, errW_some] <;> rfl), bl1 HB.out GE432.out⟩

attribute [local go_sem] max2_int min2_int max_two min_two max_three min_three max_four min_four

-- NEED 0
/-! ### funcs_Minus: function 37 -/
def funcs_Minus.f (a0 : Int) : Option (Int) := (format_Turn.f 2 a0).bind fun t433 => (some t433)
set_option maxHeartbeats 8000000 in
set_option maxRecDepth 100000 in
theorem funcs_Minus.calls (a0 : Int) (r : Int) (w : World) (h : funcs_Minus.f a0 = some r) :
  Calls Try.prog 37 #[.int .u32 a0] w fun e w' => e = .returned (.int .u32 r) ∧ Drawn0 w w' := by
 have H : ((format_Turn.f 2 a0).bind fun t433 => (some t433)) = some r := h
 clear h
 replace H := Option.bind_eq_some_iff.mp H
 obtain ⟨t433, A20, H⟩ := H
 replace H : (some t433) = some r := H
 have A2 := Aside0.mk A20
 clear A20
 obtain rfl := Option.some.inj H
 go_enter Try.func37, Try.ntmps37
 go_wp2_with (first | ((with_reducible refine gate_callee (f := 64) rfl ?_); refine goesL_ (some 4) rfl rfl Try.func64 (by kernel_rfl) rfl #[.int .i64 2, .int .u32 a0] rfl gl ?_; (with_reducible refine (format_Turn.calls 2 a0 t433 _ A2.out).mono ?_); rintro e w' ⟨rfl, ⟨nd, rfl⟩⟩; refine ⟨_, rfl, ?_⟩))
 go_ret
 exact ⟨by first | rfl | (simp; done) | (simp [*]; done) | (congr 1; (try unfold wrap64); omega) | (congr 1; rw [IntKind.wrap_u64]; omega), by repeat (first | exact Drawn0.refl _ | apply Drawn0.step)⟩

attribute [local go_sem] max2_int min2_int max_two min_two max_three min_three max_four min_four

-- NEED 3
/-! ### funcs_Fma: function 65 -/
def funcs_Fma.f (k : Nat) (a0 : Int) (a1 : Int) (a2 : Int) : Option (Int) := (prod_Fma.f k 2 0 a0 a1 a2).bind fun bt488 => (some bt488.1)
theorem funcs_Fma.mono : ∀ a0 a1 a2 k, LeO (funcs_Fma.f k a0 a1 a2) (funcs_Fma.f (k + 1) a0 a1 a2) := by
 intro a0 a1 a2 k
 unfold funcs_Fma.f
 repeat' first
   |(with_reducible exact prod_Fma.mono _ _ _ _ _ _)
   |(with_reducible exact LeO.refl _)
   |(with_reducible exact LeO.none _)
   |(with_reducible refine LeO.ite ?_ ?_)
   |(with_reducible refine LeO.bind ?_ (fun _ => ?_))
   |exact prod_Fma.mono _ _ _ _ _ _
   |exact LeO.none _
   |refine LeO.ite ?_ ?_
   |refine LeO.bind ?_ (fun _ => ?_)
set_option maxHeartbeats 8000000 in
set_option maxRecDepth 100000 in
theorem funcs_Fma.calls (k : Nat) (a0 : Int) (a1 : Int) (a2 : Int) (r : Int) (w : World) (h : funcs_Fma.f k a0 a1 a2 = some r) :
  Calls Try.prog 65 #[.int .u32 a0, .int .u32 a1, .int .u32 a2] w fun e w' => e = .returned (.int .u32 r) ∧ Below w.heap.size w w' := by
 have hu35 := Try.underlying35
 have HB := Aside0.mk (Below.refl w.heap.size w)
 have H : ((prod_Fma.f k 2 0 a0 a1 a2).bind fun bt488 => (some bt488.1)) = some r := h
 clear h
 replace H := Option.bind_eq_some_iff.mp H
 obtain ⟨⟨t488, t489, t490, t491, t492, t493⟩, A40, H⟩ := H
 replace H : (some t488) = some r := H
 have A4 := Aside0.mk A40
 clear A40
 obtain rfl := Option.some.inj H
 go_enter Try.func65, Try.ntmps65
 go_wp2_with (first | ((with_reducible refine gate_callee (f := 72) rfl ?_); refine goesL_ (some 13) rfl rfl Try.func72 (by kernel_rfl) rfl #[.int .i64 2, .int .i64 0, .int .u32 a0, .int .u32 a1, .int .u32 a2] rfl gl ?_; (with_reducible refine (prod_Fma.calls k 2 0 a0 a1 a2 t488 t489 t490 t491 t492 t493 _ A4.out).mono ?_); rintro e w5 ⟨rfl, hb⟩; refine ⟨_, rfl, ?_⟩; have n0_ := Aside0.mk (below_step (bl0 HB.out) hb); clear HB; have HB := n0_; clear n0_) | ((with_reducible refine gate_dst (N := 8) rfl ?_); refine box_event ?hg (N := 8) ?hd (cs := F5) (t := 35) ?hr ?_; (case hd => rfl); (case hg => rfl); (case hr => first | (go_simp; done) | (go_simp; rfl)); intro gb494 hg w6 hbox hb; have n0_ := Aside0.mk (below_step (bl0 HB.out) hb); have n1_ := Aside0.mk (hbox); have n2_ := Aside0.mk ((by rw [hg]; exact (below_size (bl0 HB.out)) : w.heap.size ≤ gb494)); have n3_ := n2_; clear HB; have HB := n0_; have BK494 := n1_; have GW494 := n2_; have GE494 := n3_; clear n0_ n1_ n2_ n3_; clear hb hbox hg; obtain ⟨hcz7_0, hcz7_1, hcz7_2, hcz7_3, hcz7_4⟩ := bc5 BK494.out; obtain ⟨hfz7_0, hfz7_1, hfz7_2, hfz7_3, hfz7_4⟩ := bf5 BK494.out))
 go_ret
 exact ⟨by first | rfl | (simp [errW_none, errW_some] <;> rfl) | (simp [*, errW_none, errW_some] <;> rfl), bl1 HB.out GE494.out⟩

-- NEED 3
/-! ### funcs_poly: function 38 -/
def funcs_poly.l0 : Nat → Int → Int → List Int → Int → Int → Option (Int)
 |0, _, _, _, _, _ => none
 |k + 1, x0, x1, x9, x10, x11 => if x11 < x10 then (if 0 ≤ x11 then (if x11 < (x9.length : Int) then ((funcs_Fma.f k x1 x0 (rd x9 x11)).bind fun t496 => (funcs_poly.l0 k x0 t496 x9 x10 (wrap64 (x11 + 1)))) else (none)) else (none)) else (some x1)
def funcs_poly.f (k : Nat) (a0 : Int) (a1 : Int) (l2 : List Int) : Option (Int) := funcs_poly.l0 k a0 a1 l2 (l2.length : Int) 0
theorem funcs_poly.mono_l : ∀ k, (∀ y0 y1 y2 y3 y4, LeO (funcs_poly.l0 k y0 y1 y2 y3 y4) (funcs_poly.l0 (k + 1) y0 y1 y2 y3 y4))
 |0 => fun _ _ _ _ _ r h => by simp [funcs_poly.l0] at h
 |k + 1 => by
  have ih0 := funcs_poly.mono_l k
  ·intro y0 y1 y2 y3 y4
   unfold funcs_poly.l0
   repeat' first
   |(with_reducible exact ih0 _ _ _ _ _)
   |(with_reducible exact funcs_Fma.mono _ _ _ _)
   |(with_reducible exact LeO.refl _)
   |(with_reducible exact LeO.none _)
   |(with_reducible refine LeO.ite ?_ ?_)
   |(with_reducible refine LeO.bind ?_ (fun _ => ?_))
   |exact ih0 _ _ _ _ _
   |exact funcs_Fma.mono _ _ _ _
   |exact LeO.none _
   |refine LeO.ite ?_ ?_
   |refine LeO.bind ?_ (fun _ => ?_)
theorem funcs_poly.mono : ∀ a0 a1 a2 k, LeO (funcs_poly.f k a0 a1 a2) (funcs_poly.f (k + 1) a0 a1 a2) := by
 intro a0 a1 a2 k
 have ih0 := funcs_poly.mono_l k
 unfold funcs_poly.f
 repeat' first
   |(with_reducible exact ih0 _ _ _ _ _)
   |(with_reducible exact funcs_Fma.mono _ _ _ _)
   |(with_reducible exact LeO.refl _)
   |(with_reducible exact LeO.none _)
   |(with_reducible refine LeO.ite ?_ ?_)
   |(with_reducible refine LeO.bind ?_ (fun _ => ?_))
   |exact ih0 _ _ _ _ _
   |exact funcs_Fma.mono _ _ _ _
   |exact LeO.none _
   |refine LeO.ite ?_ ?_
   |refine LeO.bind ?_ (fun _ => ?_)
set_option maxHeartbeats 8000000 in
set_option maxRecDepth 100000 in
theorem funcs_poly.calls (k : Nat) (a0 : Int) (a1 : Int) (A2 : Option Addr) (c2 : Nat) (l2 : List Int) (r : Int) (w : World) (hr2 : Kd.C (Kd.int .u32) w A2 l2.length l2) (hc2 : l2.length ≤ c2) (h : funcs_poly.f k a0 a1 l2 = some r) :
  Calls Try.prog 38 #[.int .u32 a0, .int .u32 a1, .slice A2 l2.length c2] w fun e w' => e = .returned (.int .u32 r) ∧ Below w.heap.size w w' := by
 have HR2 := Aside0.mk hr2
 have HC2 := Aside0.mk hc2
 clear hr2 hc2
 have HB := Aside0.mk (Below.refl w.heap.size w)
 have H : (funcs_poly.l0 k a0 a1 l2 (l2.length : Int) 0) = some r := h
 clear h
 have H' := Aside0.mk H
 clear H
 go_enter Try.func38, Try.ntmps38
 go_wp2
 go_loopg [1, 11] k (fun kq v1 v11 w' => ∃ (x1_1 : Int) (x11_1 : Int), v1 = .int .u32 x1_1 ∧ v11 = .int .i64 x11_1 ∧ Aside0 (funcs_poly.l0 kq a0 x1_1 l2 (l2.length : Int) x11_1 = some r) ∧ Aside0 (kq ≤ k) ∧ Aside0 (Below w.heap.size w w'))
 case atStart => exact ⟨(a1), (0), (by first | rfl | (simp; done) | (simp [*]; done) | (congr 1; (try unfold wrap64); omega) | (congr 1; rw [IntKind.wrap_u64]; omega)), (by first | rfl | (simp; done) | (simp [*]; done) | (congr 1; (try unfold wrap64); omega) | (congr 1; rw [IntKind.wrap_u64]; omega)), H', ⟨Nat.le_refl _⟩, ⟨bl0 HB.out⟩⟩
 case round =>
  clear H'
  try clear c2 p2 c3
  obtain ⟨x1_1, x11_1, rfl, rfl, HA, HK1, HB⟩ := hrel
  cases gk with
  |zero => exact absurd HA.out (by simp [funcs_poly.l0])
  |succ k1 =>
   have H := HA.out
   clear HA
   simp only [funcs_poly.l0] at H
   by_cases c4 : x11_1 < (l2.length : Int)
   ·rw [if_pos c4] at H
    have c4b0 : decide (x11_1 < (l2.length : Int)) = true := decide_eq_true c4
    clear c4
    by_cases c5 : 0 ≤ x11_1
    ·rw [if_pos c5] at H
     have c5b0 : decide (0 ≤ x11_1) = true := decide_eq_true c5
     clear c5
     by_cases c6 : x11_1 < (l2.length : Int)
     ·rw [if_pos c6] at H
      have c6b0 : decide (x11_1 < (l2.length : Int)) = true := decide_eq_true c6
      clear c6
      replace H := Option.bind_eq_some_iff.mp H
      obtain ⟨t496, A70, H⟩ := H
      replace H : (funcs_poly.l0 k1 a0 t496 l2 (l2.length : Int) (wrap64 (x11_1 + 1))) = some r := H
      have A7 := Aside0.mk A70
      clear A70
      have H' := Aside0.mk H
      clear H
      have p495 : 0 ≤ (x11_1 : Int) := of_decide_eq_true (by first | (with_reducible assumption) | assumption)
      have q495 : x11_1 < (l2.length : Int) := of_decide_eq_true (by first | (with_reducible assumption) | assumption)
      obtain ⟨ad495, e495, hx495_0⟩ := Kd.at_int HR2.out x11_1 p495 q495
      cases e495
      replace hx495_0 := (HB.out.cell (World.block_lt_of_cell? w _ hx495_0)).trans hx495_0
      replace p495 := eq_true p495
      replace q495 := eq_true q495
      go_wp2_with (first | ((with_reducible refine gate_callee (f := 65) rfl ?_); refine goesL_ (some 18) rfl rfl Try.func65 (by kernel_rfl) rfl #[.int .u32 x1_1, .int .u32 a0, .int .u32 (rd l2 x11_1)] rfl gl ?_; (with_reducible refine (funcs_Fma.calls k1 x1_1 a0 (rd l2 x11_1) t496 _ A7.out).mono ?_); rintro e w8 ⟨rfl, hb⟩; refine ⟨_, rfl, ?_⟩; have n0_ := Aside0.mk (below_step (bl0 HB.out) hb); clear HB; have HB := n0_; clear n0_))
      go_roundg k1
      case measure => have := HK1.out; omega
      case rel => exact ⟨(t496), (wrap64 (x11_1 + 1)), (by first | rfl | (simp; done) | (simp [*]; done) | (congr 1; (try unfold wrap64); omega) | (congr 1; rw [IntKind.wrap_u64]; omega)), (by first | rfl | (simp; done) | (simp [*]; done) | (congr 1; (try unfold wrap64); omega) | (congr 1; rw [IntKind.wrap_u64]; omega)), H', ⟨by have := HK1.out; omega⟩, ⟨bl0 HB.out⟩⟩
     ·rw [if_neg c6] at H
      exact absurd H (by simp)
    ·rw [if_neg c5] at H
     exact absurd H (by simp)
   ·rw [if_neg c4] at H
    have c4b0 : decide (x11_1 < (l2.length : Int)) = false := decide_eq_false c4
    clear c4
    obtain rfl := Option.some.inj H
    go_wp2
    go_ret
    exact ⟨by first | rfl | (simp [errW_none, errW_some] <;> rfl) | (simp [*, errW_none, errW_some] <;> rfl), bl0 HB.out⟩

attribute [local go_sem] max2_int min2_int max_two min_two max_three min_three max_four min_four

-- NEED 4
/-! ### funcs_Cospi: function 17 -/
def funcs_Cospi.f (k : Nat) (a0 : Int) : Option (Int) := (funcs_IsNan.f k a0).bind fun t497 => (if t497 = true then ((funcs_plain.f).bind fun t498 => (some t498)) else ((funcs_Sub.f k a0 1056964608).bind fun t499 => ((funcs_Mul.f k 1078530011 t499).bind fun t500 => ((funcs_Mul.f k t500 t500).bind fun t501 => ((funcs_poly.f k t501 3109031169 (([1007192201, 3190467243, 1065353216] : List Int))).bind fun t505 => ((funcs_Mul.f k t500 t505).bind fun t506 => ((funcs_Minus.f t506).bind fun t507 => (some t507))))))))
theorem funcs_Cospi.mono : ∀ a0 k, LeO (funcs_Cospi.f k a0) (funcs_Cospi.f (k + 1) a0) := by
 intro a0 k
 unfold funcs_Cospi.f
 repeat' first
   |(with_reducible exact funcs_IsNan.mono _ _)
   |(with_reducible exact funcs_Mul.mono _ _ _)
   |(with_reducible exact funcs_Sub.mono _ _ _)
   |(with_reducible exact funcs_poly.mono _ _ _ _)
   |(with_reducible exact LeO.refl _)
   |(with_reducible exact LeO.none _)
   |(with_reducible refine LeO.ite ?_ ?_)
   |(with_reducible refine LeO.bind ?_ (fun _ => ?_))
   |exact funcs_IsNan.mono _ _
   |exact funcs_Mul.mono _ _ _
   |exact funcs_Sub.mono _ _ _
   |exact funcs_poly.mono _ _ _ _
   |exact LeO.none _
   |refine LeO.ite ?_ ?_
   |refine LeO.bind ?_ (fun _ => ?_)
set_option maxHeartbeats 8000000 in
set_option maxRecDepth 100000 in
theorem funcs_Cospi.calls (k : Nat) (a0 : Int) (r : Int) (w : World) (h : funcs_Cospi.f k a0 = some r) :
  Calls Try.prog 17 #[.int .u32 a0] w fun e w' => e = .returned (.int .u32 r) ∧ Below w.heap.size w w' := by
 have HB := Aside0.mk (Below.refl w.heap.size w)
 have H : ((funcs_IsNan.f k a0).bind fun t497 => (if t497 = true then ((funcs_plain.f).bind fun t498 => (some t498)) else ((funcs_Sub.f k a0 1056964608).bind fun t499 => ((funcs_Mul.f k 1078530011 t499).bind fun t500 => ((funcs_Mul.f k t500 t500).bind fun t501 => ((funcs_poly.f k t501 3109031169 (([1007192201, 3190467243, 1065353216] : List Int))).bind fun t505 => ((funcs_Mul.f k t500 t505).bind fun t506 => ((funcs_Minus.f t506).bind fun t507 => (some t507))))))))) = some r := h
 clear h
 replace H := Option.bind_eq_some_iff.mp H
 obtain ⟨t497, A20, H⟩ := H
 replace H : (if t497 = true then ((funcs_plain.f).bind fun t498 => (some t498)) else ((funcs_Sub.f k a0 1056964608).bind fun t499 => ((funcs_Mul.f k 1078530011 t499).bind fun t500 => ((funcs_Mul.f k t500 t500).bind fun t501 => ((funcs_poly.f k t501 3109031169 (([1007192201, 3190467243, 1065353216] : List Int))).bind fun t505 => ((funcs_Mul.f k t500 t505).bind fun t506 => ((funcs_Minus.f t506).bind fun t507 => (some t507)))))))) = some r := H
 have A2 := Aside0.mk A20
 clear A20
 by_cases c3 : t497 = true
 ·subst c3
  have H1 : ((funcs_plain.f).bind fun t498 => (some t498)) = some r := by rw [if_pos rfl] at H; exact H
  clear H
  have H := H1
  clear H1
  replace H := Option.bind_eq_some_iff.mp H
  obtain ⟨t498, A40, H⟩ := H
  replace H : (some t498) = some r := H
  have A4 := Aside0.mk A40
  clear A40
  obtain rfl := Option.some.inj H
  go_enter Try.func17, Try.ntmps17
  go_wp2_with (first | ((with_reducible refine gate_callee (f := 34) rfl ?_); refine goesL_ (some 6) rfl rfl Try.func34 (by kernel_rfl) rfl #[.int .u32 a0] rfl gl ?_; (with_reducible refine (funcs_IsNan.calls k a0 true _ A2.out).mono ?_); rintro e w' ⟨rfl, ⟨nd, rfl⟩⟩; refine ⟨_, rfl, ?_⟩) | ((with_reducible refine gate_callee (f := 35) rfl ?_); refine goesL_ (some 7) rfl rfl Try.func35 (by kernel_rfl) rfl #[] rfl gl ?_; (with_reducible refine (funcs_plain.calls  t498 _ A4.out).mono ?_); rintro e w' ⟨rfl, ⟨nd, rfl⟩⟩; refine ⟨_, rfl, ?_⟩))
  go_ret
  exact ⟨by first | rfl | (simp [errW_none, errW_some] <;> rfl) | (simp [*, errW_none, errW_some] <;> rfl), bl0 HB.out⟩
 ·replace c3 := Bool.eq_false_iff.mpr c3
  subst c3
  have H1 : ((funcs_Sub.f k a0 1056964608).bind fun t499 => ((funcs_Mul.f k 1078530011 t499).bind fun t500 => ((funcs_Mul.f k t500 t500).bind fun t501 => ((funcs_poly.f k t501 3109031169 (([1007192201, 3190467243, 1065353216] : List Int))).bind fun t505 => ((funcs_Mul.f k t500 t505).bind fun t506 => ((funcs_Minus.f t506).bind fun t507 => (some t507))))))) = some r := by rw [if_neg (show ¬ (false = true) by decide)] at H; exact H
  clear H
  have H := H1
  clear H1
  replace H := Option.bind_eq_some_iff.mp H
  obtain ⟨t499, A50, H⟩ := H
  replace H : ((funcs_Mul.f k 1078530011 t499).bind fun t500 => ((funcs_Mul.f k t500 t500).bind fun t501 => ((funcs_poly.f k t501 3109031169 (([1007192201, 3190467243, 1065353216] : List Int))).bind fun t505 => ((funcs_Mul.f k t500 t505).bind fun t506 => ((funcs_Minus.f t506).bind fun t507 => (some t507)))))) = some r := H
  have A5 := Aside0.mk A50
  clear A50
  replace H := Option.bind_eq_some_iff.mp H
  obtain ⟨t500, A60, H⟩ := H
  replace H : ((funcs_Mul.f k t500 t500).bind fun t501 => ((funcs_poly.f k t501 3109031169 (([1007192201, 3190467243, 1065353216] : List Int))).bind fun t505 => ((funcs_Mul.f k t500 t505).bind fun t506 => ((funcs_Minus.f t506).bind fun t507 => (some t507))))) = some r := H
  have A6 := Aside0.mk A60
  clear A60
  replace H := Option.bind_eq_some_iff.mp H
  obtain ⟨t501, A70, H⟩ := H
  replace H : ((funcs_poly.f k t501 3109031169 (([1007192201, 3190467243, 1065353216] : List Int))).bind fun t505 => ((funcs_Mul.f k t500 t505).bind fun t506 => ((funcs_Minus.f t506).bind fun t507 => (some t507)))) = some r := H
  have A7 := Aside0.mk A70
  clear A70
  obtain ⟨y502, hy502⟩ : ∃ y_ : List Int, y_ = (([1007192201, 3190467243, 1065353216] : List Int)) := ⟨_, rfl⟩
  replace H : ((funcs_poly.f k t501 3109031169 y502).bind fun t505 => ((funcs_Mul.f k t500 t505).bind fun t506 => ((funcs_Minus.f t506).bind fun t507 => (some t507)))) = some r := by first | (rw [hy502]; with_reducible exact H) | (have H2_ := (Option.bind_some _ _).symm.trans H; rw [hy502]; with_reducible exact H2_) | (have H2_ := (Option.bind_some _ _).symm.trans H; with_reducible exact H2_) | with_reducible exact H | (rw [hy502]; exact H) | exact H
  have Ny502 := Aside0.mk hy502
  clear hy502
  replace H := Option.bind_eq_some_iff.mp H
  obtain ⟨t505, A80, H⟩ := H
  replace H : ((funcs_Mul.f k t500 t505).bind fun t506 => ((funcs_Minus.f t506).bind fun t507 => (some t507))) = some r := H
  have A8 := Aside0.mk A80
  clear A80
  replace H := Option.bind_eq_some_iff.mp H
  obtain ⟨t506, A90, H⟩ := H
  replace H : ((funcs_Minus.f t506).bind fun t507 => (some t507)) = some r := H
  have A9 := Aside0.mk A90
  clear A90
  replace H := Option.bind_eq_some_iff.mp H
  obtain ⟨t507, A100, H⟩ := H
  replace H : (some t507) = some r := H
  have A10 := Aside0.mk A100
  clear A100
  obtain rfl := Option.some.inj H
  go_enter Try.func17, Try.ntmps17
  go_wp2_with (first | ((with_reducible refine gate_callee (f := 34) rfl ?_); refine goesL_ (some 6) rfl rfl Try.func34 (by kernel_rfl) rfl #[.int .u32 a0] rfl gl ?_; (with_reducible refine (funcs_IsNan.calls k a0 false _ A2.out).mono ?_); rintro e w' ⟨rfl, ⟨nd, rfl⟩⟩; refine ⟨_, rfl, ?_⟩) | ((with_reducible refine gate_callee (f := 36) rfl ?_); refine goesL_ (some 9) rfl rfl Try.func36 (by kernel_rfl) rfl #[.int .u32 a0, .int .u32 1056964608] rfl gl ?_; (with_reducible refine (funcs_Sub.calls k a0 1056964608 t499 _ A5.out).mono ?_); rintro e w11 ⟨rfl, hb⟩; refine ⟨_, rfl, ?_⟩; have n0_ := Aside0.mk (below_step (bl0 HB.out) hb); clear HB; have HB := n0_; clear n0_) | ((with_reducible refine gate_callee (f := 15) rfl ?_); refine goesL_ (some 10) rfl rfl Try.func15 (by kernel_rfl) rfl #[.int .u32 1078530011, .int .u32 t499] rfl gl ?_; (with_reducible refine (funcs_Mul.calls k 1078530011 t499 t500 _ A6.out).mono ?_); rintro e w12 ⟨rfl, hb⟩; refine ⟨_, rfl, ?_⟩; have n0_ := Aside0.mk (below_step (bl0 HB.out) hb); clear HB; have HB := n0_; clear n0_) | ((with_reducible refine gate_callee (f := 15) rfl ?_); refine goesL_ (some 13) rfl rfl Try.func15 (by kernel_rfl) rfl #[.int .u32 t500, .int .u32 t500] rfl gl ?_; (with_reducible refine (funcs_Mul.calls k t500 t500 t501 _ A7.out).mono ?_); rintro e w13 ⟨rfl, hb⟩; refine ⟨_, rfl, ?_⟩; have n0_ := Aside0.mk (below_step (bl0 HB.out) hb); clear HB; have HB := n0_; clear n0_) | ((with_reducible refine gate_dst (N := 16) rfl ?_); refine Kd.R_lit (Kd.int .u32) _ 23 ?hg (N := 16) ?hd (xs := ([1007192201, 3190467243, 1065353216] : List Int)) (inner := [.int .u32 1007192201, .int .u32 3190467243, .int .u32 1065353216]) (ok := fun _ => True) (okp := fun _ => True) ?hr ?hp (fun _ hk => hk) trivial (Below.refl _ _) (Nat.le_refl _) (by simp) ?_; (case hd => rfl); (case hg => rfl); (case hr => first | (go_simp; done) | (go_simp; rfl)); (case hp => exact (Reps.one (show Kd.M (Kd.int .u32) _ _ _ 1007192201 [.int .u32 1007192201] from rfl) (Reps.one (show Kd.M (Kd.int .u32) _ _ _ 3190467243 [.int .u32 3190467243] from rfl) (Reps.one (show Kd.M (Kd.int .u32) _ _ _ 1065353216 [.int .u32 1065353216] from rfl) (Reps.none _ _))))); intro v503 w14 ho15 hb hg_ hnew_; clear hg_ hnew_; (first | rw [← Ny502.out] at ho15 | (simp only [Int.reduceToNat] at ho15; rw [← Ny502.out] at ho15)); have n0_ := Aside0.mk (Kd.R_lower ho15 (below_size (bl0 HB.out))); have n1_ := Aside0.mk (below_step (bl0 HB.out) hb); clear HB; have HO504 := n0_; have HB := n1_; clear n0_ n1_; clear hb ho15; obtain ⟨Ao16, co16, eo16⟩ := Kd.R_slice HO504.out; subst eo16) | ((with_reducible refine gate_callee (f := 38) rfl ?_); refine goesL_ (some 17) rfl rfl Try.func38 (by kernel_rfl) rfl #[.int .u32 t501, .int .u32 3109031169, .slice Ao16 y502.length co16] rfl gl ?_; (with_reducible refine (funcs_poly.calls k t501 3109031169 _ _ y502 t505 _ ?side1 ?side2 A8.out).mono ?_); (case side1 => repeat (first | exact (Kd.R_reads' HO504.out).2.2 | (with_reducible refine Kd.C_alloc ?_ _) | (with_reducible refine Kd.C_drewN ?_ _) | (with_reducible refine Kd.C_drew ?_))); (case side2 => exact (Kd.R_reads' HO504.out).2.1); rintro e w17 ⟨rfl, hb⟩; refine ⟨_, rfl, ?_⟩; have n0_ := Aside0.mk (Kd.R_below (by (with_reducible repeat (first | apply Kd.R_alloc | apply Kd.R_drewN | apply Kd.R_drew)); exact HO504.out) hb); have n1_ := Aside0.mk (below_step (bl0 HB.out) hb); clear HO504; clear HB; have HO504 := n0_; have HB := n1_; clear n0_ n1_) | ((with_reducible refine gate_callee (f := 15) rfl ?_); refine goesL_ (some 18) rfl rfl Try.func15 (by kernel_rfl) rfl #[.int .u32 t500, .int .u32 t505] rfl gl ?_; (with_reducible refine (funcs_Mul.calls k t500 t505 t506 _ A9.out).mono ?_); rintro e w18 ⟨rfl, hb⟩; refine ⟨_, rfl, ?_⟩; have n0_ := Aside0.mk (Kd.R_below (by (with_reducible repeat (first | apply Kd.R_alloc | apply Kd.R_drewN | apply Kd.R_drew)); exact HO504.out) hb); have n1_ := Aside0.mk (below_step (bl0 HB.out) hb); clear HO504; clear HB; have HO504 := n0_; have HB := n1_; clear n0_ n1_) | ((with_reducible refine gate_callee (f := 37) rfl ?_); refine goesL_ (some 19) rfl rfl Try.func37 (by kernel_rfl) rfl #[.int .u32 t506] rfl gl ?_; (with_reducible refine (funcs_Minus.calls t506 t507 _ A10.out).mono ?_); rintro e w' ⟨rfl, ⟨nd, rfl⟩⟩; refine ⟨_, rfl, ?_⟩))
  go_ret
  exact ⟨by first | rfl | (simp [errW_none, errW_some] <;> rfl) | (simp [*, errW_none, errW_some] <;> rfl), bl0 HB.out⟩

-- NEED 4
/-! ### sched_cosine: function 11 -/
def sched_cosine.f (k : Nat) (a0 : Int) (a1 : Int) : Option (Int) := if a0 ≥ a1 then (some 0) else ((funcs_Int.f k a0).bind fun t508 => ((funcs_Int.f k a1).bind fun t509 => ((funcs_Div.f k t508 t509).bind fun t510 => ((funcs_Cospi.f k t510).bind fun t511 => ((funcs_Add.f k 1065353216 t511).bind fun t512 => ((funcs_Mul.f k 1056964608 t512).bind fun t513 => (some t513)))))))
theorem sched_cosine.mono : ∀ a0 a1 k, LeO (sched_cosine.f k a0 a1) (sched_cosine.f (k + 1) a0 a1) := by
 intro a0 a1 k
 unfold sched_cosine.f
 repeat' first
   |(with_reducible exact funcs_Add.mono _ _ _)
   |(with_reducible exact funcs_Cospi.mono _ _)
   |(with_reducible exact funcs_Div.mono _ _ _)
   |(with_reducible exact funcs_Int.mono _ _)
   |(with_reducible exact funcs_Mul.mono _ _ _)
   |(with_reducible exact LeO.refl _)
   |(with_reducible exact LeO.none _)
   |(with_reducible refine LeO.ite ?_ ?_)
   |(with_reducible refine LeO.bind ?_ (fun _ => ?_))
   |exact funcs_Add.mono _ _ _
   |exact funcs_Cospi.mono _ _
   |exact funcs_Div.mono _ _ _
   |exact funcs_Int.mono _ _
   |exact funcs_Mul.mono _ _ _
   |exact LeO.none _
   |refine LeO.ite ?_ ?_
   |refine LeO.bind ?_ (fun _ => ?_)
set_option maxHeartbeats 8000000 in
set_option maxRecDepth 100000 in
theorem sched_cosine.calls (k : Nat) (a0 : Int) (a1 : Int) (r : Int) (w : World) (h : sched_cosine.f k a0 a1 = some r) :
  Calls Try.prog 11 #[.int .i64 a0, .int .i64 a1] w fun e w' => e = .returned (.int .u32 r) ∧ Below w.heap.size w w' := by
 have HB := Aside0.mk (Below.refl w.heap.size w)
 have H : (if a0 ≥ a1 then (some 0) else ((funcs_Int.f k a0).bind fun t508 => ((funcs_Int.f k a1).bind fun t509 => ((funcs_Div.f k t508 t509).bind fun t510 => ((funcs_Cospi.f k t510).bind fun t511 => ((funcs_Add.f k 1065353216 t511).bind fun t512 => ((funcs_Mul.f k 1056964608 t512).bind fun t513 => (some t513)))))))) = some r := h
 clear h
 by_cases c3 : a0 ≥ a1
 ·rw [if_pos c3] at H
  have c3b0 : decide (a1 ≤ a0) = true := decide_eq_true c3
  clear c3
  obtain rfl := Option.some.inj H
  go_enter Try.func11, Try.ntmps11
  go_wp2
  go_ret
  exact ⟨by first | rfl | (simp [errW_none, errW_some] <;> rfl) | (simp [*, errW_none, errW_some] <;> rfl), bl0 HB.out⟩
 ·rw [if_neg c3] at H
  have c3b0 : decide (a1 ≤ a0) = false := decide_eq_false c3
  clear c3
  replace H := Option.bind_eq_some_iff.mp H
  obtain ⟨t508, A40, H⟩ := H
  replace H : ((funcs_Int.f k a1).bind fun t509 => ((funcs_Div.f k t508 t509).bind fun t510 => ((funcs_Cospi.f k t510).bind fun t511 => ((funcs_Add.f k 1065353216 t511).bind fun t512 => ((funcs_Mul.f k 1056964608 t512).bind fun t513 => (some t513)))))) = some r := H
  have A4 := Aside0.mk A40
  clear A40
  replace H := Option.bind_eq_some_iff.mp H
  obtain ⟨t509, A50, H⟩ := H
  replace H : ((funcs_Div.f k t508 t509).bind fun t510 => ((funcs_Cospi.f k t510).bind fun t511 => ((funcs_Add.f k 1065353216 t511).bind fun t512 => ((funcs_Mul.f k 1056964608 t512).bind fun t513 => (some t513))))) = some r := H
  have A5 := Aside0.mk A50
  clear A50
  replace H := Option.bind_eq_some_iff.mp H
  obtain ⟨t510, A60, H⟩ := H
  replace H : ((funcs_Cospi.f k t510).bind fun t511 => ((funcs_Add.f k 1065353216 t511).bind fun t512 => ((funcs_Mul.f k 1056964608 t512).bind fun t513 => (some t513)))) = some r := H
  have A6 := Aside0.mk A60
  clear A60
  replace H := Option.bind_eq_some_iff.mp H
  obtain ⟨t511, A70, H⟩ := H
  replace H : ((funcs_Add.f k 1065353216 t511).bind fun t512 => ((funcs_Mul.f k 1056964608 t512).bind fun t513 => (some t513))) = some r := H
  have A7 := Aside0.mk A70
  clear A70
  replace H := Option.bind_eq_some_iff.mp H
  obtain ⟨t512, A80, H⟩ := H
  replace H : ((funcs_Mul.f k 1056964608 t512).bind fun t513 => (some t513)) = some r := H
  have A8 := Aside0.mk A80
  clear A80
  replace H := Option.bind_eq_some_iff.mp H
  obtain ⟨t513, A90, H⟩ := H
  replace H : (some t513) = some r := H
  have A9 := Aside0.mk A90
  clear A90
  obtain rfl := Option.some.inj H
  go_enter Try.func11, Try.ntmps11
  go_wp2_with (first | ((with_reducible refine gate_callee (f := 10) rfl ?_); refine goesL_ (some 9) rfl rfl Try.func10 (by kernel_rfl) rfl #[.int .i64 a0] rfl gl ?_; (with_reducible refine (funcs_Int.calls k a0 t508 _ A4.out).mono ?_); rintro e w10 ⟨rfl, hb⟩; refine ⟨_, rfl, ?_⟩; have n0_ := Aside0.mk (below_step (bl0 HB.out) hb); clear HB; have HB := n0_; clear n0_) | ((with_reducible refine gate_callee (f := 10) rfl ?_); refine goesL_ (some 11) rfl rfl Try.func10 (by kernel_rfl) rfl #[.int .i64 a1] rfl gl ?_; (with_reducible refine (funcs_Int.calls k a1 t509 _ A5.out).mono ?_); rintro e w11 ⟨rfl, hb⟩; refine ⟨_, rfl, ?_⟩; have n0_ := Aside0.mk (below_step (bl0 HB.out) hb); clear HB; have HB := n0_; clear n0_) | ((with_reducible refine gate_callee (f := 9) rfl ?_); refine goesL_ (some 12) rfl rfl Try.func9 (by kernel_rfl) rfl #[.int .u32 t508, .int .u32 t509] rfl gl ?_; (with_reducible refine (funcs_Div.calls k t508 t509 t510 _ A6.out).mono ?_); rintro e w12 ⟨rfl, hb⟩; refine ⟨_, rfl, ?_⟩; have n0_ := Aside0.mk (below_step (bl0 HB.out) hb); clear HB; have HB := n0_; clear n0_) | ((with_reducible refine gate_callee (f := 17) rfl ?_); refine goesL_ (some 13) rfl rfl Try.func17 (by kernel_rfl) rfl #[.int .u32 t510] rfl gl ?_; (with_reducible refine (funcs_Cospi.calls k t510 t511 _ A7.out).mono ?_); rintro e w13 ⟨rfl, hb⟩; refine ⟨_, rfl, ?_⟩; have n0_ := Aside0.mk (below_step (bl0 HB.out) hb); clear HB; have HB := n0_; clear n0_) | ((with_reducible refine gate_callee (f := 16) rfl ?_); refine goesL_ (some 14) rfl rfl Try.func16 (by kernel_rfl) rfl #[.int .u32 1065353216, .int .u32 t511] rfl gl ?_; (with_reducible refine (funcs_Add.calls k 1065353216 t511 t512 _ A8.out).mono ?_); rintro e w14 ⟨rfl, hb⟩; refine ⟨_, rfl, ?_⟩; have n0_ := Aside0.mk (below_step (bl0 HB.out) hb); clear HB; have HB := n0_; clear n0_) | ((with_reducible refine gate_callee (f := 15) rfl ?_); refine goesL_ (some 15) rfl rfl Try.func15 (by kernel_rfl) rfl #[.int .u32 1056964608, .int .u32 t512] rfl gl ?_; (with_reducible refine (funcs_Mul.calls k 1056964608 t512 t513 _ A9.out).mono ?_); rintro e w15 ⟨rfl, hb⟩; refine ⟨_, rfl, ?_⟩; have n0_ := Aside0.mk (below_step (bl0 HB.out) hb); clear HB; have HB := n0_; clear n0_))
  go_ret
  exact ⟨by first | rfl | (simp [errW_none, errW_some] <;> rfl) | (simp [*, errW_none, errW_some] <;> rfl), bl0 HB.out⟩

-- NEED 4
/-! ### sched_Factor: function 7 -/
def sched_Factor.f (k : Nat) (a0 : Int) (a1 : Int) (a2 : Int) (a3 : Int) : Option (Int) := if (mx a3 0) < (mx a1 0) then ((funcs_Int.f k (wrap64 ((mx a3 0) + 1))).bind fun t514 => ((funcs_Int.f k (mx a1 0)).bind fun t515 => ((funcs_Div.f k t514 t515).bind fun t516 => (some t516)))) else (if a0 = 1 then ((sched_cosine.f k (wrap64 ((mx a3 0) - (mx a1 0))) (wrap64 ((mx a2 0) - (mx a1 0)))).bind fun t517 => (some t517)) else (if a0 = 2 then (if (wrap64 ((mx a3 0) - (mx a1 0))) < (wrap64 (Int.tdiv (wrap64 ((mx a2 0) - (mx a1 0))) 2)) then (some 1065353216) else (if (wrap64 ((mx a3 0) - (mx a1 0))) < (wrap64 ((wrap64 (Int.tdiv (wrap64 ((mx a2 0) - (mx a1 0))) 4)) * 3)) then (some 1036831949) else (some 1008981770))) else (some 1065353216)))
theorem sched_Factor.mono : ∀ a0 a1 a2 a3 k, LeO (sched_Factor.f k a0 a1 a2 a3) (sched_Factor.f (k + 1) a0 a1 a2 a3) := by
 intro a0 a1 a2 a3 k
 unfold sched_Factor.f
 repeat' first
   |(with_reducible exact funcs_Div.mono _ _ _)
   |(with_reducible exact funcs_Int.mono _ _)
   |(with_reducible exact sched_cosine.mono _ _ _)
   |(with_reducible exact LeO.refl _)
   |(with_reducible exact LeO.none _)
   |(with_reducible refine LeO.ite ?_ ?_)
   |(with_reducible refine LeO.bind ?_ (fun _ => ?_))
   |exact funcs_Div.mono _ _ _
   |exact funcs_Int.mono _ _
   |exact sched_cosine.mono _ _ _
   |exact LeO.none _
   |refine LeO.ite ?_ ?_
   |refine LeO.bind ?_ (fun _ => ?_)
set_option maxHeartbeats 8000000 in
set_option maxRecDepth 100000 in
theorem sched_Factor.calls (k : Nat) (a0 : Int) (a1 : Int) (a2 : Int) (a3 : Int) (r : Int) (w : World) (h : sched_Factor.f k a0 a1 a2 a3 = some r) :
  Calls Try.prog 7 #[.int .i64 a0, .int .i64 a1, .int .i64 a2, .int .i64 a3] w fun e w' => e = .returned (.int .u32 r) ∧ Below w.heap.size w w' := by
 have HB := Aside0.mk (Below.refl w.heap.size w)
 have H : (if (mx a3 0) < (mx a1 0) then ((funcs_Int.f k (wrap64 ((mx a3 0) + 1))).bind fun t514 => ((funcs_Int.f k (mx a1 0)).bind fun t515 => ((funcs_Div.f k t514 t515).bind fun t516 => (some t516)))) else (if a0 = 1 then ((sched_cosine.f k (wrap64 ((mx a3 0) - (mx a1 0))) (wrap64 ((mx a2 0) - (mx a1 0)))).bind fun t517 => (some t517)) else (if a0 = 2 then (if (wrap64 ((mx a3 0) - (mx a1 0))) < (wrap64 (Int.tdiv (wrap64 ((mx a2 0) - (mx a1 0))) 2)) then (some 1065353216) else (if (wrap64 ((mx a3 0) - (mx a1 0))) < (wrap64 ((wrap64 (Int.tdiv (wrap64 ((mx a2 0) - (mx a1 0))) 4)) * 3)) then (some 1036831949) else (some 1008981770))) else (some 1065353216)))) = some r := h
 clear h
 obtain ⟨ji5, hji5⟩ : ∃ j_ : Int, (mx a1 0) = j_ := ⟨_, rfl⟩
 replace H : (if (mx a3 0) < (ji5) then ((funcs_Int.f k (wrap64 ((mx a3 0) + 1))).bind fun t514 => ((funcs_Int.f k (ji5)).bind fun t515 => ((funcs_Div.f k t514 t515).bind fun t516 => (some t516)))) else (if a0 = 1 then ((sched_cosine.f k (wrap64 ((mx a3 0) - (ji5))) (wrap64 ((mx a2 0) - (ji5)))).bind fun t517 => (some t517)) else (if a0 = 2 then (if (wrap64 ((mx a3 0) - (ji5))) < (wrap64 (Int.tdiv (wrap64 ((mx a2 0) - (ji5))) 2)) then (some 1065353216) else (if (wrap64 ((mx a3 0) - (ji5))) < (wrap64 ((wrap64 (Int.tdiv (wrap64 ((mx a2 0) - (ji5))) 4)) * 3)) then (some 1036831949) else (some 1008981770))) else (some 1065353216)))) = some r := by first | (rw [hji5] at H; exact H) | (simp only [hji5] at H ⊢; exact H)
 (try (have hji5l : 0 ≤ ji5 := by (rw [← hji5]; unfold mx; (repeat' split) <;> omega)))
 (try (have hji5m : 0 ≤ ji5 := by omega))
 have hji5_ : (if a1 < 0 then 0 else a1) = ji5 := hji5
 obtain ⟨ji6, hji6⟩ : ∃ j_ : Int, (mx a2 0) = j_ := ⟨_, rfl⟩
 replace H : (if (mx a3 0) < (ji5) then ((funcs_Int.f k (wrap64 ((mx a3 0) + 1))).bind fun t514 => ((funcs_Int.f k (ji5)).bind fun t515 => ((funcs_Div.f k t514 t515).bind fun t516 => (some t516)))) else (if a0 = 1 then ((sched_cosine.f k (wrap64 ((mx a3 0) - (ji5))) (wrap64 ((ji6) - (ji5)))).bind fun t517 => (some t517)) else (if a0 = 2 then (if (wrap64 ((mx a3 0) - (ji5))) < (wrap64 (Int.tdiv (wrap64 ((ji6) - (ji5))) 2)) then (some 1065353216) else (if (wrap64 ((mx a3 0) - (ji5))) < (wrap64 ((wrap64 (Int.tdiv (wrap64 ((ji6) - (ji5))) 4)) * 3)) then (some 1036831949) else (some 1008981770))) else (some 1065353216)))) = some r := by first | (rw [hji6] at H; exact H) | (simp only [hji6] at H ⊢; exact H)
 (try (have hji6l : 0 ≤ ji6 := by (rw [← hji6]; unfold mx; (repeat' split) <;> omega)))
 (try (have hji6m : 0 ≤ ji6 := by omega))
 have hji6_ : (if a2 < 0 then 0 else a2) = ji6 := hji6
 obtain ⟨ji7, hji7⟩ : ∃ j_ : Int, (mx a3 0) = j_ := ⟨_, rfl⟩
 replace H : (if (ji7) < (ji5) then ((funcs_Int.f k (wrap64 ((ji7) + 1))).bind fun t514 => ((funcs_Int.f k (ji5)).bind fun t515 => ((funcs_Div.f k t514 t515).bind fun t516 => (some t516)))) else (if a0 = 1 then ((sched_cosine.f k (wrap64 ((ji7) - (ji5))) (wrap64 ((ji6) - (ji5)))).bind fun t517 => (some t517)) else (if a0 = 2 then (if (wrap64 ((ji7) - (ji5))) < (wrap64 (Int.tdiv (wrap64 ((ji6) - (ji5))) 2)) then (some 1065353216) else (if (wrap64 ((ji7) - (ji5))) < (wrap64 ((wrap64 (Int.tdiv (wrap64 ((ji6) - (ji5))) 4)) * 3)) then (some 1036831949) else (some 1008981770))) else (some 1065353216)))) = some r := by first | (rw [hji7] at H; exact H) | (simp only [hji7] at H ⊢; exact H)
 (try (have hji7l : 0 ≤ ji7 := by (rw [← hji7]; unfold mx; (repeat' split) <;> omega)))
 (try (have hji7m : 0 ≤ ji7 := by omega))
 have hji7_ : (if a3 < 0 then 0 else a3) = ji7 := hji7
 by_cases c8 : (ji7) < (ji5)
 ·rw [if_pos c8] at H
  have c8b0 : decide ((ji7) < (ji5)) = true := decide_eq_true c8
  clear c8
  replace H := Option.bind_eq_some_iff.mp H
  obtain ⟨t514, A90, H⟩ := H
  replace H : ((funcs_Int.f k (ji5)).bind fun t515 => ((funcs_Div.f k t514 t515).bind fun t516 => (some t516))) = some r := H
  have A9 := Aside0.mk A90
  clear A90
  replace H := Option.bind_eq_some_iff.mp H
  obtain ⟨t515, A100, H⟩ := H
  replace H : ((funcs_Div.f k t514 t515).bind fun t516 => (some t516)) = some r := H
  have A10 := Aside0.mk A100
  clear A100
  replace H := Option.bind_eq_some_iff.mp H
  obtain ⟨t516, A110, H⟩ := H
  replace H : (some t516) = some r := H
  have A11 := Aside0.mk A110
  clear A110
  obtain rfl := Option.some.inj H
  go_enter Try.func7, Try.ntmps7
  go_wp2_with (first | ((with_reducible refine gate_callee (f := 10) rfl ?_); refine goesL_ (some 22) rfl rfl Try.func10 (by kernel_rfl) rfl #[.int .i64 (wrap64 ((ji7) + 1))] rfl (by (try simp only [List.map_toArray, List.map_cons, List.map_nil]); first | done | (simp only [hji7]; rfl) | rfl | (simp only [List.length_drop, List.length_take]; rfl)) ?_; (with_reducible refine (funcs_Int.calls k (wrap64 ((ji7) + 1)) t514 _ A9.out).mono ?_); rintro e w12 ⟨rfl, hb⟩; refine ⟨_, rfl, ?_⟩; have n0_ := Aside0.mk (below_step (bl0 HB.out) hb); clear HB; have HB := n0_; clear n0_) | ((with_reducible refine gate_callee (f := 10) rfl ?_); refine goesL_ (some 24) rfl rfl Try.func10 (by kernel_rfl) rfl #[.int .i64 ji5] rfl (by (try simp only [List.map_toArray, List.map_cons, List.map_nil]); first | done | (simp only [hji5]; rfl) | rfl | (simp only [List.length_drop, List.length_take]; rfl)) ?_; (with_reducible refine (funcs_Int.calls k ji5 t515 _ A10.out).mono ?_); rintro e w13 ⟨rfl, hb⟩; refine ⟨_, rfl, ?_⟩; have n0_ := Aside0.mk (below_step (bl0 HB.out) hb); clear HB; have HB := n0_; clear n0_) | ((with_reducible refine gate_callee (f := 9) rfl ?_); refine goesL_ (some 25) rfl rfl Try.func9 (by kernel_rfl) rfl #[.int .u32 t514, .int .u32 t515] rfl gl ?_; (with_reducible refine (funcs_Div.calls k t514 t515 t516 _ A11.out).mono ?_); rintro e w14 ⟨rfl, hb⟩; refine ⟨_, rfl, ?_⟩; have n0_ := Aside0.mk (below_step (bl0 HB.out) hb); clear HB; have HB := n0_; clear n0_))
  go_ret
  exact ⟨by first | rfl | (simp [errW_none, errW_some] <;> rfl) | (simp only [← hji5, ← hji6, ← hji7]; first | rfl | (simp [errW_none, errW_some] <;> rfl)) | (simp [*, errW_none, errW_some] <;> rfl), bl0 HB.out⟩
 ·rw [if_neg c8] at H
  have c8b0 : decide ((ji7) < (ji5)) = false := decide_eq_false c8
  clear c8
  by_cases c15 : a0 = 1
  ·rw [if_pos c15] at H
   have c15b0 : (a0 == 1) = true := beq_iff_eq.mpr c15
   have c15b1 : (a0 != 1) = false := bne_eq_false_iff_eq.mpr c15
   clear c15
   replace H := Option.bind_eq_some_iff.mp H
   obtain ⟨t517, A160, H⟩ := H
   replace H : (some t517) = some r := H
   have A16 := Aside0.mk A160
   clear A160
   obtain rfl := Option.some.inj H
   go_enter Try.func7, Try.ntmps7
   go_wp2_with (first | ((with_reducible refine gate_callee (f := 11) rfl ?_); refine goesL_ (some 37) rfl rfl Try.func11 (by kernel_rfl) rfl #[.int .i64 (wrap64 ((ji7) - (ji5))), .int .i64 (wrap64 ((ji6) - (ji5)))] rfl (by (try simp only [List.map_toArray, List.map_cons, List.map_nil]); first | done | (simp only [hji5, hji6, hji7]; rfl) | rfl | (simp only [List.length_drop, List.length_take]; rfl)) ?_; (with_reducible refine (sched_cosine.calls k (wrap64 ((ji7) - (ji5))) (wrap64 ((ji6) - (ji5))) t517 _ A16.out).mono ?_); rintro e w17 ⟨rfl, hb⟩; refine ⟨_, rfl, ?_⟩; have n0_ := Aside0.mk (below_step (bl0 HB.out) hb); clear HB; have HB := n0_; clear n0_))
   go_ret
   exact ⟨by first | rfl | (simp [errW_none, errW_some] <;> rfl) | (simp only [← hji5, ← hji6, ← hji7]; first | rfl | (simp [errW_none, errW_some] <;> rfl)) | (simp [*, errW_none, errW_some] <;> rfl), bl0 HB.out⟩
  ·rw [if_neg c15] at H
   have c15b0 : (a0 == 1) = false := beq_eq_false_iff_ne.mpr c15
   have c15b1 : (a0 != 1) = true := bne_iff_ne.mpr c15
   by_cases c18 : a0 = 2
   ·rw [if_pos c18] at H
    have c18b0 : (a0 == 2) = true := beq_iff_eq.mpr c18
    have c18b1 : (a0 != 2) = false := bne_eq_false_iff_eq.mpr c18
    clear c18
    by_cases c19 : (wrap64 ((ji7) - (ji5))) < (wrap64 (Int.tdiv (wrap64 ((ji6) - (ji5))) 2))
    ·rw [if_pos c19] at H
     have c19b0 : decide ((wrap64 ((ji7) - (ji5))) < (wrap64 (Int.tdiv (wrap64 ((ji6) - (ji5))) 2))) = true := decide_eq_true c19
     clear c19
     obtain rfl := Option.some.inj H
     go_enter Try.func7, Try.ntmps7
     go_wp2
     go_ret
     exact ⟨by first | rfl | (simp [errW_none, errW_some] <;> rfl) | (simp only [← hji5, ← hji6, ← hji7]; first | rfl | (simp [errW_none, errW_some] <;> rfl)) | (simp [*, errW_none, errW_some] <;> rfl), bl0 HB.out⟩
    ·rw [if_neg c19] at H
     have c19b0 : decide ((wrap64 ((ji7) - (ji5))) < (wrap64 (Int.tdiv (wrap64 ((ji6) - (ji5))) 2))) = false := decide_eq_false c19
     clear c19
     by_cases c20 : (wrap64 ((ji7) - (ji5))) < (wrap64 ((wrap64 (Int.tdiv (wrap64 ((ji6) - (ji5))) 4)) * 3))
     ·rw [if_pos c20] at H
      have c20b0 : decide ((wrap64 ((ji7) - (ji5))) < (wrap64 ((wrap64 (Int.tdiv (wrap64 ((ji6) - (ji5))) 4)) * 3))) = true := decide_eq_true c20
      clear c20
      obtain rfl := Option.some.inj H
      go_enter Try.func7, Try.ntmps7
      go_wp2
      go_ret
      exact ⟨by first | rfl | (simp [errW_none, errW_some] <;> rfl) | (simp only [← hji5, ← hji6, ← hji7]; first | rfl | (simp [errW_none, errW_some] <;> rfl)) | (simp [*, errW_none, errW_some] <;> rfl), bl0 HB.out⟩
     ·rw [if_neg c20] at H
      have c20b0 : decide ((wrap64 ((ji7) - (ji5))) < (wrap64 ((wrap64 (Int.tdiv (wrap64 ((ji6) - (ji5))) 4)) * 3))) = false := decide_eq_false c20
      clear c20
      obtain rfl := Option.some.inj H
      go_enter Try.func7, Try.ntmps7
      go_wp2
      go_ret
      exact ⟨by first | rfl | (simp [errW_none, errW_some] <;> rfl) | (simp only [← hji5, ← hji6, ← hji7]; first | rfl | (simp [errW_none, errW_some] <;> rfl)) | (simp [*, errW_none, errW_some] <;> rfl), bl0 HB.out⟩
   ·rw [if_neg c18] at H
    have c18b0 : (a0 == 2) = false := beq_eq_false_iff_ne.mpr c18
    have c18b1 : (a0 != 2) = true := bne_iff_ne.mpr c18
    obtain rfl := Option.some.inj H
    go_enter Try.func7, Try.ntmps7
    go_wp2
    go_ret
    exact ⟨by first | rfl | (simp [errW_none, errW_some] <;> rfl) | (simp only [← hji5, ← hji6, ← hji7]; first | rfl | (simp [errW_none, errW_some] <;> rfl)) | (simp [*, errW_none, errW_some] <;> rfl), bl0 HB.out⟩

-- NEED 4
/-! ### anneallaw20_known: function 6 -/
def anneallaw20_known.f (k : Nat)  : Option (Bool) := (sched_Factor.f k 0 4 10 0).bind fun t518 => (if t518 = 1048576000 then ((sched_Factor.f k 2 0 8 4).bind fun t519 => (if t519 = 1036831949 then ((sched_Factor.f k 1 0 8 8).bind fun t520 => (some (t520 == 0))) else (some false))) else (some false))
theorem anneallaw20_known.mono : ∀ k, LeO (anneallaw20_known.f k ) (anneallaw20_known.f (k + 1) ) := by
 intro  k
 unfold anneallaw20_known.f
 repeat' first
   |(with_reducible exact sched_Factor.mono _ _ _ _ _)
   |(with_reducible exact LeO.refl _)
   |(with_reducible exact LeO.none _)
   |(with_reducible refine LeO.ite ?_ ?_)
   |(with_reducible refine LeO.bind ?_ (fun _ => ?_))
   |exact sched_Factor.mono _ _ _ _ _
   |exact LeO.none _
   |refine LeO.ite ?_ ?_
   |refine LeO.bind ?_ (fun _ => ?_)
set_option maxHeartbeats 8000000 in
set_option maxRecDepth 100000 in
theorem anneallaw20_known.calls (k : Nat)  (r : Bool) (w : World) (h : anneallaw20_known.f k  = some r) :
  Calls Try.prog 6 #[] w fun e w' => e = .returned (.bool r) ∧ Below w.heap.size w w' := by
 have HB := Aside0.mk (Below.refl w.heap.size w)
 have H : ((sched_Factor.f k 0 4 10 0).bind fun t518 => (if t518 = 1048576000 then ((sched_Factor.f k 2 0 8 4).bind fun t519 => (if t519 = 1036831949 then ((sched_Factor.f k 1 0 8 8).bind fun t520 => (some (t520 == 0))) else (some false))) else (some false))) = some r := h
 clear h
 replace H := Option.bind_eq_some_iff.mp H
 obtain ⟨t518, A10, H⟩ := H
 replace H : (if t518 = 1048576000 then ((sched_Factor.f k 2 0 8 4).bind fun t519 => (if t519 = 1036831949 then ((sched_Factor.f k 1 0 8 8).bind fun t520 => (some (t520 == 0))) else (some false))) else (some false)) = some r := H
 have A1 := Aside0.mk A10
 clear A10
 by_cases c2 : t518 = 1048576000
 ·rw [if_pos c2] at H
  have c2b0 : (t518 == 1048576000) = true := beq_iff_eq.mpr c2
  have c2b1 : (t518 != 1048576000) = false := bne_eq_false_iff_eq.mpr c2
  clear c2
  replace H := Option.bind_eq_some_iff.mp H
  obtain ⟨t519, A30, H⟩ := H
  replace H : (if t519 = 1036831949 then ((sched_Factor.f k 1 0 8 8).bind fun t520 => (some (t520 == 0))) else (some false)) = some r := H
  have A3 := Aside0.mk A30
  clear A30
  by_cases c4 : t519 = 1036831949
  ·rw [if_pos c4] at H
   have c4b0 : (t519 == 1036831949) = true := beq_iff_eq.mpr c4
   have c4b1 : (t519 != 1036831949) = false := bne_eq_false_iff_eq.mpr c4
   clear c4
   replace H := Option.bind_eq_some_iff.mp H
   obtain ⟨t520, A50, H⟩ := H
   replace H : (some (t520 == 0)) = some r := H
   have A5 := Aside0.mk A50
   clear A50
   obtain rfl := Option.some.inj H
   go_enter Try.func6, Try.ntmps6
   go_wp2_with (first | ((with_reducible refine gate_callee (f := 7) rfl ?_); refine goesL_ (some 1) rfl rfl Try.func7 (by kernel_rfl) rfl #[.int .i64 0, .int .i64 4, .int .i64 10, .int .i64 0] rfl gl ?_; (with_reducible refine (sched_Factor.calls k 0 4 10 0 t518 _ A1.out).mono ?_); rintro e w6 ⟨rfl, hb⟩; refine ⟨_, rfl, ?_⟩; have n0_ := Aside0.mk (below_step (bl0 HB.out) hb); clear HB; have HB := n0_; clear n0_) | (go_at_call 7; (with_reducible refine (sched_Factor.calls k 2 0 8 4 t519 _ A3.out).mono ?_); rintro e w7 ⟨rfl, hb⟩; have n0_ := Aside0.mk (below_step (bl0 HB.out) hb); clear HB; have HB := n0_; clear n0_) | (go_at_call 7; (with_reducible refine (sched_Factor.calls k 1 0 8 8 t520 _ A5.out).mono ?_); rintro e w8 ⟨rfl, hb⟩; have n0_ := Aside0.mk (below_step (bl0 HB.out) hb); clear HB; have HB := n0_; clear n0_))
   go_ret
   exact ⟨by first | rfl | (simp [errW_none, errW_some] <;> rfl) | (simp [*, errW_none, errW_some] <;> rfl), bl0 HB.out⟩
  ·rw [if_neg c4] at H
   have c4b0 : (t519 == 1036831949) = false := beq_eq_false_iff_ne.mpr c4
   have c4b1 : (t519 != 1036831949) = true := bne_iff_ne.mpr c4
   obtain rfl := Option.some.inj H
   go_enter Try.func6, Try.ntmps6
   go_wp2_with (first | ((with_reducible refine gate_callee (f := 7) rfl ?_); refine goesL_ (some 1) rfl rfl Try.func7 (by kernel_rfl) rfl #[.int .i64 0, .int .i64 4, .int .i64 10, .int .i64 0] rfl gl ?_; (with_reducible refine (sched_Factor.calls k 0 4 10 0 t518 _ A1.out).mono ?_); rintro e w9 ⟨rfl, hb⟩; refine ⟨_, rfl, ?_⟩; have n0_ := Aside0.mk (below_step (bl0 HB.out) hb); clear HB; have HB := n0_; clear n0_) | (go_at_call 7; (with_reducible refine (sched_Factor.calls k 2 0 8 4 t519 _ A3.out).mono ?_); rintro e w10 ⟨rfl, hb⟩; have n0_ := Aside0.mk (below_step (bl0 HB.out) hb); clear HB; have HB := n0_; clear n0_))
   go_ret
   exact ⟨by first | rfl | (simp [errW_none, errW_some] <;> rfl) | (simp [*, errW_none, errW_some] <;> rfl), bl0 HB.out⟩
 ·rw [if_neg c2] at H
  have c2b0 : (t518 == 1048576000) = false := beq_eq_false_iff_ne.mpr c2
  have c2b1 : (t518 != 1048576000) = true := bne_iff_ne.mpr c2
  obtain rfl := Option.some.inj H
  go_enter Try.func6, Try.ntmps6
  go_wp2_with (first | ((with_reducible refine gate_callee (f := 7) rfl ?_); refine goesL_ (some 1) rfl rfl Try.func7 (by kernel_rfl) rfl #[.int .i64 0, .int .i64 4, .int .i64 10, .int .i64 0] rfl gl ?_; (with_reducible refine (sched_Factor.calls k 0 4 10 0 t518 _ A1.out).mono ?_); rintro e w11 ⟨rfl, hb⟩; refine ⟨_, rfl, ?_⟩; have n0_ := Aside0.mk (below_step (bl0 HB.out) hb); clear HB; have HB := n0_; clear n0_))
  go_ret
  exact ⟨by first | rfl | (simp [errW_none, errW_some] <;> rfl) | (simp [*, errW_none, errW_some] <;> rfl), bl0 HB.out⟩

end Go.Proofs.Ytjlgmfgjleajfaa.P
