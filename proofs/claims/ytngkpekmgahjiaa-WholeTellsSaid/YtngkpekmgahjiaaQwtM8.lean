import Derived.Test.YtngkpekmgahjiaaQwtM7
import Derived.Test.YtngkpekmgahjiaaQwtPackE
import Derived.Test.YtngkpekmgahjiaaQwtM3
import Derived.Test.YtngkpekmgahjiaaQwtM6
import Derived.Test.YtngkpekmgahjiaaQwtM4
import Derived.Test.YtngkpekmgahjiaaQwtPx18
import Derived.Test.YtngkpekmgahjiaaQwtM5
import Derived.Test.YtngkpekmgahjiaaQwtPx26
/- Numbers times powers of two: the program's, as plain numbers. -/
namespace Go.Proofs.Ytngkpekmgahjiaa.Round
open Go.RowKit Go.Proofs.Ytngkpekmgahjiaa.P Go.Proofs.Ytngkpekmgahjiaa.Num Go.Proofs.Ytngkpekmgahjiaa.BitsF Go.Proofs.Ytngkpekmgahjiaa.Fmt Go.Proofs.YtngkpekmgahjiaaW.PrintWords Go.Proofs.YtngkpekmgahjiaaW.PrintLast Go.Proofs.YtngkpekmgahjiaaW.PrintMore

def clampS (n : Int) : Int := mn (mx n (-5000)) 5000
theorem clampS_in (n : Int) : -5000 ≤ clampS n ∧ clampS n ≤ 5000 := by
 unfold clampS mn mx; split <;> split <;> omega
def scaleN (f mode : Int) (v : Nat) (n : Int) : Nat :=
 if 4 ≤ clsN f v then nanN f else if clsN f v = 3 then lowN f v else packN f mode (negN f v) (lowestN f v + clampS n) (wholeN f v) false
def scaleX (f mode : Int) (v : Nat) (n : Int) : Bool × Bool × Bool × Bool × Bool :=
 if 4 ≤ clsN f v then (isLoud f v, false, false, false, false) else if clsN f v = 3 then (false, false, false, false, false) else (false, false, excN f mode (negN f v) (lowestN f v + clampS n) (wholeN f v) false)
theorem apart_ev (f : Int) (v : Nat) (hv : v < 4294967296) : Ev (fun k => whole_apart.f k f (v : Int))
  (if 4 ≤ clsN f v then ((nanN f : Int), isLoud f v, false, false, false, false, true) else ((lowN f v : Int), false, false, false, false, false, decide (clsN f v = 3 ∨ clsN f v = 0))) := by
 refine Ev.congr (fun k => by unfold whole_apart.f; rfl) (Ev.bind (pnans1_ev f v hv) ?_)
 by_cases c4 : 4 ≤ clsN f v
 ·rw [if_pos c4]
  exact Ev.congr (fun k => by rw [if_pos (show isNan f v = true from decide_eq_true c4)]) (Ev.now _)
 ·rw [if_neg c4]
  have n4 : ¬ isNan f v = true := by unfold isNan; simp; omega
  refine Ev.congr (fun k => by rw [if_neg n4, pmask_f, Option.bind_some, and_mask f v hv]) (Ev.bind (pinf_ev f v hv) ?_)
  by_cases c3 : clsN f v = 3
  ·exact Ev.congr (fun k => by rw [if_pos (decide_eq_true c3), decide_eq_true (.inl c3)]) (Ev.now _)
  ·refine Ev.congr (fun k => by rw [if_neg (by simp [c3])]) (Ev.bind (pzero_ev f v hv) (Ev.congr (fun k => ?_) (Ev.now _)))
   rw [show decide (clsN f v = 3 ∨ clsN f v = 0) = decide (clsN f v = 0) from decide_eq_decide.mpr (by omega)]
theorem scale_e (f : Int) (v : Nat) (n : Int) : wrap64 (lowestN f v + mn (mx n (-5000)) 5000) = lowestN f v + clampS n ∧ -10000 ≤ lowestN f v + clampS n ∧ lowestN f v + clampS n ≤ 10000 := by
 obtain ⟨l1, l2⟩ := lowest_near f v
 have := clampS_in n
 refine ⟨?_, by omega, by omega⟩
 show wrap64 (lowestN f v + clampS n) = _
 exact w64_id _ (by omega) (by omega)
theorem scale_ev (f mode : Int) (v : Nat) (n : Int) (hv : v < 4294967296) : Ev (fun k => whole_Scale.f k f mode (v : Int) n) ((scaleN f mode v n : Int), scaleX f mode v n) := by
 refine Ev.congr (fun k => by unfold whole_Scale.f; rfl) (Ev.bind (apart_ev f v hv) ?_)
 unfold scaleN scaleX
 by_cases c4 : 4 ≤ clsN f v
 ·rw [if_pos c4, if_pos c4, if_pos c4]
  exact Ev.congr (fun k => by rw [if_pos rfl]) (Ev.now _)
 ·rw [if_neg c4, if_neg c4, if_neg c4]
  by_cases c3 : clsN f v = 3
  ·rw [if_pos c3, if_pos c3, decide_eq_true (.inl c3)]
   exact Ev.congr (fun k => by rw [if_pos rfl]) (Ev.now _)
  ·rw [if_neg c3, if_neg c3]
   by_cases c0 : clsN f v = 0
   ·obtain ⟨n1, n2⟩ := none_low f v c0
    obtain ⟨q1, q2⟩ := pack_none f mode (negN f v) (lowestN f v + clampS n)
    rw [decide_eq_true (.inr c0), n1, n2, q1, q2]
    exact Ev.congr (fun k => by rw [if_pos rfl]) (Ev.now _)
   ·have hx := cls_exp f v (by omega)
    obtain ⟨e1, e2, e3⟩ := scale_e f v n
    have hp := packs_ev f mode (negN f v) (lowestN f v + clampS n) (wholeN f v) false (whole_64 f v)
    rw [clampE_id _ e2 e3] at hp
    rw [decide_eq_false (by omega)]
    exact Ev.congr (fun k => by rw [if_neg (show ¬ false = true by decide), of_f f v hv hx, Option.bind_some]; dsimp only; rw [e1]) (Ev.bind hp (Ev.now _))
/- Numbers made whole: the program's, as plain numbers. -/

theorem pfinite_f (f : Int) (v : Nat) (hv : v < 4294967296) : format_Finite.f f (v : Int) = some (decide (expN f v < topN f)) := by
  unfold format_Finite.f
  rw [parts_f f v hv, Option.bind_some, top_f, Option.bind_some]
  dsimp only
  congr 1; apply decide_eq_decide.mpr; omega
def unitsN (f mode : Int) (v : Nat) : Nat :=
  if 40 < lowestN f v + lenN (wholeN f v) then 1099511627776
  else quoN (wholeN f v) (-lowestN f v) + if upN mode (negN f v) (quoN (wholeN f v) (-lowestN f v)) (leftN (wholeN f v) (-lowestN f v) false) then 1 else 0
def unitsX (f : Int) (v : Nat) : Bool := if 40 < lowestN f v + lenN (wholeN f v) then false else decide (leftN (wholeN f v) (-lowestN f v) false ≠ 0)
theorem whole_len (f : Int) (v : Nat) : lenN (wholeN f v) ≤ 24 := by
  have h := lenN_bound _ _ (whole_lt f v)
  have := fbounds f
  omega
theorem quo_forty (f : Int) (v : Nat) (h : ¬ 40 < lowestN f v + lenN (wholeN f v)) : quoN (wholeN f v) (-lowestN f v) < 2 ^ 40 := by
  have hl := lenN_lt (wholeN f v)
  have hw := whole_len f v
  unfold quoN
  by_cases c : -lowestN f v ≤ 0
  · rw [if_pos c, show (-(-lowestN f v)).toNat = (lowestN f v).toNat by congr 1; omega]
    have h1 : wholeN f v * 2 ^ (lowestN f v).toNat < 2 ^ lenN (wholeN f v) * 2 ^ (lowestN f v).toNat := Nat.mul_lt_mul_of_pos_right hl (Nat.two_pow_pos _)
    rw [← Nat.pow_add] at h1
    exact Nat.lt_of_lt_of_le h1 (Nat.pow_le_pow_right (by decide) (by omega))
  · rw [if_neg c]
    exact Nat.lt_of_le_of_lt (Nat.div_le_self _ _) (Nat.lt_of_lt_of_le hl (Nat.pow_le_pow_right (by decide) (by omega)))
theorem units_le (f mode : Int) (v : Nat) : unitsN f mode v ≤ 1099511627776 := by
  unfold unitsN
  split
  · omega
  · next h =>
    have := quo_forty f v h
    split <;> omega
theorem units_ev (f mode : Int) (v : Nat) : Ev (fun k => whole_units.f k (negN f v) (lowestN f v) (wholeN f v : Int) false mode) ((unitsN f mode v : Int), unitsX f v) := by
  have hs := whole_64 f v
  obtain ⟨l1, l2⟩ := lowest_near f v
  have hw := whole_len f v
  refine Ev.congr (fun k => by unfold whole_units.f; rfl) (Ev.bind (len_ev _ hs) ?_)
  rw [w64_id (lowestN f v + (lenN (wholeN f v) : Int)) (by omega) (by omega), w64_id (-lowestN f v) (by omega) (by omega)]
  unfold unitsN unitsX
  by_cases c : 40 < lowestN f v + lenN (wholeN f v)
  · rw [if_pos c, if_pos c]
    exact Ev.congr (fun k => by rw [if_pos (by omega)]; rfl) (Ev.now _)
  · rw [if_neg c, if_neg c]
    have hq := quo_forty f v c
    have hu := units_f 0 (wholeN f v) hs (-lowestN f v) (by omega) (by omega) false (fun h => by
      unfold quoN at hq; rw [if_pos h] at hq; omega)
    refine Ev.congr (fun k => by rw [if_neg (by omega)]) (Ev.bind (Ev.of (round_Units.mono _ _ _) hu) ?_)
    dsimp only
    generalize hQ : quoN (wholeN f v) (-lowestN f v) = q at *
    generalize leftN (wholeN f v) (-lowestN f v) false = l at *
    refine Ev.congr (fun k => by rw [up_f mode (negN f v) q l (by omega), Option.bind_some, exc_cast]) ?_
    cases upN mode (negN f v) q l
    · exact Ev.congr (fun k => by rw [if_neg (by decide), if_neg (by decide), Nat.add_zero]) (Ev.now _)
    · exact Ev.congr (fun k => by rw [if_pos rfl, if_pos rfl, show (q : Int) + 1 = ((q + 1 : Nat) : Int) by omega, u64_id _ (by omega)]) (Ev.now _)
def intN (f mode : Int) (v : Nat) : Int := if negN f v then -(unitsN f mode v : Int) else (unitsN f mode v : Int)
def toIntN (f mode : Int) (v : Nat) : Int × Bool × Bool × Bool × Bool × Bool :=
  if expN f v < topN f ∧ -2147483648 ≤ intN f mode v ∧ intN f mode v ≤ 2147483647 then (intN f mode v, false, false, false, false, unitsX f v) else (-2147483648, true, false, false, false, false)
theorem w32_id (n : Int) (h : -2147483648 ≤ n) (h' : n ≤ 2147483647) : wrap32 n = n := by unfold wrap32; omega
theorem w32_in (n : Int) : -2147483648 ≤ wrap32 n ∧ wrap32 n ≤ 2147483647 := by unfold wrap32; omega
theorem fits (V : Int) (h1 : -1099511627776 ≤ V) (h2 : V ≤ 1099511627776) (x : Bool) : (if V = wrap64 (wrap32 V) then some (wrap32 V, false, false, false, false, x) else some (-2147483648, true, false, false, false, false)) =
    some (if -2147483648 ≤ V ∧ V ≤ 2147483647 then (V, false, false, false, false, x) else (-2147483648, true, false, false, false, false)) := by
  obtain ⟨w1, w2⟩ := w32_in V
  rw [w64_id (wrap32 V) (by omega) (by omega)]
  by_cases c : -2147483648 ≤ V ∧ V ≤ 2147483647
  · rw [w32_id V c.1 c.2, if_pos rfl, if_pos c]
  · rw [if_neg (by omega), if_neg c]
theorem toint_ev (f mode : Int) (v : Nat) (hv : v < 4294967296) : Ev (fun k => whole_ToInt.f k f mode (v : Int)) (toIntN f mode v) := by
  refine Ev.congr (fun k => by unfold whole_ToInt.f; rw [pfinite_f f v hv, Option.bind_some]) ?_
  unfold toIntN intN
  have hu := units_le f mode v
  by_cases c : expN f v < topN f
  · refine Ev.congr (fun k => by rw [if_pos (decide_eq_true c), of_f f v hv c, Option.bind_some]) (Ev.bind (units_ev f mode v) ?_)
    dsimp only
    generalize unitsN f mode v = q at *
    rw [w64_id (q : Int) (by omega) (by omega), w64_id (-(q : Int)) (by omega) (by omega)]
    cases negN f v
    · refine Ev.congr (fun k => by rw [if_neg (show ¬ false = true by decide)]) (Ev.step (fun k => ?_) (Ev.now _))
      rw [whole_ToInt.j0, fits (q : Int) (by omega) (by omega)]
      by_cases d : -2147483648 ≤ (q : Int) ∧ (q : Int) ≤ 2147483647
      · rw [if_pos d, if_neg (show ¬ false = true by decide), if_pos ⟨c, d⟩]
      · rw [if_neg d, if_neg (show ¬ false = true by decide), if_neg (fun h => d h.2)]
    · refine Ev.congr (fun k => by rw [if_pos (show true = true from rfl)]) (Ev.step (fun k => ?_) (Ev.now _))
      rw [whole_ToInt.j0, fits (-(q : Int)) (by omega) (by omega)]
      by_cases d : -2147483648 ≤ -(q : Int) ∧ -(q : Int) ≤ 2147483647
      · rw [if_pos d, if_pos (show true = true from rfl), if_pos ⟨c, d⟩]
      · rw [if_neg d, if_pos (show true = true from rfl), if_neg (fun h => d h.2)]
  · rw [if_neg (fun h => c h.1)]
    exact Ev.congr (fun k => by rw [if_neg (by simp [c])]) (Ev.now _)
/- Amounts: what a number's bits without its sign stand for, in units of the least number; rounding depends on the amount alone. -/

def magN (f : Int) (v : Nat) : Nat := v % 2 ^ (fe f + fm f)
theorem mag_parts (f : Int) (v : Nat) : magN f v / 2 ^ fm f = expN f v ∧ magN f v % 2 ^ fm f = fracN f v := by
 unfold magN expN fracN
 rw [Nat.add_comm (fe f), Nat.pow_add]
 exact ⟨Nat.mod_mul_right_div_self .., Nat.mod_mul_right_mod ..⟩
/- Whole numbers as numbers, and numbers made whole that stay numbers: the program's, as plain numbers. -/

theorem amount_f (v : Int) (h1 : -9223372036854775808 ≤ v) (h2 : v ≤ 9223372036854775807) : whole_amount.f v = some (v.natAbs : Int) := by
  unfold whole_amount.f
  by_cases c : v < 0
  · rw [if_pos c, u64_wrap, u64_wrap]; congr 1; omega
  · rw [if_neg c, u64_wrap]; congr 1; omega
theorem fromint_ev (f mode v : Int) (h1 : -9223372036854775808 ≤ v) (h2 : v ≤ 9223372036854775807) :
    Ev (fun k => whole_FromInt.f k f mode v) ((packN f mode (decide (v < 0)) 0 v.natAbs false : Int), false, false, excN f mode (decide (v < 0)) 0 v.natAbs false) := by
  have hp := packs_ev f mode (decide (v < 0)) 0 v.natAbs false (by omega)
  rw [clampE_id _ (by decide) (by decide)] at hp
  exact Ev.congr (fun k => by unfold whole_FromInt.f; rw [amount_f v h1 h2, Option.bind_some]) (Ev.bind hp (Ev.now _))
def roundN (f mode : Int) (v : Nat) : Nat :=
  if 4 ≤ clsN f v then nanN f else if clsN f v = 3 ∨ clsN f v = 0 ∨ 0 ≤ lowestN f v then lowN f v else packN f mode (negN f v) 0 (unitsN f mode v) false
def roundX (f : Int) (v : Nat) : Bool × Bool :=
  if 4 ≤ clsN f v then (isLoud f v, false) else if clsN f v = 3 ∨ clsN f v = 0 ∨ 0 ≤ lowestN f v then (false, false) else (false, unitsX f v)
theorem round_ev (f mode : Int) (v : Nat) (hv : v < 4294967296) : Ev (fun k => whole_Round.f k f mode (v : Int)) ((roundN f mode v : Int), (roundX f v).1, false, false, false, (roundX f v).2) := by
  refine Ev.congr (fun k => by unfold whole_Round.f; rfl) (Ev.bind (apart_ev f v hv) ?_)
  unfold roundN roundX
  by_cases c4 : 4 ≤ clsN f v
  · rw [if_pos c4, if_pos c4, if_pos c4]
    exact Ev.congr (fun k => by rw [if_pos rfl]) (Ev.now _)
  · rw [if_neg c4, if_neg c4, if_neg c4]
    by_cases c3 : clsN f v = 3 ∨ clsN f v = 0
    · rw [if_pos (show clsN f v = 3 ∨ clsN f v = 0 ∨ 0 ≤ lowestN f v by omega), if_pos (show clsN f v = 3 ∨ clsN f v = 0 ∨ 0 ≤ lowestN f v by omega), decide_eq_true c3]
      exact Ev.congr (fun k => by rw [if_pos rfl]) (Ev.now _)
    · rw [decide_eq_false c3]
      refine Ev.congr (fun k => by rw [if_neg (show ¬ false = true by decide), of_f f v hv (cls_exp f v (by omega)), Option.bind_some]) ?_
      dsimp only
      by_cases c0 : 0 ≤ lowestN f v
      · rw [if_pos (show clsN f v = 3 ∨ clsN f v = 0 ∨ 0 ≤ lowestN f v by omega), if_pos (show clsN f v = 3 ∨ clsN f v = 0 ∨ 0 ≤ lowestN f v by omega)]
        exact Ev.congr (fun k => by rw [if_pos c0, pmask_f, Option.bind_some, and_mask f v hv]) (Ev.now _)
      · rw [if_neg (show ¬ (clsN f v = 3 ∨ clsN f v = 0 ∨ 0 ≤ lowestN f v) by omega), if_neg (show ¬ (clsN f v = 3 ∨ clsN f v = 0 ∨ 0 ≤ lowestN f v) by omega)]
        have hu := units_le f mode v
        have hp := packs_ev f mode (negN f v) 0 (unitsN f mode v) false (by omega)
        rw [clampE_id _ (by decide) (by decide)] at hp
        refine Ev.congr (fun k => by rw [if_neg (by omega)]) (Ev.bind (units_ev f mode v) (Ev.bind hp ?_))
        exact Ev.now _
end Go.Proofs.Ytngkpekmgahjiaa.Round

/- The reference's loops of layer 1: how many bits, shifts. -/
namespace Go.Proofs.Ytngkpekmgahjiaa.BitsF
open Go.RowKit Go.Proofs.Ytngkpekmgahjiaa.P Go.Proofs.Ytngkpekmgahjiaa.Num Go.Proofs.YtngkpekmgahjiaaW.PrintWords Go.Proofs.YtngkpekmgahjiaaW.PrintLast Go.Proofs.YtngkpekmgahjiaaW.PrintMore

theorem ref_len_l0 (j : Nat) : ∀ v c k : Nat, v < 2 ^ j → c + j ≤ 64 → annealref1_Len.l0 (j + 1 + k) (v : Int) (c : Int) = some ((c + lenN v : Nat) : Int) := by
 induction j with
 |zero =>
  intro v c k h _
  obtain rfl : v = 0 := by rw [Nat.pow_zero] at h; omega
  rw [show 0 + 1 + k = k + 1 by omega, annealref1_Len.l0, if_neg (by decide)]; rfl
 |succ j ih =>
  intro v c k h hc
  rw [show j + 1 + 1 + k = (j + 1 + k) + 1 by omega, annealref1_Len.l0]
  by_cases hv : v = 0
  ·subst hv; rw [if_neg (by decide)]; rfl
  ·rw [if_pos (by omega), show (v : Int) / 2 = ((v / 2 : Nat) : Int) by omega, w64_id _ (by omega) (by omega), show (c : Int) + 1 = ((c + 1 : Nat) : Int) by omega, ih _ _ k (by rw [Nat.pow_succ] at h; omega) (by omega), lenN_half v hv]
   congr 2; omega
theorem ref_len_ev (v : Nat) (hv : v < 18446744073709551616) : Ev (fun k => annealref1_Len.f k (v : Int)) (lenN v : Int) :=
 Ev.of (annealref1_Len.mono _) (k := 65) (by
  have h := ref_len_l0 64 v 0 0 (by omega) (by decide)
  rw [Nat.zero_add, show 64 + 1 + 0 = 65 from rfl] at h
  unfold annealref1_Len.f
  exact h)
theorem half_pow (v j : Nat) : v / 2 / 2 ^ j = v / 2 ^ (j + 1) := by rw [Nat.div_div_eq_div_mul, Nat.pow_succ, Nat.mul_comm 2]
theorem out_right (v j : Nat) : (decide (v % 2 ≠ 0) || decide (v / 2 % 2 ^ j ≠ 0)) = decide (v % 2 ^ (j + 1) ≠ 0) := by
 have e : v % 2 ^ (j + 1) = v % 2 + 2 * (v / 2 % 2 ^ j) := by rw [Nat.pow_succ, Nat.mul_comm, Nat.mod_mul]
 rw [← Bool.decide_or]
 congr 1; apply propext
 have hz : ∀ z : Nat, v / 2 % 2 ^ j = z → (v % 2 ≠ 0 ∨ z ≠ 0 ↔ v % 2 + 2 * z ≠ 0) := by intro z _; omega
 rw [e]; exact hz _ rfl
theorem ref_shift_l1 (j : Nat) : ∀ (v k : Nat) (b : Bool), v < 18446744073709551616 → j ≤ 64 →
  annealref1_Shift.l1 (j + 1 + k) (v : Int) (-(j : Int)) b = some (((v * 2 ^ j % 18446744073709551616 : Nat) : Int), b || decide (18446744073709551616 ≤ v * 2 ^ j)) := by
 induction j with
 |zero =>
  intro v k b hv _
  rw [show 0 + 1 + k = k + 1 by omega, annealref1_Shift.l1, if_neg (by decide), Nat.pow_zero, Nat.mul_one, Nat.mod_eq_of_lt hv, decide_eq_false (by omega), Bool.or_false]
 |succ j ih =>
  intro v k b hv hj
  have e1 : wrap64 (-((j + 1 : Nat) : Int) + 1) = -(j : Int) := by rw [w64_id] <;> omega
  have e2 : IntKind.u64.wrap ((v : Int) * 2) = ((v * 2 % 18446744073709551616 : Nat) : Int) := by rw [show (v : Int) * 2 = ((v * 2 : Nat) : Int) by omega, u64_nat]
  have e3 : (((v : Int) / 9223372036854775808 == 1) : Bool) = decide (9223372036854775808 ≤ v) := by
   by_cases h : 9223372036854775808 ≤ v
   ·rw [decide_eq_true h, beq_iff_eq]; omega
   ·rw [decide_eq_false h, beq_eq_false_iff_ne]; omega
  have e4 : v * 2 % 18446744073709551616 * 2 ^ j % 18446744073709551616 = v * 2 ^ (j + 1) % 18446744073709551616 := by
   rw [Nat.mod_mul_mod, Nat.mul_assoc, ← Nat.pow_succ']
  have e5 : ∀ b : Bool, ((b || decide (9223372036854775808 ≤ v)) || decide (18446744073709551616 ≤ v * 2 % 18446744073709551616 * 2 ^ j)) = (b || decide (18446744073709551616 ≤ v * 2 ^ (j + 1))) := by
   intro b
   rw [Bool.or_assoc, ← Bool.decide_or]
   congr 2
   apply propext
   rw [show v * 2 ^ (j + 1) = v * 2 * 2 ^ j by rw [Nat.mul_assoc, ← Nat.pow_succ']]
   have hp := Nat.two_pow_pos j
   constructor
   ·rintro (h | h)
    ·calc 18446744073709551616 ≤ v * 2 * 1 := by omega
      _ ≤ v * 2 * 2 ^ j := Nat.mul_le_mul_left _ hp
    ·exact Nat.le_trans h (Nat.mul_le_mul_right _ (Nat.mod_le _ _))
   ·intro h
    by_cases h' : 9223372036854775808 ≤ v
    ·exact .inl h'
    ·right; rw [Nat.mod_eq_of_lt (by omega)]; exact h
  rw [show j + 1 + 1 + k = (j + 1 + k) + 1 by omega, annealref1_Shift.l1, if_pos (by omega), e1, e2, e3]
  by_cases hb : b = true
  ·subst hb
   rw [if_pos rfl, ih _ k true (Nat.mod_lt _ (by decide)) (by omega), e4]
   simp only [Bool.true_or]
  ·rw [if_neg hb, ih _ k _ (Nat.mod_lt _ (by decide)) (by omega), e4]
   have : b = false := by simpa using hb
   subst this
   have := e5 false
   simp only [Bool.false_or] at this ⊢
   rw [this]
theorem ref_shift_l0 (j : Nat) : ∀ (v k : Nat) (b : Bool), v < 18446744073709551616 → j ≤ 64 →
  annealref1_Shift.l0 (j + 2 + k) (v : Int) (j : Int) b = some (((v / 2 ^ j : Nat) : Int), b || decide (v % 2 ^ j ≠ 0)) := by
 induction j with
 |zero =>
  intro v k b hv _
  have h := ref_shift_l1 0 v k b hv (by decide)
  rw [show 0 + 2 + k = (0 + 1 + k) + 1 by omega, annealref1_Shift.l0, if_neg (by decide), show ((0 : Nat) : Int) = -((0 : Nat) : Int) by rfl, h]
  simp [Nat.mod_one]; omega
 |succ j ih =>
  intro v k b hv hj
  have e1 : wrap64 (((j + 1 : Nat) : Int) - 1) = (j : Int) := by rw [w64_id] <;> omega
  have e3 : ((Go.bits .and .u64 (v : Int) 1 == 1) : Bool) = decide (v % 2 ≠ 0) := by
   rw [and1_u64 v hv]
   by_cases h : v % 2 ≠ 0
   ·rw [decide_eq_true h, beq_iff_eq]; omega
   ·rw [decide_eq_false h, beq_eq_false_iff_ne]; omega
  rw [show j + 1 + 2 + k = (j + 2 + k) + 1 by omega, annealref1_Shift.l0, if_pos (by omega), e1, e3, show (v : Int) / 2 = ((v / 2 : Nat) : Int) by omega]
  have o := out_right v j
  by_cases hb : b = true
  ·subst hb
   rw [if_pos rfl, ih _ k true (by omega) (by omega), half_pow]
   simp only [Bool.true_or]
  ·rw [if_neg hb, ih _ k _ (by omega) (by omega), half_pow, o]
   have : b = false := by simpa using hb
   subst this
   rfl
theorem ref_shift_ev (v : Nat) (hv : v < 18446744073709551616) (n : Int) :
  Ev (fun k => annealref1_Shift.f k (v : Int) n) ((((shiftN v n).1 : Nat) : Int), (shiftN v n).2) := by
 refine Ev.of (annealref1_Shift.mono _ _) (k := 67) ?_
 unfold annealref1_Shift.f
 by_cases c : 0 ≤ n
 ·obtain ⟨m, rfl⟩ := nat_of c
  have e : mn (mx (m : Int) (-64)) 64 = ((min m 64 : Nat) : Int) := by unfold mn mx; split <;> split <;> omega
  have h := ref_shift_l0 (min m 64) v (65 - min m 64) false hv (by omega)
  rw [show min m 64 + 2 + (65 - min m 64) = 67 by omega] at h
  rw [e, h, shiftN_right]
  by_cases c' : m ≤ 64
  ·rw [Nat.min_eq_left c']; rfl
  ·have b1 := pow_big (show 64 ≤ m by omega)
   rw [Nat.min_eq_right (by omega), Nat.div_eq_of_lt (show v < 2 ^ 64 by omega), Nat.mod_eq_of_lt (show v < 2 ^ 64 by omega), Nat.div_eq_of_lt (show v < 2 ^ m by omega), Nat.mod_eq_of_lt (show v < 2 ^ m by omega)]; rfl
 ·obtain ⟨m, hm⟩ := nat_of (show 0 ≤ -n by omega)
  obtain rfl : n = -(m : Int) := by omega
  have e : mn (mx (-(m : Int)) (-64)) 64 = -((min m 64 : Nat) : Int) := by unfold mn mx; split <;> split <;> omega
  have h := ref_shift_l1 (min m 64) v (65 - min m 64) false hv (by omega)
  rw [show min m 64 + 1 + (65 - min m 64) = 66 by omega] at h
  rw [e, annealref1_Shift.l0, if_neg (by omega), h, shiftN_left _ _ hv]
  by_cases c' : m ≤ 64
  ·rw [Nat.min_eq_left c']; rfl
  ·rw [Nat.min_eq_right (by omega)]
   have b1 := pow_big (show 64 ≤ m by omega)
   have e : (2 : Nat) ^ m = 18446744073709551616 * 2 ^ (m - 64) := by rw [show 18446744073709551616 = 2 ^ 64 from rfl, ← Nat.pow_add]; congr 1; omega
   have e1 : v * 2 ^ m % 18446744073709551616 = 0 := by rw [e, ← Nat.mul_assoc, Nat.mul_comm v, Nat.mul_assoc, Nat.mul_mod_right]
   rw [e1, show v * 2 ^ 64 % 18446744073709551616 = 0 by omega, Bool.false_or]
   congr 2
   apply decide_eq_decide.mpr
   constructor
   ·intro h1
    have : v ≠ 0 := by intro h0; subst h0; omega
    exact Nat.le_trans b1 (Nat.le_mul_of_pos_left _ (by omega))
   ·intro h1
    have : v ≠ 0 := by intro h0; subst h0; omega
    omega
end Go.Proofs.Ytngkpekmgahjiaa.BitsF

/- What the reference's rounding computes: the same plain numbers. -/
namespace Go.Proofs.Ytngkpekmgahjiaa.Round
open Go.RowKit Go.Proofs.Ytngkpekmgahjiaa.P Go.Proofs.Ytngkpekmgahjiaa.Num Go.Proofs.Ytngkpekmgahjiaa.BitsF Go.Proofs.Ytngkpekmgahjiaa.Fmt Go.Proofs.YtngkpekmgahjiaaW.PrintWords Go.Proofs.YtngkpekmgahjiaaW.PrintLast Go.Proofs.YtngkpekmgahjiaaW.PrintMore

theorem ref_greatest_f (f : Int) (neg : Bool) : annealref1_Greatest.f f neg = some (greatN f neg : Int) := by
 unfold annealref1_Greatest.f greatN
 obtain ⟨hi, _⟩ := inf_lt f neg
 have ht := top_cases f
 have hp := Nat.two_pow_pos (fm f)
 have : 0 < topN f * 2 ^ fm f := Nat.mul_pos (by omega) hp
 rw [ref_inf_f]; simp only [Option.bind_some]
 unfold infN at *
 congr 1; omega
theorem ref_divide_f (s : Nat) (hs : s < 18446744073709551616) (d : Int) (h1 : -100000 ≤ d) (h2 : d ≤ 100000) (hq : d ≤ 0 → s * 2 ^ (-d).toNat < 18446744073709551616) :
  Ev (fun k => annealref1_divide.f k (s : Int) d) ((quoN s d : Int), decide (2 ≤ leftN s d false), decide (leftN s d false = 1 ∨ leftN s d false = 3)) := by
 unfold annealref1_divide.f
 by_cases c : d ≤ 0
 ·obtain ⟨m, hm⟩ := nat_of (show 0 ≤ -d by omega)
  have e : mn (wrap64 (-d)) 63 = ((min m 63 : Nat) : Int) := by rw [w64_id _ (by omega) (by omega), hm]; unfold mn; split <;> omega
  simp only [if_pos c, e, if_pos (show 0 ≤ ((min m 63 : Nat) : Int) by omega), left_none false (.inl c)]
  have hq' := hq c
  rw [hm, Int.toNat_natCast] at hq'
  have e2 : IntKind.u64.wrap ((s : Int) * 2 ^ ((min m 63 : Nat) : Int).toNat) = (quoN s d : Int) := by
   rw [Int.toNat_natCast, show (s : Int) * 2 ^ (min m 63) = ((s * 2 ^ (min m 63) : Nat) : Int) by simp, u64_nat]
   unfold quoN; rw [if_pos c, hm, Int.toNat_natCast]
   by_cases z : s = 0
   ·subst z; simp
   ·have : m ≤ 63 := by
     rcases Nat.lt_or_ge 63 m with h | h
     ·have := pow_big (show 64 ≤ m by omega)
      have : 2 ^ m ≤ s * 2 ^ m := Nat.le_mul_of_pos_left _ (by omega)
      omega
     ·exact h
    rw [Nat.min_eq_left this, Nat.mod_eq_of_lt hq']
  rw [e2]
  exact Ev.now _
 ·obtain ⟨m, rfl⟩ := nat_of (show 0 ≤ d by omega)
  have hqe : quoN s (m : Int) = s / 2 ^ m := by unfold quoN; rw [if_neg c, Int.toNat_natCast]
  rw [hqe]
  simp only [if_neg c]
  by_cases c' : (m : Int) > 64
  ·simp only [if_pos c']
   have hb := pow_big (show 64 ≤ m - 1 by omega)
   have hb2 := pow_big (show 64 ≤ m by omega)
   have hl : leftN s (m : Int) false = if s = 0 then 0 else 1 := by
    by_cases z : s = 0
    ·subst z; rw [left_none _ (.inr (by simp))]; rfl
    ·rw [left_some _ c (by rw [Int.toNat_natCast, Nat.mod_eq_of_lt (by omega)]; exact z), Int.toNat_natCast, Nat.div_eq_of_lt (show s < 2 ^ (m - 1) by omega), if_neg z]; rfl
   rw [Nat.div_eq_of_lt (show s < 2 ^ m by omega), hl, show (0 : Int) = ((0 : Nat) : Int) from rfl, bne_cast]
   by_cases z : s = 0
   ·subst z; exact Ev.now _
   ·rw [if_neg z, decide_eq_true z]; exact Ev.now _
  ·have e : wrap64 ((m : Int) - 1) = ((m - 1 : Nat) : Int) := by rw [w64_id] <;> omega
   simp only [if_neg c', e]
   have hd : s / 2 ^ (m - 1) < 18446744073709551616 := Nat.lt_of_le_of_lt (Nat.div_le_self _ _) hs
   have s1 := ref_shift_ev s hs (m : Int)
   have s2 := ref_shift_ev s hs ((m - 1 : Nat) : Int)
   rw [shiftN_right] at s1 s2
   refine Ev.bind s1 (Ev.bind s2 (Ev.bind s2 ?_))
   rw [and1_u64 _ hd]
   have em : s % 2 ^ m = s % 2 ^ (m - 1) + 2 ^ (m - 1) * (s / 2 ^ (m - 1) % 2) := by
    rw [show m = m - 1 + 1 by omega, Nat.pow_succ, Nat.mod_mul, Nat.add_sub_cancel]
   have hb1 : (((s / 2 ^ (m - 1) % 2 : Nat) : Int) == 1) = decide (2 ≤ leftN s (m : Int) false) ∧ decide (s % 2 ^ (m - 1) ≠ 0) = decide (leftN s (m : Int) false = 1 ∨ leftN s (m : Int) false = 3) := by
    have hp := Nat.two_pow_pos (m - 1)
    by_cases z : s % 2 ^ m = 0
    ·rw [left_none _ (.inr (by rw [Int.toNat_natCast]; exact z))]
     rw [z] at em
     have z1 : s % 2 ^ (m - 1) = 0 := by omega
     have z2 : s / 2 ^ (m - 1) % 2 = 0 := by
      have : 2 ^ (m - 1) * (s / 2 ^ (m - 1) % 2) = 0 := by omega
      rcases Nat.mul_eq_zero.mp this with h | h
      ·omega
      ·exact h
     rw [z1, z2]; exact ⟨rfl, rfl⟩
    ·rw [left_some _ c (by rw [Int.toNat_natCast]; exact z), Int.toNat_natCast]
     have hb : s / 2 ^ (m - 1) % 2 = 0 ∨ s / 2 ^ (m - 1) % 2 = 1 := by omega
     rcases hb with hb | hb
     ·rw [hb, Nat.mul_zero, Nat.add_zero] at em
      rw [em] at z
      rw [hb, decide_eq_true z]; exact ⟨rfl, rfl⟩
     ·rw [hb, if_neg (by decide)]
      by_cases w : s % 2 ^ (m - 1) = 0
      ·rw [w]; exact ⟨rfl, rfl⟩
      ·rw [if_pos (.inl w), decide_eq_true w]; exact ⟨rfl, rfl⟩
   simp only [hb1.1, hb1.2]
   exact Ev.now _
theorem left_more (s : Nat) (d : Int) : decide (2 ≤ leftN s d true) = decide (2 ≤ leftN s d false) ∧ (leftN s d true = 1 ∨ leftN s d true = 3) := by
 by_cases c : d ≤ 0 ∨ s % 2 ^ d.toNat = 0
 ·rw [left_none _ c, left_none _ c]; simp
 ·have c' := not_or.mp c
  rw [left_some _ c'.1 c'.2, left_some _ c'.1 c'.2]
  split
  ·simp
  ·simp; split <;> simp
theorem ref_up_f (mode : Int) (neg : Bool) (q left : Nat) (h : left ≤ 3) : annealref1_up.f mode neg (decide (q % 2 = 1)) (decide (2 ≤ left)) (decide (left = 1 ∨ left = 3)) = some (upN mode neg q left) := by
 unfold annealref1_up.f upN
 have hl : left = 0 ∨ left = 1 ∨ left = 2 ∨ left = 3 := by omega
 by_cases m1 : mode = 1
 ·rw [if_pos m1, if_pos m1]
 ·rw [if_neg m1, if_neg m1]
  by_cases m2 : mode = 2
  ·rw [if_pos m2, if_pos m2]; rcases hl with rfl | rfl | rfl | rfl <;> cases neg <;> rfl
  ·rw [if_neg m2, if_neg m2]
   by_cases m3 : mode = 3
   ·rw [if_pos m3, if_pos m3]; rcases hl with rfl | rfl | rfl | rfl <;> cases neg <;> rfl
   ·rw [if_neg m3, if_neg m3]
    by_cases m4 : mode = 4
    ·rw [if_pos m4, if_pos m4]
    ·rw [if_neg m4, if_neg m4]
     rcases hl with rfl | rfl | rfl | rfl <;> simp
theorem ref_over_f (k : Nat) (f mode : Int) (neg : Bool) : annealref1_over.f (k + 1) f mode neg = some (((if endless mode neg then infN f neg else greatN f neg : Nat) : Int)) := by
 unfold annealref1_over.f endless
 simp only [annealref1_over.j0, ref_greatest_f, ref_inf_f, Option.bind_some]
 by_cases m1 : mode = 1
 ·rw [if_pos m1, if_pos m1]; rfl
 ·rw [if_neg m1, if_neg m1]
  by_cases m2 : mode = 2
  ·rw [if_pos m2, if_pos m2]; subst m2; cases neg <;> rfl
  ·rw [if_neg m2, if_neg m2]
   by_cases m3 : mode = 3
   ·rw [if_pos m3, if_pos m3]; cases neg <;> rfl
   ·rw [if_neg m3, if_neg m3]; rfl
/- The reference's rounding computes the same numbers as the program's. -/

theorem sign_or (f : Int) (neg : Bool) (v : Nat) (h : v < 2 ^ (fe f + fm f)) : Go.bits .or .u32 (signN f neg : Int) (v : Int) = ((v + signN f neg : Nat) : Int) ∧ v + signN f neg < 4294967296 := by
 obtain ⟨b1, b2, b3, b4, b5⟩ := fbounds f
 have h31 := pow_le31 b5
 unfold signN
 cases neg
 ·simp only [Bool.false_eq_true, if_false]
  rw [or_u32 _ _ (by omega) (by omega), Nat.zero_or, Nat.add_zero]; exact ⟨rfl, by omega⟩
 ·simp only [if_true]
  rw [or_u32 _ _ (by omega) (by omega), or_add _ _ (fe f + fm f) (by simp) h, Nat.add_comm]; exact ⟨rfl, by omega⟩
theorem ref_pack_j5 (k : Nat) (f mode : Int) (neg : Bool) (q U : Nat) (hU : U ≤ 10300) (hq : q < 2 ^ (fm f + 1)) (hq' : U ≠ 0 → 2 ^ fm f ≤ q) (K : Nat) (hK : K = U * 2 ^ fm f + q) (c0 c1 c2 c3 c4 : Bool) :
  annealref1_Pack.j5 (k + 2) f mode neg (fm f : Int) (leastN f - fm f + U) (q : Int) c0 c1 c2 c3 c4 = some
   ((((if overN f K then (if endless mode neg then topN f * 2 ^ fm f else topN f * 2 ^ fm f - 1) else K) + signN f neg : Nat) : Int),
    if overN f K then (false, false, true, false, true) else (c0, c1, c2, c3, c4)) ∧
  annealref1_Pack.j6 (k + 2) f mode neg (fm f : Int) (leastN f - fm f + U) (q : Int) c0 c1 c2 c3 c4 = some
   ((((if overN f K then (if endless mode neg then topN f * 2 ^ fm f else topN f * 2 ^ fm f - 1) else K) + signN f neg : Nat) : Int),
    if overN f K then (false, false, true, false, true) else (c0, c1, c2, c3, c4)) := by
 obtain ⟨b1, b2, b3, b4, b5⟩ := fbounds f
 have hl := least_cases f
 have hp := Nat.two_pow_pos (fm f)
 have hpe := Nat.two_pow_pos (fe f)
 have h31 := pow_le31 (show fm f + 1 ≤ 31 by omega)
 have h8 := pow_le31 (show fe f ≤ 31 by omega)
 have hsucc : 2 ^ (fm f + 1) = 2 * 2 ^ fm f := by rw [Nat.pow_succ, Nat.mul_comm]
 have ht := top_cases f
 obtain ⟨_, hte⟩ := inf_lt f neg
 have e1 : shl .u64 1 (fm f : Int) = ((2 ^ fm f : Nat) : Int) := by rw [show (1 : Int) = ((1 : Nat) : Int) from rfl, shl_u64, Nat.one_mul, Nat.mod_eq_of_lt (by omega)]
 have e2 : wrap64 (wrap64 (leastN f - (fm f : Int) + (U : Int) + (fm f : Int)) + (1 - leastN f)) = ((U + 1 : Nat) : Int) := by
  rw [w64_id (leastN f - (fm f : Int) + (U : Int) + (fm f : Int)) (by omega) (by omega), w64_id _ (by omega) (by omega)]; omega
 have e3 : wrap64 (shl .i64 1 (fe f : Int) - 1) = ((topN f : Nat) : Int) := by
  rw [one_shl_i64 _ (by omega), w64_id _ (by omega) (by omega)]; unfold topN; omega
 rw [annealref1_Pack.j5, annealref1_Pack.j6, if_pos (by omega), e1, ref_bias_f, ref_widths_f, ref_sign_f]
 simp only [Option.bind_some]
 rw [if_pos (show (0 : Int) ≤ (fe f : Int) by omega), e2, e3, ref_over_f]
 simp only [Option.bind_some]
 by_cases c : q < 2 ^ fm f
 ·have hU0 : U = 0 := by
   rcases Nat.eq_zero_or_pos U with h | h
   ·exact h
   ·have := hq' (by omega); omega
  have ho : overN f K = false := by
   unfold overN
   rw [decide_eq_false_iff_not, hK, hU0]
   have : 1 * 2 ^ fm f ≤ topN f * 2 ^ fm f := Nat.mul_le_mul_right _ (by omega)
   omega
  obtain ⟨s1, s2⟩ := sign_or f neg q (by omega)
  rw [if_pos (show (q : Int) < ((2 ^ fm f : Nat) : Int) by omega), show (q : Int) % 4294967296 = (q : Int) by omega, s1, ho, hK, hU0]
  simp
 ·rw [if_neg (show ¬ (q : Int) < ((2 ^ fm f : Nat) : Int) by omega)]
  have ho : ((U + 1 : Nat) : Int) ≥ (topN f : Int) ↔ overN f K = true := by
   unfold overN
   rw [decide_eq_true_iff, hK]
   constructor
   ·intro h
    have : topN f * 2 ^ fm f ≤ (U + 1) * 2 ^ fm f := Nat.mul_le_mul_right _ (by omega)
    rw [Nat.add_mul, Nat.one_mul] at this; omega
   ·intro h
    rcases Nat.lt_or_ge (U + 1) (topN f) with d | d
    ·have : (U + 1 + 1) * 2 ^ fm f ≤ topN f * 2 ^ fm f := Nat.mul_le_mul_right _ d
     rw [Nat.add_mul, Nat.add_mul, Nat.one_mul] at this; omega
    ·omega
  by_cases c' : ((U + 1 : Nat) : Int) ≥ (topN f : Int)
  ·rw [if_pos c', ho.mp c']
   simp only [if_true]
   have : (if endless mode neg then infN f neg else greatN f neg) = (if endless mode neg then topN f * 2 ^ fm f else topN f * 2 ^ fm f - 1) + signN f neg := by
    unfold infN greatN; split <;> rfl
   rw [this]
   exact ⟨rfl, rfl⟩
  ·rw [if_neg c']
   have co : overN f K = false := by simpa using fun h => c' (ho.mpr h)
   have hmul : (U + 1) * 2 ^ fm f + 2 ^ fm f ≤ 2 ^ (fe f + fm f) := by
    have : (U + 1) * 2 ^ fm f ≤ topN f * 2 ^ fm f := Nat.mul_le_mul_right _ (by omega)
    omega
   have h32 := pow_le31 b5
   have hm1 : q % 2 ^ fm f = q - 2 ^ fm f := by
    have h1 : q / 2 ^ fm f = 1 := Nat.div_eq_of_lt_le (by omega) (by omega)
    have := Nat.div_add_mod q (2 ^ fm f)
    rw [h1, Nat.mul_one] at this; omega
   have e4 : shl .u32 (((U + 1 : Nat) : Int) % 4294967296) (fm f : Int) = (((U + 1) * 2 ^ fm f : Nat) : Int) := by
    rw [show ((U + 1 : Nat) : Int) % 4294967296 = ((U + 1 : Nat) : Int) by omega, shl_u32, Nat.mod_eq_of_lt (by omega)]
   have e5 : Go.bits .and .u64 (q : Int) (IntKind.u64.wrap (((2 ^ fm f : Nat) : Int) - 1)) % 4294967296 = ((q % 2 ^ fm f : Nat) : Int) := by
    rw [show ((2 ^ fm f : Nat) : Int) - 1 = ((2 ^ fm f - 1 : Nat) : Int) by omega, u64_id _ (by omega), mask_u64 _ _ (by omega) (by omega)]
    have := Nat.mod_lt q hp; omega
   have hKe : K + signN f neg = (U + 1) * 2 ^ fm f + signN f neg + q % 2 ^ fm f := by
    rw [hK, hm1, Nat.add_mul]; omega
   obtain ⟨s1, s2⟩ := sign_or f neg ((U + 1) * 2 ^ fm f) (by omega)
   have hq2 : q % 2 ^ fm f < 2 ^ fm f := Nat.mod_lt _ hp
   have e6 : Go.bits .or .u32 (((U + 1) * 2 ^ fm f + signN f neg : Nat) : Int) ((q % 2 ^ fm f : Nat) : Int) = (((U + 1) * 2 ^ fm f + signN f neg + q % 2 ^ fm f : Nat) : Int) := by
    rw [or_u32 _ _ s2 (by omega), or_add _ _ (fm f) ?_ hq2]
    unfold signN
    cases neg
    ·simp
    ·simp only [if_true]
     rw [Nat.pow_add, ← Nat.add_mul, Nat.mul_mod_left]
   rw [e4, s1, e5, e6, co]
   simp only [Bool.false_eq_true, if_false, hKe]
   exact ⟨trivial, trivial⟩
theorem step_ew (f : Int) : wrap64 ((fm f : Int) + 1) = ((fm f + 1 : Nat) : Int) := by
 obtain ⟨b1, b2, b3, b4, b5⟩ := fbounds f
 rw [w64_id] <;> omega
theorem step_es (f : Int) : shl .u64 1 ((fm f + 1 : Nat) : Int) = ((2 ^ (fm f + 1) : Nat) : Int) := by
 obtain ⟨b1, b2, b3, b4, b5⟩ := fbounds f
 have h31 := pow_le31 (show fm f + 1 ≤ 31 by omega)
 rw [show (1 : Int) = ((1 : Nat) : Int) from rfl, shl_u64, Nat.one_mul, Nat.mod_eq_of_lt (by omega)]
theorem step_e8 (f : Int) (U : Nat) (h : U ≤ 10200) : wrap64 (leastN f - (fm f : Int) + (U : Int) + 1) = leastN f - (fm f : Int) + ((U + 1 : Nat) : Int) := by
 obtain ⟨b1, b2, b3, b4, b5⟩ := fbounds f
 have hl := least_cases f
 rw [w64_id] <;> omega
theorem step_e9 (f : Int) : (((2 ^ (fm f + 1) : Nat) : Int)) / 2 = ((2 ^ fm f : Nat) : Int) := by
 have hsucc : 2 ^ (fm f + 1) = 2 * 2 ^ fm f := by rw [Nat.pow_succ, Nat.mul_comm]
 omega
theorem step_lt (f : Int) : 2 ^ fm f < 2 ^ (fm f + 1) := Nat.pow_lt_pow_right (by decide) (Nat.lt_succ_self _)
theorem step_key (U m q : Nat) (h : q = 2 * m) : (U + 1) * m + m = U * m + q := by rw [Nat.add_mul]; omega
theorem step_q {a b : Nat} (h : a ≤ b) (h' : ¬ a = b) : a < b := by omega
theorem step_i {a b : Nat} (h' : ¬ a = b) : ¬ ((a : Int) = (b : Int)) := by omega
theorem step_n {m : Nat} : (0 : Int) ≤ (m : Int) := by omega
theorem ref_pack_ev (f mode : Int) (neg : Bool) (x : Int) (s : Nat) (more : Bool) (hs : s < 18446744073709551616) :
  Ev (fun k => annealref1_Pack.f k f mode neg x (s : Int) more) ((packN f mode neg (clampE x) s more : Int), false, false, excN f mode neg (clampE x) s more) := by
 unfold annealref1_Pack.f
 have hc : mn (mx x (-10000)) 10000 = clampE x := rfl
 obtain ⟨h1, h2⟩ := clampE_bounds x
 rw [hc]
 generalize clampE x = x at *
 have hll := left_le s (unitN f x s - x) more
 by_cases z : s = 0 ∧ more = false
 ·obtain ⟨rfl, rfl⟩ := z
  simp only [if_pos (show ((0 : Nat) : Int) = 0 from rfl)]
  refine Ev.step (fun k => by rw [annealref1_Pack.j0]) ?_
  simp only [Bool.not_false, if_true, ref_zero_f, Option.bind_some]
  have h := pack_f 0 f mode neg x 0 false (by decide)
  rw [clampE_id x h1 h2] at h
  unfold round_Pack.f at h
  rw [if_pos (by rfl), show mn (mx x (-10000)) 10000 = x from clampE_id x h1 h2, round_Pack.j0] at h
  simp only [Bool.not_false, if_true, zero_f, Option.bind_some] at h
  rw [← Option.some.inj h]
  exact Ev.now _
 ·have hj : ∀ k, (if (s : Int) = 0 then annealref1_Pack.j0 k f mode neg x (s : Int) more (!more) else annealref1_Pack.j0 k f mode neg x (s : Int) more false) = annealref1_Pack.j0 k f mode neg x (s : Int) more false := by
   intro k
   by_cases c : (s : Int) = 0
   ·rw [if_pos c]
    cases more
    ·exact absurd ⟨by omega, rfl⟩ z
    ·rfl
   ·rw [if_neg c]
  refine Ev.congr hj ?_
  obtain ⟨u1, u2, u3⟩ := unit_bounds f x s hs h1 h2
  obtain ⟨q1, q2⟩ := quo_bounds f x s
  obtain ⟨b1, b2, b3, b4, b5⟩ := fbounds f
  have hl := least_cases f
  have hn := lenN_small s hs
  have h31 := pow_le31 (show fm f + 1 ≤ 31 by omega)
  have hp := Nat.two_pow_pos (fm f)
  have hsucc : 2 ^ (fm f + 1) = 2 * 2 ^ fm f := by rw [Nat.pow_succ, Nat.mul_comm]
  have hq64 : quoN s (unitN f x s - x) < 18446744073709551616 := by omega
  have hd : unitN f x s - x ≤ 0 → s * 2 ^ (-(unitN f x s - x)).toNat < 18446744073709551616 := by
   intro h; have := hq64; unfold quoN at this; rw [if_pos h] at this; exact this
  -- the exponent that the reference takes
  have hE : ∃ e : Int, (∀ k, (if (s : Int) = 0 then annealref1_Pack.j1 k f mode neg x (s : Int) more (fm f : Int) (leastN f) (-20000) else annealref1_Pack.j1 k f mode neg x (s : Int) more (fm f : Int) (leastN f) (wrap64 (wrap64 (x + (lenN s : Int)) - 1))) = annealref1_Pack.j1 k f mode neg x (s : Int) more (fm f : Int) (leastN f) e) ∧ wrap64 (mx e (leastN f) - (fm f : Int)) = unitN f x s ∧ (decide (e < leastN f) = (decide (s = 0) || decide (x + lenN s - 1 < leastN f))) := by
   by_cases c : s = 0
   ·subst c
    refine ⟨-20000, fun k => by rw [if_pos (show ((0 : Nat) : Int) = 0 from rfl)], ?_, ?_⟩
    ·have : riseN f x 0 = 0 := by unfold riseN; rw [if_pos rfl]
     have hm : mx (-20000) (leastN f) = leastN f := by unfold mx; split <;> omega
     rw [hm]
     unfold unitN; rw [this, w64_id _ (by omega) (by omega)]; omega
    ·rw [decide_eq_true (by omega)]; simp
   ·have e1 : wrap64 (wrap64 (x + (lenN s : Int)) - 1) = x + lenN s - 1 := by
     rw [w64_id (x + _) (by omega) (by omega), w64_id _ (by omega) (by omega)]
    refine ⟨x + lenN s - 1, fun k => by rw [if_neg (by omega), e1], ?_, ?_⟩
    ·have hr : riseN f x s = (x + lenN s - 1 - leastN f).toNat := by unfold riseN; rw [if_neg c]
     unfold unitN mx
     split
     ·rw [w64_id _ (by omega) (by omega)]; omega
     ·rw [w64_id _ (by omega) (by omega)]; omega
    ·rw [decide_eq_false c, Bool.false_or]
  obtain ⟨e, he1, he2, he3⟩ := hE
  refine Ev.step (fun k => by rw [annealref1_Pack.j0]) ?_
  simp only [Bool.false_eq_true, if_false, ref_widths_f, ref_bias_f, Option.bind_some]
  refine Ev.bind (ref_len_ev s hs) ?_
  rw [show (1 : Int) - (1 - leastN f) = leastN f by omega, w64_id (leastN f) (by omega) (by omega)]
  refine Ev.congr he1 ?_
  refine Ev.step (fun k => by rw [annealref1_Pack.j1]) ?_
  rw [he2, w64_id (unitN f x s - x) (by omega) (by omega)]
  refine Ev.bind (ref_divide_f s hs _ (by omega) (by omega) hd) ?_
  -- what is left, with the little more
  have hlm : leftN s (unitN f x s - x) false ≤ 3 := left_le s _ false
  have hcol : ∀ k (r : Option (Int × Bool × Bool × Bool × Bool × Bool)), annealref1_Pack.j2 k f mode neg (fm f : Int) (leastN f) e (unitN f x s) (quoN s (unitN f x s - x) : Int) (decide (2 ≤ leftN s (unitN f x s - x) more)) (decide (leftN s (unitN f x s - x) more = 1 ∨ leftN s (unitN f x s - x) more = 3)) = r →
    (if decide (leftN s (unitN f x s - x) false = 1 ∨ leftN s (unitN f x s - x) false = 3) = true then annealref1_Pack.j2 k f mode neg (fm f : Int) (leastN f) e (unitN f x s) (quoN s (unitN f x s - x) : Int) (decide (2 ≤ leftN s (unitN f x s - x) false)) true else annealref1_Pack.j2 k f mode neg (fm f : Int) (leastN f) e (unitN f x s) (quoN s (unitN f x s - x) : Int) (decide (2 ≤ leftN s (unitN f x s - x) false)) more) = r := by
   intro k r h
   cases more
   ·by_cases c : leftN s (unitN f x s - x) false = 1 ∨ leftN s (unitN f x s - x) false = 3
    ·rw [decide_eq_true c] at h ⊢; rw [if_pos rfl]; exact h
    ·rw [decide_eq_false c] at h ⊢; rw [if_neg (by decide)]; exact h
   ·obtain ⟨m1, m2⟩ := left_more s (unitN f x s - x)
    rw [decide_eq_true m2, m1] at h
    split <;> exact h
  refine Ev.congr (fun k => hcol k _ rfl) ?_
  generalize hL : leftN s (unitN f x s - x) more = L at *
  refine Ev.step (fun k => by rw [annealref1_Pack.j2]) ?_
  have hinx : decide (L ≠ 0) = inexN f x s more := by unfold inexN; rw [hL]
  have h2 : ∀ k, (if decide (2 ≤ L) = true then annealref1_Pack.j3 k f mode neg (fm f : Int) (leastN f) e (unitN f x s) (quoN s (unitN f x s - x) : Int) (decide (2 ≤ L)) (decide (L = 1 ∨ L = 3)) true else annealref1_Pack.j3 k f mode neg (fm f : Int) (leastN f) e (unitN f x s) (quoN s (unitN f x s - x) : Int) (decide (2 ≤ L)) (decide (L = 1 ∨ L = 3)) (decide (L = 1 ∨ L = 3))) = annealref1_Pack.j3 k f mode neg (fm f : Int) (leastN f) e (unitN f x s) (quoN s (unitN f x s - x) : Int) (decide (2 ≤ L)) (decide (L = 1 ∨ L = 3)) (inexN f x s more) := by
   intro k
   rw [← hinx]
   have : L = 0 ∨ L = 1 ∨ L = 2 ∨ L = 3 := by omega
   rcases this with h | h | h | h <;> subst h <;> rfl
  refine Ev.congr h2 ?_
  refine Ev.step (fun k => by rw [annealref1_Pack.j3]) ?_
  have hodd : ((Go.bits .and .u64 (quoN s (unitN f x s - x) : Int) 1 == 1) : Bool) = decide (quoN s (unitN f x s - x) % 2 = 1) := by
   rw [and1_u64 _ hq64, show (1 : Int) = ((1 : Nat) : Int) from rfl, beq_nn]
  simp only [hodd, ref_up_f mode neg _ L hll, Option.bind_some]
  -- the unit above
  have hK : keyN f mode neg x s more = riseN f x s * 2 ^ fm f + (quoN s (unitN f x s - x) + (if upN mode neg (quoN s (unitN f x s - x)) L then 1 else 0)) := by
   unfold keyN; rw [hL, Nat.add_assoc]
  have h3 : ∀ k, (if upN mode neg (quoN s (unitN f x s - x)) L = true then annealref1_Pack.j4 k f mode neg (fm f : Int) (leastN f) e (unitN f x s) (IntKind.u64.wrap ((quoN s (unitN f x s - x) : Int) + 1)) (inexN f x s more) else annealref1_Pack.j4 k f mode neg (fm f : Int) (leastN f) e (unitN f x s) (quoN s (unitN f x s - x) : Int) (inexN f x s more)) = annealref1_Pack.j4 k f mode neg (fm f : Int) (leastN f) e (unitN f x s) ((quoN s (unitN f x s - x) + (if upN mode neg (quoN s (unitN f x s - x)) L then 1 else 0) : Nat) : Int) (inexN f x s more) := by
   intro k
   by_cases c : upN mode neg (quoN s (unitN f x s - x)) L = true
   ·rw [if_pos c, if_pos c, show (quoN s (unitN f x s - x) : Int) + 1 = ((quoN s (unitN f x s - x) + 1 : Nat) : Int) by omega, u64_id _ (by omega)]
   ·rw [if_neg c, if_neg c, Nat.add_zero]
  refine Ev.congr h3 ?_
  have hqn : quoN s (unitN f x s - x) + (if upN mode neg (quoN s (unitN f x s - x)) L then 1 else 0) ≤ 2 ^ (fm f + 1) := by split <;> omega
  have hqm : riseN f x s ≠ 0 → 2 ^ fm f ≤ quoN s (unitN f x s - x) + (if upN mode neg (quoN s (unitN f x s - x)) L then 1 else 0) := fun h => Nat.le_trans (q2 h) (Nat.le_add_right _ _)
  generalize quoN s (unitN f x s - x) + (if upN mode neg (quoN s (unitN f x s - x)) L then 1 else 0) = Q at *
  have hun : unitN f x s = leastN f - fm f + (riseN f x s : Nat) := rfl
  rw [hun]
  have ew := step_ew f
  have es := step_es f
  have e8 := step_e8 f _ u3
  have e9 := step_e9 f
  have fin : ∀ r : Int × Bool × Bool × Bool × Bool × Bool, r = ((((if overN f (keyN f mode neg x s more) then (if endless mode neg then topN f * 2 ^ fm f else topN f * 2 ^ fm f - 1) else keyN f mode neg x s more) + signN f neg : Nat) : Int), if overN f (keyN f mode neg x s more) then (false, false, true, false, true) else (false, false, false, underN f x s more, inexN f x s more)) → r = ((packN f mode neg x s more : Int), false, false, excN f mode neg x s more) := by
   intro r hr
   rw [hr]
   unfold packN excN
   split <;> rfl
  have hund : underN f x s more = (inexN f x s more && decide (e < leastN f)) := by unfold underN; rw [he3]
  refine Ev.step (fun k => by rw [annealref1_Pack.j4]) ?_
  simp only [ew, es, e8, if_pos (step_n (m := fm f + 1))]
  by_cases cQ : Q = 2 ^ (fm f + 1)
  ·have g := fun k c3 => ref_pack_j5 k f mode neg (2 ^ fm f) (riseN f x s + 1) (Nat.le_trans (Nat.succ_le_succ u3) (by decide)) (step_lt f) (fun _ => Nat.le_refl _) (keyN f mode neg x s more) (by rw [hK]; exact (step_key _ _ _ (cQ.trans hsucc)).symm) false false false c3 (inexN f x s more)
   simp only [cQ, if_true, e9]
   by_cases ci : inexN f x s more = true
   ·simp only [ci, if_true] at g ⊢
    rw [ci, Bool.true_and] at hund
    rw [← fin _ rfl, hund, ci]
    exact ⟨2, fun n hn => by obtain ⟨m, rfl⟩ : ∃ m, n = m + 2 := ⟨n - 2, by omega⟩; exact (g m _).1⟩
   ·rw [Bool.not_eq_true] at ci
    simp only [ci, Bool.false_eq_true, if_false] at g ⊢
    rw [ci, Bool.false_and] at hund
    rw [← fin _ rfl, hund, ci]
    exact ⟨2, fun n hn => by obtain ⟨m, rfl⟩ : ∃ m, n = m + 2 := ⟨n - 2, by omega⟩; exact (g m _).2⟩
  ·have g := fun k c3 => ref_pack_j5 k f mode neg Q (riseN f x s) (Nat.le_trans u3 (by decide)) (step_q hqn cQ) hqm (keyN f mode neg x s more) hK false false false c3 (inexN f x s more)
   have cQ' : ¬ ((Q : Int) = ((2 ^ (fm f + 1) : Nat) : Int)) := step_i cQ
   simp only [cQ', if_false]
   by_cases ci : inexN f x s more = true
   ·simp only [ci, if_true] at g ⊢
    rw [ci, Bool.true_and] at hund
    rw [← fin _ rfl, hund, ci]
    exact ⟨2, fun n hn => by obtain ⟨m, rfl⟩ : ∃ m, n = m + 2 := ⟨n - 2, by omega⟩; exact (g m _).1⟩
   ·rw [Bool.not_eq_true] at ci
    simp only [ci, Bool.false_eq_true, if_false] at g ⊢
    rw [ci, Bool.false_and] at hund
    rw [← fin _ rfl, hund, ci]
    exact ⟨2, fun n hn => by obtain ⟨m, rfl⟩ : ∃ m, n = m + 2 := ⟨n - 2, by omega⟩; exact (g m _).2⟩
/- Numbers times powers of two: the reference's, as the program's plain numbers. -/

theorem ref_scale_ev (f mode : Int) (v : Nat) (n : Int) (hv : v < 4294967296) : Ev (fun k => annealref1_Scale.f k f mode (v : Int) n) ((scaleN f mode v n : Int), scaleX f mode v n) := by
 refine Ev.congr (fun k => by unfold annealref1_Scale.f; rfl) (Ev.bind (nans1_ev f v hv) ?_)
 unfold scaleN scaleX
 have hc := cls_le f v
 by_cases c4 : 4 ≤ clsN f v
 ·rw [if_pos c4, if_pos c4]
  exact Ev.congr (fun k => by rw [if_pos (show isNan f v = true from decide_eq_true c4), ref_nan_f]; rfl) (Ev.now _)
 ·rw [if_neg c4, if_neg c4]
  have n4 : ¬ isNan f v = true := by unfold isNan; simp; omega
  refine Ev.congr (fun k => by rw [if_neg n4]) (Ev.bind (rfinite_ev f v hv) ?_)
  by_cases c3 : clsN f v = 3
  ·have hx : ¬ expN f v < topN f := fun h => by have := (cls_finite f v).mpr h; omega
   rw [if_pos c3, if_pos c3, decide_eq_false hx]
   exact Ev.congr (fun k => by rw [if_neg (by decide), ref_mask_f, Option.bind_some, and_mask f v hv]) (Ev.now _)
  ·have hx := cls_exp f v (by omega)
   obtain ⟨e1, e2, e3⟩ := scale_e f v n
   have hp := ref_pack_ev f mode (negN f v) (lowestN f v + clampS n) (wholeN f v) false (whole_64 f v)
   rw [clampE_id _ e2 e3] at hp
   rw [if_neg c3, if_neg c3, decide_eq_true hx]
   exact Ev.congr (fun k => by rw [if_pos rfl]) (Ev.bind (runpack_ev f v hv hx) (Ev.congr (fun k => by rw [e1]) (Ev.bind hp (Ev.now _))))
/- Numbers made whole: the reference's, as the program's plain numbers. -/

def unitsR (f mode : Int) (v : Nat) : Nat :=
 if 0 ≤ lowestN f v then (if 39 < lowestN f v ∧ 0 < wholeN f v then 4611686018427387904 else wholeN f v * 2 ^ (mn (lowestN f v) 39).toNat)
 else quoN (wholeN f v) (-lowestN f v) + if upN mode (negN f v) (quoN (wholeN f v) (-lowestN f v)) (leftN (wholeN f v) (-lowestN f v) false) then 1 else 0
def unitsS (f : Int) (v : Nat) : Bool := if 0 ≤ lowestN f v then false else decide (leftN (wholeN f v) (-lowestN f v) false ≠ 0)
theorem whole_small (f : Int) (v : Nat) : wholeN f v < 16777216 := Nat.lt_of_lt_of_le (lenN_lt _) (Nat.pow_le_pow_right (by decide) (whole_len f v))
theorem quo_small (f : Int) (v : Nat) (h : lowestN f v < 0) : quoN (wholeN f v) (-lowestN f v) < 16777216 := by
 unfold quoN; rw [if_neg (by omega)]
 exact Nat.lt_of_le_of_lt (Nat.div_le_self _ _) (whole_small f v)
theorem left_three (s : Nat) (d : Int) : leftN s d false ≤ 3 := by
 unfold leftN
 split
 ·decide
 ·split
  ·decide
  ·split <;> decide
theorem ref_units_ev (f mode : Int) (v : Nat) (hv : v < 4294967296) (hx : expN f v < topN f) : Ev (fun k => annealref1_units.f k f mode (v : Int)) (negN f v, (unitsR f mode v : Int), unitsS f v) := by
 refine Ev.congr (fun k => by unfold annealref1_units.f; rfl) (Ev.bind (runpack_ev f v hv hx) ?_)
 dsimp only
 obtain ⟨l1, l2⟩ := lowest_near f v
 have hw := whole_small f v
 unfold unitsR unitsS
 by_cases c : 0 ≤ lowestN f v
 ·rw [if_pos c, if_pos c]
  have hm : 0 ≤ mn (lowestN f v) 39 ∧ mn (lowestN f v) 39 ≤ 39 := by unfold mn; split <;> omega
  have hp : 2 ^ (mn (lowestN f v) 39).toNat ≤ 2 ^ 39 := Nat.pow_le_pow_right (by decide) (by omega)
  have hlt : wholeN f v * 2 ^ (mn (lowestN f v) 39).toNat < 18446744073709551616 :=
   Nat.lt_of_le_of_lt (Nat.mul_le_mul (show wholeN f v ≤ 16777216 by omega) hp) (by decide)
  have hcast : IntKind.u64.wrap ((wholeN f v : Int) * 2 ^ (mn (lowestN f v) 39).toNat) = ((wholeN f v * 2 ^ (mn (lowestN f v) 39).toNat : Nat) : Int) := by
   rw [show (wholeN f v : Int) * 2 ^ (mn (lowestN f v) 39).toNat = ((wholeN f v * 2 ^ (mn (lowestN f v) 39).toNat : Nat) : Int) by simp, u64_id _ hlt]
  by_cases c2 : 39 < lowestN f v
  ·by_cases c3 : 0 < wholeN f v
   ·rw [if_pos (show 39 < lowestN f v ∧ 0 < wholeN f v from ⟨c2, c3⟩)]
    exact Ev.congr (fun k => by rw [if_pos (show lowestN f v ≥ 0 from c), if_pos (show lowestN f v > 39 from c2), if_pos (show (wholeN f v : Int) > 0 by omega)]; rfl) (Ev.now _)
   ·rw [if_neg (show ¬ (39 < lowestN f v ∧ 0 < wholeN f v) from fun h => c3 h.2)]
    exact Ev.congr (fun k => by rw [if_pos (show lowestN f v ≥ 0 from c), if_pos (show lowestN f v > 39 from c2), if_neg (show ¬ (wholeN f v : Int) > 0 by omega), if_pos hm.1, hcast]) (Ev.now _)
  ·rw [if_neg (show ¬ (39 < lowestN f v ∧ 0 < wholeN f v) from fun h => c2 h.1)]
   exact Ev.congr (fun k => by rw [if_pos (show lowestN f v ≥ 0 from c), if_neg (show ¬ lowestN f v > 39 from c2), if_pos hm.1, hcast]) (Ev.now _)
 ·rw [if_neg c, if_neg c]
  have hq := quo_small f v (by omega)
  have hd := ref_divide_f (wholeN f v) (by omega) (-lowestN f v) (by omega) (by omega) (fun h => by omega)
  have hu := ref_up_f mode (negN f v) (quoN (wholeN f v) (-lowestN f v)) (leftN (wholeN f v) (-lowestN f v) false) (left_three _ _)
  refine Ev.congr (fun k => by rw [if_neg (show ¬ lowestN f v ≥ 0 from c), w64_id (-lowestN f v) (by omega) (by omega)]) (Ev.bind hd ?_)
  dsimp only
  have h3 := left_three (wholeN f v) (-lowestN f v)
  generalize leftN (wholeN f v) (-lowestN f v) false = l at *
  generalize quoN (wholeN f v) (-lowestN f v) = q at *
  have hb : ((Go.bits .and .u64 (q : Int) 1) == 1) = decide (q % 2 = 1) := by
   rw [and1_u64 q (by omega), show (1 : Int) = ((1 : Nat) : Int) from rfl, beq_nn]
  refine Ev.congr (fun k => by rw [hb, hu, Option.bind_some]) ?_
  have hi : IntKind.u64.wrap ((q : Int) + 1) = ((q + 1 : Nat) : Int) := by rw [show (q : Int) + 1 = ((q + 1 : Nat) : Int) by omega, u64_id _ (by omega)]
  have hl : (2 ≤ l ∧ l ≠ 0) ∨ (¬ 2 ≤ l ∧ decide (l = 1 ∨ l = 3) = decide (l ≠ 0)) := by
   by_cases d : 2 ≤ l
   ·exact .inl ⟨d, by omega⟩
   ·exact .inr ⟨d, decide_eq_decide.mpr (by omega)⟩
  cases upN mode (negN f v) q l <;> rcases hl with ⟨d1, d2⟩ | ⟨d1, d2⟩
  ·exact Ev.congr (fun k => by rw [if_neg (show ¬ false = true by decide), if_pos (decide_eq_true d1), if_neg (show ¬ false = true by decide), decide_eq_true d2, Nat.add_zero]) (Ev.now _)
  ·exact Ev.congr (fun k => by rw [if_neg (show ¬ false = true by decide), if_neg (show ¬ decide (2 ≤ l) = true by rw [decide_eq_false d1]; decide), if_neg (show ¬ false = true by decide), d2, Nat.add_zero]) (Ev.now _)
  ·exact Ev.congr (fun k => by rw [if_pos (show true = true from rfl), if_pos (decide_eq_true d1), if_pos (show true = true from rfl), decide_eq_true d2, hi]) (Ev.now _)
  ·exact Ev.congr (fun k => by rw [if_pos (show true = true from rfl), if_neg (show ¬ decide (2 ≤ l) = true by rw [decide_eq_false d1]; decide), if_pos (show true = true from rfl), d2, hi]) (Ev.now _)

theorem units_same (f mode : Int) (v : Nat) (h : lowestN f v < 0) : unitsR f mode v = unitsN f mode v ∧ unitsS f v = unitsX f v := by
 have hw := whole_len f v
 unfold unitsR unitsS unitsN unitsX
 rw [if_neg (show ¬ 0 ≤ lowestN f v by omega), if_neg (show ¬ 0 ≤ lowestN f v by omega), if_neg (show ¬ 40 < lowestN f v + lenN (wholeN f v) by omega), if_neg (show ¬ 40 < lowestN f v + lenN (wholeN f v) by omega)]
 exact ⟨rfl, rfl⟩
theorem whole_none (f : Int) (v : Nat) (h : wholeN f v = 0) : lowestN f v < 0 := by
 have hp := Nat.two_pow_pos (fm f)
 have he : expN f v = 0 := by
  unfold wholeN at h
  by_cases c : expN f v = 0
  ·exact c
  ·rw [if_neg c] at h; omega
 unfold lowestN
 rw [he]
 unfold leastN
 rcases fcases f with ⟨h1, h2⟩ | ⟨h1, h2⟩ | ⟨h1, h2⟩ <;> rw [h1, h2] <;> decide
theorem units_big (f mode : Int) (v : Nat) (h : 0 ≤ lowestN f v) : unitsS f v = false ∧ unitsX f v = false ∧ unitsR f mode v < 9223372036854775808 ∧ (unitsR f mode v = unitsN f mode v ∨ 1099511627776 ≤ unitsR f mode v ∧ unitsN f mode v = 1099511627776) := by
 obtain ⟨l1, l2⟩ := lowest_near f v
 have hw := whole_small f v
 have hl : leftN (wholeN f v) (-lowestN f v) false = 0 := by rw [left_none false (.inl (by omega))]; rfl
 have hm : 0 ≤ mn (lowestN f v) 39 ∧ mn (lowestN f v) 39 ≤ 39 := by unfold mn; split <;> omega
 have hp : 2 ^ (mn (lowestN f v) 39).toNat ≤ 2 ^ 39 := Nat.pow_le_pow_right (by decide) (by omega)
 unfold unitsS unitsX unitsR unitsN
 rw [if_pos h, if_pos h, hl, up_none, if_neg (show ¬ false = true by decide), Nat.add_zero]
 refine ⟨rfl, by split <;> rfl, ?_, ?_⟩
 ·split
  ·decide
  ·exact Nat.lt_of_le_of_lt (Nat.mul_le_mul (show wholeN f v ≤ 16777215 by omega) hp) (by decide)
 ·by_cases c : 39 < lowestN f v ∧ 0 < wholeN f v
  ·rw [if_pos c, if_pos (show 40 < lowestN f v + lenN (wholeN f v) by have := lenN_pos (wholeN f v) (by omega); omega)]
   exact .inr ⟨by decide, rfl⟩
  ·rw [if_neg c]
   by_cases c2 : 40 < lowestN f v + lenN (wholeN f v)
   ·rw [if_pos c2]
    have h0 : wholeN f v ≠ 0 := fun h' => by have := whole_none f v h'; omega
    have hmn : mn (lowestN f v) 39 = lowestN f v := by unfold mn; split <;> omega
    rw [hmn]
    have h1 := Nat.mul_le_mul_right (2 ^ (lowestN f v).toNat) (lenN_le (wholeN f v) h0)
    rw [← Nat.pow_add] at h1
    exact .inr ⟨Nat.le_trans (show 1099511627776 ≤ 2 ^ 40 by decide) (Nat.le_trans (Nat.pow_le_pow_right (by decide) (by omega)) h1), rfl⟩
   ·rw [if_neg c2]
    left
    by_cases h0 : wholeN f v = 0
    ·rw [h0]; unfold quoN; split <;> simp
    ·have hmn : mn (lowestN f v) 39 = lowestN f v := by unfold mn; split <;> omega
     unfold quoN
     rw [if_pos (by omega), hmn, show -(-lowestN f v) = lowestN f v by omega]

theorem ref_fromint_ev (f mode v : Int) (h1 : -9223372036854775808 ≤ v) (h2 : v ≤ 9223372036854775807) :
  Ev (fun k => annealref1_FromInt.f k f mode v) ((packN f mode (decide (v < 0)) 0 v.natAbs false : Int), false, false, excN f mode (decide (v < 0)) 0 v.natAbs false) := by
 have hp := ref_pack_ev f mode (decide (v < 0)) 0 v.natAbs false (by omega)
 rw [clampE_id _ (by decide) (by decide)] at hp
 by_cases c : v < 0
 ·rw [decide_eq_true c] at hp ⊢
  refine Ev.congr (fun k => by unfold annealref1_FromInt.f; rw [if_pos c, show IntKind.u64.wrap (-(IntKind.u64.wrap v)) = (v.natAbs : Int) by rw [u64_wrap, u64_wrap]; omega]) (Ev.bind hp (Ev.now _))
 ·rw [decide_eq_false c] at hp ⊢
  refine Ev.congr (fun k => by unfold annealref1_FromInt.f; rw [if_neg c, show IntKind.u64.wrap v = (v.natAbs : Int) by rw [u64_wrap]; omega]) (Ev.bind hp (Ev.now _))

theorem toint_value (f mode : Int) (v : Nat) (hx : expN f v < topN f) : toIntN f mode v =
  if 2147483648 < unitsR f mode v ∨ unitsR f mode v = 2147483648 ∧ negN f v = false then (-2147483648, true, false, false, false, false)
  else ((if negN f v then -(unitsR f mode v : Int) else (unitsR f mode v : Int)), false, false, false, false, unitsS f v) := by
 have hs : unitsS f v = unitsX f v := by
  by_cases c : 0 ≤ lowestN f v
  ·obtain ⟨b1, b2, _⟩ := units_big f mode v c
   rw [b1, b2]
  ·exact (units_same f mode v (by omega)).2
 have hr : unitsR f mode v = unitsN f mode v ∨ 1099511627776 ≤ unitsR f mode v ∧ unitsN f mode v = 1099511627776 := by
  by_cases c : 0 ≤ lowestN f v
  ·exact (units_big f mode v c).2.2.2
  ·exact .inl (units_same f mode v (by omega)).1
 unfold toIntN intN
 rw [hs]
 generalize unitsR f mode v = R at *
 generalize unitsN f mode v = q at *
 cases negN f v
 ·rw [if_neg (show ¬ false = true by decide), if_neg (show ¬ false = true by decide)]
  by_cases c : 2147483648 < R ∨ R = 2147483648 ∧ false = false
  ·rw [if_pos c, if_neg (show ¬ (expN f v < topN f ∧ -2147483648 ≤ (q : Int) ∧ (q : Int) ≤ 2147483647) by omega)]
  ·have hb : ¬ (2147483648 ≤ R) := fun h => c (by rcases Nat.lt_or_eq_of_le h with h | h; exact .inl h; exact .inr ⟨h.symm, rfl⟩)
   rw [if_neg c, if_pos (show expN f v < topN f ∧ -2147483648 ≤ (q : Int) ∧ (q : Int) ≤ 2147483647 by omega), show q = R by omega]
 ·rw [if_pos (show true = true from rfl), if_pos (show true = true from rfl)]
  by_cases c : 2147483648 < R ∨ R = 2147483648 ∧ true = false
  ·have hb : 2147483648 < R := by rcases c with c | c; exact c; exact absurd c.2 (by decide)
   rw [if_pos c, if_neg (show ¬ (expN f v < topN f ∧ -2147483648 ≤ -(q : Int) ∧ -(q : Int) ≤ 2147483647) by omega)]
  ·have hb : ¬ 2147483648 < R := fun h => c (.inl h)
   rw [if_neg c, if_pos (show expN f v < topN f ∧ -2147483648 ≤ -(q : Int) ∧ -(q : Int) ≤ 2147483647 by omega), show q = R by omega]

theorem unitsR_lt (f mode : Int) (v : Nat) : unitsR f mode v < 9223372036854775808 := by
 by_cases c : 0 ≤ lowestN f v
 ·exact (units_big f mode v c).2.2.1
 ·have := quo_small f v (by omega)
  unfold unitsR; rw [if_neg c]; split <;> omega

theorem ref_toint_ev (f mode : Int) (v : Nat) (hv : v < 4294967296) : Ev (fun k => annealref1_ToInt.f k f mode (v : Int)) (toIntN f mode v) := by
 refine Ev.congr (fun k => by unfold annealref1_ToInt.f; rfl) (Ev.bind (rfinite_ev f v hv) ?_)
 by_cases hx : expN f v < topN f
 ·rw [toint_value f mode v hx]
  have hlt := unitsR_lt f mode v
  refine Ev.congr (fun k => by rw [if_pos (decide_eq_true hx)]) (Ev.bind (ref_units_ev f mode v hv hx) ?_)
  dsimp only
  generalize unitsR f mode v = R at *
  generalize unitsS f v = x at *
  by_cases c1 : 2147483648 < R
  ·rw [if_pos (show 2147483648 < R ∨ R = 2147483648 ∧ negN f v = false from .inl c1)]
   exact Ev.congr (fun k => by rw [if_pos (show (R : Int) > 2147483648 by omega)]) (Ev.step (fun k => by rw [annealref1_ToInt.j0, if_pos rfl]) (Ev.now _))
  ·by_cases c2 : R = 2147483648
   ·cases hn : negN f v
    ·rw [if_pos (show 2147483648 < R ∨ R = 2147483648 ∧ false = false from .inr ⟨c2, rfl⟩)]
     exact Ev.congr (fun k => by rw [if_neg (show ¬ (R : Int) > 2147483648 by omega), if_pos (show (R : Int) = 2147483648 by omega)]) (Ev.step (fun k => by rw [annealref1_ToInt.j0, if_pos (by rfl)]) (Ev.now _))
    ·rw [if_neg (show ¬ (2147483648 < R ∨ R = 2147483648 ∧ true = false) by intro h; rcases h with h | h; exact c1 h; exact absurd h.2 (by decide))]
     exact Ev.congr (fun k => by rw [if_neg (show ¬ (R : Int) > 2147483648 by omega), if_pos (show (R : Int) = 2147483648 by omega)]) (Ev.step (fun k => by
      rw [annealref1_ToInt.j0, if_neg (by decide), if_pos rfl, if_pos rfl, w64_id (R : Int) (by omega) (by omega), w64_id (-(R : Int)) (by omega) (by omega), w32_id _ (by omega) (by omega)]) (Ev.now _))
   ·rw [if_neg (show ¬ (2147483648 < R ∨ R = 2147483648 ∧ negN f v = false) by omega)]
    refine Ev.congr (fun k => by rw [if_neg (show ¬ (R : Int) > 2147483648 by omega), if_neg (show ¬ (R : Int) = 2147483648 by omega)]) (Ev.step (fun k => ?_) (Ev.now _))
    rw [annealref1_ToInt.j0, if_neg (by decide), w64_id (R : Int) (by omega) (by omega), w64_id (-(R : Int)) (by omega) (by omega)]
    cases negN f v
    ·rw [if_neg (by decide), if_neg (by decide), w32_id _ (by omega) (by omega)]
    ·rw [if_pos rfl, if_pos rfl, w32_id _ (by omega) (by omega)]
 ·have e : toIntN f mode v = (-2147483648, true, false, false, false, false) := by unfold toIntN; rw [if_neg (fun h => hx h.1)]
  rw [e]
  exact Ev.congr (fun k => by rw [if_neg (by rw [decide_eq_false hx]; decide)]) (Ev.now _)
/- Numbers made whole that stay numbers: the reference's, as the program's plain numbers. -/

theorem unpack_inf (f : Int) (v : Nat) (hv : v < 4294967296) (h : clsN f v = 3) : Ev (fun k => annealref1_Unpack.f k f (v : Int)) (negN f (lowN f v), 0, 0) := by
 refine Ev.congr (fun k => by unfold annealref1_Unpack.f; rw [ref_widths_f, Option.bind_some, ref_parts_f f v hv, Option.bind_some]) (Ev.bind (rclass_ev f v hv) ?_)
 dsimp only
 rw [h]
 exact Ev.congr (fun k => by rw [if_neg (by decide), if_neg (by decide), if_neg (by decide)]) (Ev.now _)

theorem units_none (f mode : Int) (v : Nat) (h : clsN f v = 0) (h' : lowestN f v < 0) : unitsR f mode v = 0 ∧ unitsS f v = false := by
 have hw := (none_low f v h).2
 have hl : leftN 0 (-lowestN f v) false = 0 := by rw [left_none false (.inr (by simp))]; rfl
 have hq : quoN 0 (-lowestN f v) = 0 := by unfold quoN; split <;> simp
 unfold unitsR unitsS
 rw [hw, if_neg (show ¬ 0 ≤ lowestN f v by omega), if_neg (show ¬ 0 ≤ lowestN f v by omega), hl, hq, up_none]
 exact ⟨rfl, rfl⟩

theorem ref_round_ev (f mode : Int) (v : Nat) (hv : v < 4294967296) : Ev (fun k => annealref1_Round.f k f mode (v : Int)) ((roundN f mode v : Int), (roundX f v).1, false, false, false, (roundX f v).2) := by
 refine Ev.congr (fun k => by unfold annealref1_Round.f; rfl) (Ev.bind (nans1_ev f v hv) ?_)
 unfold roundN roundX
 have hc := cls_le f v
 by_cases c4 : 4 ≤ clsN f v
 ·rw [if_pos c4, if_pos c4]
  exact Ev.congr (fun k => by rw [if_pos (show isNan f v = true from decide_eq_true c4), ref_nan_f]; rfl) (Ev.now _)
 ·rw [if_neg c4, if_neg c4]
  have n4 : ¬ isNan f v = true := by unfold isNan; simp; omega
  refine Ev.congr (fun k => by rw [if_neg n4]) ?_
  have last : Ev (fun k => annealref1_Round.j0 k f mode (v : Int) true) ((lowN f v : Int), false, false, false, false, false) :=
   Ev.step (fun k => by rw [annealref1_Round.j0, if_pos rfl, ref_mask_f, Option.bind_some, and_mask f v hv]) (Ev.now _)
  by_cases c3 : clsN f v = 3
  ·have hx : ¬ expN f v < topN f := fun h => by have := (cls_finite f v).mpr h; omega
   rw [if_pos (show clsN f v = 3 ∨ clsN f v = 0 ∨ 0 ≤ lowestN f v by omega), if_pos (show clsN f v = 3 ∨ clsN f v = 0 ∨ 0 ≤ lowestN f v by omega)]
   exact Ev.bind (unpack_inf f v hv c3) (Ev.bind (rfinite_ev f v hv) (Ev.congr (fun k => by rw [if_neg (by rw [decide_eq_false hx]; decide)]) last))
  ·have hx := cls_exp f v (by omega)
   refine Ev.bind (runpack_ev f v hv hx) (Ev.bind (rfinite_ev f v hv) (Ev.congr (fun k => by rw [if_pos (decide_eq_true hx)]) ?_))
   dsimp only
   by_cases c0 : 0 ≤ lowestN f v
   ·rw [if_pos (show clsN f v = 3 ∨ clsN f v = 0 ∨ 0 ≤ lowestN f v by omega), if_pos (show clsN f v = 3 ∨ clsN f v = 0 ∨ 0 ≤ lowestN f v by omega)]
    exact Ev.congr (fun k => by rw [show decide (lowestN f v ≥ 0) = true from decide_eq_true c0]) last
   ·have hlt := unitsR_lt f mode v
    have hu := ref_units_ev f mode v hv hx
    have hp := ref_pack_ev f mode (negN f v) 0 (unitsR f mode v) false (by omega)
    rw [clampE_id _ (by decide) (by decide)] at hp
    have go : Ev (fun k => annealref1_Round.j0 k f mode (v : Int) (decide (lowestN f v ≥ 0))) ((packN f mode (negN f v) 0 (unitsR f mode v) false : Int), false, false, false, false, unitsS f v) := by
     refine Ev.step (fun k => by rw [annealref1_Round.j0, if_neg (by rw [decide_eq_false (show ¬ lowestN f v ≥ 0 from c0)]; decide)]) (Ev.bind hu ?_)
     dsimp only
     exact Ev.bind hp (Ev.now _)
    by_cases z : clsN f v = 0
    ·rw [if_pos (show clsN f v = 3 ∨ clsN f v = 0 ∨ 0 ≤ lowestN f v by omega), if_pos (show clsN f v = 3 ∨ clsN f v = 0 ∨ 0 ≤ lowestN f v by omega)]
     obtain ⟨u1, u2⟩ := units_none f mode v z (by omega)
     rw [u1, u2, (pack_none f mode (negN f v) 0).1] at go
     rw [(none_low f v z).1]
     exact go
    ·rw [if_neg (show ¬ (clsN f v = 3 ∨ clsN f v = 0 ∨ 0 ≤ lowestN f v) by omega), if_neg (show ¬ (clsN f v = 3 ∨ clsN f v = 0 ∨ 0 ≤ lowestN f v) by omega)]
     obtain ⟨s1, s2⟩ := units_same f mode v (by omega)
     rw [s1, s2] at go
     exact go
/- Numbers drawn, of any format (printed with a join): plain numbers. -/

theorem kin (n : Int) : ∃ m : Nat, IntKind.u32.wrap n = (m : Int) ∧ m < 4294967296 := by
 rw [u32_wrap]
 exact ⟨(n % 4294967296).toNat, by omega, by omega⟩
theorem kbits (op : BinOp) (a b : Int) (h : op = .and ∨ op = .or) : ∃ m : Nat, Go.bits op .u32 a b = (m : Int) ∧ m < 4294967296 := by
 rcases h with rfl | rfl
 ·exact kin _
 ·exact kin _
theorem num_k (f : Int) (a : Nat) : ∃ x : Nat, x < 4294967296 ∧ Ev (fun k => annealseat_Num.f k f (a : Int)) (x : Int) := by
 have e := Int.tmod_eq_emod_of_nonneg (b := 15) (Int.natCast_nonneg a)
 have hp : 0 ≤ Int.tmod (a : Int) 15 ∧ Int.tmod (a : Int) 15 < 15 := by rw [e]; omega
 have key : ∃ y : Int, ∀ k, annealseat_Num.f k f (a : Int) = if (a : Int) / 2147483648 = 1 then (some (signN f true : Int)).bind (fun t => annealseat_Num.j0 k (Go.bits .or .u32 (Go.bits .and .u32 y (maskN f : Int)) t)) else annealseat_Num.j0 k (Go.bits .and .u32 y (maskN f : Int)) := by
  rcases fcases f with ⟨h1, h2⟩ | ⟨h1, h2⟩ | ⟨h1, h2⟩
  ·constructor; intro k
   unfold annealseat_Num.f
   rw [ref_widths_f, Option.bind_some]
   dsimp only
   rw [h1, h2, if_pos (by decide), if_pos (by decide), if_neg (by decide), if_pos (show (0 : Int) ≤ wrap64 (((10 : Nat) : Int) - 1) by unfold wrap64; omega), if_neg (by decide), Option.bind_some, if_pos hp.1, if_pos (by exact hp.2), ref_mask_f, Option.bind_some, ref_zero_f]
  ·constructor; intro k
   unfold annealseat_Num.f
   rw [ref_widths_f, Option.bind_some]
   dsimp only
   rw [h1, h2, if_pos (by decide), if_pos (by decide), if_neg (by decide), if_pos (show (0 : Int) ≤ wrap64 (((7 : Nat) : Int) - 1) by unfold wrap64; omega), if_neg (by decide), Option.bind_some, if_pos hp.1, if_pos (by exact hp.2), ref_mask_f, Option.bind_some, ref_zero_f]
  ·constructor; intro k
   unfold annealseat_Num.f
   rw [ref_widths_f, Option.bind_some]
   dsimp only
   rw [h1, h2, if_pos (by decide), if_pos (by decide), if_neg (by decide), if_pos (show (0 : Int) ≤ wrap64 (((23 : Nat) : Int) - 1) by unfold wrap64; omega), if_neg (by decide), Option.bind_some, if_pos hp.1, if_pos (by exact hp.2), ref_mask_f, Option.bind_some, ref_zero_f]
 obtain ⟨y, hy⟩ := key
 have last : ∀ m : Nat, Ev (fun k => annealseat_Num.j0 k (m : Int)) (m : Int) := fun m => Ev.step (fun k => by rw [annealseat_Num.j0]) (Ev.now _)
 by_cases c : (a : Int) / 2147483648 = 1
 ·obtain ⟨m, h1, h2⟩ := kbits .or (Go.bits .and .u32 y (maskN f : Int)) (signN f true : Int) (.inr rfl)
  exact ⟨m, h2, Ev.congr (fun k => by rw [hy k, if_pos c, Option.bind_some, h1]) (last m)⟩
 ·obtain ⟨m, h1, h2⟩ := kbits .and y (maskN f : Int) (.inl rfl)
  exact ⟨m, h2, Ev.congr (fun k => by rw [hy k, if_neg c, h1]) (last m)⟩
/- Bits with a sign, beyond the greatest number: plain numbers alone (for rounds without chapter 9). -/

theorem sign_parts (f : Int) (P : Nat) (neg : Bool) (h : P < 2 ^ (fe f + fm f)) : negN f (P + signN f neg) = neg ∧ magN f (P + signN f neg) = P ∧ P + signN f neg < 2 ^ (fe f + fm f + 1) := by
 unfold negN magN signN
 have hp := Nat.two_pow_pos (fe f + fm f)
 cases neg
 ·simp only [Bool.false_eq_true, if_false, Nat.add_zero]
  rw [Nat.div_eq_of_lt h, Nat.mod_eq_of_lt h, Nat.pow_succ]
  exact ⟨rfl, rfl, by omega⟩
 ·simp only [if_true]
  rw [Nat.add_div_right _ hp, Nat.div_eq_of_lt h, Nat.add_mod_right, Nat.mod_eq_of_lt h, Nat.pow_succ]
  exact ⟨rfl, rfl, by omega⟩
/- Numbers near one, drawn: plain numbers. -/

def oneN (f : Int) : Nat := topN f / 2
theorem one_cases (f : Int) : fe f = 5 ∧ fm f = 10 ∧ oneN f = 15 ∧ leastN f = -14 ∧ topN f = 31 ∨ fe f = 8 ∧ fm f = 7 ∧ oneN f = 127 ∧ leastN f = -126 ∧ topN f = 255 ∨ fe f = 8 ∧ fm f = 23 ∧ oneN f = 127 ∧ leastN f = -126 ∧ topN f = 255 := by
 unfold oneN topN leastN
 rcases fcases f with ⟨h1, h2⟩ | ⟨h1, h2⟩ | ⟨h1, h2⟩ <;> rw [h1, h2] <;> simp
theorem mild_shl (f : Int) : shl .u32 4 (fm f : Int) = ((4 * 2 ^ fm f : Nat) : Int) ∧ shl .u32 2 (fm f : Int) = ((2 * 2 ^ fm f : Nat) : Int) ∧
  shl .u32 ((((shl .u32 1 (fe f : Int)) - 1) % 4294967296) / 2) (fm f : Int) = ((oneN f * 2 ^ fm f : Nat) : Int) := by
 rcases one_cases f with ⟨h1, h2, h3, _⟩ | ⟨h1, h2, h3, _⟩ | ⟨h1, h2, h3, _⟩ <;> rw [h1, h2, h3] <;> decide
theorem mild_range (f : Int) : 4 * 2 ^ fm f + oneN f * 2 ^ fm f < 2 ^ (fe f + fm f) ∧ 2 * 2 ^ fm f ≤ oneN f * 2 ^ fm f := by
 rcases one_cases f with ⟨h1, h2, h3, _⟩ | ⟨h1, h2, h3, _⟩ | ⟨h1, h2, h3, _⟩ <;> rw [h1, h2, h3] <;> decide
theorem mild_plain (O P a : Nat) (h : 2 * P ≤ O) (hO : O + 4 * P < 2147483648) (hP : 0 < P) : ((((O : Nat) : Int) - ((2 * P : Nat) : Int)) % 4294967296 + Int.tmod ((a : Int) / 8) ((4 * P : Nat) : Int)) % 4294967296 = ((O - 2 * P + a / 8 % (4 * P) : Nat) : Int) := by
 have e : Int.tmod ((a : Int) / 8) ((4 * P : Nat) : Int) = ((a / 8 % (4 * P) : Nat) : Int) := by
  rw [show (a : Int) / 8 = ((a / 8 : Nat) : Int) from rfl, Int.tmod_eq_emod_of_nonneg (Int.natCast_nonneg _)]; rfl
 have hm := Nat.mod_lt (a / 8) (show 4 * P > 0 by omega)
 rw [e]
 generalize a / 8 % (4 * P) = m at *
 omega
theorem or_sign (f : Int) (m : Nat) (h : m < 2 ^ (fe f + fm f)) : Go.bits .or .u32 (m : Int) (signN f true : Int) = ((m + signN f true : Nat) : Int) := by
 have hb := fbounds f
 have h31 := pow_le31 (show fe f + fm f ≤ 31 by omega)
 have hs : signN f true = 2 ^ (fe f + fm f) := rfl
 rw [or_u32 m _ (by omega) (by omega), Nat.or_comm, or_add _ _ (fe f + fm f) (by rw [hs, Nat.mod_self]) h, Nat.add_comm]
theorem mild_f (f : Int) (a : Nat) (ha : a < 4294967296) : ∃ m : Nat, ∃ neg : Bool, annealseat_Mild.f f (a : Int) = some ((m + signN f neg : Nat) : Int) ∧ (m = 0 ∧ neg = false ∨ (oneN f - 2) * 2 ^ fm f ≤ m ∧ m < (oneN f + 2) * 2 ^ fm f) := by
 unfold annealseat_Mild.f
 by_cases c : Int.tmod (a : Int) 7 = 0
 ·rw [if_pos c]
  exact ⟨0, false, rfl, .inl ⟨rfl, rfl⟩⟩
 ·rw [if_neg c, ref_widths_f, Option.bind_some]
  dsimp only
  obtain ⟨s1, s2, s3⟩ := mild_shl f
  obtain ⟨r1, r2⟩ := mild_range f
  have hb := fbounds f
  have h31 := pow_le31 (show fe f + fm f ≤ 31 by omega)
  have hp := Nat.two_pow_pos (fm f)
  rw [s1, s2, s3, if_pos (Int.natCast_nonneg _), if_pos (Int.natCast_nonneg _), if_neg (by omega), mild_plain _ _ _ r2 (by omega) hp]
  have hm := Nat.mod_lt (a / 8) (show 4 * 2 ^ fm f > 0 by omega)
  have h2 : (oneN f - 2) * 2 ^ fm f = oneN f * 2 ^ fm f - 2 * 2 ^ fm f := Nat.sub_mul _ _ _
  have h3 : (oneN f + 2) * 2 ^ fm f = oneN f * 2 ^ fm f + 2 * 2 ^ fm f := Nat.add_mul _ _ _
  generalize hM : oneN f * 2 ^ fm f - 2 * 2 ^ fm f + a / 8 % (4 * 2 ^ fm f) = m at *
  by_cases d : Go.bits .and .u32 (a : Int) 1 = 1
  ·rw [if_pos d, ref_zero_f, Option.bind_some, or_sign f m (by omega)]
   exact ⟨m, true, rfl, .inr ⟨by omega, by omega⟩⟩
  ·rw [if_neg d]
   exact ⟨m, false, rfl, .inr ⟨by omega, by omega⟩⟩
theorem mild_parts (f : Int) (m : Nat) (neg : Bool) (h1 : (oneN f - 2) * 2 ^ fm f ≤ m) (h2 : m < (oneN f + 2) * 2 ^ fm f) :
  negN f (m + signN f neg) = neg ∧ magN f (m + signN f neg) = m ∧ m + signN f neg < 2 ^ (fe f + fm f + 1) ∧ m + signN f neg < 4294967296 ∧ oneN f - 2 ≤ expN f (m + signN f neg) ∧ expN f (m + signN f neg) < oneN f + 2 ∧
  clsN f (m + signN f neg) = 2 ∧ wholeN f (m + signN f neg) = fracN f (m + signN f neg) + 2 ^ fm f ∧ m = expN f (m + signN f neg) * 2 ^ fm f + fracN f (m + signN f neg) := by
 obtain ⟨r1, r2⟩ := mild_range f
 have hb := fbounds f
 have h32 := pow_le32 (show fe f + fm f + 1 ≤ 32 by omega)
 have hp := Nat.two_pow_pos (fm f)
 have h3 : (oneN f + 2) * 2 ^ fm f = oneN f * 2 ^ fm f + 2 * 2 ^ fm f := Nat.add_mul _ _ _
 obtain ⟨p1, p2, p3⟩ := sign_parts f m neg (by omega)
 obtain ⟨q1, q2⟩ := mag_parts f (m + signN f neg)
 rw [p2] at q1 q2
 have e1 : oneN f - 2 ≤ m / 2 ^ fm f := (Nat.le_div_iff_mul_le hp).mpr h1
 have e2 : m / 2 ^ fm f < oneN f + 2 := (Nat.div_lt_iff_lt_mul hp).mpr h2
 have hd := Nat.div_add_mod m (2 ^ fm f)
 rw [q1, q2, Nat.mul_comm] at hd
 rw [q1] at e1 e2
 have hc : oneN f = 15 ∧ topN f = 31 ∨ oneN f = 127 ∧ topN f = 255 := by
  rcases one_cases f with ⟨_, _, h3, _, h4⟩ | ⟨_, _, h3, _, h4⟩ | ⟨_, _, h3, _, h4⟩ <;> omega
 refine ⟨p1, p2, p3, by omega, e1, e2, ?_, ?_, hd.symm⟩
 ·unfold clsN; rw [if_neg (by omega), if_pos (by omega)]
 ·unfold wholeN; rw [if_neg (by omega)]
/- Small whole numbers as numbers: plain numbers alone. -/

theorem zero_all (f : Int) (b : Bool) : clsN f (signN f b) = 0 ∧ negN f (signN f b) = b ∧ signN f b < 4294967296 := by
 have hb := fbounds f
 have h31 := pow_le31 (show fe f + fm f ≤ 31 by omega)
 have hp := Nat.two_pow_pos (fm f)
 obtain ⟨p1, p2, p3⟩ := sign_parts f 0 b (Nat.two_pow_pos _)
 obtain ⟨q1, q2⟩ := mag_parts f (0 + signN f b)
 rw [p2] at q1 q2
 rw [Nat.zero_add] at *
 refine ⟨?_, p1, ?_⟩
 ·unfold clsN; rw [← q1, ← q2, Nat.zero_div, Nat.zero_mod]; rfl
 ·unfold signN; split <;> omega
end Go.Proofs.Ytngkpekmgahjiaa.Round

/- WholeTells: which number any whole one is, which whole one any number, and what it is scaled: the program's are the document's, for every format, mode and number. -/
namespace Go.Proofs.Ytngkpekmgahjiaa.Pure
open Go.RowKit Go.Proofs.Ytngkpekmgahjiaa.P Go.Proofs.Ytngkpekmgahjiaa.Num Go.Proofs.Ytngkpekmgahjiaa.BitsF Go.Proofs.Ytngkpekmgahjiaa.Fmt Go.Proofs.Ytngkpekmgahjiaa.Round Go.Proofs.YtngkpekmgahjiaaW.PrintWords Go.Proofs.YtngkpekmgahjiaaW.PrintLast Go.Proofs.YtngkpekmgahjiaaW.PrintMore

theorem known8_ev : Ev (fun k => anneallaw8_known.f k) true := Ev.of anneallaw8_known.mono (k := 60) (by kernel_rfl)
theorem form8_f (c : Nat) : ∃ f : Int, anneallaw8_form.f (c : Int) = some f := by
 have e := Int.tmod_eq_emod_of_nonneg (b := 3) (Int.natCast_nonneg c)
 unfold anneallaw8_form.f
 rw [Option.bind_some, e]
 have h : (c : Int) % 3 = 0 ∨ (c : Int) % 3 = 1 ∨ (c : Int) % 3 = 2 := by omega
 rcases h with h | h | h <;> rw [h] <;> exact ⟨_, rfl⟩
theorem same5 (a b c d e : Bool) : ¬ ((!(a == a) || (!(b == b) || (!(c == c) || (!(d == d) || (!(e == e)))))) = true) := by simp
theorem rd_mem (l : List Int) (i : Nat) (h : i < l.length) : rd l (i : Int) ∈ l := by
 have e : rd l (i : Int) = l[i] := by simp [rd, h]
 rw [e]; exact List.getElem_mem h

theorem l3_loop (x2 x3 x4 x5 x6 : Int) (v : Nat) (hv : v < 4294967296) (x50 : List S60) (x51 x52 : Int) (x108 : List Int) (x109 x110 g m : Int)
  (next : Ev (fun k => anneallaw8_WholeTells.l2 k x2 x3 x4 x5 x6 x50 x51 x52 x108 x109 (wrap64 (x110 + 1)) g m) true) (l : List Int) (hl : l.length < 1000) (d : Nat) : ∀ i : Nat, i + d = l.length →
  Ev (fun k => anneallaw8_WholeTells.l3 k x2 x3 x4 x5 x6 (v : Int) x50 x51 x52 x108 x109 x110 l (l.length : Int) (i : Int) g m) true := by
 induction d with
 |zero =>
  intro i hi
  exact Ev.step (fun k => by rw [anneallaw8_WholeTells.l3, if_neg (by omega)]) next
 |succ d ih =>
  intro i hi
  refine Ev.step (fun k => by rw [anneallaw8_WholeTells.l3, if_pos (show (i : Int) < (l.length : Int) by omega), if_pos (show (0 : Int) ≤ (i : Int) by omega), if_pos (show (i : Int) < (l.length : Int) by omega), w64_id _ (by omega) (by omega)]) ?_
  refine Ev.bind (scale_ev g m v (rd l (i : Int)) hv) (Ev.bind (ref_scale_ev g m v (rd l (i : Int)) hv) (Ev.congr (fun k => by rw [if_pos rfl, if_neg (same5 _ _ _ _ _)]) ?_))
  exact Ev.congr (fun k => by rw [Int.natCast_add]; rfl) (ih (i + 1) (by omega))

theorem l2_loop (x2 x3 x4 x5 x6 : Int) (x50 : List S60) (x51 x52 g m : Int)
  (next : Ev (fun k => anneallaw8_WholeTells.l0 k x2 x3 x4 x5 x6 x50 x51 (wrap64 (x52 + 1))) true) (l : List Int) (hl : l.length < 1000) (hp : ∀ x ∈ l, 0 ≤ x ∧ x < 4294967296) (d : Nat) : ∀ i : Nat, i + d = l.length →
  Ev (fun k => anneallaw8_WholeTells.l2 k x2 x3 x4 x5 x6 x50 x51 x52 l (l.length : Int) (i : Int) g m) true := by
 induction d with
 |zero =>
  intro i hi
  exact Ev.step (fun k => by rw [anneallaw8_WholeTells.l2, if_neg (by omega)]) next
 |succ d ih =>
  intro i hi
  obtain ⟨h0, h1⟩ := hp _ (rd_mem l i (by omega))
  obtain ⟨v, hv⟩ := nat_of h0
  rw [hv] at h1
  have hv4 : v < 4294967296 := by omega
  have hn := ih (i + 1) (by omega)
  have hn' : Ev (fun k => anneallaw8_WholeTells.l2 k x2 x3 x4 x5 x6 x50 x51 x52 l (l.length : Int) (wrap64 ((i : Int) + 1)) g m) true :=
   Ev.congr (fun k => by rw [w64_id _ (by omega) (by omega), Int.natCast_add]; rfl) hn
  have h3 := l3_loop x2 x3 x4 x5 x6 v hv4 x50 x51 x52 l (l.length : Int) (i : Int) g m hn' [x2, wrap64 ((wrap64 (Int.tdiv (wrap64 (x3)) 4)) - 32), wrap64 ((wrap64 (x3)) - 128)] (show (3 : Nat) < 1000 by decide) 3 0 rfl
  refine Ev.step (fun k => by rw [anneallaw8_WholeTells.l2, if_pos (show (i : Int) < (l.length : Int) by omega), if_pos (show (0 : Int) ≤ (i : Int) by omega), if_pos (show (i : Int) < (l.length : Int) by omega), hv]) ?_
  refine Ev.bind (toint_ev g m v hv4) (Ev.bind (ref_toint_ev g m v hv4) (Ev.bind (round_ev g m v hv4) (Ev.bind (ref_round_ev g m v hv4) (Ev.congr (fun k => by rw [if_pos rfl, if_neg (same5 _ _ _ _ _), if_pos rfl]) ?_))))
  refine Ev.step (fun k => by rw [anneallaw8_WholeTells.j3, if_neg (same5 _ _ _ _ _)]) ?_
  exact Ev.bind (Ev.now _) (Ev.congr (fun k => rfl) h3)

theorem l1_loop (x2 x3 x4 x6 : Int) (a : Nat) (ha : a < 4294967296) (x50 : List S60) (x51 x52 g m : Int)
  (next : Ev (fun k => anneallaw8_WholeTells.l0 k x2 x3 x4 (a : Int) x6 x50 x51 (wrap64 (x52 + 1))) true) (l : List Int) (hl : l.length < 1000) (hp : ∀ x ∈ l, -9223372036854775808 ≤ x ∧ x ≤ 9223372036854775807) (d : Nat) : ∀ i : Nat, i + d = l.length →
  Ev (fun k => anneallaw8_WholeTells.l1 k x2 x3 x4 (a : Int) x6 x50 x51 x52 l (l.length : Int) (i : Int) g m) true := by
 induction d with
 |zero =>
  intro i hi
  obtain ⟨x, hx, hxe⟩ := num_k g a
  obtain ⟨y, s, hy, hyr⟩ := mild_f g a ha
  have hy4 : y + signN g s < 4294967296 := by
   rcases hyr with ⟨e1, e2⟩ | ⟨e1, e2⟩
   ·rw [e1, Nat.zero_add]; exact (zero_all g s).2.2
   ·exact (mild_parts g y s e1 e2).2.2.2.1
  refine Ev.step (fun k => by rw [anneallaw8_WholeTells.l1, if_neg (by omega)]) (Ev.bind hxe (Ev.congr (fun k => by rw [hy, Option.bind_some]) (Ev.bind (Ev.now _) ?_)))
  exact Ev.congr (fun k => rfl) (l2_loop x2 x3 x4 (a : Int) x6 x50 x51 x52 g m next [(a : Int), (x : Int), ((y + signN g s : Nat) : Int)] (show (3 : Nat) < 1000 by decide) (by
   intro z hz
   simp only [List.mem_cons, List.not_mem_nil, or_false] at hz
   rcases hz with rfl | rfl | rfl <;> omega) 3 0 rfl)
 |succ d ih =>
  intro i hi
  obtain ⟨h0, h1⟩ := hp _ (rd_mem l i (by omega))
  refine Ev.step (fun k => by rw [anneallaw8_WholeTells.l1, if_pos (show (i : Int) < (l.length : Int) by omega), if_pos (show (0 : Int) ≤ (i : Int) by omega), if_pos (show (i : Int) < (l.length : Int) by omega), w64_id _ (by omega) (by omega)]) ?_
  refine Ev.bind (fromint_ev g m _ h0 h1) (Ev.bind (ref_fromint_ev g m _ h0 h1) (Ev.congr (fun k => by rw [if_pos rfl, if_neg (same5 _ _ _ _ _)]) ?_))
  exact Ev.congr (fun k => by rw [Int.natCast_add]; rfl) (ih (i + 1) (by omega))

theorem shr_in (v n : Int) (hv : -9223372036854775808 ≤ v) (hv' : v ≤ 9223372036854775807) : -9223372036854775808 ≤ shr .i64 v n ∧ shr .i64 v n ≤ 9223372036854775807 := by
 unfold shr
 generalize (min n.toNat IntKind.i64.bits) = j
 have hp : 0 < (2 : Int) ^ j := Int.pow_pos (by decide)
 constructor
 ·rw [Int.le_ediv_iff_mul_le hp]
  have h1 : (1 : Int) ≤ 2 ^ j := hp
  generalize (2 : Int) ^ j = q at *
  omega
 ·by_cases c : 0 ≤ v
  ·exact Int.le_trans (Int.ediv_le_self _ c) hv'
  ·have := Int.ediv_neg_of_neg_of_pos (show v < 0 by omega) hp
   omega

theorem l0_loop (x2 : Int) (c4 : Nat) (b : Nat) (hc : c4 < 256) (hb : b < 256) (a : Nat) (ha : a < 4294967296) (x6 : Int) (h6 : -9223372036854775808 ≤ x6) (h6' : x6 ≤ 9223372036854775807) (l : List S60) (hl : l.length < 1000) (d : Nat) : ∀ i : Nat, i + d = l.length →
  Ev (fun k => anneallaw8_WholeTells.l0 k x2 (c4 : Int) (b : Int) (a : Int) x6 l (l.length : Int) (i : Int)) true := by
 induction d with
 |zero =>
  intro i hi
  exact Ev.step (fun k => by rw [anneallaw8_WholeTells.l0, if_neg (by omega)]) (Ev.now _)
 |succ d ih =>
  intro i hi
  have ht : 0 ≤ Int.tmod (b : Int) 64 := by rw [Int.tmod_eq_emod_of_nonneg (Int.natCast_nonneg b)]; omega
  have hn : Ev (fun k => anneallaw8_WholeTells.l0 k x2 (c4 : Int) (b : Int) (a : Int) x6 l (l.length : Int) (wrap64 ((i : Int) + 1))) true :=
   Ev.congr (fun k => by rw [w64_id _ (by omega) (by omega), Int.natCast_add]; rfl) (ih (i + 1) (by omega))
  refine Ev.step (fun k => by rw [anneallaw8_WholeTells.l0, if_pos (show (i : Int) < (l.length : Int) by omega), if_pos (show (0 : Int) ≤ (i : Int) by omega), if_pos (show (i : Int) < (l.length : Int) by omega), if_pos ht]) (Ev.bind (Ev.now _) ?_)
  refine Ev.congr (fun k => rfl) (l1_loop x2 (c4 : Int) (b : Int) x6 a ha l (l.length : Int) (i : Int) _ _ hn [x6, shr .i64 x6 (Int.tmod (b : Int) 64), wrap64 (c4 : Int), wrap64 (-(wrap64 (c4 : Int)))] (show (4 : Nat) < 1000 by decide) ?_ 4 0 rfl)
  intro z hz
  simp only [List.mem_cons, List.not_mem_nil, or_false] at hz
  rcases hz with rfl | rfl | rfl | rfl
  ·exact ⟨h6, h6'⟩
  ·exact shr_in _ _ h6 h6'
  ·rw [w64_id _ (by omega) (by omega)]; omega
  ·rw [w64_id (c4 : Int) (by omega) (by omega), w64_id _ (by omega) (by omega)]; omega

theorem WholeTells : anneallaw8_WholeTells.Pure := by
 intro a0 a1 a2 a3 a4 a5 a6 h0 h1 h2 h3 h4 h5 h6
 obtain ⟨p3, q3⟩ := wf_u8 h3
 obtain ⟨p4, q4⟩ := wf_u8 h4
 obtain ⟨p5, q5⟩ := wf_u32 h5
 obtain ⟨p6, q6⟩ := wf_i64 h6
 obtain ⟨c, rfl⟩ := nat_of p3
 obtain ⟨b, rfl⟩ := nat_of p4
 obtain ⟨a, rfl⟩ := nat_of p5
 obtain ⟨f, hf⟩ := form8_f c
 apply Ev.rounds
 unfold anneallaw8_WholeTells.f
 refine Ev.bind known8_ev (Ev.congr (fun k => by rw [if_pos rfl, hf, Option.bind_some]) (Ev.bind (Ev.now _) ?_))
 exact Ev.congr (fun k => rfl) (l0_loop a2 c b (by omega) (by omega) a (by omega) a6 p6 q6 [(⟨a0, a1⟩ : S60), (⟨f, wrap64 (Int.tmod (b : Int) 5)⟩ : S60)] (show (2 : Nat) < 1000 by decide) 2 0 rfl)
end Go.Proofs.Ytngkpekmgahjiaa.Pure
