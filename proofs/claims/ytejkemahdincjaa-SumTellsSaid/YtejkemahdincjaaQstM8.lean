import Derived.Test.YtejkemahdincjaaQstM7
import Derived.Test.YtejkemahdincjaaQstPackE
import Derived.Test.YtejkemahdincjaaQstM2
import Derived.Test.YtejkemahdincjaaQstM1
import Derived.Test.YtejkemahdincjaaQstM6
import Derived.Test.YtejkemahdincjaaQstM3
import Derived.Test.YtejkemahdincjaaQstM4
import Derived.Test.YtejkemahdincjaaQstM5
/- Sums and differences: the program's, as plain numbers. -/
set_option linter.unusedVariables false
set_option linter.unusedSimpArgs false
namespace Go.Proofs.Ytejkemahdincjaa.Round
open Go.RowKit Go.Proofs.Ytejkemahdincjaa.P Go.Proofs.Ytejkemahdincjaa.Num Go.Proofs.Ytejkemahdincjaa.BitsF Go.Proofs.Ytejkemahdincjaa.Fmt Go.Proofs.YtejkemahdincjaaW.PrintWords Go.Proofs.YtejkemahdincjaaW.PrintLast Go.Proofs.YtejkemahdincjaaW.PrintMore

theorem nought_f (f mode : Int) (a b : Bool) : sum_Nought.f f mode a b = some (noughtN f mode a b : Int) := by
 unfold sum_Nought.f noughtN
 have e3 : ((mode == 3) : Bool) = decide (mode = 3) := by
  by_cases c : mode = 3
  ·subst c; rfl
  ·rw [decide_eq_false c]; exact beq_eq_false_iff_ne.mpr c
 rw [e3]
 by_cases c : a = b
 ·subst c; rw [if_pos (beq_self_eq_true a), if_pos rfl, zero_f]; rfl
 ·rw [if_neg (show ¬ (a == b) = true by rw [beq_iff_eq]; exact c), if_neg c, zero_f]; rfl
theorem infinite_ev (f : Int) (a b x y : Bool) : Ev (fun k => sum_Infinite.f k f a b x y) (if x = true ∧ y = true ∧ a ≠ b then ((nanN f : Int), true, false, false, false, false) else if x = true then ((infN f a : Int), false, false, false, false, false) else ((infN f b : Int), false, false, false, false, false)) := by
 have bad : Ev (fun k => sum_Infinite.j0 k f a b x true) ((nanN f : Int), true, false, false, false, false) :=
  Ev.step (fun k => by rw [sum_Infinite.j0, if_pos rfl, bad_f]; rfl) (Ev.now _)
 have left : x = true → Ev (fun k => sum_Infinite.j0 k f a b x false) ((infN f a : Int), false, false, false, false, false) := fun h =>
  Ev.step (fun k => by rw [sum_Infinite.j0, if_neg (by decide), if_pos h, inf_f]; rfl) (Ev.now _)
 have right : ¬ x = true → Ev (fun k => sum_Infinite.j0 k f a b x false) ((infN f b : Int), false, false, false, false, false) := fun h =>
  Ev.step (fun k => by rw [sum_Infinite.j0, if_neg (by decide), if_neg h, inf_f]; rfl) (Ev.now _)
 refine Ev.congr (fun k => by unfold sum_Infinite.f; rfl) ?_
 by_cases hx : x = true
 ·by_cases hy : y = true
  ·by_cases n : a = b
   ·rw [if_neg (fun h => h.2.2 n), if_pos hx]
    refine Ev.congr (fun k => ?_) (left hx)
    rw [if_pos hx, if_pos hy, n, bne_self_eq_false]
   ·rw [if_pos ⟨hx, hy, n⟩]
    refine Ev.congr (fun k => ?_) bad
    rw [if_pos hx, if_pos hy, bne_iff_ne.mpr n]
  ·rw [if_neg (fun h => hy h.2.1), if_pos hx]
   exact Ev.congr (fun k => by rw [if_pos hx, if_neg hy]) (left hx)
 ·rw [if_neg (fun h => hx h.1), if_neg hx]
  exact Ev.congr (fun k => by rw [if_neg hx]) (right hx)
theorem whole_62 (f : Int) (v : Nat) : wholeN f v < 4611686018427387904 := by
 have h := fbounds f
 have h1 := whole_lt f v
 have h2 := pow_le31 (show fm f + 1 ≤ 31 by omega)
 omega
theorem add_ev (f mode : Int) (a b : Nat) (ha : a < 4294967296) (hb : b < 4294967296) : Ev (fun k => sum_Add.f k f mode (a : Int) (b : Int)) ((sumN f mode a b : Int), sumX f mode a b) := by
 have hla := cls_le f a
 have hlb := cls_le f b
 refine Ev.congr (fun k => by unfold sum_Add.f; rfl) (Ev.bind (pnans2_ev f a b ha hb) ?_)
 unfold sumN sumX
 by_cases n : 4 ≤ clsN f a ∨ 4 ≤ clsN f b
 ·have e : (isNan f a || isNan f b) = true := by unfold isNan; rw [Bool.or_eq_true, decide_eq_true_iff, decide_eq_true_iff]; exact n
  rw [if_pos n, if_pos n]
  exact Ev.congr (fun k => by rw [if_pos e]) (Ev.now _)
 ·have e : ¬ (isNan f a || isNan f b) = true := by unfold isNan; rw [Bool.or_eq_true, decide_eq_true_iff, decide_eq_true_iff]; exact n
  rw [if_neg n, if_neg n]
  refine Ev.congr (fun k => by rw [if_neg e]) (Ev.bind (pinf_ev f a ha) (Ev.bind (pinf_ev f b hb) ?_))
  by_cases i : clsN f a = 3 ∨ clsN f b = 3
  ·have hj : Ev (fun k => sum_Add.j0 k f mode (a : Int) (b : Int) (decide (clsN f a = 3)) (decide (clsN f b = 3)) true)
     ((((if clsN f a = 3 ∧ clsN f b = 3 ∧ negN f a ≠ negN f b then nanN f else if clsN f a = 3 then infN f (negN f a) else if clsN f b = 3 then infN f (negN f b) else roundedN f mode (negN f a) (negN f b) (pairN f a b) : Nat) : Int)),
      if clsN f a = 3 ∧ clsN f b = 3 ∧ negN f a ≠ negN f b then (true, false, false, false, false) else if clsN f a = 3 ∨ clsN f b = 3 then (false, false, false, false, false) else (false, false, roundedX f mode (pairN f a b))) := by
    have hin := infinite_ev f (negN f a) (negN f b) (decide (clsN f a = 3)) (decide (clsN f b = 3))
    simp only [decide_eq_true_iff] at hin
    refine Ev.step (fun k => by rw [sum_Add.j0, if_pos rfl, neg_f f a ha, Option.bind_some, neg_f f b hb, Option.bind_some]) (Ev.bind hin (Ev.congr (fun k => ?_) (Ev.now _)))
    by_cases t : clsN f a = 3 ∧ clsN f b = 3 ∧ negN f a ≠ negN f b
    ·rw [if_pos t, if_pos t, if_pos t]
    ·rw [if_neg t, if_neg t, if_neg t, if_pos i]
     by_cases a3 : clsN f a = 3
     ·rw [if_pos a3, if_pos a3]
     ·rw [if_neg a3, if_neg a3, if_pos (i.resolve_left a3)]
   by_cases a3 : clsN f a = 3
   ·exact Ev.congr (fun k => by rw [if_pos (decide_eq_true a3)]) hj
   ·refine Ev.congr (fun k => by rw [if_neg (by simp [a3])]) ?_
    rw [show decide (clsN f b = 3) = true from decide_eq_true (i.resolve_left a3)] at hj ⊢
    exact hj
  ·have a3 : ¬ clsN f a = 3 := fun h => i (.inl h)
   have b3 : ¬ clsN f b = 3 := fun h => i (.inr h)
   rw [if_neg (fun h => a3 h.1), if_neg a3, if_neg b3, if_neg (fun h => a3 h.1), if_neg i]
   obtain ⟨l1, l2⟩ := lowest_near f a
   obtain ⟨m1, m2⟩ := lowest_near f b
   have hx := exact_ev (negN f a) (lowestN f a) (wholeN f a) (negN f b) (lowestN f b) (wholeN f b) (whole_62 f a) (whole_62 f b) (by omega) (by omega) (by omega) (by omega)
   obtain ⟨x1, x2, x3⟩ := exact_bounds (negN f a) (lowestN f a) (wholeN f a) (negN f b) (lowestN f b) (wholeN f b) (whole_62 f a) (whole_62 f b) (by omega) (by omega) (by omega) (by omega)
   rw [decide_eq_false a3, decide_eq_false b3]
   refine Ev.congr (fun k => by rw [if_neg (by decide)]) (Ev.step (fun k => by rw [sum_Add.j0, if_neg (by decide), of_f f a ha (cls_exp f a (by omega)), Option.bind_some, of_f f b hb (cls_exp f b (by omega)), Option.bind_some]) ?_)
   dsimp only
   refine Ev.bind hx ?_
   unfold pairN castE
   generalize exactN (negN f a) (lowestN f a) (wholeN f a) (negN f b) (lowestN f b) (wholeN f b) = r at *
   obtain ⟨rn, re, rs, rm⟩ := r
   dsimp only at *
   have hp := packs_ev f mode rn re rs rm (by omega)
   rw [clampE_id _ (by omega) (by omega)] at hp
   have pack : ¬ (rs = 0 ∧ rm = false) → Ev (fun k => sum_Add.j1 k f mode false (negN f a) (lowestN f a) (wholeN f a : Int) false (negN f b) (lowestN f b) (wholeN f b : Int) false rn re (rs : Int) rm) ((roundedN f mode (negN f a) (negN f b) (rn, re, rs, rm) : Int), false, false, roundedX f mode (rn, re, rs, rm)) := by
    intro z
    have zz : ¬ (rs, rm) = (0, false) := fun e => z ⟨(Prod.mk.inj e).1, (Prod.mk.inj e).2⟩
    unfold roundedN roundedX
    rw [if_neg zz, if_neg zz]
    exact Ev.step (fun k => by rw [sum_Add.j1, if_neg (by decide)]) (Ev.bind hp (Ev.now _))
   by_cases s0 : rs = 0
   ·cases rm
    ·have zz : (rs, false) = (0, false) := by rw [s0]
     refine Ev.congr (fun k => by rw [if_pos (by omega)]) (Ev.step (fun k => by rw [sum_Add.j1, if_pos (by decide), nought_f]) (Ev.congr (fun k => ?_) (Ev.now _)))
     unfold roundedN roundedX
     rw [if_pos zz, if_pos zz]; rfl
    ·exact Ev.congr (fun k => by rw [if_pos (by omega)]; rfl) (pack (by simp))
   ·exact Ev.congr (fun k => by rw [if_neg (by omega)]) (pack (fun h => s0 h.1))
/- Amounts: what a number's bits without its sign stand for, in units of the least number; rounding depends on the amount alone. -/

def magN (f : Int) (v : Nat) : Nat := v % 2 ^ (fe f + fm f)
theorem rest_scale (r h j : Nat) : restN (r * 2 ^ j) (h * 2 ^ j) false = restN r h false := by
 have hp := Nat.two_pow_pos j
 unfold restN
 have h1 : r * 2 ^ j < h * 2 ^ j ↔ r < h := Nat.mul_lt_mul_right hp
 have h2 : r * 2 ^ j = 0 ↔ r = 0 := by rw [Nat.mul_eq_zero]; omega
 have h3 : r * 2 ^ j = h * 2 ^ j ↔ r = h := ⟨fun e => Nat.eq_of_mul_eq_mul_right hp e, fun e => by rw [e]⟩
 simp only [h1, h2, h3]
theorem left_exact (s : Nat) (d : Int) (h : d ≤ 0 ∨ s % 2 ^ d.toNat = 0) : leftN s d false = 0 := left_none false h
theorem quo_scale (s j : Nat) (d : Int) : quoN (s * 2 ^ j) d = quoN s (d - j) ∧ leftN (s * 2 ^ j) d false = leftN s (d - j) false := by
 by_cases c : d ≤ 0
 ·rw [left_exact _ _ (.inl c), left_exact _ _ (.inl (by omega))]
  refine ⟨?_, rfl⟩
  unfold quoN
  rw [if_pos c, if_pos (by omega), show (-(d - (j : Int))).toNat = j + (-d).toNat by omega, Nat.pow_add, Nat.mul_assoc]
 ·obtain ⟨n, rfl⟩ := nat_of (show 0 ≤ d by omega)
  by_cases c2 : (n : Int) - j ≤ 0
  ·obtain ⟨i, rfl⟩ : ∃ i, j = n + i := ⟨j - n, by omega⟩
   have e : s * 2 ^ (n + i) = s * 2 ^ i * 2 ^ n := by rw [Nat.add_comm, Nat.pow_add, Nat.mul_assoc]
   have hp := Nat.two_pow_pos n
   constructor
   ·unfold quoN
    rw [if_neg c, if_pos c2, Int.toNat_natCast, e, Nat.mul_div_cancel _ hp, show (-((n : Int) - ((n + i : Nat) : Int))).toNat = i by omega]
   ·rw [left_exact _ _ (.inr (by rw [Int.toNat_natCast, e, Nat.mul_mod_left])), left_exact _ _ (.inl c2)]
  ·obtain ⟨i, rfl⟩ : ∃ i, n = i + j := ⟨n - j, by omega⟩
   have hp := Nat.two_pow_pos j
   have e : ((i + j : Nat) : Int) - (j : Int) = (i : Int) := by omega
   rw [e] at c2 ⊢
   have hi : i ≠ 0 := by omega
   constructor
   ·unfold quoN
    rw [if_neg c, if_neg c2, Int.toNat_natCast, Int.toNat_natCast, Nat.pow_add, Nat.mul_div_mul_right _ _ hp]
   ·rw [left_rest _ _ _ c, left_rest _ _ _ c2, Int.toNat_natCast, Int.toNat_natCast, Nat.pow_add, Nat.mul_mod_mul_right, show i + j - 1 = i - 1 + j by omega, Nat.pow_add, rest_scale]
theorem rise_scale (f x : Int) (s j : Nat) : riseN f x (s * 2 ^ j) = riseN f (x + j) s := by
 unfold riseN
 by_cases c : s = 0
 ·subst c; rw [Nat.zero_mul, if_pos rfl, if_pos rfl]
 ·rw [if_neg (Nat.mul_ne_zero c (Nat.ne_of_gt (Nat.two_pow_pos j))), if_neg c, lenN_mul s j c]
  congr 1; omega
theorem key_scale (f mode : Int) (neg : Bool) (x : Int) (s j : Nat) : keyN f mode neg x (s * 2 ^ j) false = keyN f mode neg (x + j) s false := by
 have hr := rise_scale f x s j
 have hu : unitN f x (s * 2 ^ j) = unitN f (x + j) s := by unfold unitN; rw [hr]
 obtain ⟨hq, hl⟩ := quo_scale s j (unitN f (x + j) s - x)
 rw [show unitN f (x + j) s - x - j = unitN f (x + j) s - (x + j) by omega] at hq hl
 unfold keyN
 rw [hr, hu, hq, hl]
theorem mag_parts (f : Int) (v : Nat) : magN f v / 2 ^ fm f = expN f v ∧ magN f v % 2 ^ fm f = fracN f v := by
 unfold magN expN fracN
 rw [Nat.add_comm (fe f), Nat.pow_add]
 exact ⟨Nat.mod_mul_right_div_self .., Nat.mod_mul_right_mod ..⟩
/- Bits with a sign, beyond the greatest number: plain numbers alone (for rounds without chapter 9). -/

theorem sign_parts (f : Int) (P : Nat) (neg : Bool) (h : P < 2 ^ (fe f + fm f)) : negN f (P + signN f neg) = neg ∧ magN f (P + signN f neg) = P ∧ P + signN f neg < 2 ^ (fe f + fm f + 1) := by
 unfold negN magN signN
 have hp := Nat.two_pow_pos (fe f + fm f)
 cases neg
 ·simp only [Bool.false_eq_true, if_false, Nat.add_zero]
  rw [Nat.div_eq_of_lt h, Nat.mod_eq_of_lt h, Nat.pow_succ]
  exact ⟨rfl, rfl, by omega⟩
 ·simp only [if_true]
  rw [Nat.add_div_right _ hp, Nat.div_eq_of_lt h, Nat.add_mod_right, Nat.mod_eq_of_lt h, Nat.pow_succ]
  exact ⟨rfl, rfl, by omega⟩
theorem mag_sign (f : Int) (v : Nat) (h : v < 2 ^ (fe f + fm f + 1)) : v = magN f v + signN f (negN f v) := by
 unfold magN signN negN
 have h1 := Nat.div_add_mod v (2 ^ (fe f + fm f))
 have h2 : v / 2 ^ (fe f + fm f) < 2 := by rw [Nat.div_lt_iff_lt_mul (Nat.two_pow_pos _), Nat.mul_comm, ← Nat.pow_succ]; exact h
 rw [Nat.mod_eq_of_lt h2]
 generalize v / 2 ^ (fe f + fm f) = b at *
 have h3 : b = 0 ∨ b = 1 := by omega
 rcases h3 with rfl | rfl
 ·simp at h1 ⊢; omega
 ·simp at h1 ⊢; omega
/- Differences: the program's, as plain numbers. -/

def turnN (f : Int) (v : Nat) : Nat := magN f v + signN f (!negN f v)
theorem xor_off (m n : Nat) (h : m < 2 ^ n) : m ^^^ 2 ^ n = m + 2 ^ n ∧ (m + 2 ^ n) ^^^ 2 ^ n = m := by
 have ho : m + 2 ^ n = 2 ^ n ||| m := by rw [or_add (2 ^ n) m n (Nat.mod_self _) h, Nat.add_comm]
 have hn : m.testBit n = false := Nat.testBit_lt_two_pow h
 rw [ho]
 constructor
 ·apply Nat.eq_of_testBit_eq
  intro i
  rw [Nat.testBit_xor, Nat.testBit_or, Nat.testBit_two_pow]
  by_cases e : n = i
  ·subst e; rw [hn]; simp
  ·rw [decide_eq_false e]; simp
 ·apply Nat.eq_of_testBit_eq
  intro i
  rw [Nat.testBit_xor, Nat.testBit_or, Nat.testBit_two_pow]
  by_cases e : n = i
  ·subst e; rw [hn]; simp
  ·rw [decide_eq_false e]; simp
theorem mag_lt (f : Int) (v : Nat) : magN f v < 2 ^ (fe f + fm f) := Nat.mod_lt _ (Nat.two_pow_pos _)
theorem low_mag (f : Int) (v : Nat) : lowN f v = magN f v + signN f (negN f v) := by
 have h := mag_sign f (lowN f v) (low_lt f v)
 have e : magN f (lowN f v) = magN f v := by
  unfold magN lowN
  exact Nat.mod_mod_of_dvd _ (Nat.pow_dvd_pow 2 (by omega))
 rw [neg_low, e] at h
 exact h
theorem turn_f (f : Int) (v : Nat) (hv : v < 4294967296) : format_Turn.f f (v : Int) = some (turnN f v : Int) := by
 have hb := fbounds f
 have h31 := pow_le31 (show fe f + fm f ≤ 31 by omega)
 have hm := mag_lt f v
 have hs : signN f true = 2 ^ (fe f + fm f) := rfl
 have hs0 : signN f false = 0 := rfl
 obtain ⟨x1, x2⟩ := xor_off (magN f v) (fe f + fm f) hm
 unfold format_Turn.f turnN
 rw [widths_f, Option.bind_some, pmask_f, Option.bind_some]
 dsimp only
 rw [sum_w, if_pos (Int.natCast_nonneg _), and_mask f v hv, one_shl _ (by omega), low_mag]
 cases negN f v
 ·rw [hs0, Nat.add_zero, xor_u32 _ _ (by omega) (by omega), x1]; rfl
 ·rw [hs, xor_u32 _ _ (by omega) (by omega), x2, Bool.not_true, hs0, Nat.add_zero]
theorem turn_parts (f : Int) (v : Nat) : negN f (turnN f v) = !negN f v ∧ clsN f (turnN f v) = clsN f v ∧ wholeN f (turnN f v) = wholeN f v ∧ lowestN f (turnN f v) = lowestN f v ∧ turnN f v < 4294967296 := by
 have hb := fbounds f
 have h32 := pow_le32 (show fe f + fm f + 1 ≤ 32 by omega)
 obtain ⟨p1, p2, p3⟩ := sign_parts f (magN f v) (!negN f v) (mag_lt f v)
 obtain ⟨m1, m2⟩ := mag_parts f (turnN f v)
 obtain ⟨n1, n2⟩ := mag_parts f v
 have hm : magN f (turnN f v) = magN f v := p2
 rw [hm] at m1 m2
 have he : expN f (turnN f v) = expN f v := by rw [← m1, n1]
 have hf : fracN f (turnN f v) = fracN f v := by rw [← m2, n2]
 refine ⟨p1, ?_, ?_, ?_, by unfold turnN; omega⟩
 ·unfold clsN; rw [he, hf]
 ·unfold wholeN; rw [he, hf]
 ·unfold lowestN; rw [he]
def subN (f mode : Int) (a b : Nat) : Nat := if 4 ≤ clsN f a ∨ 4 ≤ clsN f b then nanN f else sumN f mode a (turnN f b)
def subX (f mode : Int) (a b : Nat) : Bool × Bool × Bool × Bool × Bool := if 4 ≤ clsN f a ∨ 4 ≤ clsN f b then (isLoud f a || isLoud f b, false, false, false, false) else sumX f mode a (turnN f b)
theorem sub_ev (f mode : Int) (a b : Nat) (ha : a < 4294967296) (hb : b < 4294967296) : Ev (fun k => sum_Sub.f k f mode (a : Int) (b : Int)) ((subN f mode a b : Int), subX f mode a b) := by
 refine Ev.congr (fun k => by unfold sum_Sub.f; rfl) (Ev.bind (pnans2_ev f a b ha hb) ?_)
 unfold subN subX
 by_cases n : 4 ≤ clsN f a ∨ 4 ≤ clsN f b
 ·have e : (isNan f a || isNan f b) = true := by unfold isNan; rw [Bool.or_eq_true, decide_eq_true_iff, decide_eq_true_iff]; exact n
  rw [if_pos n, if_pos n]
  exact Ev.congr (fun k => by rw [if_pos e]) (Ev.now _)
 ·have e : ¬ (isNan f a || isNan f b) = true := by unfold isNan; rw [Bool.or_eq_true, decide_eq_true_iff, decide_eq_true_iff]; exact n
  rw [if_neg n, if_neg n]
  exact Ev.congr (fun k => by rw [if_neg e, turn_f f b hb, Option.bind_some]) (Ev.bind (add_ev f mode a _ ha (turn_parts f b).2.2.2.2) (Ev.now _))
theorem sub_self (f mode : Int) (x : Nat) : (clsN f x < 3 → subN f mode x x = signN f (decide (mode = 3)) ∧ subX f mode x x = (false, false, false, false, false)) ∧ (¬ clsN f x < 3 → subN f mode x x = nanN f) := by
 obtain ⟨t1, t2, t3, t4, t5⟩ := turn_parts f x
 constructor
 ·intro h
  have hx := exact_self (negN f x) (lowestN f x) (wholeN f x)
  unfold subN subX sumN sumX pairN
  rw [t1, t2, t3, t4, if_neg (show ¬ (4 ≤ clsN f x ∨ 4 ≤ clsN f x) by omega), if_neg (show ¬ (4 ≤ clsN f x ∨ 4 ≤ clsN f x) by omega), if_neg (show ¬ (4 ≤ clsN f x ∨ 4 ≤ clsN f x) by omega), if_neg (show ¬ (4 ≤ clsN f x ∨ 4 ≤ clsN f x) by omega), if_neg (show ¬ (clsN f x = 3 ∧ clsN f x = 3 ∧ negN f x ≠ !negN f x) from fun h' => by omega), if_neg (show ¬ (clsN f x = 3 ∧ clsN f x = 3 ∧ negN f x ≠ !negN f x) from fun h' => by omega), if_neg (show ¬ clsN f x = 3 by omega), if_neg (show ¬ clsN f x = 3 by omega), if_neg (show ¬ (clsN f x = 3 ∨ clsN f x = 3) by omega)]
  unfold roundedN roundedX
  rw [if_pos hx, if_pos hx]
  refine ⟨?_, rfl⟩
  unfold noughtN
  rw [if_neg (by cases negN f x <;> decide)]
 ·intro h
  unfold subN sumN
  rw [t1, t2]
  by_cases n : 4 ≤ clsN f x
  ·rw [if_pos (.inl n)]
  ·rw [if_neg (show ¬ (4 ≤ clsN f x ∨ 4 ≤ clsN f x) by omega), if_neg (show ¬ (4 ≤ clsN f x ∨ 4 ≤ clsN f x) by omega), if_pos (show clsN f x = 3 ∧ clsN f x = 3 ∧ negN f x ≠ !negN f x from ⟨by omega, by omega, by cases negN f x <;> decide⟩)]
end Go.Proofs.Ytejkemahdincjaa.Round

/- Functions' trees, printed by a tool of mine out of the reckoner; Lean's kernel checks each. -/
namespace Go.Proofs.Ytejkemahdincjaa.E
open Go.RowKit Go.Proofs.Ytejkemahdincjaa.P Go.Proofs.Ytejkemahdincjaa.Ek Go.Proofs.YtejkemahdincjaaW.PrintWords Go.Proofs.YtejkemahdincjaaW.PrintLast Go.Proofs.YtejkemahdincjaaW.PrintMore
set_option maxRecDepth 100000
theorem annealref1_spread.eq (n0 : Nat) (a0 : Bool) (a1 : Int) (a2 : Int) : annealref1_spread.f n0 a0 a1 a2 = (if 0 ≤ Int.tmod (wrap64 (a1 + 298)) 64 then (if 0 ≤ wrap64 (Int.tdiv (wrap64 (a1 + 298)) 64) then (if wrap64 (Int.tdiv (wrap64 (a1 + 298)) 64) < 10 then (if 0 < Int.tmod (wrap64 (a1 + 298)) 64 then (if wrap64 (Int.tdiv (wrap64 (a1 + 298)) 64) < 9 then (if 0 ≤ wrap64 (64 - Int.tmod (wrap64 (a1 + 298)) 64) then (if 0 ≤ wrap64 (wrap64 (Int.tdiv (wrap64 (a1 + 298)) 64) + 1) then (if wrap64 (wrap64 (Int.tdiv (wrap64 (a1 + 298)) 64) + 1) < 10 then (some ((a0, List.set (List.set (List.replicate 10 0) (Int.toNat (wrap64 (Int.tdiv (wrap64 (a1 + 298)) 64))) (shl IntKind.u64 a2 (Int.tmod (wrap64 (a1 + 298)) 64))) (Int.toNat (wrap64 (wrap64 (Int.tdiv (wrap64 (a1 + 298)) 64) + 1))) (shr IntKind.u64 a2 (wrap64 (64 - Int.tmod (wrap64 (a1 + 298)) 64)))))) else none) else none) else none) else (some ((a0, List.set (List.replicate 10 0) (Int.toNat (wrap64 (Int.tdiv (wrap64 (a1 + 298)) 64))) (shl IntKind.u64 a2 (Int.tmod (wrap64 (a1 + 298)) 64)))))) else (some ((a0, List.set (List.replicate 10 0) (Int.toNat (wrap64 (Int.tdiv (wrap64 (a1 + 298)) 64))) (shl IntKind.u64 a2 (Int.tmod (wrap64 (a1 + 298)) 64)))))) else none) else none) else none) := by kernel_rfl
noncomputable def annealref1_below.l2 (k n0 : Nat) (x0 : Int) (x1 : Bool) (x2 : List Int) (x3 : Bool) (x4 : List Int) := evIn Try.prog annealref1_below.cls Try.f83 annealref1_below.cuts [1, 0, 1, 0] [n0] k ⟨[(5, (.pv (.one (.i .i64 (.x x0))))), (3, (.pv (.one (.p 1 0)))), (2, (.pv (.one (.p 0 0))))], [(1, (62, [(.c (.b (.q x1))), (.a .u64 x2 10)])), (0, (62, [(.c (.b (.q x3))), (.a .u64 x4 10)]))], 2⟩ annealref1_below.K
theorem annealref1_below.eq (n0 : Nat) (a0_0 : Bool) (a0_1 : List Int) (a1_0 : Bool) (a1_1 : List Int) : annealref1_below.f n0 a0_0 a0_1 a1_0 a1_1 = (annealref1_below.l2 n0 n0 (Int.ofNat 9) (a1_0) (a1_1) (a0_0) (a0_1)) := by kernel_rfl
theorem annealref1_below.l2_eq (k n0 : Nat) (x0 : Int) (x1 : Bool) (x2 : List Int) (x3 : Bool) (x4 : List Int) : annealref1_below.l2 (k + 1) n0 x0 x1 x2 x3 x4 = (if 0 ≤ x0 then (if 0 ≤ x0 then (if x0 < 10 then (if 0 ≤ x0 then (if x0 < 10 then (if rd x4 x0 = rd x2 x0 then (annealref1_below.l2 k n0 (wrap64 (x0 - 1)) (x1) (x2) (x3) (x4)) else (if 0 ≤ x0 then (if x0 < 10 then (if 0 ≤ x0 then (if x0 < 10 then (some (decide (rd x4 x0 < rd x2 x0))) else none) else none) else none) else none)) else none) else none) else none) else none) else (some (false))) := by kernel_rfl
noncomputable def annealref1_minus.l5 (k n0 : Nat) (x0 : Int) (x1 : Int) (x2 : Bool) (x3 : List Int) (x4 : Bool) (x5 : List Int) (x6 : Bool) (x7 : List Int) := evIn Try.prog annealref1_minus.cls Try.f80 annealref1_minus.cuts [1, 1, 1, 0, 1, 0] [n0] k ⟨[(6, (.pv (.one (.i .i64 (.x x0))))), (5, (.pv (.one (.i .u64 (.x x1))))), (4, (.pv (.one (.p 2 0)))), (3, (.pv (.one (.p 1 0)))), (2, (.pv (.one (.p 0 0))))], [(2, (62, [(.c (.b (.q x2))), (.a .u64 x3 10)])), (1, (62, [(.c (.b (.q x4))), (.a .u64 x5 10)])), (0, (62, [(.c (.b (.q x6))), (.a .u64 x7 10)]))], 3⟩ annealref1_minus.K
theorem annealref1_minus.eq (n0 : Nat) (a0_0 : Bool) (a0_1 : List Int) (a1_0 : Bool) (a1_1 : List Int) : annealref1_minus.f n0 a0_0 a0_1 a1_0 a1_1 = ((annealref1_below.f n0 a0_0 a0_1 a1_0 a1_1).bind fun t0 => (if t0 = true then (annealref1_minus.l5 n0 n0 (Int.ofNat 0) (Int.ofNat 0) (false) (0 :: List.replicate 9 0) (a0_0) (a0_1) (a1_0) (a1_1)) else (annealref1_minus.l5 n0 n0 (Int.ofNat 0) (Int.ofNat 0) (false) (0 :: List.replicate 9 0) (a1_0) (a1_1) (a0_0) (a0_1)))) := by kernel_rfl
theorem annealref1_minus.l5_eq (k n0 : Nat) (x0 : Int) (x1 : Int) (x2 : Bool) (x3 : List Int) (x4 : Bool) (x5 : List Int) (x6 : Bool) (x7 : List Int) : annealref1_minus.l5 (k + 1) n0 x0 x1 x2 x3 x4 x5 x6 x7 = (if x0 < 10 then (if 0 ≤ x0 then (if x0 < 10 then (if 0 ≤ x0 then (if x0 < 10 then (if 0 ≤ x0 then (if x0 < 10 then (if 0 ≤ x0 then (if x0 < 10 then (if rd x7 x0 < rd x5 x0 then (if 0 ≤ x0 then (if x0 < 10 then (annealref1_minus.l5 k n0 (wrap64 (x0 + 1)) (Int.ofNat 1) (x2) (x3) (x4) (x5) (x6) (List.set x7 (Int.toNat x0) (IntKind.wrap IntKind.u64 (IntKind.wrap IntKind.u64 (rd x7 x0 - rd x5 x0) - x1)))) else none) else none) else (if IntKind.wrap IntKind.u64 (rd x7 x0 - rd x5 x0) < x1 then (if 0 ≤ x0 then (if x0 < 10 then (annealref1_minus.l5 k n0 (wrap64 (x0 + 1)) (Int.ofNat 1) (x2) (x3) (x4) (x5) (x6) (List.set x7 (Int.toNat x0) (IntKind.wrap IntKind.u64 (IntKind.wrap IntKind.u64 (rd x7 x0 - rd x5 x0) - x1)))) else none) else none) else (if 0 ≤ x0 then (if x0 < 10 then (annealref1_minus.l5 k n0 (wrap64 (x0 + 1)) (Int.ofNat 0) (x2) (x3) (x4) (x5) (x6) (List.set x7 (Int.toNat x0) (IntKind.wrap IntKind.u64 (IntKind.wrap IntKind.u64 (rd x7 x0 - rd x5 x0) - x1)))) else none) else none))) else none) else none) else none) else none) else none) else none) else none) else none) else (some ((x6, x7)))) := by kernel_rfl
noncomputable def annealref1_plus.l5 (k n0 : Nat) (x0 : Int) (x1 : Int) (x2 : Bool) (x3 : List Int) (x4 : Bool) (x5 : List Int) (x6 : Bool) (x7 : List Int) := evIn Try.prog annealref1_plus.cls Try.f68 annealref1_plus.cuts [1, 1, 1, 0, 1, 0] [n0] k ⟨[(6, (.pv (.one (.i .i64 (.x x0))))), (5, (.pv (.one (.i .u64 (.x x1))))), (4, (.pv (.one (.p 2 0)))), (3, (.pv (.one (.p 1 0)))), (2, (.pv (.one (.p 0 0))))], [(2, (62, [(.c (.b (.q x2))), (.a .u64 x3 10)])), (1, (62, [(.c (.b (.q x4))), (.a .u64 x5 10)])), (0, (62, [(.c (.b (.q x6))), (.a .u64 x7 10)]))], 3⟩ annealref1_plus.K
theorem annealref1_plus.eq (n0 : Nat) (a0_0 : Bool) (a0_1 : List Int) (a1_0 : Bool) (a1_1 : List Int) : annealref1_plus.f n0 a0_0 a0_1 a1_0 a1_1 = (if (a0_0 == a1_0) = true then (annealref1_plus.l5 n0 n0 (Int.ofNat 0) (Int.ofNat 0) (false) (0 :: List.replicate 9 0) (a1_0) (a1_1) (a0_0) (a0_1)) else ((annealref1_minus.f n0 a0_0 a0_1 a1_0 a1_1).bind fun t0 => (some ((Prod.fst t0, Prod.snd t0))))) := by kernel_rfl
theorem annealref1_plus.l5_eq (k n0 : Nat) (x0 : Int) (x1 : Int) (x2 : Bool) (x3 : List Int) (x4 : Bool) (x5 : List Int) (x6 : Bool) (x7 : List Int) : annealref1_plus.l5 (k + 1) n0 x0 x1 x2 x3 x4 x5 x6 x7 = (if x0 < 10 then (if 0 ≤ x0 then (if x0 < 10 then (if 0 ≤ x0 then (if x0 < 10 then (if 0 ≤ x0 then (if x0 < 10 then (if IntKind.wrap IntKind.u64 (rd x7 x0 + rd x5 x0) < rd x7 x0 then (if 0 ≤ x0 then (if x0 < 10 then (annealref1_plus.l5 k n0 (wrap64 (x0 + 1)) (Int.ofNat 1) (x2) (x3) (x4) (x5) (x6) (List.set x7 (Int.toNat x0) (IntKind.wrap IntKind.u64 (IntKind.wrap IntKind.u64 (rd x7 x0 + rd x5 x0) + x1)))) else none) else none) else (if IntKind.wrap IntKind.u64 (IntKind.wrap IntKind.u64 (rd x7 x0 + rd x5 x0) + x1) < IntKind.wrap IntKind.u64 (rd x7 x0 + rd x5 x0) then (if 0 ≤ x0 then (if x0 < 10 then (annealref1_plus.l5 k n0 (wrap64 (x0 + 1)) (Int.ofNat 1) (x2) (x3) (x4) (x5) (x6) (List.set x7 (Int.toNat x0) (IntKind.wrap IntKind.u64 (IntKind.wrap IntKind.u64 (rd x7 x0 + rd x5 x0) + x1)))) else none) else none) else (if 0 ≤ x0 then (if x0 < 10 then (annealref1_plus.l5 k n0 (wrap64 (x0 + 1)) (Int.ofNat 0) (x2) (x3) (x4) (x5) (x6) (List.set x7 (Int.toNat x0) (IntKind.wrap IntKind.u64 (IntKind.wrap IntKind.u64 (rd x7 x0 + rd x5 x0) + x1)))) else none) else none))) else none) else none) else none) else none) else none) else none) else (some ((x6, x7)))) := by kernel_rfl
theorem annealref1_nought.eq (n0 : Nat) (a0_0 : Bool) (a0_1 : List Int) : annealref1_nought.f n0 a0_0 a0_1 = (some (a0_1 ++ [] == List.replicate 10 0 ++ [])) := by kernel_rfl
noncomputable def annealref1_rounded.l2 (k n0 : Nat) (x0 : Int) (x1 : Int) (x2 : Int) (x3 : Bool) (x4 : Bool) (x5 : Bool) (x6 : Bool) (x7 : Bool) (x8 : Bool) (x9 : List Int) := evIn Try.prog annealref1_rounded.cls Try.f70 annealref1_rounded.cuts [1, 1, 0, 0] [n0] k ⟨[(8, (.pv (.one (.i .i64 (.x x0))))), (7, (.pv (.one (.p 1 0)))), (5, (.pv (.one (.p 0 0)))), (1, (.pv (.one (.i .i64 (.x x1))))), (0, (.pv (.one (.i .i64 (.x x2)))))], [(1, (29, [(.c (.b (.q x3))), (.c (.b (.q x4))), (.c (.b (.q x5))), (.c (.b (.q x6))), (.c (.b (.q x7)))])), (0, (62, [(.c (.b (.q x8))), (.a .u64 x9 10)]))], 2⟩ annealref1_rounded.K
noncomputable def annealref1_rounded.l19 (k n0 : Nat) (x0 : Int) (x1 : Bool) (x2 : Int) (x3 : Int) (x4 : Int) (x5 : Int) (x6 : Int) (x7 : Bool) (x8 : Bool) (x9 : Bool) (x10 : Bool) (x11 : Bool) (x12 : Bool) (x13 : List Int) := evIn Try.prog annealref1_rounded.cls Try.f70 annealref1_rounded.cuts [1, 1, 1, 1, 1, 1, 1, 0, 1, 0, 1, 1, 1, 1, 1, 1, 1, 1, 0] [n0] k ⟨[(15, (.pv (.one (.i .i64 (.x x0))))), (12, (.pv (.one (.b (.q x1))))), (11, (.pv (.one (.i .i64 (.x x2))))), (10, (.pv (.one (.i .u64 (.x x3))))), (8, (.pv (.one (.i .i64 (.x x4))))), (7, (.pv (.one (.p 1 0)))), (5, (.pv (.one (.p 0 0)))), (1, (.pv (.one (.i .i64 (.x x5))))), (0, (.pv (.one (.i .i64 (.x x6)))))], [(1, (29, [(.c (.b (.q x7))), (.c (.b (.q x8))), (.c (.b (.q x9))), (.c (.b (.q x10))), (.c (.b (.q x11)))])), (0, (62, [(.c (.b (.q x12))), (.a .u64 x13 10)]))], 2⟩ annealref1_rounded.K
theorem annealref1_rounded.eq (n0 : Nat) (a0 : Int) (a1 : Int) (a2_0 : Bool) (a2_1 : List Int) : annealref1_rounded.f n0 a0 a1 a2_0 a2_1 = (annealref1_rounded.l2 n0 n0 (Int.ofNat 9) (a1) (a0) (false) (false) (false) (false) (false) (a2_0) (a2_1)) := by kernel_rfl
theorem annealref1_rounded.l2_eq (k n0 : Nat) (x0 : Int) (x1 : Int) (x2 : Int) (x3 : Bool) (x4 : Bool) (x5 : Bool) (x6 : Bool) (x7 : Bool) (x8 : Bool) (x9 : List Int) : annealref1_rounded.l2 (k + 1) n0 x0 x1 x2 x3 x4 x5 x6 x7 x8 x9 = (if 0 ≤ x0 then (if x0 < 10 then (if rd x9 x0 = 0 then (annealref1_rounded.l2 k n0 (wrap64 (x0 - 1)) (x1) (x2) (x3) (x4) (x5) (x6) (x7) (x8) (x9)) else (if 0 ≤ x0 then (if x0 < 10 then ((annealref1_Len.f n0 (rd x9 x0)).bind fun t0 => (if 0 ≤ x0 then (if x0 < 10 then (if 0 < x0 then (if 0 ≤ wrap64 (64 - t0) then (if 0 ≤ wrap64 (x0 - 1) then (if wrap64 (x0 - 1) < 10 then (if 0 ≤ t0 then (if t0 = 64 then (if 0 ≤ x0 then (if x0 < 10 then (if 0 ≤ wrap64 (x0 - 1) then (if wrap64 (x0 - 1) < 10 then (if t0 < 64 then (if 0 ≤ wrap64 (64 - t0) then (annealref1_rounded.l19 n0 n0 (Int.ofNat 0) (!(shl IntKind.u64 (rd x9 (wrap64 (x0 - 1))) (wrap64 (64 - t0)) == 0)) (wrap64 (wrap64 (wrap64 (64 * x0) - 298) - wrap64 (64 - t0))) (rd x9 x0) (x0) (x1) (x2) (x3) (x4) (x5) (x6) (x7) (x8) (x9)) else none) else (annealref1_rounded.l19 n0 n0 (Int.ofNat 0) (!(rd x9 (wrap64 (x0 - 1)) == 0)) (wrap64 (wrap64 (wrap64 (64 * x0) - 298) - wrap64 (64 - t0))) (rd x9 x0) (x0) (x1) (x2) (x3) (x4) (x5) (x6) (x7) (x8) (x9))) else none) else none) else none) else none) else (if 0 ≤ wrap64 (x0 - 1) then (if wrap64 (x0 - 1) < 10 then (if t0 < 64 then (if 0 ≤ wrap64 (64 - t0) then (annealref1_rounded.l19 n0 n0 (Int.ofNat 0) (!(shl IntKind.u64 (rd x9 (wrap64 (x0 - 1))) (wrap64 (64 - t0)) == 0)) (wrap64 (wrap64 (wrap64 (64 * x0) - 298) - wrap64 (64 - t0))) (bits BinOp.or IntKind.u64 (shl IntKind.u64 (rd x9 x0) (wrap64 (64 - t0))) (shr IntKind.u64 (rd x9 (wrap64 (x0 - 1))) t0)) (x0) (x1) (x2) (x3) (x4) (x5) (x6) (x7) (x8) (x9)) else none) else (annealref1_rounded.l19 n0 n0 (Int.ofNat 0) (!(rd x9 (wrap64 (x0 - 1)) == 0)) (wrap64 (wrap64 (wrap64 (64 * x0) - 298) - wrap64 (64 - t0))) (bits BinOp.or IntKind.u64 (shl IntKind.u64 (rd x9 x0) (wrap64 (64 - t0))) (shr IntKind.u64 (rd x9 (wrap64 (x0 - 1))) t0)) (x0) (x1) (x2) (x3) (x4) (x5) (x6) (x7) (x8) (x9))) else none) else none)) else none) else none) else none) else none) else ((annealref1_Pack.f n0 x2 x1 x8 (wrap64 (wrap64 (64 * x0) - 298)) (rd x9 x0) false).bind fun t1 => (some ((Prod.fst t1, Prod.fst (Prod.snd t1), Prod.fst (Prod.snd (Prod.snd t1)), Prod.fst (Prod.snd (Prod.snd (Prod.snd t1))), Prod.fst (Prod.snd (Prod.snd (Prod.snd (Prod.snd t1)))), Prod.snd (Prod.snd (Prod.snd (Prod.snd (Prod.snd t1))))))))) else none) else none)) else none) else none)) else none) else none) := by kernel_rfl
theorem annealref1_rounded.l19_eq (k n0 : Nat) (x0 : Int) (x1 : Bool) (x2 : Int) (x3 : Int) (x4 : Int) (x5 : Int) (x6 : Int) (x7 : Bool) (x8 : Bool) (x9 : Bool) (x10 : Bool) (x11 : Bool) (x12 : Bool) (x13 : List Int) : annealref1_rounded.l19 (k + 1) n0 x0 x1 x2 x3 x4 x5 x6 x7 x8 x9 x10 x11 x12 x13 = (if x0 < wrap64 (x4 - 1) then (if x1 = true then (annealref1_rounded.l19 k n0 (wrap64 (x0 + 1)) (true) (x2) (x3) (x4) (x5) (x6) (x7) (x8) (x9) (x10) (x11) (x12) (x13)) else (if 0 ≤ x0 then (if x0 < 10 then (annealref1_rounded.l19 k n0 (wrap64 (x0 + 1)) (!(rd x13 x0 == 0)) (x2) (x3) (x4) (x5) (x6) (x7) (x8) (x9) (x10) (x11) (x12) (x13)) else none) else none)) else ((annealref1_Pack.f n0 x6 x5 x12 x2 x3 x1).bind fun t0 => (some ((Prod.fst t0, Prod.fst (Prod.snd t0), Prod.fst (Prod.snd (Prod.snd t0)), Prod.fst (Prod.snd (Prod.snd (Prod.snd t0))), Prod.fst (Prod.snd (Prod.snd (Prod.snd (Prod.snd t0)))), Prod.snd (Prod.snd (Prod.snd (Prod.snd (Prod.snd t0))))))))) := by kernel_rfl
theorem annealref1_total.eq (n0 : Nat) (a0 : Int) (a1 : Int) (a2_0 : Bool) (a2_1 : List Int) (a3_0 : Bool) (a3_1 : List Int) : annealref1_total.f n0 a0 a1 a2_0 a2_1 a3_0 a3_1 = ((annealref1_plus.f n0 a2_0 a2_1 a3_0 a3_1).bind fun t0 => ((Ytejkemahdincjaa.E.annealref1_nought.f n0 (Prod.fst t0) (Prod.snd t0)).bind fun t1 => (if t1 = true then ((annealref1_Zero.f a0 (a1 == 3)).bind fun t2 => (some ((t2, false, false, false, false, false)))) else ((annealref1_rounded.f n0 a0 a1 (Prod.fst t0) (Prod.snd t0)).bind fun t2 => (some ((Prod.fst t2, Prod.fst (Prod.snd t2), Prod.fst (Prod.snd (Prod.snd t2)), Prod.fst (Prod.snd (Prod.snd (Prod.snd t2))), Prod.fst (Prod.snd (Prod.snd (Prod.snd (Prod.snd t2)))), Prod.snd (Prod.snd (Prod.snd (Prod.snd (Prod.snd t2))))))))))) := by kernel_rfl
noncomputable def annealref1_Add.j6 (n0 : Nat) (x0 : Int) (x1 : Int) (x2 : Int) (x3 : Int) (x4 : Bool) (x5 : Bool) (x6 : Bool) (x7 : Bool) (x8 : Bool) := evInJ Try.prog annealref1_Add.cls Try.f11 annealref1_Add.cuts [1, 1, 1] [n0] n0 ⟨[(9, (.pv (.one (.p 0 0)))), (3, (.pv (.one (.i .u32 (.x x0))))), (2, (.pv (.one (.i .u32 (.x x1))))), (1, (.pv (.one (.i .i64 (.x x2))))), (0, (.pv (.one (.i .i64 (.x x3)))))], [(0, (29, [(.c (.b (.q x4))), (.c (.b (.q x5))), (.c (.b (.q x6))), (.c (.b (.q x7))), (.c (.b (.q x8)))]))], 1⟩ annealref1_Add.K
noncomputable def annealref1_Add.j12 (n0 : Nat) (x0 : Int) (x1 : Int) (x2 : Int) (x3 : Int) (x4 : Bool) (x5 : Bool) (x6 : Bool) (x7 : Bool) (x8 : Bool) := evInJ Try.prog annealref1_Add.cls Try.f11 annealref1_Add.cuts [1, 1, 1, 1, 1, 1] [n0] n0 ⟨[(9, (.pv (.one (.p 0 0)))), (3, (.pv (.one (.i .u32 (.x x0))))), (2, (.pv (.one (.i .u32 (.x x1))))), (1, (.pv (.one (.i .i64 (.x x2))))), (0, (.pv (.one (.i .i64 (.x x3)))))], [(0, (29, [(.c (.b (.q x4))), (.c (.b (.q x5))), (.c (.b (.q x6))), (.c (.b (.q x7))), (.c (.b (.q x8)))]))], 1⟩ annealref1_Add.K
theorem annealref1_Add.eq (n0 : Nat) (a0 : Int) (a1 : Int) (a2 : Int) (a3 : Int) : annealref1_Add.f n0 a0 a1 a2 a3 = ((annealref1_nans.f n0 a0 [a2, a3]).bind fun t0 => (if Prod.fst t0 = true then ((annealref1_Nan.f a0).bind fun t1 => (some ((t1, Prod.snd t0, false, false, false, false)))) else ((annealref1_inf.f n0 a0 a2).bind fun t1 => (if t1 = true then ((annealref1_inf.f n0 a0 a3).bind fun t2 => (if t2 = true then ((annealref1_neg.f a0 a2).bind fun t3 => ((annealref1_neg.f a0 a3).bind fun t4 => (if (t3 == t4) = true then (annealref1_Add.j6 n0 (a3) (a2) (a1) (a0) (false) (false) (false) (false) (false)) else ((annealref1_Nan.f a0).bind fun t5 => (some ((t5, true, false, false, false, false))))))) else (annealref1_Add.j6 n0 (a3) (a2) (a1) (a0) (false) (false) (false) (false) (false)))) else (annealref1_Add.j6 n0 (a3) (a2) (a1) (a0) (false) (false) (false) (false) (false)))))) := by kernel_rfl
theorem annealref1_Add.j6_eq (n0 : Nat) (x0 : Int) (x1 : Int) (x2 : Int) (x3 : Int) (x4 : Bool) (x5 : Bool) (x6 : Bool) (x7 : Bool) (x8 : Bool) : annealref1_Add.j6 n0 x0 x1 x2 x3 x4 x5 x6 x7 x8 = ((annealref1_inf.f n0 x3 x1).bind fun t0 => (if t0 = true then ((annealref1_Mask.f x3).bind fun t1 => (some ((bits BinOp.and IntKind.u32 x1 t1, false, false, false, false, false)))) else ((annealref1_inf.f n0 x3 x0).bind fun t1 => (if t1 = true then ((annealref1_Mask.f x3).bind fun t2 => (some ((bits BinOp.and IntKind.u32 x0 t2, false, false, false, false, false)))) else ((annealref1_zero.f n0 x3 x1).bind fun t2 => (if t2 = true then ((annealref1_zero.f n0 x3 x0).bind fun t3 => (if t3 = true then ((annealref1_neg.f x3 x1).bind fun t4 => ((annealref1_neg.f x3 x0).bind fun t5 => (if (t4 == t5) = true then ((annealref1_Mask.f x3).bind fun t6 => (some ((bits BinOp.and IntKind.u32 x1 t6, false, false, false, false, false)))) else (annealref1_Add.j12 n0 (x0) (x1) (x2) (x3) (x4) (x5) (x6) (x7) (x8))))) else (annealref1_Add.j12 n0 (x0) (x1) (x2) (x3) (x4) (x5) (x6) (x7) (x8)))) else (annealref1_Add.j12 n0 (x0) (x1) (x2) (x3) (x4) (x5) (x6) (x7) (x8)))))))) := by kernel_rfl
theorem annealref1_Add.j12_eq (n0 : Nat) (x0 : Int) (x1 : Int) (x2 : Int) (x3 : Int) (x4 : Bool) (x5 : Bool) (x6 : Bool) (x7 : Bool) (x8 : Bool) : annealref1_Add.j12 n0 x0 x1 x2 x3 x4 x5 x6 x7 x8 = ((annealref1_Unpack.f n0 x3 x1).bind fun t0 => ((annealref1_spread.f n0 (Prod.fst t0) (Prod.fst (Prod.snd t0)) (Prod.snd (Prod.snd t0))).bind fun t1 => ((annealref1_Unpack.f n0 x3 x0).bind fun t2 => ((annealref1_spread.f n0 (Prod.fst t2) (Prod.fst (Prod.snd t2)) (Prod.snd (Prod.snd t2))).bind fun t3 => ((annealref1_total.f n0 x3 x2 (Prod.fst t1) (Prod.snd t1) (Prod.fst t3) (Prod.snd t3)).bind fun t4 => (some ((Prod.fst t4, Prod.fst (Prod.snd t4), Prod.fst (Prod.snd (Prod.snd t4)), Prod.fst (Prod.snd (Prod.snd (Prod.snd t4))), Prod.fst (Prod.snd (Prod.snd (Prod.snd (Prod.snd t4)))), Prod.snd (Prod.snd (Prod.snd (Prod.snd (Prod.snd t4)))))))))))) := by kernel_rfl
noncomputable def annealref1_Fma.j2 (n0 : Nat) (x0 : Bool) (x1 : Int) (x2 : Int) (x3 : Int) (x4 : Int) (x5 : Int) (x6 : Bool) (x7 : Bool) (x8 : Bool) (x9 : Bool) (x10 : Bool) := evInJ Try.prog annealref1_Fma.cls Try.f19 annealref1_Fma.cuts [1, 1] [n0] n0 ⟨[(12, (.pv (.one (.b (.q x0))))), (11, (.pv (.one (.p 0 0)))), (4, (.pv (.one (.i .u32 (.x x1))))), (3, (.pv (.one (.i .u32 (.x x2))))), (2, (.pv (.one (.i .u32 (.x x3))))), (1, (.pv (.one (.i .i64 (.x x4))))), (0, (.pv (.one (.i .i64 (.x x5)))))], [(0, (29, [(.c (.b (.q x6))), (.c (.b (.q x7))), (.c (.b (.q x8))), (.c (.b (.q x9))), (.c (.b (.q x10)))]))], 1⟩ annealref1_Fma.K
noncomputable def annealref1_Fma.j5 (n0 : Nat) (x0 : Int) (x1 : Int) (x2 : Int) (x3 : Int) (x4 : Int) (x5 : Bool) (x6 : Bool) (x7 : Bool) (x8 : Bool) (x9 : Bool) := evInJ Try.prog annealref1_Fma.cls Try.f19 annealref1_Fma.cuts [1, 1, 1] [n0] n0 ⟨[(11, (.pv (.one (.p 0 0)))), (4, (.pv (.one (.i .u32 (.x x0))))), (3, (.pv (.one (.i .u32 (.x x1))))), (2, (.pv (.one (.i .u32 (.x x2))))), (1, (.pv (.one (.i .i64 (.x x3))))), (0, (.pv (.one (.i .i64 (.x x4)))))], [(0, (29, [(.c (.b (.q x5))), (.c (.b (.q x6))), (.c (.b (.q x7))), (.c (.b (.q x8))), (.c (.b (.q x9)))]))], 1⟩ annealref1_Fma.K
noncomputable def annealref1_Fma.j14 (n0 : Nat) (x0 : Bool) (x1 : Int) (x2 : Int) (x3 : Int) (x4 : Int) (x5 : Int) (x6 : Bool) (x7 : Bool) (x8 : Bool) (x9 : Bool) (x10 : Bool) := evInJ Try.prog annealref1_Fma.cls Try.f19 annealref1_Fma.cuts [1, 1, 1, 1, 1, 1, 1] [n0] n0 ⟨[(15, (.pv (.one (.b (.q x0))))), (11, (.pv (.one (.p 0 0)))), (4, (.pv (.one (.i .u32 (.x x1))))), (3, (.pv (.one (.i .u32 (.x x2))))), (2, (.pv (.one (.i .u32 (.x x3))))), (1, (.pv (.one (.i .i64 (.x x4))))), (0, (.pv (.one (.i .i64 (.x x5)))))], [(0, (29, [(.c (.b (.q x6))), (.c (.b (.q x7))), (.c (.b (.q x8))), (.c (.b (.q x9))), (.c (.b (.q x10)))]))], 1⟩ annealref1_Fma.K
theorem annealref1_Fma.eq (n0 : Nat) (a0 : Int) (a1 : Int) (a2 : Int) (a3 : Int) (a4 : Int) : annealref1_Fma.f n0 a0 a1 a2 a3 a4 = ((annealref1_zero.f n0 a0 a2).bind fun t0 => (if t0 = true then ((annealref1_inf.f n0 a0 a3).bind fun t1 => (if t1 = true then (annealref1_Fma.j2 n0 (true) (a4) (a3) (a2) (a1) (a0) (false) (false) (false) (false) (false)) else ((annealref1_inf.f n0 a0 a2).bind fun t2 => (if t2 = true then ((annealref1_zero.f n0 a0 a3).bind fun t3 => (annealref1_Fma.j2 n0 (t3) (a4) (a3) (a2) (a1) (a0) (false) (false) (false) (false) (false))) else (annealref1_Fma.j2 n0 (false) (a4) (a3) (a2) (a1) (a0) (false) (false) (false) (false) (false)))))) else ((annealref1_inf.f n0 a0 a2).bind fun t1 => (if t1 = true then ((annealref1_zero.f n0 a0 a3).bind fun t2 => (annealref1_Fma.j2 n0 (t2) (a4) (a3) (a2) (a1) (a0) (false) (false) (false) (false) (false))) else (annealref1_Fma.j2 n0 (false) (a4) (a3) (a2) (a1) (a0) (false) (false) (false) (false) (false)))))) := by kernel_rfl
theorem annealref1_Fma.j14_eq (n0 : Nat) (x0 : Bool) (x1 : Int) (x2 : Int) (x3 : Int) (x4 : Int) (x5 : Int) (x6 : Bool) (x7 : Bool) (x8 : Bool) (x9 : Bool) (x10 : Bool) : annealref1_Fma.j14 n0 x0 x1 x2 x3 x4 x5 x6 x7 x8 x9 x10 = ((annealref1_Unpack.f n0 x5 x3).bind fun t0 => ((annealref1_Unpack.f n0 x5 x2).bind fun t1 => ((annealref1_spread.f n0 x0 (wrap64 (Prod.fst (Prod.snd t0) + Prod.fst (Prod.snd t1))) (IntKind.wrap IntKind.u64 (Prod.snd (Prod.snd t0) * Prod.snd (Prod.snd t1)))).bind fun t2 => ((annealref1_Unpack.f n0 x5 x1).bind fun t3 => ((annealref1_spread.f n0 (Prod.fst t3) (Prod.fst (Prod.snd t3)) (Prod.snd (Prod.snd t3))).bind fun t4 => ((annealref1_total.f n0 x5 x4 (Prod.fst t2) (Prod.snd t2) (Prod.fst t4) (Prod.snd t4)).bind fun t5 => (some ((Prod.fst t5, Prod.fst (Prod.snd t5), Prod.fst (Prod.snd (Prod.snd t5)), Prod.fst (Prod.snd (Prod.snd (Prod.snd t5))), Prod.fst (Prod.snd (Prod.snd (Prod.snd (Prod.snd t5)))), Prod.snd (Prod.snd (Prod.snd (Prod.snd (Prod.snd t5))))))))))))) := by kernel_rfl
theorem annealref1_Sub.eq (n0 : Nat) (a0 : Int) (a1 : Int) (a2 : Int) (a3 : Int) : annealref1_Sub.f n0 a0 a1 a2 a3 = ((annealref1_Minus.f n0 a0 a3).bind fun t0 => ((annealref1_Add.f n0 a0 a1 a2 t0).bind fun t1 => (some ((Prod.fst t1, Prod.fst (Prod.snd t1), Prod.fst (Prod.snd (Prod.snd t1)), Prod.fst (Prod.snd (Prod.snd (Prod.snd t1))), Prod.fst (Prod.snd (Prod.snd (Prod.snd (Prod.snd t1)))), Prod.snd (Prod.snd (Prod.snd (Prod.snd (Prod.snd t1))))))))) := by kernel_rfl
end Go.Proofs.Ytejkemahdincjaa.E

/- Whole numbers in limbs of 64 bits; rounds of two kinds: plain numbers alone. -/
namespace Go.Proofs.Ytejkemahdincjaa.Round
open Go.RowKit Go.Proofs.Ytejkemahdincjaa.P Go.Proofs.Ytejkemahdincjaa.Num Go.Proofs.Ytejkemahdincjaa.BitsF Go.Proofs.YtejkemahdincjaaW.PrintWords Go.Proofs.YtejkemahdincjaaW.PrintLast Go.Proofs.YtejkemahdincjaaW.PrintMore

def Ev2 {α : Type} (g : Nat → Nat → Option α) (r : α) : Prop := ∃ K, ∀ k n, K ≤ k → K ≤ n → g k n = some r
theorem Ev2.of {α : Type} {g : Nat → Option α} {r : α} (h : Ev g r) : Ev2 (fun _ n => g n) r := by
 obtain ⟨K, h⟩ := h
 exact ⟨K, fun _ n _ hn => h n hn⟩
theorem Ev2.now {α : Type} (r : α) : Ev2 (fun _ _ => some r) r := ⟨0, fun _ _ _ _ => rfl⟩
theorem Ev2.step {α : Type} {g f : Nat → Nat → Option α} {r : α} (h : ∀ k n, g (k + 1) n = f k n) (k : Ev2 f r) : Ev2 g r := by
 obtain ⟨K, k⟩ := k
 refine ⟨K + 1, fun m n hm hn => ?_⟩
 obtain ⟨q, rfl⟩ : ∃ q, m = q + 1 := ⟨m - 1, by omega⟩
 rw [h]; exact k q n (by omega) (by omega)
theorem Ev2.congr {α : Type} {g f : Nat → Nat → Option α} {r : α} (h : ∀ k n, g k n = f k n) (k : Ev2 f r) : Ev2 g r := by
 obtain ⟨K, k⟩ := k
 exact ⟨K, fun m n hm hn => (h m n).trans (k m n hm hn)⟩
theorem Ev2.diag {α : Type} {g : Nat → Nat → Option α} {r : α} (h : Ev2 g r) : Ev (fun n => g n n) r := by
 obtain ⟨K, h⟩ := h
 exact ⟨K, fun n hn => h n n hn hn⟩
theorem Ev2.bind {α β : Type} {g : Nat → Option α} {f : Nat → Nat → α → Option β} {a : α} {r : β} (h : Ev g a) (k : Ev2 (fun m n => f m n a) r) : Ev2 (fun m n => (g n).bind (f m n)) r := by
 obtain ⟨K, h⟩ := h
 obtain ⟨K', k⟩ := k
 refine ⟨max K K', fun m n hm hn => ?_⟩
 show (g n).bind (f m n) = some r
 rw [h n (by omega)]; exact k m n (by omega) (by omega)
theorem Ev2.inner {α : Type} {g : Nat → Nat → Option α} {r : α} (h : Ev2 g r) : Ev2 (fun _ n => g n n) r := Ev2.of (Ev2.diag h)

def lim (xs : List Int) (i : Nat) : Nat := (rd xs (i : Int)).toNat
def lo (xs : List Int) : Nat → Nat
 |0 => 0
 |i + 1 => lo xs i + lim xs i * 2 ^ (64 * i)
structure Lims (xs : List Int) : Prop where
 len : xs.length = 10
 rng : ∀ i : Nat, 0 ≤ rd xs (i : Int) ∧ rd xs (i : Int) < 18446744073709551616
theorem Lims.rd {xs : List Int} (h : Lims xs) (i : Nat) : Go.Proofs.YtejkemahdincjaaW.PrintWords.rd xs (i : Int) = (lim xs i : Int) := by
 have := h.rng i; unfold lim; omega
theorem Lims.lt {xs : List Int} (h : Lims xs) (i : Nat) : lim xs i < 18446744073709551616 := by
 have := h.rng i; unfold lim; omega
theorem rd_set_at (xs : List Int) (i j : Nat) (v : Int) (h : i < xs.length) : rd (xs.set i v) (j : Int) = if j = i then v else rd xs (j : Int) := by
 unfold rd
 rw [Int.toNat_natCast, List.getD_eq_getElem?_getD, List.getD_eq_getElem?_getD, List.getElem?_set]
 by_cases c : j = i
 ·subst c; rw [if_pos rfl, if_pos rfl, if_pos h]; rfl
 ·rw [if_neg (fun e => c e.symm), if_neg c]
theorem lim_set (xs : List Int) (i j : Nat) (v : Int) (h : i < xs.length) : lim (xs.set i v) j = if j = i then v.toNat else lim xs j := by
 unfold lim; rw [rd_set_at xs i j v h]; split <;> rfl
theorem Lims.set {xs : List Int} (h : Lims xs) (i v : Nat) (hi : i < 10) (hv : v < 18446744073709551616) : Lims (xs.set i (v : Int)) := by
 refine ⟨by rw [List.length_set]; exact h.len, fun j => ?_⟩
 rw [rd_set_at xs i j _ (by rw [h.len]; exact hi)]
 split
 ·omega
 ·exact h.rng j
theorem lo_congr {xs ys : List Int} {i : Nat} (h : ∀ j, j < i → lim xs j = lim ys j) : lo xs i = lo ys i := by
 induction i with
 |zero => rfl
 |succ i ih => unfold lo; rw [ih (fun j hj => h j (by omega)), h i (by omega)]
theorem lo_set (xs : List Int) (i : Nat) (v : Int) (h : i < xs.length) : lo (xs.set i v) i = lo xs i :=
 lo_congr fun j hj => by rw [lim_set xs i j v h, if_neg (by omega)]
theorem lo_set0 (xs : List Int) (i : Nat) (v : Nat) (h : i < xs.length) (h0 : lim xs i = 0) : ∀ n, i < n → lo (xs.set i (v : Int)) n = lo xs n + v * 2 ^ (64 * i) := by
 intro n
 induction n with
 |zero => intro h; omega
 |succ n ih =>
  intro hn
  unfold lo
  rw [lim_set xs i n _ h]
  by_cases c : n = i
  ·subst c
   rw [if_pos rfl, lo_set xs n _ h, h0, Int.toNat_natCast]; omega
  ·rw [if_neg c, ih (by omega)]; omega
theorem lo_lt {xs : List Int} (h : Lims xs) (i : Nat) : lo xs i < 2 ^ (64 * i) := by
 induction i with
 |zero => exact Nat.one_pos
 |succ i ih =>
  unfold lo
  rw [show 64 * (i + 1) = 64 * i + 64 by omega, Nat.pow_add]
  have h1 := h.lt i
  have h2 : (lim xs i + 1) * 2 ^ (64 * i) ≤ 18446744073709551616 * 2 ^ (64 * i) := Nat.mul_le_mul_right _ h1
  rw [Nat.add_mul] at h2
  have : (2 : Nat) ^ 64 = 18446744073709551616 := by decide
  rw [this, Nat.mul_comm (2 ^ (64 * i))]
  omega
@[irreducible] def T640 : Nat := 2 ^ (64 * 10)
theorem T640_eq : 2 ^ (64 * 10) = T640 := by unfold T640; rfl
theorem lo_top {xs : List Int} (h : Lims xs) : lo xs 10 < T640 := by rw [← T640_eq]; exact lo_lt h 10
theorem lo_zero {xs : List Int} (n : Nat) : lo xs n = 0 ↔ ∀ i, i < n → lim xs i = 0 := by
 induction n with
 |zero => exact ⟨fun _ i hi => by omega, fun _ => rfl⟩
 |succ n ih =>
  unfold lo
  have hp : 2 ^ (64 * n) ≠ 0 := by have := Nat.two_pow_pos (64 * n); omega
  constructor
  ·intro h i hi
   have h1 : lo xs n = 0 := by omega
   have h2 : lim xs n * 2 ^ (64 * n) = 0 := by omega
   by_cases c : i = n
   ·subst c; exact (Nat.mul_eq_zero.mp h2).resolve_right hp
   ·exact ih.mp h1 i (by omega)
  ·intro h
   rw [ih.mpr (fun i hi => h i (by omega)), h n (by omega), Nat.zero_mul]
theorem lims_zero : Lims (List.replicate 10 (0 : Int)) := by
 refine ⟨rfl, fun i => ?_⟩
 unfold rd
 rw [List.getD_eq_getElem?_getD, List.getElem?_replicate]
 split <;> simp
theorem lim_zero (i : Nat) : lim (List.replicate 10 (0 : Int)) i = 0 := by
 unfold lim rd
 rw [List.getD_eq_getElem?_getD, List.getElem?_replicate]
 split <;> simp
theorem nought_lims {xs : List Int} (h : Lims xs) : (xs ++ [] == List.replicate 10 (0 : Int) ++ []) = decide (lo xs 10 = 0) := by
 rw [List.append_nil, List.append_nil]
 by_cases z : lo xs 10 = 0
 ·rw [decide_eq_true z, beq_iff_eq]
  refine List.ext_getElem (by rw [h.len]; rfl) fun i h1 h2 => ?_
  have h3 := (lo_zero 10).mp z i (by rw [h.len] at h1; exact h1)
  have h4 := h.rd i
  rw [h3] at h4
  unfold rd at h4
  rw [Int.toNat_natCast, List.getD_eq_getElem?_getD, List.getElem?_eq_getElem h1] at h4
  rw [List.getElem_replicate]
  simpa using h4
 ·rw [decide_eq_false z, beq_eq_false_iff_ne]
  intro e
  apply z
  rw [e]
  exact (lo_zero 10).mpr fun i _ => lim_zero i
theorem lo_none (xs : List Int) : lo xs 0 = 0 := rfl
theorem lo_succ (xs : List Int) (i : Nat) : lo xs (i + 1) = lo xs i + lim xs i * 2 ^ (64 * i) := rfl
attribute [irreducible] lo
end Go.Proofs.Ytejkemahdincjaa.Round

/- Sums of which nothing is lost: plain numbers alone. -/
namespace Go.Proofs.Ytejkemahdincjaa.Round
open Go.RowKit Go.Proofs.Ytejkemahdincjaa.P Go.Proofs.Ytejkemahdincjaa.Num Go.Proofs.Ytejkemahdincjaa.BitsF Go.Proofs.Ytejkemahdincjaa.Fmt Go.Proofs.YtejkemahdincjaaW.PrintWords Go.Proofs.YtejkemahdincjaaW.PrintLast Go.Proofs.YtejkemahdincjaaW.PrintMore

theorem pow_split (m E F : Int) (h1 : m ≤ E) (h2 : E ≤ F) : 2 ^ (F - m).toNat = 2 ^ (F - E).toNat * 2 ^ (E - m).toNat := by
 rw [← Nat.pow_add]; congr 1; omega
/- A rounding depends on the value alone: more bits of the same value make no difference. Quotients and roots to so many bits. Plain numbers alone. -/

theorem rest_refine (r h t P : Nat) (m : Bool) (ht : t < P) : restN (r * P + t) (h * P) m = restN r h (m || decide (t ≠ 0)) := by
 have h1 : r * P + t < h * P ↔ r < h := by
  constructor
  ·intro c; exact Nat.lt_of_mul_lt_mul_right (Nat.lt_of_le_of_lt (Nat.le_add_right _ _) c)
  ·intro c
   have := Nat.mul_le_mul_right P (show r + 1 ≤ h from c)
   rw [Nat.add_mul] at this; omega
 have h2 : r * P + t = h * P ↔ r = h ∧ t = 0 := by
  constructor
  ·intro c
   have a : ¬ r < h := fun l => by have := h1.mpr l; omega
   have b : ¬ h < r := fun l => by
    have := Nat.mul_le_mul_right P (show h + 1 ≤ r from l)
    rw [Nat.add_mul] at this; omega
   have e : r = h := by omega
   subst e; exact ⟨rfl, by omega⟩
  ·rintro ⟨rfl, rfl⟩; rfl
 have h3 : r * P + t = 0 ↔ r = 0 ∧ t = 0 := by
  constructor
  ·intro c
   have : r * P = 0 := by omega
   rw [Nat.mul_eq_zero] at this; omega
  ·rintro ⟨rfl, rfl⟩; simp
 unfold restN
 simp only [h1, h2, h3]
 by_cases c : t = 0
 ·subst c; simp
 ·simp [c]
theorem len_refine (s t j : Nat) (ht : t < 2 ^ j) (hs : s ≠ 0) : lenN (s * 2 ^ j + t) = lenN s + j := by
 have hp := Nat.two_pow_pos j
 have h1 : 2 ^ j ≤ s * 2 ^ j := Nat.le_mul_of_pos_left _ (by omega)
 have := lenN_div (s * 2 ^ j + t) j (by omega)
 rw [Nat.mul_comm, Nat.mul_add_div hp, Nat.div_eq_of_lt ht, Nat.add_zero] at this
 rw [Nat.mul_comm s]; omega
theorem some_refine (s t j : Nat) (hs : s ≠ 0) : s * 2 ^ j + t ≠ 0 := by
 have h1 : 2 ^ j ≤ s * 2 ^ j := Nat.le_mul_of_pos_left _ (by omega)
 have hp := Nat.two_pow_pos j
 omega
theorem rise_refine (f x : Int) (s t j : Nat) (ht : t < 2 ^ j) (hs : s ≠ 0) : riseN f x (s * 2 ^ j + t) = riseN f (x + j) s := by
 unfold riseN
 rw [if_neg (some_refine s t j hs), if_neg hs, len_refine s t j ht hs]
 congr 1; omega
theorem unit_refine (f x : Int) (s t j : Nat) (ht : t < 2 ^ j) (hs : s ≠ 0) : unitN f x (s * 2 ^ j + t) = unitN f (x + j) s := by
 unfold unitN; rw [rise_refine f x s t j ht hs]
theorem unit_above (f x : Int) (s : Nat) (hs : 2 ^ (fm f + 1) ≤ s) : 1 ≤ unitN f x s - x ∧ s ≠ 0 := by
 have hl := lenN_ge s (fm f + 1) hs
 have hp := Nat.two_pow_pos (fm f + 1)
 have h0 : s ≠ 0 := by omega
 refine ⟨?_, h0⟩
 unfold unitN riseN
 rw [if_neg h0]; omega
theorem left_refine (f x : Int) (s t j : Nat) (m : Bool) (ht : t < 2 ^ j) (hs : 2 ^ (fm f + 1) ≤ s) :
  quoN (s * 2 ^ j + t) (unitN f x (s * 2 ^ j + t) - x) = quoN s (unitN f (x + j) s - (x + j)) ∧
  leftN (s * 2 ^ j + t) (unitN f x (s * 2 ^ j + t) - x) m = leftN s (unitN f (x + j) s - (x + j)) (m || decide (t ≠ 0)) := by
 obtain ⟨hd, h0⟩ := unit_above f (x + j) s hs
 rw [unit_refine f x s t j ht h0]
 generalize unitN f (x + j) s = U at *
 obtain ⟨d, e⟩ := nat_of (show 0 ≤ U - (x + j) by omega)
 rw [e] at hd ⊢
 rw [show U - x = ((d + j : Nat) : Int) by omega]
 have hp := Nat.two_pow_pos j
 have hq : (s * 2 ^ j + t) / 2 ^ j = s := by rw [Nat.mul_comm, Nat.mul_add_div hp, Nat.div_eq_of_lt ht, Nat.add_zero]
 constructor
 ·unfold quoN
  rw [if_neg (by omega), if_neg (by omega), Int.toNat_natCast, Int.toNat_natCast, Nat.add_comm d j, Nat.pow_add, ← Nat.div_div_eq_div_mul, hq]
 ·rw [left_rest _ _ _ (show ¬ ((d + j : Nat) : Int) ≤ 0 by omega), left_rest _ _ _ (show ¬ (d : Int) ≤ 0 by omega), Int.toNat_natCast, Int.toNat_natCast]
  have h1 : (s * 2 ^ j + t) % 2 ^ (d + j) = s % 2 ^ d * 2 ^ j + t := by
   rw [Nat.add_comm d j, Nat.pow_add, Nat.mod_mul, hq, Nat.mul_comm s, Nat.mul_add_mod, Nat.mod_eq_of_lt ht]
   rw [Nat.add_comm, Nat.mul_comm (2 ^ j)]
  have h2 : 2 ^ (d + j - 1) = 2 ^ (d - 1) * 2 ^ j := by rw [← Nat.pow_add]; congr 1; omega
  rw [h1, h2, rest_refine _ _ _ _ _ ht]
theorem pack_refine (f mode : Int) (neg : Bool) (x : Int) (s t j : Nat) (m : Bool) (ht : t < 2 ^ j) (hs : 2 ^ (fm f + 1) ≤ s) :
  packN f mode neg x (s * 2 ^ j + t) m = packN f mode neg (x + j) s (m || decide (t ≠ 0)) ∧ excN f mode neg x (s * 2 ^ j + t) m = excN f mode neg (x + j) s (m || decide (t ≠ 0)) := by
 obtain ⟨h1, h2⟩ := left_refine f x s t j m ht hs
 have h0 := (unit_above f x s hs).2
 have h3 := rise_refine f x s t j ht h0
 have hk : keyN f mode neg x (s * 2 ^ j + t) m = keyN f mode neg (x + j) s (m || decide (t ≠ 0)) := by unfold keyN; rw [h1, h2, h3]
 have hi : inexN f x (s * 2 ^ j + t) m = inexN f (x + j) s (m || decide (t ≠ 0)) := by unfold inexN; rw [h2]
 have hu : underN f x (s * 2 ^ j + t) m = underN f (x + j) s (m || decide (t ≠ 0)) := by
  unfold underN
  rw [hi, len_refine s t j ht h0, decide_eq_false (some_refine s t j h0), decide_eq_false h0]
  congr 2; apply decide_eq_decide.mpr; omega
 unfold packN excN
 rw [hk, hi, hu]; exact ⟨rfl, rfl⟩
/- Numbers near one, drawn: plain numbers. -/

def oneN (f : Int) : Nat := topN f / 2
theorem one_cases (f : Int) : fe f = 5 ∧ fm f = 10 ∧ oneN f = 15 ∧ leastN f = -14 ∧ topN f = 31 ∨ fe f = 8 ∧ fm f = 7 ∧ oneN f = 127 ∧ leastN f = -126 ∧ topN f = 255 ∨ fe f = 8 ∧ fm f = 23 ∧ oneN f = 127 ∧ leastN f = -126 ∧ topN f = 255 := by
 unfold oneN topN leastN
 rcases fcases f with ⟨h1, h2⟩ | ⟨h1, h2⟩ | ⟨h1, h2⟩ <;> rw [h1, h2] <;> simp
theorem mild_shl (f : Int) : shl .u32 4 (fm f : Int) = ((4 * 2 ^ fm f : Nat) : Int) ∧ shl .u32 2 (fm f : Int) = ((2 * 2 ^ fm f : Nat) : Int) ∧
  shl .u32 ((((shl .u32 1 (fe f : Int)) - 1) % 4294967296) / 2) (fm f : Int) = ((oneN f * 2 ^ fm f : Nat) : Int) := by
 rcases one_cases f with ⟨h1, h2, h3, _⟩ | ⟨h1, h2, h3, _⟩ | ⟨h1, h2, h3, _⟩ <;> rw [h1, h2, h3] <;> decide
theorem mild_range (f : Int) : 4 * 2 ^ fm f + oneN f * 2 ^ fm f < 2 ^ (fe f + fm f) ∧ 2 * 2 ^ fm f ≤ oneN f * 2 ^ fm f := by
 rcases one_cases f with ⟨h1, h2, h3, _⟩ | ⟨h1, h2, h3, _⟩ | ⟨h1, h2, h3, _⟩ <;> rw [h1, h2, h3] <;> decide
theorem mild_plain (O P a : Nat) (h : 2 * P ≤ O) (hO : O + 4 * P < 2147483648) (hP : 0 < P) : ((((O : Nat) : Int) - ((2 * P : Nat) : Int)) % 4294967296 + Int.tmod ((a : Int) / 8) ((4 * P : Nat) : Int)) % 4294967296 = ((O - 2 * P + a / 8 % (4 * P) : Nat) : Int) := by
 have e : Int.tmod ((a : Int) / 8) ((4 * P : Nat) : Int) = ((a / 8 % (4 * P) : Nat) : Int) := by
  rw [show (a : Int) / 8 = ((a / 8 : Nat) : Int) from rfl, Int.tmod_eq_emod_of_nonneg (Int.natCast_nonneg _)]; rfl
 have hm := Nat.mod_lt (a / 8) (show 4 * P > 0 by omega)
 rw [e]
 generalize a / 8 % (4 * P) = m at *
 omega
theorem or_sign (f : Int) (m : Nat) (h : m < 2 ^ (fe f + fm f)) : Go.bits .or .u32 (m : Int) (signN f true : Int) = ((m + signN f true : Nat) : Int) := by
 have hb := fbounds f
 have h31 := pow_le31 (show fe f + fm f ≤ 31 by omega)
 have hs : signN f true = 2 ^ (fe f + fm f) := rfl
 rw [or_u32 m _ (by omega) (by omega), Nat.or_comm, or_add _ _ (fe f + fm f) (by rw [hs, Nat.mod_self]) h, Nat.add_comm]
theorem mild_f (f : Int) (a : Nat) (ha : a < 4294967296) : ∃ m : Nat, ∃ neg : Bool, annealseat_Mild.f f (a : Int) = some ((m + signN f neg : Nat) : Int) ∧ (m = 0 ∧ neg = false ∨ (oneN f - 2) * 2 ^ fm f ≤ m ∧ m < (oneN f + 2) * 2 ^ fm f) := by
 unfold annealseat_Mild.f
 by_cases c : Int.tmod (a : Int) 7 = 0
 ·rw [if_pos c]
  exact ⟨0, false, rfl, .inl ⟨rfl, rfl⟩⟩
 ·rw [if_neg c, ref_widths_f, Option.bind_some]
  dsimp only
  obtain ⟨s1, s2, s3⟩ := mild_shl f
  obtain ⟨r1, r2⟩ := mild_range f
  have hb := fbounds f
  have h31 := pow_le31 (show fe f + fm f ≤ 31 by omega)
  have hp := Nat.two_pow_pos (fm f)
  rw [s1, s2, s3, if_pos (Int.natCast_nonneg _), if_pos (Int.natCast_nonneg _), if_neg (by omega), mild_plain _ _ _ r2 (by omega) hp]
  have hm := Nat.mod_lt (a / 8) (show 4 * 2 ^ fm f > 0 by omega)
  have h2 : (oneN f - 2) * 2 ^ fm f = oneN f * 2 ^ fm f - 2 * 2 ^ fm f := Nat.sub_mul _ _ _
  have h3 : (oneN f + 2) * 2 ^ fm f = oneN f * 2 ^ fm f + 2 * 2 ^ fm f := Nat.add_mul _ _ _
  generalize hM : oneN f * 2 ^ fm f - 2 * 2 ^ fm f + a / 8 % (4 * 2 ^ fm f) = m at *
  by_cases d : Go.bits .and .u32 (a : Int) 1 = 1
  ·rw [if_pos d, ref_zero_f, Option.bind_some, or_sign f m (by omega)]
   exact ⟨m, true, rfl, .inr ⟨by omega, by omega⟩⟩
  ·rw [if_neg d]
   exact ⟨m, false, rfl, .inr ⟨by omega, by omega⟩⟩
theorem mild_parts (f : Int) (m : Nat) (neg : Bool) (h1 : (oneN f - 2) * 2 ^ fm f ≤ m) (h2 : m < (oneN f + 2) * 2 ^ fm f) :
  negN f (m + signN f neg) = neg ∧ magN f (m + signN f neg) = m ∧ m + signN f neg < 2 ^ (fe f + fm f + 1) ∧ m + signN f neg < 4294967296 ∧ oneN f - 2 ≤ expN f (m + signN f neg) ∧ expN f (m + signN f neg) < oneN f + 2 ∧
  clsN f (m + signN f neg) = 2 ∧ wholeN f (m + signN f neg) = fracN f (m + signN f neg) + 2 ^ fm f ∧ m = expN f (m + signN f neg) * 2 ^ fm f + fracN f (m + signN f neg) := by
 obtain ⟨r1, r2⟩ := mild_range f
 have hb := fbounds f
 have h32 := pow_le32 (show fe f + fm f + 1 ≤ 32 by omega)
 have hp := Nat.two_pow_pos (fm f)
 have h3 : (oneN f + 2) * 2 ^ fm f = oneN f * 2 ^ fm f + 2 * 2 ^ fm f := Nat.add_mul _ _ _
 obtain ⟨p1, p2, p3⟩ := sign_parts f m neg (by omega)
 obtain ⟨q1, q2⟩ := mag_parts f (m + signN f neg)
 rw [p2] at q1 q2
 have e1 : oneN f - 2 ≤ m / 2 ^ fm f := (Nat.le_div_iff_mul_le hp).mpr h1
 have e2 : m / 2 ^ fm f < oneN f + 2 := (Nat.div_lt_iff_lt_mul hp).mpr h2
 have hd := Nat.div_add_mod m (2 ^ fm f)
 rw [q1, q2, Nat.mul_comm] at hd
 rw [q1] at e1 e2
 have hc : oneN f = 15 ∧ topN f = 31 ∨ oneN f = 127 ∧ topN f = 255 := by
  rcases one_cases f with ⟨_, _, h3, _, h4⟩ | ⟨_, _, h3, _, h4⟩ | ⟨_, _, h3, _, h4⟩ <;> omega
 refine ⟨p1, p2, p3, by omega, e1, e2, ?_, ?_, hd.symm⟩
 ·unfold clsN; rw [if_neg (by omega), if_pos (by omega)]
 ·unfold wholeN; rw [if_neg (by omega)]
/- Small whole numbers as numbers: plain numbers alone. -/

theorem pack_even (f mode : Int) (neg : Bool) (x : Int) (s j : Nat) : packN f mode neg x (s * 2 ^ j) false = packN f mode neg (x + j) s false ∧ excN f mode neg x (s * 2 ^ j) false = excN f mode neg (x + j) s false := by
 have hk := key_scale f mode neg x s j
 have hr := rise_scale f x s j
 have hu : unitN f x (s * 2 ^ j) = unitN f (x + j) s := by unfold unitN; rw [hr]
 have hl := (quo_scale s j (unitN f (x + j) s - x)).2
 rw [show unitN f (x + j) s - x - j = unitN f (x + j) s - (x + j) by omega] at hl
 have hi : inexN f x (s * 2 ^ j) false = inexN f (x + j) s false := by unfold inexN; rw [hu, hl]
 have hun : underN f x (s * 2 ^ j) false = underN f (x + j) s false := by
  unfold underN
  rw [hi]
  congr 1
  by_cases c : s = 0
  ·subst c; simp
  ·rw [decide_eq_false c, decide_eq_false (Nat.mul_ne_zero c (Nat.ne_of_gt (Nat.two_pow_pos j))), lenN_mul s j c]
   congr 1; apply decide_eq_decide.mpr; omega
 unfold packN excN
 rw [hk, hi, hun]; exact ⟨rfl, rfl⟩
/- Sums as whole numbers of many bits: plain numbers alone. -/

def wideN (n1 : Bool) (X : Nat) (n2 : Bool) (Y : Nat) : Bool × Nat := if n1 = n2 then (n1, X + Y) else if X < Y then (n2, Y - X) else (n1, X - Y)
theorem meet_add (f mode : Int) (n : Bool) (Ea Eb m : Int) (A B : Nat) (hm : m ≤ Eb) (h : Eb ≤ Ea) (a1 : 2305843009213693952 ≤ A) :
    (A * 2 ^ (Ea - m).toNat + B * 2 ^ (Eb - m).toNat ≠ 0) ∧ ¬ ((meetN n Ea A n Eb B).2.2 = (0, false)) ∧ (meetN n Ea A n Eb B).1 = n ∧
    packN f mode n (meetN n Ea A n Eb B).2.1 (meetN n Ea A n Eb B).2.2.1 (meetN n Ea A n Eb B).2.2.2 = packN f mode n m (A * 2 ^ (Ea - m).toNat + B * 2 ^ (Eb - m).toNat) false ∧
    excN f mode n (meetN n Ea A n Eb B).2.1 (meetN n Ea A n Eb B).2.2.1 (meetN n Ea A n Eb B).2.2.2 = excN f mode n m (A * 2 ^ (Ea - m).toNat + B * 2 ^ (Eb - m).toNat) false := by
  have hb := fbounds f
  have hp : 2 ^ (fm f + 1) ≤ 2 ^ 24 := Nat.pow_le_pow_right (by decide) (by omega)
  have hr : meetN n Ea A n Eb B = (n, Ea, A + B / 2 ^ (Ea - Eb).toNat, decide (B % 2 ^ (Ea - Eb).toNat ≠ 0)) := by unfold meetN; rw [if_pos rfl]
  have hs := pow_split m Eb Ea hm h
  rw [hr]
  dsimp only
  have hd : 0 < 2 ^ (Ea - Eb).toNat := Nat.two_pow_pos _
  have hu : 0 < 2 ^ (Eb - m).toNat := Nat.two_pow_pos _
  have hdm := Nat.div_add_mod B (2 ^ (Ea - Eb).toNat)
  have ht := Nat.mod_lt B hd
  obtain ⟨q, hq⟩ : ∃ q, B / 2 ^ (Ea - Eb).toNat = q := ⟨_, rfl⟩
  obtain ⟨t, htt⟩ : ∃ t, B % 2 ^ (Ea - Eb).toNat = t := ⟨_, rfl⟩
  rw [hq, htt] at hdm ⊢
  rw [htt] at ht
  have e : A * 2 ^ (Ea - m).toNat + B * 2 ^ (Eb - m).toNat = ((A + q) * 2 ^ (Ea - Eb).toNat + t) * 2 ^ (Eb - m).toNat := by
    rw [hs, ← Nat.mul_assoc, ← Nat.add_mul, Nat.add_mul A, Nat.add_assoc, Nat.mul_comm q, hdm]
  obtain ⟨p1, p2⟩ := pack_even f mode n m ((A + q) * 2 ^ (Ea - Eb).toNat + t) (Eb - m).toNat
  obtain ⟨q1, q2⟩ := pack_refine f mode n Eb (A + q) t (Ea - Eb).toNat false ht (by omega)
  rw [show m + ((Eb - m).toNat : Int) = Eb by omega] at p1 p2
  rw [show Eb + ((Ea - Eb).toNat : Int) = Ea by omega, Bool.false_or] at q1 q2
  refine ⟨?_, fun z => ?_, rfl, ?_, ?_⟩
  · have := Nat.mul_le_mul a1 (Nat.two_pow_pos (Ea - m).toNat); omega
  · have := (Prod.mk.inj z).1; omega
  · rw [e, p1, q1]
  · rw [e, p2, q2]
theorem meet_less (f mode : Int) (n n' : Bool) (hn : n ≠ n') (Ea Eb m : Int) (A B : Nat) (hm : m ≤ Eb) (h : Eb ≤ Ea) (_ : Ea = Eb → B ≤ A) (a1 : 2305843009213693952 ≤ A) (b2 : B < 4611686018427387904) (b4 : B % 4 = 0) :
    (A * 2 ^ (Ea - m).toNat - B * 2 ^ (Eb - m).toNat = 0 ↔ (meetN n Ea A n' Eb B).2.2 = (0, false)) ∧ (meetN n Ea A n' Eb B).1 = n ∧
    (A * 2 ^ (Ea - m).toNat - B * 2 ^ (Eb - m).toNat ≠ 0 → packN f mode n (meetN n Ea A n' Eb B).2.1 (meetN n Ea A n' Eb B).2.2.1 (meetN n Ea A n' Eb B).2.2.2 = packN f mode n m (A * 2 ^ (Ea - m).toNat - B * 2 ^ (Eb - m).toNat) false ∧
    excN f mode n (meetN n Ea A n' Eb B).2.1 (meetN n Ea A n' Eb B).2.2.1 (meetN n Ea A n' Eb B).2.2.2 = excN f mode n m (A * 2 ^ (Ea - m).toNat - B * 2 ^ (Eb - m).toNat) false) := by
  have hb := fbounds f
  have hp : 2 ^ (fm f + 1) ≤ 2 ^ 24 := Nat.pow_le_pow_right (by decide) (by omega)
  have hr : meetN n Ea A n' Eb B = (n, Ea, A - B / 2 ^ (Ea - Eb).toNat - (if B % 2 ^ (Ea - Eb).toNat ≠ 0 then 1 else 0), decide (B % 2 ^ (Ea - Eb).toNat ≠ 0)) := by unfold meetN; rw [if_neg hn]
  have hs := pow_split m Eb Ea hm h
  rw [hr]
  dsimp only
  have hd : 0 < 2 ^ (Ea - Eb).toNat := Nat.two_pow_pos _
  have hu : 0 < 2 ^ (Eb - m).toNat := Nat.two_pow_pos _
  have hdm := Nat.div_add_mod B (2 ^ (Ea - Eb).toNat)
  have ht := Nat.mod_lt B hd
  have hX : A * 2 ^ (Ea - m).toNat - B * 2 ^ (Eb - m).toNat = (A * 2 ^ (Ea - Eb).toNat - B) * 2 ^ (Eb - m).toNat := by rw [hs, ← Nat.mul_assoc, ← Nat.sub_mul]
  by_cases t0 : B % 2 ^ (Ea - Eb).toNat = 0
  · rw [if_neg (show ¬ (B % 2 ^ (Ea - Eb).toNat ≠ 0) by omega), decide_eq_false (show ¬ (B % 2 ^ (Ea - Eb).toNat ≠ 0) by omega), Nat.sub_zero]
    have e : A * 2 ^ (Ea - m).toNat - B * 2 ^ (Eb - m).toNat = (A - B / 2 ^ (Ea - Eb).toNat) * 2 ^ (Ea - m).toNat := by
      rw [hX, hs, ← Nat.mul_assoc, Nat.sub_mul A]
      congr 2
      rw [t0, Nat.add_zero, Nat.mul_comm] at hdm
      exact hdm.symm
    obtain ⟨p1, p2⟩ := pack_even f mode n m (A - B / 2 ^ (Ea - Eb).toNat) (Ea - m).toNat
    rw [show m + ((Ea - m).toNat : Int) = Ea by omega] at p1 p2
    rw [e]
    have hw : 0 < 2 ^ (Ea - m).toNat := Nat.two_pow_pos _
    refine ⟨⟨fun z => ?_, fun z => ?_⟩, rfl, fun _ => ⟨p1.symm, p2.symm⟩⟩
    · rcases Nat.mul_eq_zero.mp z with z | z
      · rw [z]
      · omega
    · rw [(Prod.mk.inj z).1, Nat.zero_mul]
  · rw [if_pos t0, decide_eq_true (show B % 2 ^ (Ea - Eb).toNat ≠ 0 from t0)]
    have h3 : 3 ≤ (Ea - Eb).toNat := by
      rcases Nat.lt_or_ge (Ea - Eb).toNat 3 with c | c
      · exfalso
        have : (Ea - Eb).toNat = 0 ∨ (Ea - Eb).toNat = 1 ∨ (Ea - Eb).toNat = 2 := by omega
        rcases this with c | c | c <;> rw [c] at t0 <;> simp at t0 <;> omega
      · exact c
    have h8 : 2 ^ 3 ≤ 2 ^ (Ea - Eb).toNat := Nat.pow_le_pow_right (by decide) h3
    have hq : B / 2 ^ (Ea - Eb).toNat ≤ B / 2 ^ 3 := Nat.div_le_div_left h8 (by decide)
    have e : A * 2 ^ (Ea - m).toNat - B * 2 ^ (Eb - m).toNat = ((A - B / 2 ^ (Ea - Eb).toNat - 1) * 2 ^ (Ea - Eb).toNat + (2 ^ (Ea - Eb).toNat - B % 2 ^ (Ea - Eb).toNat)) * 2 ^ (Eb - m).toNat := by
      rw [hX]
      congr 1
      generalize 2 ^ (Ea - Eb).toNat = D at *
      generalize hqq : B / D = q at *
      generalize B % D = t at *
      have h1 : (A - q - 1) * D + D = (A - q) * D := by
        rw [← Nat.succ_mul]; congr 1; omega
      have h2 : (A - q) * D = A * D - D * q := by rw [Nat.sub_mul, Nat.mul_comm q]
      have h4 : D * q + D ≤ A * D := by
        rw [← Nat.mul_succ, Nat.mul_comm A]; exact Nat.mul_le_mul_left _ (by omega)
      omega
    have hqb : B / 2 ^ (Ea - Eb).toNat ≤ 576460752303423488 := by omega
    obtain ⟨p1, p2⟩ := pack_even f mode n m ((A - B / 2 ^ (Ea - Eb).toNat - 1) * 2 ^ (Ea - Eb).toNat + (2 ^ (Ea - Eb).toNat - B % 2 ^ (Ea - Eb).toNat)) (Eb - m).toNat
    obtain ⟨q1, q2⟩ := pack_refine f mode n Eb (A - B / 2 ^ (Ea - Eb).toNat - 1) (2 ^ (Ea - Eb).toNat - B % 2 ^ (Ea - Eb).toNat) (Ea - Eb).toNat false (by omega) (by omega)
    rw [show m + ((Eb - m).toNat : Int) = Eb by omega] at p1 p2
    rw [show Eb + ((Ea - Eb).toNat : Int) = Ea by omega, Bool.false_or, decide_eq_true (show 2 ^ (Ea - Eb).toNat - B % 2 ^ (Ea - Eb).toNat ≠ 0 by omega)] at q1 q2
    rw [e]
    refine ⟨⟨fun z => ?_, fun z => ?_⟩, rfl, fun _ => ⟨by rw [p1, q1], by rw [p2, q2]⟩⟩
    · exfalso
      rcases Nat.mul_eq_zero.mp z with z | z <;> omega
    · have := (Prod.mk.inj z).2; cases this
theorem exact_wide (f mode : Int) (n1 : Bool) (e1 : Int) (s1 : Nat) (n2 : Bool) (e2 : Int) (s2 : Nat) (l1 : -298 ≤ e1) (l2 : -298 ≤ e2) (h1 : s1 < 1152921504606846976) (h2 : s2 < 1152921504606846976) :
    roundedN f mode n1 n2 (exactN n1 e1 s1 n2 e2 s2) = (if (wideN n1 (s1 * 2 ^ (e1 + 298).toNat) n2 (s2 * 2 ^ (e2 + 298).toNat)).2 = 0 then noughtN f mode n1 n2 else packN f mode (wideN n1 (s1 * 2 ^ (e1 + 298).toNat) n2 (s2 * 2 ^ (e2 + 298).toNat)).1 (-298) (wideN n1 (s1 * 2 ^ (e1 + 298).toNat) n2 (s2 * 2 ^ (e2 + 298).toNat)).2 false) ∧
    roundedX f mode (exactN n1 e1 s1 n2 e2 s2) = (if (wideN n1 (s1 * 2 ^ (e1 + 298).toNat) n2 (s2 * 2 ^ (e2 + 298).toNat)).2 = 0 then (false, false, false) else excN f mode (wideN n1 (s1 * 2 ^ (e1 + 298).toNat) n2 (s2 * 2 ^ (e2 + 298).toNat)).1 (-298) (wideN n1 (s1 * 2 ^ (e1 + 298).toNat) n2 (s2 * 2 ^ (e2 + 298).toNat)).2 false) := by
  have one : ∀ (n : Bool) (e : Int) (s : Nat), -298 ≤ e → packN f mode n (-298) (s * 2 ^ (e + 298).toNat) false = packN f mode n e s false ∧ excN f mode n (-298) (s * 2 ^ (e + 298).toNat) false = excN f mode n e s false := fun n e s h => by
    have := pack_even f mode n (-298) s (e + 298).toNat
    rwa [show (-298 : Int) + ((e + 298).toNat : Int) = e by omega] at this
  have pos : ∀ (e : Int) (s : Nat), s ≠ 0 → s * 2 ^ (e + 298).toNat ≠ 0 := fun e s h => Nat.mul_ne_zero h (by have := Nat.two_pow_pos (e + 298).toNat; omega)
  unfold exactN roundedN roundedX
  by_cases z1 : s1 = 0
  · subst z1
    rw [if_pos rfl, Nat.zero_mul]
    by_cases z2 : s2 = 0
    · subst z2
      have hw : (wideN n1 0 n2 (0 * 2 ^ (e2 + 298).toNat)).2 = 0 := by unfold wideN; rw [Nat.zero_mul]; split <;> rfl
      rw [if_pos rfl, if_pos hw, if_pos rfl, if_pos hw]; exact ⟨rfl, rfl⟩
    · have hw : wideN n1 0 n2 (s2 * 2 ^ (e2 + 298).toNat) = (n2, s2 * 2 ^ (e2 + 298).toNat) := by
        unfold wideN
        by_cases n : n1 = n2
        · rw [if_pos n, n, Nat.zero_add]
        · rw [if_neg n, if_pos (Nat.pos_of_ne_zero (pos e2 s2 z2)), Nat.sub_zero]
      have hne : ¬ (s2, false) = (0, false) := fun e => z2 (Prod.mk.inj e).1
      rw [hw, if_neg hne, if_neg hne, if_neg (pos e2 s2 z2), if_neg (pos e2 s2 z2)]
      exact ⟨(one n2 e2 s2 l2).1.symm, (one n2 e2 s2 l2).2.symm⟩
  · rw [if_neg z1]
    by_cases z2 : s2 = 0
    · subst z2
      have hw : wideN n1 (s1 * 2 ^ (e1 + 298).toNat) n2 (0 * 2 ^ (e2 + 298).toNat) = (n1, s1 * 2 ^ (e1 + 298).toNat) := by
        unfold wideN
        rw [Nat.zero_mul]
        by_cases n : n1 = n2
        · rw [if_pos n, Nat.add_zero]
        · rw [if_neg n, if_neg (Nat.not_lt_zero _), Nat.sub_zero]
      have hne : ¬ (s1, false) = (0, false) := fun e => z1 (Prod.mk.inj e).1
      rw [if_pos rfl, hw, if_neg hne, if_neg hne, if_neg (pos e1 s1 z1), if_neg (pos e1 s1 z1)]
      exact ⟨(one n1 e1 s1 l1).1.symm, (one n1 e1 s1 l1).2.symm⟩
    · rw [if_neg z2]
      obtain ⟨a1, a2, a3, a4⟩ := gap_bounds s1 z1 (by omega)
      obtain ⟨b1, b2, b3, b4⟩ := gap_bounds s2 z2 (by omega)
      have k1 := lenN_bound s1 60 h1
      have k2 := lenN_bound s2 60 h2
      have m1 : s1 * 2 ^ gapN s1 % 4 = 0 := by
        rw [show gapN s1 = (gapN s1 - 2) + 2 by omega, Nat.pow_add, ← Nat.mul_assoc]; exact Nat.mul_mod_left _ _
      have m2 : s2 * 2 ^ gapN s2 % 4 = 0 := by
        rw [show gapN s2 = (gapN s2 - 2) + 2 by omega, Nat.pow_add, ← Nat.mul_assoc]; exact Nat.mul_mod_left _ _
      have up1 : s1 * 2 ^ gapN s1 * 2 ^ (e1 - (gapN s1 : Int) - (-400)).toNat = s1 * 2 ^ (e1 + 298).toNat * 2 ^ 102 := by
        rw [Nat.mul_assoc, ← Nat.pow_add, Nat.mul_assoc, ← Nat.pow_add]; congr 2; omega
      have up2 : s2 * 2 ^ gapN s2 * 2 ^ (e2 - (gapN s2 : Int) - (-400)).toNat = s2 * 2 ^ (e2 + 298).toNat * 2 ^ 102 := by
        rw [Nat.mul_assoc, ← Nat.pow_add, Nat.mul_assoc, ← Nat.pow_add]; congr 2; omega
      have E1 : -400 ≤ e1 - (gapN s1 : Int) := by omega
      have E2 : -400 ≤ e2 - (gapN s2 : Int) := by omega
      have down : ∀ (n : Bool) (W : Nat), packN f mode n (-400) (W * 2 ^ 102) false = packN f mode n (-298) W false ∧ excN f mode n (-400) (W * 2 ^ 102) false = excN f mode n (-298) W false := fun n W => pack_even f mode n (-400) W 102
      clear one k1 k2 a1 a2 b1 b2
      have X0 := pos e1 s1 z1
      have Y0 := pos e2 s2 z2
      generalize s1 * 2 ^ (e1 + 298).toNat = X at *
      generalize s2 * 2 ^ (e2 + 298).toNat = Y at *
      generalize e1 - (gapN s1 : Int) = F at *
      generalize e2 - (gapN s2 : Int) = G at *
      generalize s1 * 2 ^ gapN s1 = A at *
      generalize s2 * 2 ^ gapN s2 = B at *
      have p102 : 0 < 2 ^ 102 := Nat.two_pow_pos _
      -- two that stand in their order
      have main : ∀ (n n' : Bool) (F G : Int) (A B X Y : Nat), G ≤ F → (F = G → B ≤ A) → -400 ≤ G → 2305843009213693952 ≤ A → B < 4611686018427387904 → B % 4 = 0 → A * 2 ^ (F - (-400)).toNat = X * 2 ^ 102 → B * 2 ^ (G - (-400)).toNat = Y * 2 ^ 102 → X ≠ 0 →
          ∀ (w : Bool × Nat), w = (if n = n' then (n, X + Y) else (n, X - Y)) → ∀ (a b : Bool),
          (if (meetN n F A n' G B).2.2 = (0, false) then noughtN f mode a b else packN f mode (meetN n F A n' G B).1 (meetN n F A n' G B).2.1 (meetN n F A n' G B).2.2.1 (meetN n F A n' G B).2.2.2) = (if w.2 = 0 then noughtN f mode a b else packN f mode w.1 (-298) w.2 false) ∧
          (if (meetN n F A n' G B).2.2 = (0, false) then (false, false, false) else excN f mode (meetN n F A n' G B).1 (meetN n F A n' G B).2.1 (meetN n F A n' G B).2.2.1 (meetN n F A n' G B).2.2.2) = (if w.2 = 0 then (false, false, false) else excN f mode w.1 (-298) w.2 false) := by
        intro n n' F G A B X Y hGF h0 hG hA hB hB4 hX hY hX0 w hw a b
        by_cases c : n = n'
        · subst c
          rw [if_pos rfl] at hw
          subst hw
          obtain ⟨r1, r2, r3, r4, r5⟩ := meet_add f mode n F G (-400) A B hG hGF hA
          rw [hX, hY, ← Nat.add_mul] at r4 r5
          rw [(down n (X + Y)).1] at r4
          rw [(down n (X + Y)).2] at r5
          rw [if_neg r2, if_neg r2, r3, r4, r5]
          dsimp only
          rw [if_neg (show ¬ X + Y = 0 by omega), if_neg (show ¬ X + Y = 0 by omega)]
          exact ⟨rfl, rfl⟩
        · rw [if_neg c] at hw
          subst hw
          obtain ⟨r1, r2, r3⟩ := meet_less f mode n n' c F G (-400) A B hG hGF h0 hA hB hB4
          rw [hX, hY, ← Nat.sub_mul] at r1 r3
          dsimp only
          by_cases z : X - Y = 0
          · rw [if_pos (r1.mp (by rw [z, Nat.zero_mul])), if_pos (r1.mp (by rw [z, Nat.zero_mul])), if_pos z, if_pos z]
            exact ⟨rfl, rfl⟩
          · have z' : (X - Y) * 2 ^ 102 ≠ 0 := Nat.mul_ne_zero z (by omega)
            obtain ⟨r4, r5⟩ := r3 z'
            rw [(down n (X - Y)).1] at r4
            rw [(down n (X - Y)).2] at r5
            rw [if_neg (fun e => z' (r1.mpr e)), if_neg (fun e => z' (r1.mpr e)), if_neg z, if_neg z, r2, r4, r5]
            exact ⟨rfl, rfl⟩
      have ord : ∀ (F G : Int) (A B X Y : Nat), 2305843009213693952 ≤ B → A < 4611686018427387904 → -400 ≤ F → A * 2 ^ (F - (-400)).toNat = X * 2 ^ 102 → B * 2 ^ (G - (-400)).toNat = Y * 2 ^ 102 → (F < G ∨ F = G ∧ A < B) → X < Y := by
        intro F G A B X Y hB hA hF hX hY c
        refine Nat.lt_of_mul_lt_mul_right (a := 2 ^ 102) ?_
        rw [← hX, ← hY]
        rcases c with c | ⟨rfl, c⟩
        · have hs : 2 ^ (G - (-400)).toNat = 2 ^ (G - F).toNat * 2 ^ (F - (-400)).toNat := pow_split (-400) F G hF (by omega)
          have h2 : 2 ^ 1 ≤ 2 ^ (G - F).toNat := Nat.pow_le_pow_right (by decide) (by omega)
          rw [hs, ← Nat.mul_assoc]
          refine Nat.mul_lt_mul_of_pos_right ?_ (Nat.two_pow_pos _)
          have := Nat.mul_le_mul hB h2
          omega
        · exact Nat.mul_lt_mul_of_pos_right c (Nat.two_pow_pos _)
      by_cases c : F < G ∨ F = G ∧ A < B
      · rw [if_pos c]
        have hlt := ord F G A B X Y b3 a4 E1 up1 up2 c
        have hw : wideN n1 X n2 Y = (if n2 = n1 then (n2, Y + X) else (n2, Y - X)) := by
          unfold wideN
          by_cases n : n1 = n2
          · rw [if_pos n, if_pos n.symm, n, Nat.add_comm]
          · rw [if_neg n, if_pos hlt, if_neg (show ¬ n2 = n1 from fun e => n e.symm)]
        exact main n2 n1 G F B A Y X (by omega) (by omega) E1 b3 a4 m1 up2 up1 Y0 _ hw n1 n2
      · rw [if_neg c]
        have hle : ¬ X < Y := by
          intro hlt
          by_cases c' : G < F ∨ G = F ∧ B < A
          · have := ord G F B A Y X a3 b4 E2 up2 up1 c'; omega
          · obtain rfl : F = G := by omega
            obtain rfl : A = B := by omega
            have h5 := up1.symm.trans up2
            have := Nat.eq_of_mul_eq_mul_right p102 h5
            omega
        have hw : wideN n1 X n2 Y = (if n1 = n2 then (n1, X + Y) else (n1, X - Y)) := by
          unfold wideN
          by_cases n : n1 = n2
          · rw [if_pos n, if_pos n]
          · rw [if_neg n, if_neg n, if_neg hle]
        exact main n1 n2 F G A B X Y (by omega) (by omega) E2 a3 b4 m2 up1 up2 X0 _ hw n1 n2
end Go.Proofs.Ytejkemahdincjaa.Round

/- The reference's loops of layer 1: how many bits, shifts. -/
namespace Go.Proofs.Ytejkemahdincjaa.BitsF
open Go.RowKit Go.Proofs.Ytejkemahdincjaa.P Go.Proofs.Ytejkemahdincjaa.Num Go.Proofs.YtejkemahdincjaaW.PrintWords Go.Proofs.YtejkemahdincjaaW.PrintLast Go.Proofs.YtejkemahdincjaaW.PrintMore

theorem ref_len_l0 (j : Nat) : ∀ v c k : Nat, v < 2 ^ j → c + j ≤ 64 → annealref1_Len.l0 (j + 1 + k) (v : Int) (c : Int) = some ((c + lenN v : Nat) : Int) := by
 induction j with
 |zero =>
  intro v c k h _
  obtain rfl : v = 0 := by rw [Nat.pow_zero] at h; omega
  rw [show 0 + 1 + k = k + 1 by omega, annealref1_Len.l0, if_neg (by decide)]; rfl
 |succ j ih =>
  intro v c k h hc
  rw [show j + 1 + 1 + k = (j + 1 + k) + 1 by omega, annealref1_Len.l0]
  by_cases hv : v = 0
  ·subst hv; rw [if_neg (by decide)]; rfl
  ·rw [if_pos (by omega), show (v : Int) / 2 = ((v / 2 : Nat) : Int) by omega, w64_id _ (by omega) (by omega), show (c : Int) + 1 = ((c + 1 : Nat) : Int) by omega, ih _ _ k (by rw [Nat.pow_succ] at h; omega) (by omega), lenN_half v hv]
   congr 2; omega
theorem ref_len_ev (v : Nat) (hv : v < 18446744073709551616) : Ev (fun k => annealref1_Len.f k (v : Int)) (lenN v : Int) :=
 Ev.of (annealref1_Len.mono _) (k := 65) (by
  have h := ref_len_l0 64 v 0 0 (by omega) (by decide)
  rw [Nat.zero_add, show 64 + 1 + 0 = 65 from rfl] at h
  unfold annealref1_Len.f
  exact h)
theorem half_pow (v j : Nat) : v / 2 / 2 ^ j = v / 2 ^ (j + 1) := by rw [Nat.div_div_eq_div_mul, Nat.pow_succ, Nat.mul_comm 2]
theorem out_right (v j : Nat) : (decide (v % 2 ≠ 0) || decide (v / 2 % 2 ^ j ≠ 0)) = decide (v % 2 ^ (j + 1) ≠ 0) := by
 have e : v % 2 ^ (j + 1) = v % 2 + 2 * (v / 2 % 2 ^ j) := by rw [Nat.pow_succ, Nat.mul_comm, Nat.mod_mul]
 rw [← Bool.decide_or]
 congr 1; apply propext
 have hz : ∀ z : Nat, v / 2 % 2 ^ j = z → (v % 2 ≠ 0 ∨ z ≠ 0 ↔ v % 2 + 2 * z ≠ 0) := by intro z _; omega
 rw [e]; exact hz _ rfl
theorem ref_shift_l1 (j : Nat) : ∀ (v k : Nat) (b : Bool), v < 18446744073709551616 → j ≤ 64 →
  annealref1_Shift.l1 (j + 1 + k) (v : Int) (-(j : Int)) b = some (((v * 2 ^ j % 18446744073709551616 : Nat) : Int), b || decide (18446744073709551616 ≤ v * 2 ^ j)) := by
 induction j with
 |zero =>
  intro v k b hv _
  rw [show 0 + 1 + k = k + 1 by omega, annealref1_Shift.l1, if_neg (by decide), Nat.pow_zero, Nat.mul_one, Nat.mod_eq_of_lt hv, decide_eq_false (by omega), Bool.or_false]
 |succ j ih =>
  intro v k b hv hj
  have e1 : wrap64 (-((j + 1 : Nat) : Int) + 1) = -(j : Int) := by rw [w64_id] <;> omega
  have e2 : IntKind.u64.wrap ((v : Int) * 2) = ((v * 2 % 18446744073709551616 : Nat) : Int) := by rw [show (v : Int) * 2 = ((v * 2 : Nat) : Int) by omega, u64_nat]
  have e3 : (((v : Int) / 9223372036854775808 == 1) : Bool) = decide (9223372036854775808 ≤ v) := by
   by_cases h : 9223372036854775808 ≤ v
   ·rw [decide_eq_true h, beq_iff_eq]; omega
   ·rw [decide_eq_false h, beq_eq_false_iff_ne]; omega
  have e4 : v * 2 % 18446744073709551616 * 2 ^ j % 18446744073709551616 = v * 2 ^ (j + 1) % 18446744073709551616 := by
   rw [Nat.mod_mul_mod, Nat.mul_assoc, ← Nat.pow_succ']
  have e5 : ∀ b : Bool, ((b || decide (9223372036854775808 ≤ v)) || decide (18446744073709551616 ≤ v * 2 % 18446744073709551616 * 2 ^ j)) = (b || decide (18446744073709551616 ≤ v * 2 ^ (j + 1))) := by
   intro b
   rw [Bool.or_assoc, ← Bool.decide_or]
   congr 2
   apply propext
   rw [show v * 2 ^ (j + 1) = v * 2 * 2 ^ j by rw [Nat.mul_assoc, ← Nat.pow_succ']]
   have hp := Nat.two_pow_pos j
   constructor
   ·rintro (h | h)
    ·calc 18446744073709551616 ≤ v * 2 * 1 := by omega
      _ ≤ v * 2 * 2 ^ j := Nat.mul_le_mul_left _ hp
    ·exact Nat.le_trans h (Nat.mul_le_mul_right _ (Nat.mod_le _ _))
   ·intro h
    by_cases h' : 9223372036854775808 ≤ v
    ·exact .inl h'
    ·right; rw [Nat.mod_eq_of_lt (by omega)]; exact h
  rw [show j + 1 + 1 + k = (j + 1 + k) + 1 by omega, annealref1_Shift.l1, if_pos (by omega), e1, e2, e3]
  by_cases hb : b = true
  ·subst hb
   rw [if_pos rfl, ih _ k true (Nat.mod_lt _ (by decide)) (by omega), e4]
   simp only [Bool.true_or]
  ·rw [if_neg hb, ih _ k _ (Nat.mod_lt _ (by decide)) (by omega), e4]
   have : b = false := by simpa using hb
   subst this
   have := e5 false
   simp only [Bool.false_or] at this ⊢
   rw [this]
theorem ref_shift_l0 (j : Nat) : ∀ (v k : Nat) (b : Bool), v < 18446744073709551616 → j ≤ 64 →
  annealref1_Shift.l0 (j + 2 + k) (v : Int) (j : Int) b = some (((v / 2 ^ j : Nat) : Int), b || decide (v % 2 ^ j ≠ 0)) := by
 induction j with
 |zero =>
  intro v k b hv _
  have h := ref_shift_l1 0 v k b hv (by decide)
  rw [show 0 + 2 + k = (0 + 1 + k) + 1 by omega, annealref1_Shift.l0, if_neg (by decide), show ((0 : Nat) : Int) = -((0 : Nat) : Int) by rfl, h]
  simp [Nat.mod_one]; omega
 |succ j ih =>
  intro v k b hv hj
  have e1 : wrap64 (((j + 1 : Nat) : Int) - 1) = (j : Int) := by rw [w64_id] <;> omega
  have e3 : ((Go.bits .and .u64 (v : Int) 1 == 1) : Bool) = decide (v % 2 ≠ 0) := by
   rw [and1_u64 v hv]
   by_cases h : v % 2 ≠ 0
   ·rw [decide_eq_true h, beq_iff_eq]; omega
   ·rw [decide_eq_false h, beq_eq_false_iff_ne]; omega
  rw [show j + 1 + 2 + k = (j + 2 + k) + 1 by omega, annealref1_Shift.l0, if_pos (by omega), e1, e3, show (v : Int) / 2 = ((v / 2 : Nat) : Int) by omega]
  have o := out_right v j
  by_cases hb : b = true
  ·subst hb
   rw [if_pos rfl, ih _ k true (by omega) (by omega), half_pow]
   simp only [Bool.true_or]
  ·rw [if_neg hb, ih _ k _ (by omega) (by omega), half_pow, o]
   have : b = false := by simpa using hb
   subst this
   rfl
theorem ref_shift_ev (v : Nat) (hv : v < 18446744073709551616) (n : Int) :
  Ev (fun k => annealref1_Shift.f k (v : Int) n) ((((shiftN v n).1 : Nat) : Int), (shiftN v n).2) := by
 refine Ev.of (annealref1_Shift.mono _ _) (k := 67) ?_
 unfold annealref1_Shift.f
 by_cases c : 0 ≤ n
 ·obtain ⟨m, rfl⟩ := nat_of c
  have e : mn (mx (m : Int) (-64)) 64 = ((min m 64 : Nat) : Int) := by unfold mn mx; split <;> split <;> omega
  have h := ref_shift_l0 (min m 64) v (65 - min m 64) false hv (by omega)
  rw [show min m 64 + 2 + (65 - min m 64) = 67 by omega] at h
  rw [e, h, shiftN_right]
  by_cases c' : m ≤ 64
  ·rw [Nat.min_eq_left c']; rfl
  ·have b1 := pow_big (show 64 ≤ m by omega)
   rw [Nat.min_eq_right (by omega), Nat.div_eq_of_lt (show v < 2 ^ 64 by omega), Nat.mod_eq_of_lt (show v < 2 ^ 64 by omega), Nat.div_eq_of_lt (show v < 2 ^ m by omega), Nat.mod_eq_of_lt (show v < 2 ^ m by omega)]; rfl
 ·obtain ⟨m, hm⟩ := nat_of (show 0 ≤ -n by omega)
  obtain rfl : n = -(m : Int) := by omega
  have e : mn (mx (-(m : Int)) (-64)) 64 = -((min m 64 : Nat) : Int) := by unfold mn mx; split <;> split <;> omega
  have h := ref_shift_l1 (min m 64) v (65 - min m 64) false hv (by omega)
  rw [show min m 64 + 1 + (65 - min m 64) = 66 by omega] at h
  rw [e, annealref1_Shift.l0, if_neg (by omega), h, shiftN_left _ _ hv]
  by_cases c' : m ≤ 64
  ·rw [Nat.min_eq_left c']; rfl
  ·rw [Nat.min_eq_right (by omega)]
   have b1 := pow_big (show 64 ≤ m by omega)
   have e : (2 : Nat) ^ m = 18446744073709551616 * 2 ^ (m - 64) := by rw [show 18446744073709551616 = 2 ^ 64 from rfl, ← Nat.pow_add]; congr 1; omega
   have e1 : v * 2 ^ m % 18446744073709551616 = 0 := by rw [e, ← Nat.mul_assoc, Nat.mul_comm v, Nat.mul_assoc, Nat.mul_mod_right]
   rw [e1, show v * 2 ^ 64 % 18446744073709551616 = 0 by omega, Bool.false_or]
   congr 2
   apply decide_eq_decide.mpr
   constructor
   ·intro h1
    have : v ≠ 0 := by intro h0; subst h0; omega
    exact Nat.le_trans b1 (Nat.le_mul_of_pos_left _ (by omega))
   ·intro h1
    have : v ≠ 0 := by intro h0; subst h0; omega
    omega
end Go.Proofs.Ytejkemahdincjaa.BitsF

/- What the reference's rounding computes: the same plain numbers. -/
namespace Go.Proofs.Ytejkemahdincjaa.Round
open Go.RowKit Go.Proofs.Ytejkemahdincjaa.P Go.Proofs.Ytejkemahdincjaa.Num Go.Proofs.Ytejkemahdincjaa.BitsF Go.Proofs.Ytejkemahdincjaa.Fmt Go.Proofs.YtejkemahdincjaaW.PrintWords Go.Proofs.YtejkemahdincjaaW.PrintLast Go.Proofs.YtejkemahdincjaaW.PrintMore

theorem ref_greatest_f (f : Int) (neg : Bool) : annealref1_Greatest.f f neg = some (greatN f neg : Int) := by
 unfold annealref1_Greatest.f greatN
 obtain ⟨hi, _⟩ := inf_lt f neg
 have ht := top_cases f
 have hp := Nat.two_pow_pos (fm f)
 have : 0 < topN f * 2 ^ fm f := Nat.mul_pos (by omega) hp
 rw [ref_inf_f]; simp only [Option.bind_some]
 unfold infN at *
 congr 1; omega
theorem ref_divide_f (s : Nat) (hs : s < 18446744073709551616) (d : Int) (h1 : -100000 ≤ d) (h2 : d ≤ 100000) (hq : d ≤ 0 → s * 2 ^ (-d).toNat < 18446744073709551616) :
  Ev (fun k => annealref1_divide.f k (s : Int) d) ((quoN s d : Int), decide (2 ≤ leftN s d false), decide (leftN s d false = 1 ∨ leftN s d false = 3)) := by
 unfold annealref1_divide.f
 by_cases c : d ≤ 0
 ·obtain ⟨m, hm⟩ := nat_of (show 0 ≤ -d by omega)
  have e : mn (wrap64 (-d)) 63 = ((min m 63 : Nat) : Int) := by rw [w64_id _ (by omega) (by omega), hm]; unfold mn; split <;> omega
  simp only [if_pos c, e, if_pos (show 0 ≤ ((min m 63 : Nat) : Int) by omega), left_none false (.inl c)]
  have hq' := hq c
  rw [hm, Int.toNat_natCast] at hq'
  have e2 : IntKind.u64.wrap ((s : Int) * 2 ^ ((min m 63 : Nat) : Int).toNat) = (quoN s d : Int) := by
   rw [Int.toNat_natCast, show (s : Int) * 2 ^ (min m 63) = ((s * 2 ^ (min m 63) : Nat) : Int) by simp, u64_nat]
   unfold quoN; rw [if_pos c, hm, Int.toNat_natCast]
   by_cases z : s = 0
   ·subst z; simp
   ·have : m ≤ 63 := by
     rcases Nat.lt_or_ge 63 m with h | h
     ·have := pow_big (show 64 ≤ m by omega)
      have : 2 ^ m ≤ s * 2 ^ m := Nat.le_mul_of_pos_left _ (by omega)
      omega
     ·exact h
    rw [Nat.min_eq_left this, Nat.mod_eq_of_lt hq']
  rw [e2]
  exact Ev.now _
 ·obtain ⟨m, rfl⟩ := nat_of (show 0 ≤ d by omega)
  have hqe : quoN s (m : Int) = s / 2 ^ m := by unfold quoN; rw [if_neg c, Int.toNat_natCast]
  rw [hqe]
  simp only [if_neg c]
  by_cases c' : (m : Int) > 64
  ·simp only [if_pos c']
   have hb := pow_big (show 64 ≤ m - 1 by omega)
   have hb2 := pow_big (show 64 ≤ m by omega)
   have hl : leftN s (m : Int) false = if s = 0 then 0 else 1 := by
    by_cases z : s = 0
    ·subst z; rw [left_none _ (.inr (by simp))]; rfl
    ·rw [left_some _ c (by rw [Int.toNat_natCast, Nat.mod_eq_of_lt (by omega)]; exact z), Int.toNat_natCast, Nat.div_eq_of_lt (show s < 2 ^ (m - 1) by omega), if_neg z]; rfl
   rw [Nat.div_eq_of_lt (show s < 2 ^ m by omega), hl, show (0 : Int) = ((0 : Nat) : Int) from rfl, bne_cast]
   by_cases z : s = 0
   ·subst z; exact Ev.now _
   ·rw [if_neg z, decide_eq_true z]; exact Ev.now _
  ·have e : wrap64 ((m : Int) - 1) = ((m - 1 : Nat) : Int) := by rw [w64_id] <;> omega
   simp only [if_neg c', e]
   have hd : s / 2 ^ (m - 1) < 18446744073709551616 := Nat.lt_of_le_of_lt (Nat.div_le_self _ _) hs
   have s1 := ref_shift_ev s hs (m : Int)
   have s2 := ref_shift_ev s hs ((m - 1 : Nat) : Int)
   rw [shiftN_right] at s1 s2
   refine Ev.bind s1 (Ev.bind s2 (Ev.bind s2 ?_))
   rw [and1_u64 _ hd]
   have em : s % 2 ^ m = s % 2 ^ (m - 1) + 2 ^ (m - 1) * (s / 2 ^ (m - 1) % 2) := by
    rw [show m = m - 1 + 1 by omega, Nat.pow_succ, Nat.mod_mul, Nat.add_sub_cancel]
   have hb1 : (((s / 2 ^ (m - 1) % 2 : Nat) : Int) == 1) = decide (2 ≤ leftN s (m : Int) false) ∧ decide (s % 2 ^ (m - 1) ≠ 0) = decide (leftN s (m : Int) false = 1 ∨ leftN s (m : Int) false = 3) := by
    have hp := Nat.two_pow_pos (m - 1)
    by_cases z : s % 2 ^ m = 0
    ·rw [left_none _ (.inr (by rw [Int.toNat_natCast]; exact z))]
     rw [z] at em
     have z1 : s % 2 ^ (m - 1) = 0 := by omega
     have z2 : s / 2 ^ (m - 1) % 2 = 0 := by
      have : 2 ^ (m - 1) * (s / 2 ^ (m - 1) % 2) = 0 := by omega
      rcases Nat.mul_eq_zero.mp this with h | h
      ·omega
      ·exact h
     rw [z1, z2]; exact ⟨rfl, rfl⟩
    ·rw [left_some _ c (by rw [Int.toNat_natCast]; exact z), Int.toNat_natCast]
     have hb : s / 2 ^ (m - 1) % 2 = 0 ∨ s / 2 ^ (m - 1) % 2 = 1 := by omega
     rcases hb with hb | hb
     ·rw [hb, Nat.mul_zero, Nat.add_zero] at em
      rw [em] at z
      rw [hb, decide_eq_true z]; exact ⟨rfl, rfl⟩
     ·rw [hb, if_neg (by decide)]
      by_cases w : s % 2 ^ (m - 1) = 0
      ·rw [w]; exact ⟨rfl, rfl⟩
      ·rw [if_pos (.inl w), decide_eq_true w]; exact ⟨rfl, rfl⟩
   simp only [hb1.1, hb1.2]
   exact Ev.now _
theorem left_more (s : Nat) (d : Int) : decide (2 ≤ leftN s d true) = decide (2 ≤ leftN s d false) ∧ (leftN s d true = 1 ∨ leftN s d true = 3) := by
 by_cases c : d ≤ 0 ∨ s % 2 ^ d.toNat = 0
 ·rw [left_none _ c, left_none _ c]; simp
 ·have c' := not_or.mp c
  rw [left_some _ c'.1 c'.2, left_some _ c'.1 c'.2]
  split
  ·simp
  ·simp; split <;> simp
theorem ref_up_f (mode : Int) (neg : Bool) (q left : Nat) (h : left ≤ 3) : annealref1_up.f mode neg (decide (q % 2 = 1)) (decide (2 ≤ left)) (decide (left = 1 ∨ left = 3)) = some (upN mode neg q left) := by
 unfold annealref1_up.f upN
 have hl : left = 0 ∨ left = 1 ∨ left = 2 ∨ left = 3 := by omega
 by_cases m1 : mode = 1
 ·rw [if_pos m1, if_pos m1]
 ·rw [if_neg m1, if_neg m1]
  by_cases m2 : mode = 2
  ·rw [if_pos m2, if_pos m2]; rcases hl with rfl | rfl | rfl | rfl <;> cases neg <;> rfl
  ·rw [if_neg m2, if_neg m2]
   by_cases m3 : mode = 3
   ·rw [if_pos m3, if_pos m3]; rcases hl with rfl | rfl | rfl | rfl <;> cases neg <;> rfl
   ·rw [if_neg m3, if_neg m3]
    by_cases m4 : mode = 4
    ·rw [if_pos m4, if_pos m4]
    ·rw [if_neg m4, if_neg m4]
     rcases hl with rfl | rfl | rfl | rfl <;> simp
theorem ref_over_f (k : Nat) (f mode : Int) (neg : Bool) : annealref1_over.f (k + 1) f mode neg = some (((if endless mode neg then infN f neg else greatN f neg : Nat) : Int)) := by
 unfold annealref1_over.f endless
 simp only [annealref1_over.j0, ref_greatest_f, ref_inf_f, Option.bind_some]
 by_cases m1 : mode = 1
 ·rw [if_pos m1, if_pos m1]; rfl
 ·rw [if_neg m1, if_neg m1]
  by_cases m2 : mode = 2
  ·rw [if_pos m2, if_pos m2]; subst m2; cases neg <;> rfl
  ·rw [if_neg m2, if_neg m2]
   by_cases m3 : mode = 3
   ·rw [if_pos m3, if_pos m3]; cases neg <;> rfl
   ·rw [if_neg m3, if_neg m3]; rfl
/- The reference's rounding computes the same numbers as the program's. -/

theorem sign_or (f : Int) (neg : Bool) (v : Nat) (h : v < 2 ^ (fe f + fm f)) : Go.bits .or .u32 (signN f neg : Int) (v : Int) = ((v + signN f neg : Nat) : Int) ∧ v + signN f neg < 4294967296 := by
 obtain ⟨b1, b2, b3, b4, b5⟩ := fbounds f
 have h31 := pow_le31 b5
 unfold signN
 cases neg
 ·simp only [Bool.false_eq_true, if_false]
  rw [or_u32 _ _ (by omega) (by omega), Nat.zero_or, Nat.add_zero]; exact ⟨rfl, by omega⟩
 ·simp only [if_true]
  rw [or_u32 _ _ (by omega) (by omega), or_add _ _ (fe f + fm f) (by simp) h, Nat.add_comm]; exact ⟨rfl, by omega⟩
theorem ref_pack_j5 (k : Nat) (f mode : Int) (neg : Bool) (q U : Nat) (hU : U ≤ 10300) (hq : q < 2 ^ (fm f + 1)) (hq' : U ≠ 0 → 2 ^ fm f ≤ q) (K : Nat) (hK : K = U * 2 ^ fm f + q) (c0 c1 c2 c3 c4 : Bool) :
  annealref1_Pack.j5 (k + 2) f mode neg (fm f : Int) (leastN f - fm f + U) (q : Int) c0 c1 c2 c3 c4 = some
   ((((if overN f K then (if endless mode neg then topN f * 2 ^ fm f else topN f * 2 ^ fm f - 1) else K) + signN f neg : Nat) : Int),
    if overN f K then (false, false, true, false, true) else (c0, c1, c2, c3, c4)) ∧
  annealref1_Pack.j6 (k + 2) f mode neg (fm f : Int) (leastN f - fm f + U) (q : Int) c0 c1 c2 c3 c4 = some
   ((((if overN f K then (if endless mode neg then topN f * 2 ^ fm f else topN f * 2 ^ fm f - 1) else K) + signN f neg : Nat) : Int),
    if overN f K then (false, false, true, false, true) else (c0, c1, c2, c3, c4)) := by
 obtain ⟨b1, b2, b3, b4, b5⟩ := fbounds f
 have hl := least_cases f
 have hp := Nat.two_pow_pos (fm f)
 have hpe := Nat.two_pow_pos (fe f)
 have h31 := pow_le31 (show fm f + 1 ≤ 31 by omega)
 have h8 := pow_le31 (show fe f ≤ 31 by omega)
 have hsucc : 2 ^ (fm f + 1) = 2 * 2 ^ fm f := by rw [Nat.pow_succ, Nat.mul_comm]
 have ht := top_cases f
 obtain ⟨_, hte⟩ := inf_lt f neg
 have e1 : shl .u64 1 (fm f : Int) = ((2 ^ fm f : Nat) : Int) := by rw [show (1 : Int) = ((1 : Nat) : Int) from rfl, shl_u64, Nat.one_mul, Nat.mod_eq_of_lt (by omega)]
 have e2 : wrap64 (wrap64 (leastN f - (fm f : Int) + (U : Int) + (fm f : Int)) + (1 - leastN f)) = ((U + 1 : Nat) : Int) := by
  rw [w64_id (leastN f - (fm f : Int) + (U : Int) + (fm f : Int)) (by omega) (by omega), w64_id _ (by omega) (by omega)]; omega
 have e3 : wrap64 (shl .i64 1 (fe f : Int) - 1) = ((topN f : Nat) : Int) := by
  rw [one_shl_i64 _ (by omega), w64_id _ (by omega) (by omega)]; unfold topN; omega
 rw [annealref1_Pack.j5, annealref1_Pack.j6, if_pos (by omega), e1, ref_bias_f, ref_widths_f, ref_sign_f]
 simp only [Option.bind_some]
 rw [if_pos (show (0 : Int) ≤ (fe f : Int) by omega), e2, e3, ref_over_f]
 simp only [Option.bind_some]
 by_cases c : q < 2 ^ fm f
 ·have hU0 : U = 0 := by
   rcases Nat.eq_zero_or_pos U with h | h
   ·exact h
   ·have := hq' (by omega); omega
  have ho : overN f K = false := by
   unfold overN
   rw [decide_eq_false_iff_not, hK, hU0]
   have : 1 * 2 ^ fm f ≤ topN f * 2 ^ fm f := Nat.mul_le_mul_right _ (by omega)
   omega
  obtain ⟨s1, s2⟩ := sign_or f neg q (by omega)
  rw [if_pos (show (q : Int) < ((2 ^ fm f : Nat) : Int) by omega), show (q : Int) % 4294967296 = (q : Int) by omega, s1, ho, hK, hU0]
  simp
 ·rw [if_neg (show ¬ (q : Int) < ((2 ^ fm f : Nat) : Int) by omega)]
  have ho : ((U + 1 : Nat) : Int) ≥ (topN f : Int) ↔ overN f K = true := by
   unfold overN
   rw [decide_eq_true_iff, hK]
   constructor
   ·intro h
    have : topN f * 2 ^ fm f ≤ (U + 1) * 2 ^ fm f := Nat.mul_le_mul_right _ (by omega)
    rw [Nat.add_mul, Nat.one_mul] at this; omega
   ·intro h
    rcases Nat.lt_or_ge (U + 1) (topN f) with d | d
    ·have : (U + 1 + 1) * 2 ^ fm f ≤ topN f * 2 ^ fm f := Nat.mul_le_mul_right _ d
     rw [Nat.add_mul, Nat.add_mul, Nat.one_mul] at this; omega
    ·omega
  by_cases c' : ((U + 1 : Nat) : Int) ≥ (topN f : Int)
  ·rw [if_pos c', ho.mp c']
   simp only [if_true]
   have : (if endless mode neg then infN f neg else greatN f neg) = (if endless mode neg then topN f * 2 ^ fm f else topN f * 2 ^ fm f - 1) + signN f neg := by
    unfold infN greatN; split <;> rfl
   rw [this]
   exact ⟨rfl, rfl⟩
  ·rw [if_neg c']
   have co : overN f K = false := by simpa using fun h => c' (ho.mpr h)
   have hmul : (U + 1) * 2 ^ fm f + 2 ^ fm f ≤ 2 ^ (fe f + fm f) := by
    have : (U + 1) * 2 ^ fm f ≤ topN f * 2 ^ fm f := Nat.mul_le_mul_right _ (by omega)
    omega
   have h32 := pow_le31 b5
   have hm1 : q % 2 ^ fm f = q - 2 ^ fm f := by
    have h1 : q / 2 ^ fm f = 1 := Nat.div_eq_of_lt_le (by omega) (by omega)
    have := Nat.div_add_mod q (2 ^ fm f)
    rw [h1, Nat.mul_one] at this; omega
   have e4 : shl .u32 (((U + 1 : Nat) : Int) % 4294967296) (fm f : Int) = (((U + 1) * 2 ^ fm f : Nat) : Int) := by
    rw [show ((U + 1 : Nat) : Int) % 4294967296 = ((U + 1 : Nat) : Int) by omega, shl_u32, Nat.mod_eq_of_lt (by omega)]
   have e5 : Go.bits .and .u64 (q : Int) (IntKind.u64.wrap (((2 ^ fm f : Nat) : Int) - 1)) % 4294967296 = ((q % 2 ^ fm f : Nat) : Int) := by
    rw [show ((2 ^ fm f : Nat) : Int) - 1 = ((2 ^ fm f - 1 : Nat) : Int) by omega, u64_id _ (by omega), mask_u64 _ _ (by omega) (by omega)]
    have := Nat.mod_lt q hp; omega
   have hKe : K + signN f neg = (U + 1) * 2 ^ fm f + signN f neg + q % 2 ^ fm f := by
    rw [hK, hm1, Nat.add_mul]; omega
   obtain ⟨s1, s2⟩ := sign_or f neg ((U + 1) * 2 ^ fm f) (by omega)
   have hq2 : q % 2 ^ fm f < 2 ^ fm f := Nat.mod_lt _ hp
   have e6 : Go.bits .or .u32 (((U + 1) * 2 ^ fm f + signN f neg : Nat) : Int) ((q % 2 ^ fm f : Nat) : Int) = (((U + 1) * 2 ^ fm f + signN f neg + q % 2 ^ fm f : Nat) : Int) := by
    rw [or_u32 _ _ s2 (by omega), or_add _ _ (fm f) ?_ hq2]
    unfold signN
    cases neg
    ·simp
    ·simp only [if_true]
     rw [Nat.pow_add, ← Nat.add_mul, Nat.mul_mod_left]
   rw [e4, s1, e5, e6, co]
   simp only [Bool.false_eq_true, if_false, hKe]
   exact ⟨trivial, trivial⟩
theorem step_ew (f : Int) : wrap64 ((fm f : Int) + 1) = ((fm f + 1 : Nat) : Int) := by
 obtain ⟨b1, b2, b3, b4, b5⟩ := fbounds f
 rw [w64_id] <;> omega
theorem step_es (f : Int) : shl .u64 1 ((fm f + 1 : Nat) : Int) = ((2 ^ (fm f + 1) : Nat) : Int) := by
 obtain ⟨b1, b2, b3, b4, b5⟩ := fbounds f
 have h31 := pow_le31 (show fm f + 1 ≤ 31 by omega)
 rw [show (1 : Int) = ((1 : Nat) : Int) from rfl, shl_u64, Nat.one_mul, Nat.mod_eq_of_lt (by omega)]
theorem step_e8 (f : Int) (U : Nat) (h : U ≤ 10200) : wrap64 (leastN f - (fm f : Int) + (U : Int) + 1) = leastN f - (fm f : Int) + ((U + 1 : Nat) : Int) := by
 obtain ⟨b1, b2, b3, b4, b5⟩ := fbounds f
 have hl := least_cases f
 rw [w64_id] <;> omega
theorem step_e9 (f : Int) : (((2 ^ (fm f + 1) : Nat) : Int)) / 2 = ((2 ^ fm f : Nat) : Int) := by
 have hsucc : 2 ^ (fm f + 1) = 2 * 2 ^ fm f := by rw [Nat.pow_succ, Nat.mul_comm]
 omega
theorem step_lt (f : Int) : 2 ^ fm f < 2 ^ (fm f + 1) := Nat.pow_lt_pow_right (by decide) (Nat.lt_succ_self _)
theorem step_key (U m q : Nat) (h : q = 2 * m) : (U + 1) * m + m = U * m + q := by rw [Nat.add_mul]; omega
theorem step_q {a b : Nat} (h : a ≤ b) (h' : ¬ a = b) : a < b := by omega
theorem step_i {a b : Nat} (h' : ¬ a = b) : ¬ ((a : Int) = (b : Int)) := by omega
theorem step_n {m : Nat} : (0 : Int) ≤ (m : Int) := by omega
theorem ref_pack_ev (f mode : Int) (neg : Bool) (x : Int) (s : Nat) (more : Bool) (hs : s < 18446744073709551616) :
  Ev (fun k => annealref1_Pack.f k f mode neg x (s : Int) more) ((packN f mode neg (clampE x) s more : Int), false, false, excN f mode neg (clampE x) s more) := by
 unfold annealref1_Pack.f
 have hc : mn (mx x (-10000)) 10000 = clampE x := rfl
 obtain ⟨h1, h2⟩ := clampE_bounds x
 rw [hc]
 generalize clampE x = x at *
 have hll := left_le s (unitN f x s - x) more
 by_cases z : s = 0 ∧ more = false
 ·obtain ⟨rfl, rfl⟩ := z
  simp only [if_pos (show ((0 : Nat) : Int) = 0 from rfl)]
  refine Ev.step (fun k => by rw [annealref1_Pack.j0]) ?_
  simp only [Bool.not_false, if_true, ref_zero_f, Option.bind_some]
  have h := pack_f 0 f mode neg x 0 false (by decide)
  rw [clampE_id x h1 h2] at h
  unfold round_Pack.f at h
  rw [if_pos (by rfl), show mn (mx x (-10000)) 10000 = x from clampE_id x h1 h2, round_Pack.j0] at h
  simp only [Bool.not_false, if_true, zero_f, Option.bind_some] at h
  rw [← Option.some.inj h]
  exact Ev.now _
 ·have hj : ∀ k, (if (s : Int) = 0 then annealref1_Pack.j0 k f mode neg x (s : Int) more (!more) else annealref1_Pack.j0 k f mode neg x (s : Int) more false) = annealref1_Pack.j0 k f mode neg x (s : Int) more false := by
   intro k
   by_cases c : (s : Int) = 0
   ·rw [if_pos c]
    cases more
    ·exact absurd ⟨by omega, rfl⟩ z
    ·rfl
   ·rw [if_neg c]
  refine Ev.congr hj ?_
  obtain ⟨u1, u2, u3⟩ := unit_bounds f x s hs h1 h2
  obtain ⟨q1, q2⟩ := quo_bounds f x s
  obtain ⟨b1, b2, b3, b4, b5⟩ := fbounds f
  have hl := least_cases f
  have hn := lenN_small s hs
  have h31 := pow_le31 (show fm f + 1 ≤ 31 by omega)
  have hp := Nat.two_pow_pos (fm f)
  have hsucc : 2 ^ (fm f + 1) = 2 * 2 ^ fm f := by rw [Nat.pow_succ, Nat.mul_comm]
  have hq64 : quoN s (unitN f x s - x) < 18446744073709551616 := by omega
  have hd : unitN f x s - x ≤ 0 → s * 2 ^ (-(unitN f x s - x)).toNat < 18446744073709551616 := by
   intro h; have := hq64; unfold quoN at this; rw [if_pos h] at this; exact this
  -- the exponent that the reference takes
  have hE : ∃ e : Int, (∀ k, (if (s : Int) = 0 then annealref1_Pack.j1 k f mode neg x (s : Int) more (fm f : Int) (leastN f) (-20000) else annealref1_Pack.j1 k f mode neg x (s : Int) more (fm f : Int) (leastN f) (wrap64 (wrap64 (x + (lenN s : Int)) - 1))) = annealref1_Pack.j1 k f mode neg x (s : Int) more (fm f : Int) (leastN f) e) ∧ wrap64 (mx e (leastN f) - (fm f : Int)) = unitN f x s ∧ (decide (e < leastN f) = (decide (s = 0) || decide (x + lenN s - 1 < leastN f))) := by
   by_cases c : s = 0
   ·subst c
    refine ⟨-20000, fun k => by rw [if_pos (show ((0 : Nat) : Int) = 0 from rfl)], ?_, ?_⟩
    ·have : riseN f x 0 = 0 := by unfold riseN; rw [if_pos rfl]
     have hm : mx (-20000) (leastN f) = leastN f := by unfold mx; split <;> omega
     rw [hm]
     unfold unitN; rw [this, w64_id _ (by omega) (by omega)]; omega
    ·rw [decide_eq_true (by omega)]; simp
   ·have e1 : wrap64 (wrap64 (x + (lenN s : Int)) - 1) = x + lenN s - 1 := by
     rw [w64_id (x + _) (by omega) (by omega), w64_id _ (by omega) (by omega)]
    refine ⟨x + lenN s - 1, fun k => by rw [if_neg (by omega), e1], ?_, ?_⟩
    ·have hr : riseN f x s = (x + lenN s - 1 - leastN f).toNat := by unfold riseN; rw [if_neg c]
     unfold unitN mx
     split
     ·rw [w64_id _ (by omega) (by omega)]; omega
     ·rw [w64_id _ (by omega) (by omega)]; omega
    ·rw [decide_eq_false c, Bool.false_or]
  obtain ⟨e, he1, he2, he3⟩ := hE
  refine Ev.step (fun k => by rw [annealref1_Pack.j0]) ?_
  simp only [Bool.false_eq_true, if_false, ref_widths_f, ref_bias_f, Option.bind_some]
  refine Ev.bind (ref_len_ev s hs) ?_
  rw [show (1 : Int) - (1 - leastN f) = leastN f by omega, w64_id (leastN f) (by omega) (by omega)]
  refine Ev.congr he1 ?_
  refine Ev.step (fun k => by rw [annealref1_Pack.j1]) ?_
  rw [he2, w64_id (unitN f x s - x) (by omega) (by omega)]
  refine Ev.bind (ref_divide_f s hs _ (by omega) (by omega) hd) ?_
  -- what is left, with the little more
  have hlm : leftN s (unitN f x s - x) false ≤ 3 := left_le s _ false
  have hcol : ∀ k (r : Option (Int × Bool × Bool × Bool × Bool × Bool)), annealref1_Pack.j2 k f mode neg (fm f : Int) (leastN f) e (unitN f x s) (quoN s (unitN f x s - x) : Int) (decide (2 ≤ leftN s (unitN f x s - x) more)) (decide (leftN s (unitN f x s - x) more = 1 ∨ leftN s (unitN f x s - x) more = 3)) = r →
    (if decide (leftN s (unitN f x s - x) false = 1 ∨ leftN s (unitN f x s - x) false = 3) = true then annealref1_Pack.j2 k f mode neg (fm f : Int) (leastN f) e (unitN f x s) (quoN s (unitN f x s - x) : Int) (decide (2 ≤ leftN s (unitN f x s - x) false)) true else annealref1_Pack.j2 k f mode neg (fm f : Int) (leastN f) e (unitN f x s) (quoN s (unitN f x s - x) : Int) (decide (2 ≤ leftN s (unitN f x s - x) false)) more) = r := by
   intro k r h
   cases more
   ·by_cases c : leftN s (unitN f x s - x) false = 1 ∨ leftN s (unitN f x s - x) false = 3
    ·rw [decide_eq_true c] at h ⊢; rw [if_pos rfl]; exact h
    ·rw [decide_eq_false c] at h ⊢; rw [if_neg (by decide)]; exact h
   ·obtain ⟨m1, m2⟩ := left_more s (unitN f x s - x)
    rw [decide_eq_true m2, m1] at h
    split <;> exact h
  refine Ev.congr (fun k => hcol k _ rfl) ?_
  generalize hL : leftN s (unitN f x s - x) more = L at *
  refine Ev.step (fun k => by rw [annealref1_Pack.j2]) ?_
  have hinx : decide (L ≠ 0) = inexN f x s more := by unfold inexN; rw [hL]
  have h2 : ∀ k, (if decide (2 ≤ L) = true then annealref1_Pack.j3 k f mode neg (fm f : Int) (leastN f) e (unitN f x s) (quoN s (unitN f x s - x) : Int) (decide (2 ≤ L)) (decide (L = 1 ∨ L = 3)) true else annealref1_Pack.j3 k f mode neg (fm f : Int) (leastN f) e (unitN f x s) (quoN s (unitN f x s - x) : Int) (decide (2 ≤ L)) (decide (L = 1 ∨ L = 3)) (decide (L = 1 ∨ L = 3))) = annealref1_Pack.j3 k f mode neg (fm f : Int) (leastN f) e (unitN f x s) (quoN s (unitN f x s - x) : Int) (decide (2 ≤ L)) (decide (L = 1 ∨ L = 3)) (inexN f x s more) := by
   intro k
   rw [← hinx]
   have : L = 0 ∨ L = 1 ∨ L = 2 ∨ L = 3 := by omega
   rcases this with h | h | h | h <;> subst h <;> rfl
  refine Ev.congr h2 ?_
  refine Ev.step (fun k => by rw [annealref1_Pack.j3]) ?_
  have hodd : ((Go.bits .and .u64 (quoN s (unitN f x s - x) : Int) 1 == 1) : Bool) = decide (quoN s (unitN f x s - x) % 2 = 1) := by
   rw [and1_u64 _ hq64, show (1 : Int) = ((1 : Nat) : Int) from rfl, beq_nn]
  simp only [hodd, ref_up_f mode neg _ L hll, Option.bind_some]
  -- the unit above
  have hK : keyN f mode neg x s more = riseN f x s * 2 ^ fm f + (quoN s (unitN f x s - x) + (if upN mode neg (quoN s (unitN f x s - x)) L then 1 else 0)) := by
   unfold keyN; rw [hL, Nat.add_assoc]
  have h3 : ∀ k, (if upN mode neg (quoN s (unitN f x s - x)) L = true then annealref1_Pack.j4 k f mode neg (fm f : Int) (leastN f) e (unitN f x s) (IntKind.u64.wrap ((quoN s (unitN f x s - x) : Int) + 1)) (inexN f x s more) else annealref1_Pack.j4 k f mode neg (fm f : Int) (leastN f) e (unitN f x s) (quoN s (unitN f x s - x) : Int) (inexN f x s more)) = annealref1_Pack.j4 k f mode neg (fm f : Int) (leastN f) e (unitN f x s) ((quoN s (unitN f x s - x) + (if upN mode neg (quoN s (unitN f x s - x)) L then 1 else 0) : Nat) : Int) (inexN f x s more) := by
   intro k
   by_cases c : upN mode neg (quoN s (unitN f x s - x)) L = true
   ·rw [if_pos c, if_pos c, show (quoN s (unitN f x s - x) : Int) + 1 = ((quoN s (unitN f x s - x) + 1 : Nat) : Int) by omega, u64_id _ (by omega)]
   ·rw [if_neg c, if_neg c, Nat.add_zero]
  refine Ev.congr h3 ?_
  have hqn : quoN s (unitN f x s - x) + (if upN mode neg (quoN s (unitN f x s - x)) L then 1 else 0) ≤ 2 ^ (fm f + 1) := by split <;> omega
  have hqm : riseN f x s ≠ 0 → 2 ^ fm f ≤ quoN s (unitN f x s - x) + (if upN mode neg (quoN s (unitN f x s - x)) L then 1 else 0) := fun h => Nat.le_trans (q2 h) (Nat.le_add_right _ _)
  generalize quoN s (unitN f x s - x) + (if upN mode neg (quoN s (unitN f x s - x)) L then 1 else 0) = Q at *
  have hun : unitN f x s = leastN f - fm f + (riseN f x s : Nat) := rfl
  rw [hun]
  have ew := step_ew f
  have es := step_es f
  have e8 := step_e8 f _ u3
  have e9 := step_e9 f
  have fin : ∀ r : Int × Bool × Bool × Bool × Bool × Bool, r = ((((if overN f (keyN f mode neg x s more) then (if endless mode neg then topN f * 2 ^ fm f else topN f * 2 ^ fm f - 1) else keyN f mode neg x s more) + signN f neg : Nat) : Int), if overN f (keyN f mode neg x s more) then (false, false, true, false, true) else (false, false, false, underN f x s more, inexN f x s more)) → r = ((packN f mode neg x s more : Int), false, false, excN f mode neg x s more) := by
   intro r hr
   rw [hr]
   unfold packN excN
   split <;> rfl
  have hund : underN f x s more = (inexN f x s more && decide (e < leastN f)) := by unfold underN; rw [he3]
  refine Ev.step (fun k => by rw [annealref1_Pack.j4]) ?_
  simp only [ew, es, e8, if_pos (step_n (m := fm f + 1))]
  by_cases cQ : Q = 2 ^ (fm f + 1)
  ·have g := fun k c3 => ref_pack_j5 k f mode neg (2 ^ fm f) (riseN f x s + 1) (Nat.le_trans (Nat.succ_le_succ u3) (by decide)) (step_lt f) (fun _ => Nat.le_refl _) (keyN f mode neg x s more) (by rw [hK]; exact (step_key _ _ _ (cQ.trans hsucc)).symm) false false false c3 (inexN f x s more)
   simp only [cQ, if_true, e9]
   by_cases ci : inexN f x s more = true
   ·simp only [ci, if_true] at g ⊢
    rw [ci, Bool.true_and] at hund
    rw [← fin _ rfl, hund, ci]
    exact ⟨2, fun n hn => by obtain ⟨m, rfl⟩ : ∃ m, n = m + 2 := ⟨n - 2, by omega⟩; exact (g m _).1⟩
   ·rw [Bool.not_eq_true] at ci
    simp only [ci, Bool.false_eq_true, if_false] at g ⊢
    rw [ci, Bool.false_and] at hund
    rw [← fin _ rfl, hund, ci]
    exact ⟨2, fun n hn => by obtain ⟨m, rfl⟩ : ∃ m, n = m + 2 := ⟨n - 2, by omega⟩; exact (g m _).2⟩
  ·have g := fun k c3 => ref_pack_j5 k f mode neg Q (riseN f x s) (Nat.le_trans u3 (by decide)) (step_q hqn cQ) hqm (keyN f mode neg x s more) hK false false false c3 (inexN f x s more)
   have cQ' : ¬ ((Q : Int) = ((2 ^ (fm f + 1) : Nat) : Int)) := step_i cQ
   simp only [cQ', if_false]
   by_cases ci : inexN f x s more = true
   ·simp only [ci, if_true] at g ⊢
    rw [ci, Bool.true_and] at hund
    rw [← fin _ rfl, hund, ci]
    exact ⟨2, fun n hn => by obtain ⟨m, rfl⟩ : ∃ m, n = m + 2 := ⟨n - 2, by omega⟩; exact (g m _).1⟩
   ·rw [Bool.not_eq_true] at ci
    simp only [ci, Bool.false_eq_true, if_false] at g ⊢
    rw [ci, Bool.false_and] at hund
    rw [← fin _ rfl, hund, ci]
    exact ⟨2, fun n hn => by obtain ⟨m, rfl⟩ : ∃ m, n = m + 2 := ⟨n - 2, by omega⟩; exact (g m _).2⟩
end Go.Proofs.Ytejkemahdincjaa.Round

/- The reference's whole numbers of 640 bits: what its functions answer. -/
namespace Go.Proofs.Ytejkemahdincjaa.Round
open Go.RowKit Go.Proofs.Ytejkemahdincjaa.P Go.Proofs.Ytejkemahdincjaa.E Go.Proofs.Ytejkemahdincjaa.Num Go.Proofs.Ytejkemahdincjaa.BitsF Go.Proofs.Ytejkemahdincjaa.Fmt Go.Proofs.YtejkemahdincjaaW.PrintWords Go.Proofs.YtejkemahdincjaaW.PrintLast Go.Proofs.YtejkemahdincjaaW.PrintMore

theorem below_l2 (xn yn : Bool) {xs ys : List Int} (hx : Lims xs) (hy : Lims ys) (j : Nat) (hj : j ≤ 10) : Ev2 (fun k n => annealref1_below.l2 k n ((j : Int) - 1) yn ys xn xs) (decide (lo xs j < lo ys j)) := by
  induction j with
  | zero => exact Ev2.step (fun k n => by rw [annealref1_below.l2_eq, if_neg (by omega), lo_none, lo_none]; rfl) (Ev2.now _)
  | succ j ih =>
    have a := lo_lt hx j
    have b := lo_lt hy j
    have q0 : (0 : Int) ≤ ((j + 1 : Nat) : Int) - 1 := by omega
    have q1 : ((j + 1 : Nat) : Int) - 1 < 10 := by omega
    have e : ((j + 1 : Nat) : Int) - 1 = (j : Int) := by omega
    refine Ev2.step (fun k n => by rw [annealref1_below.l2_eq, if_pos q0, if_pos q0, if_pos q1, if_pos q0, if_pos q1, e, hx.rd j, hy.rd j]) ?_
    rw [lo_succ, lo_succ]
    by_cases c : lim xs j = lim ys j
    · refine Ev2.congr (fun k n => by rw [if_pos (by rw [c]), w64_id _ (by omega) (by omega)]) ?_
      rw [c]
      simp only [Nat.add_lt_add_iff_right]
      exact ih (by omega)
    · refine Ev2.congr (fun k n => by rw [if_neg (by omega), if_pos (by omega), if_pos (by omega), if_pos (by omega), if_pos (by omega)]) ?_
      have h : decide ((lim xs j : Int) < (lim ys j : Int)) = decide (lo xs j + lim xs j * 2 ^ (64 * j) < lo ys j + lim ys j * 2 ^ (64 * j)) := by
        apply decide_eq_decide.mpr
        rcases Nat.lt_or_gt_of_ne c with c | c
        · have := Nat.mul_le_mul_right (2 ^ (64 * j)) (show lim xs j + 1 ≤ lim ys j from c)
          rw [Nat.add_mul] at this; omega
        · have := Nat.mul_le_mul_right (2 ^ (64 * j)) (show lim ys j + 1 ≤ lim xs j from c)
          rw [Nat.add_mul] at this; omega
      rw [← h]; exact Ev2.now _
theorem below_ev (xn yn : Bool) {xs ys : List Int} (hx : Lims xs) (hy : Lims ys) : Ev (fun n => E.annealref1_below.f n xn xs yn ys) (decide (lo xs 10 < lo ys 10)) :=
  Ev.congr (fun n => annealref1_below.eq n xn xs yn ys) (below_l2 xn yn hx hy 10 (by decide)).diag

theorem limb_sub (x y b : Nat) (hx : x < 18446744073709551616) (hy : y < 18446744073709551616) (hb : b ≤ 1) :
    ∃ d c : Nat, d < 18446744073709551616 ∧ c ≤ 1 ∧ d + y + b = x + c * 18446744073709551616 ∧ IntKind.u64.wrap (IntKind.u64.wrap ((x : Int) - (y : Int)) - (b : Int)) = (d : Int) ∧
      (c = 1 ↔ ((x : Int) < (y : Int) ∨ IntKind.u64.wrap ((x : Int) - (y : Int)) < (b : Int))) := by
  rw [u64_wrap, u64_wrap]
  by_cases c : x < y + b
  · exact ⟨x + 18446744073709551616 - y - b, 1, by omega, by omega, by omega, by omega, by omega⟩
  · exact ⟨x - y - b, 0, by omega, by omega, by omega, by omega, by omega⟩
theorem limb_add (x y b : Nat) (hx : x < 18446744073709551616) (hy : y < 18446744073709551616) (hb : b ≤ 1) :
    ∃ d c : Nat, d < 18446744073709551616 ∧ c ≤ 1 ∧ x + y + b = d + c * 18446744073709551616 ∧ IntKind.u64.wrap (IntKind.u64.wrap ((x : Int) + (y : Int)) + (b : Int)) = (d : Int) ∧
      (c = 1 ↔ (IntKind.u64.wrap ((x : Int) + (y : Int)) < (x : Int) ∨ IntKind.u64.wrap (IntKind.u64.wrap ((x : Int) + (y : Int)) + (b : Int)) < IntKind.u64.wrap ((x : Int) + (y : Int)))) := by
  rw [u64_wrap, u64_wrap]
  by_cases c : x + y + b < 18446744073709551616
  · exact ⟨x + y + b, 0, by omega, by omega, by omega, by omega, by omega⟩
  · exact ⟨x + y + b - 18446744073709551616, 1, by omega, by omega, by omega, by omega, by omega⟩
theorem minus_l5 (ln xn yn : Bool) (z : List Int) {xs ys : List Int} (hx : Lims xs) (hy : Lims ys) (m : Nat) : ∀ (i : Nat) (b : Nat) (L : List Int), i + m = 10 → Lims L → b ≤ 1 → lo L i + lo ys i = lo xs i + b * 2 ^ (64 * i) → (∀ j, i ≤ j → lim L j = lim xs j) →
    ∃ (R : List Int) (c : Nat), Ev2 (fun k n => annealref1_minus.l5 k n (i : Int) (b : Int) ln z yn ys xn L) (xn, R) ∧ Lims R ∧ lo R 10 + lo ys 10 = lo xs 10 + c * T640 := by
  induction m with
  | zero =>
    intro i b L hi hL hb h1 h2
    obtain rfl : i = 10 := by omega
    exact ⟨L, b, Ev2.step (fun k n => by rw [annealref1_minus.l5_eq, if_neg (by omega)]) (Ev2.now _), hL, by rw [← T640_eq]; exact h1⟩
  | succ m ih =>
    intro i b L hi hL hb h1 h2
    have i1 : (i : Int) < 10 := by omega
    have i0 : (0 : Int) ≤ (i : Int) := by omega
    have e := h2 i (Nat.le_refl _)
    obtain ⟨d, c, d1, c1, d2, d3, d4⟩ := limb_sub (lim xs i) (lim ys i) b (hx.lt i) (hy.lt i) hb
    have hlen : i < L.length := by rw [hL.len]; omega
    have key : lo (L.set i (d : Int)) (i + 1) + lo ys (i + 1) = lo xs (i + 1) + c * 2 ^ (64 * (i + 1)) := by
      rw [lo_succ, lo_succ, lo_succ, lo_set L i _ hlen, lim_set L i i _ hlen, if_pos rfl, Int.toNat_natCast, show 64 * (i + 1) = 64 * i + 64 by omega, Nat.pow_add, show (2 : Nat) ^ 64 = 18446744073709551616 by decide, Nat.mul_comm (2 ^ (64 * i)), ← Nat.mul_assoc]
      have := congrArg (· * 2 ^ (64 * i)) d2
      simp only [Nat.add_mul] at this
      omega
    obtain ⟨R, q, r1, r2, r3⟩ := ih (i + 1) c (L.set i (d : Int)) (by omega) (hL.set i d (by omega) d1) c1 key (fun j hj => by rw [lim_set L i j _ hlen, if_neg (by omega)]; exact h2 j (by omega))
    refine ⟨R, q, ?_, r2, r3⟩
    refine Ev2.step (fun k n => by
      rw [annealref1_minus.l5_eq, if_pos i1, if_pos i0, if_pos i1, if_pos i0, if_pos i1, if_pos i0, if_pos i1, if_pos i0, if_pos i1, hL.rd i, hy.rd i, e, d3, Int.toNat_natCast, w64_id _ (by omega) (by omega), if_pos i0, if_pos i1]) ?_
    rw [show ((i : Int) + 1) = ((i + 1 : Nat) : Int) by omega]
    rcases Nat.lt_or_ge c 1 with c0 | c0
    · obtain rfl : c = 0 := by omega
      refine Ev2.congr (fun k n => by rw [if_neg (fun h => absurd (d4.mpr (.inl h)) (by decide)), if_neg (fun h => absurd (d4.mpr (.inr h)) (by decide)), if_pos i0, if_pos i1]) ?_
      exact r1
    · obtain rfl : c = 1 := by omega
      refine Ev2.congr (fun k n => ?_) r1
      by_cases t : (lim xs i : Int) < (lim ys i : Int)
      · rw [if_pos t]; rfl
      · rw [if_neg t, if_pos ((d4.mp rfl).resolve_left t)]; rfl
theorem plus_l5 (ln xn yn : Bool) (z : List Int) {xs ys : List Int} (hx : Lims xs) (hy : Lims ys) (m : Nat) : ∀ (i : Nat) (b : Nat) (L : List Int), i + m = 10 → Lims L → b ≤ 1 → lo L i + b * 2 ^ (64 * i) = lo xs i + lo ys i → (∀ j, i ≤ j → lim L j = lim xs j) →
    ∃ (R : List Int) (c : Nat), Ev2 (fun k n => annealref1_plus.l5 k n (i : Int) (b : Int) ln z yn ys xn L) (xn, R) ∧ Lims R ∧ lo R 10 + c * T640 = lo xs 10 + lo ys 10 := by
  induction m with
  | zero =>
    intro i b L hi hL hb h1 h2
    obtain rfl : i = 10 := by omega
    exact ⟨L, b, Ev2.step (fun k n => by rw [annealref1_plus.l5_eq, if_neg (by omega)]) (Ev2.now _), hL, by rw [← T640_eq]; exact h1⟩
  | succ m ih =>
    intro i b L hi hL hb h1 h2
    have i1 : (i : Int) < 10 := by omega
    have i0 : (0 : Int) ≤ (i : Int) := by omega
    have e := h2 i (Nat.le_refl _)
    obtain ⟨d, c, d1, c1, d2, d3, d4⟩ := limb_add (lim xs i) (lim ys i) b (hx.lt i) (hy.lt i) hb
    have hlen : i < L.length := by rw [hL.len]; omega
    have key : lo (L.set i (d : Int)) (i + 1) + c * 2 ^ (64 * (i + 1)) = lo xs (i + 1) + lo ys (i + 1) := by
      rw [lo_succ, lo_succ, lo_succ, lo_set L i _ hlen, lim_set L i i _ hlen, if_pos rfl, Int.toNat_natCast, show 64 * (i + 1) = 64 * i + 64 by omega, Nat.pow_add, show (2 : Nat) ^ 64 = 18446744073709551616 by decide, Nat.mul_comm (2 ^ (64 * i)), ← Nat.mul_assoc]
      have := congrArg (· * 2 ^ (64 * i)) d2
      simp only [Nat.add_mul] at this
      omega
    obtain ⟨R, q, r1, r2, r3⟩ := ih (i + 1) c (L.set i (d : Int)) (by omega) (hL.set i d (by omega) d1) c1 key (fun j hj => by rw [lim_set L i j _ hlen, if_neg (by omega)]; exact h2 j (by omega))
    refine ⟨R, q, ?_, r2, r3⟩
    refine Ev2.step (fun k n => by
      rw [annealref1_plus.l5_eq, if_pos i1, if_pos i0, if_pos i1, if_pos i0, if_pos i1, if_pos i0, if_pos i1, hL.rd i, hy.rd i, e, d3, Int.toNat_natCast, w64_id _ (by omega) (by omega), if_pos i0, if_pos i1]) ?_
    rw [show ((i : Int) + 1) = ((i + 1 : Nat) : Int) by omega]
    rw [d3] at d4
    rcases Nat.lt_or_ge c 1 with c0 | c0
    · obtain rfl : c = 0 := by omega
      refine Ev2.congr (fun k n => by rw [if_neg (fun h => absurd (d4.mpr (.inl h)) (by decide)), if_neg (fun h => absurd (d4.mpr (.inr h)) (by decide)), if_pos i0, if_pos i1]) ?_
      exact r1
    · obtain rfl : c = 1 := by omega
      refine Ev2.congr (fun k n => ?_) r1
      by_cases t : IntKind.u64.wrap ((lim xs i : Int) + (lim ys i : Int)) < (lim xs i : Int)
      · rw [if_pos t]; rfl
      · rw [if_neg t, if_pos ((d4.mp rfl).resolve_left t)]; rfl
theorem wminus_ev (xn yn : Bool) {xs ys : List Int} (hx : Lims xs) (hy : Lims ys) : ∃ R, Lims R ∧ lo R 10 = (if lo xs 10 < lo ys 10 then lo ys 10 - lo xs 10 else lo xs 10 - lo ys 10) ∧
    Ev (fun n => E.annealref1_minus.f n xn xs yn ys) ((if lo xs 10 < lo ys 10 then yn else xn), R) := by
  have hb := below_ev xn yn hx hy
  have fin : ∀ (R : List Int) (c X Y : Nat), Lims R → lo R 10 + Y = X + c * T640 → Y ≤ X → lo R 10 = X - Y := by
    intro R c X Y hR h hle
    have hl := lo_top hR
    rcases Nat.eq_zero_or_pos c with c0 | c0
    · rw [c0, Nat.zero_mul] at h; omega
    · have : 1 * T640 ≤ _ := Nat.mul_le_mul_right T640 c0
      rw [Nat.one_mul] at this; omega
  by_cases c : lo xs 10 < lo ys 10
  · obtain ⟨R, q, r1, r2, r3⟩ := minus_l5 false yn xn (0 :: List.replicate 9 0) hy hx 10 0 0 ys (by decide) hy (by decide) (by rw [lo_none, lo_none]) (fun _ _ => rfl)
    refine ⟨R, r2, by rw [if_pos c]; exact fin R q _ _ r2 r3 (by omega), ?_⟩
    refine Ev.congr (fun n => annealref1_minus.eq n xn xs yn ys) (Ev.bind hb ?_)
    rw [if_pos c, decide_eq_true c]
    exact Ev.congr (fun n => by rw [if_pos rfl]; rfl) r1.diag
  · obtain ⟨R, q, r1, r2, r3⟩ := minus_l5 false xn yn (0 :: List.replicate 9 0) hx hy 10 0 0 xs (by decide) hx (by decide) (by rw [lo_none, lo_none]) (fun _ _ => rfl)
    refine ⟨R, r2, by rw [if_neg c]; exact fin R q _ _ r2 r3 (by omega), ?_⟩
    refine Ev.congr (fun n => annealref1_minus.eq n xn xs yn ys) (Ev.bind hb ?_)
    rw [if_neg c, decide_eq_false c]
    exact Ev.congr (fun n => by rw [if_neg (by decide)]; rfl) r1.diag
theorem plus_same (xn : Bool) {xs ys : List Int} (hx : Lims xs) (hy : Lims ys) (h : lo xs 10 + lo ys 10 < T640) : ∃ R, Lims R ∧ lo R 10 = lo xs 10 + lo ys 10 ∧
    Ev (fun n => E.annealref1_plus.f n xn xs xn ys) (xn, R) := by
  obtain ⟨R, q, r1, r2, r3⟩ := plus_l5 false xn xn (0 :: List.replicate 9 0) hx hy 10 0 0 xs (by decide) hx (by decide) (by rw [lo_none, lo_none]) (fun _ _ => rfl)
  refine ⟨R, r2, ?_, ?_⟩
  · rcases Nat.eq_zero_or_pos q with c0 | c0
    · rw [c0, Nat.zero_mul, Nat.add_zero] at r3; exact r3
    · have : 1 * T640 ≤ _ := Nat.mul_le_mul_right T640 c0
      rw [Nat.one_mul] at this; omega
  · exact Ev.congr (fun n => by rw [annealref1_plus.eq, if_pos (beq_self_eq_true _)]; rfl) r1.diag
theorem plus_diff (xn yn : Bool) (e : xn ≠ yn) {xs ys : List Int} (hx : Lims xs) (hy : Lims ys) : ∃ R, Lims R ∧ lo R 10 = (if lo xs 10 < lo ys 10 then lo ys 10 - lo xs 10 else lo xs 10 - lo ys 10) ∧
    Ev (fun n => E.annealref1_plus.f n xn xs yn ys) ((if lo xs 10 < lo ys 10 then yn else xn), R) := by
  obtain ⟨R, r1, r2, r3⟩ := wminus_ev xn yn hx hy
  refine ⟨R, r1, r2, ?_⟩
  refine Ev.congr (fun n => by rw [annealref1_plus.eq, if_neg (by rw [beq_iff_eq]; exact e)]) (Ev.bind r3 (Ev.now _))
theorem plus_ev (xn yn : Bool) {xs ys : List Int} (hx : Lims xs) (hy : Lims ys) (h : lo xs 10 + lo ys 10 < T640) : ∃ R, Lims R ∧ lo R 10 = (wideN xn (lo xs 10) yn (lo ys 10)).2 ∧
    Ev (fun n => E.annealref1_plus.f n xn xs yn ys) ((wideN xn (lo xs 10) yn (lo ys 10)).1, R) := by
  by_cases e : xn = yn
  · subst e
    obtain ⟨R, r1, r2, r3⟩ := plus_same xn hx hy h
    have w : wideN xn (lo xs 10) xn (lo ys 10) = (xn, lo xs 10 + lo ys 10) := if_pos rfl
    rw [w]
    exact ⟨R, r1, r2, r3⟩
  · obtain ⟨R, r1, r2, r3⟩ := plus_diff xn yn e hx hy
    have w : wideN xn (lo xs 10) yn (lo ys 10) = ((if lo xs 10 < lo ys 10 then yn else xn), (if lo xs 10 < lo ys 10 then lo ys 10 - lo xs 10 else lo xs 10 - lo ys 10)) := by
      unfold wideN
      rw [if_neg e]
      split <;> rfl
    rw [w]
    exact ⟨R, r1, r2, r3⟩
theorem spread_ev (neg : Bool) (e : Int) (s : Nat) (h1 : -298 ≤ e) (h2 : e ≤ 250) (hs : s < 1152921504606846976) : ∃ R, Lims R ∧ lo R 10 = s * 2 ^ (e + 298).toNat ∧ Ev (fun n => E.annealref1_spread.f n neg e (s : Int)) (neg, R) := by
  obtain ⟨a, ha⟩ : ∃ a : Nat, e + 298 = (a : Int) := ⟨(e + 298).toNat, by omega⟩
  have hz := lims_zero
  have at1 : wrap64 (e + 298) = (a : Int) := by rw [w64_id _ (by omega) (by omega)]; exact ha
  have at2 : Int.tmod (a : Int) 64 = ((a % 64 : Nat) : Int) := by rw [Int.tmod_eq_emod_of_nonneg (by omega)]; omega
  have at3 : wrap64 (Int.tdiv (a : Int) 64) = ((a / 64 : Nat) : Int) := by rw [Int.tdiv_eq_ediv_of_nonneg (by omega), w64_id _ (by omega) (by omega)]; omega
  have hq : a / 64 ≤ 8 := by omega
  have hr : a % 64 < 64 := Nat.mod_lt _ (by decide)
  have hm : a = 64 * (a / 64) + a % 64 := by omega
  have ev : s * 2 ^ (e + 298).toNat = s * 2 ^ (a % 64) * 2 ^ (64 * (a / 64)) := by
    rw [Nat.mul_assoc, ← Nat.pow_add]; congr 2; omega
  rw [ev]
  have l0 : (List.replicate 10 (0 : Int)).length = 10 := rfl
  have z0 : lo (List.replicate 10 (0 : Int)) 10 = 0 := (lo_zero 10).mpr fun i _ => lim_zero i
  generalize hqq : a / 64 = q at *
  generalize hrr : a % 64 = r at *
  have iq : q < 10 := by omega
  have iq1 : q + 1 < 10 := by omega
  have iqn : ¬ q + 1 = q := by omega
  have i1 : (0 : Int) ≤ (r : Int) := by omega
  have i2 : (0 : Int) ≤ (q : Int) := by omega
  have i3 : (q : Int) < 10 := by omega
  have hs64 : s < 18446744073709551616 := by omega
  have M : s * 2 ^ r % 18446744073709551616 < 18446744073709551616 := Nat.mod_lt _ (by decide)
  have b1 := hz.set q (s * 2 ^ r % 18446744073709551616) iq M
  have b2 := lo_set0 (List.replicate 10 (0 : Int)) q (s * 2 ^ r % 18446744073709551616) (by rw [l0]; exact iq) (lim_zero q) 10 iq
  rw [z0, Nat.zero_add] at b2
  by_cases r0 : r = 0
  · have i4 : ¬ (0 : Int) < (r : Int) := by omega
    refine ⟨_, b1, ?_, Ev.congr (fun n => annealref1_spread.eq n neg e (s : Int)) (Ev.congr (fun n => ?_) (Ev.now _))⟩
    · rw [b2, r0, Nat.pow_zero, Nat.mul_one, Nat.mod_eq_of_lt (by omega)]
    · rw [at1, at2, at3, if_pos i1, if_pos i2, if_pos i3, if_neg i4, shl_u64, Int.toNat_natCast]
  · have i4 : (0 : Int) < (r : Int) := by omega
    have i5 : (q : Int) < 9 := by omega
    have i6 : (0 : Int) ≤ ((64 - r : Nat) : Int) := by omega
    have i7 : (0 : Int) ≤ ((q + 1 : Nat) : Int) := by omega
    have i8 : ((q + 1 : Nat) : Int) < 10 := by omega
    have S : s / 2 ^ (64 - r) < 18446744073709551616 := Nat.lt_of_le_of_lt (Nat.div_le_self _ _) (by omega)
    have b3 := b1.set (q + 1) (s / 2 ^ (64 - r)) iq1 S
    have l1 : (List.set (List.replicate 10 (0 : Int)) q ((s * 2 ^ r % 18446744073709551616 : Nat) : Int)).length = 10 := by rw [List.length_set]; rfl
    have b4 := lo_set0 (List.set (List.replicate 10 (0 : Int)) q ((s * 2 ^ r % 18446744073709551616 : Nat) : Int)) (q + 1) (s / 2 ^ (64 - r)) (by rw [l1]; exact iq1) (by rw [lim_set _ _ _ _ (by rw [l0]; exact iq), if_neg iqn]; exact lim_zero _) 10 iq1
    refine ⟨_, b3, ?_, Ev.congr (fun n => annealref1_spread.eq n neg e (s : Int)) (Ev.congr (fun n => ?_) (Ev.now _))⟩
    · rw [b4, b2, show 64 * (q + 1) = 64 + 64 * q by omega, Nat.pow_add, ← Nat.mul_assoc, ← Nat.add_mul]
      refine congrArg (· * 2 ^ (64 * q)) ?_
      have h64 : (2 : Nat) ^ 64 = 18446744073709551616 := by decide
      have hd : s * 2 ^ r / 18446744073709551616 = s / 2 ^ (64 - r) := by
        rw [← h64, show (2 : Nat) ^ 64 = 2 ^ (64 - r) * 2 ^ r by rw [← Nat.pow_add]; congr 1; omega]
        exact Nat.mul_div_mul_right _ _ (Nat.two_pow_pos r)
      rw [← hd, h64]
      have := Nat.div_add_mod (s * 2 ^ r) 18446744073709551616
      clear b1 b2 b3 b4 ev
      generalize s * 2 ^ r = Q at *
      omega
    · have t1 : wrap64 (64 - (r : Int)) = ((64 - r : Nat) : Int) := by rw [w64_id _ (by omega) (by omega)]; omega
      have t2 : wrap64 ((q : Int) + 1) = ((q + 1 : Nat) : Int) := by rw [w64_id _ (by omega) (by omega)]; omega
      rw [at1, at2, at3, if_pos i1, if_pos i2, if_pos i3, if_pos i4, if_pos i5, t1, t2, if_pos i6, if_pos i7, if_pos i8, shl_u64, shr_u64 _ _ hs64, Int.toNat_natCast, Int.toNat_natCast]
def anyL (xs : List Int) : Nat → Nat → Bool
  | _, 0 => false
  | j, m + 1 => decide (lim xs j ≠ 0) || anyL xs (j + 1) m
theorem anyL_false (xs : List Int) (m : Nat) : ∀ j, anyL xs j m = false ↔ ∀ q, j ≤ q → q < j + m → lim xs q = 0 := by
  induction m with
  | zero => exact fun j => ⟨fun _ q h1 h2 => by omega, fun _ => rfl⟩
  | succ m ih =>
    intro j
    unfold anyL
    rw [Bool.or_eq_false_iff, ih (j + 1), decide_eq_false_iff_not]
    constructor
    · rintro ⟨h1, h2⟩ q h3 h4
      by_cases c : q = j
      · rw [c]; exact Decidable.not_not.mp h1
      · exact h2 q (by omega) (by omega)
    · intro h
      exact ⟨fun c => c (h j (Nat.le_refl _) (by omega)), fun q h1 h2 => h q (by omega) (by omega)⟩
theorem anyL_lo (xs : List Int) (m : Nat) : anyL xs 0 m = decide (lo xs m ≠ 0) := by
  cases h : anyL xs 0 m
  · have := (anyL_false xs m 0).mp h
    rw [decide_eq_false (show ¬ lo xs m ≠ 0 from fun c => c ((lo_zero m).mpr fun i hi => this i (Nat.zero_le _) (by omega)))]
  · have hne : lo xs m ≠ 0 := fun c => by
      have := (anyL_false xs m 0).mpr (fun q _ hq => (lo_zero m).mp c q (by omega))
      rw [h] at this; cases this
    rw [decide_eq_true hne]
theorem rounded_l19 (f mode e sig top : Int) (i : Nat) (neg c0 c1 c2 c3 c4 : Bool) {xs : List Int} (hx : Lims xs) (r : Int × Bool × Bool × Bool × Bool × Bool) (ht : top = (i : Int) + 1) (hi : i < 10) (m : Nat) : ∀ (j : Nat) (more : Bool), j + m = i →
    Ev (fun n => (annealref1_Pack.f n f mode neg e sig (more || anyL xs j m))) r →
    Ev2 (fun k n => annealref1_rounded.l19 k n (j : Int) more e sig top mode f c0 c1 c2 c3 c4 neg xs) r := by
  induction m with
  | zero =>
    intro j more hj h
    obtain rfl : j = i := by omega
    have h : Ev (fun n => annealref1_Pack.f n f mode neg e sig (more || false)) r := h
    rw [Bool.or_false] at h
    refine Ev2.step (fun k n => by rw [annealref1_rounded.l19_eq, ht, w64_id _ (by omega) (by omega), if_neg (by omega)]) ?_
    exact Ev2.bind h (Ev2.now _)
  | succ m ih =>
    intro j more hj h
    have j0 : (0 : Int) ≤ (j : Int) := by omega
    have j1 : (j : Int) < 10 := by omega
    have next : ∀ b : Bool, (more || anyL xs j (m + 1)) = (b || anyL xs (j + 1) m) → Ev2 (fun k n => annealref1_rounded.l19 k n ((j + 1 : Nat) : Int) b e sig top mode f c0 c1 c2 c3 c4 neg xs) r := fun b hb => ih (j + 1) b (by omega) (by rw [← hb]; exact h)
    have hw : wrap64 ((j : Int) + 1) = ((j + 1 : Nat) : Int) := by rw [w64_id _ (by omega) (by omega)]; omega
    refine Ev2.step (fun k n => by rw [annealref1_rounded.l19_eq, ht, w64_id ((i : Int) + 1 - 1) (by omega) (by omega), if_pos (by omega), hw, ← ht]) ?_
    cases more
    · refine Ev2.congr (fun k n => by rw [if_neg (by decide), if_pos j0, if_pos j1, hx.rd j]) ?_
      by_cases z : lim xs j = 0
      · rw [z]
        refine next false ?_
        show (false || (decide (lim xs j ≠ 0) || anyL xs (j + 1) m)) = _
        rw [z]; rfl
      · have hb : ((lim xs j : Int) == 0) = false := beq_eq_false_iff_ne.mpr (by omega)
        rw [hb]
        refine next true ?_
        show (false || (decide (lim xs j ≠ 0) || anyL xs (j + 1) m)) = _
        rw [decide_eq_true z]; rfl
    · exact Ev2.congr (fun k n => by rw [if_pos rfl]) (next true rfl)
theorem rounded_low (f mode : Int) (i : Nat) (neg : Bool) {xs : List Int} (hx : Lims xs) (hi : i + 1 < 10) (h0 : lim xs (i + 1) ≠ 0) :
    packN f mode neg (-298) (lo xs (i + 2)) false = packN f mode neg (64 * ((i : Int) + 1) - 298 - (64 - (lenN (lim xs (i + 1)) : Int))) (lim xs (i + 1) * 2 ^ (64 - lenN (lim xs (i + 1))) + lim xs i / 2 ^ lenN (lim xs (i + 1))) (decide (lim xs i % 2 ^ lenN (lim xs (i + 1)) ≠ 0) || decide (lo xs i ≠ 0)) ∧
    excN f mode neg (-298) (lo xs (i + 2)) false = excN f mode neg (64 * ((i : Int) + 1) - 298 - (64 - (lenN (lim xs (i + 1)) : Int))) (lim xs (i + 1) * 2 ^ (64 - lenN (lim xs (i + 1))) + lim xs i / 2 ^ lenN (lim xs (i + 1))) (decide (lim xs i % 2 ^ lenN (lim xs (i + 1)) ≠ 0) || decide (lo xs i ≠ 0)) ∧
    lim xs (i + 1) * 2 ^ (64 - lenN (lim xs (i + 1))) + lim xs i / 2 ^ lenN (lim xs (i + 1)) < 18446744073709551616 := by
  have hb := fbounds f
  have hp : 2 ^ (fm f + 1) ≤ 2 ^ 24 := Nat.pow_le_pow_right (by decide) (by omega)
  have hl := lo_lt hx i
  have ha := hx.lt (i + 1)
  have hc := hx.lt i
  rw [lo_succ, lo_succ]
  generalize lo xs i = W at *
  generalize lim xs (i + 1) = a at *
  generalize lim xs i = c at *
  have n1 := lenN_bound a 64 ha
  have n2 := lenN_pos a h0
  have n3 := lenN_le a h0
  have n4 := lenN_lt a
  generalize lenN a = n at *
  have pk : 2 ^ n * 2 ^ (64 - n) = 18446744073709551616 := by
    rw [← Nat.pow_add, show n + (64 - n) = 64 by omega]
  have pn := Nat.two_pow_pos n
  have pk0 := Nat.two_pow_pos (64 - n)
  have cd : c / 2 ^ n < 2 ^ (64 - n) := (Nat.div_lt_iff_lt_mul pn).mpr (by rw [Nat.mul_comm, pk]; exact hc)
  have cm := Nat.mod_lt c pn
  have cdm := Nat.div_add_mod c (2 ^ n)
  have a63 : 9223372036854775808 ≤ a * 2 ^ (64 - n) := by
    have h := Nat.mul_le_mul_right (2 ^ (64 - n)) n3
    rw [← Nat.pow_add, show n - 1 + (64 - n) = 63 by omega] at h
    have : (2 : Nat) ^ 63 = 9223372036854775808 := by decide
    omega
  have a64 : a * 2 ^ (64 - n) + 2 ^ (64 - n) ≤ 18446744073709551616 := by
    have h := Nat.mul_le_mul_right (2 ^ (64 - n)) n4
    rw [pk, Nat.succ_mul] at h; exact h
  have e : W + c * 2 ^ (64 * i) + a * 2 ^ (64 * (i + 1)) = (a * 2 ^ (64 - n) + c / 2 ^ n) * 2 ^ (n + 64 * i) + (c % 2 ^ n * 2 ^ (64 * i) + W) := by
    rw [Nat.pow_add, show 64 * (i + 1) = 64 + 64 * i by omega, Nat.pow_add, show (2 : Nat) ^ 64 = 2 ^ n * 2 ^ (64 - n) by rw [pk], ← Nat.mul_assoc, ← Nat.mul_assoc, ← Nat.mul_assoc, Nat.add_mul]
    have h1 : c * 2 ^ (64 * i) = c / 2 ^ n * 2 ^ n * 2 ^ (64 * i) + c % 2 ^ n * 2 ^ (64 * i) := by
      rw [← Nat.add_mul, Nat.mul_comm (c / 2 ^ n), cdm]
    rw [h1, Nat.add_mul, Nat.mul_right_comm a (2 ^ n)]
    generalize a * 2 ^ (64 - n) * 2 ^ n * 2 ^ (64 * i) = Z1
    generalize c / 2 ^ n * 2 ^ n * 2 ^ (64 * i) = Z2
    generalize c % 2 ^ n * 2 ^ (64 * i) = Z3
    omega
  have small : c % 2 ^ n * 2 ^ (64 * i) + W < 2 ^ (n + 64 * i) := by
    have h := Nat.mul_le_mul_right (2 ^ (64 * i)) (show c % 2 ^ n + 1 ≤ 2 ^ n from cm)
    rw [Nat.add_mul, Nat.one_mul, ← Nat.pow_add] at h
    exact Nat.lt_of_lt_of_le (Nat.add_lt_add_left hl _) h
  obtain ⟨q1, q2⟩ := pack_refine f mode neg (-298) (a * 2 ^ (64 - n) + c / 2 ^ n) (c % 2 ^ n * 2 ^ (64 * i) + W) (n + 64 * i) false small (Nat.le_trans hp (Nat.le_trans (show 2 ^ 24 ≤ a * 2 ^ (64 - n) by omega) (Nat.le_add_right _ _)))
  have t : decide (c % 2 ^ n * 2 ^ (64 * i) + W ≠ 0) = (decide (c % 2 ^ n ≠ 0) || decide (W ≠ 0)) := by
    have pi := Nat.two_pow_pos (64 * i)
    by_cases c0 : c % 2 ^ n = 0
    · rw [c0, Nat.zero_mul, Nat.zero_add]; simp
    · have : c % 2 ^ n * 2 ^ (64 * i) ≠ 0 := Nat.mul_ne_zero c0 (by omega)
      rw [decide_eq_true (show c % 2 ^ n * 2 ^ (64 * i) + W ≠ 0 by omega), decide_eq_true (show c % 2 ^ n ≠ 0 from c0)]; rfl
  rw [e, q1, q2, Bool.false_or, t, show (-298 : Int) + ((n + 64 * i : Nat) : Int) = 64 * ((i : Int) + 1) - 298 - (64 - (n : Int)) by omega]
  exact ⟨rfl, rfl, by omega⟩
theorem wide_exp (i L : Nat) (hi : i < 10) (h1 : L ≤ 64) : wrap64 (wrap64 (wrap64 (64 * ((i + 1 : Nat) : Int)) - 298) - ((64 - L : Nat) : Int)) = 64 * ((i : Int) + 1) - 298 - (64 - (L : Int)) ∧ -10000 ≤ 64 * ((i : Int) + 1) - 298 - (64 - (L : Int)) ∧ 64 * ((i : Int) + 1) - 298 - (64 - (L : Int)) ≤ 10000 := by
  rw [w64_id (64 * _) (by omega) (by omega), w64_id (64 * _ - 298) (by omega) (by omega), w64_id _ (by omega) (by omega)]; omega
theorem full_more (c : Nat) (hc : c < 18446744073709551616) : (!((c : Int) == 0)) = decide (c % 2 ^ 64 ≠ 0) := by
  rw [show c % 2 ^ 64 = c from Nat.mod_eq_of_lt (by rw [show (2 : Nat) ^ 64 = 18446744073709551616 by decide]; exact hc)]
  by_cases c0 : c = 0
  · rw [c0]; rfl
  · rw [beq_eq_false_iff_ne.mpr (show (c : Int) ≠ 0 by omega), decide_eq_true c0]; rfl
theorem full_sig (a c : Nat) (hc : c < 18446744073709551616) : a * 2 ^ (64 - 64) + c / 2 ^ 64 = a := by
  rw [Nat.div_eq_of_lt (by rw [show (2 : Nat) ^ 64 = 18446744073709551616 by decide]; exact hc), Nat.sub_self, Nat.pow_zero, Nat.mul_one, Nat.add_zero]
theorem part_sig (a c L : Nat) (hL : L ≤ 64) (hc : c < 18446744073709551616) (n4 : a < 2 ^ L) : Go.bits .or .u64 (shl .u64 (a : Int) ((64 - L : Nat) : Int)) (shr .u64 (c : Int) (L : Int)) = ((a * 2 ^ (64 - L) + c / 2 ^ L : Nat) : Int) := by
  have e64 : L + (64 - L) = 64 := by clear n4 hc; omega
  have pn := Nat.two_pow_pos L
  have cd : c / 2 ^ L < 2 ^ (64 - L) := (Nat.div_lt_iff_lt_mul pn).mpr (by
    rw [← Nat.pow_add, Nat.add_comm, e64]; exact hc)
  have a64 : a * 2 ^ (64 - L) < 18446744073709551616 := by
    have h := Nat.mul_lt_mul_of_pos_right n4 (Nat.two_pow_pos (64 - L))
    rw [← Nat.pow_add, e64] at h; exact h
  rw [shl_u64, shr_u64 _ _ hc, Nat.mod_eq_of_lt a64, or_u64 _ _ a64 (Nat.lt_of_le_of_lt (Nat.div_le_self _ _) hc), or_add _ _ (64 - L) (Nat.mul_mod_left _ _) cd]
theorem part_more (c L : Nat) (hL : L ≤ 64) : (!(shl .u64 (c : Int) ((64 - L : Nat) : Int) == 0)) = decide (c % 2 ^ L ≠ 0) := by
  have e64 : L + (64 - L) = 64 := by omega
  have h1 : c * 2 ^ (64 - L) % 18446744073709551616 = c % 2 ^ L * 2 ^ (64 - L) := by
    rw [show (18446744073709551616 : Nat) = 2 ^ L * 2 ^ (64 - L) by rw [← Nat.pow_add, e64]]
    exact Nat.mul_mod_mul_right _ _ _
  rw [shl_u64, h1]
  by_cases c0 : c % 2 ^ L = 0
  · rw [c0, Nat.zero_mul]; rfl
  · have : c % 2 ^ L * 2 ^ (64 - L) ≠ 0 := Nat.mul_ne_zero c0 (Nat.ne_of_gt (Nat.two_pow_pos _))
    rw [beq_eq_false_iff_ne.mpr (show ((c % 2 ^ L * 2 ^ (64 - L) : Nat) : Int) ≠ 0 from fun e => this (Int.ofNat.inj e)), decide_eq_true c0]; rfl
theorem len_small (L : Nat) (n1 : L ≤ 64) : wrap64 (64 - (L : Int)) = ((64 - L : Nat) : Int) ∧ (0 : Int) ≤ (L : Int) ∧ (0 : Int) ≤ ((64 - L : Nat) : Int) := by
  rw [w64_id _ (by omega) (by omega)]; omega
theorem idx_small (i : Nat) (h : i + 1 < 10) : (0 : Int) ≤ ((i + 1 : Nat) : Int) ∧ ((i + 1 : Nat) : Int) < 10 ∧ (0 : Int) < ((i + 1 : Nat) : Int) ∧ wrap64 (((i + 1 : Nat) : Int) - 1) = (i : Int) ∧ (0 : Int) ≤ (i : Int) ∧ (i : Int) < 10 ∧ ((i + 1 : Nat) : Int) = (i : Int) + 1 := by
  rw [w64_id _ (by omega) (by omega)]; omega
theorem natCast_ne {a : Nat} (h : a ≠ 0) : ¬ ((a : Int) = 0) := by omega
theorem rounded_one (f mode : Int) (neg c0 c1 c2 c3 c4 : Bool) {xs : List Int} (i : Nat) (hi : i + 1 < 10) (a c L : Nat) (r : Int × Bool × Bool × Bool × Bool × Bool) (ra : rd xs ((i + 1 : Nat) : Int) = (a : Int)) (rc : rd xs (i : Int) = (c : Int)) (ha : a ≠ 0) (hc : c < 18446744073709551616) (n1 : L ≤ 64) (n4 : a < 2 ^ L)
    (hln : Ev (fun n => annealref1_Len.f n (a : Int)) (L : Int))
    (fin : ∀ (more : Bool) (top : Int), top = (i : Int) + 1 → more = decide (c % 2 ^ L ≠ 0) →
          Ev2 (fun k n => annealref1_rounded.l19 k n ((0 : Nat) : Int) more (64 * ((i : Int) + 1) - 298 - (64 - (L : Int))) ((a * 2 ^ (64 - L) + c / 2 ^ L : Nat) : Int) top mode f c0 c1 c2 c3 c4 neg xs) r) :
    Ev2 (fun k n => annealref1_rounded.l2 k n ((i + 1 : Nat) : Int) mode f c0 c1 c2 c3 c4 neg xs) r := by
  obtain ⟨j0, j1, jp, hw, k0, k1, tp⟩ := idx_small i hi
  obtain ⟨w1, l0, l1⟩ := len_small L n1
  have za := natCast_ne ha
  have w2 := (wide_exp i L (Nat.lt_of_succ_lt hi) n1).1
  refine Ev2.step (fun k n => by rw [annealref1_rounded.l2_eq, if_pos j0, if_pos j1, ra, if_neg za, if_pos j0, if_pos j1]) (Ev2.bind hln ?_)
  by_cases full : L = 64
  · have f1 : ((L : Int) = 64) := by rw [full]; rfl
    have f2 : ¬ ((L : Int) < 64) := by rw [f1]; decide
    have sg : a * 2 ^ (64 - L) + c / 2 ^ L = a := by rw [full]; exact full_sig a c hc
    have more : (!((c : Int) == 0)) = decide (c % 2 ^ L ≠ 0) := by rw [full]; exact full_more c hc
    rw [sg] at fin
    refine Ev2.congr (fun k n => by
      rw [if_pos j0, if_pos j1, if_pos jp, w1, if_pos l1, hw, if_pos k0, if_pos k1, if_pos l0, if_pos f1, if_pos j0, if_pos j1, if_pos k0, if_pos k1, if_neg f2, w2, rc, more]) ?_
    exact (fin _ _ tp rfl).inner
  · have f1 : ¬ ((L : Int) = 64) := fun e => full (by clear n4 fin hln; omega)
    have f2 : (L : Int) < 64 := by clear n4 fin hln; omega
    have sg := part_sig a c L n1 hc n4
    have more := part_more c L n1
    refine Ev2.congr (fun k n => by
      rw [if_pos j0, if_pos j1, if_pos jp, w1, if_pos l1, hw, if_pos k0, if_pos k1, if_pos l0, if_neg f1, if_pos k0, if_pos k1, if_pos f2, if_pos l1, w2, rc, sg, more]) ?_
    exact (fin _ _ tp rfl).inner
theorem rounded_l2 (f mode : Int) (neg c0 c1 c2 c3 c4 : Bool) {xs : List Int} (hx : Lims xs) (j : Nat) : j < 10 → lo xs (j + 1) ≠ 0 →
    Ev2 (fun k n => annealref1_rounded.l2 k n (j : Int) mode f c0 c1 c2 c3 c4 neg xs) ((packN f mode neg (-298) (lo xs (j + 1)) false : Int), false, false, excN f mode neg (-298) (lo xs (j + 1)) false) := by
  induction j with
  | zero =>
    intro _ h
    rw [lo_succ, lo_none, Nat.zero_add, Nat.mul_zero, Nat.pow_zero, Nat.mul_one] at h ⊢
    have h1 := hx.lt 0
    have hp := ref_pack_ev f mode neg (-298) (lim xs 0) false h1
    rw [clampE_id _ (by omega) (by omega)] at hp
    have w0 : wrap64 (wrap64 (64 * ((0 : Nat) : Int)) - 298) = -298 := by unfold wrap64; omega
    have r0 := hx.rd 0
    refine Ev2.step (fun k n => by rw [annealref1_rounded.l2_eq, if_pos (by decide), if_pos (by decide), r0, if_neg (by omega), if_pos (by decide), if_pos (by decide)]) ?_
    refine Ev2.bind (ref_len_ev _ h1) ?_
    refine Ev2.congr (fun k n => by rw [if_pos (by decide), if_pos (by decide), if_neg (by decide), w0]) ?_
    exact Ev2.bind hp (Ev2.now _)
  | succ i ih =>
    intro hj h
    have j0 : (0 : Int) ≤ ((i + 1 : Nat) : Int) := by omega
    have j1 : ((i + 1 : Nat) : Int) < 10 := by omega
    have jp : (0 : Int) < ((i + 1 : Nat) : Int) := by omega
    have hw : wrap64 (((i + 1 : Nat) : Int) - 1) = (i : Int) := by rw [w64_id _ (by omega) (by omega)]; omega
    have k0 : (0 : Int) ≤ (i : Int) := by omega
    have k1 : (i : Int) < 10 := by omega
    by_cases z : lim xs (i + 1) = 0
    · have e : lo xs (i + 1 + 1) = lo xs (i + 1) := by rw [lo_succ xs (i + 1), z, Nat.zero_mul, Nat.add_zero]
      rw [e] at h ⊢
      refine Ev2.step (fun k n => by rw [annealref1_rounded.l2_eq, if_pos j0, if_pos j1, hx.rd (i + 1), if_pos (by rw [z]; rfl), hw]) ?_
      exact ih (by omega) h
    · obtain ⟨p1, p2, p3⟩ := rounded_low f mode i neg hx (by omega) z
      have ha := hx.lt (i + 1)
      have hc := hx.lt i
      have ra := hx.rd (i + 1)
      have rc := hx.rd i
      have n1 := lenN_bound _ 64 ha
      have n2 := lenN_pos _ z
      have n4 := lenN_lt (lim xs (i + 1))
      have hln := ref_len_ev _ ha
      have fin : ∀ (more : Bool) (top : Int), top = (i : Int) + 1 → more = decide (lim xs i % 2 ^ lenN (lim xs (i + 1)) ≠ 0) →
          Ev2 (fun k n => annealref1_rounded.l19 k n ((0 : Nat) : Int) more (64 * ((i : Int) + 1) - 298 - (64 - (lenN (lim xs (i + 1)) : Int))) ((lim xs (i + 1) * 2 ^ (64 - lenN (lim xs (i + 1))) + lim xs i / 2 ^ lenN (lim xs (i + 1)) : Nat) : Int) top mode f c0 c1 c2 c3 c4 neg xs) ((packN f mode neg (-298) (lo xs (i + 1 + 1)) false : Int), false, false, excN f mode neg (-298) (lo xs (i + 1 + 1)) false) := by
        intro more top ht hm
        refine rounded_l19 f mode _ _ top i neg c0 c1 c2 c3 c4 hx _ ht (by omega) i 0 more (by omega) ?_
        rw [anyL_lo, hm, p1, p2]
        have hp := ref_pack_ev f mode neg (64 * ((i : Int) + 1) - 298 - (64 - (lenN (lim xs (i + 1)) : Int))) (lim xs (i + 1) * 2 ^ (64 - lenN (lim xs (i + 1))) + lim xs i / 2 ^ lenN (lim xs (i + 1))) (decide (lim xs i % 2 ^ lenN (lim xs (i + 1)) ≠ 0) || decide (lo xs i ≠ 0)) p3
        have we := wide_exp i (lenN (lim xs (i + 1))) (Nat.lt_of_succ_lt hj) n1
        rw [clampE_id _ we.2.1 we.2.2] at hp
        exact hp
      exact rounded_one f mode neg c0 c1 c2 c3 c4 i hj _ _ _ _ (hx.rd (i + 1)) (hx.rd i) z hc n1 n4 hln fin
end Go.Proofs.Ytejkemahdincjaa.Round

/- With the other sign: the reference's, as plain numbers. -/
namespace Go.Proofs.Ytejkemahdincjaa.Round
open Go.RowKit Go.Proofs.Ytejkemahdincjaa.P Go.Proofs.Ytejkemahdincjaa.Num Go.Proofs.Ytejkemahdincjaa.BitsF Go.Proofs.Ytejkemahdincjaa.Fmt Go.Proofs.YtejkemahdincjaaW.PrintWords Go.Proofs.YtejkemahdincjaaW.PrintLast Go.Proofs.YtejkemahdincjaaW.PrintMore

end Go.Proofs.Ytejkemahdincjaa.Round

/- The reference's sums: as plain numbers. -/
namespace Go.Proofs.Ytejkemahdincjaa.Round
open Go.RowKit Go.Proofs.Ytejkemahdincjaa.P Go.Proofs.Ytejkemahdincjaa.E Go.Proofs.Ytejkemahdincjaa.Num Go.Proofs.Ytejkemahdincjaa.BitsF Go.Proofs.Ytejkemahdincjaa.Fmt Go.Proofs.YtejkemahdincjaaW.PrintWords Go.Proofs.YtejkemahdincjaaW.PrintLast Go.Proofs.YtejkemahdincjaaW.PrintMore

theorem rounded_ev (f mode : Int) (neg : Bool) {xs : List Int} (hx : Lims xs) (h : lo xs 10 ≠ 0) : Ev (fun n => E.annealref1_rounded.f n f mode neg xs) ((packN f mode neg (-298) (lo xs 10) false : Int), false, false, excN f mode neg (-298) (lo xs 10) false) :=
  Ev.congr (fun n => annealref1_rounded.eq n f mode neg xs) (rounded_l2 f mode neg false false false false false hx 9 (by decide) h).diag
theorem total_ev (f mode : Int) (xn yn : Bool) {xs ys : List Int} (hx : Lims xs) (hy : Lims ys) (h : lo xs 10 + lo ys 10 < T640) :
    Ev (fun n => E.annealref1_total.f n f mode xn xs yn ys) (((if (wideN xn (lo xs 10) yn (lo ys 10)).2 = 0 then signN f (decide (mode = 3)) else packN f mode (wideN xn (lo xs 10) yn (lo ys 10)).1 (-298) (wideN xn (lo xs 10) yn (lo ys 10)).2 false : Nat) : Int), false, false,
      (if (wideN xn (lo xs 10) yn (lo ys 10)).2 = 0 then (false, false, false) else excN f mode (wideN xn (lo xs 10) yn (lo ys 10)).1 (-298) (wideN xn (lo xs 10) yn (lo ys 10)).2 false)) := by
  obtain ⟨R, r1, r2, r3⟩ := plus_ev xn yn hx hy h
  refine Ev.congr (fun n => annealref1_total.eq n f mode xn xs yn ys) (Ev.bind r3 ?_)
  rw [← r2]
  have hm : ((mode == 3) : Bool) = decide (mode = 3) := by
    by_cases c : mode = 3
    · subst c; rfl
    · rw [decide_eq_false c]; exact beq_eq_false_iff_ne.mpr c
  by_cases z : lo R 10 = 0
  · rw [if_pos z, if_pos z]
    refine Ev.congr (fun n => ?_) (Ev.now _)
    rw [annealref1_nought.eq, Option.bind_some, nought_lims r1, if_pos (decide_eq_true z), ref_zero_f, Option.bind_some, hm]
  · rw [if_neg z, if_neg z]
    refine Ev.congr (fun n => ?_) (Ev.bind (f := fun _ t => some ((Prod.fst t, Prod.fst (Prod.snd t), Prod.fst (Prod.snd (Prod.snd t)), Prod.fst (Prod.snd (Prod.snd (Prod.snd t))), Prod.fst (Prod.snd (Prod.snd (Prod.snd (Prod.snd t)))), Prod.snd (Prod.snd (Prod.snd (Prod.snd (Prod.snd t)))))) ) (rounded_ev f mode (wideN xn (lo xs 10) yn (lo ys 10)).1 r1 z) (Ev.now _))
    rw [annealref1_nought.eq, Option.bind_some, nought_lims r1, if_neg (by rw [decide_eq_true_iff]; exact z)]
theorem lowest_fin (f : Int) (v : Nat) (h : clsN f v < 3) : -149 ≤ lowestN f v ∧ lowestN f v ≤ 120 := by
  have ht := (cls_finite f v).mp h
  unfold lowestN leastN
  unfold topN at ht
  generalize expN f v = e at *
  rcases fcases f with ⟨h1, h2⟩ | ⟨h1, h2⟩ | ⟨h1, h2⟩ <;> rw [h1] at ht <;> rw [h1, h2] <;> simp at ht ⊢ <;> omega
theorem whole_none (f : Int) (v : Nat) (h : clsN f v < 3) (z : wholeN f v = 0) : clsN f v = 0 := by
  have hp := Nat.two_pow_pos (fm f)
  unfold wholeN at z
  unfold clsN at h ⊢
  by_cases e : expN f v = 0
  · rw [if_pos e] at z
    rw [if_pos e, if_pos z]
  · rw [if_neg e] at z; omega
theorem spread_pair (s1 s2 : Nat) (e1 e2 : Int) (h1 : s1 < 1152921504606846976) (h2 : s2 < 1152921504606846976) (u1 : e1 ≤ 250) (u2 : e2 ≤ 250) : s1 * 2 ^ (e1 + 298).toNat + s2 * 2 ^ (e2 + 298).toNat < T640 := by
  obtain ⟨K, hK⟩ : ∃ K : Nat, K = 548 := ⟨_, rfl⟩
  have b : ∀ (s : Nat) (e : Int), s < 1152921504606846976 → e ≤ 250 → s * 2 ^ (e + 298).toNat < 2 ^ (60 + K) := by
    intro s e hs he
    have h1 : (2 : Nat) ^ (e + 298).toNat ≤ 2 ^ K := Nat.pow_le_pow_right (by decide) (by omega)
    have h3 : s * 2 ^ K < 2 ^ 60 * 2 ^ K := Nat.mul_lt_mul_of_pos_right (by rw [show (2 : Nat) ^ 60 = 1152921504606846976 by decide]; exact hs) (Nat.two_pow_pos _)
    rw [← Nat.pow_add] at h3
    exact Nat.lt_of_le_of_lt (Nat.mul_le_mul_left _ h1) h3
  have c : (2 : Nat) ^ (60 + K) + 2 ^ (60 + K) = 2 ^ (60 + K + 1) := by rw [Nat.pow_succ, Nat.mul_two]
  obtain ⟨M, hM⟩ : ∃ M : Nat, M = 64 * 10 := ⟨_, rfl⟩
  have d : (2 : Nat) ^ (60 + K + 1) ≤ 2 ^ M := Nat.pow_le_pow_right (by decide) (by omega)
  rw [← T640_eq, ← hM]
  rw [← c] at d
  exact Nat.lt_of_lt_of_le (Nat.add_lt_add (b s1 e1 h1 u1) (b s2 e2 h2 u2)) d
theorem wide_total (f mode : Int) (n1 : Bool) (e1 : Int) (s1 : Nat) (n2 : Bool) (e2 : Int) (s2 : Nat) (l1 : -298 ≤ e1) (u1 : e1 ≤ 250) (l2 : -298 ≤ e2) (u2 : e2 ≤ 250) (h1 : s1 < 1152921504606846976) (h2 : s2 < 1152921504606846976)
    (hne : n1 = n2 → s1 = 0 → s2 = 0 → False) {xs ys : List Int} (hx : Lims xs) (hy : Lims ys) (vx : lo xs 10 = s1 * 2 ^ (e1 + 298).toNat) (vy : lo ys 10 = s2 * 2 ^ (e2 + 298).toNat) :
    Ev (fun n => E.annealref1_total.f n f mode n1 xs n2 ys) ((roundedN f mode n1 n2 (exactN n1 e1 s1 n2 e2 s2) : Int), false, false, roundedX f mode (exactN n1 e1 s1 n2 e2 s2)) := by
  obtain ⟨w1, w2⟩ := exact_wide f mode n1 e1 s1 n2 e2 s2 l1 l2 h1 h2
  have t := total_ev f mode n1 n2 hx hy (by rw [vx, vy]; exact spread_pair s1 s2 e1 e2 h1 h2 u1 u2)
  rw [vx, vy] at t
  rw [w1, w2]
  by_cases z : (wideN n1 (s1 * 2 ^ (e1 + 298).toNat) n2 (s2 * 2 ^ (e2 + 298).toNat)).2 = 0
  · have hn : n1 ≠ n2 := by
      intro e
      have w : wideN n1 (s1 * 2 ^ (e1 + 298).toNat) n2 (s2 * 2 ^ (e2 + 298).toNat) = (n1, s1 * 2 ^ (e1 + 298).toNat + s2 * 2 ^ (e2 + 298).toNat) := if_pos e
      rw [w] at z
      have z1 := (Nat.add_eq_zero_iff.mp z).1
      have z2 := (Nat.add_eq_zero_iff.mp z).2
      exact hne e ((Nat.mul_eq_zero.mp z1).resolve_right (Nat.ne_of_gt (Nat.two_pow_pos _))) ((Nat.mul_eq_zero.mp z2).resolve_right (Nat.ne_of_gt (Nat.two_pow_pos _)))
    rw [if_pos z, if_pos z] at t
    rw [if_pos z, if_pos z]
    have hno : noughtN f mode n1 n2 = signN f (decide (mode = 3)) := if_neg hn
    rw [hno]; exact t
  · rw [if_neg z, if_neg z] at t
    rw [if_neg z, if_neg z]; exact t
theorem whole_60 (f : Int) (v : Nat) : wholeN f v < 1152921504606846976 := by
  have wa := whole_lt f v
  have hbd := fbounds f
  have hp24 : 2 ^ (fm f + 1) ≤ 16777216 := Nat.pow_le_pow_right (show 0 < 2 by decide) (show fm f + 1 ≤ 24 by omega)
  omega
theorem add_j12 (f mode : Int) (a b : Nat) (ha : a < 4294967296) (hb : b < 4294967296) (ca : clsN f a < 3) (cb : clsN f b < 3) (hne : ¬ (clsN f a = 0 ∧ clsN f b = 0 ∧ negN f a = negN f b)) (c0 c1 c2 c3 c4 : Bool) :
    Ev (fun n => E.annealref1_Add.j12 n (b : Int) (a : Int) mode f c0 c1 c2 c3 c4) ((roundedN f mode (negN f a) (negN f b) (pairN f a b) : Int), false, false, roundedX f mode (pairN f a b)) := by
  obtain ⟨l1, l2⟩ := lowest_fin f a ca
  obtain ⟨m1, m2⟩ := lowest_fin f b cb
  obtain ⟨R, r1, r2, r3⟩ := spread_ev (negN f a) (lowestN f a) (wholeN f a) (by omega) (by omega) (whole_60 f a)
  obtain ⟨S, s1, s2, s3⟩ := spread_ev (negN f b) (lowestN f b) (wholeN f b) (by omega) (by omega) (whole_60 f b)
  refine Ev.congr (fun n => annealref1_Add.j12_eq n b a mode f c0 c1 c2 c3 c4) (Ev.bind (runpack_ev f a ha (cls_exp f a ca)) (Ev.bind r3 (Ev.bind (runpack_ev f b hb (cls_exp f b cb)) (Ev.bind s3 ?_))))
  exact Ev.bind (wide_total f mode _ _ _ _ _ _ (by omega) (by omega) (by omega) (by omega) (whole_60 f a) (whole_60 f b) (fun e z1 z2 => hne ⟨whole_none f a ca z1, whole_none f b cb z2, e⟩) r1 s1 r2 s2) (Ev.now _)
theorem add_j6 (f mode : Int) (a b : Nat) (ha : a < 4294967296) (hb : b < 4294967296) (na : ¬ 4 ≤ clsN f a) (nb : ¬ 4 ≤ clsN f b) (hne : ¬ (clsN f a = 3 ∧ clsN f b = 3 ∧ negN f a ≠ negN f b)) (c0 c1 c2 c3 c4 : Bool) :
    Ev (fun n => E.annealref1_Add.j6 n (b : Int) (a : Int) mode f c0 c1 c2 c3 c4) ((sumN f mode a b : Int), sumX f mode a b) := by
  have n : ¬ (4 ≤ clsN f a ∨ 4 ≤ clsN f b) := by omega
  unfold sumN sumX
  rw [if_neg n, if_neg n, if_neg hne, if_neg hne]
  refine Ev.congr (fun n => annealref1_Add.j6_eq n b a mode f c0 c1 c2 c3 c4) (Ev.bind (rinf_ev f a ha) ?_)
  by_cases a3 : clsN f a = 3
  · rw [if_pos a3, if_pos (.inl a3)]
    exact Ev.congr (fun n => by rw [if_pos (decide_eq_true a3), ref_mask_f, Option.bind_some, and_mask f a ha, inf_low f a a3]) (Ev.now _)
  · refine Ev.congr (fun n => by rw [if_neg (by rw [decide_eq_true_iff]; exact a3)]) (Ev.bind (rinf_ev f b hb) ?_)
    rw [if_neg a3]
    by_cases b3 : clsN f b = 3
    · rw [if_pos b3, if_pos (.inr b3)]
      exact Ev.congr (fun n => by rw [if_pos (decide_eq_true b3), ref_mask_f, Option.bind_some, and_mask f b hb, inf_low f b b3]) (Ev.now _)
    · rw [if_neg b3, if_neg (show ¬ (clsN f a = 3 ∨ clsN f b = 3) by omega)]
      refine Ev.congr (fun n => by rw [if_neg (by rw [decide_eq_true_iff]; exact b3)]) (Ev.bind (rzero_ev f a ha) ?_)
      have fin := add_j12 f mode a b ha hb (by omega) (by omega)
      by_cases a0 : clsN f a = 0
      · refine Ev.congr (fun n => by rw [if_pos (decide_eq_true a0)]) (Ev.bind (rzero_ev f b hb) ?_)
        by_cases b0 : clsN f b = 0
        · by_cases e : negN f a = negN f b
          · refine Ev.congr (fun n => by rw [if_pos (decide_eq_true b0), rneg_f f a ha, Option.bind_some, rneg_f f b hb, Option.bind_some, if_pos (beq_iff_eq.mpr e), ref_mask_f, Option.bind_some, and_mask f a ha, (none_low f a a0).1]) ?_
            have w := exact_wide f mode (negN f a) (lowestN f a) (wholeN f a) (negN f b) (lowestN f b) (wholeN f b) (by have := (lowest_near f a).1; omega) (by have := (lowest_near f b).1; omega) (whole_60 f a) (whole_60 f b)
            unfold pairN
            rw [w.1, w.2]
            have hw : (wideN (negN f a) (wholeN f a * 2 ^ (lowestN f a + 298).toNat) (negN f b) (wholeN f b * 2 ^ (lowestN f b + 298).toNat)).2 = 0 := by
              rw [(none_low f a a0).2, (none_low f b b0).2, Nat.zero_mul, Nat.zero_mul]
              unfold wideN; rw [if_pos e]
            rw [if_pos hw, if_pos hw]
            have hno : noughtN f mode (negN f a) (negN f b) = signN f (negN f a) := if_pos e
            rw [hno]; exact Ev.now _
          · exact Ev.congr (fun n => by rw [if_pos (decide_eq_true b0), rneg_f f a ha, Option.bind_some, rneg_f f b hb, Option.bind_some, if_neg (by rw [beq_iff_eq]; exact e)]) (fin (fun h => e h.2.2) _ _ _ _ _)
        · exact Ev.congr (fun n => by rw [if_neg (by rw [decide_eq_true_iff]; exact b0)]) (fin (fun h => b0 h.2.1) _ _ _ _ _)
      · exact Ev.congr (fun n => by rw [if_neg (by rw [decide_eq_true_iff]; exact a0)]) (fin (fun h => a0 h.1) _ _ _ _ _)
theorem ref_add_ev (f mode : Int) (a b : Nat) (ha : a < 4294967296) (hb : b < 4294967296) : Ev (fun n => E.annealref1_Add.f n f mode (a : Int) (b : Int)) ((sumN f mode a b : Int), sumX f mode a b) := by
  refine Ev.congr (fun n => annealref1_Add.eq n f mode a b) (Ev.bind (nans2_ev f a b ha hb) ?_)
  by_cases n : 4 ≤ clsN f a ∨ 4 ≤ clsN f b
  · have e : (isNan f a || isNan f b) = true := by unfold isNan; rw [Bool.or_eq_true, decide_eq_true_iff, decide_eq_true_iff]; exact n
    unfold sumN sumX
    rw [if_pos n, if_pos n]
    exact Ev.congr (fun k => by rw [if_pos e, ref_nan_f, Option.bind_some]) (Ev.now _)
  · have e : ¬ (isNan f a || isNan f b) = true := by unfold isNan; rw [Bool.or_eq_true, decide_eq_true_iff, decide_eq_true_iff]; exact n
    have fin := add_j6 f mode a b ha hb (by omega) (by omega)
    refine Ev.congr (fun k => by rw [if_neg e]) (Ev.bind (rinf_ev f a ha) ?_)
    by_cases a3 : clsN f a = 3
    · refine Ev.congr (fun k => by rw [if_pos (decide_eq_true a3)]) (Ev.bind (rinf_ev f b hb) ?_)
      by_cases b3 : clsN f b = 3
      · by_cases s : negN f a = negN f b
        · exact Ev.congr (fun k => by rw [if_pos (decide_eq_true b3), rneg_f f a ha, Option.bind_some, rneg_f f b hb, Option.bind_some, if_pos (beq_iff_eq.mpr s)]) (fin (fun h => h.2.2 s) _ _ _ _ _)
        · have t : clsN f a = 3 ∧ clsN f b = 3 ∧ negN f a ≠ negN f b := ⟨a3, b3, s⟩
          unfold sumN sumX
          rw [if_neg n, if_neg n, if_pos t, if_pos t]
          exact Ev.congr (fun k => by rw [if_pos (decide_eq_true b3), rneg_f f a ha, Option.bind_some, rneg_f f b hb, Option.bind_some, if_neg (by rw [beq_iff_eq]; exact s), ref_nan_f, Option.bind_some]) (Ev.now _)
      · exact Ev.congr (fun k => by rw [if_neg (by rw [decide_eq_true_iff]; exact b3)]) (fin (fun h => b3 h.2.1) _ _ _ _ _)
    · exact Ev.congr (fun k => by rw [if_neg (by rw [decide_eq_true_iff]; exact a3)]) (fin (fun h => a3 h.1) _ _ _ _ _)
end Go.Proofs.Ytejkemahdincjaa.Round

/- Products: as plain numbers. -/
namespace Go.Proofs.Ytejkemahdincjaa.Round
open Go.RowKit Go.Proofs.Ytejkemahdincjaa.P Go.Proofs.Ytejkemahdincjaa.Num Go.Proofs.Ytejkemahdincjaa.BitsF Go.Proofs.Ytejkemahdincjaa.Fmt Go.Proofs.YtejkemahdincjaaW.PrintWords Go.Proofs.YtejkemahdincjaaW.PrintLast Go.Proofs.YtejkemahdincjaaW.PrintMore

end Go.Proofs.Ytejkemahdincjaa.Round
