import Derived.Test.YtlkjoibpfhjhcaaQsnM5
import Derived.Test.YtlkjoibpfhjhcaaQsnPackE
import Derived.Test.YtlkjoibpfhjhcaaQsnPx13
import Derived.Test.YtlkjoibpfhjhcaaQsnM1
import Derived.Test.YtlkjoibpfhjhcaaQsnM2
import Derived.Test.YtlkjoibpfhjhcaaQsnM4
import Derived.Test.YtlkjoibpfhjhcaaQsnPx14
import Derived.Test.YtlkjoibpfhjhcaaQsnPx26
/- Sums and differences: the program's, as plain numbers. -/
namespace Go.Proofs.Ytlkjoibpfhjhcaa.Round
open Go.RowKit Go.Proofs.Ytlkjoibpfhjhcaa.P Go.Proofs.Ytlkjoibpfhjhcaa.Num Go.Proofs.Ytlkjoibpfhjhcaa.BitsF Go.Proofs.Ytlkjoibpfhjhcaa.Fmt Go.Proofs.YtlkjoibpfhjhcaaW.PrintWords Go.Proofs.YtlkjoibpfhjhcaaW.PrintLast Go.Proofs.YtlkjoibpfhjhcaaW.PrintMore

theorem nought_f (f mode : Int) (a b : Bool) : sum_Nought.f f mode a b = some (noughtN f mode a b : Int) := by
  unfold sum_Nought.f noughtN
  have e3 : ((mode == 3) : Bool) = decide (mode = 3) := by
    by_cases c : mode = 3
    · subst c; rfl
    · rw [decide_eq_false c]; exact beq_eq_false_iff_ne.mpr c
  rw [e3]
  by_cases c : a = b
  · subst c; rw [if_pos (beq_self_eq_true a), if_pos rfl, zero_f]; rfl
  · rw [if_neg (show ¬ (a == b) = true by rw [beq_iff_eq]; exact c), if_neg c, zero_f]; rfl
theorem infinite_ev (f : Int) (a b x y : Bool) : Ev (fun k => sum_Infinite.f k f a b x y) (if x = true ∧ y = true ∧ a ≠ b then ((nanN f : Int), true, false, false, false, false) else if x = true then ((infN f a : Int), false, false, false, false, false) else ((infN f b : Int), false, false, false, false, false)) := by
  have bad : Ev (fun k => sum_Infinite.j0 k f a b x true) ((nanN f : Int), true, false, false, false, false) :=
    Ev.step (fun k => by rw [sum_Infinite.j0, if_pos rfl, bad_f]; rfl) (Ev.now _)
  have left : x = true → Ev (fun k => sum_Infinite.j0 k f a b x false) ((infN f a : Int), false, false, false, false, false) := fun h =>
    Ev.step (fun k => by rw [sum_Infinite.j0, if_neg (by decide), if_pos h, inf_f]; rfl) (Ev.now _)
  have right : ¬ x = true → Ev (fun k => sum_Infinite.j0 k f a b x false) ((infN f b : Int), false, false, false, false, false) := fun h =>
    Ev.step (fun k => by rw [sum_Infinite.j0, if_neg (by decide), if_neg h, inf_f]; rfl) (Ev.now _)
  refine Ev.congr (fun k => by unfold sum_Infinite.f; rfl) ?_
  by_cases hx : x = true
  · by_cases hy : y = true
    · by_cases n : a = b
      · rw [if_neg (fun h => h.2.2 n), if_pos hx]
        refine Ev.congr (fun k => ?_) (left hx)
        rw [if_pos hx, if_pos hy, n, bne_self_eq_false]
      · rw [if_pos ⟨hx, hy, n⟩]
        refine Ev.congr (fun k => ?_) bad
        rw [if_pos hx, if_pos hy, bne_iff_ne.mpr n]
    · rw [if_neg (fun h => hy h.2.1), if_pos hx]
      exact Ev.congr (fun k => by rw [if_pos hx, if_neg hy]) (left hx)
  · rw [if_neg (fun h => hx h.1), if_neg hx]
    exact Ev.congr (fun k => by rw [if_neg hx]) (right hx)
theorem whole_62 (f : Int) (v : Nat) : wholeN f v < 4611686018427387904 := by
  have h := fbounds f
  have h1 := whole_lt f v
  have h2 := pow_le31 (show fm f + 1 ≤ 31 by omega)
  omega
theorem add_ev (f mode : Int) (a b : Nat) (ha : a < 4294967296) (hb : b < 4294967296) : Ev (fun k => sum_Add.f k f mode (a : Int) (b : Int)) ((sumN f mode a b : Int), sumX f mode a b) := by
  have hla := cls_le f a
  have hlb := cls_le f b
  refine Ev.congr (fun k => by unfold sum_Add.f; rfl) (Ev.bind (pnans2_ev f a b ha hb) ?_)
  unfold sumN sumX
  by_cases n : 4 ≤ clsN f a ∨ 4 ≤ clsN f b
  · have e : (isNan f a || isNan f b) = true := by unfold isNan; rw [Bool.or_eq_true, decide_eq_true_iff, decide_eq_true_iff]; exact n
    rw [if_pos n, if_pos n]
    exact Ev.congr (fun k => by rw [if_pos e]) (Ev.now _)
  · have e : ¬ (isNan f a || isNan f b) = true := by unfold isNan; rw [Bool.or_eq_true, decide_eq_true_iff, decide_eq_true_iff]; exact n
    rw [if_neg n, if_neg n]
    refine Ev.congr (fun k => by rw [if_neg e]) (Ev.bind (pinf_ev f a ha) (Ev.bind (pinf_ev f b hb) ?_))
    by_cases i : clsN f a = 3 ∨ clsN f b = 3
    · have hj : Ev (fun k => sum_Add.j0 k f mode (a : Int) (b : Int) (decide (clsN f a = 3)) (decide (clsN f b = 3)) true)
          ((((if clsN f a = 3 ∧ clsN f b = 3 ∧ negN f a ≠ negN f b then nanN f else if clsN f a = 3 then infN f (negN f a) else if clsN f b = 3 then infN f (negN f b) else roundedN f mode (negN f a) (negN f b) (pairN f a b) : Nat) : Int)),
            if clsN f a = 3 ∧ clsN f b = 3 ∧ negN f a ≠ negN f b then (true, false, false, false, false) else if clsN f a = 3 ∨ clsN f b = 3 then (false, false, false, false, false) else (false, false, roundedX f mode (pairN f a b))) := by
        have hin := infinite_ev f (negN f a) (negN f b) (decide (clsN f a = 3)) (decide (clsN f b = 3))
        simp only [decide_eq_true_iff] at hin
        refine Ev.step (fun k => by rw [sum_Add.j0, if_pos rfl, neg_f f a ha, Option.bind_some, neg_f f b hb, Option.bind_some]) (Ev.bind hin (Ev.congr (fun k => ?_) (Ev.now _)))
        by_cases t : clsN f a = 3 ∧ clsN f b = 3 ∧ negN f a ≠ negN f b
        · rw [if_pos t, if_pos t, if_pos t]
        · rw [if_neg t, if_neg t, if_neg t, if_pos i]
          by_cases a3 : clsN f a = 3
          · rw [if_pos a3, if_pos a3]
          · rw [if_neg a3, if_neg a3, if_pos (i.resolve_left a3)]
      by_cases a3 : clsN f a = 3
      · exact Ev.congr (fun k => by rw [if_pos (decide_eq_true a3)]) hj
      · refine Ev.congr (fun k => by rw [if_neg (by simp [a3])]) ?_
        rw [show decide (clsN f b = 3) = true from decide_eq_true (i.resolve_left a3)] at hj ⊢
        exact hj
    · have a3 : ¬ clsN f a = 3 := fun h => i (.inl h)
      have b3 : ¬ clsN f b = 3 := fun h => i (.inr h)
      rw [if_neg (fun h => a3 h.1), if_neg a3, if_neg b3, if_neg (fun h => a3 h.1), if_neg i]
      obtain ⟨l1, l2⟩ := lowest_near f a
      obtain ⟨m1, m2⟩ := lowest_near f b
      have hx := exact_ev (negN f a) (lowestN f a) (wholeN f a) (negN f b) (lowestN f b) (wholeN f b) (whole_62 f a) (whole_62 f b) (by omega) (by omega) (by omega) (by omega)
      obtain ⟨x1, x2, x3⟩ := exact_bounds (negN f a) (lowestN f a) (wholeN f a) (negN f b) (lowestN f b) (wholeN f b) (whole_62 f a) (whole_62 f b) (by omega) (by omega) (by omega) (by omega)
      rw [decide_eq_false a3, decide_eq_false b3]
      refine Ev.congr (fun k => by rw [if_neg (by decide)]) (Ev.step (fun k => by rw [sum_Add.j0, if_neg (by decide), of_f f a ha (cls_exp f a (by omega)), Option.bind_some, of_f f b hb (cls_exp f b (by omega)), Option.bind_some]) ?_)
      dsimp only
      refine Ev.bind hx ?_
      unfold pairN castE
      generalize exactN (negN f a) (lowestN f a) (wholeN f a) (negN f b) (lowestN f b) (wholeN f b) = r at *
      obtain ⟨rn, re, rs, rm⟩ := r
      dsimp only at *
      have hp := packs_ev f mode rn re rs rm (by omega)
      rw [clampE_id _ (by omega) (by omega)] at hp
      have pack : ¬ (rs = 0 ∧ rm = false) → Ev (fun k => sum_Add.j1 k f mode false (negN f a) (lowestN f a) (wholeN f a : Int) false (negN f b) (lowestN f b) (wholeN f b : Int) false rn re (rs : Int) rm) ((roundedN f mode (negN f a) (negN f b) (rn, re, rs, rm) : Int), false, false, roundedX f mode (rn, re, rs, rm)) := by
        intro z
        have zz : ¬ (rs, rm) = (0, false) := fun e => z ⟨(Prod.mk.inj e).1, (Prod.mk.inj e).2⟩
        unfold roundedN roundedX
        rw [if_neg zz, if_neg zz]
        exact Ev.step (fun k => by rw [sum_Add.j1, if_neg (by decide)]) (Ev.bind hp (Ev.now _))
      by_cases s0 : rs = 0
      · cases rm
        · have zz : (rs, false) = (0, false) := by rw [s0]
          refine Ev.congr (fun k => by rw [if_pos (by omega)]) (Ev.step (fun k => by rw [sum_Add.j1, if_pos (by decide), nought_f]) (Ev.congr (fun k => ?_) (Ev.now _)))
          unfold roundedN roundedX
          rw [if_pos zz, if_pos zz]; rfl
        · exact Ev.congr (fun k => by rw [if_pos (by omega)]; rfl) (pack (by simp))
      · exact Ev.congr (fun k => by rw [if_neg (by omega)]) (pack (fun h => s0 h.1))
end Go.Proofs.Ytlkjoibpfhjhcaa.Round

/- Amounts: what a number's bits without its sign stand for, in units of the least number; rounding depends on the amount alone. -/
namespace Go.Proofs.Ytlkjoibpfhjhcaa.Round
open Go.RowKit Go.Proofs.Ytlkjoibpfhjhcaa.P Go.Proofs.Ytlkjoibpfhjhcaa.Num Go.Proofs.Ytlkjoibpfhjhcaa.BitsF Go.Proofs.Ytlkjoibpfhjhcaa.Fmt Go.Proofs.YtlkjoibpfhjhcaaW.PrintWords Go.Proofs.YtlkjoibpfhjhcaaW.PrintLast Go.Proofs.YtlkjoibpfhjhcaaW.PrintMore

def magN (f : Int) (v : Nat) : Nat := v % 2 ^ (fe f + fm f)
/-- A number's amount, by its whole number. -/
theorem mag_parts (f : Int) (v : Nat) : magN f v / 2 ^ fm f = expN f v ∧ magN f v % 2 ^ fm f = fracN f v := by
  unfold magN expN fracN
  rw [Nat.add_comm (fe f), Nat.pow_add]
  exact ⟨Nat.mod_mul_right_div_self .., Nat.mod_mul_right_mod ..⟩
end Go.Proofs.Ytlkjoibpfhjhcaa.Round

/- Bits with a sign, beyond the greatest number: plain numbers alone (for rounds without chapter 9). -/
namespace Go.Proofs.Ytlkjoibpfhjhcaa.Round
open Go.RowKit Go.Proofs.Ytlkjoibpfhjhcaa.P Go.Proofs.Ytlkjoibpfhjhcaa.Num Go.Proofs.Ytlkjoibpfhjhcaa.BitsF Go.Proofs.Ytlkjoibpfhjhcaa.Fmt Go.Proofs.YtlkjoibpfhjhcaaW.PrintWords Go.Proofs.YtlkjoibpfhjhcaaW.PrintLast Go.Proofs.YtlkjoibpfhjhcaaW.PrintMore

def infK (f : Int) : Nat := topN f * 2 ^ fm f
theorem infK_lt (f : Int) : infK f < 2 ^ (fe f + fm f) ∧ 0 < infK f := by
  obtain ⟨_, hi⟩ := inf_lt f false
  have hp := Nat.two_pow_pos (fm f)
  have ht : 0 < topN f * 2 ^ fm f := Nat.mul_pos (by have := top_cases f; omega) hp
  unfold infK; omega
/-- Bits with a sign. -/
theorem sign_parts (f : Int) (P : Nat) (neg : Bool) (h : P < 2 ^ (fe f + fm f)) : negN f (P + signN f neg) = neg ∧ magN f (P + signN f neg) = P ∧ P + signN f neg < 2 ^ (fe f + fm f + 1) := by
  unfold negN magN signN
  have hp := Nat.two_pow_pos (fe f + fm f)
  cases neg
  · simp only [Bool.false_eq_true, if_false, Nat.add_zero]
    rw [Nat.div_eq_of_lt h, Nat.mod_eq_of_lt h, Nat.pow_succ]
    exact ⟨rfl, rfl, by omega⟩
  · simp only [if_true]
    rw [Nat.add_div_right _ hp, Nat.div_eq_of_lt h, Nat.add_mod_right, Nat.mod_eq_of_lt h, Nat.pow_succ]
    exact ⟨rfl, rfl, by omega⟩
end Go.Proofs.Ytlkjoibpfhjhcaa.Round

/- Numbers near one, drawn: plain numbers. -/
namespace Go.Proofs.Ytlkjoibpfhjhcaa.Round
open Go.RowKit Go.Proofs.Ytlkjoibpfhjhcaa.P Go.Proofs.Ytlkjoibpfhjhcaa.Num Go.Proofs.Ytlkjoibpfhjhcaa.BitsF Go.Proofs.Ytlkjoibpfhjhcaa.Fmt Go.Proofs.YtlkjoibpfhjhcaaW.PrintWords Go.Proofs.YtlkjoibpfhjhcaaW.PrintLast Go.Proofs.YtlkjoibpfhjhcaaW.PrintMore

/-- The exponent's bits of one. -/
def oneN (f : Int) : Nat := topN f / 2
theorem one_cases (f : Int) : fe f = 5 ∧ fm f = 10 ∧ oneN f = 15 ∧ leastN f = -14 ∧ topN f = 31 ∨ fe f = 8 ∧ fm f = 7 ∧ oneN f = 127 ∧ leastN f = -126 ∧ topN f = 255 ∨ fe f = 8 ∧ fm f = 23 ∧ oneN f = 127 ∧ leastN f = -126 ∧ topN f = 255 := by
  unfold oneN topN leastN
  rcases fcases f with ⟨h1, h2⟩ | ⟨h1, h2⟩ | ⟨h1, h2⟩ <;> rw [h1, h2] <;> simp
theorem mild_shl (f : Int) : shl .u32 4 (fm f : Int) = ((4 * 2 ^ fm f : Nat) : Int) ∧ shl .u32 2 (fm f : Int) = ((2 * 2 ^ fm f : Nat) : Int) ∧
    shl .u32 ((((shl .u32 1 (fe f : Int)) - 1) % 4294967296) / 2) (fm f : Int) = ((oneN f * 2 ^ fm f : Nat) : Int) := by
  rcases one_cases f with ⟨h1, h2, h3, _⟩ | ⟨h1, h2, h3, _⟩ | ⟨h1, h2, h3, _⟩ <;> rw [h1, h2, h3] <;> decide
theorem mild_range (f : Int) : 4 * 2 ^ fm f + oneN f * 2 ^ fm f < 2 ^ (fe f + fm f) ∧ 2 * 2 ^ fm f ≤ oneN f * 2 ^ fm f := by
  rcases one_cases f with ⟨h1, h2, h3, _⟩ | ⟨h1, h2, h3, _⟩ | ⟨h1, h2, h3, _⟩ <;> rw [h1, h2, h3] <;> decide
theorem mild_plain (O P a : Nat) (h : 2 * P ≤ O) (hO : O + 4 * P < 2147483648) (hP : 0 < P) : ((((O : Nat) : Int) - ((2 * P : Nat) : Int)) % 4294967296 + Int.tmod ((a : Int) / 8) ((4 * P : Nat) : Int)) % 4294967296 = ((O - 2 * P + a / 8 % (4 * P) : Nat) : Int) := by
  have e : Int.tmod ((a : Int) / 8) ((4 * P : Nat) : Int) = ((a / 8 % (4 * P) : Nat) : Int) := by
    rw [show (a : Int) / 8 = ((a / 8 : Nat) : Int) from rfl, Int.tmod_eq_emod_of_nonneg (Int.natCast_nonneg _)]; rfl
  have hm := Nat.mod_lt (a / 8) (show 4 * P > 0 by omega)
  rw [e]
  generalize a / 8 % (4 * P) = m at *
  omega
theorem or_sign (f : Int) (m : Nat) (h : m < 2 ^ (fe f + fm f)) : Go.bits .or .u32 (m : Int) (signN f true : Int) = ((m + signN f true : Nat) : Int) := by
  have hb := fbounds f
  have h31 := pow_le31 (show fe f + fm f ≤ 31 by omega)
  have hs : signN f true = 2 ^ (fe f + fm f) := rfl
  rw [or_u32 m _ (by omega) (by omega), Nat.or_comm, or_add _ _ (fe f + fm f) (by rw [hs, Nat.mod_self]) h, Nat.add_comm]
/-- Nought, or a number of either sign from a quarter to below four. -/
theorem mild_f (f : Int) (a : Nat) (ha : a < 4294967296) : ∃ m : Nat, ∃ neg : Bool, annealseat_Mild.f f (a : Int) = some ((m + signN f neg : Nat) : Int) ∧ (m = 0 ∧ neg = false ∨ (oneN f - 2) * 2 ^ fm f ≤ m ∧ m < (oneN f + 2) * 2 ^ fm f) := by
  unfold annealseat_Mild.f
  by_cases c : Int.tmod (a : Int) 7 = 0
  · rw [if_pos c]
    exact ⟨0, false, rfl, .inl ⟨rfl, rfl⟩⟩
  · rw [if_neg c, ref_widths_f, Option.bind_some]
    dsimp only
    obtain ⟨s1, s2, s3⟩ := mild_shl f
    obtain ⟨r1, r2⟩ := mild_range f
    have hb := fbounds f
    have h31 := pow_le31 (show fe f + fm f ≤ 31 by omega)
    have hp := Nat.two_pow_pos (fm f)
    rw [s1, s2, s3, if_pos (Int.natCast_nonneg _), if_pos (Int.natCast_nonneg _), if_neg (by omega), mild_plain _ _ _ r2 (by omega) hp]
    have hm := Nat.mod_lt (a / 8) (show 4 * 2 ^ fm f > 0 by omega)
    have h2 : (oneN f - 2) * 2 ^ fm f = oneN f * 2 ^ fm f - 2 * 2 ^ fm f := Nat.sub_mul _ _ _
    have h3 : (oneN f + 2) * 2 ^ fm f = oneN f * 2 ^ fm f + 2 * 2 ^ fm f := Nat.add_mul _ _ _
    generalize hM : oneN f * 2 ^ fm f - 2 * 2 ^ fm f + a / 8 % (4 * 2 ^ fm f) = m at *
    by_cases d : Go.bits .and .u32 (a : Int) 1 = 1
    · rw [if_pos d, ref_zero_f, Option.bind_some, or_sign f m (by omega)]
      exact ⟨m, true, rfl, .inr ⟨by omega, by omega⟩⟩
    · rw [if_neg d]
      exact ⟨m, false, rfl, .inr ⟨by omega, by omega⟩⟩
/-- The parts of such a number. -/
theorem mild_parts (f : Int) (m : Nat) (neg : Bool) (h1 : (oneN f - 2) * 2 ^ fm f ≤ m) (h2 : m < (oneN f + 2) * 2 ^ fm f) :
    negN f (m + signN f neg) = neg ∧ magN f (m + signN f neg) = m ∧ m + signN f neg < 2 ^ (fe f + fm f + 1) ∧ m + signN f neg < 4294967296 ∧ oneN f - 2 ≤ expN f (m + signN f neg) ∧ expN f (m + signN f neg) < oneN f + 2 ∧
    clsN f (m + signN f neg) = 2 ∧ wholeN f (m + signN f neg) = fracN f (m + signN f neg) + 2 ^ fm f ∧ m = expN f (m + signN f neg) * 2 ^ fm f + fracN f (m + signN f neg) := by
  obtain ⟨r1, r2⟩ := mild_range f
  have hb := fbounds f
  have h32 := pow_le32 (show fe f + fm f + 1 ≤ 32 by omega)
  have hp := Nat.two_pow_pos (fm f)
  have h3 : (oneN f + 2) * 2 ^ fm f = oneN f * 2 ^ fm f + 2 * 2 ^ fm f := Nat.add_mul _ _ _
  obtain ⟨p1, p2, p3⟩ := sign_parts f m neg (by omega)
  obtain ⟨q1, q2⟩ := mag_parts f (m + signN f neg)
  rw [p2] at q1 q2
  have e1 : oneN f - 2 ≤ m / 2 ^ fm f := (Nat.le_div_iff_mul_le hp).mpr h1
  have e2 : m / 2 ^ fm f < oneN f + 2 := (Nat.div_lt_iff_lt_mul hp).mpr h2
  have hd := Nat.div_add_mod m (2 ^ fm f)
  rw [q1, q2, Nat.mul_comm] at hd
  rw [q1] at e1 e2
  have hc : oneN f = 15 ∧ topN f = 31 ∨ oneN f = 127 ∧ topN f = 255 := by
    rcases one_cases f with ⟨_, _, h3, _, h4⟩ | ⟨_, _, h3, _, h4⟩ | ⟨_, _, h3, _, h4⟩ <;> omega
  refine ⟨p1, p2, p3, by omega, e1, e2, ?_, ?_, hd.symm⟩
  · unfold clsN; rw [if_neg (by omega), if_pos (by omega)]
  · unfold wholeN; rw [if_neg (by omega)]
end Go.Proofs.Ytlkjoibpfhjhcaa.Round

/- Small whole numbers as numbers: plain numbers alone. -/
namespace Go.Proofs.Ytlkjoibpfhjhcaa.Round
open Go.RowKit Go.Proofs.Ytlkjoibpfhjhcaa.P Go.Proofs.Ytlkjoibpfhjhcaa.Num Go.Proofs.Ytlkjoibpfhjhcaa.BitsF Go.Proofs.Ytlkjoibpfhjhcaa.Fmt Go.Proofs.YtlkjoibpfhjhcaaW.PrintWords Go.Proofs.YtlkjoibpfhjhcaaW.PrintLast Go.Proofs.YtlkjoibpfhjhcaaW.PrintMore

theorem norm_under (f : Int) (e r : Nat) (h : e < topN f) (hr : r < 2 ^ fm f) : e * 2 ^ fm f + r < infK f := by
  have := Nat.mul_le_mul_right (2 ^ fm f) (show e + 1 ≤ topN f from h)
  rw [Nat.add_mul] at this
  unfold infK; omega
/-- A normal number's parts, by its exponent's bits and its fraction. -/
theorem norm_all (f : Int) (neg : Bool) (e r : Nat) (h0 : 1 ≤ e) (h1 : e < topN f) (hr : r < 2 ^ fm f) :
    negN f (e * 2 ^ fm f + r + signN f neg) = neg ∧ magN f (e * 2 ^ fm f + r + signN f neg) = e * 2 ^ fm f + r ∧ e * 2 ^ fm f + r + signN f neg < 2 ^ (fe f + fm f + 1) ∧ e * 2 ^ fm f + r + signN f neg < 4294967296 ∧
    expN f (e * 2 ^ fm f + r + signN f neg) = e ∧ fracN f (e * 2 ^ fm f + r + signN f neg) = r ∧ clsN f (e * 2 ^ fm f + r + signN f neg) = 2 ∧ wholeN f (e * 2 ^ fm f + r + signN f neg) = r + 2 ^ fm f ∧
    lowestN f (e * 2 ^ fm f + r + signN f neg) = leastN f - fm f + ((e - 1 : Nat) : Int) := by
  have hl := norm_under f e r h1 hr
  have hi := (infK_lt f).1
  have hb := fbounds f
  have h32 := pow_le32 (show fe f + fm f + 1 ≤ 32 by omega)
  have hp := Nat.two_pow_pos (fm f)
  obtain ⟨p1, p2, p3⟩ := sign_parts f (e * 2 ^ fm f + r) neg (by omega)
  obtain ⟨q1, q2⟩ := mag_parts f (e * 2 ^ fm f + r + signN f neg)
  rw [p2, Nat.mul_comm, Nat.mul_add_div hp, Nat.div_eq_of_lt hr, Nat.add_zero, Nat.mul_comm] at q1
  rw [p2, Nat.mul_comm, Nat.mul_add_mod, Nat.mod_eq_of_lt hr, Nat.mul_comm] at q2
  refine ⟨p1, p2, p3, by omega, q1.symm, q2.symm, ?_, ?_, ?_⟩
  · unfold clsN; rw [← q1, if_neg (by omega), if_pos h1]
  · unfold wholeN; rw [← q1, ← q2, if_neg (by omega)]
  · unfold lowestN; rw [← q1]
theorem zero_all (f : Int) (b : Bool) : clsN f (signN f b) = 0 ∧ negN f (signN f b) = b ∧ signN f b < 4294967296 := by
  have hb := fbounds f
  have h31 := pow_le31 (show fe f + fm f ≤ 31 by omega)
  have hp := Nat.two_pow_pos (fm f)
  obtain ⟨p1, p2, p3⟩ := sign_parts f 0 b (Nat.two_pow_pos _)
  obtain ⟨q1, q2⟩ := mag_parts f (0 + signN f b)
  rw [p2] at q1 q2
  rw [Nat.zero_add] at *
  refine ⟨?_, p1, ?_⟩
  · unfold clsN; rw [← q1, ← q2, Nat.zero_div, Nat.zero_mod]; rfl
  · unfold signN; split <;> omega
end Go.Proofs.Ytlkjoibpfhjhcaa.Round

/- Numbers of few bits, at any exponent of the normal ones: plain numbers alone. -/
namespace Go.Proofs.Ytlkjoibpfhjhcaa.Round
open Go.RowKit Go.Proofs.Ytlkjoibpfhjhcaa.P Go.Proofs.Ytlkjoibpfhjhcaa.Num Go.Proofs.Ytlkjoibpfhjhcaa.BitsF Go.Proofs.Ytlkjoibpfhjhcaa.Fmt Go.Proofs.YtlkjoibpfhjhcaaW.PrintWords Go.Proofs.YtlkjoibpfhjhcaaW.PrintLast Go.Proofs.YtlkjoibpfhjhcaaW.PrintMore

/-- A normal number is what its whole number makes. -/
theorem norm_pack (f mode : Int) (neg : Bool) (e r : Nat) (h0 : 1 ≤ e) (h1 : e < topN f) (hr : r < 2 ^ fm f) : packN f mode neg (leastN f - fm f + ((e - 1 : Nat) : Int)) (r + 2 ^ fm f) false = e * 2 ^ fm f + r + signN f neg ∧ excN f mode neg (leastN f - fm f + ((e - 1 : Nat) : Int)) (r + 2 ^ fm f) false = (false, false, false) := by
  have hs : 2 ^ (fm f + 1) = 2 * 2 ^ fm f := by rw [Nat.pow_succ, Nat.mul_comm]
  have hk : (e - 1) * 2 ^ fm f + (r + 2 ^ fm f) = e * 2 ^ fm f + r := by
    have : e * 2 ^ fm f = (e - 1) * 2 ^ fm f + 2 ^ fm f := by rw [← Nat.succ_mul]; congr 1; omega
    omega
  obtain ⟨x1, x2⟩ := exact_pack f mode neg (r + 2 ^ fm f) 0 (e - 1) (by omega) (.inr (by omega)) (by rw [hk]; exact norm_under f e r h1 hr)
  rw [hk] at x1
  rw [Nat.pow_zero, Nat.mul_one, show leastN f - (fm f : Int) + ((e - 1 : Nat) : Int) - ((0 : Nat) : Int) = leastN f - fm f + ((e - 1 : Nat) : Int) by omega] at x1 x2
  exact ⟨x1, x2⟩
end Go.Proofs.Ytlkjoibpfhjhcaa.Round

/- SumNoughts: which sign a sum has that is nought, in each mode, of each format; a nought makes no difference to a number near one. -/
namespace Go.Proofs.Ytlkjoibpfhjhcaa.Pure
open Go.RowKit Go.Proofs.Ytlkjoibpfhjhcaa.P Go.Proofs.Ytlkjoibpfhjhcaa.Num Go.Proofs.Ytlkjoibpfhjhcaa.BitsF Go.Proofs.Ytlkjoibpfhjhcaa.Fmt Go.Proofs.Ytlkjoibpfhjhcaa.Round Go.Proofs.YtlkjoibpfhjhcaaW.PrintWords Go.Proofs.YtlkjoibpfhjhcaaW.PrintLast Go.Proofs.YtlkjoibpfhjhcaaW.PrintMore

theorem known4_ev : Ev (fun k => anneallaw4_known.f k) true := Ev.of anneallaw4_known.mono (k := 60) (by kernel_rfl)
theorem form4_some (c : Nat) : ∃ f : Int, anneallaw4_form.f (c : Int) = some f := by
  have e := Int.tmod_eq_emod_of_nonneg (b := 3) (Int.natCast_nonneg c)
  unfold anneallaw4_form.f
  rw [Option.bind_some, e]
  have h : (c : Int) % 3 = 0 ∨ (c : Int) % 3 = 1 ∨ (c : Int) % 3 = 2 := by omega
  rcases h with h | h | h <;> rw [h] <;> exact ⟨_, rfl⟩
theorem is_three (mode : Int) : ((mode == 3) : Bool) = decide (mode = 3) := by
  by_cases c : mode = 3
  · subst c; rfl
  · rw [decide_eq_false c]; exact beq_eq_false_iff_ne.mpr c
theorem noughts (f mode : Int) (s t : Bool) : sumN f mode (signN f s) (signN f t) = noughtN f mode s t ∧ sumX f mode (signN f s) (signN f t) = (false, false, false, false, false) := by
  obtain ⟨z1, z2, z3⟩ := zero_all f s
  obtain ⟨y1, y2, y3⟩ := zero_all f t
  have w1 := (none_low f _ z1).2
  have w2 := (none_low f _ y1).2
  have hr : (pairN f (signN f s) (signN f t)).2.2 = (0, false) := by
    unfold pairN exactN; rw [w1, w2, if_pos rfl]
  unfold sumN sumX roundedN roundedX
  rw [z1, y1, z2, y2, if_pos hr, if_pos hr]
  simp
theorem with_nought (f mode : Int) (e r : Nat) (neg s : Bool) (h1 : 1 ≤ e) (h2 : e < topN f) (hr : r < 2 ^ fm f) : sumN f mode (e * 2 ^ fm f + r + signN f neg) (signN f s) = e * 2 ^ fm f + r + signN f neg ∧ sumX f mode (e * 2 ^ fm f + r + signN f neg) (signN f s) = (false, false, false, false, false) := by
  obtain ⟨z1, z2, z3⟩ := zero_all f s
  have w1 := (none_low f _ z1).2
  obtain ⟨a1, a2, a3, a4, a5, a6, a7, a8, a9⟩ := norm_all f neg e r h1 h2 hr
  have hp := Nat.two_pow_pos (fm f)
  obtain ⟨q1, q2⟩ := norm_pack f mode neg e r h1 h2 hr
  have hpair : pairN f (e * 2 ^ fm f + r + signN f neg) (signN f s) = (neg, leastN f - fm f + ((e - 1 : Nat) : Int), r + 2 ^ fm f, false) := by
    unfold pairN exactN
    rw [a1, a8, a9, w1, if_neg (show ¬ r + 2 ^ fm f = 0 by omega), if_pos rfl]
  have hne : ¬ (r + 2 ^ fm f, false) = (0, false) := fun e => by have := (Prod.mk.inj e).1; omega
  unfold sumN sumX
  rw [hpair, a7, z1, if_neg (show ¬ (4 ≤ 2 ∨ 4 ≤ 0) by decide), if_neg (show ¬ (4 ≤ 2 ∨ 4 ≤ 0) by decide), if_neg (show ¬ (2 = 3 ∧ 0 = 3 ∧ negN f (e * 2 ^ fm f + r + signN f neg) ≠ negN f (signN f s)) from fun h => absurd h.1 (by decide)), if_neg (show ¬ (2 = 3 ∧ 0 = 3 ∧ negN f (e * 2 ^ fm f + r + signN f neg) ≠ negN f (signN f s)) from fun h => absurd h.1 (by decide)), if_neg (show ¬ 2 = 3 by decide), if_neg (show ¬ 0 = 3 by decide), if_neg (show ¬ (2 = 3 ∨ 0 = 3) by decide)]
  unfold roundedN roundedX
  rw [if_neg hne, if_neg hne]
  dsimp only
  rw [q1, q2]
  exact ⟨rfl, rfl⟩
theorem SumNoughts : anneallaw4_SumNoughts.Pure := by
  intro a0 a1 a2 a3 a4 h0 h1 h2
  obtain ⟨p0, q0⟩ := wf_u8 h0
  obtain ⟨p2, q2⟩ := wf_u32 h2
  obtain ⟨c, rfl⟩ := nat_of p0
  obtain ⟨a, rfl⟩ := nat_of p2
  obtain ⟨f, ff⟩ := form4_some c
  obtain ⟨m, neg, hm, hmr⟩ := mild_f f a (by omega)
  apply Ev.rounds
  unfold anneallaw4_SumNoughts.f
  refine Ev.bind known4_ev ?_
  generalize wrap64 (Int.tmod a1 5) = mode
  obtain ⟨_, _, zs⟩ := zero_all f a3
  obtain ⟨_, _, zt⟩ := zero_all f a4
  have t1 := add_ev f mode (signN f a3) (signN f a4) zs zt
  rw [(noughts f mode a3 a4).1, (noughts f mode a3 a4).2] at t1
  refine Ev.congr (fun k => by rw [if_pos rfl, ff, Option.bind_some, ref_zero_f, Option.bind_some, ref_zero_f, Option.bind_some]) (Ev.bind t1 ?_)
  have hn : ∃ n : Nat, n < 4294967296 ∧ m + signN f neg = n ∧ (n = 0 ∨ sumN f mode n (signN f a3) = n ∧ sumX f mode n (signN f a3) = (false, false, false, false, false)) := by
    rcases hmr with ⟨rfl, rfl⟩ | hmr
    · exact ⟨0, by decide, rfl, .inl rfl⟩
    · obtain ⟨_, _, _, m4, m5, m6, _, _, m9⟩ := mild_parts f m neg hmr.1 hmr.2
      have hr := frac_lt f (m + signN f neg)
      have hc : oneN f = 15 ∧ topN f = 31 ∨ oneN f = 127 ∧ topN f = 255 := by
        rcases one_cases f with ⟨_, _, h3, _, h4⟩ | ⟨_, _, h3, _, h4⟩ | ⟨_, _, h3, _, h4⟩ <;> omega
      refine ⟨_, m4, rfl, .inr ?_⟩
      have := with_nought f mode (expN f (m + signN f neg)) (fracN f (m + signN f neg)) neg a3 (by omega) (by omega) hr
      rw [← m9] at this
      exact this
  obtain ⟨n, nv, hn1, hn2⟩ := hn
  have t2 := add_ev f mode n (signN f a3) nv zs
  refine Ev.congr (fun k => by rw [hm, Option.bind_some, hn1]) (Ev.bind t2 ?_)
  dsimp only
  have tail : ∀ b : Bool, (if (n : Int) = 0 then some true else if (sumN f mode n (signN f a3) : Int) = (n : Int) then some (!(sumX f mode n (signN f a3)).1 && (!(sumX f mode n (signN f a3)).2.1 && (!(sumX f mode n (signN f a3)).2.2.1 && (!(sumX f mode n (signN f a3)).2.2.2.1 && (!(sumX f mode n (signN f a3)).2.2.2.2))))) else some false) = some true := by
    intro b
    by_cases c : (n : Int) = 0
    · rw [if_pos c]
    · rw [if_neg c]
      obtain ⟨e1, e2⟩ := hn2.resolve_left (by omega)
      rw [e1, e2, if_pos rfl]; rfl
  refine Ev.congr (fun k => ?_) (Ev.now true)
  rw [ref_zero_f, Option.bind_some, is_three]
  by_cases e : a3 = a4
  · rw [if_pos (show (a3 == a4) = true by rw [beq_iff_eq]; exact e), if_pos (show ((noughtN f mode a3 a4 : Nat) : Int) = (signN f a3 : Int) by unfold noughtN; rw [if_pos e]), if_pos (by decide), tail true]
  · rw [if_neg (show ¬ (a3 == a4) = true by rw [beq_iff_eq]; exact e), if_pos (show ((noughtN f mode a3 a4 : Nat) : Int) = (signN f (decide (mode = 3)) : Int) by unfold noughtN; rw [if_neg e]), if_pos (by decide), tail true]
end Go.Proofs.Ytlkjoibpfhjhcaa.Pure
