import Derived.Test.YtlkjoibpfhjhcaaQstM6
import Derived.Test.YtlkjoibpfhjhcaaQstPackE
import Derived.Test.YtlkjoibpfhjhcaaQstPx13
import Derived.Test.YtlkjoibpfhjhcaaQstM1
import Derived.Test.YtlkjoibpfhjhcaaQstM2
import Derived.Test.YtlkjoibpfhjhcaaQstM5
import Derived.Test.YtlkjoibpfhjhcaaQstPx14
import Derived.Test.YtlkjoibpfhjhcaaQstPx16
/- Sums and differences: the program's, as plain numbers. -/
namespace Go.Proofs.Ytlkjoibpfhjhcaa.Round
open Go.RowKit Go.Proofs.Ytlkjoibpfhjhcaa.P Go.Proofs.Ytlkjoibpfhjhcaa.Num Go.Proofs.Ytlkjoibpfhjhcaa.BitsF Go.Proofs.Ytlkjoibpfhjhcaa.Fmt Go.Proofs.YtlkjoibpfhjhcaaW.PrintWords Go.Proofs.YtlkjoibpfhjhcaaW.PrintLast Go.Proofs.YtlkjoibpfhjhcaaW.PrintMore

theorem nought_f (f mode : Int) (a b : Bool) : sum_Nought.f f mode a b = some (noughtN f mode a b : Int) := by
  unfold sum_Nought.f noughtN
  have e3 : ((mode == 3) : Bool) = decide (mode = 3) := by
    by_cases c : mode = 3
    · subst c; rfl
    · rw [decide_eq_false c]; exact beq_eq_false_iff_ne.mpr c
  rw [e3]
  by_cases c : a = b
  · subst c; rw [if_pos (beq_self_eq_true a), if_pos rfl, zero_f]; rfl
  · rw [if_neg (show ¬ (a == b) = true by rw [beq_iff_eq]; exact c), if_neg c, zero_f]; rfl
theorem infinite_ev (f : Int) (a b x y : Bool) : Ev (fun k => sum_Infinite.f k f a b x y) (if x = true ∧ y = true ∧ a ≠ b then ((nanN f : Int), true, false, false, false, false) else if x = true then ((infN f a : Int), false, false, false, false, false) else ((infN f b : Int), false, false, false, false, false)) := by
  have bad : Ev (fun k => sum_Infinite.j0 k f a b x true) ((nanN f : Int), true, false, false, false, false) :=
    Ev.step (fun k => by rw [sum_Infinite.j0, if_pos rfl, bad_f]; rfl) (Ev.now _)
  have left : x = true → Ev (fun k => sum_Infinite.j0 k f a b x false) ((infN f a : Int), false, false, false, false, false) := fun h =>
    Ev.step (fun k => by rw [sum_Infinite.j0, if_neg (by decide), if_pos h, inf_f]; rfl) (Ev.now _)
  have right : ¬ x = true → Ev (fun k => sum_Infinite.j0 k f a b x false) ((infN f b : Int), false, false, false, false, false) := fun h =>
    Ev.step (fun k => by rw [sum_Infinite.j0, if_neg (by decide), if_neg h, inf_f]; rfl) (Ev.now _)
  refine Ev.congr (fun k => by unfold sum_Infinite.f; rfl) ?_
  by_cases hx : x = true
  · by_cases hy : y = true
    · by_cases n : a = b
      · rw [if_neg (fun h => h.2.2 n), if_pos hx]
        refine Ev.congr (fun k => ?_) (left hx)
        rw [if_pos hx, if_pos hy, n, bne_self_eq_false]
      · rw [if_pos ⟨hx, hy, n⟩]
        refine Ev.congr (fun k => ?_) bad
        rw [if_pos hx, if_pos hy, bne_iff_ne.mpr n]
    · rw [if_neg (fun h => hy h.2.1), if_pos hx]
      exact Ev.congr (fun k => by rw [if_pos hx, if_neg hy]) (left hx)
  · rw [if_neg (fun h => hx h.1), if_neg hx]
    exact Ev.congr (fun k => by rw [if_neg hx]) (right hx)
theorem whole_62 (f : Int) (v : Nat) : wholeN f v < 4611686018427387904 := by
  have h := fbounds f
  have h1 := whole_lt f v
  have h2 := pow_le31 (show fm f + 1 ≤ 31 by omega)
  omega
theorem add_ev (f mode : Int) (a b : Nat) (ha : a < 4294967296) (hb : b < 4294967296) : Ev (fun k => sum_Add.f k f mode (a : Int) (b : Int)) ((sumN f mode a b : Int), sumX f mode a b) := by
  have hla := cls_le f a
  have hlb := cls_le f b
  refine Ev.congr (fun k => by unfold sum_Add.f; rfl) (Ev.bind (pnans2_ev f a b ha hb) ?_)
  unfold sumN sumX
  by_cases n : 4 ≤ clsN f a ∨ 4 ≤ clsN f b
  · have e : (isNan f a || isNan f b) = true := by unfold isNan; rw [Bool.or_eq_true, decide_eq_true_iff, decide_eq_true_iff]; exact n
    rw [if_pos n, if_pos n]
    exact Ev.congr (fun k => by rw [if_pos e]) (Ev.now _)
  · have e : ¬ (isNan f a || isNan f b) = true := by unfold isNan; rw [Bool.or_eq_true, decide_eq_true_iff, decide_eq_true_iff]; exact n
    rw [if_neg n, if_neg n]
    refine Ev.congr (fun k => by rw [if_neg e]) (Ev.bind (pinf_ev f a ha) (Ev.bind (pinf_ev f b hb) ?_))
    by_cases i : clsN f a = 3 ∨ clsN f b = 3
    · have hj : Ev (fun k => sum_Add.j0 k f mode (a : Int) (b : Int) (decide (clsN f a = 3)) (decide (clsN f b = 3)) true)
          ((((if clsN f a = 3 ∧ clsN f b = 3 ∧ negN f a ≠ negN f b then nanN f else if clsN f a = 3 then infN f (negN f a) else if clsN f b = 3 then infN f (negN f b) else roundedN f mode (negN f a) (negN f b) (pairN f a b) : Nat) : Int)),
            if clsN f a = 3 ∧ clsN f b = 3 ∧ negN f a ≠ negN f b then (true, false, false, false, false) else if clsN f a = 3 ∨ clsN f b = 3 then (false, false, false, false, false) else (false, false, roundedX f mode (pairN f a b))) := by
        have hin := infinite_ev f (negN f a) (negN f b) (decide (clsN f a = 3)) (decide (clsN f b = 3))
        simp only [decide_eq_true_iff] at hin
        refine Ev.step (fun k => by rw [sum_Add.j0, if_pos rfl, neg_f f a ha, Option.bind_some, neg_f f b hb, Option.bind_some]) (Ev.bind hin (Ev.congr (fun k => ?_) (Ev.now _)))
        by_cases t : clsN f a = 3 ∧ clsN f b = 3 ∧ negN f a ≠ negN f b
        · rw [if_pos t, if_pos t, if_pos t]
        · rw [if_neg t, if_neg t, if_neg t, if_pos i]
          by_cases a3 : clsN f a = 3
          · rw [if_pos a3, if_pos a3]
          · rw [if_neg a3, if_neg a3, if_pos (i.resolve_left a3)]
      by_cases a3 : clsN f a = 3
      · exact Ev.congr (fun k => by rw [if_pos (decide_eq_true a3)]) hj
      · refine Ev.congr (fun k => by rw [if_neg (by simp [a3])]) ?_
        rw [show decide (clsN f b = 3) = true from decide_eq_true (i.resolve_left a3)] at hj ⊢
        exact hj
    · have a3 : ¬ clsN f a = 3 := fun h => i (.inl h)
      have b3 : ¬ clsN f b = 3 := fun h => i (.inr h)
      rw [if_neg (fun h => a3 h.1), if_neg a3, if_neg b3, if_neg (fun h => a3 h.1), if_neg i]
      obtain ⟨l1, l2⟩ := lowest_near f a
      obtain ⟨m1, m2⟩ := lowest_near f b
      have hx := exact_ev (negN f a) (lowestN f a) (wholeN f a) (negN f b) (lowestN f b) (wholeN f b) (whole_62 f a) (whole_62 f b) (by omega) (by omega) (by omega) (by omega)
      obtain ⟨x1, x2, x3⟩ := exact_bounds (negN f a) (lowestN f a) (wholeN f a) (negN f b) (lowestN f b) (wholeN f b) (whole_62 f a) (whole_62 f b) (by omega) (by omega) (by omega) (by omega)
      rw [decide_eq_false a3, decide_eq_false b3]
      refine Ev.congr (fun k => by rw [if_neg (by decide)]) (Ev.step (fun k => by rw [sum_Add.j0, if_neg (by decide), of_f f a ha (cls_exp f a (by omega)), Option.bind_some, of_f f b hb (cls_exp f b (by omega)), Option.bind_some]) ?_)
      dsimp only
      refine Ev.bind hx ?_
      unfold pairN castE
      generalize exactN (negN f a) (lowestN f a) (wholeN f a) (negN f b) (lowestN f b) (wholeN f b) = r at *
      obtain ⟨rn, re, rs, rm⟩ := r
      dsimp only at *
      have hp := packs_ev f mode rn re rs rm (by omega)
      rw [clampE_id _ (by omega) (by omega)] at hp
      have pack : ¬ (rs = 0 ∧ rm = false) → Ev (fun k => sum_Add.j1 k f mode false (negN f a) (lowestN f a) (wholeN f a : Int) false (negN f b) (lowestN f b) (wholeN f b : Int) false rn re (rs : Int) rm) ((roundedN f mode (negN f a) (negN f b) (rn, re, rs, rm) : Int), false, false, roundedX f mode (rn, re, rs, rm)) := by
        intro z
        have zz : ¬ (rs, rm) = (0, false) := fun e => z ⟨(Prod.mk.inj e).1, (Prod.mk.inj e).2⟩
        unfold roundedN roundedX
        rw [if_neg zz, if_neg zz]
        exact Ev.step (fun k => by rw [sum_Add.j1, if_neg (by decide)]) (Ev.bind hp (Ev.now _))
      by_cases s0 : rs = 0
      · cases rm
        · have zz : (rs, false) = (0, false) := by rw [s0]
          refine Ev.congr (fun k => by rw [if_pos (by omega)]) (Ev.step (fun k => by rw [sum_Add.j1, if_pos (by decide), nought_f]) (Ev.congr (fun k => ?_) (Ev.now _)))
          unfold roundedN roundedX
          rw [if_pos zz, if_pos zz]; rfl
        · exact Ev.congr (fun k => by rw [if_pos (by omega)]; rfl) (pack (by simp))
      · exact Ev.congr (fun k => by rw [if_neg (by omega)]) (pack (fun h => s0 h.1))
end Go.Proofs.Ytlkjoibpfhjhcaa.Round

/- Amounts: what a number's bits without its sign stand for, in units of the least number; rounding depends on the amount alone. -/
namespace Go.Proofs.Ytlkjoibpfhjhcaa.Round
open Go.RowKit Go.Proofs.Ytlkjoibpfhjhcaa.P Go.Proofs.Ytlkjoibpfhjhcaa.Num Go.Proofs.Ytlkjoibpfhjhcaa.BitsF Go.Proofs.Ytlkjoibpfhjhcaa.Fmt Go.Proofs.YtlkjoibpfhjhcaaW.PrintWords Go.Proofs.YtlkjoibpfhjhcaaW.PrintLast Go.Proofs.YtlkjoibpfhjhcaaW.PrintMore

def magN (f : Int) (v : Nat) : Nat := v % 2 ^ (fe f + fm f)
/-- A number's amount, by its whole number. -/
theorem mag_parts (f : Int) (v : Nat) : magN f v / 2 ^ fm f = expN f v ∧ magN f v % 2 ^ fm f = fracN f v := by
  unfold magN expN fracN
  rw [Nat.add_comm (fe f), Nat.pow_add]
  exact ⟨Nat.mod_mul_right_div_self .., Nat.mod_mul_right_mod ..⟩
end Go.Proofs.Ytlkjoibpfhjhcaa.Round

/- Bits with a sign, beyond the greatest number: plain numbers alone (for rounds without chapter 9). -/
namespace Go.Proofs.Ytlkjoibpfhjhcaa.Round
open Go.RowKit Go.Proofs.Ytlkjoibpfhjhcaa.P Go.Proofs.Ytlkjoibpfhjhcaa.Num Go.Proofs.Ytlkjoibpfhjhcaa.BitsF Go.Proofs.Ytlkjoibpfhjhcaa.Fmt Go.Proofs.YtlkjoibpfhjhcaaW.PrintWords Go.Proofs.YtlkjoibpfhjhcaaW.PrintLast Go.Proofs.YtlkjoibpfhjhcaaW.PrintMore

/-- Bits with a sign. -/
theorem sign_parts (f : Int) (P : Nat) (neg : Bool) (h : P < 2 ^ (fe f + fm f)) : negN f (P + signN f neg) = neg ∧ magN f (P + signN f neg) = P ∧ P + signN f neg < 2 ^ (fe f + fm f + 1) := by
  unfold negN magN signN
  have hp := Nat.two_pow_pos (fe f + fm f)
  cases neg
  · simp only [Bool.false_eq_true, if_false, Nat.add_zero]
    rw [Nat.div_eq_of_lt h, Nat.mod_eq_of_lt h, Nat.pow_succ]
    exact ⟨rfl, rfl, by omega⟩
  · simp only [if_true]
    rw [Nat.add_div_right _ hp, Nat.div_eq_of_lt h, Nat.add_mod_right, Nat.mod_eq_of_lt h, Nat.pow_succ]
    exact ⟨rfl, rfl, by omega⟩
theorem mag_sign (f : Int) (v : Nat) (h : v < 2 ^ (fe f + fm f + 1)) : v = magN f v + signN f (negN f v) := by
  unfold magN signN negN
  have h1 := Nat.div_add_mod v (2 ^ (fe f + fm f))
  have h2 : v / 2 ^ (fe f + fm f) < 2 := by rw [Nat.div_lt_iff_lt_mul (Nat.two_pow_pos _), Nat.mul_comm, ← Nat.pow_succ]; exact h
  rw [Nat.mod_eq_of_lt h2]
  generalize v / 2 ^ (fe f + fm f) = b at *
  have h3 : b = 0 ∨ b = 1 := by omega
  rcases h3 with rfl | rfl
  · simp at h1 ⊢; omega
  · simp at h1 ⊢; omega
end Go.Proofs.Ytlkjoibpfhjhcaa.Round

/- Differences: the program's, as plain numbers. -/
namespace Go.Proofs.Ytlkjoibpfhjhcaa.Round
open Go.RowKit Go.Proofs.Ytlkjoibpfhjhcaa.P Go.Proofs.Ytlkjoibpfhjhcaa.Num Go.Proofs.Ytlkjoibpfhjhcaa.BitsF Go.Proofs.Ytlkjoibpfhjhcaa.Fmt Go.Proofs.YtlkjoibpfhjhcaaW.PrintWords Go.Proofs.YtlkjoibpfhjhcaaW.PrintLast Go.Proofs.YtlkjoibpfhjhcaaW.PrintMore

/-- With the other sign. -/
def turnN (f : Int) (v : Nat) : Nat := magN f v + signN f (!negN f v)
theorem xor_off (m n : Nat) (h : m < 2 ^ n) : m ^^^ 2 ^ n = m + 2 ^ n ∧ (m + 2 ^ n) ^^^ 2 ^ n = m := by
  have ho : m + 2 ^ n = 2 ^ n ||| m := by rw [or_add (2 ^ n) m n (Nat.mod_self _) h, Nat.add_comm]
  have hn : m.testBit n = false := Nat.testBit_lt_two_pow h
  rw [ho]
  constructor
  · apply Nat.eq_of_testBit_eq
    intro i
    rw [Nat.testBit_xor, Nat.testBit_or, Nat.testBit_two_pow]
    by_cases e : n = i
    · subst e; rw [hn]; simp
    · rw [decide_eq_false e]; simp
  · apply Nat.eq_of_testBit_eq
    intro i
    rw [Nat.testBit_xor, Nat.testBit_or, Nat.testBit_two_pow]
    by_cases e : n = i
    · subst e; rw [hn]; simp
    · rw [decide_eq_false e]; simp
theorem mag_lt (f : Int) (v : Nat) : magN f v < 2 ^ (fe f + fm f) := Nat.mod_lt _ (Nat.two_pow_pos _)
theorem low_mag (f : Int) (v : Nat) : lowN f v = magN f v + signN f (negN f v) := by
  have h := mag_sign f (lowN f v) (low_lt f v)
  have e : magN f (lowN f v) = magN f v := by
    unfold magN lowN
    exact Nat.mod_mod_of_dvd _ (Nat.pow_dvd_pow 2 (by omega))
  rw [neg_low, e] at h
  exact h
theorem turn_f (f : Int) (v : Nat) (hv : v < 4294967296) : format_Turn.f f (v : Int) = some (turnN f v : Int) := by
  have hb := fbounds f
  have h31 := pow_le31 (show fe f + fm f ≤ 31 by omega)
  have hm := mag_lt f v
  have hs : signN f true = 2 ^ (fe f + fm f) := rfl
  have hs0 : signN f false = 0 := rfl
  obtain ⟨x1, x2⟩ := xor_off (magN f v) (fe f + fm f) hm
  unfold format_Turn.f turnN
  rw [widths_f, Option.bind_some, pmask_f, Option.bind_some]
  dsimp only
  rw [sum_w, if_pos (Int.natCast_nonneg _), and_mask f v hv, one_shl _ (by omega), low_mag]
  cases negN f v
  · rw [hs0, Nat.add_zero, xor_u32 _ _ (by omega) (by omega), x1]; rfl
  · rw [hs, xor_u32 _ _ (by omega) (by omega), x2, Bool.not_true, hs0, Nat.add_zero]
theorem turn_parts (f : Int) (v : Nat) : negN f (turnN f v) = !negN f v ∧ clsN f (turnN f v) = clsN f v ∧ wholeN f (turnN f v) = wholeN f v ∧ lowestN f (turnN f v) = lowestN f v ∧ turnN f v < 4294967296 := by
  have hb := fbounds f
  have h32 := pow_le32 (show fe f + fm f + 1 ≤ 32 by omega)
  obtain ⟨p1, p2, p3⟩ := sign_parts f (magN f v) (!negN f v) (mag_lt f v)
  obtain ⟨m1, m2⟩ := mag_parts f (turnN f v)
  obtain ⟨n1, n2⟩ := mag_parts f v
  have hm : magN f (turnN f v) = magN f v := p2
  rw [hm] at m1 m2
  have he : expN f (turnN f v) = expN f v := by rw [← m1, n1]
  have hf : fracN f (turnN f v) = fracN f v := by rw [← m2, n2]
  refine ⟨p1, ?_, ?_, ?_, by unfold turnN; omega⟩
  · unfold clsN; rw [he, hf]
  · unfold wholeN; rw [he, hf]
  · unfold lowestN; rw [he]
def subN (f mode : Int) (a b : Nat) : Nat := if 4 ≤ clsN f a ∨ 4 ≤ clsN f b then nanN f else sumN f mode a (turnN f b)
def subX (f mode : Int) (a b : Nat) : Bool × Bool × Bool × Bool × Bool := if 4 ≤ clsN f a ∨ 4 ≤ clsN f b then (isLoud f a || isLoud f b, false, false, false, false) else sumX f mode a (turnN f b)
theorem sub_ev (f mode : Int) (a b : Nat) (ha : a < 4294967296) (hb : b < 4294967296) : Ev (fun k => sum_Sub.f k f mode (a : Int) (b : Int)) ((subN f mode a b : Int), subX f mode a b) := by
  refine Ev.congr (fun k => by unfold sum_Sub.f; rfl) (Ev.bind (pnans2_ev f a b ha hb) ?_)
  unfold subN subX
  by_cases n : 4 ≤ clsN f a ∨ 4 ≤ clsN f b
  · have e : (isNan f a || isNan f b) = true := by unfold isNan; rw [Bool.or_eq_true, decide_eq_true_iff, decide_eq_true_iff]; exact n
    rw [if_pos n, if_pos n]
    exact Ev.congr (fun k => by rw [if_pos e]) (Ev.now _)
  · have e : ¬ (isNan f a || isNan f b) = true := by unfold isNan; rw [Bool.or_eq_true, decide_eq_true_iff, decide_eq_true_iff]; exact n
    rw [if_neg n, if_neg n]
    exact Ev.congr (fun k => by rw [if_neg e, turn_f f b hb, Option.bind_some]) (Ev.bind (add_ev f mode a _ ha (turn_parts f b).2.2.2.2) (Ev.now _))
/-- Of a number less itself nothing is left. -/
theorem sub_self (f mode : Int) (x : Nat) : (clsN f x < 3 → subN f mode x x = signN f (decide (mode = 3)) ∧ subX f mode x x = (false, false, false, false, false)) ∧ (¬ clsN f x < 3 → subN f mode x x = nanN f) := by
  obtain ⟨t1, t2, t3, t4, t5⟩ := turn_parts f x
  constructor
  · intro h
    have hx := exact_self (negN f x) (lowestN f x) (wholeN f x)
    unfold subN subX sumN sumX pairN
    rw [t1, t2, t3, t4, if_neg (show ¬ (4 ≤ clsN f x ∨ 4 ≤ clsN f x) by omega), if_neg (show ¬ (4 ≤ clsN f x ∨ 4 ≤ clsN f x) by omega), if_neg (show ¬ (4 ≤ clsN f x ∨ 4 ≤ clsN f x) by omega), if_neg (show ¬ (4 ≤ clsN f x ∨ 4 ≤ clsN f x) by omega), if_neg (show ¬ (clsN f x = 3 ∧ clsN f x = 3 ∧ negN f x ≠ !negN f x) from fun h' => by omega), if_neg (show ¬ (clsN f x = 3 ∧ clsN f x = 3 ∧ negN f x ≠ !negN f x) from fun h' => by omega), if_neg (show ¬ clsN f x = 3 by omega), if_neg (show ¬ clsN f x = 3 by omega), if_neg (show ¬ (clsN f x = 3 ∨ clsN f x = 3) by omega)]
    unfold roundedN roundedX
    rw [if_pos hx, if_pos hx]
    refine ⟨?_, rfl⟩
    unfold noughtN
    rw [if_neg (by cases negN f x <;> decide)]
  · intro h
    unfold subN sumN
    rw [t1, t2]
    by_cases n : 4 ≤ clsN f x
    · rw [if_pos (.inl n)]
    · rw [if_neg (show ¬ (4 ≤ clsN f x ∨ 4 ≤ clsN f x) by omega), if_neg (show ¬ (4 ≤ clsN f x ∨ 4 ≤ clsN f x) by omega), if_pos (show clsN f x = 3 ∧ clsN f x = 3 ∧ negN f x ≠ !negN f x from ⟨by omega, by omega, by cases negN f x <;> decide⟩)]
end Go.Proofs.Ytlkjoibpfhjhcaa.Round

/- Numbers drawn, of any format: no more bits than the format has. Plain numbers. -/
namespace Go.Proofs.Ytlkjoibpfhjhcaa.Round
open Go.RowKit Go.Proofs.Ytlkjoibpfhjhcaa.P Go.Proofs.Ytlkjoibpfhjhcaa.Num Go.Proofs.Ytlkjoibpfhjhcaa.BitsF Go.Proofs.Ytlkjoibpfhjhcaa.Fmt Go.Proofs.YtlkjoibpfhjhcaaW.PrintWords Go.Proofs.YtlkjoibpfhjhcaaW.PrintLast Go.Proofs.YtlkjoibpfhjhcaaW.PrintMore

theorem and_lt (f y : Int) : ∃ m : Nat, Go.bits .and .u32 y (maskN f : Int) = (m : Int) ∧ m < 2 ^ (fe f + fm f + 1) := by
  have hb := fbounds f
  have h32 := pow_le32 (show fe f + fm f + 1 ≤ 32 by omega)
  have hp := Nat.two_pow_pos (fe f + fm f + 1)
  have hm : (BitVec.ofInt 32 y &&& BitVec.ofInt 32 (maskN f : Int)).toNat < 2 ^ (fe f + fm f + 1) := by
    rw [BitVec.toNat_and, BitVec.ofInt_natCast, BitVec.toNat_ofNat]
    have h1 := Nat.and_le_right (n := (BitVec.ofInt 32 y).toNat) (m := maskN f % 2 ^ 32)
    have h2 := Nat.mod_le (maskN f) (2 ^ 32)
    have h3 : maskN f < 2 ^ (fe f + fm f + 1) := by unfold maskN; omega
    omega
  refine ⟨_, ?_, hm⟩
  show IntKind.u32.wrap (((BitVec.ofInt 32 y &&& BitVec.ofInt 32 (maskN f : Int)).toNat : Nat) : Int) = _
  exact wraps_u32 _ (Int.natCast_nonneg _) (by omega)
theorem or_top_lt (f : Int) (m : Nat) (h : m < 2 ^ (fe f + fm f + 1)) : ∃ x : Nat, Go.bits .or .u32 (m : Int) (signN f true : Int) = (x : Int) ∧ x < 2 ^ (fe f + fm f + 1) := by
  have hb := fbounds f
  have h32 := pow_le32 (show fe f + fm f + 1 ≤ 32 by omega)
  have h31 := pow_le31 (show fe f + fm f ≤ 31 by omega)
  have hs : signN f true = 2 ^ (fe f + fm f) := rfl
  refine ⟨m ||| 2 ^ (fe f + fm f), ?_, Nat.or_lt_two_pow h (Nat.pow_lt_pow_right (by decide) (by omega))⟩
  rw [hs, or_u32 m _ (by omega) (by omega)]
theorem num_low (f : Int) (a : Nat) : ∃ x : Nat, annealseat_Num.f f (a : Int) = some (x : Int) ∧ x < 2 ^ (fe f + fm f + 1) ∧ x < 4294967296 := by
  have hb := fbounds f
  have h32 := pow_le32 (show fe f + fm f + 1 ≤ 32 by omega)
  have e := Int.tmod_eq_emod_of_nonneg (b := 15) (Int.natCast_nonneg a)
  have hp : 0 ≤ Int.tmod (a : Int) 15 ∧ Int.tmod (a : Int) 15 < 15 := by rw [e]; omega
  have fin : ∀ y : Int, ∃ x : Nat, (if (a : Int) / 2147483648 = 1 then (some (signN f true : Int)).bind (fun t => some (Go.bits .or .u32 (Go.bits .and .u32 y (maskN f : Int)) t)) else some (Go.bits .and .u32 y (maskN f : Int))) = some (x : Int) ∧ x < 2 ^ (fe f + fm f + 1) ∧ x < 4294967296 := by
    intro y
    obtain ⟨m, h1, h2⟩ := and_lt f y
    rw [h1]
    by_cases c : (a : Int) / 2147483648 = 1
    · rw [if_pos c, Option.bind_some]
      obtain ⟨x, h3, h4⟩ := or_top_lt f m h2
      exact ⟨x, by rw [h3], h4, by omega⟩
    · rw [if_neg c]
      exact ⟨m, rfl, h2, by omega⟩
  unfold annealseat_Num.f
  rw [ref_widths_f, Option.bind_some]
  dsimp only
  rcases fcases f with ⟨h1, h2⟩ | ⟨h1, h2⟩ | ⟨h1, h2⟩
  · rw [h1, h2, if_pos (by decide), if_pos (by decide), if_neg (by decide), if_pos (show (0 : Int) ≤ wrap64 (((10 : Nat) : Int) - 1) by unfold wrap64; omega), if_neg (by decide), Option.bind_some, if_pos hp.1, if_pos (by exact hp.2), ref_mask_f, Option.bind_some, ref_zero_f]
    rw [h1, h2] at fin
    exact fin _
  · rw [h1, h2, if_pos (by decide), if_pos (by decide), if_neg (by decide), if_pos (show (0 : Int) ≤ wrap64 (((7 : Nat) : Int) - 1) by unfold wrap64; omega), if_neg (by decide), Option.bind_some, if_pos hp.1, if_pos (by exact hp.2), ref_mask_f, Option.bind_some, ref_zero_f]
    rw [h1, h2] at fin
    exact fin _
  · rw [h1, h2, if_pos (by decide), if_pos (by decide), if_neg (by decide), if_pos (show (0 : Int) ≤ wrap64 (((23 : Nat) : Int) - 1) by unfold wrap64; omega), if_neg (by decide), Option.bind_some, if_pos hp.1, if_pos (by exact hp.2), ref_mask_f, Option.bind_some, ref_zero_f]
    rw [h1, h2] at fin
    exact fin _
end Go.Proofs.Ytlkjoibpfhjhcaa.Round

/- SumTurns: two may be exchanged, and a number less itself is nought: for any two numbers of each format, in each mode. -/
namespace Go.Proofs.Ytlkjoibpfhjhcaa.Pure
open Go.RowKit Go.Proofs.Ytlkjoibpfhjhcaa.P Go.Proofs.Ytlkjoibpfhjhcaa.Num Go.Proofs.Ytlkjoibpfhjhcaa.BitsF Go.Proofs.Ytlkjoibpfhjhcaa.Fmt Go.Proofs.Ytlkjoibpfhjhcaa.Round Go.Proofs.YtlkjoibpfhjhcaaW.PrintWords Go.Proofs.YtlkjoibpfhjhcaaW.PrintLast Go.Proofs.YtlkjoibpfhjhcaaW.PrintMore

theorem known4_ev : Ev (fun k => anneallaw4_known.f k) true := Ev.of anneallaw4_known.mono (k := 60) (by kernel_rfl)
theorem form4_some (c : Nat) : ∃ f : Int, anneallaw4_form.f (c : Int) = some f := by
  have e := Int.tmod_eq_emod_of_nonneg (b := 3) (Int.natCast_nonneg c)
  unfold anneallaw4_form.f
  rw [Option.bind_some, e]
  have h : (c : Int) % 3 = 0 ∨ (c : Int) % 3 = 1 ∨ (c : Int) % 3 = 2 := by omega
  rcases h with h | h | h <;> rw [h] <;> exact ⟨_, rfl⟩
theorem is_three (mode : Int) : ((mode == 3) : Bool) = decide (mode = 3) := by
  by_cases c : mode = 3
  · subst c; rfl
  · rw [decide_eq_false c]; exact beq_eq_false_iff_ne.mpr c
theorem SumTurns : anneallaw4_SumTurns.Pure := by
  intro a0 a1 a2 a3 h0 h1 h2 h3
  obtain ⟨p0, q0⟩ := wf_u8 h0
  obtain ⟨p2, q2⟩ := wf_u32 h2
  obtain ⟨p3, q3⟩ := wf_u32 h3
  obtain ⟨c, rfl⟩ := nat_of p0
  obtain ⟨a, rfl⟩ := nat_of p2
  obtain ⟨b, rfl⟩ := nat_of p3
  obtain ⟨f, ff⟩ := form4_some c
  obtain ⟨x, hx, xl, xv⟩ := num_low f a
  obtain ⟨y, hy, yl, yv⟩ := num_low f b
  apply Ev.rounds
  unfold anneallaw4_SumTurns.f
  refine Ev.bind known4_ev ?_
  generalize wrap64 (Int.tmod a1 5) = mode
  obtain ⟨s1, s2⟩ := sum_turn f mode x y
  have t1 := add_ev f mode x y xv yv
  have t2 := add_ev f mode y x yv xv
  rw [← s1, ← s2] at t2
  refine Ev.congr (fun k => by rw [if_pos rfl, ff, Option.bind_some, hx, Option.bind_some, hy, Option.bind_some]) (Ev.bind t1 (Ev.bind t2 (Ev.bind (sub_ev f mode x x xv xv) ?_)))
  dsimp only
  obtain ⟨d1, d2⟩ := sub_self f mode x
  have hj : Ev (fun k => anneallaw4_SumTurns.j0 k f mode (x : Int) (subN f mode x x : Int) false (subX f mode x x).1 (subX f mode x x).2.1 (subX f mode x x).2.2.1 (subX f mode x x).2.2.2.1 (subX f mode x x).2.2.2.2) true := by
    refine Ev.step (fun k => by rw [anneallaw4_SumTurns.j0, if_neg (by decide)]) (Ev.bind (rfinite_ev f x xv) ?_)
    by_cases fin : expN f x < topN f
    · obtain ⟨e1, e2⟩ := d1 ((cls_finite f x).mpr fin)
      rw [e1, e2]
      exact Ev.congr (fun k => by rw [if_pos (decide_eq_true fin), ref_zero_f, Option.bind_some, is_three, if_pos rfl]; rfl) (Ev.now _)
    · rw [d2 (fun h => fin ((cls_finite f x).mp h))]
      exact Ev.congr (fun k => by rw [if_neg (by simp [fin]), ref_nan_f, Option.bind_some, beq_self_eq_true]) (Ev.now _)
  refine Ev.congr (fun k => ?_) hj
  rw [if_pos rfl]
  simp
end Go.Proofs.Ytlkjoibpfhjhcaa.Pure
