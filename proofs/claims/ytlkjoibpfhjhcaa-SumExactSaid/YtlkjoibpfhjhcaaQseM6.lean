import Derived.Test.YtlkjoibpfhjhcaaQseM5
import Derived.Test.YtlkjoibpfhjhcaaQsePackE
import Derived.Test.YtlkjoibpfhjhcaaQsePx13
import Derived.Test.YtlkjoibpfhjhcaaQseM1
import Derived.Test.YtlkjoibpfhjhcaaQseM2
import Derived.Test.YtlkjoibpfhjhcaaQsePx14
import Derived.Test.YtlkjoibpfhjhcaaQseM4
import Derived.Test.YtlkjoibpfhjhcaaQsePx23
import Derived.Test.YtlkjoibpfhjhcaaQsePx24
import Derived.Test.YtlkjoibpfhjhcaaQsePx25
import Derived.Laws.BitsAllLaws
/- Sums and differences: the program's, as plain numbers. -/
namespace Go.Proofs.Ytlkjoibpfhjhcaa.Round
open Go.RowKit Go.Proofs.Ytlkjoibpfhjhcaa.P Go.Proofs.Ytlkjoibpfhjhcaa.Num Go.Proofs.Ytlkjoibpfhjhcaa.BitsF Go.Proofs.Ytlkjoibpfhjhcaa.Fmt Go.Proofs.YtlkjoibpfhjhcaaW.PrintWords Go.Proofs.YtlkjoibpfhjhcaaW.PrintLast Go.Proofs.YtlkjoibpfhjhcaaW.PrintMore

theorem nought_f (f mode : Int) (a b : Bool) : sum_Nought.f f mode a b = some (noughtN f mode a b : Int) := by
  unfold sum_Nought.f noughtN
  have e3 : ((mode == 3) : Bool) = decide (mode = 3) := by
    by_cases c : mode = 3
    · subst c; rfl
    · rw [decide_eq_false c]; exact beq_eq_false_iff_ne.mpr c
  rw [e3]
  by_cases c : a = b
  · subst c; rw [if_pos (beq_self_eq_true a), if_pos rfl, zero_f]; rfl
  · rw [if_neg (show ¬ (a == b) = true by rw [beq_iff_eq]; exact c), if_neg c, zero_f]; rfl
theorem infinite_ev (f : Int) (a b x y : Bool) : Ev (fun k => sum_Infinite.f k f a b x y) (if x = true ∧ y = true ∧ a ≠ b then ((nanN f : Int), true, false, false, false, false) else if x = true then ((infN f a : Int), false, false, false, false, false) else ((infN f b : Int), false, false, false, false, false)) := by
  have bad : Ev (fun k => sum_Infinite.j0 k f a b x true) ((nanN f : Int), true, false, false, false, false) :=
    Ev.step (fun k => by rw [sum_Infinite.j0, if_pos rfl, bad_f]; rfl) (Ev.now _)
  have left : x = true → Ev (fun k => sum_Infinite.j0 k f a b x false) ((infN f a : Int), false, false, false, false, false) := fun h =>
    Ev.step (fun k => by rw [sum_Infinite.j0, if_neg (by decide), if_pos h, inf_f]; rfl) (Ev.now _)
  have right : ¬ x = true → Ev (fun k => sum_Infinite.j0 k f a b x false) ((infN f b : Int), false, false, false, false, false) := fun h =>
    Ev.step (fun k => by rw [sum_Infinite.j0, if_neg (by decide), if_neg h, inf_f]; rfl) (Ev.now _)
  refine Ev.congr (fun k => by unfold sum_Infinite.f; rfl) ?_
  by_cases hx : x = true
  · by_cases hy : y = true
    · by_cases n : a = b
      · rw [if_neg (fun h => h.2.2 n), if_pos hx]
        refine Ev.congr (fun k => ?_) (left hx)
        rw [if_pos hx, if_pos hy, n, bne_self_eq_false]
      · rw [if_pos ⟨hx, hy, n⟩]
        refine Ev.congr (fun k => ?_) bad
        rw [if_pos hx, if_pos hy, bne_iff_ne.mpr n]
    · rw [if_neg (fun h => hy h.2.1), if_pos hx]
      exact Ev.congr (fun k => by rw [if_pos hx, if_neg hy]) (left hx)
  · rw [if_neg (fun h => hx h.1), if_neg hx]
    exact Ev.congr (fun k => by rw [if_neg hx]) (right hx)
theorem whole_62 (f : Int) (v : Nat) : wholeN f v < 4611686018427387904 := by
  have h := fbounds f
  have h1 := whole_lt f v
  have h2 := pow_le31 (show fm f + 1 ≤ 31 by omega)
  omega
theorem add_ev (f mode : Int) (a b : Nat) (ha : a < 4294967296) (hb : b < 4294967296) : Ev (fun k => sum_Add.f k f mode (a : Int) (b : Int)) ((sumN f mode a b : Int), sumX f mode a b) := by
  have hla := cls_le f a
  have hlb := cls_le f b
  refine Ev.congr (fun k => by unfold sum_Add.f; rfl) (Ev.bind (pnans2_ev f a b ha hb) ?_)
  unfold sumN sumX
  by_cases n : 4 ≤ clsN f a ∨ 4 ≤ clsN f b
  · have e : (isNan f a || isNan f b) = true := by unfold isNan; rw [Bool.or_eq_true, decide_eq_true_iff, decide_eq_true_iff]; exact n
    rw [if_pos n, if_pos n]
    exact Ev.congr (fun k => by rw [if_pos e]) (Ev.now _)
  · have e : ¬ (isNan f a || isNan f b) = true := by unfold isNan; rw [Bool.or_eq_true, decide_eq_true_iff, decide_eq_true_iff]; exact n
    rw [if_neg n, if_neg n]
    refine Ev.congr (fun k => by rw [if_neg e]) (Ev.bind (pinf_ev f a ha) (Ev.bind (pinf_ev f b hb) ?_))
    by_cases i : clsN f a = 3 ∨ clsN f b = 3
    · have hj : Ev (fun k => sum_Add.j0 k f mode (a : Int) (b : Int) (decide (clsN f a = 3)) (decide (clsN f b = 3)) true)
          ((((if clsN f a = 3 ∧ clsN f b = 3 ∧ negN f a ≠ negN f b then nanN f else if clsN f a = 3 then infN f (negN f a) else if clsN f b = 3 then infN f (negN f b) else roundedN f mode (negN f a) (negN f b) (pairN f a b) : Nat) : Int)),
            if clsN f a = 3 ∧ clsN f b = 3 ∧ negN f a ≠ negN f b then (true, false, false, false, false) else if clsN f a = 3 ∨ clsN f b = 3 then (false, false, false, false, false) else (false, false, roundedX f mode (pairN f a b))) := by
        have hin := infinite_ev f (negN f a) (negN f b) (decide (clsN f a = 3)) (decide (clsN f b = 3))
        simp only [decide_eq_true_iff] at hin
        refine Ev.step (fun k => by rw [sum_Add.j0, if_pos rfl, neg_f f a ha, Option.bind_some, neg_f f b hb, Option.bind_some]) (Ev.bind hin (Ev.congr (fun k => ?_) (Ev.now _)))
        by_cases t : clsN f a = 3 ∧ clsN f b = 3 ∧ negN f a ≠ negN f b
        · rw [if_pos t, if_pos t, if_pos t]
        · rw [if_neg t, if_neg t, if_neg t, if_pos i]
          by_cases a3 : clsN f a = 3
          · rw [if_pos a3, if_pos a3]
          · rw [if_neg a3, if_neg a3, if_pos (i.resolve_left a3)]
      by_cases a3 : clsN f a = 3
      · exact Ev.congr (fun k => by rw [if_pos (decide_eq_true a3)]) hj
      · refine Ev.congr (fun k => by rw [if_neg (by simp [a3])]) ?_
        rw [show decide (clsN f b = 3) = true from decide_eq_true (i.resolve_left a3)] at hj ⊢
        exact hj
    · have a3 : ¬ clsN f a = 3 := fun h => i (.inl h)
      have b3 : ¬ clsN f b = 3 := fun h => i (.inr h)
      rw [if_neg (fun h => a3 h.1), if_neg a3, if_neg b3, if_neg (fun h => a3 h.1), if_neg i]
      obtain ⟨l1, l2⟩ := lowest_near f a
      obtain ⟨m1, m2⟩ := lowest_near f b
      have hx := exact_ev (negN f a) (lowestN f a) (wholeN f a) (negN f b) (lowestN f b) (wholeN f b) (whole_62 f a) (whole_62 f b) (by omega) (by omega) (by omega) (by omega)
      obtain ⟨x1, x2, x3⟩ := exact_bounds (negN f a) (lowestN f a) (wholeN f a) (negN f b) (lowestN f b) (wholeN f b) (whole_62 f a) (whole_62 f b) (by omega) (by omega) (by omega) (by omega)
      rw [decide_eq_false a3, decide_eq_false b3]
      refine Ev.congr (fun k => by rw [if_neg (by decide)]) (Ev.step (fun k => by rw [sum_Add.j0, if_neg (by decide), of_f f a ha (cls_exp f a (by omega)), Option.bind_some, of_f f b hb (cls_exp f b (by omega)), Option.bind_some]) ?_)
      dsimp only
      refine Ev.bind hx ?_
      unfold pairN castE
      generalize exactN (negN f a) (lowestN f a) (wholeN f a) (negN f b) (lowestN f b) (wholeN f b) = r at *
      obtain ⟨rn, re, rs, rm⟩ := r
      dsimp only at *
      have hp := packs_ev f mode rn re rs rm (by omega)
      rw [clampE_id _ (by omega) (by omega)] at hp
      have pack : ¬ (rs = 0 ∧ rm = false) → Ev (fun k => sum_Add.j1 k f mode false (negN f a) (lowestN f a) (wholeN f a : Int) false (negN f b) (lowestN f b) (wholeN f b : Int) false rn re (rs : Int) rm) ((roundedN f mode (negN f a) (negN f b) (rn, re, rs, rm) : Int), false, false, roundedX f mode (rn, re, rs, rm)) := by
        intro z
        have zz : ¬ (rs, rm) = (0, false) := fun e => z ⟨(Prod.mk.inj e).1, (Prod.mk.inj e).2⟩
        unfold roundedN roundedX
        rw [if_neg zz, if_neg zz]
        exact Ev.step (fun k => by rw [sum_Add.j1, if_neg (by decide)]) (Ev.bind hp (Ev.now _))
      by_cases s0 : rs = 0
      · cases rm
        · have zz : (rs, false) = (0, false) := by rw [s0]
          refine Ev.congr (fun k => by rw [if_pos (by omega)]) (Ev.step (fun k => by rw [sum_Add.j1, if_pos (by decide), nought_f]) (Ev.congr (fun k => ?_) (Ev.now _)))
          unfold roundedN roundedX
          rw [if_pos zz, if_pos zz]; rfl
        · exact Ev.congr (fun k => by rw [if_pos (by omega)]; rfl) (pack (by simp))
      · exact Ev.congr (fun k => by rw [if_neg (by omega)]) (pack (fun h => s0 h.1))
end Go.Proofs.Ytlkjoibpfhjhcaa.Round

/- Amounts: what a number's bits without its sign stand for, in units of the least number; rounding depends on the amount alone. -/
namespace Go.Proofs.Ytlkjoibpfhjhcaa.Round
open Go.RowKit Go.Proofs.Ytlkjoibpfhjhcaa.P Go.Proofs.Ytlkjoibpfhjhcaa.Num Go.Proofs.Ytlkjoibpfhjhcaa.BitsF Go.Proofs.Ytlkjoibpfhjhcaa.Fmt Go.Proofs.YtlkjoibpfhjhcaaW.PrintWords Go.Proofs.YtlkjoibpfhjhcaaW.PrintLast Go.Proofs.YtlkjoibpfhjhcaaW.PrintMore

def magN (f : Int) (v : Nat) : Nat := v % 2 ^ (fe f + fm f)
/-- The same number, with noughts behind. -/
theorem rest_scale (r h j : Nat) : restN (r * 2 ^ j) (h * 2 ^ j) false = restN r h false := by
  have hp := Nat.two_pow_pos j
  unfold restN
  have h1 : r * 2 ^ j < h * 2 ^ j ↔ r < h := Nat.mul_lt_mul_right hp
  have h2 : r * 2 ^ j = 0 ↔ r = 0 := by rw [Nat.mul_eq_zero]; omega
  have h3 : r * 2 ^ j = h * 2 ^ j ↔ r = h := ⟨fun e => Nat.eq_of_mul_eq_mul_right hp e, fun e => by rw [e]⟩
  simp only [h1, h2, h3]
theorem left_exact (s : Nat) (d : Int) (h : d ≤ 0 ∨ s % 2 ^ d.toNat = 0) : leftN s d false = 0 := left_none false h
theorem quo_scale (s j : Nat) (d : Int) : quoN (s * 2 ^ j) d = quoN s (d - j) ∧ leftN (s * 2 ^ j) d false = leftN s (d - j) false := by
  by_cases c : d ≤ 0
  · rw [left_exact _ _ (.inl c), left_exact _ _ (.inl (by omega))]
    refine ⟨?_, rfl⟩
    unfold quoN
    rw [if_pos c, if_pos (by omega), show (-(d - (j : Int))).toNat = j + (-d).toNat by omega, Nat.pow_add, Nat.mul_assoc]
  · obtain ⟨n, rfl⟩ := nat_of (show 0 ≤ d by omega)
    by_cases c2 : (n : Int) - j ≤ 0
    · obtain ⟨i, rfl⟩ : ∃ i, j = n + i := ⟨j - n, by omega⟩
      have e : s * 2 ^ (n + i) = s * 2 ^ i * 2 ^ n := by rw [Nat.add_comm, Nat.pow_add, Nat.mul_assoc]
      have hp := Nat.two_pow_pos n
      constructor
      · unfold quoN
        rw [if_neg c, if_pos c2, Int.toNat_natCast, e, Nat.mul_div_cancel _ hp, show (-((n : Int) - ((n + i : Nat) : Int))).toNat = i by omega]
      · rw [left_exact _ _ (.inr (by rw [Int.toNat_natCast, e, Nat.mul_mod_left])), left_exact _ _ (.inl c2)]
    · obtain ⟨i, rfl⟩ : ∃ i, n = i + j := ⟨n - j, by omega⟩
      have hp := Nat.two_pow_pos j
      have e : ((i + j : Nat) : Int) - (j : Int) = (i : Int) := by omega
      rw [e] at c2 ⊢
      have hi : i ≠ 0 := by omega
      constructor
      · unfold quoN
        rw [if_neg c, if_neg c2, Int.toNat_natCast, Int.toNat_natCast, Nat.pow_add, Nat.mul_div_mul_right _ _ hp]
      · rw [left_rest _ _ _ c, left_rest _ _ _ c2, Int.toNat_natCast, Int.toNat_natCast, Nat.pow_add, Nat.mul_mod_mul_right, show i + j - 1 = i - 1 + j by omega, Nat.pow_add, rest_scale]
theorem rise_scale (f x : Int) (s j : Nat) : riseN f x (s * 2 ^ j) = riseN f (x + j) s := by
  unfold riseN
  by_cases c : s = 0
  · subst c; rw [Nat.zero_mul, if_pos rfl, if_pos rfl]
  · rw [if_neg (Nat.mul_ne_zero c (Nat.ne_of_gt (Nat.two_pow_pos j))), if_neg c, lenN_mul s j c]
    congr 1; omega
theorem key_scale (f mode : Int) (neg : Bool) (x : Int) (s j : Nat) : keyN f mode neg x (s * 2 ^ j) false = keyN f mode neg (x + j) s false := by
  have hr := rise_scale f x s j
  have hu : unitN f x (s * 2 ^ j) = unitN f (x + j) s := by unfold unitN; rw [hr]
  obtain ⟨hq, hl⟩ := quo_scale s j (unitN f (x + j) s - x)
  rw [show unitN f (x + j) s - x - j = unitN f (x + j) s - (x + j) by omega] at hq hl
  unfold keyN
  rw [hr, hu, hq, hl]
/-- A number's amount, by its whole number. -/
theorem mag_parts (f : Int) (v : Nat) : magN f v / 2 ^ fm f = expN f v ∧ magN f v % 2 ^ fm f = fracN f v := by
  unfold magN expN fracN
  rw [Nat.add_comm (fe f), Nat.pow_add]
  exact ⟨Nat.mod_mul_right_div_self .., Nat.mod_mul_right_mod ..⟩
end Go.Proofs.Ytlkjoibpfhjhcaa.Round

/- Bits with a sign, beyond the greatest number: plain numbers alone (for rounds without chapter 9). -/
namespace Go.Proofs.Ytlkjoibpfhjhcaa.Round
open Go.RowKit Go.Proofs.Ytlkjoibpfhjhcaa.P Go.Proofs.Ytlkjoibpfhjhcaa.Num Go.Proofs.Ytlkjoibpfhjhcaa.BitsF Go.Proofs.Ytlkjoibpfhjhcaa.Fmt Go.Proofs.YtlkjoibpfhjhcaaW.PrintWords Go.Proofs.YtlkjoibpfhjhcaaW.PrintLast Go.Proofs.YtlkjoibpfhjhcaaW.PrintMore

def infK (f : Int) : Nat := topN f * 2 ^ fm f
theorem infK_lt (f : Int) : infK f < 2 ^ (fe f + fm f) ∧ 0 < infK f := by
  obtain ⟨_, hi⟩ := inf_lt f false
  have hp := Nat.two_pow_pos (fm f)
  have ht : 0 < topN f * 2 ^ fm f := Nat.mul_pos (by have := top_cases f; omega) hp
  unfold infK; omega
/-- Bits with a sign. -/
theorem sign_parts (f : Int) (P : Nat) (neg : Bool) (h : P < 2 ^ (fe f + fm f)) : negN f (P + signN f neg) = neg ∧ magN f (P + signN f neg) = P ∧ P + signN f neg < 2 ^ (fe f + fm f + 1) := by
  unfold negN magN signN
  have hp := Nat.two_pow_pos (fe f + fm f)
  cases neg
  · simp only [Bool.false_eq_true, if_false, Nat.add_zero]
    rw [Nat.div_eq_of_lt h, Nat.mod_eq_of_lt h, Nat.pow_succ]
    exact ⟨rfl, rfl, by omega⟩
  · simp only [if_true]
    rw [Nat.add_div_right _ hp, Nat.div_eq_of_lt h, Nat.add_mod_right, Nat.mod_eq_of_lt h, Nat.pow_succ]
    exact ⟨rfl, rfl, by omega⟩
theorem place_sign (f : Int) (P : Nat) (neg : Bool) (h : P < 2 ^ (fe f + fm f)) : placeN f (lowN f (P + signN f neg)) = if neg then -1 - (P : Int) else (P : Int) := by
  obtain ⟨h1, h2, h3⟩ := sign_parts f P neg h
  rw [low_id f _ h3]
  unfold placeN
  unfold magN at h2
  rw [h1, h2]
theorem mag_exp (f : Int) (v : Nat) : expN f v < topN f ↔ magN f v < infK f := by
  obtain ⟨h1, _⟩ := mag_parts f v
  unfold infK
  rw [← h1, Nat.div_lt_iff_lt_mul (Nat.two_pow_pos _)]
theorem mag_sign (f : Int) (v : Nat) (h : v < 2 ^ (fe f + fm f + 1)) : v = magN f v + signN f (negN f v) := by
  unfold magN signN negN
  have h1 := Nat.div_add_mod v (2 ^ (fe f + fm f))
  have h2 : v / 2 ^ (fe f + fm f) < 2 := by rw [Nat.div_lt_iff_lt_mul (Nat.two_pow_pos _), Nat.mul_comm, ← Nat.pow_succ]; exact h
  rw [Nat.mod_eq_of_lt h2]
  generalize v / 2 ^ (fe f + fm f) = b at *
  have h3 : b = 0 ∨ b = 1 := by omega
  rcases h3 with rfl | rfl
  · simp at h1 ⊢; omega
  · simp at h1 ⊢; omega
end Go.Proofs.Ytlkjoibpfhjhcaa.Round

/- Differences: the program's, as plain numbers. -/
namespace Go.Proofs.Ytlkjoibpfhjhcaa.Round
open Go.RowKit Go.Proofs.Ytlkjoibpfhjhcaa.P Go.Proofs.Ytlkjoibpfhjhcaa.Num Go.Proofs.Ytlkjoibpfhjhcaa.BitsF Go.Proofs.Ytlkjoibpfhjhcaa.Fmt Go.Proofs.YtlkjoibpfhjhcaaW.PrintWords Go.Proofs.YtlkjoibpfhjhcaaW.PrintLast Go.Proofs.YtlkjoibpfhjhcaaW.PrintMore

/-- With the other sign. -/
def turnN (f : Int) (v : Nat) : Nat := magN f v + signN f (!negN f v)
theorem xor_off (m n : Nat) (h : m < 2 ^ n) : m ^^^ 2 ^ n = m + 2 ^ n ∧ (m + 2 ^ n) ^^^ 2 ^ n = m := by
  have ho : m + 2 ^ n = 2 ^ n ||| m := by rw [or_add (2 ^ n) m n (Nat.mod_self _) h, Nat.add_comm]
  have hn : m.testBit n = false := Nat.testBit_lt_two_pow h
  rw [ho]
  constructor
  · apply Nat.eq_of_testBit_eq
    intro i
    rw [Nat.testBit_xor, Nat.testBit_or, Nat.testBit_two_pow]
    by_cases e : n = i
    · subst e; rw [hn]; simp
    · rw [decide_eq_false e]; simp
  · apply Nat.eq_of_testBit_eq
    intro i
    rw [Nat.testBit_xor, Nat.testBit_or, Nat.testBit_two_pow]
    by_cases e : n = i
    · subst e; rw [hn]; simp
    · rw [decide_eq_false e]; simp
theorem mag_lt (f : Int) (v : Nat) : magN f v < 2 ^ (fe f + fm f) := Nat.mod_lt _ (Nat.two_pow_pos _)
theorem low_mag (f : Int) (v : Nat) : lowN f v = magN f v + signN f (negN f v) := by
  have h := mag_sign f (lowN f v) (low_lt f v)
  have e : magN f (lowN f v) = magN f v := by
    unfold magN lowN
    exact Nat.mod_mod_of_dvd _ (Nat.pow_dvd_pow 2 (by omega))
  rw [neg_low, e] at h
  exact h
theorem turn_f (f : Int) (v : Nat) (hv : v < 4294967296) : format_Turn.f f (v : Int) = some (turnN f v : Int) := by
  have hb := fbounds f
  have h31 := pow_le31 (show fe f + fm f ≤ 31 by omega)
  have hm := mag_lt f v
  have hs : signN f true = 2 ^ (fe f + fm f) := rfl
  have hs0 : signN f false = 0 := rfl
  obtain ⟨x1, x2⟩ := xor_off (magN f v) (fe f + fm f) hm
  unfold format_Turn.f turnN
  rw [widths_f, Option.bind_some, pmask_f, Option.bind_some]
  dsimp only
  rw [sum_w, if_pos (Int.natCast_nonneg _), and_mask f v hv, one_shl _ (by omega), low_mag]
  cases negN f v
  · rw [hs0, Nat.add_zero, xor_u32 _ _ (by omega) (by omega), x1]; rfl
  · rw [hs, xor_u32 _ _ (by omega) (by omega), x2, Bool.not_true, hs0, Nat.add_zero]
theorem turn_parts (f : Int) (v : Nat) : negN f (turnN f v) = !negN f v ∧ clsN f (turnN f v) = clsN f v ∧ wholeN f (turnN f v) = wholeN f v ∧ lowestN f (turnN f v) = lowestN f v ∧ turnN f v < 4294967296 := by
  have hb := fbounds f
  have h32 := pow_le32 (show fe f + fm f + 1 ≤ 32 by omega)
  obtain ⟨p1, p2, p3⟩ := sign_parts f (magN f v) (!negN f v) (mag_lt f v)
  obtain ⟨m1, m2⟩ := mag_parts f (turnN f v)
  obtain ⟨n1, n2⟩ := mag_parts f v
  have hm : magN f (turnN f v) = magN f v := p2
  rw [hm] at m1 m2
  have he : expN f (turnN f v) = expN f v := by rw [← m1, n1]
  have hf : fracN f (turnN f v) = fracN f v := by rw [← m2, n2]
  refine ⟨p1, ?_, ?_, ?_, by unfold turnN; omega⟩
  · unfold clsN; rw [he, hf]
  · unfold wholeN; rw [he, hf]
  · unfold lowestN; rw [he]
def subN (f mode : Int) (a b : Nat) : Nat := if 4 ≤ clsN f a ∨ 4 ≤ clsN f b then nanN f else sumN f mode a (turnN f b)
def subX (f mode : Int) (a b : Nat) : Bool × Bool × Bool × Bool × Bool := if 4 ≤ clsN f a ∨ 4 ≤ clsN f b then (isLoud f a || isLoud f b, false, false, false, false) else sumX f mode a (turnN f b)
theorem sub_ev (f mode : Int) (a b : Nat) (ha : a < 4294967296) (hb : b < 4294967296) : Ev (fun k => sum_Sub.f k f mode (a : Int) (b : Int)) ((subN f mode a b : Int), subX f mode a b) := by
  refine Ev.congr (fun k => by unfold sum_Sub.f; rfl) (Ev.bind (pnans2_ev f a b ha hb) ?_)
  unfold subN subX
  by_cases n : 4 ≤ clsN f a ∨ 4 ≤ clsN f b
  · have e : (isNan f a || isNan f b) = true := by unfold isNan; rw [Bool.or_eq_true, decide_eq_true_iff, decide_eq_true_iff]; exact n
    rw [if_pos n, if_pos n]
    exact Ev.congr (fun k => by rw [if_pos e]) (Ev.now _)
  · have e : ¬ (isNan f a || isNan f b) = true := by unfold isNan; rw [Bool.or_eq_true, decide_eq_true_iff, decide_eq_true_iff]; exact n
    rw [if_neg n, if_neg n]
    exact Ev.congr (fun k => by rw [if_neg e, turn_f f b hb, Option.bind_some]) (Ev.bind (add_ev f mode a _ ha (turn_parts f b).2.2.2.2) (Ev.now _))
/-- Of a number less itself nothing is left. -/
theorem sub_self (f mode : Int) (x : Nat) : (clsN f x < 3 → subN f mode x x = signN f (decide (mode = 3)) ∧ subX f mode x x = (false, false, false, false, false)) ∧ (¬ clsN f x < 3 → subN f mode x x = nanN f) := by
  obtain ⟨t1, t2, t3, t4, t5⟩ := turn_parts f x
  constructor
  · intro h
    have hx := exact_self (negN f x) (lowestN f x) (wholeN f x)
    unfold subN subX sumN sumX pairN
    rw [t1, t2, t3, t4, if_neg (show ¬ (4 ≤ clsN f x ∨ 4 ≤ clsN f x) by omega), if_neg (show ¬ (4 ≤ clsN f x ∨ 4 ≤ clsN f x) by omega), if_neg (show ¬ (4 ≤ clsN f x ∨ 4 ≤ clsN f x) by omega), if_neg (show ¬ (4 ≤ clsN f x ∨ 4 ≤ clsN f x) by omega), if_neg (show ¬ (clsN f x = 3 ∧ clsN f x = 3 ∧ negN f x ≠ !negN f x) from fun h' => by omega), if_neg (show ¬ (clsN f x = 3 ∧ clsN f x = 3 ∧ negN f x ≠ !negN f x) from fun h' => by omega), if_neg (show ¬ clsN f x = 3 by omega), if_neg (show ¬ clsN f x = 3 by omega), if_neg (show ¬ (clsN f x = 3 ∨ clsN f x = 3) by omega)]
    unfold roundedN roundedX
    rw [if_pos hx, if_pos hx]
    refine ⟨?_, rfl⟩
    unfold noughtN
    rw [if_neg (by cases negN f x <;> decide)]
  · intro h
    unfold subN sumN
    rw [t1, t2]
    by_cases n : 4 ≤ clsN f x
    · rw [if_pos (.inl n)]
    · rw [if_neg (show ¬ (4 ≤ clsN f x ∨ 4 ≤ clsN f x) by omega), if_neg (show ¬ (4 ≤ clsN f x ∨ 4 ≤ clsN f x) by omega), if_pos (show clsN f x = 3 ∧ clsN f x = 3 ∧ negN f x ≠ !negN f x from ⟨by omega, by omega, by cases negN f x <;> decide⟩)]
end Go.Proofs.Ytlkjoibpfhjhcaa.Round

/- Sums of which nothing is lost: plain numbers alone. -/
namespace Go.Proofs.Ytlkjoibpfhjhcaa.Round
open Go.RowKit Go.Proofs.Ytlkjoibpfhjhcaa.P Go.Proofs.Ytlkjoibpfhjhcaa.Num Go.Proofs.Ytlkjoibpfhjhcaa.BitsF Go.Proofs.Ytlkjoibpfhjhcaa.Fmt Go.Proofs.YtlkjoibpfhjhcaaW.PrintWords Go.Proofs.YtlkjoibpfhjhcaaW.PrintLast Go.Proofs.YtlkjoibpfhjhcaaW.PrintMore

theorem pow_split (m E F : Int) (h1 : m ≤ E) (h2 : E ≤ F) : 2 ^ (F - m).toNat = 2 ^ (F - E).toNat * 2 ^ (E - m).toNat := by
  rw [← Nat.pow_add]; congr 1; omega
/-- The greater first, with nothing of the lesser lost: by units of 2 to the m. -/
theorem meet_even (na : Bool) (Ea : Int) (A : Nat) (nb : Bool) (Eb : Int) (sb gb : Nat) (m : Int) (h1 : Eb ≤ Ea) (h2 : Ea - Eb ≤ (gb : Int)) (hm : m ≤ Eb) (hA : 2305843009213693952 ≤ A) (hA' : A < 4611686018427387904) (hB : sb * 2 ^ gb < 4611686018427387904) (h0 : Ea = Eb → sb * 2 ^ gb ≤ A) :
    ∃ S : Nat, meetN na Ea A nb Eb (sb * 2 ^ gb) = (na, Ea, S, false) ∧ S < 9223372036854775808 ∧ sb * 2 ^ gb * 2 ^ (Eb - m).toNat ≤ A * 2 ^ (Ea - m).toNat ∧
      (na = nb → S * 2 ^ (Ea - m).toNat = A * 2 ^ (Ea - m).toNat + sb * 2 ^ gb * 2 ^ (Eb - m).toNat) ∧ (na ≠ nb → S * 2 ^ (Ea - m).toNat = A * 2 ^ (Ea - m).toNat - sb * 2 ^ gb * 2 ^ (Eb - m).toNat) := by
  obtain ⟨d, hd⟩ : ∃ d : Nat, (Ea - Eb).toNat = d := ⟨_, rfl⟩
  have hpd := Nat.two_pow_pos d
  have hs := pow_split m Eb Ea hm h1
  rw [hd] at hs
  obtain ⟨l, hl⟩ : ∃ l, sb * 2 ^ gb = l * 2 ^ d := ⟨sb * 2 ^ (gb - d), by rw [Nat.mul_assoc, ← Nat.pow_add]; congr 2; omega⟩
  have hlow : sb * 2 ^ gb / 2 ^ d = l := by rw [hl, Nat.mul_div_cancel _ hpd]
  have hrest : sb * 2 ^ gb % 2 ^ d = 0 := by rw [hl, Nat.mul_mod_left]
  have hle : l ≤ A := by
    rcases Nat.eq_zero_or_pos d with c | c
    · have := h0 (by omega)
      rw [c, Nat.pow_zero, Nat.mul_one] at hl; omega
    · have h2 : 2 ^ 1 ≤ 2 ^ d := Nat.pow_le_pow_right (by decide) c
      have := Nat.mul_le_mul_left l h2
      omega
  have hv : sb * 2 ^ gb * 2 ^ (Eb - m).toNat = l * 2 ^ (Ea - m).toNat := by rw [hl, hs, Nat.mul_assoc]
  have hl62 : l < 4611686018427387904 := Nat.lt_of_le_of_lt (show l ≤ sb * 2 ^ gb by rw [hl]; exact Nat.le_mul_of_pos_right _ hpd) hB
  unfold meetN
  rw [hd, hlow, hrest, hv]
  by_cases n : na = nb
  · rw [if_pos n]
    exact ⟨A + l, rfl, by omega, Nat.mul_le_mul_right _ hle, fun _ => Nat.add_mul _ _ _, fun h => absurd n h⟩
  · rw [if_neg n]
    exact ⟨A - l, by simp, by omega, Nat.mul_le_mul_right _ hle, fun h => absurd h n, fun _ => Nat.sub_mul _ _ _⟩
/-- Two numbers that stand near one another: their sum is exact. -/
theorem exact_even (n1 : Bool) (e1 : Int) (s1 : Nat) (n2 : Bool) (e2 : Int) (s2 : Nat) (h1 : s1 ≠ 0) (h1' : s1 < 4611686018427387904) (h2 : s2 ≠ 0) (h2' : s2 < 4611686018427387904) (d1 : e1 - (gapN s1 : Int) ≤ e2) (d2 : e2 - (gapN s2 : Int) ≤ e1) (m : Int) (m1 : m ≤ e1 - (gapN s1 : Int)) (m2 : m ≤ e2 - (gapN s2 : Int)) :
    ∃ (sg : Bool) (E : Int) (S : Nat), exactN n1 e1 s1 n2 e2 s2 = (sg, E, S, false) ∧ m ≤ E ∧ (E = e1 - (gapN s1 : Int) ∨ E = e2 - (gapN s2 : Int)) ∧ S < 9223372036854775808 ∧
      (n1 = n2 → sg = n1 ∧ S * 2 ^ (E - m).toNat = s1 * 2 ^ (e1 - m).toNat + s2 * 2 ^ (e2 - m).toNat) ∧
      (n1 ≠ n2 → (s2 * 2 ^ (e2 - m).toNat ≤ s1 * 2 ^ (e1 - m).toNat → S * 2 ^ (E - m).toNat = s1 * 2 ^ (e1 - m).toNat - s2 * 2 ^ (e2 - m).toNat ∧ (s2 * 2 ^ (e2 - m).toNat < s1 * 2 ^ (e1 - m).toNat → sg = n1)) ∧
        (s1 * 2 ^ (e1 - m).toNat ≤ s2 * 2 ^ (e2 - m).toNat → S * 2 ^ (E - m).toNat = s2 * 2 ^ (e2 - m).toNat - s1 * 2 ^ (e1 - m).toNat ∧ (s1 * 2 ^ (e1 - m).toNat < s2 * 2 ^ (e2 - m).toNat → sg = n2))) := by
  obtain ⟨a1, a2, a3, a4⟩ := gap_bounds s1 h1 h1'
  obtain ⟨b1, b2, b3, b4⟩ := gap_bounds s2 h2 h2'
  have v1 : s1 * 2 ^ (e1 - m).toNat = s1 * 2 ^ gapN s1 * 2 ^ (e1 - (gapN s1 : Int) - m).toNat := by
    rw [Nat.mul_assoc, ← Nat.pow_add]; congr 2; omega
  have v2 : s2 * 2 ^ (e2 - m).toNat = s2 * 2 ^ gapN s2 * 2 ^ (e2 - (gapN s2 : Int) - m).toNat := by
    rw [Nat.mul_assoc, ← Nat.pow_add]; congr 2; omega
  rw [v1, v2]
  unfold exactN
  rw [if_neg h1, if_neg h2]
  by_cases c : e1 - (gapN s1 : Int) < e2 - (gapN s2 : Int) ∨ e1 - (gapN s1 : Int) = e2 - (gapN s2 : Int) ∧ s1 * 2 ^ gapN s1 < s2 * 2 ^ gapN s2
  · rw [if_pos c]
    obtain ⟨S, k1, k2, k3, k4, k5⟩ := meet_even n2 (e2 - (gapN s2 : Int)) (s2 * 2 ^ gapN s2) n1 (e1 - (gapN s1 : Int)) s1 (gapN s1) m (by omega) (by omega) m1 b3 b4 a4 (by omega)
    refine ⟨n2, _, S, k1, m2, .inr rfl, k2, fun h => ⟨h.symm, by rw [k4 h.symm, Nat.add_comm]⟩, fun h => ⟨fun hle => ?_, fun hle => ⟨k5 (fun e => h e.symm), fun _ => rfl⟩⟩⟩
    rw [k5 (fun e => h e.symm)]
    exact ⟨by omega, fun hlt => by omega⟩
  · rw [if_neg c]
    obtain ⟨S, k1, k2, k3, k4, k5⟩ := meet_even n1 (e1 - (gapN s1 : Int)) (s1 * 2 ^ gapN s1) n2 (e2 - (gapN s2 : Int)) s2 (gapN s2) m (by omega) (by omega) m2 a3 a4 b4 (by omega)
    refine ⟨n1, _, S, k1, m1, .inl rfl, k2, fun h => ⟨rfl, k4 h⟩, fun h => ⟨fun hle => ⟨k5 h, fun _ => rfl⟩, fun hle => ?_⟩⟩
    rw [k5 h]
    exact ⟨by omega, fun hlt => by omega⟩
end Go.Proofs.Ytlkjoibpfhjhcaa.Round

/- Numbers near one, drawn: plain numbers. -/
namespace Go.Proofs.Ytlkjoibpfhjhcaa.Round
open Go.RowKit Go.Proofs.Ytlkjoibpfhjhcaa.P Go.Proofs.Ytlkjoibpfhjhcaa.Num Go.Proofs.Ytlkjoibpfhjhcaa.BitsF Go.Proofs.Ytlkjoibpfhjhcaa.Fmt Go.Proofs.YtlkjoibpfhjhcaaW.PrintWords Go.Proofs.YtlkjoibpfhjhcaaW.PrintLast Go.Proofs.YtlkjoibpfhjhcaaW.PrintMore

/-- The exponent's bits of one. -/
def oneN (f : Int) : Nat := topN f / 2
theorem one_cases (f : Int) : fe f = 5 ∧ fm f = 10 ∧ oneN f = 15 ∧ leastN f = -14 ∧ topN f = 31 ∨ fe f = 8 ∧ fm f = 7 ∧ oneN f = 127 ∧ leastN f = -126 ∧ topN f = 255 ∨ fe f = 8 ∧ fm f = 23 ∧ oneN f = 127 ∧ leastN f = -126 ∧ topN f = 255 := by
  unfold oneN topN leastN
  rcases fcases f with ⟨h1, h2⟩ | ⟨h1, h2⟩ | ⟨h1, h2⟩ <;> rw [h1, h2] <;> simp
theorem mild_shl (f : Int) : shl .u32 4 (fm f : Int) = ((4 * 2 ^ fm f : Nat) : Int) ∧ shl .u32 2 (fm f : Int) = ((2 * 2 ^ fm f : Nat) : Int) ∧
    shl .u32 ((((shl .u32 1 (fe f : Int)) - 1) % 4294967296) / 2) (fm f : Int) = ((oneN f * 2 ^ fm f : Nat) : Int) := by
  rcases one_cases f with ⟨h1, h2, h3, _⟩ | ⟨h1, h2, h3, _⟩ | ⟨h1, h2, h3, _⟩ <;> rw [h1, h2, h3] <;> decide
theorem mild_range (f : Int) : 4 * 2 ^ fm f + oneN f * 2 ^ fm f < 2 ^ (fe f + fm f) ∧ 2 * 2 ^ fm f ≤ oneN f * 2 ^ fm f := by
  rcases one_cases f with ⟨h1, h2, h3, _⟩ | ⟨h1, h2, h3, _⟩ | ⟨h1, h2, h3, _⟩ <;> rw [h1, h2, h3] <;> decide
theorem mild_plain (O P a : Nat) (h : 2 * P ≤ O) (hO : O + 4 * P < 2147483648) (hP : 0 < P) : ((((O : Nat) : Int) - ((2 * P : Nat) : Int)) % 4294967296 + Int.tmod ((a : Int) / 8) ((4 * P : Nat) : Int)) % 4294967296 = ((O - 2 * P + a / 8 % (4 * P) : Nat) : Int) := by
  have e : Int.tmod ((a : Int) / 8) ((4 * P : Nat) : Int) = ((a / 8 % (4 * P) : Nat) : Int) := by
    rw [show (a : Int) / 8 = ((a / 8 : Nat) : Int) from rfl, Int.tmod_eq_emod_of_nonneg (Int.natCast_nonneg _)]; rfl
  have hm := Nat.mod_lt (a / 8) (show 4 * P > 0 by omega)
  rw [e]
  generalize a / 8 % (4 * P) = m at *
  omega
theorem or_sign (f : Int) (m : Nat) (h : m < 2 ^ (fe f + fm f)) : Go.bits .or .u32 (m : Int) (signN f true : Int) = ((m + signN f true : Nat) : Int) := by
  have hb := fbounds f
  have h31 := pow_le31 (show fe f + fm f ≤ 31 by omega)
  have hs : signN f true = 2 ^ (fe f + fm f) := rfl
  rw [or_u32 m _ (by omega) (by omega), Nat.or_comm, or_add _ _ (fe f + fm f) (by rw [hs, Nat.mod_self]) h, Nat.add_comm]
/-- Nought, or a number of either sign from a quarter to below four. -/
theorem mild_f (f : Int) (a : Nat) (ha : a < 4294967296) : ∃ m : Nat, ∃ neg : Bool, annealseat_Mild.f f (a : Int) = some ((m + signN f neg : Nat) : Int) ∧ (m = 0 ∧ neg = false ∨ (oneN f - 2) * 2 ^ fm f ≤ m ∧ m < (oneN f + 2) * 2 ^ fm f) := by
  unfold annealseat_Mild.f
  by_cases c : Int.tmod (a : Int) 7 = 0
  · rw [if_pos c]
    exact ⟨0, false, rfl, .inl ⟨rfl, rfl⟩⟩
  · rw [if_neg c, ref_widths_f, Option.bind_some]
    dsimp only
    obtain ⟨s1, s2, s3⟩ := mild_shl f
    obtain ⟨r1, r2⟩ := mild_range f
    have hb := fbounds f
    have h31 := pow_le31 (show fe f + fm f ≤ 31 by omega)
    have hp := Nat.two_pow_pos (fm f)
    rw [s1, s2, s3, if_pos (Int.natCast_nonneg _), if_pos (Int.natCast_nonneg _), if_neg (by omega), mild_plain _ _ _ r2 (by omega) hp]
    have hm := Nat.mod_lt (a / 8) (show 4 * 2 ^ fm f > 0 by omega)
    have h2 : (oneN f - 2) * 2 ^ fm f = oneN f * 2 ^ fm f - 2 * 2 ^ fm f := Nat.sub_mul _ _ _
    have h3 : (oneN f + 2) * 2 ^ fm f = oneN f * 2 ^ fm f + 2 * 2 ^ fm f := Nat.add_mul _ _ _
    generalize hM : oneN f * 2 ^ fm f - 2 * 2 ^ fm f + a / 8 % (4 * 2 ^ fm f) = m at *
    by_cases d : Go.bits .and .u32 (a : Int) 1 = 1
    · rw [if_pos d, ref_zero_f, Option.bind_some, or_sign f m (by omega)]
      exact ⟨m, true, rfl, .inr ⟨by omega, by omega⟩⟩
    · rw [if_neg d]
      exact ⟨m, false, rfl, .inr ⟨by omega, by omega⟩⟩
/-- The parts of such a number. -/
theorem mild_parts (f : Int) (m : Nat) (neg : Bool) (h1 : (oneN f - 2) * 2 ^ fm f ≤ m) (h2 : m < (oneN f + 2) * 2 ^ fm f) :
    negN f (m + signN f neg) = neg ∧ magN f (m + signN f neg) = m ∧ m + signN f neg < 2 ^ (fe f + fm f + 1) ∧ m + signN f neg < 4294967296 ∧ oneN f - 2 ≤ expN f (m + signN f neg) ∧ expN f (m + signN f neg) < oneN f + 2 ∧
    clsN f (m + signN f neg) = 2 ∧ wholeN f (m + signN f neg) = fracN f (m + signN f neg) + 2 ^ fm f ∧ m = expN f (m + signN f neg) * 2 ^ fm f + fracN f (m + signN f neg) := by
  obtain ⟨r1, r2⟩ := mild_range f
  have hb := fbounds f
  have h32 := pow_le32 (show fe f + fm f + 1 ≤ 32 by omega)
  have hp := Nat.two_pow_pos (fm f)
  have h3 : (oneN f + 2) * 2 ^ fm f = oneN f * 2 ^ fm f + 2 * 2 ^ fm f := Nat.add_mul _ _ _
  obtain ⟨p1, p2, p3⟩ := sign_parts f m neg (by omega)
  obtain ⟨q1, q2⟩ := mag_parts f (m + signN f neg)
  rw [p2] at q1 q2
  have e1 : oneN f - 2 ≤ m / 2 ^ fm f := (Nat.le_div_iff_mul_le hp).mpr h1
  have e2 : m / 2 ^ fm f < oneN f + 2 := (Nat.div_lt_iff_lt_mul hp).mpr h2
  have hd := Nat.div_add_mod m (2 ^ fm f)
  rw [q1, q2, Nat.mul_comm] at hd
  rw [q1] at e1 e2
  have hc : oneN f = 15 ∧ topN f = 31 ∨ oneN f = 127 ∧ topN f = 255 := by
    rcases one_cases f with ⟨_, _, h3, _, h4⟩ | ⟨_, _, h3, _, h4⟩ | ⟨_, _, h3, _, h4⟩ <;> omega
  refine ⟨p1, p2, p3, by omega, e1, e2, ?_, ?_, hd.symm⟩
  · unfold clsN; rw [if_neg (by omega), if_pos (by omega)]
  · unfold wholeN; rw [if_neg (by omega)]
end Go.Proofs.Ytlkjoibpfhjhcaa.Round

/- Small whole numbers as numbers: plain numbers alone. -/
namespace Go.Proofs.Ytlkjoibpfhjhcaa.Round
open Go.RowKit Go.Proofs.Ytlkjoibpfhjhcaa.P Go.Proofs.Ytlkjoibpfhjhcaa.Num Go.Proofs.Ytlkjoibpfhjhcaa.BitsF Go.Proofs.Ytlkjoibpfhjhcaa.Fmt Go.Proofs.YtlkjoibpfhjhcaaW.PrintWords Go.Proofs.YtlkjoibpfhjhcaaW.PrintLast Go.Proofs.YtlkjoibpfhjhcaaW.PrintMore

/-- Noughts behind make no difference. -/
theorem pack_even (f mode : Int) (neg : Bool) (x : Int) (s j : Nat) : packN f mode neg x (s * 2 ^ j) false = packN f mode neg (x + j) s false ∧ excN f mode neg x (s * 2 ^ j) false = excN f mode neg (x + j) s false := by
  have hk := key_scale f mode neg x s j
  have hr := rise_scale f x s j
  have hu : unitN f x (s * 2 ^ j) = unitN f (x + j) s := by unfold unitN; rw [hr]
  have hl := (quo_scale s j (unitN f (x + j) s - x)).2
  rw [show unitN f (x + j) s - x - j = unitN f (x + j) s - (x + j) by omega] at hl
  have hi : inexN f x (s * 2 ^ j) false = inexN f (x + j) s false := by unfold inexN; rw [hu, hl]
  have hun : underN f x (s * 2 ^ j) false = underN f (x + j) s false := by
    unfold underN
    rw [hi]
    congr 1
    by_cases c : s = 0
    · subst c; simp
    · rw [decide_eq_false c, decide_eq_false (Nat.mul_ne_zero c (Nat.ne_of_gt (Nat.two_pow_pos j))), lenN_mul s j c]
      congr 1; apply decide_eq_decide.mpr; omega
  unfold packN excN
  rw [hk, hi, hun]; exact ⟨rfl, rfl⟩
theorem norm_under (f : Int) (e r : Nat) (h : e < topN f) (hr : r < 2 ^ fm f) : e * 2 ^ fm f + r < infK f := by
  have := Nat.mul_le_mul_right (2 ^ fm f) (show e + 1 ≤ topN f from h)
  rw [Nat.add_mul] at this
  unfold infK; omega
/-- A normal number's parts, by its exponent's bits and its fraction. -/
theorem norm_all (f : Int) (neg : Bool) (e r : Nat) (h0 : 1 ≤ e) (h1 : e < topN f) (hr : r < 2 ^ fm f) :
    negN f (e * 2 ^ fm f + r + signN f neg) = neg ∧ magN f (e * 2 ^ fm f + r + signN f neg) = e * 2 ^ fm f + r ∧ e * 2 ^ fm f + r + signN f neg < 2 ^ (fe f + fm f + 1) ∧ e * 2 ^ fm f + r + signN f neg < 4294967296 ∧
    expN f (e * 2 ^ fm f + r + signN f neg) = e ∧ fracN f (e * 2 ^ fm f + r + signN f neg) = r ∧ clsN f (e * 2 ^ fm f + r + signN f neg) = 2 ∧ wholeN f (e * 2 ^ fm f + r + signN f neg) = r + 2 ^ fm f ∧
    lowestN f (e * 2 ^ fm f + r + signN f neg) = leastN f - fm f + ((e - 1 : Nat) : Int) := by
  have hl := norm_under f e r h1 hr
  have hi := (infK_lt f).1
  have hb := fbounds f
  have h32 := pow_le32 (show fe f + fm f + 1 ≤ 32 by omega)
  have hp := Nat.two_pow_pos (fm f)
  obtain ⟨p1, p2, p3⟩ := sign_parts f (e * 2 ^ fm f + r) neg (by omega)
  obtain ⟨q1, q2⟩ := mag_parts f (e * 2 ^ fm f + r + signN f neg)
  rw [p2, Nat.mul_comm, Nat.mul_add_div hp, Nat.div_eq_of_lt hr, Nat.add_zero, Nat.mul_comm] at q1
  rw [p2, Nat.mul_comm, Nat.mul_add_mod, Nat.mod_eq_of_lt hr, Nat.mul_comm] at q2
  refine ⟨p1, p2, p3, by omega, q1.symm, q2.symm, ?_, ?_, ?_⟩
  · unfold clsN; rw [← q1, if_neg (by omega), if_pos h1]
  · unfold wholeN; rw [← q1, ← q2, if_neg (by omega)]
  · unfold lowestN; rw [← q1]
theorem zero_all (f : Int) (b : Bool) : clsN f (signN f b) = 0 ∧ negN f (signN f b) = b ∧ signN f b < 4294967296 := by
  have hb := fbounds f
  have h31 := pow_le31 (show fe f + fm f ≤ 31 by omega)
  have hp := Nat.two_pow_pos (fm f)
  obtain ⟨p1, p2, p3⟩ := sign_parts f 0 b (Nat.two_pow_pos _)
  obtain ⟨q1, q2⟩ := mag_parts f (0 + signN f b)
  rw [p2] at q1 q2
  rw [Nat.zero_add] at *
  refine ⟨?_, p1, ?_⟩
  · unfold clsN; rw [← q1, ← q2, Nat.zero_div, Nat.zero_mod]; rfl
  · unfold signN; split <;> omega
end Go.Proofs.Ytlkjoibpfhjhcaa.Round

/- Numbers of few bits, at any exponent of the normal ones: plain numbers alone. -/
namespace Go.Proofs.Ytlkjoibpfhjhcaa.Round
open Go.RowKit Go.Proofs.Ytlkjoibpfhjhcaa.P Go.Proofs.Ytlkjoibpfhjhcaa.Num Go.Proofs.Ytlkjoibpfhjhcaa.BitsF Go.Proofs.Ytlkjoibpfhjhcaa.Fmt Go.Proofs.YtlkjoibpfhjhcaaW.PrintWords Go.Proofs.YtlkjoibpfhjhcaaW.PrintLast Go.Proofs.YtlkjoibpfhjhcaaW.PrintMore

theorem exact_at (f c : Int) (D : Nat) (h0 : D ≠ 0) (h : D < 2 ^ (fm f + 1)) (lo : 1 + leastN f ≤ c + lenN D) (hi : c + lenN D - leastN f < topN f) : ∃ e r j : Nat, 1 ≤ e ∧ e < topN f ∧ r < 2 ^ fm f ∧ r + 2 ^ fm f = D * 2 ^ j ∧ leastN f - fm f + ((e - 1 : Nat) : Int) = c - (j : Int) ∧ lenN D + j = fm f + 1 ∧
    ∀ (mode : Int) (neg : Bool), packN f mode neg c D false = e * 2 ^ fm f + r + signN f neg ∧ excN f mode neg c D false = (false, false, false) := by
  have hl := lenN_bound D (fm f + 1) h
  have hp := lenN_pos D h0
  obtain ⟨j, hj⟩ : ∃ j, lenN D + j = fm f + 1 := ⟨fm f + 1 - lenN D, by omega⟩
  have hpj := Nat.two_pow_pos j
  have hpm := Nat.two_pow_pos (fm f)
  have m1 : 2 ^ fm f ≤ D * 2 ^ j := by
    have := Nat.mul_le_mul_right (2 ^ j) (lenN_le D h0)
    rw [← Nat.pow_add, show lenN D - 1 + j = fm f by omega] at this; exact this
  have m2 : D * 2 ^ j < 2 ^ (fm f + 1) := by
    have := Nat.mul_lt_mul_of_pos_right (lenN_lt D) hpj
    rw [← Nat.pow_add, hj] at this; exact this
  have hs : 2 ^ (fm f + 1) = 2 * 2 ^ fm f := by rw [Nat.pow_succ, Nat.mul_comm]
  obtain ⟨R, hR⟩ : ∃ R : Nat, (R : Int) = c + lenN D - 1 - leastN f := ⟨(c + lenN D - 1 - leastN f : Int).toNat, by omega⟩
  have hfin := norm_under f (R + 1) (D * 2 ^ j - 2 ^ fm f) (by omega) (by omega)
  have hk : R * 2 ^ fm f + D * 2 ^ j = (R + 1) * 2 ^ fm f + (D * 2 ^ j - 2 ^ fm f) := by rw [Nat.add_mul]; omega
  refine ⟨R + 1, D * 2 ^ j - 2 ^ fm f, j, by omega, by omega, by omega, by omega, by rw [show R + 1 - 1 = R by omega]; omega, hj, fun mode neg => ?_⟩
  obtain ⟨x1, x2⟩ := exact_pack f mode neg (D * 2 ^ j) 0 R m2 (.inr m1) (by rw [hk]; exact hfin)
  rw [hk] at x1
  rw [Nat.pow_zero, Nat.mul_one, show leastN f - (fm f : Int) + (R : Int) - ((0 : Nat) : Int) = c - (j : Int) by omega] at x1 x2
  obtain ⟨s1, s2⟩ := pack_even f mode neg (c - (j : Int)) D j
  rw [show c - (j : Int) + (j : Int) = c by omega] at s1 s2
  rw [s1] at x1
  rw [s2] at x2
  exact ⟨x1, x2⟩
/-- A normal number is what its whole number makes. -/
theorem norm_pack (f mode : Int) (neg : Bool) (e r : Nat) (h0 : 1 ≤ e) (h1 : e < topN f) (hr : r < 2 ^ fm f) : packN f mode neg (leastN f - fm f + ((e - 1 : Nat) : Int)) (r + 2 ^ fm f) false = e * 2 ^ fm f + r + signN f neg ∧ excN f mode neg (leastN f - fm f + ((e - 1 : Nat) : Int)) (r + 2 ^ fm f) false = (false, false, false) := by
  have hs : 2 ^ (fm f + 1) = 2 * 2 ^ fm f := by rw [Nat.pow_succ, Nat.mul_comm]
  have hk : (e - 1) * 2 ^ fm f + (r + 2 ^ fm f) = e * 2 ^ fm f + r := by
    have : e * 2 ^ fm f = (e - 1) * 2 ^ fm f + 2 ^ fm f := by rw [← Nat.succ_mul]; congr 1; omega
    omega
  obtain ⟨x1, x2⟩ := exact_pack f mode neg (r + 2 ^ fm f) 0 (e - 1) (by omega) (.inr (by omega)) (by rw [hk]; exact norm_under f e r h1 hr)
  rw [hk] at x1
  rw [Nat.pow_zero, Nat.mul_one, show leastN f - (fm f : Int) + ((e - 1 : Nat) : Int) - ((0 : Nat) : Int) = leastN f - fm f + ((e - 1 : Nat) : Int) by omega] at x1 x2
  exact ⟨x1, x2⟩
end Go.Proofs.Ytlkjoibpfhjhcaa.Round

/- A number less one near it is exact, and with it again it is itself: plain numbers alone. -/
namespace Go.Proofs.Ytlkjoibpfhjhcaa.Round
open Go.RowKit Go.Proofs.Ytlkjoibpfhjhcaa.P Go.Proofs.Ytlkjoibpfhjhcaa.Num Go.Proofs.Ytlkjoibpfhjhcaa.BitsF Go.Proofs.Ytlkjoibpfhjhcaa.Fmt Go.Proofs.YtlkjoibpfhjhcaaW.PrintWords Go.Proofs.YtlkjoibpfhjhcaaW.PrintLast Go.Proofs.YtlkjoibpfhjhcaaW.PrintMore

theorem gap_norm (f : Int) (w : Nat) (h1 : 2 ^ fm f ≤ w) (h2 : w < 2 ^ (fm f + 1)) : gapN w = 61 - fm f ∧ w ≠ 0 ∧ w < 4611686018427387904 ∧ lenN w = fm f + 1 := by
  have hb := fbounds f
  have hp := Nat.two_pow_pos (fm f)
  have hl : lenN w = fm f + 1 := lenN_of _ _ h2 (.inr (by rw [show fm f + 1 - 1 = fm f by omega]; exact h1))
  have h3 : 2 ^ (fm f + 1) ≤ 2 ^ 24 := Nat.pow_le_pow_right (by decide) (by omega)
  unfold gapN; rw [hl]; omega
/-- What rounding makes of an exact sum, by units of 2 to the m. -/
theorem rounded_units (f mode : Int) (a b sg : Bool) (E m c : Int) (S D : Nat) (h1 : m ≤ E) (h2 : m ≤ c) (h : S * 2 ^ (E - m).toNat = D * 2 ^ (c - m).toNat) (hD : D ≠ 0) :
    roundedN f mode a b (sg, E, S, false) = packN f mode sg c D false ∧ roundedX f mode (sg, E, S, false) = excN f mode sg c D false := by
  have hp := Nat.two_pow_pos (c - m).toNat
  have hS : S ≠ 0 := by
    intro z; subst z; rw [Nat.zero_mul] at h
    exact Nat.mul_ne_zero hD (by omega) h.symm
  obtain ⟨p1, p2⟩ := pack_even f mode sg m S (E - m).toNat
  obtain ⟨q1, q2⟩ := pack_even f mode sg m D (c - m).toNat
  rw [show m + ((E - m).toNat : Int) = E by omega] at p1 p2
  rw [show m + ((c - m).toNat : Int) = c by omega] at q1 q2
  rw [h] at p1 p2
  unfold roundedN roundedX
  rw [if_neg (show ¬ (S, false) = (0, false) from fun e => hS (Prod.mk.inj e).1), if_neg (show ¬ (S, false) = (0, false) from fun e => hS (Prod.mk.inj e).1)]
  exact ⟨p1.symm.trans q1, p2.symm.trans q2⟩
theorem units_at (m c : Int) (w j : Nat) (h : m ≤ c) : w * 2 ^ (c + (j : Int) - m).toNat = w * 2 ^ j * 2 ^ (c - m).toNat := by
  rw [Nat.mul_assoc, ← Nat.pow_add]; congr 2; omega
/-- What was taken away, put back. -/
theorem add_back (f : Int) (sg : Bool) (r j ry k D X Y : Nat) (c : Int) (hr : r < 2 ^ fm f) (hry : ry < 2 ^ fm f) (hj : j ≤ fm f) (hk : k ≤ 1) (hd : r + 2 ^ fm f = D * 2 ^ j) (hY : (ry + 2 ^ fm f) * 2 ^ k = Y) (hX : X ≠ 0) (h1 : sg = false → X = D + Y) (h2 : sg = true → X + D = Y) :
    roundedN f 0 sg false (exactN sg (c - (j : Int)) (r + 2 ^ fm f) false (c + (k : Int)) (ry + 2 ^ fm f)) = packN f 0 false c X false := by
  have hb := fbounds f
  have hs : 2 ^ (fm f + 1) = 2 * 2 ^ fm f := by rw [Nat.pow_succ, Nat.mul_comm]
  obtain ⟨g1, g2, g3, g4⟩ := gap_norm f (r + 2 ^ fm f) (by omega) (by omega)
  obtain ⟨y1, y2, y3, y4⟩ := gap_norm f (ry + 2 ^ fm f) (by omega) (by omega)
  have d1 : c - (j : Int) - (gapN (r + 2 ^ fm f) : Int) ≤ c + (k : Int) := by omega
  have d2 : c + (k : Int) - (gapN (ry + 2 ^ fm f) : Int) ≤ c - (j : Int) := by rw [y1]; omega
  have m1 : c - 200 ≤ c - (j : Int) - (gapN (r + 2 ^ fm f) : Int) := by rw [g1]; omega
  have m2 : c - 200 ≤ c + (k : Int) - (gapN (ry + 2 ^ fm f) : Int) := by rw [y1]; omega
  obtain ⟨sg', E, S, l1, l2, l3, l4, l5, l6⟩ := exact_even sg (c - (j : Int)) (r + 2 ^ fm f) false (c + (k : Int)) (ry + 2 ^ fm f) g2 g3 y2 y3 d1 d2 (c - 200) m1 m2
  have hdd : (r + 2 ^ fm f) * 2 ^ (c - (j : Int) - (c - 200)).toNat = D * 2 ^ (c - (c - 200)).toNat := by
    rw [hd, Nat.mul_assoc, ← Nat.pow_add]; congr 2; omega
  have hyy := units_at (c - 200) c (ry + 2 ^ fm f) k (by omega)
  rw [hY] at hyy
  rw [hdd, hyy] at l5 l6
  have hp : 0 < 2 ^ (c - (c - 200)).toNat := Nat.two_pow_pos _
  have hc : c - 200 ≤ c := by omega
  clear d1 d2 m1 m2 hdd hyy g1 g2 g3 g4 y1 y2 y3 y4 l3 l4
  cases sg
  · obtain ⟨f1, f2⟩ := l5 rfl
    rw [← Nat.add_mul, ← h1 rfl] at f2
    rw [l1, f1]
    exact (rounded_units f 0 false false false E (c - 200) c S X l2 hc f2 hX).1
  · obtain ⟨_, l8⟩ := l6 (by decide)
    have hle : D ≤ Y := by have := h2 rfl; omega
    obtain ⟨f1, f2⟩ := l8 (Nat.mul_le_mul_right _ hle)
    have hlt : D < Y := by have := h2 rfl; omega
    rw [← Nat.sub_mul, show Y - D = X by have := h2 rfl; omega] at f1
    rw [l1, f2 (Nat.mul_lt_mul_of_pos_right hlt hp)]
    exact (rounded_units f 0 true false false E (c - 200) c S X l2 hc f1 hX).1
theorem sub_near (f : Int) (ex rx ey ry i k : Nat) (c : Int) (x1 : 1 ≤ ex) (x2 : ex < topN f) (x3 : rx < 2 ^ fm f) (y1 : 1 ≤ ey) (y2 : ey < topN f) (y3 : ry < 2 ^ fm f) (hi : i ≤ 1) (hk : k ≤ 1)
    (cx : leastN f - fm f + ((ex - 1 : Nat) : Int) = c + (i : Int)) (cy : leastN f - fm f + ((ey - 1 : Nat) : Int) = c + (k : Int)) (c1 : leastN f ≤ c) (c2 : c + fm f + 1 - leastN f < topN f)
    (n1 : (rx + 2 ^ fm f) * 2 ^ i < (ry + 2 ^ fm f) * 2 ^ k + 2 ^ (fm f + 1)) (n2 : (ry + 2 ^ fm f) * 2 ^ k < (rx + 2 ^ fm f) * 2 ^ i + 2 ^ (fm f + 1)) :
    ∃ d : Nat, d < 4294967296 ∧ clsN f d < 3 ∧
      roundedN f 0 false true (exactN false (leastN f - fm f + ((ex - 1 : Nat) : Int)) (rx + 2 ^ fm f) true (leastN f - fm f + ((ey - 1 : Nat) : Int)) (ry + 2 ^ fm f)) = d ∧
      roundedX f 0 (exactN false (leastN f - fm f + ((ex - 1 : Nat) : Int)) (rx + 2 ^ fm f) true (leastN f - fm f + ((ey - 1 : Nat) : Int)) (ry + 2 ^ fm f)) = (false, false, false) ∧
      roundedN f 0 (negN f d) false (exactN (negN f d) (lowestN f d) (wholeN f d) false (leastN f - fm f + ((ey - 1 : Nat) : Int)) (ry + 2 ^ fm f)) = ex * 2 ^ fm f + rx := by
  have hb := fbounds f
  have hp := Nat.two_pow_pos (fm f)
  have hs : 2 ^ (fm f + 1) = 2 * 2 ^ fm f := by rw [Nat.pow_succ, Nat.mul_comm]
  obtain ⟨gx1, gx2, gx3, gx4⟩ := gap_norm f (rx + 2 ^ fm f) (by omega) (by omega)
  obtain ⟨gy1, gy2, gy3, gy4⟩ := gap_norm f (ry + 2 ^ fm f) (by omega) (by omega)
  have hxp := (norm_pack f 0 false ex rx x1 x2 x3).1
  have hyp := (norm_pack f 0 false ey ry y1 y2 y3).1
  rw [cx] at hxp
  rw [cy] at hyp
  rw [cx, cy]
  -- both by units of 2 to the c
  have hxc := (pack_even f 0 false c (rx + 2 ^ fm f) i).1
  have hyc := (pack_even f 0 false c (ry + 2 ^ fm f) k).1
  rw [hxp] at hxc
  rw [hyp] at hyc
  have s0 : signN f false = 0 := rfl
  rw [s0, Nat.add_zero] at hxc hyc
  obtain ⟨X, hX⟩ : ∃ X, (rx + 2 ^ fm f) * 2 ^ i = X := ⟨_, rfl⟩
  obtain ⟨Y, hY⟩ : ∃ Y, (ry + 2 ^ fm f) * 2 ^ k = Y := ⟨_, rfl⟩
  have pi := Nat.two_pow_pos i
  have pk := Nat.two_pow_pos k
  have hX0 : X ≠ 0 := by rw [← hX]; exact Nat.mul_ne_zero gx2 (by omega)
  have hY0 : Y ≠ 0 := by rw [← hY]; exact Nat.mul_ne_zero gy2 (by omega)
  rw [hX] at hxc n1 n2
  rw [hY] at hyc n1 n2
  obtain ⟨sg, E, S, k1, k2, k3, k4, _, k6⟩ := exact_even false (c + (i : Int)) (rx + 2 ^ fm f) true (c + (k : Int)) (ry + 2 ^ fm f) gx2 gx3 gy2 gy3 (by rw [gx1]; omega) (by rw [gy1]; omega) (c - 200) (by rw [gx1]; omega) (by rw [gy1]; omega)
  obtain ⟨k7, k8⟩ := k6 (by decide)
  rw [units_at _ _ _ _ (by omega), units_at _ _ _ _ (by omega), hX, hY] at k7 k8
  have p200 : 0 < 2 ^ (c - (c - 200)).toNat := Nat.two_pow_pos _
  rw [k1]
  rcases Nat.lt_trichotomy X Y with o | o | o
  · -- below
    obtain ⟨e1, e2⟩ := k8 (Nat.mul_le_mul_right _ (by omega))
    have esg := e2 (Nat.mul_lt_mul_of_pos_right o p200)
    rw [← Nat.sub_mul] at e1
    obtain ⟨r1, r2⟩ := rounded_units f 0 false true sg E (c - 200) c S (Y - X) k2 (by omega) e1 (by omega)
    obtain ⟨e, r, j, q1, q2, q3, q4, q5, q6, q7⟩ := exact_at f c (Y - X) (by omega) (by omega) (by have := lenN_pos (Y - X) (by omega); omega) (by have := lenN_bound (Y - X) (fm f + 1) (by omega); omega)
    obtain ⟨a1, a2, a3, a4, a5, a6, a7, a8, a9⟩ := norm_all f sg e r q1 q2 q3
    refine ⟨_, a4, by rw [a7]; decide, by rw [r1]; exact (q7 0 sg).1, by rw [r2]; exact (q7 0 sg).2, ?_⟩
    rw [a1, a8, a9, q5]
    rw [add_back f sg r j ry k (Y - X) X Y c q3 y3 (by have := lenN_pos (Y - X) (by omega); omega) hk q4 hY hX0 (fun h => by rw [esg] at h; exact absurd h (by decide)) (fun _ => by omega)]
    exact hxc
  · -- the same
    obtain ⟨e1, _⟩ := k8 (Nat.mul_le_mul_right _ (by omega))
    rw [o, Nat.sub_self] at e1
    have hS : S = 0 := by
      rcases Nat.mul_eq_zero.mp e1 with z | z
      · exact z
      · have := Nat.two_pow_pos (E - (c - 200)).toNat; omega
    obtain ⟨z1, z2, z3⟩ := zero_all f false
    have hw := (none_low f _ z1).2
    refine ⟨signN f false, z3, by rw [z1]; decide, ?_, ?_, ?_⟩
    · unfold roundedN noughtN; rw [hS]; rfl
    · unfold roundedX; rw [hS]; rfl
    · rw [z2, hw]
      unfold exactN
      rw [if_pos rfl]
      unfold roundedN
      rw [if_neg (show ¬ (ry + 2 ^ fm f, false) = (0, false) from fun e => gy2 (Prod.mk.inj e).1)]
      rw [← hxc, o, hyc]
      exact hyp.trans (by rw [s0, Nat.add_zero])
  · -- above
    obtain ⟨e1, e2⟩ := k7 (Nat.mul_le_mul_right _ (by omega))
    have esg := e2 (Nat.mul_lt_mul_of_pos_right o p200)
    rw [← Nat.sub_mul] at e1
    obtain ⟨r1, r2⟩ := rounded_units f 0 false true sg E (c - 200) c S (X - Y) k2 (by omega) e1 (by omega)
    obtain ⟨e, r, j, q1, q2, q3, q4, q5, q6, q7⟩ := exact_at f c (X - Y) (by omega) (by omega) (by have := lenN_pos (X - Y) (by omega); omega) (by have := lenN_bound (X - Y) (fm f + 1) (by omega); omega)
    obtain ⟨a1, a2, a3, a4, a5, a6, a7, a8, a9⟩ := norm_all f sg e r q1 q2 q3
    refine ⟨_, a4, by rw [a7]; decide, by rw [r1]; exact (q7 0 sg).1, by rw [r2]; exact (q7 0 sg).2, ?_⟩
    rw [a1, a8, a9, q5]
    rw [add_back f sg r j ry k (X - Y) X Y c q3 y3 (by have := lenN_pos (X - Y) (by omega); omega) hk q4 hY hX0 (fun _ => by omega) (fun h => by rw [esg] at h; exact absurd h (by decide))]
    exact hxc
end Go.Proofs.Ytlkjoibpfhjhcaa.Round

/- The reference's loops of layer 1: how many bits, shifts. -/
namespace Go.Proofs.Ytlkjoibpfhjhcaa.BitsF
open Go.RowKit Go.Proofs.Ytlkjoibpfhjhcaa.P Go.Proofs.Ytlkjoibpfhjhcaa.Num Go.Proofs.YtlkjoibpfhjhcaaW.PrintWords Go.Proofs.YtlkjoibpfhjhcaaW.PrintLast Go.Proofs.YtlkjoibpfhjhcaaW.PrintMore

/-! ### the reference's loops -/
theorem ref_len_l0 (j : Nat) : ∀ v c k : Nat, v < 2 ^ j → c + j ≤ 64 → annealref1_Len.l0 (j + 1 + k) (v : Int) (c : Int) = some ((c + lenN v : Nat) : Int) := by
  induction j with
  | zero =>
    intro v c k h _
    obtain rfl : v = 0 := by rw [Nat.pow_zero] at h; omega
    rw [show 0 + 1 + k = k + 1 by omega, annealref1_Len.l0, if_neg (by decide)]; rfl
  | succ j ih =>
    intro v c k h hc
    rw [show j + 1 + 1 + k = (j + 1 + k) + 1 by omega, annealref1_Len.l0]
    by_cases hv : v = 0
    · subst hv; rw [if_neg (by decide)]; rfl
    · rw [if_pos (by omega), show (v : Int) / 2 = ((v / 2 : Nat) : Int) by omega, w64_id _ (by omega) (by omega), show (c : Int) + 1 = ((c + 1 : Nat) : Int) by omega, ih _ _ k (by rw [Nat.pow_succ] at h; omega) (by omega), lenN_half v hv]
      congr 2; omega
theorem ref_len_ev (v : Nat) (hv : v < 18446744073709551616) : Ev (fun k => annealref1_Len.f k (v : Int)) (lenN v : Int) :=
  Ev.of (annealref1_Len.mono _) (k := 65) (by
    have h := ref_len_l0 64 v 0 0 (by omega) (by decide)
    rw [Nat.zero_add, show 64 + 1 + 0 = 65 from rfl] at h
    unfold annealref1_Len.f
    exact h)
theorem half_pow (v j : Nat) : v / 2 / 2 ^ j = v / 2 ^ (j + 1) := by rw [Nat.div_div_eq_div_mul, Nat.pow_succ, Nat.mul_comm 2]
theorem out_right (v j : Nat) : (decide (v % 2 ≠ 0) || decide (v / 2 % 2 ^ j ≠ 0)) = decide (v % 2 ^ (j + 1) ≠ 0) := by
  have e : v % 2 ^ (j + 1) = v % 2 + 2 * (v / 2 % 2 ^ j) := by rw [Nat.pow_succ, Nat.mul_comm, Nat.mod_mul]
  rw [← Bool.decide_or]
  congr 1; apply propext
  have hz : ∀ z : Nat, v / 2 % 2 ^ j = z → (v % 2 ≠ 0 ∨ z ≠ 0 ↔ v % 2 + 2 * z ≠ 0) := by intro z _; omega
  rw [e]; exact hz _ rfl
theorem ref_shift_l1 (j : Nat) : ∀ (v k : Nat) (b : Bool), v < 18446744073709551616 → j ≤ 64 →
    annealref1_Shift.l1 (j + 1 + k) (v : Int) (-(j : Int)) b = some (((v * 2 ^ j % 18446744073709551616 : Nat) : Int), b || decide (18446744073709551616 ≤ v * 2 ^ j)) := by
  induction j with
  | zero =>
    intro v k b hv _
    rw [show 0 + 1 + k = k + 1 by omega, annealref1_Shift.l1, if_neg (by decide), Nat.pow_zero, Nat.mul_one, Nat.mod_eq_of_lt hv, decide_eq_false (by omega), Bool.or_false]
  | succ j ih =>
    intro v k b hv hj
    have e1 : wrap64 (-((j + 1 : Nat) : Int) + 1) = -(j : Int) := by rw [w64_id] <;> omega
    have e2 : IntKind.u64.wrap ((v : Int) * 2) = ((v * 2 % 18446744073709551616 : Nat) : Int) := by rw [show (v : Int) * 2 = ((v * 2 : Nat) : Int) by omega, u64_nat]
    have e3 : (((v : Int) / 9223372036854775808 == 1) : Bool) = decide (9223372036854775808 ≤ v) := by
      by_cases h : 9223372036854775808 ≤ v
      · rw [decide_eq_true h, beq_iff_eq]; omega
      · rw [decide_eq_false h, beq_eq_false_iff_ne]; omega
    have e4 : v * 2 % 18446744073709551616 * 2 ^ j % 18446744073709551616 = v * 2 ^ (j + 1) % 18446744073709551616 := by
      rw [Nat.mod_mul_mod, Nat.mul_assoc, ← Nat.pow_succ']
    have e5 : ∀ b : Bool, ((b || decide (9223372036854775808 ≤ v)) || decide (18446744073709551616 ≤ v * 2 % 18446744073709551616 * 2 ^ j)) = (b || decide (18446744073709551616 ≤ v * 2 ^ (j + 1))) := by
      intro b
      rw [Bool.or_assoc, ← Bool.decide_or]
      congr 2
      apply propext
      rw [show v * 2 ^ (j + 1) = v * 2 * 2 ^ j by rw [Nat.mul_assoc, ← Nat.pow_succ']]
      have hp := Nat.two_pow_pos j
      constructor
      · rintro (h | h)
        · calc 18446744073709551616 ≤ v * 2 * 1 := by omega
            _ ≤ v * 2 * 2 ^ j := Nat.mul_le_mul_left _ hp
        · exact Nat.le_trans h (Nat.mul_le_mul_right _ (Nat.mod_le _ _))
      · intro h
        by_cases h' : 9223372036854775808 ≤ v
        · exact .inl h'
        · right; rw [Nat.mod_eq_of_lt (by omega)]; exact h
    rw [show j + 1 + 1 + k = (j + 1 + k) + 1 by omega, annealref1_Shift.l1, if_pos (by omega), e1, e2, e3]
    by_cases hb : b = true
    · subst hb
      rw [if_pos rfl, ih _ k true (Nat.mod_lt _ (by decide)) (by omega), e4]
      simp only [Bool.true_or]
    · rw [if_neg hb, ih _ k _ (Nat.mod_lt _ (by decide)) (by omega), e4]
      have : b = false := by simpa using hb
      subst this
      have := e5 false
      simp only [Bool.false_or] at this ⊢
      rw [this]
theorem ref_shift_l0 (j : Nat) : ∀ (v k : Nat) (b : Bool), v < 18446744073709551616 → j ≤ 64 →
    annealref1_Shift.l0 (j + 2 + k) (v : Int) (j : Int) b = some (((v / 2 ^ j : Nat) : Int), b || decide (v % 2 ^ j ≠ 0)) := by
  induction j with
  | zero =>
    intro v k b hv _
    have h := ref_shift_l1 0 v k b hv (by decide)
    rw [show 0 + 2 + k = (0 + 1 + k) + 1 by omega, annealref1_Shift.l0, if_neg (by decide), show ((0 : Nat) : Int) = -((0 : Nat) : Int) by rfl, h]
    simp [Nat.mod_one]; omega
  | succ j ih =>
    intro v k b hv hj
    have e1 : wrap64 (((j + 1 : Nat) : Int) - 1) = (j : Int) := by rw [w64_id] <;> omega
    have e3 : ((Go.bits .and .u64 (v : Int) 1 == 1) : Bool) = decide (v % 2 ≠ 0) := by
      rw [and1_u64 v hv]
      by_cases h : v % 2 ≠ 0
      · rw [decide_eq_true h, beq_iff_eq]; omega
      · rw [decide_eq_false h, beq_eq_false_iff_ne]; omega
    rw [show j + 1 + 2 + k = (j + 2 + k) + 1 by omega, annealref1_Shift.l0, if_pos (by omega), e1, e3, show (v : Int) / 2 = ((v / 2 : Nat) : Int) by omega]
    have o := out_right v j
    by_cases hb : b = true
    · subst hb
      rw [if_pos rfl, ih _ k true (by omega) (by omega), half_pow]
      simp only [Bool.true_or]
    · rw [if_neg hb, ih _ k _ (by omega) (by omega), half_pow, o]
      have : b = false := by simpa using hb
      subst this
      rfl
theorem ref_shift_ev (v : Nat) (hv : v < 18446744073709551616) (n : Int) :
    Ev (fun k => annealref1_Shift.f k (v : Int) n) ((((shiftN v n).1 : Nat) : Int), (shiftN v n).2) := by
  refine Ev.of (annealref1_Shift.mono _ _) (k := 67) ?_
  unfold annealref1_Shift.f
  by_cases c : 0 ≤ n
  · obtain ⟨m, rfl⟩ := nat_of c
    have e : mn (mx (m : Int) (-64)) 64 = ((min m 64 : Nat) : Int) := by unfold mn mx; split <;> split <;> omega
    have h := ref_shift_l0 (min m 64) v (65 - min m 64) false hv (by omega)
    rw [show min m 64 + 2 + (65 - min m 64) = 67 by omega] at h
    rw [e, h, shiftN_right]
    by_cases c' : m ≤ 64
    · rw [Nat.min_eq_left c']; rfl
    · have b1 := pow_big (show 64 ≤ m by omega)
      rw [Nat.min_eq_right (by omega), Nat.div_eq_of_lt (show v < 2 ^ 64 by omega), Nat.mod_eq_of_lt (show v < 2 ^ 64 by omega), Nat.div_eq_of_lt (show v < 2 ^ m by omega), Nat.mod_eq_of_lt (show v < 2 ^ m by omega)]; rfl
  · obtain ⟨m, hm⟩ := nat_of (show 0 ≤ -n by omega)
    obtain rfl : n = -(m : Int) := by omega
    have e : mn (mx (-(m : Int)) (-64)) 64 = -((min m 64 : Nat) : Int) := by unfold mn mx; split <;> split <;> omega
    have h := ref_shift_l1 (min m 64) v (65 - min m 64) false hv (by omega)
    rw [show min m 64 + 1 + (65 - min m 64) = 66 by omega] at h
    rw [e, annealref1_Shift.l0, if_neg (by omega), h, shiftN_left _ _ hv]
    by_cases c' : m ≤ 64
    · rw [Nat.min_eq_left c']; rfl
    · rw [Nat.min_eq_right (by omega)]
      have b1 := pow_big (show 64 ≤ m by omega)
      have e : (2 : Nat) ^ m = 18446744073709551616 * 2 ^ (m - 64) := by rw [show 18446744073709551616 = 2 ^ 64 from rfl, ← Nat.pow_add]; congr 1; omega
      have e1 : v * 2 ^ m % 18446744073709551616 = 0 := by rw [e, ← Nat.mul_assoc, Nat.mul_comm v, Nat.mul_assoc, Nat.mul_mod_right]
      rw [e1, show v * 2 ^ 64 % 18446744073709551616 = 0 by omega, Bool.false_or]
      congr 2
      apply decide_eq_decide.mpr
      constructor
      · intro h1
        have : v ≠ 0 := by intro h0; subst h0; omega
        exact Nat.le_trans b1 (Nat.le_mul_of_pos_left _ (by omega))
      · intro h1
        have : v ≠ 0 := by intro h0; subst h0; omega
        omega
end Go.Proofs.Ytlkjoibpfhjhcaa.BitsF

/- What the reference's rounding computes: the same plain numbers. -/
namespace Go.Proofs.Ytlkjoibpfhjhcaa.Round
open Go.RowKit Go.Proofs.Ytlkjoibpfhjhcaa.P Go.Proofs.Ytlkjoibpfhjhcaa.Num Go.Proofs.Ytlkjoibpfhjhcaa.BitsF Go.Proofs.Ytlkjoibpfhjhcaa.Fmt Go.Proofs.YtlkjoibpfhjhcaaW.PrintWords Go.Proofs.YtlkjoibpfhjhcaaW.PrintLast Go.Proofs.YtlkjoibpfhjhcaaW.PrintMore

theorem ref_greatest_f (f : Int) (neg : Bool) : annealref1_Greatest.f f neg = some (greatN f neg : Int) := by
  unfold annealref1_Greatest.f greatN
  obtain ⟨hi, _⟩ := inf_lt f neg
  have ht := top_cases f
  have hp := Nat.two_pow_pos (fm f)
  have : 0 < topN f * 2 ^ fm f := Nat.mul_pos (by omega) hp
  rw [ref_inf_f]; simp only [Option.bind_some]
  unfold infN at *
  congr 1; omega
theorem ref_divide_f (s : Nat) (hs : s < 18446744073709551616) (d : Int) (h1 : -100000 ≤ d) (h2 : d ≤ 100000) (hq : d ≤ 0 → s * 2 ^ (-d).toNat < 18446744073709551616) :
    Ev (fun k => annealref1_divide.f k (s : Int) d) ((quoN s d : Int), decide (2 ≤ leftN s d false), decide (leftN s d false = 1 ∨ leftN s d false = 3)) := by
  unfold annealref1_divide.f
  by_cases c : d ≤ 0
  · obtain ⟨m, hm⟩ := nat_of (show 0 ≤ -d by omega)
    have e : mn (wrap64 (-d)) 63 = ((min m 63 : Nat) : Int) := by rw [w64_id _ (by omega) (by omega), hm]; unfold mn; split <;> omega
    simp only [if_pos c, e, if_pos (show 0 ≤ ((min m 63 : Nat) : Int) by omega), left_none false (.inl c)]
    have hq' := hq c
    rw [hm, Int.toNat_natCast] at hq'
    have e2 : IntKind.u64.wrap ((s : Int) * 2 ^ ((min m 63 : Nat) : Int).toNat) = (quoN s d : Int) := by
      rw [Int.toNat_natCast, show (s : Int) * 2 ^ (min m 63) = ((s * 2 ^ (min m 63) : Nat) : Int) by simp, u64_nat]
      unfold quoN; rw [if_pos c, hm, Int.toNat_natCast]
      by_cases z : s = 0
      · subst z; simp
      · have : m ≤ 63 := by
          rcases Nat.lt_or_ge 63 m with h | h
          · have := pow_big (show 64 ≤ m by omega)
            have : 2 ^ m ≤ s * 2 ^ m := Nat.le_mul_of_pos_left _ (by omega)
            omega
          · exact h
        rw [Nat.min_eq_left this, Nat.mod_eq_of_lt hq']
    rw [e2]
    exact Ev.now _
  · obtain ⟨m, rfl⟩ := nat_of (show 0 ≤ d by omega)
    have hqe : quoN s (m : Int) = s / 2 ^ m := by unfold quoN; rw [if_neg c, Int.toNat_natCast]
    rw [hqe]
    simp only [if_neg c]
    by_cases c' : (m : Int) > 64
    · simp only [if_pos c']
      have hb := pow_big (show 64 ≤ m - 1 by omega)
      have hb2 := pow_big (show 64 ≤ m by omega)
      have hl : leftN s (m : Int) false = if s = 0 then 0 else 1 := by
        by_cases z : s = 0
        · subst z; rw [left_none _ (.inr (by simp))]; rfl
        · rw [left_some _ c (by rw [Int.toNat_natCast, Nat.mod_eq_of_lt (by omega)]; exact z), Int.toNat_natCast, Nat.div_eq_of_lt (show s < 2 ^ (m - 1) by omega), if_neg z]; rfl
      rw [Nat.div_eq_of_lt (show s < 2 ^ m by omega), hl, show (0 : Int) = ((0 : Nat) : Int) from rfl, bne_cast]
      by_cases z : s = 0
      · subst z; exact Ev.now _
      · rw [if_neg z, decide_eq_true z]; exact Ev.now _
    · have e : wrap64 ((m : Int) - 1) = ((m - 1 : Nat) : Int) := by rw [w64_id] <;> omega
      simp only [if_neg c', e]
      have hd : s / 2 ^ (m - 1) < 18446744073709551616 := Nat.lt_of_le_of_lt (Nat.div_le_self _ _) hs
      have s1 := ref_shift_ev s hs (m : Int)
      have s2 := ref_shift_ev s hs ((m - 1 : Nat) : Int)
      rw [shiftN_right] at s1 s2
      refine Ev.bind s1 (Ev.bind s2 (Ev.bind s2 ?_))
      rw [and1_u64 _ hd]
      have em : s % 2 ^ m = s % 2 ^ (m - 1) + 2 ^ (m - 1) * (s / 2 ^ (m - 1) % 2) := by
        rw [show m = m - 1 + 1 by omega, Nat.pow_succ, Nat.mod_mul, Nat.add_sub_cancel]
      have hb1 : (((s / 2 ^ (m - 1) % 2 : Nat) : Int) == 1) = decide (2 ≤ leftN s (m : Int) false) ∧ decide (s % 2 ^ (m - 1) ≠ 0) = decide (leftN s (m : Int) false = 1 ∨ leftN s (m : Int) false = 3) := by
        have hp := Nat.two_pow_pos (m - 1)
        by_cases z : s % 2 ^ m = 0
        · rw [left_none _ (.inr (by rw [Int.toNat_natCast]; exact z))]
          rw [z] at em
          have z1 : s % 2 ^ (m - 1) = 0 := by omega
          have z2 : s / 2 ^ (m - 1) % 2 = 0 := by
            have : 2 ^ (m - 1) * (s / 2 ^ (m - 1) % 2) = 0 := by omega
            rcases Nat.mul_eq_zero.mp this with h | h
            · omega
            · exact h
          rw [z1, z2]; exact ⟨rfl, rfl⟩
        · rw [left_some _ c (by rw [Int.toNat_natCast]; exact z), Int.toNat_natCast]
          have hb : s / 2 ^ (m - 1) % 2 = 0 ∨ s / 2 ^ (m - 1) % 2 = 1 := by omega
          rcases hb with hb | hb
          · rw [hb, Nat.mul_zero, Nat.add_zero] at em
            rw [em] at z
            rw [hb, decide_eq_true z]; exact ⟨rfl, rfl⟩
          · rw [hb, if_neg (by decide)]
            by_cases w : s % 2 ^ (m - 1) = 0
            · rw [w]; exact ⟨rfl, rfl⟩
            · rw [if_pos (.inl w), decide_eq_true w]; exact ⟨rfl, rfl⟩
      simp only [hb1.1, hb1.2]
      exact Ev.now _
theorem left_more (s : Nat) (d : Int) : decide (2 ≤ leftN s d true) = decide (2 ≤ leftN s d false) ∧ (leftN s d true = 1 ∨ leftN s d true = 3) := by
  by_cases c : d ≤ 0 ∨ s % 2 ^ d.toNat = 0
  · rw [left_none _ c, left_none _ c]; simp
  · have c' := not_or.mp c
    rw [left_some _ c'.1 c'.2, left_some _ c'.1 c'.2]
    split
    · simp
    · simp; split <;> simp
theorem ref_up_f (mode : Int) (neg : Bool) (q left : Nat) (h : left ≤ 3) : annealref1_up.f mode neg (decide (q % 2 = 1)) (decide (2 ≤ left)) (decide (left = 1 ∨ left = 3)) = some (upN mode neg q left) := by
  unfold annealref1_up.f upN
  have hl : left = 0 ∨ left = 1 ∨ left = 2 ∨ left = 3 := by omega
  by_cases m1 : mode = 1
  · rw [if_pos m1, if_pos m1]
  · rw [if_neg m1, if_neg m1]
    by_cases m2 : mode = 2
    · rw [if_pos m2, if_pos m2]; rcases hl with rfl | rfl | rfl | rfl <;> cases neg <;> rfl
    · rw [if_neg m2, if_neg m2]
      by_cases m3 : mode = 3
      · rw [if_pos m3, if_pos m3]; rcases hl with rfl | rfl | rfl | rfl <;> cases neg <;> rfl
      · rw [if_neg m3, if_neg m3]
        by_cases m4 : mode = 4
        · rw [if_pos m4, if_pos m4]
        · rw [if_neg m4, if_neg m4]
          rcases hl with rfl | rfl | rfl | rfl <;> simp
theorem ref_over_f (k : Nat) (f mode : Int) (neg : Bool) : annealref1_over.f (k + 1) f mode neg = some (((if endless mode neg then infN f neg else greatN f neg : Nat) : Int)) := by
  unfold annealref1_over.f endless
  simp only [annealref1_over.j0, ref_greatest_f, ref_inf_f, Option.bind_some]
  by_cases m1 : mode = 1
  · rw [if_pos m1, if_pos m1]; rfl
  · rw [if_neg m1, if_neg m1]
    by_cases m2 : mode = 2
    · rw [if_pos m2, if_pos m2]; subst m2; cases neg <;> rfl
    · rw [if_neg m2, if_neg m2]
      by_cases m3 : mode = 3
      · rw [if_pos m3, if_pos m3]; cases neg <;> rfl
      · rw [if_neg m3, if_neg m3]; rfl
end Go.Proofs.Ytlkjoibpfhjhcaa.Round

/- The reference's rounding computes the same numbers as the program's. -/
namespace Go.Proofs.Ytlkjoibpfhjhcaa.Round
open Go.RowKit Go.Proofs.Ytlkjoibpfhjhcaa.P Go.Proofs.Ytlkjoibpfhjhcaa.Num Go.Proofs.Ytlkjoibpfhjhcaa.BitsF Go.Proofs.Ytlkjoibpfhjhcaa.Fmt Go.Proofs.YtlkjoibpfhjhcaaW.PrintWords Go.Proofs.YtlkjoibpfhjhcaaW.PrintLast Go.Proofs.YtlkjoibpfhjhcaaW.PrintMore

/-- A sign beside an amount. -/
theorem sign_or (f : Int) (neg : Bool) (v : Nat) (h : v < 2 ^ (fe f + fm f)) : Go.bits .or .u32 (signN f neg : Int) (v : Int) = ((v + signN f neg : Nat) : Int) ∧ v + signN f neg < 4294967296 := by
  obtain ⟨b1, b2, b3, b4, b5⟩ := fbounds f
  have h31 := pow_le31 b5
  unfold signN
  cases neg
  · simp only [Bool.false_eq_true, if_false]
    rw [or_u32 _ _ (by omega) (by omega), Nat.zero_or, Nat.add_zero]; exact ⟨rfl, by omega⟩
  · simp only [if_true]
    rw [or_u32 _ _ (by omega) (by omega), or_add _ _ (fe f + fm f) (by simp) h, Nat.add_comm]; exact ⟨rfl, by omega⟩
theorem ref_pack_j5 (k : Nat) (f mode : Int) (neg : Bool) (q U : Nat) (hU : U ≤ 10300) (hq : q < 2 ^ (fm f + 1)) (hq' : U ≠ 0 → 2 ^ fm f ≤ q) (K : Nat) (hK : K = U * 2 ^ fm f + q) (c0 c1 c2 c3 c4 : Bool) :
    annealref1_Pack.j5 (k + 2) f mode neg (fm f : Int) (leastN f - fm f + U) (q : Int) c0 c1 c2 c3 c4 = some
      ((((if overN f K then (if endless mode neg then topN f * 2 ^ fm f else topN f * 2 ^ fm f - 1) else K) + signN f neg : Nat) : Int),
        if overN f K then (false, false, true, false, true) else (c0, c1, c2, c3, c4)) ∧
    annealref1_Pack.j6 (k + 2) f mode neg (fm f : Int) (leastN f - fm f + U) (q : Int) c0 c1 c2 c3 c4 = some
      ((((if overN f K then (if endless mode neg then topN f * 2 ^ fm f else topN f * 2 ^ fm f - 1) else K) + signN f neg : Nat) : Int),
        if overN f K then (false, false, true, false, true) else (c0, c1, c2, c3, c4)) := by
  obtain ⟨b1, b2, b3, b4, b5⟩ := fbounds f
  have hl := least_cases f
  have hp := Nat.two_pow_pos (fm f)
  have hpe := Nat.two_pow_pos (fe f)
  have h31 := pow_le31 (show fm f + 1 ≤ 31 by omega)
  have h8 := pow_le31 (show fe f ≤ 31 by omega)
  have hsucc : 2 ^ (fm f + 1) = 2 * 2 ^ fm f := by rw [Nat.pow_succ, Nat.mul_comm]
  have ht := top_cases f
  obtain ⟨_, hte⟩ := inf_lt f neg
  have e1 : shl .u64 1 (fm f : Int) = ((2 ^ fm f : Nat) : Int) := by rw [show (1 : Int) = ((1 : Nat) : Int) from rfl, shl_u64, Nat.one_mul, Nat.mod_eq_of_lt (by omega)]
  have e2 : wrap64 (wrap64 (leastN f - (fm f : Int) + (U : Int) + (fm f : Int)) + (1 - leastN f)) = ((U + 1 : Nat) : Int) := by
    rw [w64_id (leastN f - (fm f : Int) + (U : Int) + (fm f : Int)) (by omega) (by omega), w64_id _ (by omega) (by omega)]; omega
  have e3 : wrap64 (shl .i64 1 (fe f : Int) - 1) = ((topN f : Nat) : Int) := by
    rw [one_shl_i64 _ (by omega), w64_id _ (by omega) (by omega)]; unfold topN; omega
  rw [annealref1_Pack.j5, annealref1_Pack.j6, if_pos (by omega), e1, ref_bias_f, ref_widths_f, ref_sign_f]
  simp only [Option.bind_some]
  rw [if_pos (show (0 : Int) ≤ (fe f : Int) by omega), e2, e3, ref_over_f]
  simp only [Option.bind_some]
  by_cases c : q < 2 ^ fm f
  · have hU0 : U = 0 := by
      rcases Nat.eq_zero_or_pos U with h | h
      · exact h
      · have := hq' (by omega); omega
    have ho : overN f K = false := by
      unfold overN
      rw [decide_eq_false_iff_not, hK, hU0]
      have : 1 * 2 ^ fm f ≤ topN f * 2 ^ fm f := Nat.mul_le_mul_right _ (by omega)
      omega
    obtain ⟨s1, s2⟩ := sign_or f neg q (by omega)
    rw [if_pos (show (q : Int) < ((2 ^ fm f : Nat) : Int) by omega), show (q : Int) % 4294967296 = (q : Int) by omega, s1, ho, hK, hU0]
    simp
  · rw [if_neg (show ¬ (q : Int) < ((2 ^ fm f : Nat) : Int) by omega)]
    have ho : ((U + 1 : Nat) : Int) ≥ (topN f : Int) ↔ overN f K = true := by
      unfold overN
      rw [decide_eq_true_iff, hK]
      constructor
      · intro h
        have : topN f * 2 ^ fm f ≤ (U + 1) * 2 ^ fm f := Nat.mul_le_mul_right _ (by omega)
        rw [Nat.add_mul, Nat.one_mul] at this; omega
      · intro h
        rcases Nat.lt_or_ge (U + 1) (topN f) with d | d
        · have : (U + 1 + 1) * 2 ^ fm f ≤ topN f * 2 ^ fm f := Nat.mul_le_mul_right _ d
          rw [Nat.add_mul, Nat.add_mul, Nat.one_mul] at this; omega
        · omega
    by_cases c' : ((U + 1 : Nat) : Int) ≥ (topN f : Int)
    · rw [if_pos c', ho.mp c']
      simp only [if_true]
      have : (if endless mode neg then infN f neg else greatN f neg) = (if endless mode neg then topN f * 2 ^ fm f else topN f * 2 ^ fm f - 1) + signN f neg := by
        unfold infN greatN; split <;> rfl
      rw [this]
      exact ⟨rfl, rfl⟩
    · rw [if_neg c']
      have co : overN f K = false := by simpa using fun h => c' (ho.mpr h)
      have hmul : (U + 1) * 2 ^ fm f + 2 ^ fm f ≤ 2 ^ (fe f + fm f) := by
        have : (U + 1) * 2 ^ fm f ≤ topN f * 2 ^ fm f := Nat.mul_le_mul_right _ (by omega)
        omega
      have h32 := pow_le31 b5
      have hm1 : q % 2 ^ fm f = q - 2 ^ fm f := by
        have h1 : q / 2 ^ fm f = 1 := Nat.div_eq_of_lt_le (by omega) (by omega)
        have := Nat.div_add_mod q (2 ^ fm f)
        rw [h1, Nat.mul_one] at this; omega
      have e4 : shl .u32 (((U + 1 : Nat) : Int) % 4294967296) (fm f : Int) = (((U + 1) * 2 ^ fm f : Nat) : Int) := by
        rw [show ((U + 1 : Nat) : Int) % 4294967296 = ((U + 1 : Nat) : Int) by omega, shl_u32, Nat.mod_eq_of_lt (by omega)]
      have e5 : Go.bits .and .u64 (q : Int) (IntKind.u64.wrap (((2 ^ fm f : Nat) : Int) - 1)) % 4294967296 = ((q % 2 ^ fm f : Nat) : Int) := by
        rw [show ((2 ^ fm f : Nat) : Int) - 1 = ((2 ^ fm f - 1 : Nat) : Int) by omega, u64_id _ (by omega), mask_u64 _ _ (by omega) (by omega)]
        have := Nat.mod_lt q hp; omega
      have hKe : K + signN f neg = (U + 1) * 2 ^ fm f + signN f neg + q % 2 ^ fm f := by
        rw [hK, hm1, Nat.add_mul]; omega
      obtain ⟨s1, s2⟩ := sign_or f neg ((U + 1) * 2 ^ fm f) (by omega)
      have hq2 : q % 2 ^ fm f < 2 ^ fm f := Nat.mod_lt _ hp
      have e6 : Go.bits .or .u32 (((U + 1) * 2 ^ fm f + signN f neg : Nat) : Int) ((q % 2 ^ fm f : Nat) : Int) = (((U + 1) * 2 ^ fm f + signN f neg + q % 2 ^ fm f : Nat) : Int) := by
        rw [or_u32 _ _ s2 (by omega), or_add _ _ (fm f) ?_ hq2]
        unfold signN
        cases neg
        · simp
        · simp only [if_true]
          rw [Nat.pow_add, ← Nat.add_mul, Nat.mul_mod_left]
      rw [e4, s1, e5, e6, co]
      simp only [Bool.false_eq_true, if_false, hKe]
      exact ⟨trivial, trivial⟩
theorem step_ew (f : Int) : wrap64 ((fm f : Int) + 1) = ((fm f + 1 : Nat) : Int) := by
  obtain ⟨b1, b2, b3, b4, b5⟩ := fbounds f
  rw [w64_id] <;> omega
theorem step_es (f : Int) : shl .u64 1 ((fm f + 1 : Nat) : Int) = ((2 ^ (fm f + 1) : Nat) : Int) := by
  obtain ⟨b1, b2, b3, b4, b5⟩ := fbounds f
  have h31 := pow_le31 (show fm f + 1 ≤ 31 by omega)
  rw [show (1 : Int) = ((1 : Nat) : Int) from rfl, shl_u64, Nat.one_mul, Nat.mod_eq_of_lt (by omega)]
theorem step_e8 (f : Int) (U : Nat) (h : U ≤ 10200) : wrap64 (leastN f - (fm f : Int) + (U : Int) + 1) = leastN f - (fm f : Int) + ((U + 1 : Nat) : Int) := by
  obtain ⟨b1, b2, b3, b4, b5⟩ := fbounds f
  have hl := least_cases f
  rw [w64_id] <;> omega
theorem step_e9 (f : Int) : (((2 ^ (fm f + 1) : Nat) : Int)) / 2 = ((2 ^ fm f : Nat) : Int) := by
  have hsucc : 2 ^ (fm f + 1) = 2 * 2 ^ fm f := by rw [Nat.pow_succ, Nat.mul_comm]
  omega
theorem step_lt (f : Int) : 2 ^ fm f < 2 ^ (fm f + 1) := Nat.pow_lt_pow_right (by decide) (Nat.lt_succ_self _)
theorem step_key (U m q : Nat) (h : q = 2 * m) : (U + 1) * m + m = U * m + q := by rw [Nat.add_mul]; omega
theorem step_q {a b : Nat} (h : a ≤ b) (h' : ¬ a = b) : a < b := by omega
theorem step_i {a b : Nat} (h' : ¬ a = b) : ¬ ((a : Int) = (b : Int)) := by omega
theorem step_n {m : Nat} : (0 : Int) ≤ (m : Int) := by omega
theorem ref_pack_ev (f mode : Int) (neg : Bool) (x : Int) (s : Nat) (more : Bool) (hs : s < 18446744073709551616) :
    Ev (fun k => annealref1_Pack.f k f mode neg x (s : Int) more) ((packN f mode neg (clampE x) s more : Int), false, false, excN f mode neg (clampE x) s more) := by
  unfold annealref1_Pack.f
  have hc : mn (mx x (-10000)) 10000 = clampE x := rfl
  obtain ⟨h1, h2⟩ := clampE_bounds x
  rw [hc]
  generalize clampE x = x at *
  have hll := left_le s (unitN f x s - x) more
  by_cases z : s = 0 ∧ more = false
  · obtain ⟨rfl, rfl⟩ := z
    simp only [if_pos (show ((0 : Nat) : Int) = 0 from rfl)]
    refine Ev.step (fun k => by rw [annealref1_Pack.j0]) ?_
    simp only [Bool.not_false, if_true, ref_zero_f, Option.bind_some]
    have h := pack_f 0 f mode neg x 0 false (by decide)
    rw [clampE_id x h1 h2] at h
    unfold round_Pack.f at h
    rw [if_pos (by rfl), show mn (mx x (-10000)) 10000 = x from clampE_id x h1 h2, round_Pack.j0] at h
    simp only [Bool.not_false, if_true, zero_f, Option.bind_some] at h
    rw [← Option.some.inj h]
    exact Ev.now _
  · have hj : ∀ k, (if (s : Int) = 0 then annealref1_Pack.j0 k f mode neg x (s : Int) more (!more) else annealref1_Pack.j0 k f mode neg x (s : Int) more false) = annealref1_Pack.j0 k f mode neg x (s : Int) more false := by
      intro k
      by_cases c : (s : Int) = 0
      · rw [if_pos c]
        cases more
        · exact absurd ⟨by omega, rfl⟩ z
        · rfl
      · rw [if_neg c]
    refine Ev.congr hj ?_
    obtain ⟨u1, u2, u3⟩ := unit_bounds f x s hs h1 h2
    obtain ⟨q1, q2⟩ := quo_bounds f x s
    obtain ⟨b1, b2, b3, b4, b5⟩ := fbounds f
    have hl := least_cases f
    have hn := lenN_small s hs
    have h31 := pow_le31 (show fm f + 1 ≤ 31 by omega)
    have hp := Nat.two_pow_pos (fm f)
    have hsucc : 2 ^ (fm f + 1) = 2 * 2 ^ fm f := by rw [Nat.pow_succ, Nat.mul_comm]
    have hq64 : quoN s (unitN f x s - x) < 18446744073709551616 := by omega
    have hd : unitN f x s - x ≤ 0 → s * 2 ^ (-(unitN f x s - x)).toNat < 18446744073709551616 := by
      intro h; have := hq64; unfold quoN at this; rw [if_pos h] at this; exact this
    -- the exponent that the reference takes
    have hE : ∃ e : Int, (∀ k, (if (s : Int) = 0 then annealref1_Pack.j1 k f mode neg x (s : Int) more (fm f : Int) (leastN f) (-20000) else annealref1_Pack.j1 k f mode neg x (s : Int) more (fm f : Int) (leastN f) (wrap64 (wrap64 (x + (lenN s : Int)) - 1))) = annealref1_Pack.j1 k f mode neg x (s : Int) more (fm f : Int) (leastN f) e) ∧ wrap64 (mx e (leastN f) - (fm f : Int)) = unitN f x s ∧ (decide (e < leastN f) = (decide (s = 0) || decide (x + lenN s - 1 < leastN f))) := by
      by_cases c : s = 0
      · subst c
        refine ⟨-20000, fun k => by rw [if_pos (show ((0 : Nat) : Int) = 0 from rfl)], ?_, ?_⟩
        · have : riseN f x 0 = 0 := by unfold riseN; rw [if_pos rfl]
          have hm : mx (-20000) (leastN f) = leastN f := by unfold mx; split <;> omega
          rw [hm]
          unfold unitN; rw [this, w64_id _ (by omega) (by omega)]; omega
        · rw [decide_eq_true (by omega)]; simp
      · have e1 : wrap64 (wrap64 (x + (lenN s : Int)) - 1) = x + lenN s - 1 := by
          rw [w64_id (x + _) (by omega) (by omega), w64_id _ (by omega) (by omega)]
        refine ⟨x + lenN s - 1, fun k => by rw [if_neg (by omega), e1], ?_, ?_⟩
        · have hr : riseN f x s = (x + lenN s - 1 - leastN f).toNat := by unfold riseN; rw [if_neg c]
          unfold unitN mx
          split
          · rw [w64_id _ (by omega) (by omega)]; omega
          · rw [w64_id _ (by omega) (by omega)]; omega
        · rw [decide_eq_false c, Bool.false_or]
    obtain ⟨e, he1, he2, he3⟩ := hE
    refine Ev.step (fun k => by rw [annealref1_Pack.j0]) ?_
    simp only [Bool.false_eq_true, if_false, ref_widths_f, ref_bias_f, Option.bind_some]
    refine Ev.bind (ref_len_ev s hs) ?_
    rw [show (1 : Int) - (1 - leastN f) = leastN f by omega, w64_id (leastN f) (by omega) (by omega)]
    refine Ev.congr he1 ?_
    refine Ev.step (fun k => by rw [annealref1_Pack.j1]) ?_
    rw [he2, w64_id (unitN f x s - x) (by omega) (by omega)]
    refine Ev.bind (ref_divide_f s hs _ (by omega) (by omega) hd) ?_
    -- what is left, with the little more
    have hlm : leftN s (unitN f x s - x) false ≤ 3 := left_le s _ false
    have hcol : ∀ k (r : Option (Int × Bool × Bool × Bool × Bool × Bool)), annealref1_Pack.j2 k f mode neg (fm f : Int) (leastN f) e (unitN f x s) (quoN s (unitN f x s - x) : Int) (decide (2 ≤ leftN s (unitN f x s - x) more)) (decide (leftN s (unitN f x s - x) more = 1 ∨ leftN s (unitN f x s - x) more = 3)) = r →
        (if decide (leftN s (unitN f x s - x) false = 1 ∨ leftN s (unitN f x s - x) false = 3) = true then annealref1_Pack.j2 k f mode neg (fm f : Int) (leastN f) e (unitN f x s) (quoN s (unitN f x s - x) : Int) (decide (2 ≤ leftN s (unitN f x s - x) false)) true else annealref1_Pack.j2 k f mode neg (fm f : Int) (leastN f) e (unitN f x s) (quoN s (unitN f x s - x) : Int) (decide (2 ≤ leftN s (unitN f x s - x) false)) more) = r := by
      intro k r h
      cases more
      · by_cases c : leftN s (unitN f x s - x) false = 1 ∨ leftN s (unitN f x s - x) false = 3
        · rw [decide_eq_true c] at h ⊢; rw [if_pos rfl]; exact h
        · rw [decide_eq_false c] at h ⊢; rw [if_neg (by decide)]; exact h
      · obtain ⟨m1, m2⟩ := left_more s (unitN f x s - x)
        rw [decide_eq_true m2, m1] at h
        split <;> exact h
    refine Ev.congr (fun k => hcol k _ rfl) ?_
    generalize hL : leftN s (unitN f x s - x) more = L at *
    refine Ev.step (fun k => by rw [annealref1_Pack.j2]) ?_
    have hinx : decide (L ≠ 0) = inexN f x s more := by unfold inexN; rw [hL]
    have h2 : ∀ k, (if decide (2 ≤ L) = true then annealref1_Pack.j3 k f mode neg (fm f : Int) (leastN f) e (unitN f x s) (quoN s (unitN f x s - x) : Int) (decide (2 ≤ L)) (decide (L = 1 ∨ L = 3)) true else annealref1_Pack.j3 k f mode neg (fm f : Int) (leastN f) e (unitN f x s) (quoN s (unitN f x s - x) : Int) (decide (2 ≤ L)) (decide (L = 1 ∨ L = 3)) (decide (L = 1 ∨ L = 3))) = annealref1_Pack.j3 k f mode neg (fm f : Int) (leastN f) e (unitN f x s) (quoN s (unitN f x s - x) : Int) (decide (2 ≤ L)) (decide (L = 1 ∨ L = 3)) (inexN f x s more) := by
      intro k
      rw [← hinx]
      have : L = 0 ∨ L = 1 ∨ L = 2 ∨ L = 3 := by omega
      rcases this with h | h | h | h <;> subst h <;> rfl
    refine Ev.congr h2 ?_
    refine Ev.step (fun k => by rw [annealref1_Pack.j3]) ?_
    have hodd : ((Go.bits .and .u64 (quoN s (unitN f x s - x) : Int) 1 == 1) : Bool) = decide (quoN s (unitN f x s - x) % 2 = 1) := by
      rw [and1_u64 _ hq64, show (1 : Int) = ((1 : Nat) : Int) from rfl, beq_nn]
    simp only [hodd, ref_up_f mode neg _ L hll, Option.bind_some]
    -- the unit above
    have hK : keyN f mode neg x s more = riseN f x s * 2 ^ fm f + (quoN s (unitN f x s - x) + (if upN mode neg (quoN s (unitN f x s - x)) L then 1 else 0)) := by
      unfold keyN; rw [hL, Nat.add_assoc]
    have h3 : ∀ k, (if upN mode neg (quoN s (unitN f x s - x)) L = true then annealref1_Pack.j4 k f mode neg (fm f : Int) (leastN f) e (unitN f x s) (IntKind.u64.wrap ((quoN s (unitN f x s - x) : Int) + 1)) (inexN f x s more) else annealref1_Pack.j4 k f mode neg (fm f : Int) (leastN f) e (unitN f x s) (quoN s (unitN f x s - x) : Int) (inexN f x s more)) = annealref1_Pack.j4 k f mode neg (fm f : Int) (leastN f) e (unitN f x s) ((quoN s (unitN f x s - x) + (if upN mode neg (quoN s (unitN f x s - x)) L then 1 else 0) : Nat) : Int) (inexN f x s more) := by
      intro k
      by_cases c : upN mode neg (quoN s (unitN f x s - x)) L = true
      · rw [if_pos c, if_pos c, show (quoN s (unitN f x s - x) : Int) + 1 = ((quoN s (unitN f x s - x) + 1 : Nat) : Int) by omega, u64_id _ (by omega)]
      · rw [if_neg c, if_neg c, Nat.add_zero]
    refine Ev.congr h3 ?_
    have hqn : quoN s (unitN f x s - x) + (if upN mode neg (quoN s (unitN f x s - x)) L then 1 else 0) ≤ 2 ^ (fm f + 1) := by split <;> omega
    have hqm : riseN f x s ≠ 0 → 2 ^ fm f ≤ quoN s (unitN f x s - x) + (if upN mode neg (quoN s (unitN f x s - x)) L then 1 else 0) := fun h => Nat.le_trans (q2 h) (Nat.le_add_right _ _)
    generalize quoN s (unitN f x s - x) + (if upN mode neg (quoN s (unitN f x s - x)) L then 1 else 0) = Q at *
    have hun : unitN f x s = leastN f - fm f + (riseN f x s : Nat) := rfl
    rw [hun]
    have ew := step_ew f
    have es := step_es f
    have e8 := step_e8 f _ u3
    have e9 := step_e9 f
    have fin : ∀ r : Int × Bool × Bool × Bool × Bool × Bool, r = ((((if overN f (keyN f mode neg x s more) then (if endless mode neg then topN f * 2 ^ fm f else topN f * 2 ^ fm f - 1) else keyN f mode neg x s more) + signN f neg : Nat) : Int), if overN f (keyN f mode neg x s more) then (false, false, true, false, true) else (false, false, false, underN f x s more, inexN f x s more)) → r = ((packN f mode neg x s more : Int), false, false, excN f mode neg x s more) := by
      intro r hr
      rw [hr]
      unfold packN excN
      split <;> rfl
    have hund : underN f x s more = (inexN f x s more && decide (e < leastN f)) := by unfold underN; rw [he3]
    refine Ev.step (fun k => by rw [annealref1_Pack.j4]) ?_
    simp only [ew, es, e8, if_pos (step_n (m := fm f + 1))]
    by_cases cQ : Q = 2 ^ (fm f + 1)
    · have g := fun k c3 => ref_pack_j5 k f mode neg (2 ^ fm f) (riseN f x s + 1) (Nat.le_trans (Nat.succ_le_succ u3) (by decide)) (step_lt f) (fun _ => Nat.le_refl _) (keyN f mode neg x s more) (by rw [hK]; exact (step_key _ _ _ (cQ.trans hsucc)).symm) false false false c3 (inexN f x s more)
      simp only [cQ, if_true, e9]
      by_cases ci : inexN f x s more = true
      · simp only [ci, if_true] at g ⊢
        rw [ci, Bool.true_and] at hund
        rw [← fin _ rfl, hund, ci]
        exact ⟨2, fun n hn => by obtain ⟨m, rfl⟩ : ∃ m, n = m + 2 := ⟨n - 2, by omega⟩; exact (g m _).1⟩
      · rw [Bool.not_eq_true] at ci
        simp only [ci, Bool.false_eq_true, if_false] at g ⊢
        rw [ci, Bool.false_and] at hund
        rw [← fin _ rfl, hund, ci]
        exact ⟨2, fun n hn => by obtain ⟨m, rfl⟩ : ∃ m, n = m + 2 := ⟨n - 2, by omega⟩; exact (g m _).2⟩
    · have g := fun k c3 => ref_pack_j5 k f mode neg Q (riseN f x s) (Nat.le_trans u3 (by decide)) (step_q hqn cQ) hqm (keyN f mode neg x s more) hK false false false c3 (inexN f x s more)
      have cQ' : ¬ ((Q : Int) = ((2 ^ (fm f + 1) : Nat) : Int)) := step_i cQ
      simp only [cQ', if_false]
      by_cases ci : inexN f x s more = true
      · simp only [ci, if_true] at g ⊢
        rw [ci, Bool.true_and] at hund
        rw [← fin _ rfl, hund, ci]
        exact ⟨2, fun n hn => by obtain ⟨m, rfl⟩ : ∃ m, n = m + 2 := ⟨n - 2, by omega⟩; exact (g m _).1⟩
      · rw [Bool.not_eq_true] at ci
        simp only [ci, Bool.false_eq_true, if_false] at g ⊢
        rw [ci, Bool.false_and] at hund
        rw [← fin _ rfl, hund, ci]
        exact ⟨2, fun n hn => by obtain ⟨m, rfl⟩ : ∃ m, n = m + 2 := ⟨n - 2, by omega⟩; exact (g m _).2⟩
end Go.Proofs.Ytlkjoibpfhjhcaa.Round

/- Numbers times powers of two: the reference's, as plain numbers (for rounds without chapter 8). -/
namespace Go.Proofs.Ytlkjoibpfhjhcaa.Round
open Go.RowKit Go.Proofs.Ytlkjoibpfhjhcaa.P Go.Proofs.Ytlkjoibpfhjhcaa.Num Go.Proofs.Ytlkjoibpfhjhcaa.BitsF Go.Proofs.Ytlkjoibpfhjhcaa.Fmt Go.Proofs.YtlkjoibpfhjhcaaW.PrintWords Go.Proofs.YtlkjoibpfhjhcaaW.PrintLast Go.Proofs.YtlkjoibpfhjhcaaW.PrintMore

/-- A normal number that stays one. -/
theorem rscale_ev (f : Int) (e e' r : Nat) (n : Int) (h0 : 1 ≤ e) (h1 : e < topN f) (h0' : 1 ≤ e') (h1' : e' < topN f) (hr : r < 2 ^ fm f) (hn : n = (e' : Int) - e) :
    ∃ x : Bool × Bool × Bool × Bool × Bool, Ev (fun k => annealref1_Scale.f k f 0 ((e * 2 ^ fm f + r + signN f false : Nat) : Int) n) (((e' * 2 ^ fm f + r + signN f false : Nat) : Int), x) := by
  obtain ⟨a1, a2, a3, a4, a5, a6, a7, a8, a9⟩ := norm_all f false e r h0 h1 hr
  have ht := top_cases f
  have hl := lowest_near f (e * 2 ^ fm f + r + signN f false)
  have hcl : mn (mx n (-5000)) 5000 = n := by unfold mn mx; split <;> split <;> omega
  have n4 : ¬ isNan f (e * 2 ^ fm f + r + signN f false) = true := by unfold isNan; rw [a7]; decide
  have hx : lowestN f (e * 2 ^ fm f + r + signN f false) + n = leastN f - fm f + ((e' - 1 : Nat) : Int) := by rw [a9]; omega
  have hp := ref_pack_ev f 0 false (lowestN f (e * 2 ^ fm f + r + signN f false) + n) (wholeN f (e * 2 ^ fm f + r + signN f false)) false (whole_64 f _)
  rw [clampE_id _ (by omega) (by omega), hx, a8, (norm_pack f 0 false e' r h0' h1' hr).1] at hp
  refine ⟨(false, false, excN f 0 false (leastN f - fm f + ((e' - 1 : Nat) : Int)) (r + 2 ^ fm f) false), Ev.congr (fun k => by unfold annealref1_Scale.f; rfl) (Ev.bind (nans1_ev f _ a4) ?_)⟩
  refine Ev.congr (fun k => by rw [if_neg n4]) (Ev.bind (rfinite_ev f _ a4) ?_)
  rw [a5, decide_eq_true h1]
  refine Ev.congr (fun k => by rw [if_pos rfl]) (Ev.bind (runpack_ev f _ a4 (by rw [a5]; exact h1)) ?_)
  dsimp only
  rw [hcl, w64_id _ (by omega) (by omega), hx, a1, a8]
  exact Ev.bind hp (Ev.now _)
theorem rscale_zero (f n : Int) (h1 : -10 ≤ n) (h2 : n ≤ 10) : ∃ x : Bool × Bool × Bool × Bool × Bool, Ev (fun k => annealref1_Scale.f k f 0 ((0 : Nat) : Int) n) (((0 : Nat) : Int), x) := by
  obtain ⟨z1, z2, z3⟩ := zero_all f false
  have hs : signN f false = 0 := rfl
  rw [hs] at z1 z2
  have hw := (none_low f 0 z1).2
  have hl := lowest_near f 0
  have hcl : mn (mx n (-5000)) 5000 = n := by unfold mn mx; split <;> split <;> omega
  have n4 : ¬ isNan f 0 = true := by unfold isNan; rw [z1]; decide
  have hf : expN f 0 < topN f := (cls_finite f 0).mp (by rw [z1]; decide)
  have hp := ref_pack_ev f 0 false (lowestN f 0 + n) 0 false (by decide)
  rw [clampE_id _ (by omega) (by omega), (pack_none f 0 false _).1, hs] at hp
  refine ⟨(false, false, excN f 0 false (lowestN f 0 + n) 0 false), Ev.congr (fun k => by unfold annealref1_Scale.f; rfl) (Ev.bind (nans1_ev f 0 (by decide)) ?_)⟩
  refine Ev.congr (fun k => by rw [if_neg n4]) (Ev.bind (rfinite_ev f 0 (by decide)) ?_)
  rw [decide_eq_true hf]
  refine Ev.congr (fun k => by rw [if_pos rfl]) (Ev.bind (runpack_ev f 0 (by decide) hf) ?_)
  dsimp only
  rw [hcl, w64_id _ (by omega) (by omega), z2, hw]
  exact Ev.bind hp (Ev.now _)
end Go.Proofs.Ytlkjoibpfhjhcaa.Round

/- The reference's order of numbers that aren't negative: plain numbers. -/
namespace Go.Proofs.Ytlkjoibpfhjhcaa.Round
open Go.RowKit Go.Proofs.Ytlkjoibpfhjhcaa.P Go.Proofs.Ytlkjoibpfhjhcaa.Num Go.Proofs.Ytlkjoibpfhjhcaa.BitsF Go.Proofs.Ytlkjoibpfhjhcaa.Fmt Go.Proofs.YtlkjoibpfhjhcaaW.PrintWords Go.Proofs.YtlkjoibpfhjhcaaW.PrintLast Go.Proofs.YtlkjoibpfhjhcaaW.PrintMore

theorem pos_place (f : Int) (a : Nat) (h : a < infK f) : placeN f (lowN f a) = (a : Int) ∧ clsN f a < 3 ∧ (clsN f a = 0 ↔ a = 0) ∧ a < 4294967296 := by
  obtain ⟨i1, i2⟩ := infK_lt f
  have hb := fbounds f
  have h31 := pow_le31 (show fe f + fm f ≤ 31 by omega)
  have hp := place_sign f a false (by omega)
  obtain ⟨p1, p2, p3⟩ := sign_parts f a false (by omega)
  have hs : signN f false = 0 := rfl
  rw [hs, Nat.add_zero] at hp p1 p2 p3
  obtain ⟨m1, m2⟩ := mag_parts f a
  rw [p2] at m1 m2
  refine ⟨hp, (cls_finite f a).mpr ((mag_exp f a).mpr (by rw [p2]; exact h)), ?_, by omega⟩
  have hd := Nat.div_add_mod a (2 ^ fm f)
  rw [m1, m2] at hd
  constructor
  · intro c
    unfold clsN at c
    by_cases e : expN f a = 0
    · rw [if_pos e] at c
      by_cases z : fracN f a = 0
      · rw [e, z] at hd; omega
      · rw [if_neg z] at c; omega
    · rw [if_neg e, if_pos ((mag_exp f a).mpr (by rw [p2]; exact h))] at c; omega
  · intro c
    subst c
    unfold clsN expN fracN; simp
theorem less_ev (f : Int) (a b : Nat) (ha : a < infK f) (hb : b < infK f) : Ev (fun k => annealref1_Less.f k f (a : Int) (b : Int)) (decide (a < b)) := by
  obtain ⟨a1, a2, a3, a4⟩ := pos_place f a ha
  obtain ⟨b1, b2, b3, b4⟩ := pos_place f b hb
  have hc := compare_ev f a b a4 b4
  have na : isNan f a = false := by unfold isNan; exact decide_eq_false (by omega)
  have nb : isNan f b = false := by unfold isNan; exact decide_eq_false (by omega)
  have e : cmpN f a b = (if a < b then (-1, true) else if a > b then (1, true) else (0, true)) := by
    unfold cmpN
    rw [na, nb, if_neg (by decide), a1, b1]
    by_cases z : clsN f a = 0 ∧ clsN f b = 0
    · have za := a3.mp z.1
      have zb := b3.mp z.2
      rw [if_pos z, za, zb]; rfl
    · rw [if_neg z]
      by_cases l : a < b
      · rw [if_pos (show (a : Int) < (b : Int) by omega), if_pos l]
      · rw [if_neg (show ¬ (a : Int) < (b : Int) by omega), if_neg l]
        by_cases g : a > b
        · rw [if_pos (show (a : Int) > (b : Int) by omega), if_pos g]
        · rw [if_neg (show ¬ (a : Int) > (b : Int) by omega), if_neg g]
  rw [e] at hc
  refine Ev.congr (fun k => by unfold annealref1_Less.f; rfl) (Ev.bind hc (Ev.congr (fun k => ?_) (Ev.now _)))
  by_cases l : a < b
  · rw [if_pos l, decide_eq_true l]; rfl
  · rw [if_neg l, decide_eq_false l]
    by_cases g : a > b
    · rw [if_pos g]; rfl
    · rw [if_neg g]; rfl
end Go.Proofs.Ytlkjoibpfhjhcaa.Round

/- A number without its sign: plain numbers. -/
namespace Go.Proofs.Ytlkjoibpfhjhcaa.Round
open Go.RowKit Go.Proofs.Ytlkjoibpfhjhcaa.P Go.Proofs.Ytlkjoibpfhjhcaa.Num Go.Proofs.Ytlkjoibpfhjhcaa.BitsF Go.Proofs.Ytlkjoibpfhjhcaa.Fmt Go.Proofs.YtlkjoibpfhjhcaaW.PrintWords Go.Proofs.YtlkjoibpfhjhcaaW.PrintLast Go.Proofs.YtlkjoibpfhjhcaaW.PrintMore

theorem and_mod (a n : Nat) (hn : n ≤ 31) (h : a < 2 ^ (n + 1)) : a &&& (4294967295 - 2 ^ n) = a % 2 ^ n := by
  have hp := pow_le31 hn
  apply Nat.eq_of_testBit_eq
  intro i
  have e : 4294967295 - 2 ^ n = 2 ^ 32 - (2 ^ n + 1) := by omega
  rw [Nat.testBit_and, e, Nat.testBit_two_pow_sub_succ (by omega), Nat.testBit_mod_two_pow, Nat.testBit_two_pow]
  by_cases c : i < n
  · rw [decide_eq_true c, decide_eq_true (show i < 32 by omega), decide_eq_false (show ¬ n = i by omega)]; simp
  · by_cases d : n = i
    · rw [decide_eq_true d, decide_eq_false c]; simp
    · have : a.testBit i = false := Nat.testBit_lt_two_pow (Nat.lt_of_lt_of_le h (Nat.pow_le_pow_right (by decide) (by omega)))
      rw [this, decide_eq_false c]; simp
theorem and_not (f : Int) (a : Nat) (h : a < 2 ^ (fe f + fm f + 1)) : Go.bits .andNot .u32 (a : Int) (signN f true : Int) = (magN f a : Int) := by
  have hb := fbounds f
  have h31 := pow_le31 (show fe f + fm f ≤ 31 by omega)
  have h32 := pow_le32 (show fe f + fm f + 1 ≤ 32 by omega)
  have hs : signN f true = 2 ^ (fe f + fm f) := rfl
  rw [Go.u32_andNot_nat a _ (by omega) (by omega), hs, and_mod a _ (by omega) h]; rfl
end Go.Proofs.Ytlkjoibpfhjhcaa.Round

/- SumExact: a sum of two near one another is exact when it is taken apart: for any two numbers near one, of each format. -/
namespace Go.Proofs.Ytlkjoibpfhjhcaa.Pure
open Go.RowKit Go.Proofs.Ytlkjoibpfhjhcaa.P Go.Proofs.Ytlkjoibpfhjhcaa.Num Go.Proofs.Ytlkjoibpfhjhcaa.BitsF Go.Proofs.Ytlkjoibpfhjhcaa.Fmt Go.Proofs.Ytlkjoibpfhjhcaa.Round Go.Proofs.YtlkjoibpfhjhcaaW.PrintWords Go.Proofs.YtlkjoibpfhjhcaaW.PrintLast Go.Proofs.YtlkjoibpfhjhcaaW.PrintMore

theorem known4_ev : Ev (fun k => anneallaw4_known.f k) true := Ev.of anneallaw4_known.mono (k := 60) (by kernel_rfl)
theorem form4_some (c : Nat) : ∃ f : Int, anneallaw4_form.f (c : Int) = some f := by
  have e := Int.tmod_eq_emod_of_nonneg (b := 3) (Int.natCast_nonneg c)
  unfold anneallaw4_form.f
  rw [Option.bind_some, e]
  have h : (c : Int) % 3 = 0 ∨ (c : Int) % 3 = 1 ∨ (c : Int) % 3 = 2 := by omega
  rcases h with h | h | h <;> rw [h] <;> exact ⟨_, rfl⟩
theorem j0_true (f x y d : Int) (b0 b1 b2 b3 b4 : Bool) : Ev (fun k => anneallaw4_SumExact.j0 k f x y d true b0 b1 b2 b3 b4) true :=
  Ev.step (fun k => by rw [anneallaw4_SumExact.j0, if_pos rfl]) (Ev.now _)
/-- A number near one without its sign: nought, or normal. -/
theorem mild_abs (f : Int) (a : Nat) (ha : a < 4294967296) : ∃ v m : Nat, annealseat_Mild.f f (a : Int) = some (v : Int) ∧ v < 2 ^ (fe f + fm f + 1) ∧ magN f v = m ∧ m < infK f ∧ (m = 0 ∨ ∃ e r : Nat, m = e * 2 ^ fm f + r ∧ r < 2 ^ fm f ∧ oneN f - 2 ≤ e ∧ e < oneN f + 2) := by
  obtain ⟨m, neg, hm, hmr⟩ := mild_f f a ha
  obtain ⟨i1, i2⟩ := infK_lt f
  have hc : oneN f = 15 ∧ topN f = 31 ∨ oneN f = 127 ∧ topN f = 255 := by
    rcases one_cases f with ⟨_, _, h3, _, h4⟩ | ⟨_, _, h3, _, h4⟩ | ⟨_, _, h3, _, h4⟩ <;> omega
  rcases hmr with ⟨rfl, rfl⟩ | hmr
  · obtain ⟨p1, p2, p3⟩ := sign_parts f 0 false (Nat.two_pow_pos _)
    exact ⟨_, 0, hm, p3, p2, i2, .inl rfl⟩
  · obtain ⟨_, m2, m3, m4, m5, m6, _, _, m9⟩ := mild_parts f m neg hmr.1 hmr.2
    have hr := frac_lt f (m + signN f neg)
    have hlt := norm_under f (expN f (m + signN f neg)) (fracN f (m + signN f neg)) (by omega) hr
    rw [← m9] at hlt
    exact ⟨_, m, hm, m3, m2, hlt, .inr ⟨_, _, m9, hr, m5, m6⟩⟩
theorem exact_end (f : Int) (x y d : Nat) (X : Bool × Bool × Bool × Bool × Bool) (hx : x < infK f) (hy : y < infK f) (hd : d < 4294967296) (hX : X = (false, false, false, false, false)) (h : sumN f 0 d y = x) :
    Ev (fun k => anneallaw4_SumExact.j0 k f (x : Int) (y : Int) (d : Int) false X.1 X.2.1 X.2.2.1 X.2.2.2.1 X.2.2.2.2) true := by
  obtain ⟨x1, x2, x3, x4⟩ := pos_place f x hx
  obtain ⟨y1, y2, y3, y4⟩ := pos_place f y hy
  subst hX
  have ha := add_ev f 0 d y hd y4
  rw [h] at ha
  refine Ev.step (fun k => by rw [anneallaw4_SumExact.j0, if_neg (by decide)]) (Ev.bind ha ?_)
  exact Ev.congr (fun k => by rw [if_pos (by decide), ref_key_f f x x4, Option.bind_some, Option.bind_some, beq_self_eq_true]) (Ev.now _)
theorem SumExact : anneallaw4_SumExact.Pure := by
  intro a0 a1 a2 h0 h1 h2
  obtain ⟨p0, q0⟩ := wf_u8 h0
  obtain ⟨p1, q1⟩ := wf_u32 h1
  obtain ⟨p2, q2⟩ := wf_u32 h2
  obtain ⟨c, rfl⟩ := nat_of p0
  obtain ⟨a, rfl⟩ := nat_of p1
  obtain ⟨b, rfl⟩ := nat_of p2
  obtain ⟨f, ff⟩ := form4_some c
  obtain ⟨u, x, hu, hul, hux, hx, cx⟩ := mild_abs f a (by omega)
  obtain ⟨v, y, hv, hvl, hvy, hy, cy⟩ := mild_abs f b (by omega)
  obtain ⟨x1, x2, x3, x4⟩ := pos_place f x hx
  obtain ⟨y1, y2, y3, y4⟩ := pos_place f y hy
  have hc : oneN f = 15 ∧ topN f = 31 ∧ leastN f = -14 ∧ fm f = 10 ∨ oneN f = 127 ∧ topN f = 255 ∧ leastN f = -126 ∧ fm f ≤ 23 := by
    rcases one_cases f with ⟨_, h2, h3, h5, h4⟩ | ⟨_, h2, h3, h5, h4⟩ | ⟨_, h2, h3, h5, h4⟩ <;> omega
  have s0 : signN f false = 0 := rfl
  apply Ev.rounds
  unfold anneallaw4_SumExact.f
  refine Ev.bind known4_ev ?_
  refine Ev.congr (fun k => by rw [if_pos rfl, ff, Option.bind_some, hu, Option.bind_some, ref_zero_f, Option.bind_some, hv, Option.bind_some, Option.bind_some, and_not f u hul, and_not f v hvl, hux, hvy]) ?_
  have hsub := sub_ev f 0 x y x4 y4
  obtain ⟨t1, t2, t3, t4, t5⟩ := turn_parts f y
  -- the difference and the scaled ones
  rcases cy with rfl | ⟨ey, ry, rfl, hry, ey1, ey2⟩
  · obtain ⟨H, hH⟩ := rscale_zero f (-1) (by decide) (by decide)
    obtain ⟨T, hT⟩ := rscale_zero f 1 (by decide) (by decide)
    refine Ev.bind hH (Ev.bind hT (Ev.bind hsub (Ev.bind (less_ev f x 0 hx hy) ?_)))
    dsimp only
    rw [decide_eq_false (show ¬ x < 0 by omega)]
    refine Ev.congr (fun k => by rw [if_neg (by decide)]) (Ev.bind (less_ev f 0 x hy hx) ?_)
    by_cases z : x = 0
    · subst z
      rw [decide_eq_false (by omega)]
      obtain ⟨e1, e2⟩ := (sub_self f 0 0).1 x2
      have hs : sumN f 0 (subN f 0 0 0) 0 = 0 := by
        rw [e1]
        obtain ⟨z1, z2, z3⟩ := zero_all f false
        rw [show signN f (decide ((0 : Int) = 3)) = 0 from rfl]
        rw [s0] at z1 z2
        have w := (none_low f 0 z1).2
        unfold sumN pairN roundedN exactN noughtN
        rw [z1, z2, w]; simp [s0]
      exact exact_end f 0 0 _ _ hx hy (by rw [e1]; exact (zero_all f _).2.2) e2 hs
    · rw [decide_eq_true (show 0 < x by omega)]
      exact j0_true ..
  · obtain ⟨n1, n2, n3, n4, n5, n6, n7, n8, n9⟩ := norm_all f false ey ry (by omega) (by omega) hry
    obtain ⟨H, hH⟩ := rscale_ev f ey (ey - 1) ry (-1) (by omega) (by omega) (by omega) (by omega) hry (by omega)
    obtain ⟨T, hT⟩ := rscale_ev f ey (ey + 1) ry 1 (by omega) (by omega) (by omega) (by omega) hry (by omega)
    have hlo := norm_under f (ey - 1) ry (by omega) hry
    have hhi := norm_under f (ey + 1) ry (by omega) hry
    rw [s0, Nat.add_zero, Nat.add_zero] at hH hT
    rw [s0, Nat.add_zero] at n1 n4 n7 n8 n9
    refine Ev.bind hH (Ev.bind hT (Ev.bind hsub (Ev.bind (less_ev f x _ hx hlo) ?_)))
    dsimp only
    by_cases l1 : x < (ey - 1) * 2 ^ fm f + ry
    · rw [decide_eq_true l1]
      exact Ev.congr (fun k => by rw [if_pos rfl]) (j0_true ..)
    · rw [decide_eq_false l1]
      refine Ev.congr (fun k => by rw [if_neg (by decide)]) (Ev.bind (less_ev f _ x hhi hx) ?_)
      by_cases l2 : (ey + 1) * 2 ^ fm f + ry < x
      · rw [decide_eq_true l2]
        exact j0_true ..
      · rw [decide_eq_false l2]
        rcases cx with rfl | ⟨ex, rx, rfl, hrx, ex1, ex2⟩
        · exfalso; apply l1
          have := Nat.mul_le_mul_right (2 ^ fm f) (show 1 ≤ ey - 1 by omega)
          have := Nat.two_pow_pos (fm f)
          omega
        · obtain ⟨k1, k2, k3, k4, k5, k6, k7, k8, k9⟩ := norm_all f false ex rx (by omega) (by omega) hrx
          rw [s0, Nat.add_zero] at k1 k4 k7 k8 k9
          have hs2 : 2 ^ (fm f + 1) = 2 * 2 ^ fm f := by rw [Nat.pow_succ, Nat.mul_comm]
          have hP := Nat.two_pow_pos (fm f)
          -- how far apart the exponents are
          have near : ∃ i k : Nat, ∃ g : Int, i ≤ 1 ∧ k ≤ 1 ∧ leastN f - fm f + ((ex - 1 : Nat) : Int) = g + (i : Int) ∧ leastN f - fm f + ((ey - 1 : Nat) : Int) = g + (k : Int) ∧ leastN f ≤ g ∧ g + fm f + 1 - leastN f < topN f ∧
              (rx + 2 ^ fm f) * 2 ^ i < (ry + 2 ^ fm f) * 2 ^ k + 2 ^ (fm f + 1) ∧ (ry + 2 ^ fm f) * 2 ^ k < (rx + 2 ^ fm f) * 2 ^ i + 2 ^ (fm f + 1) := by
            rcases Nat.lt_trichotomy ex ey with o | o | o
            · have e : ey = ex + 1 := by
                rcases Nat.lt_or_ge (ex + 1) ey with w | w
                · exfalso; apply l1
                  have := Nat.mul_le_mul_right (2 ^ fm f) (show ex + 1 ≤ ey - 1 by omega)
                  rw [Nat.add_mul] at this; omega
                · omega
              subst e
              rw [show ex + 1 - 1 = ex by omega] at l1
              exact ⟨0, 1, leastN f - fm f + ((ex - 1 : Nat) : Int), by omega, by omega, by omega, by omega, by omega, by omega, by rw [Nat.pow_zero, Nat.pow_one, hs2]; omega, by rw [Nat.pow_zero, Nat.pow_one, hs2]; omega⟩
            · subst o
              exact ⟨0, 0, leastN f - fm f + ((ex - 1 : Nat) : Int), by omega, by omega, by omega, by omega, by omega, by omega, by rw [Nat.pow_zero, hs2]; omega, by rw [Nat.pow_zero, hs2]; omega⟩
            · have e : ex = ey + 1 := by
                rcases Nat.lt_or_ge (ey + 1) ex with w | w
                · exfalso; apply l2
                  have := Nat.mul_le_mul_right (2 ^ fm f) (show ey + 1 + 1 ≤ ex by omega)
                  rw [Nat.add_mul (ey + 1)] at this; omega
                · omega
              subst e
              exact ⟨1, 0, leastN f - fm f + ((ey - 1 : Nat) : Int), by omega, by omega, by omega, by omega, by omega, by omega, by rw [Nat.pow_zero, Nat.pow_one, hs2]; omega, by rw [Nat.pow_zero, Nat.pow_one, hs2]; omega⟩
          obtain ⟨i, k, g, g1, g2, g3, g4, g5, g6, g7, g8⟩ := near
          obtain ⟨d, d1, d2, d3, d4, d5⟩ := sub_near f ex rx ey ry i k g (by omega) (by omega) hrx (by omega) (by omega) hry g1 g2 g3 g4 g5 g6 g7 g8
          have hsb : subN f 0 (ex * 2 ^ fm f + rx) (ey * 2 ^ fm f + ry) = d ∧ subX f 0 (ex * 2 ^ fm f + rx) (ey * 2 ^ fm f + ry) = (false, false, false, false, false) := by
            unfold subN subX sumN sumX pairN
            rw [t1, t2, t3, t4, k7, n7, k1, n1, k8, n8, k9, n9, Bool.not_false, d3, d4]
            simp
          have hb2 : sumN f 0 d (ey * 2 ^ fm f + ry) = ex * 2 ^ fm f + rx := by
            unfold sumN pairN
            rw [n7, n1, n8, n9, d5]
            rw [if_neg (show ¬ (4 ≤ clsN f d ∨ 4 ≤ 2) by omega), if_neg (show ¬ (clsN f d = 3 ∧ 2 = 3 ∧ negN f d ≠ false) by omega), if_neg (show ¬ clsN f d = 3 by omega), if_neg (show ¬ 2 = 3 by decide)]
          rw [hsb.1, hsb.2]
          exact exact_end f _ _ d (false, false, false, false, false) hx hy d1 rfl hb2
end Go.Proofs.Ytlkjoibpfhjhcaa.Pure
