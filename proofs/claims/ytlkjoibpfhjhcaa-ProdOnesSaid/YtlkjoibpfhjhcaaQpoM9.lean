import Derived.Test.YtlkjoibpfhjhcaaQpoM8
import Derived.Test.YtlkjoibpfhjhcaaQpoM5
import Derived.Test.YtlkjoibpfhjhcaaQpoM6
import Derived.Test.YtlkjoibpfhjhcaaQpoPx23
import Derived.Test.YtlkjoibpfhjhcaaQpoPx16
import Derived.Test.YtlkjoibpfhjhcaaQpoProdF
import Derived.Test.YtlkjoibpfhjhcaaQpoM7
import Derived.Test.YtlkjoibpfhjhcaaQpoPx32
/- Amounts: what a number's bits without its sign stand for, in units of the least number; rounding depends on the amount alone. -/
namespace Go.Proofs.Ytlkjoibpfhjhcaa.Round
open Go.RowKit Go.Proofs.Ytlkjoibpfhjhcaa.P Go.Proofs.Ytlkjoibpfhjhcaa.Num Go.Proofs.Ytlkjoibpfhjhcaa.BitsF Go.Proofs.Ytlkjoibpfhjhcaa.Fmt Go.Proofs.YtlkjoibpfhjhcaaW.PrintWords Go.Proofs.YtlkjoibpfhjhcaaW.PrintLast Go.Proofs.YtlkjoibpfhjhcaaW.PrintMore

def magN (f : Int) (v : Nat) : Nat := v % 2 ^ (fe f + fm f)
/-- The same number, with noughts behind. -/
theorem rest_scale (r h j : Nat) : restN (r * 2 ^ j) (h * 2 ^ j) false = restN r h false := by
  have hp := Nat.two_pow_pos j
  unfold restN
  have h1 : r * 2 ^ j < h * 2 ^ j ↔ r < h := Nat.mul_lt_mul_right hp
  have h2 : r * 2 ^ j = 0 ↔ r = 0 := by rw [Nat.mul_eq_zero]; omega
  have h3 : r * 2 ^ j = h * 2 ^ j ↔ r = h := ⟨fun e => Nat.eq_of_mul_eq_mul_right hp e, fun e => by rw [e]⟩
  simp only [h1, h2, h3]
theorem left_exact (s : Nat) (d : Int) (h : d ≤ 0 ∨ s % 2 ^ d.toNat = 0) : leftN s d false = 0 := left_none false h
theorem quo_scale (s j : Nat) (d : Int) : quoN (s * 2 ^ j) d = quoN s (d - j) ∧ leftN (s * 2 ^ j) d false = leftN s (d - j) false := by
  by_cases c : d ≤ 0
  · rw [left_exact _ _ (.inl c), left_exact _ _ (.inl (by omega))]
    refine ⟨?_, rfl⟩
    unfold quoN
    rw [if_pos c, if_pos (by omega), show (-(d - (j : Int))).toNat = j + (-d).toNat by omega, Nat.pow_add, Nat.mul_assoc]
  · obtain ⟨n, rfl⟩ := nat_of (show 0 ≤ d by omega)
    by_cases c2 : (n : Int) - j ≤ 0
    · obtain ⟨i, rfl⟩ : ∃ i, j = n + i := ⟨j - n, by omega⟩
      have e : s * 2 ^ (n + i) = s * 2 ^ i * 2 ^ n := by rw [Nat.add_comm, Nat.pow_add, Nat.mul_assoc]
      have hp := Nat.two_pow_pos n
      constructor
      · unfold quoN
        rw [if_neg c, if_pos c2, Int.toNat_natCast, e, Nat.mul_div_cancel _ hp, show (-((n : Int) - ((n + i : Nat) : Int))).toNat = i by omega]
      · rw [left_exact _ _ (.inr (by rw [Int.toNat_natCast, e, Nat.mul_mod_left])), left_exact _ _ (.inl c2)]
    · obtain ⟨i, rfl⟩ : ∃ i, n = i + j := ⟨n - j, by omega⟩
      have hp := Nat.two_pow_pos j
      have e : ((i + j : Nat) : Int) - (j : Int) = (i : Int) := by omega
      rw [e] at c2 ⊢
      have hi : i ≠ 0 := by omega
      constructor
      · unfold quoN
        rw [if_neg c, if_neg c2, Int.toNat_natCast, Int.toNat_natCast, Nat.pow_add, Nat.mul_div_mul_right _ _ hp]
      · rw [left_rest _ _ _ c, left_rest _ _ _ c2, Int.toNat_natCast, Int.toNat_natCast, Nat.pow_add, Nat.mul_mod_mul_right, show i + j - 1 = i - 1 + j by omega, Nat.pow_add, rest_scale]
theorem rise_scale (f x : Int) (s j : Nat) : riseN f x (s * 2 ^ j) = riseN f (x + j) s := by
  unfold riseN
  by_cases c : s = 0
  · subst c; rw [Nat.zero_mul, if_pos rfl, if_pos rfl]
  · rw [if_neg (Nat.mul_ne_zero c (Nat.ne_of_gt (Nat.two_pow_pos j))), if_neg c, lenN_mul s j c]
    congr 1; omega
theorem key_scale (f mode : Int) (neg : Bool) (x : Int) (s j : Nat) : keyN f mode neg x (s * 2 ^ j) false = keyN f mode neg (x + j) s false := by
  have hr := rise_scale f x s j
  have hu : unitN f x (s * 2 ^ j) = unitN f (x + j) s := by unfold unitN; rw [hr]
  obtain ⟨hq, hl⟩ := quo_scale s j (unitN f (x + j) s - x)
  rw [show unitN f (x + j) s - x - j = unitN f (x + j) s - (x + j) by omega] at hq hl
  unfold keyN
  rw [hr, hu, hq, hl]
/-- A number's amount, by its whole number. -/
theorem mag_parts (f : Int) (v : Nat) : magN f v / 2 ^ fm f = expN f v ∧ magN f v % 2 ^ fm f = fracN f v := by
  unfold magN expN fracN
  rw [Nat.add_comm (fe f), Nat.pow_add]
  exact ⟨Nat.mod_mul_right_div_self .., Nat.mod_mul_right_mod ..⟩
end Go.Proofs.Ytlkjoibpfhjhcaa.Round

/- Bits with a sign, beyond the greatest number: plain numbers alone (for rounds without chapter 9). -/
namespace Go.Proofs.Ytlkjoibpfhjhcaa.Round
open Go.RowKit Go.Proofs.Ytlkjoibpfhjhcaa.P Go.Proofs.Ytlkjoibpfhjhcaa.Num Go.Proofs.Ytlkjoibpfhjhcaa.BitsF Go.Proofs.Ytlkjoibpfhjhcaa.Fmt Go.Proofs.YtlkjoibpfhjhcaaW.PrintWords Go.Proofs.YtlkjoibpfhjhcaaW.PrintLast Go.Proofs.YtlkjoibpfhjhcaaW.PrintMore

def infK (f : Int) : Nat := topN f * 2 ^ fm f
theorem infK_lt (f : Int) : infK f < 2 ^ (fe f + fm f) ∧ 0 < infK f := by
  obtain ⟨_, hi⟩ := inf_lt f false
  have hp := Nat.two_pow_pos (fm f)
  have ht : 0 < topN f * 2 ^ fm f := Nat.mul_pos (by have := top_cases f; omega) hp
  unfold infK; omega
/-- Bits with a sign. -/
theorem sign_parts (f : Int) (P : Nat) (neg : Bool) (h : P < 2 ^ (fe f + fm f)) : negN f (P + signN f neg) = neg ∧ magN f (P + signN f neg) = P ∧ P + signN f neg < 2 ^ (fe f + fm f + 1) := by
  unfold negN magN signN
  have hp := Nat.two_pow_pos (fe f + fm f)
  cases neg
  · simp only [Bool.false_eq_true, if_false, Nat.add_zero]
    rw [Nat.div_eq_of_lt h, Nat.mod_eq_of_lt h, Nat.pow_succ]
    exact ⟨rfl, rfl, by omega⟩
  · simp only [if_true]
    rw [Nat.add_div_right _ hp, Nat.div_eq_of_lt h, Nat.add_mod_right, Nat.mod_eq_of_lt h, Nat.pow_succ]
    exact ⟨rfl, rfl, by omega⟩
end Go.Proofs.Ytlkjoibpfhjhcaa.Round

/- Numbers near one, drawn: plain numbers. -/
namespace Go.Proofs.Ytlkjoibpfhjhcaa.Round
open Go.RowKit Go.Proofs.Ytlkjoibpfhjhcaa.P Go.Proofs.Ytlkjoibpfhjhcaa.Num Go.Proofs.Ytlkjoibpfhjhcaa.BitsF Go.Proofs.Ytlkjoibpfhjhcaa.Fmt Go.Proofs.YtlkjoibpfhjhcaaW.PrintWords Go.Proofs.YtlkjoibpfhjhcaaW.PrintLast Go.Proofs.YtlkjoibpfhjhcaaW.PrintMore

/-- The exponent's bits of one. -/
def oneN (f : Int) : Nat := topN f / 2
theorem one_cases (f : Int) : fe f = 5 ∧ fm f = 10 ∧ oneN f = 15 ∧ leastN f = -14 ∧ topN f = 31 ∨ fe f = 8 ∧ fm f = 7 ∧ oneN f = 127 ∧ leastN f = -126 ∧ topN f = 255 ∨ fe f = 8 ∧ fm f = 23 ∧ oneN f = 127 ∧ leastN f = -126 ∧ topN f = 255 := by
  unfold oneN topN leastN
  rcases fcases f with ⟨h1, h2⟩ | ⟨h1, h2⟩ | ⟨h1, h2⟩ <;> rw [h1, h2] <;> simp
end Go.Proofs.Ytlkjoibpfhjhcaa.Round

/- Small whole numbers as numbers: plain numbers alone. -/
namespace Go.Proofs.Ytlkjoibpfhjhcaa.Round
open Go.RowKit Go.Proofs.Ytlkjoibpfhjhcaa.P Go.Proofs.Ytlkjoibpfhjhcaa.Num Go.Proofs.Ytlkjoibpfhjhcaa.BitsF Go.Proofs.Ytlkjoibpfhjhcaa.Fmt Go.Proofs.YtlkjoibpfhjhcaaW.PrintWords Go.Proofs.YtlkjoibpfhjhcaaW.PrintLast Go.Proofs.YtlkjoibpfhjhcaaW.PrintMore

/-- Noughts behind make no difference. -/
theorem pack_even (f mode : Int) (neg : Bool) (x : Int) (s j : Nat) : packN f mode neg x (s * 2 ^ j) false = packN f mode neg (x + j) s false ∧ excN f mode neg x (s * 2 ^ j) false = excN f mode neg (x + j) s false := by
  have hk := key_scale f mode neg x s j
  have hr := rise_scale f x s j
  have hu : unitN f x (s * 2 ^ j) = unitN f (x + j) s := by unfold unitN; rw [hr]
  have hl := (quo_scale s j (unitN f (x + j) s - x)).2
  rw [show unitN f (x + j) s - x - j = unitN f (x + j) s - (x + j) by omega] at hl
  have hi : inexN f x (s * 2 ^ j) false = inexN f (x + j) s false := by unfold inexN; rw [hu, hl]
  have hun : underN f x (s * 2 ^ j) false = underN f (x + j) s false := by
    unfold underN
    rw [hi]
    congr 1
    by_cases c : s = 0
    · subst c; simp
    · rw [decide_eq_false c, decide_eq_false (Nat.mul_ne_zero c (Nat.ne_of_gt (Nat.two_pow_pos j))), lenN_mul s j c]
      congr 1; apply decide_eq_decide.mpr; omega
  unfold packN excN
  rw [hk, hi, hun]; exact ⟨rfl, rfl⟩
theorem norm_under (f : Int) (e r : Nat) (h : e < topN f) (hr : r < 2 ^ fm f) : e * 2 ^ fm f + r < infK f := by
  have := Nat.mul_le_mul_right (2 ^ fm f) (show e + 1 ≤ topN f from h)
  rw [Nat.add_mul] at this
  unfold infK; omega
/-- A normal number's parts, by its exponent's bits and its fraction. -/
theorem norm_all (f : Int) (neg : Bool) (e r : Nat) (h0 : 1 ≤ e) (h1 : e < topN f) (hr : r < 2 ^ fm f) :
    negN f (e * 2 ^ fm f + r + signN f neg) = neg ∧ magN f (e * 2 ^ fm f + r + signN f neg) = e * 2 ^ fm f + r ∧ e * 2 ^ fm f + r + signN f neg < 2 ^ (fe f + fm f + 1) ∧ e * 2 ^ fm f + r + signN f neg < 4294967296 ∧
    expN f (e * 2 ^ fm f + r + signN f neg) = e ∧ fracN f (e * 2 ^ fm f + r + signN f neg) = r ∧ clsN f (e * 2 ^ fm f + r + signN f neg) = 2 ∧ wholeN f (e * 2 ^ fm f + r + signN f neg) = r + 2 ^ fm f ∧
    lowestN f (e * 2 ^ fm f + r + signN f neg) = leastN f - fm f + ((e - 1 : Nat) : Int) := by
  have hl := norm_under f e r h1 hr
  have hi := (infK_lt f).1
  have hb := fbounds f
  have h32 := pow_le32 (show fe f + fm f + 1 ≤ 32 by omega)
  have hp := Nat.two_pow_pos (fm f)
  obtain ⟨p1, p2, p3⟩ := sign_parts f (e * 2 ^ fm f + r) neg (by omega)
  obtain ⟨q1, q2⟩ := mag_parts f (e * 2 ^ fm f + r + signN f neg)
  rw [p2, Nat.mul_comm, Nat.mul_add_div hp, Nat.div_eq_of_lt hr, Nat.add_zero, Nat.mul_comm] at q1
  rw [p2, Nat.mul_comm, Nat.mul_add_mod, Nat.mod_eq_of_lt hr, Nat.mul_comm] at q2
  refine ⟨p1, p2, p3, by omega, q1.symm, q2.symm, ?_, ?_, ?_⟩
  · unfold clsN; rw [← q1, if_neg (by omega), if_pos h1]
  · unfold wholeN; rw [← q1, ← q2, if_neg (by omega)]
  · unfold lowestN; rw [← q1]
/-- A small whole number, as a number. -/
theorem int_parts (f : Int) (N : Nat) (h0 : N ≠ 0) (h : N < 2 ^ (fm f + 1)) : ∃ e r j : Nat, 1 ≤ e ∧ e < topN f ∧ r < 2 ^ fm f ∧ r + 2 ^ fm f = N * 2 ^ j ∧ leastN f - fm f + ((e - 1 : Nat) : Int) = -(j : Int) ∧ lenN N + j = fm f + 1 ∧
    ∀ (mode : Int) (neg : Bool), packN f mode neg 0 N false = e * 2 ^ fm f + r + signN f neg ∧ excN f mode neg 0 N false = (false, false, false) := by
  have hl := lenN_bound N (fm f + 1) h
  have hp := lenN_pos N h0
  have hb := fbounds f
  have hc := one_cases f
  obtain ⟨j, hj⟩ : ∃ j, lenN N + j = fm f + 1 := ⟨fm f + 1 - lenN N, by omega⟩
  have hpj := Nat.two_pow_pos j
  have hpm := Nat.two_pow_pos (fm f)
  have m1 : 2 ^ fm f ≤ N * 2 ^ j := by
    have := Nat.mul_le_mul_right (2 ^ j) (lenN_le N h0)
    rw [← Nat.pow_add, show lenN N - 1 + j = fm f by omega] at this; exact this
  have m2 : N * 2 ^ j < 2 ^ (fm f + 1) := by
    have := Nat.mul_lt_mul_of_pos_right (lenN_lt N) hpj
    rw [← Nat.pow_add, hj] at this; exact this
  have hs : 2 ^ (fm f + 1) = 2 * 2 ^ fm f := by rw [Nat.pow_succ, Nat.mul_comm]
  have hr : ∃ R : Nat, (R : Int) = lenN N - 1 - leastN f ∧ R + 1 < topN f := by
    refine ⟨(lenN N - 1 - leastN f : Int).toNat, ?_, ?_⟩ <;> rcases hc with ⟨c1, c2, c3, c4, c5⟩ | ⟨c1, c2, c3, c4, c5⟩ | ⟨c1, c2, c3, c4, c5⟩ <;> omega
  obtain ⟨R, hR, hR1⟩ := hr
  have hfin := norm_under f (R + 1) (N * 2 ^ j - 2 ^ fm f) (by omega) (by omega)
  have hk : R * 2 ^ fm f + N * 2 ^ j = (R + 1) * 2 ^ fm f + (N * 2 ^ j - 2 ^ fm f) := by rw [Nat.add_mul]; omega
  refine ⟨R + 1, N * 2 ^ j - 2 ^ fm f, j, by omega, by omega, by omega, by omega, by rw [show R + 1 - 1 = R by omega]; omega, hj, fun mode neg => ?_⟩
  obtain ⟨x1, x2⟩ := exact_pack f mode neg (N * 2 ^ j) 0 R m2 (.inr m1) (by rw [hk]; exact hfin)
  rw [hk] at x1
  rw [Nat.pow_zero, Nat.mul_one, show leastN f - (fm f : Int) + (R : Int) - ((0 : Nat) : Int) = -(j : Int) by omega] at x1 x2
  obtain ⟨s1, s2⟩ := pack_even f mode neg (-(j : Int)) N j
  rw [show -(j : Int) + (j : Int) = 0 by omega] at s1 s2
  rw [s1] at x1
  rw [s2] at x2
  exact ⟨x1, x2⟩
theorem int_one (f mode : Int) (neg : Bool) : packN f mode neg 0 1 false = oneN f * 2 ^ fm f + 0 + signN f neg := by
  obtain ⟨e, r, j, h1, h2, h3, h4, h5, h6, h7⟩ := int_parts f 1 (by decide) (by have := Nat.two_pow_pos (fm f); rw [Nat.pow_succ]; omega)
  have hl : lenN 1 = 1 := by decide
  have hj : j = fm f := by omega
  subst hj
  have hc := one_cases f
  have he : e = oneN f := by rcases hc with ⟨c1, c2, c3, c4, c5⟩ | ⟨c1, c2, c3, c4, c5⟩ | ⟨c1, c2, c3, c4, c5⟩ <;> omega
  have hr : r = 0 := by omega
  rw [(h7 mode neg).1, he, hr]
theorem zero_all (f : Int) (b : Bool) : clsN f (signN f b) = 0 ∧ negN f (signN f b) = b ∧ signN f b < 4294967296 := by
  have hb := fbounds f
  have h31 := pow_le31 (show fe f + fm f ≤ 31 by omega)
  have hp := Nat.two_pow_pos (fm f)
  obtain ⟨p1, p2, p3⟩ := sign_parts f 0 b (Nat.two_pow_pos _)
  obtain ⟨q1, q2⟩ := mag_parts f (0 + signN f b)
  rw [p2] at q1 q2
  rw [Nat.zero_add] at *
  refine ⟨?_, p1, ?_⟩
  · unfold clsN; rw [← q1, ← q2, Nat.zero_div, Nat.zero_mod]; rfl
  · unfold signN; split <;> omega
end Go.Proofs.Ytlkjoibpfhjhcaa.Round

/- Products by one and by nought: plain numbers alone. -/
namespace Go.Proofs.Ytlkjoibpfhjhcaa.Round
open Go.RowKit Go.Proofs.Ytlkjoibpfhjhcaa.P Go.Proofs.Ytlkjoibpfhjhcaa.Num Go.Proofs.Ytlkjoibpfhjhcaa.BitsF Go.Proofs.Ytlkjoibpfhjhcaa.Fmt Go.Proofs.YtlkjoibpfhjhcaaW.PrintWords Go.Proofs.YtlkjoibpfhjhcaaW.PrintLast Go.Proofs.YtlkjoibpfhjhcaaW.PrintMore

/-- One, as a number. -/
def unoN (f : Int) : Nat := oneN f * 2 ^ fm f + 0 + signN f false
theorem uno_parts (f : Int) : negN f (unoN f) = false ∧ unoN f < 4294967296 ∧ clsN f (unoN f) = 2 ∧ wholeN f (unoN f) = 2 ^ fm f ∧ lowestN f (unoN f) = -(fm f : Int) := by
  have hp := Nat.two_pow_pos (fm f)
  have ho : leastN f + (oneN f : Int) = 1 ∧ 1 ≤ oneN f ∧ oneN f < topN f := by
    rcases one_cases f with ⟨c1, c2, c3, c4, c5⟩ | ⟨c1, c2, c3, c4, c5⟩ | ⟨c1, c2, c3, c4, c5⟩ <;> omega
  obtain ⟨b1, b2, b3, b4, b5, b6, b7, b8, b9⟩ := norm_all f false (oneN f) 0 ho.2.1 ho.2.2 hp
  exact ⟨b1, b4, b7, by unfold unoN; rw [b8, Nat.zero_add], by unfold unoN; rw [b9]; omega⟩
theorem mul_uno (f mode : Int) (x : Nat) (hx : x < 2 ^ (fe f + fm f + 1)) (h : ¬ 4 ≤ clsN f x) : mulN f mode x (unoN f) = x ∧ (clsN f x ≠ 3 → mulX f mode x (unoN f) = (false, false, false, false, false)) := by
  obtain ⟨u1, u2, u3, u4, u5⟩ := uno_parts f
  have hn : ¬ (4 ≤ clsN f x ∨ 4 ≤ clsN f (unoN f)) := by rw [u3]; omega
  have ht : tornN f x (unoN f) = false := by unfold tornN; rw [u3]; exact decide_eq_false (by omega)
  unfold mulN mulX
  rw [if_neg hn, if_neg hn, ht, u3, u1, u4, u5, Bool.bne_false]
  by_cases c : clsN f x = 3
  · have hi := inf_low f x c
    rw [low_id f x hx] at hi
    rw [if_neg (show ¬ false = true by decide), if_pos (show clsN f x = 3 ∨ 2 = 3 from .inl c)]
    exact ⟨hi.symm, fun h => absurd c h⟩
  · have hfin := cls_exp f x (by omega)
    obtain ⟨e1, e2⟩ := pack_even f mode (negN f x) (lowestN f x + -(fm f : Int)) (wholeN f x) (fm f)
    rw [show lowestN f x + -(fm f : Int) + (fm f : Int) = lowestN f x by omega] at e1 e2
    have hp := finite_pack f mode x 0 (by rw [low_id f x hx]; exact hfin)
    rw [low_id f x hx, Nat.pow_zero, Nat.mul_one, show lowestN f x - ((0 : Nat) : Int) = lowestN f x by omega] at hp
    rw [if_neg (show ¬ false = true by decide), if_neg (show ¬ (clsN f x = 3 ∨ 2 = 3) by omega), if_neg (show ¬ false = true by decide), if_neg (show ¬ (clsN f x = 3 ∨ 2 = 3) by omega), e1, e2, hp.1, hp.2]
    exact ⟨rfl, fun _ => rfl⟩
theorem mul_nan (f mode : Int) (x y : Nat) (h : 4 ≤ clsN f x) : mulN f mode x y = nanN f := by
  unfold mulN; rw [if_pos (.inl h)]
theorem mul_nought (f mode : Int) (x : Nat) : mulN f mode x 0 = if clsN f x < 3 then signN f (negN f x) else nanN f := by
  obtain ⟨z1, z2, z3⟩ := zero_all f false
  have hs : signN f false = 0 := rfl
  rw [hs] at z1 z2
  have hw := (none_low f 0 z1).2
  unfold mulN tornN
  rw [z1, z2, hw, Nat.mul_zero, Bool.bne_false, (pack_none f mode _ _).1]
  by_cases c4 : 4 ≤ clsN f x
  · rw [if_pos (show 4 ≤ clsN f x ∨ 4 ≤ 0 from .inl c4), if_neg (show ¬ clsN f x < 3 by omega)]
  · rw [if_neg (show ¬ (4 ≤ clsN f x ∨ 4 ≤ 0) by omega)]
    by_cases c3 : clsN f x = 3
    · rw [if_neg (show ¬ clsN f x < 3 by omega), if_pos (decide_eq_true (show clsN f x = 0 ∧ 0 = 3 ∨ clsN f x = 3 ∧ 0 = 0 from .inr ⟨c3, rfl⟩))]
    · rw [if_pos (show clsN f x < 3 by omega), if_neg (show ¬ decide (clsN f x = 0 ∧ 0 = 3 ∨ clsN f x = 3 ∧ 0 = 0) = true by rw [decide_eq_true_iff]; omega), if_neg (show ¬ (clsN f x = 3 ∨ 0 = 3) by omega)]
end Go.Proofs.Ytlkjoibpfhjhcaa.Round

/- The reference's loops of layer 1: how many bits, shifts. -/
namespace Go.Proofs.Ytlkjoibpfhjhcaa.BitsF
open Go.RowKit Go.Proofs.Ytlkjoibpfhjhcaa.P Go.Proofs.Ytlkjoibpfhjhcaa.Num Go.Proofs.YtlkjoibpfhjhcaaW.PrintWords Go.Proofs.YtlkjoibpfhjhcaaW.PrintLast Go.Proofs.YtlkjoibpfhjhcaaW.PrintMore

/-! ### the reference's loops -/
theorem ref_len_l0 (j : Nat) : ∀ v c k : Nat, v < 2 ^ j → c + j ≤ 64 → annealref1_Len.l0 (j + 1 + k) (v : Int) (c : Int) = some ((c + lenN v : Nat) : Int) := by
  induction j with
  | zero =>
    intro v c k h _
    obtain rfl : v = 0 := by rw [Nat.pow_zero] at h; omega
    rw [show 0 + 1 + k = k + 1 by omega, annealref1_Len.l0, if_neg (by decide)]; rfl
  | succ j ih =>
    intro v c k h hc
    rw [show j + 1 + 1 + k = (j + 1 + k) + 1 by omega, annealref1_Len.l0]
    by_cases hv : v = 0
    · subst hv; rw [if_neg (by decide)]; rfl
    · rw [if_pos (by omega), show (v : Int) / 2 = ((v / 2 : Nat) : Int) by omega, w64_id _ (by omega) (by omega), show (c : Int) + 1 = ((c + 1 : Nat) : Int) by omega, ih _ _ k (by rw [Nat.pow_succ] at h; omega) (by omega), lenN_half v hv]
      congr 2; omega
theorem ref_len_ev (v : Nat) (hv : v < 18446744073709551616) : Ev (fun k => annealref1_Len.f k (v : Int)) (lenN v : Int) :=
  Ev.of (annealref1_Len.mono _) (k := 65) (by
    have h := ref_len_l0 64 v 0 0 (by omega) (by decide)
    rw [Nat.zero_add, show 64 + 1 + 0 = 65 from rfl] at h
    unfold annealref1_Len.f
    exact h)
theorem half_pow (v j : Nat) : v / 2 / 2 ^ j = v / 2 ^ (j + 1) := by rw [Nat.div_div_eq_div_mul, Nat.pow_succ, Nat.mul_comm 2]
theorem out_right (v j : Nat) : (decide (v % 2 ≠ 0) || decide (v / 2 % 2 ^ j ≠ 0)) = decide (v % 2 ^ (j + 1) ≠ 0) := by
  have e : v % 2 ^ (j + 1) = v % 2 + 2 * (v / 2 % 2 ^ j) := by rw [Nat.pow_succ, Nat.mul_comm, Nat.mod_mul]
  rw [← Bool.decide_or]
  congr 1; apply propext
  have hz : ∀ z : Nat, v / 2 % 2 ^ j = z → (v % 2 ≠ 0 ∨ z ≠ 0 ↔ v % 2 + 2 * z ≠ 0) := by intro z _; omega
  rw [e]; exact hz _ rfl
theorem ref_shift_l1 (j : Nat) : ∀ (v k : Nat) (b : Bool), v < 18446744073709551616 → j ≤ 64 →
    annealref1_Shift.l1 (j + 1 + k) (v : Int) (-(j : Int)) b = some (((v * 2 ^ j % 18446744073709551616 : Nat) : Int), b || decide (18446744073709551616 ≤ v * 2 ^ j)) := by
  induction j with
  | zero =>
    intro v k b hv _
    rw [show 0 + 1 + k = k + 1 by omega, annealref1_Shift.l1, if_neg (by decide), Nat.pow_zero, Nat.mul_one, Nat.mod_eq_of_lt hv, decide_eq_false (by omega), Bool.or_false]
  | succ j ih =>
    intro v k b hv hj
    have e1 : wrap64 (-((j + 1 : Nat) : Int) + 1) = -(j : Int) := by rw [w64_id] <;> omega
    have e2 : IntKind.u64.wrap ((v : Int) * 2) = ((v * 2 % 18446744073709551616 : Nat) : Int) := by rw [show (v : Int) * 2 = ((v * 2 : Nat) : Int) by omega, u64_nat]
    have e3 : (((v : Int) / 9223372036854775808 == 1) : Bool) = decide (9223372036854775808 ≤ v) := by
      by_cases h : 9223372036854775808 ≤ v
      · rw [decide_eq_true h, beq_iff_eq]; omega
      · rw [decide_eq_false h, beq_eq_false_iff_ne]; omega
    have e4 : v * 2 % 18446744073709551616 * 2 ^ j % 18446744073709551616 = v * 2 ^ (j + 1) % 18446744073709551616 := by
      rw [Nat.mod_mul_mod, Nat.mul_assoc, ← Nat.pow_succ']
    have e5 : ∀ b : Bool, ((b || decide (9223372036854775808 ≤ v)) || decide (18446744073709551616 ≤ v * 2 % 18446744073709551616 * 2 ^ j)) = (b || decide (18446744073709551616 ≤ v * 2 ^ (j + 1))) := by
      intro b
      rw [Bool.or_assoc, ← Bool.decide_or]
      congr 2
      apply propext
      rw [show v * 2 ^ (j + 1) = v * 2 * 2 ^ j by rw [Nat.mul_assoc, ← Nat.pow_succ']]
      have hp := Nat.two_pow_pos j
      constructor
      · rintro (h | h)
        · calc 18446744073709551616 ≤ v * 2 * 1 := by omega
            _ ≤ v * 2 * 2 ^ j := Nat.mul_le_mul_left _ hp
        · exact Nat.le_trans h (Nat.mul_le_mul_right _ (Nat.mod_le _ _))
      · intro h
        by_cases h' : 9223372036854775808 ≤ v
        · exact .inl h'
        · right; rw [Nat.mod_eq_of_lt (by omega)]; exact h
    rw [show j + 1 + 1 + k = (j + 1 + k) + 1 by omega, annealref1_Shift.l1, if_pos (by omega), e1, e2, e3]
    by_cases hb : b = true
    · subst hb
      rw [if_pos rfl, ih _ k true (Nat.mod_lt _ (by decide)) (by omega), e4]
      simp only [Bool.true_or]
    · rw [if_neg hb, ih _ k _ (Nat.mod_lt _ (by decide)) (by omega), e4]
      have : b = false := by simpa using hb
      subst this
      have := e5 false
      simp only [Bool.false_or] at this ⊢
      rw [this]
theorem ref_shift_l0 (j : Nat) : ∀ (v k : Nat) (b : Bool), v < 18446744073709551616 → j ≤ 64 →
    annealref1_Shift.l0 (j + 2 + k) (v : Int) (j : Int) b = some (((v / 2 ^ j : Nat) : Int), b || decide (v % 2 ^ j ≠ 0)) := by
  induction j with
  | zero =>
    intro v k b hv _
    have h := ref_shift_l1 0 v k b hv (by decide)
    rw [show 0 + 2 + k = (0 + 1 + k) + 1 by omega, annealref1_Shift.l0, if_neg (by decide), show ((0 : Nat) : Int) = -((0 : Nat) : Int) by rfl, h]
    simp [Nat.mod_one]; omega
  | succ j ih =>
    intro v k b hv hj
    have e1 : wrap64 (((j + 1 : Nat) : Int) - 1) = (j : Int) := by rw [w64_id] <;> omega
    have e3 : ((Go.bits .and .u64 (v : Int) 1 == 1) : Bool) = decide (v % 2 ≠ 0) := by
      rw [and1_u64 v hv]
      by_cases h : v % 2 ≠ 0
      · rw [decide_eq_true h, beq_iff_eq]; omega
      · rw [decide_eq_false h, beq_eq_false_iff_ne]; omega
    rw [show j + 1 + 2 + k = (j + 2 + k) + 1 by omega, annealref1_Shift.l0, if_pos (by omega), e1, e3, show (v : Int) / 2 = ((v / 2 : Nat) : Int) by omega]
    have o := out_right v j
    by_cases hb : b = true
    · subst hb
      rw [if_pos rfl, ih _ k true (by omega) (by omega), half_pow]
      simp only [Bool.true_or]
    · rw [if_neg hb, ih _ k _ (by omega) (by omega), half_pow, o]
      have : b = false := by simpa using hb
      subst this
      rfl
theorem ref_shift_ev (v : Nat) (hv : v < 18446744073709551616) (n : Int) :
    Ev (fun k => annealref1_Shift.f k (v : Int) n) ((((shiftN v n).1 : Nat) : Int), (shiftN v n).2) := by
  refine Ev.of (annealref1_Shift.mono _ _) (k := 67) ?_
  unfold annealref1_Shift.f
  by_cases c : 0 ≤ n
  · obtain ⟨m, rfl⟩ := nat_of c
    have e : mn (mx (m : Int) (-64)) 64 = ((min m 64 : Nat) : Int) := by unfold mn mx; split <;> split <;> omega
    have h := ref_shift_l0 (min m 64) v (65 - min m 64) false hv (by omega)
    rw [show min m 64 + 2 + (65 - min m 64) = 67 by omega] at h
    rw [e, h, shiftN_right]
    by_cases c' : m ≤ 64
    · rw [Nat.min_eq_left c']; rfl
    · have b1 := pow_big (show 64 ≤ m by omega)
      rw [Nat.min_eq_right (by omega), Nat.div_eq_of_lt (show v < 2 ^ 64 by omega), Nat.mod_eq_of_lt (show v < 2 ^ 64 by omega), Nat.div_eq_of_lt (show v < 2 ^ m by omega), Nat.mod_eq_of_lt (show v < 2 ^ m by omega)]; rfl
  · obtain ⟨m, hm⟩ := nat_of (show 0 ≤ -n by omega)
    obtain rfl : n = -(m : Int) := by omega
    have e : mn (mx (-(m : Int)) (-64)) 64 = -((min m 64 : Nat) : Int) := by unfold mn mx; split <;> split <;> omega
    have h := ref_shift_l1 (min m 64) v (65 - min m 64) false hv (by omega)
    rw [show min m 64 + 1 + (65 - min m 64) = 66 by omega] at h
    rw [e, annealref1_Shift.l0, if_neg (by omega), h, shiftN_left _ _ hv]
    by_cases c' : m ≤ 64
    · rw [Nat.min_eq_left c']; rfl
    · rw [Nat.min_eq_right (by omega)]
      have b1 := pow_big (show 64 ≤ m by omega)
      have e : (2 : Nat) ^ m = 18446744073709551616 * 2 ^ (m - 64) := by rw [show 18446744073709551616 = 2 ^ 64 from rfl, ← Nat.pow_add]; congr 1; omega
      have e1 : v * 2 ^ m % 18446744073709551616 = 0 := by rw [e, ← Nat.mul_assoc, Nat.mul_comm v, Nat.mul_assoc, Nat.mul_mod_right]
      rw [e1, show v * 2 ^ 64 % 18446744073709551616 = 0 by omega, Bool.false_or]
      congr 2
      apply decide_eq_decide.mpr
      constructor
      · intro h1
        have : v ≠ 0 := by intro h0; subst h0; omega
        exact Nat.le_trans b1 (Nat.le_mul_of_pos_left _ (by omega))
      · intro h1
        have : v ≠ 0 := by intro h0; subst h0; omega
        omega
end Go.Proofs.Ytlkjoibpfhjhcaa.BitsF

/- What the reference's rounding computes: the same plain numbers. -/
namespace Go.Proofs.Ytlkjoibpfhjhcaa.Round
open Go.RowKit Go.Proofs.Ytlkjoibpfhjhcaa.P Go.Proofs.Ytlkjoibpfhjhcaa.Num Go.Proofs.Ytlkjoibpfhjhcaa.BitsF Go.Proofs.Ytlkjoibpfhjhcaa.Fmt Go.Proofs.YtlkjoibpfhjhcaaW.PrintWords Go.Proofs.YtlkjoibpfhjhcaaW.PrintLast Go.Proofs.YtlkjoibpfhjhcaaW.PrintMore

theorem ref_greatest_f (f : Int) (neg : Bool) : annealref1_Greatest.f f neg = some (greatN f neg : Int) := by
  unfold annealref1_Greatest.f greatN
  obtain ⟨hi, _⟩ := inf_lt f neg
  have ht := top_cases f
  have hp := Nat.two_pow_pos (fm f)
  have : 0 < topN f * 2 ^ fm f := Nat.mul_pos (by omega) hp
  rw [ref_inf_f]; simp only [Option.bind_some]
  unfold infN at *
  congr 1; omega
theorem ref_divide_f (s : Nat) (hs : s < 18446744073709551616) (d : Int) (h1 : -100000 ≤ d) (h2 : d ≤ 100000) (hq : d ≤ 0 → s * 2 ^ (-d).toNat < 18446744073709551616) :
    Ev (fun k => annealref1_divide.f k (s : Int) d) ((quoN s d : Int), decide (2 ≤ leftN s d false), decide (leftN s d false = 1 ∨ leftN s d false = 3)) := by
  unfold annealref1_divide.f
  by_cases c : d ≤ 0
  · obtain ⟨m, hm⟩ := nat_of (show 0 ≤ -d by omega)
    have e : mn (wrap64 (-d)) 63 = ((min m 63 : Nat) : Int) := by rw [w64_id _ (by omega) (by omega), hm]; unfold mn; split <;> omega
    simp only [if_pos c, e, if_pos (show 0 ≤ ((min m 63 : Nat) : Int) by omega), left_none false (.inl c)]
    have hq' := hq c
    rw [hm, Int.toNat_natCast] at hq'
    have e2 : IntKind.u64.wrap ((s : Int) * 2 ^ ((min m 63 : Nat) : Int).toNat) = (quoN s d : Int) := by
      rw [Int.toNat_natCast, show (s : Int) * 2 ^ (min m 63) = ((s * 2 ^ (min m 63) : Nat) : Int) by simp, u64_nat]
      unfold quoN; rw [if_pos c, hm, Int.toNat_natCast]
      by_cases z : s = 0
      · subst z; simp
      · have : m ≤ 63 := by
          rcases Nat.lt_or_ge 63 m with h | h
          · have := pow_big (show 64 ≤ m by omega)
            have : 2 ^ m ≤ s * 2 ^ m := Nat.le_mul_of_pos_left _ (by omega)
            omega
          · exact h
        rw [Nat.min_eq_left this, Nat.mod_eq_of_lt hq']
    rw [e2]
    exact Ev.now _
  · obtain ⟨m, rfl⟩ := nat_of (show 0 ≤ d by omega)
    have hqe : quoN s (m : Int) = s / 2 ^ m := by unfold quoN; rw [if_neg c, Int.toNat_natCast]
    rw [hqe]
    simp only [if_neg c]
    by_cases c' : (m : Int) > 64
    · simp only [if_pos c']
      have hb := pow_big (show 64 ≤ m - 1 by omega)
      have hb2 := pow_big (show 64 ≤ m by omega)
      have hl : leftN s (m : Int) false = if s = 0 then 0 else 1 := by
        by_cases z : s = 0
        · subst z; rw [left_none _ (.inr (by simp))]; rfl
        · rw [left_some _ c (by rw [Int.toNat_natCast, Nat.mod_eq_of_lt (by omega)]; exact z), Int.toNat_natCast, Nat.div_eq_of_lt (show s < 2 ^ (m - 1) by omega), if_neg z]; rfl
      rw [Nat.div_eq_of_lt (show s < 2 ^ m by omega), hl, show (0 : Int) = ((0 : Nat) : Int) from rfl, bne_cast]
      by_cases z : s = 0
      · subst z; exact Ev.now _
      · rw [if_neg z, decide_eq_true z]; exact Ev.now _
    · have e : wrap64 ((m : Int) - 1) = ((m - 1 : Nat) : Int) := by rw [w64_id] <;> omega
      simp only [if_neg c', e]
      have hd : s / 2 ^ (m - 1) < 18446744073709551616 := Nat.lt_of_le_of_lt (Nat.div_le_self _ _) hs
      have s1 := ref_shift_ev s hs (m : Int)
      have s2 := ref_shift_ev s hs ((m - 1 : Nat) : Int)
      rw [shiftN_right] at s1 s2
      refine Ev.bind s1 (Ev.bind s2 (Ev.bind s2 ?_))
      rw [and1_u64 _ hd]
      have em : s % 2 ^ m = s % 2 ^ (m - 1) + 2 ^ (m - 1) * (s / 2 ^ (m - 1) % 2) := by
        rw [show m = m - 1 + 1 by omega, Nat.pow_succ, Nat.mod_mul, Nat.add_sub_cancel]
      have hb1 : (((s / 2 ^ (m - 1) % 2 : Nat) : Int) == 1) = decide (2 ≤ leftN s (m : Int) false) ∧ decide (s % 2 ^ (m - 1) ≠ 0) = decide (leftN s (m : Int) false = 1 ∨ leftN s (m : Int) false = 3) := by
        have hp := Nat.two_pow_pos (m - 1)
        by_cases z : s % 2 ^ m = 0
        · rw [left_none _ (.inr (by rw [Int.toNat_natCast]; exact z))]
          rw [z] at em
          have z1 : s % 2 ^ (m - 1) = 0 := by omega
          have z2 : s / 2 ^ (m - 1) % 2 = 0 := by
            have : 2 ^ (m - 1) * (s / 2 ^ (m - 1) % 2) = 0 := by omega
            rcases Nat.mul_eq_zero.mp this with h | h
            · omega
            · exact h
          rw [z1, z2]; exact ⟨rfl, rfl⟩
        · rw [left_some _ c (by rw [Int.toNat_natCast]; exact z), Int.toNat_natCast]
          have hb : s / 2 ^ (m - 1) % 2 = 0 ∨ s / 2 ^ (m - 1) % 2 = 1 := by omega
          rcases hb with hb | hb
          · rw [hb, Nat.mul_zero, Nat.add_zero] at em
            rw [em] at z
            rw [hb, decide_eq_true z]; exact ⟨rfl, rfl⟩
          · rw [hb, if_neg (by decide)]
            by_cases w : s % 2 ^ (m - 1) = 0
            · rw [w]; exact ⟨rfl, rfl⟩
            · rw [if_pos (.inl w), decide_eq_true w]; exact ⟨rfl, rfl⟩
      simp only [hb1.1, hb1.2]
      exact Ev.now _
theorem left_more (s : Nat) (d : Int) : decide (2 ≤ leftN s d true) = decide (2 ≤ leftN s d false) ∧ (leftN s d true = 1 ∨ leftN s d true = 3) := by
  by_cases c : d ≤ 0 ∨ s % 2 ^ d.toNat = 0
  · rw [left_none _ c, left_none _ c]; simp
  · have c' := not_or.mp c
    rw [left_some _ c'.1 c'.2, left_some _ c'.1 c'.2]
    split
    · simp
    · simp; split <;> simp
theorem ref_up_f (mode : Int) (neg : Bool) (q left : Nat) (h : left ≤ 3) : annealref1_up.f mode neg (decide (q % 2 = 1)) (decide (2 ≤ left)) (decide (left = 1 ∨ left = 3)) = some (upN mode neg q left) := by
  unfold annealref1_up.f upN
  have hl : left = 0 ∨ left = 1 ∨ left = 2 ∨ left = 3 := by omega
  by_cases m1 : mode = 1
  · rw [if_pos m1, if_pos m1]
  · rw [if_neg m1, if_neg m1]
    by_cases m2 : mode = 2
    · rw [if_pos m2, if_pos m2]; rcases hl with rfl | rfl | rfl | rfl <;> cases neg <;> rfl
    · rw [if_neg m2, if_neg m2]
      by_cases m3 : mode = 3
      · rw [if_pos m3, if_pos m3]; rcases hl with rfl | rfl | rfl | rfl <;> cases neg <;> rfl
      · rw [if_neg m3, if_neg m3]
        by_cases m4 : mode = 4
        · rw [if_pos m4, if_pos m4]
        · rw [if_neg m4, if_neg m4]
          rcases hl with rfl | rfl | rfl | rfl <;> simp
theorem ref_over_f (k : Nat) (f mode : Int) (neg : Bool) : annealref1_over.f (k + 1) f mode neg = some (((if endless mode neg then infN f neg else greatN f neg : Nat) : Int)) := by
  unfold annealref1_over.f endless
  simp only [annealref1_over.j0, ref_greatest_f, ref_inf_f, Option.bind_some]
  by_cases m1 : mode = 1
  · rw [if_pos m1, if_pos m1]; rfl
  · rw [if_neg m1, if_neg m1]
    by_cases m2 : mode = 2
    · rw [if_pos m2, if_pos m2]; subst m2; cases neg <;> rfl
    · rw [if_neg m2, if_neg m2]
      by_cases m3 : mode = 3
      · rw [if_pos m3, if_pos m3]; cases neg <;> rfl
      · rw [if_neg m3, if_neg m3]; rfl
end Go.Proofs.Ytlkjoibpfhjhcaa.Round

/- The reference's rounding computes the same numbers as the program's. -/
namespace Go.Proofs.Ytlkjoibpfhjhcaa.Round
open Go.RowKit Go.Proofs.Ytlkjoibpfhjhcaa.P Go.Proofs.Ytlkjoibpfhjhcaa.Num Go.Proofs.Ytlkjoibpfhjhcaa.BitsF Go.Proofs.Ytlkjoibpfhjhcaa.Fmt Go.Proofs.YtlkjoibpfhjhcaaW.PrintWords Go.Proofs.YtlkjoibpfhjhcaaW.PrintLast Go.Proofs.YtlkjoibpfhjhcaaW.PrintMore

/-- A sign beside an amount. -/
theorem sign_or (f : Int) (neg : Bool) (v : Nat) (h : v < 2 ^ (fe f + fm f)) : Go.bits .or .u32 (signN f neg : Int) (v : Int) = ((v + signN f neg : Nat) : Int) ∧ v + signN f neg < 4294967296 := by
  obtain ⟨b1, b2, b3, b4, b5⟩ := fbounds f
  have h31 := pow_le31 b5
  unfold signN
  cases neg
  · simp only [Bool.false_eq_true, if_false]
    rw [or_u32 _ _ (by omega) (by omega), Nat.zero_or, Nat.add_zero]; exact ⟨rfl, by omega⟩
  · simp only [if_true]
    rw [or_u32 _ _ (by omega) (by omega), or_add _ _ (fe f + fm f) (by simp) h, Nat.add_comm]; exact ⟨rfl, by omega⟩
theorem ref_pack_j5 (k : Nat) (f mode : Int) (neg : Bool) (q U : Nat) (hU : U ≤ 10300) (hq : q < 2 ^ (fm f + 1)) (hq' : U ≠ 0 → 2 ^ fm f ≤ q) (K : Nat) (hK : K = U * 2 ^ fm f + q) (c0 c1 c2 c3 c4 : Bool) :
    annealref1_Pack.j5 (k + 2) f mode neg (fm f : Int) (leastN f - fm f + U) (q : Int) c0 c1 c2 c3 c4 = some
      ((((if overN f K then (if endless mode neg then topN f * 2 ^ fm f else topN f * 2 ^ fm f - 1) else K) + signN f neg : Nat) : Int),
        if overN f K then (false, false, true, false, true) else (c0, c1, c2, c3, c4)) ∧
    annealref1_Pack.j6 (k + 2) f mode neg (fm f : Int) (leastN f - fm f + U) (q : Int) c0 c1 c2 c3 c4 = some
      ((((if overN f K then (if endless mode neg then topN f * 2 ^ fm f else topN f * 2 ^ fm f - 1) else K) + signN f neg : Nat) : Int),
        if overN f K then (false, false, true, false, true) else (c0, c1, c2, c3, c4)) := by
  obtain ⟨b1, b2, b3, b4, b5⟩ := fbounds f
  have hl := least_cases f
  have hp := Nat.two_pow_pos (fm f)
  have hpe := Nat.two_pow_pos (fe f)
  have h31 := pow_le31 (show fm f + 1 ≤ 31 by omega)
  have h8 := pow_le31 (show fe f ≤ 31 by omega)
  have hsucc : 2 ^ (fm f + 1) = 2 * 2 ^ fm f := by rw [Nat.pow_succ, Nat.mul_comm]
  have ht := top_cases f
  obtain ⟨_, hte⟩ := inf_lt f neg
  have e1 : shl .u64 1 (fm f : Int) = ((2 ^ fm f : Nat) : Int) := by rw [show (1 : Int) = ((1 : Nat) : Int) from rfl, shl_u64, Nat.one_mul, Nat.mod_eq_of_lt (by omega)]
  have e2 : wrap64 (wrap64 (leastN f - (fm f : Int) + (U : Int) + (fm f : Int)) + (1 - leastN f)) = ((U + 1 : Nat) : Int) := by
    rw [w64_id (leastN f - (fm f : Int) + (U : Int) + (fm f : Int)) (by omega) (by omega), w64_id _ (by omega) (by omega)]; omega
  have e3 : wrap64 (shl .i64 1 (fe f : Int) - 1) = ((topN f : Nat) : Int) := by
    rw [one_shl_i64 _ (by omega), w64_id _ (by omega) (by omega)]; unfold topN; omega
  rw [annealref1_Pack.j5, annealref1_Pack.j6, if_pos (by omega), e1, ref_bias_f, ref_widths_f, ref_sign_f]
  simp only [Option.bind_some]
  rw [if_pos (show (0 : Int) ≤ (fe f : Int) by omega), e2, e3, ref_over_f]
  simp only [Option.bind_some]
  by_cases c : q < 2 ^ fm f
  · have hU0 : U = 0 := by
      rcases Nat.eq_zero_or_pos U with h | h
      · exact h
      · have := hq' (by omega); omega
    have ho : overN f K = false := by
      unfold overN
      rw [decide_eq_false_iff_not, hK, hU0]
      have : 1 * 2 ^ fm f ≤ topN f * 2 ^ fm f := Nat.mul_le_mul_right _ (by omega)
      omega
    obtain ⟨s1, s2⟩ := sign_or f neg q (by omega)
    rw [if_pos (show (q : Int) < ((2 ^ fm f : Nat) : Int) by omega), show (q : Int) % 4294967296 = (q : Int) by omega, s1, ho, hK, hU0]
    simp
  · rw [if_neg (show ¬ (q : Int) < ((2 ^ fm f : Nat) : Int) by omega)]
    have ho : ((U + 1 : Nat) : Int) ≥ (topN f : Int) ↔ overN f K = true := by
      unfold overN
      rw [decide_eq_true_iff, hK]
      constructor
      · intro h
        have : topN f * 2 ^ fm f ≤ (U + 1) * 2 ^ fm f := Nat.mul_le_mul_right _ (by omega)
        rw [Nat.add_mul, Nat.one_mul] at this; omega
      · intro h
        rcases Nat.lt_or_ge (U + 1) (topN f) with d | d
        · have : (U + 1 + 1) * 2 ^ fm f ≤ topN f * 2 ^ fm f := Nat.mul_le_mul_right _ d
          rw [Nat.add_mul, Nat.add_mul, Nat.one_mul] at this; omega
        · omega
    by_cases c' : ((U + 1 : Nat) : Int) ≥ (topN f : Int)
    · rw [if_pos c', ho.mp c']
      simp only [if_true]
      have : (if endless mode neg then infN f neg else greatN f neg) = (if endless mode neg then topN f * 2 ^ fm f else topN f * 2 ^ fm f - 1) + signN f neg := by
        unfold infN greatN; split <;> rfl
      rw [this]
      exact ⟨rfl, rfl⟩
    · rw [if_neg c']
      have co : overN f K = false := by simpa using fun h => c' (ho.mpr h)
      have hmul : (U + 1) * 2 ^ fm f + 2 ^ fm f ≤ 2 ^ (fe f + fm f) := by
        have : (U + 1) * 2 ^ fm f ≤ topN f * 2 ^ fm f := Nat.mul_le_mul_right _ (by omega)
        omega
      have h32 := pow_le31 b5
      have hm1 : q % 2 ^ fm f = q - 2 ^ fm f := by
        have h1 : q / 2 ^ fm f = 1 := Nat.div_eq_of_lt_le (by omega) (by omega)
        have := Nat.div_add_mod q (2 ^ fm f)
        rw [h1, Nat.mul_one] at this; omega
      have e4 : shl .u32 (((U + 1 : Nat) : Int) % 4294967296) (fm f : Int) = (((U + 1) * 2 ^ fm f : Nat) : Int) := by
        rw [show ((U + 1 : Nat) : Int) % 4294967296 = ((U + 1 : Nat) : Int) by omega, shl_u32, Nat.mod_eq_of_lt (by omega)]
      have e5 : Go.bits .and .u64 (q : Int) (IntKind.u64.wrap (((2 ^ fm f : Nat) : Int) - 1)) % 4294967296 = ((q % 2 ^ fm f : Nat) : Int) := by
        rw [show ((2 ^ fm f : Nat) : Int) - 1 = ((2 ^ fm f - 1 : Nat) : Int) by omega, u64_id _ (by omega), mask_u64 _ _ (by omega) (by omega)]
        have := Nat.mod_lt q hp; omega
      have hKe : K + signN f neg = (U + 1) * 2 ^ fm f + signN f neg + q % 2 ^ fm f := by
        rw [hK, hm1, Nat.add_mul]; omega
      obtain ⟨s1, s2⟩ := sign_or f neg ((U + 1) * 2 ^ fm f) (by omega)
      have hq2 : q % 2 ^ fm f < 2 ^ fm f := Nat.mod_lt _ hp
      have e6 : Go.bits .or .u32 (((U + 1) * 2 ^ fm f + signN f neg : Nat) : Int) ((q % 2 ^ fm f : Nat) : Int) = (((U + 1) * 2 ^ fm f + signN f neg + q % 2 ^ fm f : Nat) : Int) := by
        rw [or_u32 _ _ s2 (by omega), or_add _ _ (fm f) ?_ hq2]
        unfold signN
        cases neg
        · simp
        · simp only [if_true]
          rw [Nat.pow_add, ← Nat.add_mul, Nat.mul_mod_left]
      rw [e4, s1, e5, e6, co]
      simp only [Bool.false_eq_true, if_false, hKe]
      exact ⟨trivial, trivial⟩
theorem step_ew (f : Int) : wrap64 ((fm f : Int) + 1) = ((fm f + 1 : Nat) : Int) := by
  obtain ⟨b1, b2, b3, b4, b5⟩ := fbounds f
  rw [w64_id] <;> omega
theorem step_es (f : Int) : shl .u64 1 ((fm f + 1 : Nat) : Int) = ((2 ^ (fm f + 1) : Nat) : Int) := by
  obtain ⟨b1, b2, b3, b4, b5⟩ := fbounds f
  have h31 := pow_le31 (show fm f + 1 ≤ 31 by omega)
  rw [show (1 : Int) = ((1 : Nat) : Int) from rfl, shl_u64, Nat.one_mul, Nat.mod_eq_of_lt (by omega)]
theorem step_e8 (f : Int) (U : Nat) (h : U ≤ 10200) : wrap64 (leastN f - (fm f : Int) + (U : Int) + 1) = leastN f - (fm f : Int) + ((U + 1 : Nat) : Int) := by
  obtain ⟨b1, b2, b3, b4, b5⟩ := fbounds f
  have hl := least_cases f
  rw [w64_id] <;> omega
theorem step_e9 (f : Int) : (((2 ^ (fm f + 1) : Nat) : Int)) / 2 = ((2 ^ fm f : Nat) : Int) := by
  have hsucc : 2 ^ (fm f + 1) = 2 * 2 ^ fm f := by rw [Nat.pow_succ, Nat.mul_comm]
  omega
theorem step_lt (f : Int) : 2 ^ fm f < 2 ^ (fm f + 1) := Nat.pow_lt_pow_right (by decide) (Nat.lt_succ_self _)
theorem step_key (U m q : Nat) (h : q = 2 * m) : (U + 1) * m + m = U * m + q := by rw [Nat.add_mul]; omega
theorem step_q {a b : Nat} (h : a ≤ b) (h' : ¬ a = b) : a < b := by omega
theorem step_i {a b : Nat} (h' : ¬ a = b) : ¬ ((a : Int) = (b : Int)) := by omega
theorem step_n {m : Nat} : (0 : Int) ≤ (m : Int) := by omega
theorem ref_pack_ev (f mode : Int) (neg : Bool) (x : Int) (s : Nat) (more : Bool) (hs : s < 18446744073709551616) :
    Ev (fun k => annealref1_Pack.f k f mode neg x (s : Int) more) ((packN f mode neg (clampE x) s more : Int), false, false, excN f mode neg (clampE x) s more) := by
  unfold annealref1_Pack.f
  have hc : mn (mx x (-10000)) 10000 = clampE x := rfl
  obtain ⟨h1, h2⟩ := clampE_bounds x
  rw [hc]
  generalize clampE x = x at *
  have hll := left_le s (unitN f x s - x) more
  by_cases z : s = 0 ∧ more = false
  · obtain ⟨rfl, rfl⟩ := z
    simp only [if_pos (show ((0 : Nat) : Int) = 0 from rfl)]
    refine Ev.step (fun k => by rw [annealref1_Pack.j0]) ?_
    simp only [Bool.not_false, if_true, ref_zero_f, Option.bind_some]
    have h := pack_f 0 f mode neg x 0 false (by decide)
    rw [clampE_id x h1 h2] at h
    unfold round_Pack.f at h
    rw [if_pos (by rfl), show mn (mx x (-10000)) 10000 = x from clampE_id x h1 h2, round_Pack.j0] at h
    simp only [Bool.not_false, if_true, zero_f, Option.bind_some] at h
    rw [← Option.some.inj h]
    exact Ev.now _
  · have hj : ∀ k, (if (s : Int) = 0 then annealref1_Pack.j0 k f mode neg x (s : Int) more (!more) else annealref1_Pack.j0 k f mode neg x (s : Int) more false) = annealref1_Pack.j0 k f mode neg x (s : Int) more false := by
      intro k
      by_cases c : (s : Int) = 0
      · rw [if_pos c]
        cases more
        · exact absurd ⟨by omega, rfl⟩ z
        · rfl
      · rw [if_neg c]
    refine Ev.congr hj ?_
    obtain ⟨u1, u2, u3⟩ := unit_bounds f x s hs h1 h2
    obtain ⟨q1, q2⟩ := quo_bounds f x s
    obtain ⟨b1, b2, b3, b4, b5⟩ := fbounds f
    have hl := least_cases f
    have hn := lenN_small s hs
    have h31 := pow_le31 (show fm f + 1 ≤ 31 by omega)
    have hp := Nat.two_pow_pos (fm f)
    have hsucc : 2 ^ (fm f + 1) = 2 * 2 ^ fm f := by rw [Nat.pow_succ, Nat.mul_comm]
    have hq64 : quoN s (unitN f x s - x) < 18446744073709551616 := by omega
    have hd : unitN f x s - x ≤ 0 → s * 2 ^ (-(unitN f x s - x)).toNat < 18446744073709551616 := by
      intro h; have := hq64; unfold quoN at this; rw [if_pos h] at this; exact this
    -- the exponent that the reference takes
    have hE : ∃ e : Int, (∀ k, (if (s : Int) = 0 then annealref1_Pack.j1 k f mode neg x (s : Int) more (fm f : Int) (leastN f) (-20000) else annealref1_Pack.j1 k f mode neg x (s : Int) more (fm f : Int) (leastN f) (wrap64 (wrap64 (x + (lenN s : Int)) - 1))) = annealref1_Pack.j1 k f mode neg x (s : Int) more (fm f : Int) (leastN f) e) ∧ wrap64 (mx e (leastN f) - (fm f : Int)) = unitN f x s ∧ (decide (e < leastN f) = (decide (s = 0) || decide (x + lenN s - 1 < leastN f))) := by
      by_cases c : s = 0
      · subst c
        refine ⟨-20000, fun k => by rw [if_pos (show ((0 : Nat) : Int) = 0 from rfl)], ?_, ?_⟩
        · have : riseN f x 0 = 0 := by unfold riseN; rw [if_pos rfl]
          have hm : mx (-20000) (leastN f) = leastN f := by unfold mx; split <;> omega
          rw [hm]
          unfold unitN; rw [this, w64_id _ (by omega) (by omega)]; omega
        · rw [decide_eq_true (by omega)]; simp
      · have e1 : wrap64 (wrap64 (x + (lenN s : Int)) - 1) = x + lenN s - 1 := by
          rw [w64_id (x + _) (by omega) (by omega), w64_id _ (by omega) (by omega)]
        refine ⟨x + lenN s - 1, fun k => by rw [if_neg (by omega), e1], ?_, ?_⟩
        · have hr : riseN f x s = (x + lenN s - 1 - leastN f).toNat := by unfold riseN; rw [if_neg c]
          unfold unitN mx
          split
          · rw [w64_id _ (by omega) (by omega)]; omega
          · rw [w64_id _ (by omega) (by omega)]; omega
        · rw [decide_eq_false c, Bool.false_or]
    obtain ⟨e, he1, he2, he3⟩ := hE
    refine Ev.step (fun k => by rw [annealref1_Pack.j0]) ?_
    simp only [Bool.false_eq_true, if_false, ref_widths_f, ref_bias_f, Option.bind_some]
    refine Ev.bind (ref_len_ev s hs) ?_
    rw [show (1 : Int) - (1 - leastN f) = leastN f by omega, w64_id (leastN f) (by omega) (by omega)]
    refine Ev.congr he1 ?_
    refine Ev.step (fun k => by rw [annealref1_Pack.j1]) ?_
    rw [he2, w64_id (unitN f x s - x) (by omega) (by omega)]
    refine Ev.bind (ref_divide_f s hs _ (by omega) (by omega) hd) ?_
    -- what is left, with the little more
    have hlm : leftN s (unitN f x s - x) false ≤ 3 := left_le s _ false
    have hcol : ∀ k (r : Option (Int × Bool × Bool × Bool × Bool × Bool)), annealref1_Pack.j2 k f mode neg (fm f : Int) (leastN f) e (unitN f x s) (quoN s (unitN f x s - x) : Int) (decide (2 ≤ leftN s (unitN f x s - x) more)) (decide (leftN s (unitN f x s - x) more = 1 ∨ leftN s (unitN f x s - x) more = 3)) = r →
        (if decide (leftN s (unitN f x s - x) false = 1 ∨ leftN s (unitN f x s - x) false = 3) = true then annealref1_Pack.j2 k f mode neg (fm f : Int) (leastN f) e (unitN f x s) (quoN s (unitN f x s - x) : Int) (decide (2 ≤ leftN s (unitN f x s - x) false)) true else annealref1_Pack.j2 k f mode neg (fm f : Int) (leastN f) e (unitN f x s) (quoN s (unitN f x s - x) : Int) (decide (2 ≤ leftN s (unitN f x s - x) false)) more) = r := by
      intro k r h
      cases more
      · by_cases c : leftN s (unitN f x s - x) false = 1 ∨ leftN s (unitN f x s - x) false = 3
        · rw [decide_eq_true c] at h ⊢; rw [if_pos rfl]; exact h
        · rw [decide_eq_false c] at h ⊢; rw [if_neg (by decide)]; exact h
      · obtain ⟨m1, m2⟩ := left_more s (unitN f x s - x)
        rw [decide_eq_true m2, m1] at h
        split <;> exact h
    refine Ev.congr (fun k => hcol k _ rfl) ?_
    generalize hL : leftN s (unitN f x s - x) more = L at *
    refine Ev.step (fun k => by rw [annealref1_Pack.j2]) ?_
    have hinx : decide (L ≠ 0) = inexN f x s more := by unfold inexN; rw [hL]
    have h2 : ∀ k, (if decide (2 ≤ L) = true then annealref1_Pack.j3 k f mode neg (fm f : Int) (leastN f) e (unitN f x s) (quoN s (unitN f x s - x) : Int) (decide (2 ≤ L)) (decide (L = 1 ∨ L = 3)) true else annealref1_Pack.j3 k f mode neg (fm f : Int) (leastN f) e (unitN f x s) (quoN s (unitN f x s - x) : Int) (decide (2 ≤ L)) (decide (L = 1 ∨ L = 3)) (decide (L = 1 ∨ L = 3))) = annealref1_Pack.j3 k f mode neg (fm f : Int) (leastN f) e (unitN f x s) (quoN s (unitN f x s - x) : Int) (decide (2 ≤ L)) (decide (L = 1 ∨ L = 3)) (inexN f x s more) := by
      intro k
      rw [← hinx]
      have : L = 0 ∨ L = 1 ∨ L = 2 ∨ L = 3 := by omega
      rcases this with h | h | h | h <;> subst h <;> rfl
    refine Ev.congr h2 ?_
    refine Ev.step (fun k => by rw [annealref1_Pack.j3]) ?_
    have hodd : ((Go.bits .and .u64 (quoN s (unitN f x s - x) : Int) 1 == 1) : Bool) = decide (quoN s (unitN f x s - x) % 2 = 1) := by
      rw [and1_u64 _ hq64, show (1 : Int) = ((1 : Nat) : Int) from rfl, beq_nn]
    simp only [hodd, ref_up_f mode neg _ L hll, Option.bind_some]
    -- the unit above
    have hK : keyN f mode neg x s more = riseN f x s * 2 ^ fm f + (quoN s (unitN f x s - x) + (if upN mode neg (quoN s (unitN f x s - x)) L then 1 else 0)) := by
      unfold keyN; rw [hL, Nat.add_assoc]
    have h3 : ∀ k, (if upN mode neg (quoN s (unitN f x s - x)) L = true then annealref1_Pack.j4 k f mode neg (fm f : Int) (leastN f) e (unitN f x s) (IntKind.u64.wrap ((quoN s (unitN f x s - x) : Int) + 1)) (inexN f x s more) else annealref1_Pack.j4 k f mode neg (fm f : Int) (leastN f) e (unitN f x s) (quoN s (unitN f x s - x) : Int) (inexN f x s more)) = annealref1_Pack.j4 k f mode neg (fm f : Int) (leastN f) e (unitN f x s) ((quoN s (unitN f x s - x) + (if upN mode neg (quoN s (unitN f x s - x)) L then 1 else 0) : Nat) : Int) (inexN f x s more) := by
      intro k
      by_cases c : upN mode neg (quoN s (unitN f x s - x)) L = true
      · rw [if_pos c, if_pos c, show (quoN s (unitN f x s - x) : Int) + 1 = ((quoN s (unitN f x s - x) + 1 : Nat) : Int) by omega, u64_id _ (by omega)]
      · rw [if_neg c, if_neg c, Nat.add_zero]
    refine Ev.congr h3 ?_
    have hqn : quoN s (unitN f x s - x) + (if upN mode neg (quoN s (unitN f x s - x)) L then 1 else 0) ≤ 2 ^ (fm f + 1) := by split <;> omega
    have hqm : riseN f x s ≠ 0 → 2 ^ fm f ≤ quoN s (unitN f x s - x) + (if upN mode neg (quoN s (unitN f x s - x)) L then 1 else 0) := fun h => Nat.le_trans (q2 h) (Nat.le_add_right _ _)
    generalize quoN s (unitN f x s - x) + (if upN mode neg (quoN s (unitN f x s - x)) L then 1 else 0) = Q at *
    have hun : unitN f x s = leastN f - fm f + (riseN f x s : Nat) := rfl
    rw [hun]
    have ew := step_ew f
    have es := step_es f
    have e8 := step_e8 f _ u3
    have e9 := step_e9 f
    have fin : ∀ r : Int × Bool × Bool × Bool × Bool × Bool, r = ((((if overN f (keyN f mode neg x s more) then (if endless mode neg then topN f * 2 ^ fm f else topN f * 2 ^ fm f - 1) else keyN f mode neg x s more) + signN f neg : Nat) : Int), if overN f (keyN f mode neg x s more) then (false, false, true, false, true) else (false, false, false, underN f x s more, inexN f x s more)) → r = ((packN f mode neg x s more : Int), false, false, excN f mode neg x s more) := by
      intro r hr
      rw [hr]
      unfold packN excN
      split <;> rfl
    have hund : underN f x s more = (inexN f x s more && decide (e < leastN f)) := by unfold underN; rw [he3]
    refine Ev.step (fun k => by rw [annealref1_Pack.j4]) ?_
    simp only [ew, es, e8, if_pos (step_n (m := fm f + 1))]
    by_cases cQ : Q = 2 ^ (fm f + 1)
    · have g := fun k c3 => ref_pack_j5 k f mode neg (2 ^ fm f) (riseN f x s + 1) (Nat.le_trans (Nat.succ_le_succ u3) (by decide)) (step_lt f) (fun _ => Nat.le_refl _) (keyN f mode neg x s more) (by rw [hK]; exact (step_key _ _ _ (cQ.trans hsucc)).symm) false false false c3 (inexN f x s more)
      simp only [cQ, if_true, e9]
      by_cases ci : inexN f x s more = true
      · simp only [ci, if_true] at g ⊢
        rw [ci, Bool.true_and] at hund
        rw [← fin _ rfl, hund, ci]
        exact ⟨2, fun n hn => by obtain ⟨m, rfl⟩ : ∃ m, n = m + 2 := ⟨n - 2, by omega⟩; exact (g m _).1⟩
      · rw [Bool.not_eq_true] at ci
        simp only [ci, Bool.false_eq_true, if_false] at g ⊢
        rw [ci, Bool.false_and] at hund
        rw [← fin _ rfl, hund, ci]
        exact ⟨2, fun n hn => by obtain ⟨m, rfl⟩ : ∃ m, n = m + 2 := ⟨n - 2, by omega⟩; exact (g m _).2⟩
    · have g := fun k c3 => ref_pack_j5 k f mode neg Q (riseN f x s) (Nat.le_trans u3 (by decide)) (step_q hqn cQ) hqm (keyN f mode neg x s more) hK false false false c3 (inexN f x s more)
      have cQ' : ¬ ((Q : Int) = ((2 ^ (fm f + 1) : Nat) : Int)) := step_i cQ
      simp only [cQ', if_false]
      by_cases ci : inexN f x s more = true
      · simp only [ci, if_true] at g ⊢
        rw [ci, Bool.true_and] at hund
        rw [← fin _ rfl, hund, ci]
        exact ⟨2, fun n hn => by obtain ⟨m, rfl⟩ : ∃ m, n = m + 2 := ⟨n - 2, by omega⟩; exact (g m _).1⟩
      · rw [Bool.not_eq_true] at ci
        simp only [ci, Bool.false_eq_true, if_false] at g ⊢
        rw [ci, Bool.false_and] at hund
        rw [← fin _ rfl, hund, ci]
        exact ⟨2, fun n hn => by obtain ⟨m, rfl⟩ : ∃ m, n = m + 2 := ⟨n - 2, by omega⟩; exact (g m _).2⟩
end Go.Proofs.Ytlkjoibpfhjhcaa.Round

/- Numbers drawn, of any format: no more bits than the format has. Plain numbers. -/
namespace Go.Proofs.Ytlkjoibpfhjhcaa.Round
open Go.RowKit Go.Proofs.Ytlkjoibpfhjhcaa.P Go.Proofs.Ytlkjoibpfhjhcaa.Num Go.Proofs.Ytlkjoibpfhjhcaa.BitsF Go.Proofs.Ytlkjoibpfhjhcaa.Fmt Go.Proofs.YtlkjoibpfhjhcaaW.PrintWords Go.Proofs.YtlkjoibpfhjhcaaW.PrintLast Go.Proofs.YtlkjoibpfhjhcaaW.PrintMore

theorem and_lt (f y : Int) : ∃ m : Nat, Go.bits .and .u32 y (maskN f : Int) = (m : Int) ∧ m < 2 ^ (fe f + fm f + 1) := by
  have hb := fbounds f
  have h32 := pow_le32 (show fe f + fm f + 1 ≤ 32 by omega)
  have hp := Nat.two_pow_pos (fe f + fm f + 1)
  have hm : (BitVec.ofInt 32 y &&& BitVec.ofInt 32 (maskN f : Int)).toNat < 2 ^ (fe f + fm f + 1) := by
    rw [BitVec.toNat_and, BitVec.ofInt_natCast, BitVec.toNat_ofNat]
    have h1 := Nat.and_le_right (n := (BitVec.ofInt 32 y).toNat) (m := maskN f % 2 ^ 32)
    have h2 := Nat.mod_le (maskN f) (2 ^ 32)
    have h3 : maskN f < 2 ^ (fe f + fm f + 1) := by unfold maskN; omega
    omega
  refine ⟨_, ?_, hm⟩
  show IntKind.u32.wrap (((BitVec.ofInt 32 y &&& BitVec.ofInt 32 (maskN f : Int)).toNat : Nat) : Int) = _
  exact wraps_u32 _ (Int.natCast_nonneg _) (by omega)
theorem or_top_lt (f : Int) (m : Nat) (h : m < 2 ^ (fe f + fm f + 1)) : ∃ x : Nat, Go.bits .or .u32 (m : Int) (signN f true : Int) = (x : Int) ∧ x < 2 ^ (fe f + fm f + 1) := by
  have hb := fbounds f
  have h32 := pow_le32 (show fe f + fm f + 1 ≤ 32 by omega)
  have h31 := pow_le31 (show fe f + fm f ≤ 31 by omega)
  have hs : signN f true = 2 ^ (fe f + fm f) := rfl
  refine ⟨m ||| 2 ^ (fe f + fm f), ?_, Nat.or_lt_two_pow h (Nat.pow_lt_pow_right (by decide) (by omega))⟩
  rw [hs, or_u32 m _ (by omega) (by omega)]
theorem num_low (f : Int) (a : Nat) : ∃ x : Nat, annealseat_Num.f f (a : Int) = some (x : Int) ∧ x < 2 ^ (fe f + fm f + 1) ∧ x < 4294967296 := by
  have hb := fbounds f
  have h32 := pow_le32 (show fe f + fm f + 1 ≤ 32 by omega)
  have e := Int.tmod_eq_emod_of_nonneg (b := 15) (Int.natCast_nonneg a)
  have hp : 0 ≤ Int.tmod (a : Int) 15 ∧ Int.tmod (a : Int) 15 < 15 := by rw [e]; omega
  have fin : ∀ y : Int, ∃ x : Nat, (if (a : Int) / 2147483648 = 1 then (some (signN f true : Int)).bind (fun t => some (Go.bits .or .u32 (Go.bits .and .u32 y (maskN f : Int)) t)) else some (Go.bits .and .u32 y (maskN f : Int))) = some (x : Int) ∧ x < 2 ^ (fe f + fm f + 1) ∧ x < 4294967296 := by
    intro y
    obtain ⟨m, h1, h2⟩ := and_lt f y
    rw [h1]
    by_cases c : (a : Int) / 2147483648 = 1
    · rw [if_pos c, Option.bind_some]
      obtain ⟨x, h3, h4⟩ := or_top_lt f m h2
      exact ⟨x, by rw [h3], h4, by omega⟩
    · rw [if_neg c]
      exact ⟨m, rfl, h2, by omega⟩
  unfold annealseat_Num.f
  rw [ref_widths_f, Option.bind_some]
  dsimp only
  rcases fcases f with ⟨h1, h2⟩ | ⟨h1, h2⟩ | ⟨h1, h2⟩
  · rw [h1, h2, if_pos (by decide), if_pos (by decide), if_neg (by decide), if_pos (show (0 : Int) ≤ wrap64 (((10 : Nat) : Int) - 1) by unfold wrap64; omega), if_neg (by decide), Option.bind_some, if_pos hp.1, if_pos (by exact hp.2), ref_mask_f, Option.bind_some, ref_zero_f]
    rw [h1, h2] at fin
    exact fin _
  · rw [h1, h2, if_pos (by decide), if_pos (by decide), if_neg (by decide), if_pos (show (0 : Int) ≤ wrap64 (((7 : Nat) : Int) - 1) by unfold wrap64; omega), if_neg (by decide), Option.bind_some, if_pos hp.1, if_pos (by exact hp.2), ref_mask_f, Option.bind_some, ref_zero_f]
    rw [h1, h2] at fin
    exact fin _
  · rw [h1, h2, if_pos (by decide), if_pos (by decide), if_neg (by decide), if_pos (show (0 : Int) ≤ wrap64 (((23 : Nat) : Int) - 1) by unfold wrap64; omega), if_neg (by decide), Option.bind_some, if_pos hp.1, if_pos (by exact hp.2), ref_mask_f, Option.bind_some, ref_zero_f]
    rw [h1, h2] at fin
    exact fin _
end Go.Proofs.Ytlkjoibpfhjhcaa.Round

/- ProdOnes: one times a number is it, noughts have the product's sign, and which order doesn't count: for any two numbers of each format, in each mode. -/
namespace Go.Proofs.Ytlkjoibpfhjhcaa.Pure
open Go.RowKit Go.Proofs.Ytlkjoibpfhjhcaa.P Go.Proofs.Ytlkjoibpfhjhcaa.Num Go.Proofs.Ytlkjoibpfhjhcaa.BitsF Go.Proofs.Ytlkjoibpfhjhcaa.Fmt Go.Proofs.Ytlkjoibpfhjhcaa.Round Go.Proofs.YtlkjoibpfhjhcaaW.PrintWords Go.Proofs.YtlkjoibpfhjhcaaW.PrintLast Go.Proofs.YtlkjoibpfhjhcaaW.PrintMore

theorem known5_ev : Ev (fun k => anneallaw5_known.f k) true := Ev.of anneallaw5_known.mono (k := 60) (by kernel_rfl)
theorem form5_some (c : Nat) : ∃ f : Int, anneallaw5_form.f (c : Int) = some f := by
  have e := Int.tmod_eq_emod_of_nonneg (b := 3) (Int.natCast_nonneg c)
  unfold anneallaw5_form.f
  rw [Option.bind_some, e]
  have h : (c : Int) % 3 = 0 ∨ (c : Int) % 3 = 1 ∨ (c : Int) % 3 = 2 := by omega
  rcases h with h | h | h <;> rw [h] <;> exact ⟨_, rfl⟩
theorem from_one_ev (f mode : Int) : ∃ x : Bool × Bool × Bool × Bool × Bool, Ev (fun k => annealref1_FromInt.f k f mode 1) ((unoN f : Int), x) := by
  have hp := ref_pack_ev f mode false 0 1 false (by decide)
  rw [clampE_id _ (by decide) (by decide), int_one] at hp
  exact ⟨_, Ev.congr (fun k => by unfold annealref1_FromInt.f; rw [if_neg (by decide), show IntKind.u64.wrap 1 = ((1 : Nat) : Int) from by rw [u64_wrap]; rfl]) (Ev.bind hp (Ev.now _))⟩
theorem and_top (f : Int) (v : Nat) (hv : v < 4294967296) : Go.bits .and .u32 (v : Int) (signN f true : Int) = (signN f (negN f v) : Int) := by
  have hb := fbounds f
  have h31 := pow_le31 (show fe f + fm f ≤ 31 by omega)
  have hs : signN f true = 2 ^ (fe f + fm f) := rfl
  rw [and_u32 v _ hv (by omega), hs]
  congr 1
  apply Nat.eq_of_testBit_eq
  intro i
  rw [Nat.testBit_and, Nat.testBit_two_pow]
  unfold signN negN
  by_cases e : fe f + fm f = i
  · subst e
    rw [Nat.testBit_eq_decide_div_mod_eq]
    by_cases c : v / 2 ^ (fe f + fm f) % 2 = 1
    · rw [decide_eq_true c, if_pos rfl, Nat.testBit_two_pow]; simp
    · rw [decide_eq_false c, if_neg (by decide)]; simp
  · rw [decide_eq_false e, Bool.and_false]
    split
    · rw [Nat.testBit_two_pow, decide_eq_false e]
    · simp
theorem ones_j0 (f mode : Int) (x : Nat) (hx : x < 2 ^ (fe f + fm f + 1)) (xv : x < 4294967296) : Ev (fun k => anneallaw5_ProdOnes.j0 k f (x : Int) (mulN f mode x (unoN f) : Int) (mulN f mode x 0 : Int) false (mulX f mode x (unoN f)).1 (mulX f mode x (unoN f)).2.1 (mulX f mode x (unoN f)).2.2.1 (mulX f mode x (unoN f)).2.2.2.1 (mulX f mode x (unoN f)).2.2.2.2) true := by
  have hz := mul_nought f mode x
  refine Ev.step (fun k => by rw [anneallaw5_ProdOnes.j0, if_neg (by decide)]) (Ev.bind (rclass_ev f x xv) ?_)
  by_cases c4 : 4 ≤ clsN f x
  · rw [mul_nan f mode x _ c4, mul_nan f mode x _ c4]
    exact Ev.congr (fun k => by rw [if_pos (by omega), ref_nan_f, Option.bind_some, if_pos rfl, beq_self_eq_true]) (Ev.now _)
  · obtain ⟨m1, m2⟩ := mul_uno f mode x hx c4
    rw [m1, hz]
    by_cases c3 : clsN f x = 3
    · rw [if_neg (show ¬ clsN f x < 3 by omega)]
      exact Ev.congr (fun k => by rw [if_neg (by omega), if_pos (by omega), if_pos rfl, ref_nan_f, Option.bind_some, beq_self_eq_true]) (Ev.now _)
    · rw [m2 c3, if_pos (show clsN f x < 3 by omega)]
      exact Ev.congr (fun k => by rw [if_neg (by omega), if_neg (by omega), if_pos rfl, if_pos (by decide), ref_zero_f, Option.bind_some, and_top f x xv, beq_self_eq_true]) (Ev.now _)
theorem ProdOnes : anneallaw5_ProdOnes.Pure := by
  intro a0 a1 a2 a3 h0 h1 h2 h3
  obtain ⟨p0, q0⟩ := wf_u8 h0
  obtain ⟨p2, q2⟩ := wf_u32 h2
  obtain ⟨p3, q3⟩ := wf_u32 h3
  obtain ⟨c, rfl⟩ := nat_of p0
  obtain ⟨a, rfl⟩ := nat_of p2
  obtain ⟨b, rfl⟩ := nat_of p3
  obtain ⟨f, ff⟩ := form5_some c
  obtain ⟨x, hx, xl, xv⟩ := num_low f a
  obtain ⟨y, hy, yl, yv⟩ := num_low f b
  apply Ev.rounds
  unfold anneallaw5_ProdOnes.f
  refine Ev.bind known5_ev ?_
  generalize wrap64 (Int.tmod a1 5) = mode
  obtain ⟨X, hX⟩ := from_one_ev f mode
  have t4 := mul_ev f mode x 0 xv (by decide)
  obtain ⟨u1, u2, _⟩ := uno_parts f
  obtain ⟨m1, m2⟩ := mul_turn f mode x y
  have t2 := mul_ev f mode x y xv yv
  have t3 := mul_ev f mode y x yv xv
  rw [← m1, ← m2] at t3
  refine Ev.congr (fun k => by rw [if_pos rfl, ff, Option.bind_some, hx, Option.bind_some, hy, Option.bind_some]) (Ev.bind hX (Ev.bind (mul_ev f mode x (unoN f) xv u2) (Ev.bind t2 (Ev.bind t3 (Ev.bind t4 ?_)))))
  dsimp only
  refine Ev.congr (fun k => ?_) (ones_j0 f mode x xl xv)
  rw [if_pos rfl]
  simp
end Go.Proofs.Ytlkjoibpfhjhcaa.Pure
