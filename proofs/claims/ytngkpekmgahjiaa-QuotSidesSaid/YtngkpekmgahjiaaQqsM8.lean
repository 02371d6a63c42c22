import Derived.Test.YtngkpekmgahjiaaQqsM7
import Derived.Test.YtngkpekmgahjiaaQqsPackE
import Derived.Test.YtngkpekmgahjiaaQqsPx36
import Derived.Test.YtngkpekmgahjiaaQqsM3
import Derived.Test.YtngkpekmgahjiaaQqsPx37
import Derived.Test.YtngkpekmgahjiaaQqsPx17
import Derived.Test.YtngkpekmgahjiaaQqsM6
import Derived.Laws.BitsAllLaws
import Derived.Test.YtngkpekmgahjiaaQqsPx47
/- A rounding depends on the value alone: more bits of the same value make no difference. Quotients and roots to so many bits. Plain numbers alone. -/
namespace Go.Proofs.Ytngkpekmgahjiaa.Round
open Go.RowKit Go.Proofs.Ytngkpekmgahjiaa.P Go.Proofs.Ytngkpekmgahjiaa.Num Go.Proofs.Ytngkpekmgahjiaa.BitsF Go.Proofs.Ytngkpekmgahjiaa.Fmt Go.Proofs.YtngkpekmgahjiaaW.PrintWords Go.Proofs.YtngkpekmgahjiaaW.PrintLast Go.Proofs.YtngkpekmgahjiaaW.PrintMore

end Go.Proofs.Ytngkpekmgahjiaa.Round

/- Quotients: the program's, as plain numbers. -/
namespace Go.Proofs.Ytngkpekmgahjiaa.Round
open Go.RowKit Go.Proofs.Ytngkpekmgahjiaa.P Go.Proofs.Ytngkpekmgahjiaa.Num Go.Proofs.Ytngkpekmgahjiaa.BitsF Go.Proofs.Ytngkpekmgahjiaa.Fmt Go.Proofs.YtngkpekmgahjiaaW.PrintWords Go.Proofs.YtngkpekmgahjiaaW.PrintLast Go.Proofs.YtngkpekmgahjiaaW.PrintMore

/-- How many bits a whole number of a number lacks of 62. -/
def lackN (f : Int) (v : Nat) : Nat := 62 - lenN (wholeN f v)
/-- A quotient of finite numbers that are no noughts. -/
def ratioN (f mode : Int) (a b : Nat) : Nat := packN f mode (negN f a != negN f b) (lowestN f a - lowestN f b - (lackN f a : Int)) (wholeN f a * 2 ^ lackN f a / wholeN f b) (decide (wholeN f a * 2 ^ lackN f a % wholeN f b ≠ 0))
def ratioX (f mode : Int) (a b : Nat) : Bool × Bool × Bool := excN f mode (negN f a != negN f b) (lowestN f a - lowestN f b - (lackN f a : Int)) (wholeN f a * 2 ^ lackN f a / wholeN f b) (decide (wholeN f a * 2 ^ lackN f a % wholeN f b ≠ 0))
def divN (f mode : Int) (a b : Nat) : Nat :=
  if 4 ≤ clsN f a ∨ 4 ≤ clsN f b then nanN f else if clsN f a = clsN f b ∧ (clsN f a = 0 ∨ clsN f a = 3) then nanN f else if clsN f a = 3 then infN f (negN f a != negN f b)
  else if clsN f b = 3 ∨ clsN f a = 0 then signN f (negN f a != negN f b) else if clsN f b = 0 then infN f (negN f a != negN f b) else ratioN f mode a b
def divX (f mode : Int) (a b : Nat) : Bool × Bool × Bool × Bool × Bool :=
  if 4 ≤ clsN f a ∨ 4 ≤ clsN f b then (isLoud f a || isLoud f b, false, false, false, false) else if clsN f a = clsN f b ∧ (clsN f a = 0 ∨ clsN f a = 3) then (true, false, false, false, false) else if clsN f a = 3 then (false, false, false, false, false)
  else if clsN f b = 3 ∨ clsN f a = 0 then (false, false, false, false, false) else if clsN f b = 0 then (false, true, false, false, false) else (false, false, ratioX f mode a b)
theorem whole_pos (f : Int) (v : Nat) (h : clsN f v ≠ 0) (h3 : clsN f v < 3) : wholeN f v ≠ 0 := by
  have hp := Nat.two_pow_pos (fm f)
  unfold clsN at h h3
  unfold wholeN
  by_cases c : expN f v = 0
  · rw [if_pos c] at h ⊢
    intro z; rw [if_pos z] at h; exact h rfl
  · rw [if_neg c]; omega
theorem lack_bounds (f : Int) (v : Nat) (h : wholeN f v ≠ 0) : 38 ≤ lackN f v ∧ lackN f v ≤ 61 ∧ lenN (wholeN f v) + lackN f v = 62 ∧ 2305843009213693952 ≤ wholeN f v * 2 ^ lackN f v ∧ wholeN f v * 2 ^ lackN f v < 4611686018427387904 := by
  have h1 := lenN_bound _ _ (whole_lt f v)
  have h2 := lenN_pos _ h
  have hb := fbounds f
  have e : lenN (wholeN f v) + lackN f v = 62 := by unfold lackN; omega
  have hp := Nat.two_pow_pos (lackN f v)
  have l1 := Nat.mul_le_mul_right (2 ^ lackN f v) (lenN_le _ h)
  have l2 := Nat.mul_lt_mul_of_pos_right (lenN_lt (wholeN f v)) hp
  rw [← Nat.pow_add, show lenN (wholeN f v) - 1 + lackN f v = 61 by omega] at l1
  rw [← Nat.pow_add, e] at l2
  exact ⟨by omega, by omega, e, l1, l2⟩
theorem shift_up (v n : Nat) (h : v * 2 ^ n < 18446744073709551616) : (shiftN v (-(n : Int))).1 = v * 2 ^ n := by
  have hp := Nat.two_pow_pos n
  have hv : v < 18446744073709551616 := Nat.lt_of_le_of_lt (Nat.le_mul_of_pos_right v hp) h
  rw [shiftN_left v n hv]
  exact Nat.mod_eq_of_lt h
end Go.Proofs.Ytngkpekmgahjiaa.Round

/- Amounts: what a number's bits without its sign stand for, in units of the least number; rounding depends on the amount alone. -/
namespace Go.Proofs.Ytngkpekmgahjiaa.Round
open Go.RowKit Go.Proofs.Ytngkpekmgahjiaa.P Go.Proofs.Ytngkpekmgahjiaa.Num Go.Proofs.Ytngkpekmgahjiaa.BitsF Go.Proofs.Ytngkpekmgahjiaa.Fmt Go.Proofs.YtngkpekmgahjiaaW.PrintWords Go.Proofs.YtngkpekmgahjiaaW.PrintLast Go.Proofs.YtngkpekmgahjiaaW.PrintMore

def magN (f : Int) (v : Nat) : Nat := v % 2 ^ (fe f + fm f)
/-- The same number, with noughts behind. -/
theorem rest_scale (r h j : Nat) : restN (r * 2 ^ j) (h * 2 ^ j) false = restN r h false := by
  have hp := Nat.two_pow_pos j
  unfold restN
  have h1 : r * 2 ^ j < h * 2 ^ j ↔ r < h := Nat.mul_lt_mul_right hp
  have h2 : r * 2 ^ j = 0 ↔ r = 0 := by rw [Nat.mul_eq_zero]; omega
  have h3 : r * 2 ^ j = h * 2 ^ j ↔ r = h := ⟨fun e => Nat.eq_of_mul_eq_mul_right hp e, fun e => by rw [e]⟩
  simp only [h1, h2, h3]
theorem left_exact (s : Nat) (d : Int) (h : d ≤ 0 ∨ s % 2 ^ d.toNat = 0) : leftN s d false = 0 := left_none false h
theorem quo_scale (s j : Nat) (d : Int) : quoN (s * 2 ^ j) d = quoN s (d - j) ∧ leftN (s * 2 ^ j) d false = leftN s (d - j) false := by
  by_cases c : d ≤ 0
  · rw [left_exact _ _ (.inl c), left_exact _ _ (.inl (by omega))]
    refine ⟨?_, rfl⟩
    unfold quoN
    rw [if_pos c, if_pos (by omega), show (-(d - (j : Int))).toNat = j + (-d).toNat by omega, Nat.pow_add, Nat.mul_assoc]
  · obtain ⟨n, rfl⟩ := nat_of (show 0 ≤ d by omega)
    by_cases c2 : (n : Int) - j ≤ 0
    · obtain ⟨i, rfl⟩ : ∃ i, j = n + i := ⟨j - n, by omega⟩
      have e : s * 2 ^ (n + i) = s * 2 ^ i * 2 ^ n := by rw [Nat.add_comm, Nat.pow_add, Nat.mul_assoc]
      have hp := Nat.two_pow_pos n
      constructor
      · unfold quoN
        rw [if_neg c, if_pos c2, Int.toNat_natCast, e, Nat.mul_div_cancel _ hp, show (-((n : Int) - ((n + i : Nat) : Int))).toNat = i by omega]
      · rw [left_exact _ _ (.inr (by rw [Int.toNat_natCast, e, Nat.mul_mod_left])), left_exact _ _ (.inl c2)]
    · obtain ⟨i, rfl⟩ : ∃ i, n = i + j := ⟨n - j, by omega⟩
      have hp := Nat.two_pow_pos j
      have e : ((i + j : Nat) : Int) - (j : Int) = (i : Int) := by omega
      rw [e] at c2 ⊢
      have hi : i ≠ 0 := by omega
      constructor
      · unfold quoN
        rw [if_neg c, if_neg c2, Int.toNat_natCast, Int.toNat_natCast, Nat.pow_add, Nat.mul_div_mul_right _ _ hp]
      · rw [left_rest _ _ _ c, left_rest _ _ _ c2, Int.toNat_natCast, Int.toNat_natCast, Nat.pow_add, Nat.mul_mod_mul_right, show i + j - 1 = i - 1 + j by omega, Nat.pow_add, rest_scale]
theorem rise_scale (f x : Int) (s j : Nat) : riseN f x (s * 2 ^ j) = riseN f (x + j) s := by
  unfold riseN
  by_cases c : s = 0
  · subst c; rw [Nat.zero_mul, if_pos rfl, if_pos rfl]
  · rw [if_neg (Nat.mul_ne_zero c (Nat.ne_of_gt (Nat.two_pow_pos j))), if_neg c, lenN_mul s j c]
    congr 1; omega
theorem key_scale (f mode : Int) (neg : Bool) (x : Int) (s j : Nat) : keyN f mode neg x (s * 2 ^ j) false = keyN f mode neg (x + j) s false := by
  have hr := rise_scale f x s j
  have hu : unitN f x (s * 2 ^ j) = unitN f (x + j) s := by unfold unitN; rw [hr]
  obtain ⟨hq, hl⟩ := quo_scale s j (unitN f (x + j) s - x)
  rw [show unitN f (x + j) s - x - j = unitN f (x + j) s - (x + j) by omega] at hq hl
  unfold keyN
  rw [hr, hu, hq, hl]
theorem exact_key (f mode : Int) (neg : Bool) (M s r : Nat) (hM : M < 2 ^ (fm f + 1)) (hr : r = 0 ∨ 2 ^ fm f ≤ M) : keyN f mode neg (leastN f - fm f + r - s) (M * 2 ^ s) false = r * 2 ^ fm f + M := by
  obtain ⟨h1, h2, h3⟩ := exact_all f M s r hM hr
  unfold keyN; rw [h3, up_none, h1, h2]; simp
/-- A number's amount, by its whole number. -/
theorem mag_parts (f : Int) (v : Nat) : magN f v / 2 ^ fm f = expN f v ∧ magN f v % 2 ^ fm f = fracN f v := by
  unfold magN expN fracN
  rw [Nat.add_comm (fe f), Nat.pow_add]
  exact ⟨Nat.mod_mul_right_div_self .., Nat.mod_mul_right_mod ..⟩
end Go.Proofs.Ytngkpekmgahjiaa.Round

/- Bits with a sign, beyond the greatest number: plain numbers alone (for rounds without chapter 9). -/
namespace Go.Proofs.Ytngkpekmgahjiaa.Round
open Go.RowKit Go.Proofs.Ytngkpekmgahjiaa.P Go.Proofs.Ytngkpekmgahjiaa.Num Go.Proofs.Ytngkpekmgahjiaa.BitsF Go.Proofs.Ytngkpekmgahjiaa.Fmt Go.Proofs.YtngkpekmgahjiaaW.PrintWords Go.Proofs.YtngkpekmgahjiaaW.PrintLast Go.Proofs.YtngkpekmgahjiaaW.PrintMore

def infK (f : Int) : Nat := topN f * 2 ^ fm f
theorem infK_lt (f : Int) : infK f < 2 ^ (fe f + fm f) ∧ 0 < infK f := by
  obtain ⟨_, hi⟩ := inf_lt f false
  have hp := Nat.two_pow_pos (fm f)
  have ht : 0 < topN f * 2 ^ fm f := Nat.mul_pos (by have := top_cases f; omega) hp
  unfold infK; omega
/-- Bits with a sign. -/
theorem sign_parts (f : Int) (P : Nat) (neg : Bool) (h : P < 2 ^ (fe f + fm f)) : negN f (P + signN f neg) = neg ∧ magN f (P + signN f neg) = P ∧ P + signN f neg < 2 ^ (fe f + fm f + 1) := by
  unfold negN magN signN
  have hp := Nat.two_pow_pos (fe f + fm f)
  cases neg
  · simp only [Bool.false_eq_true, if_false, Nat.add_zero]
    rw [Nat.div_eq_of_lt h, Nat.mod_eq_of_lt h, Nat.pow_succ]
    exact ⟨rfl, rfl, by omega⟩
  · simp only [if_true]
    rw [Nat.add_div_right _ hp, Nat.div_eq_of_lt h, Nat.add_mod_right, Nat.mod_eq_of_lt h, Nat.pow_succ]
    exact ⟨rfl, rfl, by omega⟩
theorem place_sign (f : Int) (P : Nat) (neg : Bool) (h : P < 2 ^ (fe f + fm f)) : placeN f (lowN f (P + signN f neg)) = if neg then -1 - (P : Int) else (P : Int) := by
  obtain ⟨h1, h2, h3⟩ := sign_parts f P neg h
  rw [low_id f _ h3]
  unfold placeN
  unfold magN at h2
  rw [h1, h2]
theorem mag_exp (f : Int) (v : Nat) : expN f v < topN f ↔ magN f v < infK f := by
  obtain ⟨h1, _⟩ := mag_parts f v
  unfold infK
  rw [← h1, Nat.div_lt_iff_lt_mul (Nat.two_pow_pos _)]
def capN (f mode : Int) (neg : Bool) (K : Nat) : Nat := if infK f ≤ K then (if endless mode neg then infK f else infK f - 1) else K
theorem pack_cap (f mode : Int) (neg : Bool) (x : Int) (s : Nat) (more : Bool) : packN f mode neg x s more = capN f mode neg (keyN f mode neg x s more) + signN f neg := by
  unfold packN capN overN infK; simp only [decide_eq_true_iff]
theorem cap_le (f mode : Int) (neg : Bool) (K : Nat) : capN f mode neg K ≤ infK f ∧ capN f mode neg K ≤ K := by
  unfold capN
  by_cases h : infK f ≤ K
  · rw [if_pos h]; split <;> omega
  · rw [if_neg h]; omega
end Go.Proofs.Ytngkpekmgahjiaa.Round

/- Numbers near one, drawn: plain numbers. -/
namespace Go.Proofs.Ytngkpekmgahjiaa.Round
open Go.RowKit Go.Proofs.Ytngkpekmgahjiaa.P Go.Proofs.Ytngkpekmgahjiaa.Num Go.Proofs.Ytngkpekmgahjiaa.BitsF Go.Proofs.Ytngkpekmgahjiaa.Fmt Go.Proofs.YtngkpekmgahjiaaW.PrintWords Go.Proofs.YtngkpekmgahjiaaW.PrintLast Go.Proofs.YtngkpekmgahjiaaW.PrintMore

/-- The exponent's bits of one. -/
def oneN (f : Int) : Nat := topN f / 2
theorem one_cases (f : Int) : fe f = 5 ∧ fm f = 10 ∧ oneN f = 15 ∧ leastN f = -14 ∧ topN f = 31 ∨ fe f = 8 ∧ fm f = 7 ∧ oneN f = 127 ∧ leastN f = -126 ∧ topN f = 255 ∨ fe f = 8 ∧ fm f = 23 ∧ oneN f = 127 ∧ leastN f = -126 ∧ topN f = 255 := by
  unfold oneN topN leastN
  rcases fcases f with ⟨h1, h2⟩ | ⟨h1, h2⟩ | ⟨h1, h2⟩ <;> rw [h1, h2] <;> simp
theorem mild_shl (f : Int) : shl .u32 4 (fm f : Int) = ((4 * 2 ^ fm f : Nat) : Int) ∧ shl .u32 2 (fm f : Int) = ((2 * 2 ^ fm f : Nat) : Int) ∧
    shl .u32 ((((shl .u32 1 (fe f : Int)) - 1) % 4294967296) / 2) (fm f : Int) = ((oneN f * 2 ^ fm f : Nat) : Int) := by
  rcases one_cases f with ⟨h1, h2, h3, _⟩ | ⟨h1, h2, h3, _⟩ | ⟨h1, h2, h3, _⟩ <;> rw [h1, h2, h3] <;> decide
theorem mild_range (f : Int) : 4 * 2 ^ fm f + oneN f * 2 ^ fm f < 2 ^ (fe f + fm f) ∧ 2 * 2 ^ fm f ≤ oneN f * 2 ^ fm f := by
  rcases one_cases f with ⟨h1, h2, h3, _⟩ | ⟨h1, h2, h3, _⟩ | ⟨h1, h2, h3, _⟩ <;> rw [h1, h2, h3] <;> decide
theorem mild_plain (O P a : Nat) (h : 2 * P ≤ O) (hO : O + 4 * P < 2147483648) (hP : 0 < P) : ((((O : Nat) : Int) - ((2 * P : Nat) : Int)) % 4294967296 + Int.tmod ((a : Int) / 8) ((4 * P : Nat) : Int)) % 4294967296 = ((O - 2 * P + a / 8 % (4 * P) : Nat) : Int) := by
  have e : Int.tmod ((a : Int) / 8) ((4 * P : Nat) : Int) = ((a / 8 % (4 * P) : Nat) : Int) := by
    rw [show (a : Int) / 8 = ((a / 8 : Nat) : Int) from rfl, Int.tmod_eq_emod_of_nonneg (Int.natCast_nonneg _)]; rfl
  have hm := Nat.mod_lt (a / 8) (show 4 * P > 0 by omega)
  rw [e]
  generalize a / 8 % (4 * P) = m at *
  omega
theorem or_sign (f : Int) (m : Nat) (h : m < 2 ^ (fe f + fm f)) : Go.bits .or .u32 (m : Int) (signN f true : Int) = ((m + signN f true : Nat) : Int) := by
  have hb := fbounds f
  have h31 := pow_le31 (show fe f + fm f ≤ 31 by omega)
  have hs : signN f true = 2 ^ (fe f + fm f) := rfl
  rw [or_u32 m _ (by omega) (by omega), Nat.or_comm, or_add _ _ (fe f + fm f) (by rw [hs, Nat.mod_self]) h, Nat.add_comm]
/-- Nought, or a number of either sign from a quarter to below four. -/
theorem mild_f (f : Int) (a : Nat) (ha : a < 4294967296) : ∃ m : Nat, ∃ neg : Bool, annealseat_Mild.f f (a : Int) = some ((m + signN f neg : Nat) : Int) ∧ (m = 0 ∧ neg = false ∨ (oneN f - 2) * 2 ^ fm f ≤ m ∧ m < (oneN f + 2) * 2 ^ fm f) := by
  unfold annealseat_Mild.f
  by_cases c : Int.tmod (a : Int) 7 = 0
  · rw [if_pos c]
    exact ⟨0, false, rfl, .inl ⟨rfl, rfl⟩⟩
  · rw [if_neg c, ref_widths_f, Option.bind_some]
    dsimp only
    obtain ⟨s1, s2, s3⟩ := mild_shl f
    obtain ⟨r1, r2⟩ := mild_range f
    have hb := fbounds f
    have h31 := pow_le31 (show fe f + fm f ≤ 31 by omega)
    have hp := Nat.two_pow_pos (fm f)
    rw [s1, s2, s3, if_pos (Int.natCast_nonneg _), if_pos (Int.natCast_nonneg _), if_neg (by omega), mild_plain _ _ _ r2 (by omega) hp]
    have hm := Nat.mod_lt (a / 8) (show 4 * 2 ^ fm f > 0 by omega)
    have h2 : (oneN f - 2) * 2 ^ fm f = oneN f * 2 ^ fm f - 2 * 2 ^ fm f := Nat.sub_mul _ _ _
    have h3 : (oneN f + 2) * 2 ^ fm f = oneN f * 2 ^ fm f + 2 * 2 ^ fm f := Nat.add_mul _ _ _
    generalize hM : oneN f * 2 ^ fm f - 2 * 2 ^ fm f + a / 8 % (4 * 2 ^ fm f) = m at *
    by_cases d : Go.bits .and .u32 (a : Int) 1 = 1
    · rw [if_pos d, ref_zero_f, Option.bind_some, or_sign f m (by omega)]
      exact ⟨m, true, rfl, .inr ⟨by omega, by omega⟩⟩
    · rw [if_neg d]
      exact ⟨m, false, rfl, .inr ⟨by omega, by omega⟩⟩
/-- The parts of such a number. -/
theorem mild_parts (f : Int) (m : Nat) (neg : Bool) (h1 : (oneN f - 2) * 2 ^ fm f ≤ m) (h2 : m < (oneN f + 2) * 2 ^ fm f) :
    negN f (m + signN f neg) = neg ∧ magN f (m + signN f neg) = m ∧ m + signN f neg < 2 ^ (fe f + fm f + 1) ∧ m + signN f neg < 4294967296 ∧ oneN f - 2 ≤ expN f (m + signN f neg) ∧ expN f (m + signN f neg) < oneN f + 2 ∧
    clsN f (m + signN f neg) = 2 ∧ wholeN f (m + signN f neg) = fracN f (m + signN f neg) + 2 ^ fm f ∧ m = expN f (m + signN f neg) * 2 ^ fm f + fracN f (m + signN f neg) := by
  obtain ⟨r1, r2⟩ := mild_range f
  have hb := fbounds f
  have h32 := pow_le32 (show fe f + fm f + 1 ≤ 32 by omega)
  have hp := Nat.two_pow_pos (fm f)
  have h3 : (oneN f + 2) * 2 ^ fm f = oneN f * 2 ^ fm f + 2 * 2 ^ fm f := Nat.add_mul _ _ _
  obtain ⟨p1, p2, p3⟩ := sign_parts f m neg (by omega)
  obtain ⟨q1, q2⟩ := mag_parts f (m + signN f neg)
  rw [p2] at q1 q2
  have e1 : oneN f - 2 ≤ m / 2 ^ fm f := (Nat.le_div_iff_mul_le hp).mpr h1
  have e2 : m / 2 ^ fm f < oneN f + 2 := (Nat.div_lt_iff_lt_mul hp).mpr h2
  have hd := Nat.div_add_mod m (2 ^ fm f)
  rw [q1, q2, Nat.mul_comm] at hd
  rw [q1] at e1 e2
  have hc : oneN f = 15 ∧ topN f = 31 ∨ oneN f = 127 ∧ topN f = 255 := by
    rcases one_cases f with ⟨_, _, h3, _, h4⟩ | ⟨_, _, h3, _, h4⟩ | ⟨_, _, h3, _, h4⟩ <;> omega
  refine ⟨p1, p2, p3, by omega, e1, e2, ?_, ?_, hd.symm⟩
  · unfold clsN; rw [if_neg (by omega), if_pos (by omega)]
  · unfold wholeN; rw [if_neg (by omega)]
end Go.Proofs.Ytngkpekmgahjiaa.Round

/- Small whole numbers as numbers: plain numbers alone. -/
namespace Go.Proofs.Ytngkpekmgahjiaa.Round
open Go.RowKit Go.Proofs.Ytngkpekmgahjiaa.P Go.Proofs.Ytngkpekmgahjiaa.Num Go.Proofs.Ytngkpekmgahjiaa.BitsF Go.Proofs.Ytngkpekmgahjiaa.Fmt Go.Proofs.YtngkpekmgahjiaaW.PrintWords Go.Proofs.YtngkpekmgahjiaaW.PrintLast Go.Proofs.YtngkpekmgahjiaaW.PrintMore

theorem norm_under (f : Int) (e r : Nat) (h : e < topN f) (hr : r < 2 ^ fm f) : e * 2 ^ fm f + r < infK f := by
  have := Nat.mul_le_mul_right (2 ^ fm f) (show e + 1 ≤ topN f from h)
  rw [Nat.add_mul] at this
  unfold infK; omega
/-- A normal number's parts, by its exponent's bits and its fraction. -/
theorem norm_all (f : Int) (neg : Bool) (e r : Nat) (h0 : 1 ≤ e) (h1 : e < topN f) (hr : r < 2 ^ fm f) :
    negN f (e * 2 ^ fm f + r + signN f neg) = neg ∧ magN f (e * 2 ^ fm f + r + signN f neg) = e * 2 ^ fm f + r ∧ e * 2 ^ fm f + r + signN f neg < 2 ^ (fe f + fm f + 1) ∧ e * 2 ^ fm f + r + signN f neg < 4294967296 ∧
    expN f (e * 2 ^ fm f + r + signN f neg) = e ∧ fracN f (e * 2 ^ fm f + r + signN f neg) = r ∧ clsN f (e * 2 ^ fm f + r + signN f neg) = 2 ∧ wholeN f (e * 2 ^ fm f + r + signN f neg) = r + 2 ^ fm f ∧
    lowestN f (e * 2 ^ fm f + r + signN f neg) = leastN f - fm f + ((e - 1 : Nat) : Int) := by
  have hl := norm_under f e r h1 hr
  have hi := (infK_lt f).1
  have hb := fbounds f
  have h32 := pow_le32 (show fe f + fm f + 1 ≤ 32 by omega)
  have hp := Nat.two_pow_pos (fm f)
  obtain ⟨p1, p2, p3⟩ := sign_parts f (e * 2 ^ fm f + r) neg (by omega)
  obtain ⟨q1, q2⟩ := mag_parts f (e * 2 ^ fm f + r + signN f neg)
  rw [p2, Nat.mul_comm, Nat.mul_add_div hp, Nat.div_eq_of_lt hr, Nat.add_zero, Nat.mul_comm] at q1
  rw [p2, Nat.mul_comm, Nat.mul_add_mod, Nat.mod_eq_of_lt hr, Nat.mul_comm] at q2
  refine ⟨p1, p2, p3, by omega, q1.symm, q2.symm, ?_, ?_, ?_⟩
  · unfold clsN; rw [← q1, if_neg (by omega), if_pos h1]
  · unfold wholeN; rw [← q1, ← q2, if_neg (by omega)]
  · unfold lowestN; rw [← q1]
theorem zero_all (f : Int) (b : Bool) : clsN f (signN f b) = 0 ∧ negN f (signN f b) = b ∧ signN f b < 4294967296 := by
  have hb := fbounds f
  have h31 := pow_le31 (show fe f + fm f ≤ 31 by omega)
  have hp := Nat.two_pow_pos (fm f)
  obtain ⟨p1, p2, p3⟩ := sign_parts f 0 b (Nat.two_pow_pos _)
  obtain ⟨q1, q2⟩ := mag_parts f (0 + signN f b)
  rw [p2] at q1 q2
  rw [Nat.zero_add] at *
  refine ⟨?_, p1, ?_⟩
  · unfold clsN; rw [← q1, ← q2, Nat.zero_div, Nat.zero_mod]; rfl
  · unfold signN; split <;> omega
end Go.Proofs.Ytngkpekmgahjiaa.Round

/- Quotients by one, by oneself, by noughts and infinities: plain numbers alone. -/
namespace Go.Proofs.Ytngkpekmgahjiaa.Round
open Go.RowKit Go.Proofs.Ytngkpekmgahjiaa.P Go.Proofs.Ytngkpekmgahjiaa.Num Go.Proofs.Ytngkpekmgahjiaa.BitsF Go.Proofs.Ytngkpekmgahjiaa.Fmt Go.Proofs.YtngkpekmgahjiaaW.PrintWords Go.Proofs.YtngkpekmgahjiaaW.PrintLast Go.Proofs.YtngkpekmgahjiaaW.PrintMore

/-- Normal numbers' quotient. -/
theorem div_norm (f mode : Int) (a b : Nat) (ha : clsN f a = 2) (hb : clsN f b = 2) : divN f mode a b = ratioN f mode a b ∧ divX f mode a b = (false, false, ratioX f mode a b) := by
  unfold divN divX
  rw [ha, hb]
  simp
/-- Where it comes out even. -/
theorem ratio_even (f mode : Int) (a b Q : Nat) (hb : wholeN f b ≠ 0) (h : wholeN f a * 2 ^ lackN f a = Q * wholeN f b) :
    ratioN f mode a b = packN f mode (negN f a != negN f b) (lowestN f a - lowestN f b - (lackN f a : Int)) Q false ∧ ratioX f mode a b = excN f mode (negN f a != negN f b) (lowestN f a - lowestN f b - (lackN f a : Int)) Q false := by
  unfold ratioN ratioX
  rw [h, Nat.mul_div_cancel _ (by omega), Nat.mul_mod_left]
  exact ⟨rfl, rfl⟩
theorem one_least (f : Int) : leastN f + (oneN f : Int) = 1 ∧ 1 ≤ oneN f ∧ oneN f + 3 < topN f ∧ 4 ≤ oneN f := by
  rcases one_cases f with ⟨c1, c2, c3, c4, c5⟩ | ⟨c1, c2, c3, c4, c5⟩ | ⟨c1, c2, c3, c4, c5⟩ <;> omega
theorem lack_norm (f : Int) (v r : Nat) (hr : r < 2 ^ fm f) (h : wholeN f v = r + 2 ^ fm f) : lackN f v = 61 - fm f ∧ fm f ≤ lackN f v := by
  have hb := fbounds f
  have hs : 2 ^ (fm f + 1) = 2 * 2 ^ fm f := by rw [Nat.pow_succ, Nat.mul_comm]
  have hl : lenN (wholeN f v) = fm f + 1 := lenN_of _ _ (by omega) (.inr (by rw [h, show fm f + 1 - 1 = fm f by omega]; omega))
  unfold lackN; rw [hl]; omega
theorem div_one (f mode : Int) (neg : Bool) (e r : Nat) (h0 : 1 ≤ e) (h1 : e < topN f) (hr : r < 2 ^ fm f) :
    divN f mode (e * 2 ^ fm f + r + signN f neg) (oneN f * 2 ^ fm f + 0 + signN f false) = e * 2 ^ fm f + r + signN f neg ∧ divX f mode (e * 2 ^ fm f + r + signN f neg) (oneN f * 2 ^ fm f + 0 + signN f false) = (false, false, false, false, false) := by
  obtain ⟨o1, o2, o3, o4⟩ := one_least f
  have hp := Nat.two_pow_pos (fm f)
  obtain ⟨a1, a2, a3, a4, a5, a6, a7, a8, a9⟩ := norm_all f neg e r h0 h1 hr
  obtain ⟨b1, b2, b3, b4, b5, b6, b7, b8, b9⟩ := norm_all f false (oneN f) 0 o2 (by omega) hp
  obtain ⟨d1, d2⟩ := div_norm f mode _ _ a7 b7
  obtain ⟨k1, k2⟩ := lack_norm f _ r hr a8
  have hev : wholeN f (e * 2 ^ fm f + r + signN f neg) * 2 ^ lackN f (e * 2 ^ fm f + r + signN f neg) = (r + 2 ^ fm f) * 2 ^ (lackN f (e * 2 ^ fm f + r + signN f neg) - fm f) * wholeN f (oneN f * 2 ^ fm f + 0 + signN f false) := by
    rw [a8, b8, Nat.zero_add, Nat.mul_assoc, ← Nat.pow_add]; congr 2; omega
  obtain ⟨q1, q2⟩ := ratio_even f mode _ _ _ (by rw [b8]; omega) hev
  have hs : 2 ^ (fm f + 1) = 2 * 2 ^ fm f := by rw [Nat.pow_succ, Nat.mul_comm]
  have hk : (e - 1) * 2 ^ fm f + (r + 2 ^ fm f) = e * 2 ^ fm f + r := by
    have : e * 2 ^ fm f = (e - 1) * 2 ^ fm f + 2 ^ fm f := by rw [← Nat.succ_mul]; congr 1; omega
    omega
  have hfin := norm_under f e r h1 hr
  obtain ⟨x1, x2⟩ := exact_pack f mode neg (r + 2 ^ fm f) (lackN f (e * 2 ^ fm f + r + signN f neg) - fm f) (e - 1) (by omega) (.inr (by omega)) (by rw [hk]; exact hfin)
  have he : lowestN f (e * 2 ^ fm f + r + signN f neg) - lowestN f (oneN f * 2 ^ fm f + 0 + signN f false) - (lackN f (e * 2 ^ fm f + r + signN f neg) : Int) = leastN f - fm f + ((e - 1 : Nat) : Int) - ((lackN f (e * 2 ^ fm f + r + signN f neg) - fm f : Nat) : Int) := by
    rw [a9, b9]; omega
  rw [d1, d2, q1, q2, a1, b1, Bool.bne_false, he, x1, x2, hk]
  exact ⟨rfl, rfl⟩
theorem div_self (f mode : Int) (neg : Bool) (e r : Nat) (h0 : 1 ≤ e) (h1 : e < topN f) (hr : r < 2 ^ fm f) :
    divN f mode (e * 2 ^ fm f + r + signN f neg) (e * 2 ^ fm f + r + signN f neg) = oneN f * 2 ^ fm f + 0 + signN f false ∧ divX f mode (e * 2 ^ fm f + r + signN f neg) (e * 2 ^ fm f + r + signN f neg) = (false, false, false, false, false) := by
  obtain ⟨o1, o2, o3, o4⟩ := one_least f
  have hp := Nat.two_pow_pos (fm f)
  obtain ⟨a1, a2, a3, a4, a5, a6, a7, a8, a9⟩ := norm_all f neg e r h0 h1 hr
  obtain ⟨d1, d2⟩ := div_norm f mode _ _ a7 a7
  obtain ⟨k1, k2⟩ := lack_norm f _ r hr a8
  have hev : wholeN f (e * 2 ^ fm f + r + signN f neg) * 2 ^ lackN f (e * 2 ^ fm f + r + signN f neg) = 2 ^ fm f * 2 ^ (lackN f (e * 2 ^ fm f + r + signN f neg) - fm f) * wholeN f (e * 2 ^ fm f + r + signN f neg) := by
    rw [← Nat.pow_add, Nat.mul_comm]; congr 2; omega
  obtain ⟨q1, q2⟩ := ratio_even f mode _ _ _ (by rw [a8]; omega) hev
  have hs : 2 ^ (fm f + 1) = 2 * 2 ^ fm f := by rw [Nat.pow_succ, Nat.mul_comm]
  have hk : (oneN f - 1) * 2 ^ fm f + 2 ^ fm f = oneN f * 2 ^ fm f := by rw [← Nat.succ_mul]; congr 1; omega
  have hfin := norm_under f (oneN f) 0 (by omega) hp
  obtain ⟨x1, x2⟩ := exact_pack f mode false (2 ^ fm f) (lackN f (e * 2 ^ fm f + r + signN f neg) - fm f) (oneN f - 1) (by omega) (.inr (Nat.le_refl _)) (by rw [hk]; exact hfin)
  have he : lowestN f (e * 2 ^ fm f + r + signN f neg) - lowestN f (e * 2 ^ fm f + r + signN f neg) - (lackN f (e * 2 ^ fm f + r + signN f neg) : Int) = leastN f - fm f + ((oneN f - 1 : Nat) : Int) - ((lackN f (e * 2 ^ fm f + r + signN f neg) - fm f : Nat) : Int) := by omega
  rw [d1, d2, q1, q2, a1, show (neg != neg) = false by cases neg <;> rfl, he, x1, x2, hk]
  exact ⟨rfl, rfl⟩
end Go.Proofs.Ytngkpekmgahjiaa.Round

/- Roots: the program's, as plain numbers (for rounds without chapter 1). -/
namespace Go.Proofs.Ytngkpekmgahjiaa.BitsF
open Go.RowKit Go.Proofs.Ytngkpekmgahjiaa.P Go.Proofs.Ytngkpekmgahjiaa.Num Go.Proofs.YtngkpekmgahjiaaW.PrintWords Go.Proofs.YtngkpekmgahjiaaW.PrintLast Go.Proofs.YtngkpekmgahjiaaW.PrintMore

/-! ### roots -/
def rootGo : Nat → Nat → Nat → Nat
  | 0, _, r => r
  | j + 1, v, r => if (r + 2 ^ j) * (r + 2 ^ j) ≤ v then rootGo j v (r + 2 ^ j) else rootGo j v r
def rootN (v : Nat) : Nat := rootGo 32 v 0
theorem rootGo_is (j : Nat) : ∀ v r, r * r ≤ v → v < (r + 2 ^ j) * (r + 2 ^ j) → rootGo j v r * rootGo j v r ≤ v ∧ v < (rootGo j v r + 1) * (rootGo j v r + 1) := by
  induction j with
  | zero => intro v r h h'; exact ⟨h, h'⟩
  | succ j ih =>
    intro v r h h'
    unfold rootGo
    by_cases c : (r + 2 ^ j) * (r + 2 ^ j) ≤ v
    · rw [if_pos c]; exact ih v _ c (by rw [Nat.add_assoc, ← Nat.mul_two, ← Nat.pow_succ]; exact h')
    · rw [if_neg c]; exact ih v r h (by omega)
theorem rootGo_lt (j : Nat) : ∀ v r n, r + 2 ^ j ≤ n → rootGo j v r < n := by
  induction j with
  | zero => intro v r n h; unfold rootGo; have := Nat.two_pow_pos 0; omega
  | succ j ih =>
    intro v r n h
    rw [Nat.pow_succ] at h
    unfold rootGo
    split
    · exact ih _ _ _ (by omega)
    · exact ih _ _ _ (by omega)
theorem rootN_is (v : Nat) (hv : v < 18446744073709551616) : rootN v * rootN v ≤ v ∧ v < (rootN v + 1) * (rootN v + 1) := rootGo_is 32 v 0 (by omega) (by omega)
theorem rootN_lt (v : Nat) : rootN v < 4294967296 := rootGo_lt 32 v 0 _ (by decide)
theorem sq_lt {a b : Nat} (h : a < b) : a * a < b * b := Nat.mul_self_lt_mul_self h
theorem sq32 {a : Nat} (h : a < 4294967296) : a * a < 18446744073709551616 := sq_lt (b := 4294967296) h
theorem beq_cast (a b : Nat) : (((a : Int) == (b : Int)) : Bool) = decide (a = b) := by
  by_cases h : a = b
  · subst h; simp
  · rw [beq_eq_false_iff_ne.mpr (by omega)]; simp [h]
theorem root_l0 (v : Nat) (j : Nat) : ∀ r k : Nat, r % 2 ^ j = 0 → r + 2 ^ j ≤ 4294967296 →
    bits_Root.l0 (j + 1 + k) (v : Int) (r : Int) ((2 ^ j / 2 : Nat) : Int) = some ((rootGo j v r : Int), decide (rootGo j v r * rootGo j v r = v)) := by
  induction j with
  | zero =>
    intro r k h h'
    rw [show 0 + 1 + k = k + 1 by omega, bits_Root.l0, if_neg (by decide)]
    rw [Nat.pow_zero] at h'
    unfold rootGo
    rw [show (r : Int) * (r : Int) = ((r * r : Nat) : Int) by simp, u64_id _ (sq32 (by omega)), beq_cast, Int.emod_eq_of_lt (by omega) (by omega)]
  | succ j ih =>
    intro r k h h'
    have hp := Nat.two_pow_pos j
    have e : 2 ^ (j + 1) / 2 = 2 ^ j := by rw [Nat.pow_succ, Nat.mul_div_cancel _ (by decide)]
    have e2 : ((2 ^ j : Nat) : Int) / 2 = ((2 ^ j / 2 : Nat) : Int) := by omega
    have hh : r % 2 ^ j = 0 := by
      rw [Nat.pow_succ] at h
      have := Nat.mod_mul_right_mod r (2 ^ j) 2
      rw [h] at this; simpa using this.symm
    rw [Nat.pow_succ] at h'
    rw [show j + 1 + 1 + k = (j + 1 + k) + 1 by omega, bits_Root.l0, e, if_pos (by omega), or_u64 _ _ (by omega) (by omega), or_add r (2 ^ j) (j + 1) h (by rw [Nat.pow_succ]; omega)]
    rw [show ((r + 2 ^ j : Nat) : Int) * ((r + 2 ^ j : Nat) : Int) = (((r + 2 ^ j) * (r + 2 ^ j) : Nat) : Int) by simp, u64_id _ (sq32 (by omega)), e2]
    unfold rootGo
    by_cases c : (r + 2 ^ j) * (r + 2 ^ j) ≤ v
    · rw [if_pos (by omega), if_pos c]
      exact ih (r + 2 ^ j) k (by rw [Nat.add_mod_right]; exact hh) (by omega)
    · rw [if_neg (by omega), if_neg c]
      exact ih r k hh (by omega)
theorem root_ev (v : Nat) : Ev (fun k => bits_Root.f k (v : Int)) ((rootN v : Int), decide (rootN v * rootN v = v)) :=
  Ev.of (bits_Root.mono _) (k := 33) (by
    have h := root_l0 v 32 0 0 (by decide) (by decide)
    rw [show ((2 ^ 32 / 2 : Nat) : Int) = 2147483648 by decide, show ((0 : Nat) : Int) = 0 from rfl] at h
    exact h)
end Go.Proofs.Ytngkpekmgahjiaa.BitsF

/- Roots of numbers: the program's, as plain numbers. -/
namespace Go.Proofs.Ytngkpekmgahjiaa.Round
open Go.RowKit Go.Proofs.Ytngkpekmgahjiaa.P Go.Proofs.Ytngkpekmgahjiaa.Num Go.Proofs.Ytngkpekmgahjiaa.BitsF Go.Proofs.Ytngkpekmgahjiaa.Fmt Go.Proofs.YtngkpekmgahjiaaW.PrintWords Go.Proofs.YtngkpekmgahjiaaW.PrintLast Go.Proofs.YtngkpekmgahjiaaW.PrintMore

theorem tmod_even (x : Int) : Int.tmod x 2 = 0 ↔ x % 2 = 0 := by
  constructor
  · intro h
    have := Int.mul_tdiv_add_tmod x 2
    omega
  · intro h
    obtain ⟨y, rfl⟩ : ∃ y, x = 2 * y := ⟨x / 2, by omega⟩
    exact Int.mul_tmod_right ..
theorem tdiv_even (x : Int) (h : x % 2 = 0) : Int.tdiv x 2 = x / 2 := by
  obtain ⟨y, rfl⟩ : ∃ y, x = 2 * y := ⟨x / 2, by omega⟩
  rw [Int.mul_tdiv_cancel_left y (by decide)]; omega
/-- How many noughts are put behind. -/
def liftN (f : Int) (a : Nat) : Nat := if (lowestN f a - (lackN f a : Int)) % 2 = 0 then lackN f a else lackN f a - 1
def rootV (f : Int) (a : Nat) : Nat := wholeN f a * 2 ^ liftN f a
def sideN (f mode : Int) (a : Nat) : Nat := packN f mode false ((lowestN f a - (liftN f a : Int)) / 2) (rootN (rootV f a)) (!decide (rootN (rootV f a) * rootN (rootV f a) = rootV f a))
def sideX (f mode : Int) (a : Nat) : Bool × Bool × Bool := excN f mode false ((lowestN f a - (liftN f a : Int)) / 2) (rootN (rootV f a)) (!decide (rootN (rootV f a) * rootN (rootV f a) = rootV f a))
def sqrtN (f mode : Int) (a : Nat) : Nat :=
  if 4 ≤ clsN f a then nanN f else if clsN f a = 0 then signN f (negN f a) else if negN f a = true then nanN f else if clsN f a = 3 then infN f false else sideN f mode a
def sqrtX (f mode : Int) (a : Nat) : Bool × Bool × Bool × Bool × Bool :=
  if 4 ≤ clsN f a then (isLoud f a, false, false, false, false) else if clsN f a = 0 then (false, false, false, false, false) else if negN f a = true then (true, false, false, false, false) else if clsN f a = 3 then (false, false, false, false, false) else (false, false, sideX f mode a)
theorem lift_bounds (f : Int) (a : Nat) (h : wholeN f a ≠ 0) : (lowestN f a - (liftN f a : Int)) % 2 = 0 ∧ liftN f a ≤ lackN f a ∧ lackN f a ≤ liftN f a + 1 ∧ 1152921504606846976 ≤ rootV f a ∧ rootV f a < 4611686018427387904 ∧ 1073741824 ≤ rootN (rootV f a) := by
  obtain ⟨k1, k2, k3, k4, k5⟩ := lack_bounds f a h
  have main : (lowestN f a - (liftN f a : Int)) % 2 = 0 ∧ liftN f a ≤ lackN f a ∧ lackN f a ≤ liftN f a + 1 := by
    unfold liftN; split <;> omega
  obtain ⟨m1, m2, m3⟩ := main
  have v1 : rootV f a ≤ wholeN f a * 2 ^ lackN f a := Nat.mul_le_mul_left _ (Nat.pow_le_pow_right (by decide) m2)
  have v2 : wholeN f a * 2 ^ lackN f a ≤ rootV f a * 2 := by
    unfold rootV
    rw [Nat.mul_assoc, ← Nat.pow_succ]
    exact Nat.mul_le_mul_left _ (Nat.pow_le_pow_right (by decide) m3)
  have v3 : 1152921504606846976 ≤ rootV f a := by omega
  refine ⟨m1, m2, m3, v3, by omega, ?_⟩
  obtain ⟨_, r2⟩ := rootN_is (rootV f a) (by omega)
  rcases Nat.lt_or_ge (rootN (rootV f a)) 1073741824 with c | c
  · have := Nat.mul_self_le_mul_self (show rootN (rootV f a) + 1 ≤ 1073741824 from c)
    omega
  · exact c
theorem of_inf (f : Int) (v : Nat) (hv : v < 4294967296) (h : clsN f v = 3) : sum_Of.f f (v : Int) = some (negN f v, 0, 0, false) := by
  have he := exp_le f v
  have hx : ¬ expN f v < topN f := fun c => by have := (cls_finite f v).mpr c; omega
  have ht := top_cases f
  unfold sum_Of.f format_Unpack.f
  rw [widths_f, Option.bind_some, parts_f f v hv, Option.bind_some]
  dsimp only
  rw [if_neg (by omega), top_f, Option.bind_some, if_pos (by omega)]; rfl
theorem side_ev (f mode : Int) (a : Nat) (ha : a < 4294967296) (h0 : clsN f a ≠ 0) (h3 : clsN f a < 3) (k0 : Int × Bool × Bool × Bool × Bool × Bool → Option (Int × Bool × Bool × Bool × Bool × Bool)) (hk : ∀ r, k0 r = some r) (c : Nat) (hc : c = liftN f a) :
    Ev (fun k => (bits_Shift.f k (wholeN f a : Int) (-(c : Int))).bind fun bt636 => ((bits_Root.f k bt636.1).bind fun bt638 => ((round_Pack.f k f mode false ((lowestN f a - (c : Int)) / 2) (IntKind.u64.wrap (bt638.1)) (!bt638.2)).bind fun bt640 => k0 bt640))) ((sideN f mode a : Int), false, false, sideX f mode a) := by
  subst hc
  have hw := whole_pos f a h0 h3
  obtain ⟨m1, m2, m3, v1, v2, v3⟩ := lift_bounds f a hw
  obtain ⟨k1, k2, k3, k4, k5⟩ := lack_bounds f a hw
  obtain ⟨l1, l2⟩ := lowest_near f a
  have hs := whole_64 f a
  have hr := rootN_lt (rootV f a)
  refine Ev.bind (shift_ev _ hs (-(liftN f a : Int)) (by omega) (by omega)) ?_
  dsimp only
  rw [shift_up _ _ (show wholeN f a * 2 ^ liftN f a < 18446744073709551616 by unfold rootV at v2; omega)]
  refine Ev.bind (root_ev (rootV f a)) ?_
  dsimp only
  have hp := packs_ev f mode false ((lowestN f a - (liftN f a : Int)) / 2) (rootN (rootV f a)) (!decide (rootN (rootV f a) * rootN (rootV f a) = rootV f a)) (by omega)
  rw [clampE_id _ (by omega) (by omega)] at hp
  rw [u64_id _ (by omega)]
  refine Ev.bind hp (Ev.congr (fun k => by rw [hk]; rfl) (Ev.now _))
theorem sqrt_ev (f mode : Int) (a : Nat) (ha : a < 4294967296) : Ev (fun k => quot_Sqrt.f k f mode (a : Int)) ((sqrtN f mode a : Int), sqrtX f mode a) := by
  refine Ev.congr (fun k => by unfold quot_Sqrt.f; rfl) (Ev.bind (pnans1_ev f a ha) ?_)
  have hle := cls_le f a
  unfold sqrtN sqrtX
  by_cases c4 : 4 ≤ clsN f a
  · rw [if_pos c4, if_pos c4]
    exact Ev.congr (fun k => by rw [if_pos (show isNan f a = true from decide_eq_true c4)]) (Ev.now _)
  · rw [if_neg c4, if_neg c4]
    have n4 : ¬ isNan f a = true := by unfold isNan; simp; omega
    by_cases c3 : clsN f a = 3
    · refine Ev.congr (fun k => by rw [if_neg n4, of_inf f a ha c3, Option.bind_some]) (Ev.bind (pzero_ev f a ha) ?_)
      rw [if_neg (show ¬ clsN f a = 0 by omega), if_neg (show ¬ clsN f a = 0 by omega), decide_eq_false (show ¬ clsN f a = 0 by omega)]
      dsimp only
      cases hn : negN f a
      · rw [if_neg (show ¬ false = true by decide), if_neg (show ¬ false = true by decide), if_pos c3, if_pos c3]
        exact Ev.congr (fun k => by rw [if_neg (show ¬ false = true by decide), if_neg (show ¬ false = true by decide)]) (Ev.bind (pinf_ev f a ha) (Ev.congr (fun k => by rw [if_pos (decide_eq_true c3), inf_f]; rfl) (Ev.now _)))
      · rw [if_pos (show true = true from rfl), if_pos (show true = true from rfl)]
        exact Ev.congr (fun k => by rw [if_neg (show ¬ false = true by decide), if_pos (show true = true from rfl), bad_f]; rfl) (Ev.now _)
    · refine Ev.congr (fun k => by rw [if_neg n4, of_f f a ha (cls_exp f a (by omega)), Option.bind_some]) (Ev.bind (pzero_ev f a ha) ?_)
      dsimp only
      by_cases c0 : clsN f a = 0
      · rw [if_pos c0, if_pos c0]
        exact Ev.congr (fun k => by rw [if_pos (decide_eq_true c0), zero_f]; rfl) (Ev.now _)
      · rw [if_neg c0, if_neg c0, decide_eq_false c0]
        cases hn : negN f a
        · rw [if_neg (show ¬ false = true by decide), if_neg (show ¬ false = true by decide), if_neg c3, if_neg c3]
          refine Ev.congr (fun k => by rw [if_neg (show ¬ false = true by decide), if_neg (show ¬ false = true by decide)]) (Ev.bind (pinf_ev f a ha) ?_)
          have hs := whole_64 f a
          have hw := whole_pos f a c0 (by omega)
          obtain ⟨k1, k2, k3, k4, k5⟩ := lack_bounds f a hw
          obtain ⟨l1, l2⟩ := lowest_near f a
          refine Ev.congr (fun k => by rw [if_neg (by simp [c3])]) (Ev.bind (len_ev _ hs) ?_)
          have e1 : wrap64 (62 - (lenN (wholeN f a) : Int)) = (lackN f a : Int) := by rw [w64_id _ (by omega) (by omega)]; omega
          have e2 : wrap64 (lowestN f a - (lackN f a : Int)) = lowestN f a - (lackN f a : Int) := w64_id _ (by omega) (by omega)
          have e3 : wrap64 (-(lackN f a : Int)) = -(lackN f a : Int) := w64_id _ (by omega) (by omega)
          have e4 : wrap64 ((lackN f a : Int) - 1) = ((lackN f a - 1 : Nat) : Int) := by rw [w64_id _ (by omega) (by omega)]; omega
          have e5 : wrap64 (-((lackN f a - 1 : Nat) : Int)) = -((lackN f a - 1 : Nat) : Int) := w64_id _ (by omega) (by omega)
          have e6 : wrap64 (lowestN f a - ((lackN f a - 1 : Nat) : Int)) = lowestN f a - ((lackN f a - 1 : Nat) : Int) := w64_id _ (by omega) (by omega)
          by_cases ev : (lowestN f a - (lackN f a : Int)) % 2 = 0
          · have hl : lackN f a = liftN f a := by unfold liftN; rw [if_pos ev]
            have e7 : wrap64 (Int.tdiv (lowestN f a - (lackN f a : Int)) 2) = (lowestN f a - (lackN f a : Int)) / 2 := by rw [tdiv_even _ ev, w64_id _ (by omega) (by omega)]
            have h := side_ev f mode a ha c0 (by omega) some (fun r => rfl) _ hl
            refine Ev.congr (fun k => ?_) h
            rw [e1, e2, if_pos ((tmod_even _).mpr ev), e3, e7]
          · have hl : lackN f a - 1 = liftN f a := by unfold liftN; rw [if_neg ev]
            have e7 : wrap64 (Int.tdiv (lowestN f a - ((lackN f a - 1 : Nat) : Int)) 2) = (lowestN f a - ((lackN f a - 1 : Nat) : Int)) / 2 := by rw [tdiv_even _ (by omega), w64_id _ (by omega) (by omega)]
            have h := side_ev f mode a ha c0 (by omega) some (fun r => rfl) _ hl
            refine Ev.congr (fun k => ?_) h
            rw [e1, e2, if_neg (fun h => ev ((tmod_even _).mp h)), e4, e5, e6, e7]
        · rw [if_pos (show true = true from rfl), if_pos (show true = true from rfl)]
          exact Ev.congr (fun k => by rw [if_neg (show ¬ false = true by decide), if_pos (show true = true from rfl), bad_f]; rfl) (Ev.now _)
end Go.Proofs.Ytngkpekmgahjiaa.Round

/- On which side of a number the squares of its rounded roots stand: plain numbers alone. -/
namespace Go.Proofs.Ytngkpekmgahjiaa.Round
open Go.RowKit Go.Proofs.Ytngkpekmgahjiaa.P Go.Proofs.Ytngkpekmgahjiaa.Num Go.Proofs.Ytngkpekmgahjiaa.BitsF Go.Proofs.Ytngkpekmgahjiaa.Fmt Go.Proofs.YtngkpekmgahjiaaW.PrintWords Go.Proofs.YtngkpekmgahjiaaW.PrintLast Go.Proofs.YtngkpekmgahjiaaW.PrintMore

/-- Whole units of a binade, as a number. -/
theorem unit_whole (f : Int) (neg : Bool) (r q : Nat) (hq : q < 2 ^ (fm f + 1)) (hr : r = 0 ∨ 2 ^ fm f ≤ q) (h : r * 2 ^ fm f + q < infK f) :
    wholeN f (r * 2 ^ fm f + q + signN f neg) = q ∧ lowestN f (r * 2 ^ fm f + q + signN f neg) = leastN f - fm f + r ∧ expN f (r * 2 ^ fm f + q + signN f neg) < topN f ∧
    r * 2 ^ fm f + q + signN f neg < 2 ^ (fe f + fm f + 1) ∧ r * 2 ^ fm f + q + signN f neg < 4294967296 ∧ magN f (r * 2 ^ fm f + q + signN f neg) = r * 2 ^ fm f + q ∧ negN f (r * 2 ^ fm f + q + signN f neg) = neg := by
  have hp := Nat.two_pow_pos (fm f)
  have hs : 2 ^ (fm f + 1) = 2 * 2 ^ fm f := by rw [Nat.pow_succ, Nat.mul_comm]
  have hb := fbounds f
  have h32 := pow_le32 (show fe f + fm f + 1 ≤ 32 by omega)
  obtain ⟨i1, _⟩ := infK_lt f
  obtain ⟨p1, p2, p3⟩ := sign_parts f (r * 2 ^ fm f + q) neg (by omega)
  obtain ⟨m1, m2⟩ := mag_parts f (r * 2 ^ fm f + q + signN f neg)
  have he : expN f (r * 2 ^ fm f + q + signN f neg) < topN f := (mag_exp f _).mpr (by rw [p2]; exact h)
  have k1 : (r * 2 ^ fm f + q) / 2 ^ fm f = r + q / 2 ^ fm f := by rw [Nat.mul_comm, Nat.mul_add_div hp]
  have k2 : (r * 2 ^ fm f + q) % 2 ^ fm f = q % 2 ^ fm f := by rw [Nat.mul_comm, Nat.mul_add_mod]
  rw [p2, k1] at m1
  rw [p2, k2] at m2
  refine ⟨?_, ?_, he, p3, by omega, p2, p1⟩
  · unfold wholeN
    rw [← m1, ← m2]
    by_cases c : q < 2 ^ fm f
    · rw [Nat.div_eq_of_lt c, Nat.mod_eq_of_lt c]
      rcases hr with h' | h'
      · subst h'; rw [if_pos rfl]
      · omega
    · have d : q / 2 ^ fm f = 1 := Nat.div_eq_of_lt_le (by omega) (by omega)
      have hm := Nat.div_add_mod q (2 ^ fm f)
      rw [d] at hm ⊢
      rw [if_neg (by omega)]; omega
  · unfold lowestN
    rw [← m1]
    by_cases c : q < 2 ^ fm f
    · rw [Nat.div_eq_of_lt c]
      rcases hr with h' | h'
      · subst h'; rfl
      · omega
    · have d : q / 2 ^ fm f = 1 := Nat.div_eq_of_lt_le (by omega) (by omega)
      rw [d]; omega
theorem left_all (s : Nat) (d : Int) (more : Bool) (h : leftN s d more = 0) : more = false ∧ (d ≤ 0 ∨ s % 2 ^ d.toNat = 0) := by
  unfold leftN at h
  by_cases c : d ≤ 0 ∨ s % 2 ^ d.toNat = 0
  · rw [if_pos c] at h
    cases more
    · exact ⟨rfl, c⟩
    · exact absurd h (by decide)
  · rw [if_neg c] at h
    split at h
    · omega
    · split at h <;> omega
theorem sq_le {a b : Nat} (h : a ≤ b) : a * a ≤ b * b := Nat.mul_self_le_mul_self h
theorem sq_pow (q d : Nat) : q * q * 2 ^ (d + d) = (q * 2 ^ d) * (q * 2 ^ d) := by rw [Nat.pow_add, Nat.mul_mul_mul_comm]
/-- A number near one, its root downwards and upwards, and their squares. -/
theorem sides_all (f : Int) (e r : Nat) (he : oneN f - 2 ≤ e) (he' : e < oneN f + 2) (hr : r < 2 ^ fm f) : ∃ lo hi : Nat, ∃ inex : Bool, ∃ p q : Nat, lo < 4294967296 ∧ hi < 4294967296 ∧ clsN f lo < 3 ∧ clsN f hi < 3 ∧
    sqrtN f 1 (e * 2 ^ fm f + r + signN f false) = lo ∧ (sqrtX f 1 (e * 2 ^ fm f + r + signN f false)).2.2.2.2 = inex ∧ sqrtN f 2 (e * 2 ^ fm f + r + signN f false) = hi ∧
    packN f 1 (negN f lo != negN f lo) (lowestN f lo + lowestN f lo) (wholeN f lo * wholeN f lo) false = p ∧ packN f 2 (negN f hi != negN f hi) (lowestN f hi + lowestN f hi) (wholeN f hi * wholeN f hi) false = q ∧
    p < 4294967296 ∧ q < 4294967296 ∧ placeN f (lowN f p) ≤ ((e * 2 ^ fm f + r : Nat) : Int) ∧ ((e * 2 ^ fm f + r : Nat) : Int) ≤ placeN f (lowN f q) ∧ (if inex then hi = lo + 1 else hi = lo) := by
  obtain ⟨o1, o2, o3, o4⟩ := one_least f
  have hc := one_cases f
  have hb := fbounds f
  have hp := Nat.two_pow_pos (fm f)
  have hs2 : 2 ^ (fm f + 1) = 2 * 2 ^ fm f := by rw [Nat.pow_succ, Nat.mul_comm]
  have e14 : 13 ≤ oneN f - 2 := by rcases hc with ⟨c1, c2, c3, c4, c5⟩ | ⟨c1, c2, c3, c4, c5⟩ | ⟨c1, c2, c3, c4, c5⟩ <;> omega
  obtain ⟨a1, a2, a3, a4, a5, a6, a7, a8, a9⟩ := norm_all f false e r (by omega) (by omega) hr
  obtain ⟨k1, k2⟩ := lack_norm f _ r hr a8
  have hfin := norm_under f e r (by omega) hr
  generalize hx : e * 2 ^ fm f + r + signN f false = x at *
  have hw : wholeN f x ≠ 0 := by rw [a8]; omega
  obtain ⟨m1, m2, m3, v1, v2, v3⟩ := lift_bounds f x hw
  have hsq : ∀ mode, sqrtN f mode x = sideN f mode x ∧ sqrtX f mode x = (false, false, sideX f mode x) := by
    intro mode; unfold sqrtN sqrtX; rw [a7, a1]; simp
  obtain ⟨n1, n2⟩ := rootN_is (rootV f x) (by omega)
  have hs31 : rootN (rootV f x) < 2147483648 := by
    rcases Nat.lt_or_ge (rootN (rootV f x)) 2147483648 with c | c
    · exact c
    · have := sq_le c; omega
  have hlen : lenN (rootN (rootV f x)) = 31 := lenN_of _ 31 hs31 (.inr v3)
  unfold sideN sideX at hsq
  -- the value is V times 2 to twice the exponent
  have hV : ∀ mode, keyN f mode false (lowestN f x - (liftN f x : Int)) (rootV f x) false = e * 2 ^ fm f + r := by
    intro mode
    unfold rootV
    rw [key_scale, show lowestN f x - (liftN f x : Int) + (liftN f x : Int) = leastN f - fm f + ((e - 1 : Nat) : Int) - ((0 : Nat) : Int) by rw [a9]; omega, a8]
    have := exact_key f mode false (r + 2 ^ fm f) 0 (e - 1) (by omega) (.inr (by omega))
    rw [Nat.pow_zero, Nat.mul_one] at this
    rw [this]
    have : e * 2 ^ fm f = (e - 1) * 2 ^ fm f + 2 ^ fm f := by rw [← Nat.succ_mul]; congr 1; omega
    omega
  obtain ⟨E, hE⟩ : ∃ E : Int, (lowestN f x - (liftN f x : Int)) / 2 = E := ⟨_, rfl⟩
  have hE2 : lowestN f x - (liftN f x : Int) = E + E := by omega
  rw [hE2] at hV
  rw [hE] at hsq
  have hEb : -32 ≤ E ∧ E ≤ -30 := by rw [a9] at hE2; omega
  generalize rootV f x = V at *
  generalize rootN V = s at *
  generalize hmore : (!decide (s * s = V)) = more at *
  obtain ⟨R, hR⟩ : ∃ R, riseN f E s = R := ⟨_, rfl⟩
  have hRb : 1 ≤ R ∧ R + 1 ≤ oneN f ∧ (R : Int) = E + 30 - leastN f := by
    rw [← hR]; unfold riseN; rw [if_neg (by omega), hlen]; omega
  have hU : unitN f E s = leastN f - fm f + R := by unfold unitN; rw [hR]
  obtain ⟨d, hd⟩ : ∃ d : Nat, unitN f E s - E = (d : Int) := ⟨(unitN f E s - E).toNat, by rw [hU]; omega⟩
  have hd1 : 1 ≤ d := by rw [hU] at hd; omega
  obtain ⟨q1, q2⟩ := quo_bounds f E s
  rw [hd] at q1 q2
  have hq : quoN s (d : Int) = s / 2 ^ d := by unfold quoN; rw [if_neg (by omega), Int.toNat_natCast]
  rw [hq] at q1 q2
  have hq2 := q2 (by omega)
  have hdm := Nat.div_add_mod s (2 ^ d)
  have hml := Nat.mod_lt s (Nat.two_pow_pos d)
  rw [Nat.mul_comm] at hdm
  obtain ⟨up, hup⟩ : ∃ up : Bool, decide (leftN s (d : Int) more ≠ 0) = up := ⟨_, rfl⟩
  have kl : keyN f 1 false E s more = R * 2 ^ fm f + s / 2 ^ d := by
    unfold keyN; rw [hd, hR, hq, show upN 1 false (s / 2 ^ d) (leftN s (d : Int) more) = false from rfl]; simp
  have kh : keyN f 2 false E s more = R * 2 ^ fm f + (s / 2 ^ d + if up then 1 else 0) := by
    unfold keyN; rw [hd, hR, hq, show upN 2 false (s / 2 ^ d) (leftN s (d : Int) more) = up from by rw [← hup]; rfl, Nat.add_assoc]
  have hin : inexN f E s more = up := by unfold inexN; rw [hd]; exact hup
  have htop : R * 2 ^ fm f + 2 ^ (fm f + 1) < infK f := by
    have h1 := Nat.mul_le_mul_right (2 ^ fm f) (show R + 1 + 1 + 1 ≤ topN f by omega)
    rw [Nat.add_mul, Nat.add_mul, Nat.add_mul, Nat.one_mul] at h1
    unfold infK; omega
  have hup1 : (if up then 1 else 0 : Nat) ≤ 1 := by split <;> omega
  have plo : packN f 1 false E s more = R * 2 ^ fm f + s / 2 ^ d + signN f false := by
    rw [pack_cap, kl]; unfold capN; rw [if_neg (by omega)]
  have phi : packN f 2 false E s more = R * 2 ^ fm f + (s / 2 ^ d + if up then 1 else 0) + signN f false := by
    rw [pack_cap, kh]; unfold capN; rw [if_neg (by omega)]
  have xlo : (excN f 1 false E s more).2.2 = up := by
    unfold excN overN; rw [kl, decide_eq_false (by unfold infK at htop; omega)]; exact hin
  obtain ⟨w1, w2, w3, w4, w5, w6, w7⟩ := unit_whole f false R (s / 2 ^ d) q1 (.inr hq2) (by omega)
  -- the upper root: as whole units
  have hhi : ∃ g : Nat, wholeN f (R * 2 ^ fm f + (s / 2 ^ d + if up then 1 else 0) + signN f false) * 2 ^ g = s / 2 ^ d + (if up then 1 else 0) ∧ lowestN f (R * 2 ^ fm f + (s / 2 ^ d + if up then 1 else 0) + signN f false) = leastN f - fm f + R + g ∧
      expN f (R * 2 ^ fm f + (s / 2 ^ d + if up then 1 else 0) + signN f false) < topN f ∧ R * 2 ^ fm f + (s / 2 ^ d + if up then 1 else 0) + signN f false < 4294967296 := by
    by_cases c : s / 2 ^ d + (if up then 1 else 0) < 2 ^ (fm f + 1)
    · obtain ⟨y1, y2, y3, y4, y5, y6, y7⟩ := unit_whole f false R (s / 2 ^ d + if up then 1 else 0) c (.inr (by omega)) (by omega)
      exact ⟨0, by rw [y1]; simp, by rw [y2]; simp, y3, y5⟩
    · have eq : s / 2 ^ d + (if up then 1 else 0) = 2 ^ (fm f + 1) := by omega
      obtain ⟨y1, y2, y3, y4, y5, y6, y7⟩ := unit_whole f false (R + 1) (2 ^ fm f) (by omega) (.inr (Nat.le_refl _)) (by rw [Nat.add_mul]; omega)
      have e2 : (R + 1) * 2 ^ fm f + 2 ^ fm f = R * 2 ^ fm f + (s / 2 ^ d + if up then 1 else 0) := by rw [eq, Nat.add_mul]; omega
      rw [e2] at y1 y2 y3 y5
      exact ⟨1, by rw [y1, eq, Nat.pow_one, hs2, Nat.mul_comm], by rw [y2]; omega, y3, y5⟩
  obtain ⟨g, g1, g2, g3, g4⟩ := hhi
  have hlo3 : clsN f (R * 2 ^ fm f + s / 2 ^ d + signN f false) < 3 := (cls_finite f _).mpr w3
  have hhi3 : clsN f (R * 2 ^ fm f + (s / 2 ^ d + if up then 1 else 0) + signN f false) < 3 := (cls_finite f _).mpr g3
  have hbx : ∀ b : Bool, (b != b) = false := by intro b; cases b <;> rfl
  obtain ⟨i1, i2⟩ := infK_lt f
  have place : ∀ mode K, placeN f (lowN f (capN f mode false K + signN f false)) = (capN f mode false K : Int) ∧ capN f mode false K + signN f false < 4294967296 := by
    intro mode K
    have hcl := (cap_le f mode false K).1
    have h32 := pow_le32 (show fe f + fm f ≤ 32 by omega)
    refine ⟨?_, by rw [show signN f false = 0 from rfl]; omega⟩
    rw [place_sign f _ false (by omega)]; rfl
  have ka : keyN f 1 false (leastN f - fm f + R + (leastN f - fm f + R)) (s / 2 ^ d * (s / 2 ^ d)) false ≤ e * 2 ^ fm f + r := by
    have h1 := key_scale f 1 false (E + E) (s / 2 ^ d * (s / 2 ^ d)) (d + d)
    rw [show E + E + ((d + d : Nat) : Int) = leastN f - fm f + R + (leastN f - fm f + R) by rw [hU] at hd; omega] at h1
    rw [← h1, ← hV 1]
    refine key_mono f 1 false (E + E) ?_ (fun _ h => h)
    rw [sq_pow]
    exact Nat.le_trans (sq_le (by omega)) n1
  have kb : e * 2 ^ fm f + r ≤ keyN f 2 false (leastN f - fm f + R + (leastN f - fm f + R)) ((s / 2 ^ d + if up then 1 else 0) * (s / 2 ^ d + if up then 1 else 0)) false := by
    have h1 := key_scale f 2 false (E + E) ((s / 2 ^ d + if up then 1 else 0) * (s / 2 ^ d + if up then 1 else 0)) (d + d)
    rw [show E + E + ((d + d : Nat) : Int) = leastN f - fm f + R + (leastN f - fm f + R) by rw [hU] at hd; omega] at h1
    rw [← h1, ← hV 2]
    refine key_mono f 2 false (E + E) ?_ (fun _ h => h)
    rw [sq_pow]
    cases up
    · have hz : leftN s (d : Int) more = 0 := by
        rw [decide_eq_false_iff_not] at hup; omega
      obtain ⟨z1, z2⟩ := left_all _ _ _ hz
      rw [Int.toNat_natCast] at z2
      rw [z1] at hmore
      have hvs : s * s = V := by
        rw [Bool.not_eq_false'] at hmore; exact of_decide_eq_true hmore
      rw [← hvs]
      refine sq_le ?_
      rw [if_neg (by decide), Nat.add_zero]; omega
    · rw [if_pos rfl]
      refine Nat.le_trans (Nat.le_of_lt n2) (sq_le ?_)
      rw [Nat.add_mul, Nat.one_mul]; omega
  have hq' : packN f 2 (negN f (R * 2 ^ fm f + (s / 2 ^ d + if up then 1 else 0) + signN f false) != negN f (R * 2 ^ fm f + (s / 2 ^ d + if up then 1 else 0) + signN f false)) (lowestN f (R * 2 ^ fm f + (s / 2 ^ d + if up then 1 else 0) + signN f false) + lowestN f (R * 2 ^ fm f + (s / 2 ^ d + if up then 1 else 0) + signN f false)) (wholeN f (R * 2 ^ fm f + (s / 2 ^ d + if up then 1 else 0) + signN f false) * wholeN f (R * 2 ^ fm f + (s / 2 ^ d + if up then 1 else 0) + signN f false)) false =
      capN f 2 false (keyN f 2 false (leastN f - fm f + R + (leastN f - fm f + R)) ((s / 2 ^ d + if up then 1 else 0) * (s / 2 ^ d + if up then 1 else 0)) false) + signN f false := by
    rw [hbx, pack_cap]
    have h1 := key_scale f 2 false (leastN f - fm f + R + (leastN f - fm f + R)) (wholeN f (R * 2 ^ fm f + (s / 2 ^ d + if up then 1 else 0) + signN f false) * wholeN f (R * 2 ^ fm f + (s / 2 ^ d + if up then 1 else 0) + signN f false)) (g + g)
    rw [sq_pow, g1] at h1
    rw [h1, g2, show leastN f - (fm f : Int) + (R : Int) + (leastN f - (fm f : Int) + (R : Int)) + ((g + g : Nat) : Int) = leastN f - fm f + R + g + (leastN f - fm f + R + g) by omega]
  refine ⟨_, _, up, _, _, w5, g4, hlo3, hhi3, by rw [(hsq 1).1]; exact plo, by rw [(hsq 1).2]; exact xlo, by rw [(hsq 2).1]; exact phi, rfl, rfl, ?_, ?_, ?_, ?_, ?_⟩
  · rw [w1, w2, w7, hbx, pack_cap]; exact (place _ _).2
  · rw [hq']; exact (place _ _).2
  · rw [w1, w2, w7, hbx, pack_cap, (place _ _).1]
    have := (cap_le f 1 false (keyN f 1 false (leastN f - fm f + R + (leastN f - fm f + R)) (s / 2 ^ d * (s / 2 ^ d)) false)).2
    omega
  · rw [hq', (place _ _).1]
    generalize keyN f 2 false (leastN f - fm f + R + (leastN f - fm f + R)) ((s / 2 ^ d + if up then 1 else 0) * (s / 2 ^ d + if up then 1 else 0)) false = K at kb ⊢
    unfold capN
    by_cases o : infK f ≤ K
    · rw [if_pos o, if_pos (show endless 2 false = true from rfl)]; omega
    · rw [if_neg o]; omega
  · cases up
    · simp
    · simp; omega
end Go.Proofs.Ytngkpekmgahjiaa.Round

/- The reference's loops of layer 1: how many bits, shifts. -/
namespace Go.Proofs.Ytngkpekmgahjiaa.BitsF
open Go.RowKit Go.Proofs.Ytngkpekmgahjiaa.P Go.Proofs.Ytngkpekmgahjiaa.Num Go.Proofs.YtngkpekmgahjiaaW.PrintWords Go.Proofs.YtngkpekmgahjiaaW.PrintLast Go.Proofs.YtngkpekmgahjiaaW.PrintMore

/-! ### the reference's loops -/
theorem ref_len_l0 (j : Nat) : ∀ v c k : Nat, v < 2 ^ j → c + j ≤ 64 → annealref1_Len.l0 (j + 1 + k) (v : Int) (c : Int) = some ((c + lenN v : Nat) : Int) := by
  induction j with
  | zero =>
    intro v c k h _
    obtain rfl : v = 0 := by rw [Nat.pow_zero] at h; omega
    rw [show 0 + 1 + k = k + 1 by omega, annealref1_Len.l0, if_neg (by decide)]; rfl
  | succ j ih =>
    intro v c k h hc
    rw [show j + 1 + 1 + k = (j + 1 + k) + 1 by omega, annealref1_Len.l0]
    by_cases hv : v = 0
    · subst hv; rw [if_neg (by decide)]; rfl
    · rw [if_pos (by omega), show (v : Int) / 2 = ((v / 2 : Nat) : Int) by omega, w64_id _ (by omega) (by omega), show (c : Int) + 1 = ((c + 1 : Nat) : Int) by omega, ih _ _ k (by rw [Nat.pow_succ] at h; omega) (by omega), lenN_half v hv]
      congr 2; omega
theorem ref_len_ev (v : Nat) (hv : v < 18446744073709551616) : Ev (fun k => annealref1_Len.f k (v : Int)) (lenN v : Int) :=
  Ev.of (annealref1_Len.mono _) (k := 65) (by
    have h := ref_len_l0 64 v 0 0 (by omega) (by decide)
    rw [Nat.zero_add, show 64 + 1 + 0 = 65 from rfl] at h
    unfold annealref1_Len.f
    exact h)
theorem half_pow (v j : Nat) : v / 2 / 2 ^ j = v / 2 ^ (j + 1) := by rw [Nat.div_div_eq_div_mul, Nat.pow_succ, Nat.mul_comm 2]
theorem out_right (v j : Nat) : (decide (v % 2 ≠ 0) || decide (v / 2 % 2 ^ j ≠ 0)) = decide (v % 2 ^ (j + 1) ≠ 0) := by
  have e : v % 2 ^ (j + 1) = v % 2 + 2 * (v / 2 % 2 ^ j) := by rw [Nat.pow_succ, Nat.mul_comm, Nat.mod_mul]
  rw [← Bool.decide_or]
  congr 1; apply propext
  have hz : ∀ z : Nat, v / 2 % 2 ^ j = z → (v % 2 ≠ 0 ∨ z ≠ 0 ↔ v % 2 + 2 * z ≠ 0) := by intro z _; omega
  rw [e]; exact hz _ rfl
theorem ref_shift_l1 (j : Nat) : ∀ (v k : Nat) (b : Bool), v < 18446744073709551616 → j ≤ 64 →
    annealref1_Shift.l1 (j + 1 + k) (v : Int) (-(j : Int)) b = some (((v * 2 ^ j % 18446744073709551616 : Nat) : Int), b || decide (18446744073709551616 ≤ v * 2 ^ j)) := by
  induction j with
  | zero =>
    intro v k b hv _
    rw [show 0 + 1 + k = k + 1 by omega, annealref1_Shift.l1, if_neg (by decide), Nat.pow_zero, Nat.mul_one, Nat.mod_eq_of_lt hv, decide_eq_false (by omega), Bool.or_false]
  | succ j ih =>
    intro v k b hv hj
    have e1 : wrap64 (-((j + 1 : Nat) : Int) + 1) = -(j : Int) := by rw [w64_id] <;> omega
    have e2 : IntKind.u64.wrap ((v : Int) * 2) = ((v * 2 % 18446744073709551616 : Nat) : Int) := by rw [show (v : Int) * 2 = ((v * 2 : Nat) : Int) by omega, u64_nat]
    have e3 : (((v : Int) / 9223372036854775808 == 1) : Bool) = decide (9223372036854775808 ≤ v) := by
      by_cases h : 9223372036854775808 ≤ v
      · rw [decide_eq_true h, beq_iff_eq]; omega
      · rw [decide_eq_false h, beq_eq_false_iff_ne]; omega
    have e4 : v * 2 % 18446744073709551616 * 2 ^ j % 18446744073709551616 = v * 2 ^ (j + 1) % 18446744073709551616 := by
      rw [Nat.mod_mul_mod, Nat.mul_assoc, ← Nat.pow_succ']
    have e5 : ∀ b : Bool, ((b || decide (9223372036854775808 ≤ v)) || decide (18446744073709551616 ≤ v * 2 % 18446744073709551616 * 2 ^ j)) = (b || decide (18446744073709551616 ≤ v * 2 ^ (j + 1))) := by
      intro b
      rw [Bool.or_assoc, ← Bool.decide_or]
      congr 2
      apply propext
      rw [show v * 2 ^ (j + 1) = v * 2 * 2 ^ j by rw [Nat.mul_assoc, ← Nat.pow_succ']]
      have hp := Nat.two_pow_pos j
      constructor
      · rintro (h | h)
        · calc 18446744073709551616 ≤ v * 2 * 1 := by omega
            _ ≤ v * 2 * 2 ^ j := Nat.mul_le_mul_left _ hp
        · exact Nat.le_trans h (Nat.mul_le_mul_right _ (Nat.mod_le _ _))
      · intro h
        by_cases h' : 9223372036854775808 ≤ v
        · exact .inl h'
        · right; rw [Nat.mod_eq_of_lt (by omega)]; exact h
    rw [show j + 1 + 1 + k = (j + 1 + k) + 1 by omega, annealref1_Shift.l1, if_pos (by omega), e1, e2, e3]
    by_cases hb : b = true
    · subst hb
      rw [if_pos rfl, ih _ k true (Nat.mod_lt _ (by decide)) (by omega), e4]
      simp only [Bool.true_or]
    · rw [if_neg hb, ih _ k _ (Nat.mod_lt _ (by decide)) (by omega), e4]
      have : b = false := by simpa using hb
      subst this
      have := e5 false
      simp only [Bool.false_or] at this ⊢
      rw [this]
theorem ref_shift_l0 (j : Nat) : ∀ (v k : Nat) (b : Bool), v < 18446744073709551616 → j ≤ 64 →
    annealref1_Shift.l0 (j + 2 + k) (v : Int) (j : Int) b = some (((v / 2 ^ j : Nat) : Int), b || decide (v % 2 ^ j ≠ 0)) := by
  induction j with
  | zero =>
    intro v k b hv _
    have h := ref_shift_l1 0 v k b hv (by decide)
    rw [show 0 + 2 + k = (0 + 1 + k) + 1 by omega, annealref1_Shift.l0, if_neg (by decide), show ((0 : Nat) : Int) = -((0 : Nat) : Int) by rfl, h]
    simp [Nat.mod_one]; omega
  | succ j ih =>
    intro v k b hv hj
    have e1 : wrap64 (((j + 1 : Nat) : Int) - 1) = (j : Int) := by rw [w64_id] <;> omega
    have e3 : ((Go.bits .and .u64 (v : Int) 1 == 1) : Bool) = decide (v % 2 ≠ 0) := by
      rw [and1_u64 v hv]
      by_cases h : v % 2 ≠ 0
      · rw [decide_eq_true h, beq_iff_eq]; omega
      · rw [decide_eq_false h, beq_eq_false_iff_ne]; omega
    rw [show j + 1 + 2 + k = (j + 2 + k) + 1 by omega, annealref1_Shift.l0, if_pos (by omega), e1, e3, show (v : Int) / 2 = ((v / 2 : Nat) : Int) by omega]
    have o := out_right v j
    by_cases hb : b = true
    · subst hb
      rw [if_pos rfl, ih _ k true (by omega) (by omega), half_pow]
      simp only [Bool.true_or]
    · rw [if_neg hb, ih _ k _ (by omega) (by omega), half_pow, o]
      have : b = false := by simpa using hb
      subst this
      rfl
theorem ref_shift_ev (v : Nat) (hv : v < 18446744073709551616) (n : Int) :
    Ev (fun k => annealref1_Shift.f k (v : Int) n) ((((shiftN v n).1 : Nat) : Int), (shiftN v n).2) := by
  refine Ev.of (annealref1_Shift.mono _ _) (k := 67) ?_
  unfold annealref1_Shift.f
  by_cases c : 0 ≤ n
  · obtain ⟨m, rfl⟩ := nat_of c
    have e : mn (mx (m : Int) (-64)) 64 = ((min m 64 : Nat) : Int) := by unfold mn mx; split <;> split <;> omega
    have h := ref_shift_l0 (min m 64) v (65 - min m 64) false hv (by omega)
    rw [show min m 64 + 2 + (65 - min m 64) = 67 by omega] at h
    rw [e, h, shiftN_right]
    by_cases c' : m ≤ 64
    · rw [Nat.min_eq_left c']; rfl
    · have b1 := pow_big (show 64 ≤ m by omega)
      rw [Nat.min_eq_right (by omega), Nat.div_eq_of_lt (show v < 2 ^ 64 by omega), Nat.mod_eq_of_lt (show v < 2 ^ 64 by omega), Nat.div_eq_of_lt (show v < 2 ^ m by omega), Nat.mod_eq_of_lt (show v < 2 ^ m by omega)]; rfl
  · obtain ⟨m, hm⟩ := nat_of (show 0 ≤ -n by omega)
    obtain rfl : n = -(m : Int) := by omega
    have e : mn (mx (-(m : Int)) (-64)) 64 = -((min m 64 : Nat) : Int) := by unfold mn mx; split <;> split <;> omega
    have h := ref_shift_l1 (min m 64) v (65 - min m 64) false hv (by omega)
    rw [show min m 64 + 1 + (65 - min m 64) = 66 by omega] at h
    rw [e, annealref1_Shift.l0, if_neg (by omega), h, shiftN_left _ _ hv]
    by_cases c' : m ≤ 64
    · rw [Nat.min_eq_left c']; rfl
    · rw [Nat.min_eq_right (by omega)]
      have b1 := pow_big (show 64 ≤ m by omega)
      have e : (2 : Nat) ^ m = 18446744073709551616 * 2 ^ (m - 64) := by rw [show 18446744073709551616 = 2 ^ 64 from rfl, ← Nat.pow_add]; congr 1; omega
      have e1 : v * 2 ^ m % 18446744073709551616 = 0 := by rw [e, ← Nat.mul_assoc, Nat.mul_comm v, Nat.mul_assoc, Nat.mul_mod_right]
      rw [e1, show v * 2 ^ 64 % 18446744073709551616 = 0 by omega, Bool.false_or]
      congr 2
      apply decide_eq_decide.mpr
      constructor
      · intro h1
        have : v ≠ 0 := by intro h0; subst h0; omega
        exact Nat.le_trans b1 (Nat.le_mul_of_pos_left _ (by omega))
      · intro h1
        have : v ≠ 0 := by intro h0; subst h0; omega
        omega
end Go.Proofs.Ytngkpekmgahjiaa.BitsF

/- What the reference's rounding computes: the same plain numbers. -/
namespace Go.Proofs.Ytngkpekmgahjiaa.Round
open Go.RowKit Go.Proofs.Ytngkpekmgahjiaa.P Go.Proofs.Ytngkpekmgahjiaa.Num Go.Proofs.Ytngkpekmgahjiaa.BitsF Go.Proofs.Ytngkpekmgahjiaa.Fmt Go.Proofs.YtngkpekmgahjiaaW.PrintWords Go.Proofs.YtngkpekmgahjiaaW.PrintLast Go.Proofs.YtngkpekmgahjiaaW.PrintMore

theorem ref_greatest_f (f : Int) (neg : Bool) : annealref1_Greatest.f f neg = some (greatN f neg : Int) := by
  unfold annealref1_Greatest.f greatN
  obtain ⟨hi, _⟩ := inf_lt f neg
  have ht := top_cases f
  have hp := Nat.two_pow_pos (fm f)
  have : 0 < topN f * 2 ^ fm f := Nat.mul_pos (by omega) hp
  rw [ref_inf_f]; simp only [Option.bind_some]
  unfold infN at *
  congr 1; omega
theorem ref_divide_f (s : Nat) (hs : s < 18446744073709551616) (d : Int) (h1 : -100000 ≤ d) (h2 : d ≤ 100000) (hq : d ≤ 0 → s * 2 ^ (-d).toNat < 18446744073709551616) :
    Ev (fun k => annealref1_divide.f k (s : Int) d) ((quoN s d : Int), decide (2 ≤ leftN s d false), decide (leftN s d false = 1 ∨ leftN s d false = 3)) := by
  unfold annealref1_divide.f
  by_cases c : d ≤ 0
  · obtain ⟨m, hm⟩ := nat_of (show 0 ≤ -d by omega)
    have e : mn (wrap64 (-d)) 63 = ((min m 63 : Nat) : Int) := by rw [w64_id _ (by omega) (by omega), hm]; unfold mn; split <;> omega
    simp only [if_pos c, e, if_pos (show 0 ≤ ((min m 63 : Nat) : Int) by omega), left_none false (.inl c)]
    have hq' := hq c
    rw [hm, Int.toNat_natCast] at hq'
    have e2 : IntKind.u64.wrap ((s : Int) * 2 ^ ((min m 63 : Nat) : Int).toNat) = (quoN s d : Int) := by
      rw [Int.toNat_natCast, show (s : Int) * 2 ^ (min m 63) = ((s * 2 ^ (min m 63) : Nat) : Int) by simp, u64_nat]
      unfold quoN; rw [if_pos c, hm, Int.toNat_natCast]
      by_cases z : s = 0
      · subst z; simp
      · have : m ≤ 63 := by
          rcases Nat.lt_or_ge 63 m with h | h
          · have := pow_big (show 64 ≤ m by omega)
            have : 2 ^ m ≤ s * 2 ^ m := Nat.le_mul_of_pos_left _ (by omega)
            omega
          · exact h
        rw [Nat.min_eq_left this, Nat.mod_eq_of_lt hq']
    rw [e2]
    exact Ev.now _
  · obtain ⟨m, rfl⟩ := nat_of (show 0 ≤ d by omega)
    have hqe : quoN s (m : Int) = s / 2 ^ m := by unfold quoN; rw [if_neg c, Int.toNat_natCast]
    rw [hqe]
    simp only [if_neg c]
    by_cases c' : (m : Int) > 64
    · simp only [if_pos c']
      have hb := pow_big (show 64 ≤ m - 1 by omega)
      have hb2 := pow_big (show 64 ≤ m by omega)
      have hl : leftN s (m : Int) false = if s = 0 then 0 else 1 := by
        by_cases z : s = 0
        · subst z; rw [left_none _ (.inr (by simp))]; rfl
        · rw [left_some _ c (by rw [Int.toNat_natCast, Nat.mod_eq_of_lt (by omega)]; exact z), Int.toNat_natCast, Nat.div_eq_of_lt (show s < 2 ^ (m - 1) by omega), if_neg z]; rfl
      rw [Nat.div_eq_of_lt (show s < 2 ^ m by omega), hl, show (0 : Int) = ((0 : Nat) : Int) from rfl, bne_cast]
      by_cases z : s = 0
      · subst z; exact Ev.now _
      · rw [if_neg z, decide_eq_true z]; exact Ev.now _
    · have e : wrap64 ((m : Int) - 1) = ((m - 1 : Nat) : Int) := by rw [w64_id] <;> omega
      simp only [if_neg c', e]
      have hd : s / 2 ^ (m - 1) < 18446744073709551616 := Nat.lt_of_le_of_lt (Nat.div_le_self _ _) hs
      have s1 := ref_shift_ev s hs (m : Int)
      have s2 := ref_shift_ev s hs ((m - 1 : Nat) : Int)
      rw [shiftN_right] at s1 s2
      refine Ev.bind s1 (Ev.bind s2 (Ev.bind s2 ?_))
      rw [and1_u64 _ hd]
      have em : s % 2 ^ m = s % 2 ^ (m - 1) + 2 ^ (m - 1) * (s / 2 ^ (m - 1) % 2) := by
        rw [show m = m - 1 + 1 by omega, Nat.pow_succ, Nat.mod_mul, Nat.add_sub_cancel]
      have hb1 : (((s / 2 ^ (m - 1) % 2 : Nat) : Int) == 1) = decide (2 ≤ leftN s (m : Int) false) ∧ decide (s % 2 ^ (m - 1) ≠ 0) = decide (leftN s (m : Int) false = 1 ∨ leftN s (m : Int) false = 3) := by
        have hp := Nat.two_pow_pos (m - 1)
        by_cases z : s % 2 ^ m = 0
        · rw [left_none _ (.inr (by rw [Int.toNat_natCast]; exact z))]
          rw [z] at em
          have z1 : s % 2 ^ (m - 1) = 0 := by omega
          have z2 : s / 2 ^ (m - 1) % 2 = 0 := by
            have : 2 ^ (m - 1) * (s / 2 ^ (m - 1) % 2) = 0 := by omega
            rcases Nat.mul_eq_zero.mp this with h | h
            · omega
            · exact h
          rw [z1, z2]; exact ⟨rfl, rfl⟩
        · rw [left_some _ c (by rw [Int.toNat_natCast]; exact z), Int.toNat_natCast]
          have hb : s / 2 ^ (m - 1) % 2 = 0 ∨ s / 2 ^ (m - 1) % 2 = 1 := by omega
          rcases hb with hb | hb
          · rw [hb, Nat.mul_zero, Nat.add_zero] at em
            rw [em] at z
            rw [hb, decide_eq_true z]; exact ⟨rfl, rfl⟩
          · rw [hb, if_neg (by decide)]
            by_cases w : s % 2 ^ (m - 1) = 0
            · rw [w]; exact ⟨rfl, rfl⟩
            · rw [if_pos (.inl w), decide_eq_true w]; exact ⟨rfl, rfl⟩
      simp only [hb1.1, hb1.2]
      exact Ev.now _
theorem left_more (s : Nat) (d : Int) : decide (2 ≤ leftN s d true) = decide (2 ≤ leftN s d false) ∧ (leftN s d true = 1 ∨ leftN s d true = 3) := by
  by_cases c : d ≤ 0 ∨ s % 2 ^ d.toNat = 0
  · rw [left_none _ c, left_none _ c]; simp
  · have c' := not_or.mp c
    rw [left_some _ c'.1 c'.2, left_some _ c'.1 c'.2]
    split
    · simp
    · simp; split <;> simp
theorem ref_up_f (mode : Int) (neg : Bool) (q left : Nat) (h : left ≤ 3) : annealref1_up.f mode neg (decide (q % 2 = 1)) (decide (2 ≤ left)) (decide (left = 1 ∨ left = 3)) = some (upN mode neg q left) := by
  unfold annealref1_up.f upN
  have hl : left = 0 ∨ left = 1 ∨ left = 2 ∨ left = 3 := by omega
  by_cases m1 : mode = 1
  · rw [if_pos m1, if_pos m1]
  · rw [if_neg m1, if_neg m1]
    by_cases m2 : mode = 2
    · rw [if_pos m2, if_pos m2]; rcases hl with rfl | rfl | rfl | rfl <;> cases neg <;> rfl
    · rw [if_neg m2, if_neg m2]
      by_cases m3 : mode = 3
      · rw [if_pos m3, if_pos m3]; rcases hl with rfl | rfl | rfl | rfl <;> cases neg <;> rfl
      · rw [if_neg m3, if_neg m3]
        by_cases m4 : mode = 4
        · rw [if_pos m4, if_pos m4]
        · rw [if_neg m4, if_neg m4]
          rcases hl with rfl | rfl | rfl | rfl <;> simp
theorem ref_over_f (k : Nat) (f mode : Int) (neg : Bool) : annealref1_over.f (k + 1) f mode neg = some (((if endless mode neg then infN f neg else greatN f neg : Nat) : Int)) := by
  unfold annealref1_over.f endless
  simp only [annealref1_over.j0, ref_greatest_f, ref_inf_f, Option.bind_some]
  by_cases m1 : mode = 1
  · rw [if_pos m1, if_pos m1]; rfl
  · rw [if_neg m1, if_neg m1]
    by_cases m2 : mode = 2
    · rw [if_pos m2, if_pos m2]; subst m2; cases neg <;> rfl
    · rw [if_neg m2, if_neg m2]
      by_cases m3 : mode = 3
      · rw [if_pos m3, if_pos m3]; cases neg <;> rfl
      · rw [if_neg m3, if_neg m3]; rfl
end Go.Proofs.Ytngkpekmgahjiaa.Round

/- The reference's rounding computes the same numbers as the program's. -/
namespace Go.Proofs.Ytngkpekmgahjiaa.Round
open Go.RowKit Go.Proofs.Ytngkpekmgahjiaa.P Go.Proofs.Ytngkpekmgahjiaa.Num Go.Proofs.Ytngkpekmgahjiaa.BitsF Go.Proofs.Ytngkpekmgahjiaa.Fmt Go.Proofs.YtngkpekmgahjiaaW.PrintWords Go.Proofs.YtngkpekmgahjiaaW.PrintLast Go.Proofs.YtngkpekmgahjiaaW.PrintMore

/-- A sign beside an amount. -/
theorem sign_or (f : Int) (neg : Bool) (v : Nat) (h : v < 2 ^ (fe f + fm f)) : Go.bits .or .u32 (signN f neg : Int) (v : Int) = ((v + signN f neg : Nat) : Int) ∧ v + signN f neg < 4294967296 := by
  obtain ⟨b1, b2, b3, b4, b5⟩ := fbounds f
  have h31 := pow_le31 b5
  unfold signN
  cases neg
  · simp only [Bool.false_eq_true, if_false]
    rw [or_u32 _ _ (by omega) (by omega), Nat.zero_or, Nat.add_zero]; exact ⟨rfl, by omega⟩
  · simp only [if_true]
    rw [or_u32 _ _ (by omega) (by omega), or_add _ _ (fe f + fm f) (by simp) h, Nat.add_comm]; exact ⟨rfl, by omega⟩
theorem ref_pack_j5 (k : Nat) (f mode : Int) (neg : Bool) (q U : Nat) (hU : U ≤ 10300) (hq : q < 2 ^ (fm f + 1)) (hq' : U ≠ 0 → 2 ^ fm f ≤ q) (K : Nat) (hK : K = U * 2 ^ fm f + q) (c0 c1 c2 c3 c4 : Bool) :
    annealref1_Pack.j5 (k + 2) f mode neg (fm f : Int) (leastN f - fm f + U) (q : Int) c0 c1 c2 c3 c4 = some
      ((((if overN f K then (if endless mode neg then topN f * 2 ^ fm f else topN f * 2 ^ fm f - 1) else K) + signN f neg : Nat) : Int),
        if overN f K then (false, false, true, false, true) else (c0, c1, c2, c3, c4)) ∧
    annealref1_Pack.j6 (k + 2) f mode neg (fm f : Int) (leastN f - fm f + U) (q : Int) c0 c1 c2 c3 c4 = some
      ((((if overN f K then (if endless mode neg then topN f * 2 ^ fm f else topN f * 2 ^ fm f - 1) else K) + signN f neg : Nat) : Int),
        if overN f K then (false, false, true, false, true) else (c0, c1, c2, c3, c4)) := by
  obtain ⟨b1, b2, b3, b4, b5⟩ := fbounds f
  have hl := least_cases f
  have hp := Nat.two_pow_pos (fm f)
  have hpe := Nat.two_pow_pos (fe f)
  have h31 := pow_le31 (show fm f + 1 ≤ 31 by omega)
  have h8 := pow_le31 (show fe f ≤ 31 by omega)
  have hsucc : 2 ^ (fm f + 1) = 2 * 2 ^ fm f := by rw [Nat.pow_succ, Nat.mul_comm]
  have ht := top_cases f
  obtain ⟨_, hte⟩ := inf_lt f neg
  have e1 : shl .u64 1 (fm f : Int) = ((2 ^ fm f : Nat) : Int) := by rw [show (1 : Int) = ((1 : Nat) : Int) from rfl, shl_u64, Nat.one_mul, Nat.mod_eq_of_lt (by omega)]
  have e2 : wrap64 (wrap64 (leastN f - (fm f : Int) + (U : Int) + (fm f : Int)) + (1 - leastN f)) = ((U + 1 : Nat) : Int) := by
    rw [w64_id (leastN f - (fm f : Int) + (U : Int) + (fm f : Int)) (by omega) (by omega), w64_id _ (by omega) (by omega)]; omega
  have e3 : wrap64 (shl .i64 1 (fe f : Int) - 1) = ((topN f : Nat) : Int) := by
    rw [one_shl_i64 _ (by omega), w64_id _ (by omega) (by omega)]; unfold topN; omega
  rw [annealref1_Pack.j5, annealref1_Pack.j6, if_pos (by omega), e1, ref_bias_f, ref_widths_f, ref_sign_f]
  simp only [Option.bind_some]
  rw [if_pos (show (0 : Int) ≤ (fe f : Int) by omega), e2, e3, ref_over_f]
  simp only [Option.bind_some]
  by_cases c : q < 2 ^ fm f
  · have hU0 : U = 0 := by
      rcases Nat.eq_zero_or_pos U with h | h
      · exact h
      · have := hq' (by omega); omega
    have ho : overN f K = false := by
      unfold overN
      rw [decide_eq_false_iff_not, hK, hU0]
      have : 1 * 2 ^ fm f ≤ topN f * 2 ^ fm f := Nat.mul_le_mul_right _ (by omega)
      omega
    obtain ⟨s1, s2⟩ := sign_or f neg q (by omega)
    rw [if_pos (show (q : Int) < ((2 ^ fm f : Nat) : Int) by omega), show (q : Int) % 4294967296 = (q : Int) by omega, s1, ho, hK, hU0]
    simp
  · rw [if_neg (show ¬ (q : Int) < ((2 ^ fm f : Nat) : Int) by omega)]
    have ho : ((U + 1 : Nat) : Int) ≥ (topN f : Int) ↔ overN f K = true := by
      unfold overN
      rw [decide_eq_true_iff, hK]
      constructor
      · intro h
        have : topN f * 2 ^ fm f ≤ (U + 1) * 2 ^ fm f := Nat.mul_le_mul_right _ (by omega)
        rw [Nat.add_mul, Nat.one_mul] at this; omega
      · intro h
        rcases Nat.lt_or_ge (U + 1) (topN f) with d | d
        · have : (U + 1 + 1) * 2 ^ fm f ≤ topN f * 2 ^ fm f := Nat.mul_le_mul_right _ d
          rw [Nat.add_mul, Nat.add_mul, Nat.one_mul] at this; omega
        · omega
    by_cases c' : ((U + 1 : Nat) : Int) ≥ (topN f : Int)
    · rw [if_pos c', ho.mp c']
      simp only [if_true]
      have : (if endless mode neg then infN f neg else greatN f neg) = (if endless mode neg then topN f * 2 ^ fm f else topN f * 2 ^ fm f - 1) + signN f neg := by
        unfold infN greatN; split <;> rfl
      rw [this]
      exact ⟨rfl, rfl⟩
    · rw [if_neg c']
      have co : overN f K = false := by simpa using fun h => c' (ho.mpr h)
      have hmul : (U + 1) * 2 ^ fm f + 2 ^ fm f ≤ 2 ^ (fe f + fm f) := by
        have : (U + 1) * 2 ^ fm f ≤ topN f * 2 ^ fm f := Nat.mul_le_mul_right _ (by omega)
        omega
      have h32 := pow_le31 b5
      have hm1 : q % 2 ^ fm f = q - 2 ^ fm f := by
        have h1 : q / 2 ^ fm f = 1 := Nat.div_eq_of_lt_le (by omega) (by omega)
        have := Nat.div_add_mod q (2 ^ fm f)
        rw [h1, Nat.mul_one] at this; omega
      have e4 : shl .u32 (((U + 1 : Nat) : Int) % 4294967296) (fm f : Int) = (((U + 1) * 2 ^ fm f : Nat) : Int) := by
        rw [show ((U + 1 : Nat) : Int) % 4294967296 = ((U + 1 : Nat) : Int) by omega, shl_u32, Nat.mod_eq_of_lt (by omega)]
      have e5 : Go.bits .and .u64 (q : Int) (IntKind.u64.wrap (((2 ^ fm f : Nat) : Int) - 1)) % 4294967296 = ((q % 2 ^ fm f : Nat) : Int) := by
        rw [show ((2 ^ fm f : Nat) : Int) - 1 = ((2 ^ fm f - 1 : Nat) : Int) by omega, u64_id _ (by omega), mask_u64 _ _ (by omega) (by omega)]
        have := Nat.mod_lt q hp; omega
      have hKe : K + signN f neg = (U + 1) * 2 ^ fm f + signN f neg + q % 2 ^ fm f := by
        rw [hK, hm1, Nat.add_mul]; omega
      obtain ⟨s1, s2⟩ := sign_or f neg ((U + 1) * 2 ^ fm f) (by omega)
      have hq2 : q % 2 ^ fm f < 2 ^ fm f := Nat.mod_lt _ hp
      have e6 : Go.bits .or .u32 (((U + 1) * 2 ^ fm f + signN f neg : Nat) : Int) ((q % 2 ^ fm f : Nat) : Int) = (((U + 1) * 2 ^ fm f + signN f neg + q % 2 ^ fm f : Nat) : Int) := by
        rw [or_u32 _ _ s2 (by omega), or_add _ _ (fm f) ?_ hq2]
        unfold signN
        cases neg
        · simp
        · simp only [if_true]
          rw [Nat.pow_add, ← Nat.add_mul, Nat.mul_mod_left]
      rw [e4, s1, e5, e6, co]
      simp only [Bool.false_eq_true, if_false, hKe]
      exact ⟨trivial, trivial⟩
theorem step_ew (f : Int) : wrap64 ((fm f : Int) + 1) = ((fm f + 1 : Nat) : Int) := by
  obtain ⟨b1, b2, b3, b4, b5⟩ := fbounds f
  rw [w64_id] <;> omega
theorem step_es (f : Int) : shl .u64 1 ((fm f + 1 : Nat) : Int) = ((2 ^ (fm f + 1) : Nat) : Int) := by
  obtain ⟨b1, b2, b3, b4, b5⟩ := fbounds f
  have h31 := pow_le31 (show fm f + 1 ≤ 31 by omega)
  rw [show (1 : Int) = ((1 : Nat) : Int) from rfl, shl_u64, Nat.one_mul, Nat.mod_eq_of_lt (by omega)]
theorem step_e8 (f : Int) (U : Nat) (h : U ≤ 10200) : wrap64 (leastN f - (fm f : Int) + (U : Int) + 1) = leastN f - (fm f : Int) + ((U + 1 : Nat) : Int) := by
  obtain ⟨b1, b2, b3, b4, b5⟩ := fbounds f
  have hl := least_cases f
  rw [w64_id] <;> omega
theorem step_e9 (f : Int) : (((2 ^ (fm f + 1) : Nat) : Int)) / 2 = ((2 ^ fm f : Nat) : Int) := by
  have hsucc : 2 ^ (fm f + 1) = 2 * 2 ^ fm f := by rw [Nat.pow_succ, Nat.mul_comm]
  omega
theorem step_lt (f : Int) : 2 ^ fm f < 2 ^ (fm f + 1) := Nat.pow_lt_pow_right (by decide) (Nat.lt_succ_self _)
theorem step_key (U m q : Nat) (h : q = 2 * m) : (U + 1) * m + m = U * m + q := by rw [Nat.add_mul]; omega
theorem step_q {a b : Nat} (h : a ≤ b) (h' : ¬ a = b) : a < b := by omega
theorem step_i {a b : Nat} (h' : ¬ a = b) : ¬ ((a : Int) = (b : Int)) := by omega
theorem step_n {m : Nat} : (0 : Int) ≤ (m : Int) := by omega
theorem ref_pack_ev (f mode : Int) (neg : Bool) (x : Int) (s : Nat) (more : Bool) (hs : s < 18446744073709551616) :
    Ev (fun k => annealref1_Pack.f k f mode neg x (s : Int) more) ((packN f mode neg (clampE x) s more : Int), false, false, excN f mode neg (clampE x) s more) := by
  unfold annealref1_Pack.f
  have hc : mn (mx x (-10000)) 10000 = clampE x := rfl
  obtain ⟨h1, h2⟩ := clampE_bounds x
  rw [hc]
  generalize clampE x = x at *
  have hll := left_le s (unitN f x s - x) more
  by_cases z : s = 0 ∧ more = false
  · obtain ⟨rfl, rfl⟩ := z
    simp only [if_pos (show ((0 : Nat) : Int) = 0 from rfl)]
    refine Ev.step (fun k => by rw [annealref1_Pack.j0]) ?_
    simp only [Bool.not_false, if_true, ref_zero_f, Option.bind_some]
    have h := pack_f 0 f mode neg x 0 false (by decide)
    rw [clampE_id x h1 h2] at h
    unfold round_Pack.f at h
    rw [if_pos (by rfl), show mn (mx x (-10000)) 10000 = x from clampE_id x h1 h2, round_Pack.j0] at h
    simp only [Bool.not_false, if_true, zero_f, Option.bind_some] at h
    rw [← Option.some.inj h]
    exact Ev.now _
  · have hj : ∀ k, (if (s : Int) = 0 then annealref1_Pack.j0 k f mode neg x (s : Int) more (!more) else annealref1_Pack.j0 k f mode neg x (s : Int) more false) = annealref1_Pack.j0 k f mode neg x (s : Int) more false := by
      intro k
      by_cases c : (s : Int) = 0
      · rw [if_pos c]
        cases more
        · exact absurd ⟨by omega, rfl⟩ z
        · rfl
      · rw [if_neg c]
    refine Ev.congr hj ?_
    obtain ⟨u1, u2, u3⟩ := unit_bounds f x s hs h1 h2
    obtain ⟨q1, q2⟩ := quo_bounds f x s
    obtain ⟨b1, b2, b3, b4, b5⟩ := fbounds f
    have hl := least_cases f
    have hn := lenN_small s hs
    have h31 := pow_le31 (show fm f + 1 ≤ 31 by omega)
    have hp := Nat.two_pow_pos (fm f)
    have hsucc : 2 ^ (fm f + 1) = 2 * 2 ^ fm f := by rw [Nat.pow_succ, Nat.mul_comm]
    have hq64 : quoN s (unitN f x s - x) < 18446744073709551616 := by omega
    have hd : unitN f x s - x ≤ 0 → s * 2 ^ (-(unitN f x s - x)).toNat < 18446744073709551616 := by
      intro h; have := hq64; unfold quoN at this; rw [if_pos h] at this; exact this
    -- the exponent that the reference takes
    have hE : ∃ e : Int, (∀ k, (if (s : Int) = 0 then annealref1_Pack.j1 k f mode neg x (s : Int) more (fm f : Int) (leastN f) (-20000) else annealref1_Pack.j1 k f mode neg x (s : Int) more (fm f : Int) (leastN f) (wrap64 (wrap64 (x + (lenN s : Int)) - 1))) = annealref1_Pack.j1 k f mode neg x (s : Int) more (fm f : Int) (leastN f) e) ∧ wrap64 (mx e (leastN f) - (fm f : Int)) = unitN f x s ∧ (decide (e < leastN f) = (decide (s = 0) || decide (x + lenN s - 1 < leastN f))) := by
      by_cases c : s = 0
      · subst c
        refine ⟨-20000, fun k => by rw [if_pos (show ((0 : Nat) : Int) = 0 from rfl)], ?_, ?_⟩
        · have : riseN f x 0 = 0 := by unfold riseN; rw [if_pos rfl]
          have hm : mx (-20000) (leastN f) = leastN f := by unfold mx; split <;> omega
          rw [hm]
          unfold unitN; rw [this, w64_id _ (by omega) (by omega)]; omega
        · rw [decide_eq_true (by omega)]; simp
      · have e1 : wrap64 (wrap64 (x + (lenN s : Int)) - 1) = x + lenN s - 1 := by
          rw [w64_id (x + _) (by omega) (by omega), w64_id _ (by omega) (by omega)]
        refine ⟨x + lenN s - 1, fun k => by rw [if_neg (by omega), e1], ?_, ?_⟩
        · have hr : riseN f x s = (x + lenN s - 1 - leastN f).toNat := by unfold riseN; rw [if_neg c]
          unfold unitN mx
          split
          · rw [w64_id _ (by omega) (by omega)]; omega
          · rw [w64_id _ (by omega) (by omega)]; omega
        · rw [decide_eq_false c, Bool.false_or]
    obtain ⟨e, he1, he2, he3⟩ := hE
    refine Ev.step (fun k => by rw [annealref1_Pack.j0]) ?_
    simp only [Bool.false_eq_true, if_false, ref_widths_f, ref_bias_f, Option.bind_some]
    refine Ev.bind (ref_len_ev s hs) ?_
    rw [show (1 : Int) - (1 - leastN f) = leastN f by omega, w64_id (leastN f) (by omega) (by omega)]
    refine Ev.congr he1 ?_
    refine Ev.step (fun k => by rw [annealref1_Pack.j1]) ?_
    rw [he2, w64_id (unitN f x s - x) (by omega) (by omega)]
    refine Ev.bind (ref_divide_f s hs _ (by omega) (by omega) hd) ?_
    -- what is left, with the little more
    have hlm : leftN s (unitN f x s - x) false ≤ 3 := left_le s _ false
    have hcol : ∀ k (r : Option (Int × Bool × Bool × Bool × Bool × Bool)), annealref1_Pack.j2 k f mode neg (fm f : Int) (leastN f) e (unitN f x s) (quoN s (unitN f x s - x) : Int) (decide (2 ≤ leftN s (unitN f x s - x) more)) (decide (leftN s (unitN f x s - x) more = 1 ∨ leftN s (unitN f x s - x) more = 3)) = r →
        (if decide (leftN s (unitN f x s - x) false = 1 ∨ leftN s (unitN f x s - x) false = 3) = true then annealref1_Pack.j2 k f mode neg (fm f : Int) (leastN f) e (unitN f x s) (quoN s (unitN f x s - x) : Int) (decide (2 ≤ leftN s (unitN f x s - x) false)) true else annealref1_Pack.j2 k f mode neg (fm f : Int) (leastN f) e (unitN f x s) (quoN s (unitN f x s - x) : Int) (decide (2 ≤ leftN s (unitN f x s - x) false)) more) = r := by
      intro k r h
      cases more
      · by_cases c : leftN s (unitN f x s - x) false = 1 ∨ leftN s (unitN f x s - x) false = 3
        · rw [decide_eq_true c] at h ⊢; rw [if_pos rfl]; exact h
        · rw [decide_eq_false c] at h ⊢; rw [if_neg (by decide)]; exact h
      · obtain ⟨m1, m2⟩ := left_more s (unitN f x s - x)
        rw [decide_eq_true m2, m1] at h
        split <;> exact h
    refine Ev.congr (fun k => hcol k _ rfl) ?_
    generalize hL : leftN s (unitN f x s - x) more = L at *
    refine Ev.step (fun k => by rw [annealref1_Pack.j2]) ?_
    have hinx : decide (L ≠ 0) = inexN f x s more := by unfold inexN; rw [hL]
    have h2 : ∀ k, (if decide (2 ≤ L) = true then annealref1_Pack.j3 k f mode neg (fm f : Int) (leastN f) e (unitN f x s) (quoN s (unitN f x s - x) : Int) (decide (2 ≤ L)) (decide (L = 1 ∨ L = 3)) true else annealref1_Pack.j3 k f mode neg (fm f : Int) (leastN f) e (unitN f x s) (quoN s (unitN f x s - x) : Int) (decide (2 ≤ L)) (decide (L = 1 ∨ L = 3)) (decide (L = 1 ∨ L = 3))) = annealref1_Pack.j3 k f mode neg (fm f : Int) (leastN f) e (unitN f x s) (quoN s (unitN f x s - x) : Int) (decide (2 ≤ L)) (decide (L = 1 ∨ L = 3)) (inexN f x s more) := by
      intro k
      rw [← hinx]
      have : L = 0 ∨ L = 1 ∨ L = 2 ∨ L = 3 := by omega
      rcases this with h | h | h | h <;> subst h <;> rfl
    refine Ev.congr h2 ?_
    refine Ev.step (fun k => by rw [annealref1_Pack.j3]) ?_
    have hodd : ((Go.bits .and .u64 (quoN s (unitN f x s - x) : Int) 1 == 1) : Bool) = decide (quoN s (unitN f x s - x) % 2 = 1) := by
      rw [and1_u64 _ hq64, show (1 : Int) = ((1 : Nat) : Int) from rfl, beq_nn]
    simp only [hodd, ref_up_f mode neg _ L hll, Option.bind_some]
    -- the unit above
    have hK : keyN f mode neg x s more = riseN f x s * 2 ^ fm f + (quoN s (unitN f x s - x) + (if upN mode neg (quoN s (unitN f x s - x)) L then 1 else 0)) := by
      unfold keyN; rw [hL, Nat.add_assoc]
    have h3 : ∀ k, (if upN mode neg (quoN s (unitN f x s - x)) L = true then annealref1_Pack.j4 k f mode neg (fm f : Int) (leastN f) e (unitN f x s) (IntKind.u64.wrap ((quoN s (unitN f x s - x) : Int) + 1)) (inexN f x s more) else annealref1_Pack.j4 k f mode neg (fm f : Int) (leastN f) e (unitN f x s) (quoN s (unitN f x s - x) : Int) (inexN f x s more)) = annealref1_Pack.j4 k f mode neg (fm f : Int) (leastN f) e (unitN f x s) ((quoN s (unitN f x s - x) + (if upN mode neg (quoN s (unitN f x s - x)) L then 1 else 0) : Nat) : Int) (inexN f x s more) := by
      intro k
      by_cases c : upN mode neg (quoN s (unitN f x s - x)) L = true
      · rw [if_pos c, if_pos c, show (quoN s (unitN f x s - x) : Int) + 1 = ((quoN s (unitN f x s - x) + 1 : Nat) : Int) by omega, u64_id _ (by omega)]
      · rw [if_neg c, if_neg c, Nat.add_zero]
    refine Ev.congr h3 ?_
    have hqn : quoN s (unitN f x s - x) + (if upN mode neg (quoN s (unitN f x s - x)) L then 1 else 0) ≤ 2 ^ (fm f + 1) := by split <;> omega
    have hqm : riseN f x s ≠ 0 → 2 ^ fm f ≤ quoN s (unitN f x s - x) + (if upN mode neg (quoN s (unitN f x s - x)) L then 1 else 0) := fun h => Nat.le_trans (q2 h) (Nat.le_add_right _ _)
    generalize quoN s (unitN f x s - x) + (if upN mode neg (quoN s (unitN f x s - x)) L then 1 else 0) = Q at *
    have hun : unitN f x s = leastN f - fm f + (riseN f x s : Nat) := rfl
    rw [hun]
    have ew := step_ew f
    have es := step_es f
    have e8 := step_e8 f _ u3
    have e9 := step_e9 f
    have fin : ∀ r : Int × Bool × Bool × Bool × Bool × Bool, r = ((((if overN f (keyN f mode neg x s more) then (if endless mode neg then topN f * 2 ^ fm f else topN f * 2 ^ fm f - 1) else keyN f mode neg x s more) + signN f neg : Nat) : Int), if overN f (keyN f mode neg x s more) then (false, false, true, false, true) else (false, false, false, underN f x s more, inexN f x s more)) → r = ((packN f mode neg x s more : Int), false, false, excN f mode neg x s more) := by
      intro r hr
      rw [hr]
      unfold packN excN
      split <;> rfl
    have hund : underN f x s more = (inexN f x s more && decide (e < leastN f)) := by unfold underN; rw [he3]
    refine Ev.step (fun k => by rw [annealref1_Pack.j4]) ?_
    simp only [ew, es, e8, if_pos (step_n (m := fm f + 1))]
    by_cases cQ : Q = 2 ^ (fm f + 1)
    · have g := fun k c3 => ref_pack_j5 k f mode neg (2 ^ fm f) (riseN f x s + 1) (Nat.le_trans (Nat.succ_le_succ u3) (by decide)) (step_lt f) (fun _ => Nat.le_refl _) (keyN f mode neg x s more) (by rw [hK]; exact (step_key _ _ _ (cQ.trans hsucc)).symm) false false false c3 (inexN f x s more)
      simp only [cQ, if_true, e9]
      by_cases ci : inexN f x s more = true
      · simp only [ci, if_true] at g ⊢
        rw [ci, Bool.true_and] at hund
        rw [← fin _ rfl, hund, ci]
        exact ⟨2, fun n hn => by obtain ⟨m, rfl⟩ : ∃ m, n = m + 2 := ⟨n - 2, by omega⟩; exact (g m _).1⟩
      · rw [Bool.not_eq_true] at ci
        simp only [ci, Bool.false_eq_true, if_false] at g ⊢
        rw [ci, Bool.false_and] at hund
        rw [← fin _ rfl, hund, ci]
        exact ⟨2, fun n hn => by obtain ⟨m, rfl⟩ : ∃ m, n = m + 2 := ⟨n - 2, by omega⟩; exact (g m _).2⟩
    · have g := fun k c3 => ref_pack_j5 k f mode neg Q (riseN f x s) (Nat.le_trans u3 (by decide)) (step_q hqn cQ) hqm (keyN f mode neg x s more) hK false false false c3 (inexN f x s more)
      have cQ' : ¬ ((Q : Int) = ((2 ^ (fm f + 1) : Nat) : Int)) := step_i cQ
      simp only [cQ', if_false]
      by_cases ci : inexN f x s more = true
      · simp only [ci, if_true] at g ⊢
        rw [ci, Bool.true_and] at hund
        rw [← fin _ rfl, hund, ci]
        exact ⟨2, fun n hn => by obtain ⟨m, rfl⟩ : ∃ m, n = m + 2 := ⟨n - 2, by omega⟩; exact (g m _).1⟩
      · rw [Bool.not_eq_true] at ci
        simp only [ci, Bool.false_eq_true, if_false] at g ⊢
        rw [ci, Bool.false_and] at hund
        rw [← fin _ rfl, hund, ci]
        exact ⟨2, fun n hn => by obtain ⟨m, rfl⟩ : ∃ m, n = m + 2 := ⟨n - 2, by omega⟩; exact (g m _).2⟩
end Go.Proofs.Ytngkpekmgahjiaa.Round

/- Products of finite numbers: the reference's, as plain numbers. -/
namespace Go.Proofs.Ytngkpekmgahjiaa.Round
open Go.RowKit Go.Proofs.Ytngkpekmgahjiaa.P Go.Proofs.Ytngkpekmgahjiaa.Num Go.Proofs.Ytngkpekmgahjiaa.BitsF Go.Proofs.Ytngkpekmgahjiaa.Fmt Go.Proofs.YtngkpekmgahjiaaW.PrintWords Go.Proofs.YtngkpekmgahjiaaW.PrintLast Go.Proofs.YtngkpekmgahjiaaW.PrintMore

theorem ref_mul_ev (f mode : Int) (a b : Nat) (ha : a < 4294967296) (hb : b < 4294967296) (ca : clsN f a < 3) (cb : clsN f b < 3) :
    Ev (fun k => annealref1_Mul.f k f mode (a : Int) (b : Int)) ((packN f mode (negN f a != negN f b) (lowestN f a + lowestN f b) (wholeN f a * wholeN f b) false : Int), false, false, excN f mode (negN f a != negN f b) (lowestN f a + lowestN f b) (wholeN f a * wholeN f b) false) := by
  have n : ¬ (isNan f a || isNan f b) = true := by unfold isNan; rw [Bool.or_eq_true, decide_eq_true_iff, decide_eq_true_iff]; omega
  have fa := cls_exp f a ca
  have fb := cls_exp f b cb
  have wa := whole_lt f a
  have wb := whole_lt f b
  have hbd := fbounds f
  have hp24 : 2 ^ (fm f + 1) ≤ 16777216 := Nat.pow_le_pow_right (show 0 < 2 by decide) (show fm f + 1 ≤ 24 by omega)
  have hprod : wholeN f a * wholeN f b < 18446744073709551616 := by
    have := Nat.mul_le_mul (show wholeN f a ≤ 16777216 by omega) (show wholeN f b ≤ 16777216 by omega)
    omega
  obtain ⟨l1, l2⟩ := lowest_near f a
  obtain ⟨m1, m2⟩ := lowest_near f b
  have hp := ref_pack_ev f mode (negN f a != negN f b) (lowestN f a + lowestN f b) (wholeN f a * wholeN f b) false hprod
  rw [clampE_id _ (by omega) (by omega)] at hp
  have hj : Ev (fun k => annealref1_Mul.j0 k f mode (a : Int) (b : Int) (negN f a != negN f b) false) ((packN f mode (negN f a != negN f b) (lowestN f a + lowestN f b) (wholeN f a * wholeN f b) false : Int), false, false, excN f mode (negN f a != negN f b) (lowestN f a + lowestN f b) (wholeN f a * wholeN f b) false) := by
    refine Ev.step (fun k => by rw [annealref1_Mul.j0, if_neg (by decide)]) (Ev.bind (rinf_ev f a ha) ?_)
    refine Ev.congr (fun k => by rw [if_neg (by simp; omega)]) (Ev.bind (rinf_ev f b hb) ?_)
    rw [decide_eq_false (show ¬ clsN f b = 3 by omega)]
    refine Ev.step (fun k => by rw [annealref1_Mul.j1, if_neg (by decide)]) (Ev.bind (runpack_ev f a ha fa) (Ev.bind (runpack_ev f b hb fb) ?_))
    dsimp only
    rw [w64_id (lowestN f a + lowestN f b) (by omega) (by omega), ← Int.natCast_mul, u64_id _ hprod]
    exact Ev.bind hp (Ev.now _)
  refine Ev.congr (fun k => by unfold annealref1_Mul.f; rfl) (Ev.bind (nans2_ev f a b ha hb) ?_)
  refine Ev.congr (fun k => by rw [if_neg n, rneg_f f a ha, Option.bind_some, rneg_f f b hb, Option.bind_some]) (Ev.bind (rzero_ev f a ha) ?_)
  by_cases z : clsN f a = 0
  · refine Ev.congr (fun k => by rw [if_pos (decide_eq_true z)]) (Ev.bind (rinf_ev f b hb) ?_)
    refine Ev.congr (fun k => by rw [if_neg (by simp; omega)]) (Ev.bind (rinf_ev f a ha) ?_)
    exact Ev.congr (fun k => by rw [if_neg (by simp; omega)]) hj
  · refine Ev.congr (fun k => by rw [if_neg (by simp [z])]) (Ev.bind (rinf_ev f a ha) ?_)
    exact Ev.congr (fun k => by rw [if_neg (by simp; omega)]) hj
end Go.Proofs.Ytngkpekmgahjiaa.Round

/- A number without its sign: plain numbers. -/
namespace Go.Proofs.Ytngkpekmgahjiaa.Round
open Go.RowKit Go.Proofs.Ytngkpekmgahjiaa.P Go.Proofs.Ytngkpekmgahjiaa.Num Go.Proofs.Ytngkpekmgahjiaa.BitsF Go.Proofs.Ytngkpekmgahjiaa.Fmt Go.Proofs.YtngkpekmgahjiaaW.PrintWords Go.Proofs.YtngkpekmgahjiaaW.PrintLast Go.Proofs.YtngkpekmgahjiaaW.PrintMore

theorem and_mod (a n : Nat) (hn : n ≤ 31) (h : a < 2 ^ (n + 1)) : a &&& (4294967295 - 2 ^ n) = a % 2 ^ n := by
  have hp := pow_le31 hn
  apply Nat.eq_of_testBit_eq
  intro i
  have e : 4294967295 - 2 ^ n = 2 ^ 32 - (2 ^ n + 1) := by omega
  rw [Nat.testBit_and, e, Nat.testBit_two_pow_sub_succ (by omega), Nat.testBit_mod_two_pow, Nat.testBit_two_pow]
  by_cases c : i < n
  · rw [decide_eq_true c, decide_eq_true (show i < 32 by omega), decide_eq_false (show ¬ n = i by omega)]; simp
  · by_cases d : n = i
    · rw [decide_eq_true d, decide_eq_false c]; simp
    · have : a.testBit i = false := Nat.testBit_lt_two_pow (Nat.lt_of_lt_of_le h (Nat.pow_le_pow_right (by decide) (by omega)))
      rw [this, decide_eq_false c]; simp
theorem and_not (f : Int) (a : Nat) (h : a < 2 ^ (fe f + fm f + 1)) : Go.bits .andNot .u32 (a : Int) (signN f true : Int) = (magN f a : Int) := by
  have hb := fbounds f
  have h31 := pow_le31 (show fe f + fm f ≤ 31 by omega)
  have h32 := pow_le32 (show fe f + fm f + 1 ≤ 32 by omega)
  have hs : signN f true = 2 ^ (fe f + fm f) := rfl
  rw [Go.u32_andNot_nat a _ (by omega) (by omega), hs, and_mod a _ (by omega) h]; rfl
end Go.Proofs.Ytngkpekmgahjiaa.Round

/- QuotSides: a root rounded towards nought isn't above, one rounded up isn't below, for every number near one of each format. -/
namespace Go.Proofs.Ytngkpekmgahjiaa.Pure
open Go.RowKit Go.Proofs.Ytngkpekmgahjiaa.P Go.Proofs.Ytngkpekmgahjiaa.Num Go.Proofs.Ytngkpekmgahjiaa.BitsF Go.Proofs.Ytngkpekmgahjiaa.Fmt Go.Proofs.Ytngkpekmgahjiaa.Round Go.Proofs.YtngkpekmgahjiaaW.PrintWords Go.Proofs.YtngkpekmgahjiaaW.PrintLast Go.Proofs.YtngkpekmgahjiaaW.PrintMore
theorem known6_ev : Ev (fun k => anneallaw6_known.f k) true := Ev.of anneallaw6_known.mono (k := 60) (by kernel_rfl)
theorem form6_some (c : Nat) : ∃ f : Int, anneallaw6_form.f (c : Int) = some f := by
  have e := Int.tmod_eq_emod_of_nonneg (b := 3) (Int.natCast_nonneg c)
  unfold anneallaw6_form.f
  rw [Option.bind_some, e]
  have h : (c : Int) % 3 = 0 ∨ (c : Int) % 3 = 1 ∨ (c : Int) % 3 = 2 := by omega
  rcases h with h | h | h <;> rw [h] <;> exact ⟨_, rfl⟩
theorem sides_end (f : Int) (x lo hi : Nat) (inex : Bool) (p q : Nat) (X1 X2 : Bool × Bool × Bool × Bool × Bool) (xv : x < 4294967296) (lv : lo < 4294967296) (hv : hi < 4294967296) (lc : clsN f lo < 3) (hc : clsN f hi < 3)
    (s1 : sqrtN f 1 x = lo) (t1 : sqrtX f 1 x = X1) (ti : X1.2.2.2.2 = inex) (s2 : sqrtN f 2 x = hi)
    (hp : packN f 1 (negN f lo != negN f lo) (lowestN f lo + lowestN f lo) (wholeN f lo * wholeN f lo) false = p) (hq : packN f 2 (negN f hi != negN f hi) (lowestN f hi + lowestN f hi) (wholeN f hi * wholeN f hi) false = q)
    (pv : p < 4294967296) (qv : q < 4294967296) (h1 : placeN f (lowN f p) ≤ placeN f (lowN f x)) (h2 : placeN f (lowN f x) ≤ placeN f (lowN f q)) (h3 : if inex then hi = lo + 1 else hi = lo) :
    Ev (fun k => (quot_Sqrt.f k f 1 (x : Int)).bind fun bt940 => ((quot_Sqrt.f k f 2 (x : Int)).bind fun bt947 => ((annealref1_Mul.f k f 1 bt940.1 bt940.1).bind fun bt954 => ((annealref1_Mul.f k f 2 bt947.1 bt947.1).bind fun bt961 => ((annealref1_Key.f f bt954.1).bind fun t968 => ((annealref1_Key.f f (x : Int)).bind fun t969 => (if t968 ≤ t969 then ((annealref1_Key.f f bt961.1).bind fun t970 => ((annealref1_Key.f f (x : Int)).bind fun t971 => (if t970 ≥ t971 then (if (bt940.2.2.2.2.2 == (bt940.1 != bt947.1)) = true then (if bt940.1 = bt947.1 then (some true) else (some (bt947.1 == ((bt940.1 + 1) % 4294967296)))) else (some false)) else (some false)))) else (some false)))))))) true := by
  have e1 := sqrt_ev f 1 x xv
  have e2 := sqrt_ev f 2 x xv
  rw [s1, t1] at e1
  rw [s2] at e2
  have m1 := ref_mul_ev f 1 lo lo lv lv lc lc
  have m2 := ref_mul_ev f 2 hi hi hv hv hc hc
  rw [hp] at m1
  rw [hq] at m2
  refine Ev.bind e1 (Ev.bind e2 (Ev.bind m1 (Ev.bind m2 ?_)))
  dsimp only
  refine Ev.congr (fun k => ?_) (Ev.now true)
  rw [ref_key_f f p pv, Option.bind_some, ref_key_f f x xv, Option.bind_some, if_pos h1, ref_key_f f q qv, Option.bind_some, Option.bind_some, if_pos h2, ti]
  cases inex
  · rw [if_neg (show ¬ false = true by decide)] at h3
    rw [h3, bne_self_eq_false, if_pos (show (false == false) = true by decide), if_pos rfl]
  · rw [if_pos (show true = true from rfl)] at h3
    have hne : ¬ ((lo : Int) = (hi : Int)) := by omega
    rw [bne_iff_ne.mpr hne, if_pos (show (true == true) = true by decide), if_neg hne]
    have : ((lo : Int) + 1) % 4294967296 = (hi : Int) := by omega
    rw [this, beq_self_eq_true]
theorem QuotSides : anneallaw6_QuotSides.Pure := by
  intro a0 a1 h0 h1
  obtain ⟨p0, q0⟩ := wf_u8 h0
  obtain ⟨p1, q1⟩ := wf_u32 h1
  obtain ⟨c, rfl⟩ := nat_of p0
  obtain ⟨a, rfl⟩ := nat_of p1
  obtain ⟨f, ff⟩ := form6_some c
  obtain ⟨m, neg, hm, hmr⟩ := mild_f f a (by omega)
  apply Ev.rounds
  unfold anneallaw6_QuotSides.f
  refine Ev.bind known6_ev ?_
  rcases hmr with ⟨rfl, rfl⟩ | hmr
  · obtain ⟨z1, z2, z3⟩ := zero_all f false
    have hs0 : signN f false = 0 := rfl
    have hm0 : magN f (0 + signN f false) = 0 := by unfold magN; simp [hs0]
    have hl0 : 0 + signN f false < 2 ^ (fe f + fm f + 1) := by rw [hs0]; exact Nat.two_pow_pos _
    refine Ev.congr (fun k => by rw [if_pos rfl, ff, Option.bind_some, hm, Option.bind_some, ref_zero_f, Option.bind_some, and_not f _ hl0, hm0]) ?_
    rw [hs0] at z1 z2 z3
    have hw := (none_low f 0 z1).2
    have sq : ∀ mode, sqrtN f mode 0 = 0 ∧ sqrtX f mode 0 = (false, false, false, false, false) := by
      intro mode; unfold sqrtN sqrtX; rw [z1, z2]; simp [hs0]
    have hpk : ∀ mode, packN f mode (negN f 0 != negN f 0) (lowestN f 0 + lowestN f 0) (wholeN f 0 * wholeN f 0) false = 0 := by
      intro mode; rw [hw, z2, (pack_none f mode _ _).1]; rfl
    exact sides_end f 0 0 0 false 0 0 _ (false, false, false, false, false) (by decide) (by decide) (by decide) (by rw [z1]; decide) (by rw [z1]; decide) (sq 1).1 (sq 1).2 rfl (sq 2).1 (hpk 1) (hpk 2) (by decide) (by decide) (Int.le_refl _) (Int.le_refl _) rfl
  · obtain ⟨_, m2, m3, _, m5, m6, _, _, m9⟩ := mild_parts f m neg hmr.1 hmr.2
    have hr := frac_lt f (m + signN f neg)
    refine Ev.congr (fun k => by rw [if_pos rfl, ff, Option.bind_some, hm, Option.bind_some, ref_zero_f, Option.bind_some, and_not f _ m3, m2]) ?_
    generalize expN f (m + signN f neg) = e at *
    generalize fracN f (m + signN f neg) = r at *
    obtain ⟨o1, o2, o3, o4⟩ := one_least f
    obtain ⟨lo, hi, inex, p, q, x1, x2, x3, x4, x5, x6, x7, x8, x9, x10, x11, x12, x13, x14⟩ := sides_all f e r m5 m6 hr
    rw [show signN f false = 0 from rfl, Nat.add_zero, ← m9] at x5 x6 x7
    obtain ⟨i1, _⟩ := infK_lt f
    have hfin := norm_under f e r (by omega) hr
    have hpl := place_sign f m false (by omega)
    have hb := fbounds f
    have h32 := pow_le32 (show fe f + fm f ≤ 32 by omega)
    rw [show signN f false = 0 from rfl, Nat.add_zero] at hpl
    rw [← m9] at x12 x13
    have hpl' : placeN f (lowN f m) = (m : Int) := hpl
    exact sides_end f m lo hi inex p q _ (sqrtX f 2 m) (by omega) x1 x2 x3 x4 x5 rfl x6 x7 x8 x9 x10 x11 (by rw [hpl']; exact x12) (by rw [hpl']; exact x13) x14
end Go.Proofs.Ytngkpekmgahjiaa.Pure
