import Derived.Test.YtoljndjpnbdjmaaQcbM6
import Derived.Test.YtoljndjpnbdjmaaQcbM3
import Derived.Laws.BitsAllLaws
import Derived.Test.YtoljndjpnbdjmaaQcbM1
import Derived.Test.YtoljndjpnbdjmaaQcbPx7
import Derived.Test.YtoljndjpnbdjmaaQcbWalkBetween
import Derived.Test.YtoljndjpnbdjmaaQcbM5
/- What is widened is narrowed to itself, and order stays: plain numbers alone. -/
namespace Go.Proofs.Ytoljndjpnbdjmaa.Round
open Go.RowKit Go.Proofs.Ytoljndjpnbdjmaa.P Go.Proofs.Ytoljndjpnbdjmaa.Num Go.Proofs.Ytoljndjpnbdjmaa.BitsF Go.Proofs.Ytoljndjpnbdjmaa.Fmt Go.Proofs.YtoljndjpnbdjmaaW.PrintWords Go.Proofs.YtoljndjpnbdjmaaW.PrintLast Go.Proofs.YtoljndjpnbdjmaaW.PrintMore

theorem key_none (f mode : Int) (neg : Bool) (x : Int) : keyN f mode neg x 0 false = 0 := by
  unfold keyN
  have hr : riseN f x 0 = 0 := by unfold riseN; rw [if_pos rfl]
  have hq : quoN 0 (unitN f x 0 - x) = 0 := by unfold quoN; split <;> simp
  have hl : leftN 0 (unitN f x 0 - x) false = 0 := left_none _ (.inr (by simp))
  rw [hr, hq, hl, up_none]; simp
theorem nan_single : clsN 2 (nanN 2) = 4 := by decide
theorem wide_none (f : Int) : wideM f 0 = 0 := by
  have := (infK_lt f).2
  unfold wideM wideK
  rw [if_neg (by omega)]
  have : amtN f 0 = 0 := by unfold amtN; simp
  rw [this, Nat.zero_mul]; exact key_none _ _ _ _
theorem cls_none (f : Int) (v : Nat) : clsN f v = 0 ↔ magN f v = 0 := by
  obtain ⟨h1, h2⟩ := mag_parts f v
  have hd := Nat.div_add_mod (magN f v) (2 ^ fm f)
  have hp := Nat.two_pow_pos (fm f)
  constructor
  · intro h
    unfold clsN at h
    by_cases c : expN f v = 0
    · rw [if_pos c] at h
      by_cases d : fracN f v = 0
      · rw [h1, h2, c, d] at hd; omega
      · rw [if_neg d] at h; omega
    · rw [if_neg c] at h
      split at h
      · omega
      · split at h
        · omega
        · split at h <;> omega
  · intro h
    rw [h, Nat.zero_div] at h1
    rw [h, Nat.zero_mod] at h2
    unfold clsN
    rw [if_pos h1.symm, if_pos h2.symm]
theorem not_nan (f : Int) (v : Nat) (h : isNan f v = false) : magN f v ≤ infK f := by
  rcases Nat.lt_or_ge (infK f) (magN f v) with c | c
  · rw [(mag_nan f v).mpr c] at h; exact absurd h (by decide)
  · exact c
theorem nan_not (f : Int) (v : Nat) (h : magN f v ≤ infK f) : isNan f v = false := by
  cases c : isNan f v
  · rfl
  · have := (mag_nan f v).mp c; omega
/-- A number that is none, widened. -/
theorem widen_nan (f : Int) (v : Nat) (h : isNan f v = true) : toN f 2 0 v = nanN 2 := by
  unfold toN; rw [if_pos (of_decide_eq_true h)]
theorem single_nan : isNan 2 (nanN 2) = true := by decide
/-- Any one's parts, widened. -/
theorem widen_parts (f : Int) (v : Nat) (h : isNan f v = false) : isNan 2 (toN f 2 0 v) = false ∧ (clsN 2 (toN f 2 0 v) = 0 ↔ clsN f v = 0) ∧
    placeN 2 (lowN 2 (toN f 2 0 v)) = if negN f v then -1 - (wideM f (magN f v) : Int) else (wideM f (magN f v) : Int) := by
  have hm := not_nan f v h
  have hb := wideM_bound f hm
  have hl := (infK_lt 2).1
  obtain ⟨s1, s2, s3⟩ := sign_parts 2 (wideM f (magN f v)) (negN f v) (by omega)
  rw [widen_is f v hm]
  refine ⟨nan_not 2 _ (by rw [s2]; exact hb), ?_, place_sign 2 _ _ (by omega)⟩
  rw [cls_none, cls_none, s2]
  have h0 := wideM_le_iff f hm (Nat.zero_le (infK f))
  rw [wide_none] at h0
  omega
theorem back (f : Int) (x : Nat) (h : x < 2 ^ (fe f + fm f + 1)) : toN 2 f 0 (toN f 2 0 x) = if isNan f x then nanN f else x := by
  cases c : isNan f x
  · have hm := not_nan f x c
    rw [widen_is f x hm, narrow_is f _ _ hm, ← mag_sign f x h]; rfl
  · rw [widen_nan f x c]
    unfold toN; rw [if_pos (by rw [nan_single]; exact Nat.le_refl 4)]; rfl
theorem order (f : Int) (a b : Nat) : cmpN 2 (toN f 2 0 a) (toN f 2 0 b) = cmpN f a b := by
  cases ca : isNan f a
  · cases cb : isNan f b
    · obtain ⟨a1, a2, a3⟩ := widen_parts f a ca
      obtain ⟨b1, b2, b3⟩ := widen_parts f b cb
      have hA : placeN f (lowN f a) = if negN f a then -1 - (magN f a : Int) else (magN f a : Int) := by
        show (if negN f (lowN f a) then -1 - (magN f (lowN f a) : Int) else (magN f (lowN f a) : Int)) = _
        rw [neg_low, show magN f (lowN f a) = magN f a from by unfold magN lowN; rw [Nat.mod_mod_of_dvd]; exact Nat.pow_dvd_pow 2 (by omega)]
      have hB : placeN f (lowN f b) = if negN f b then -1 - (magN f b : Int) else (magN f b : Int) := by
        show (if negN f (lowN f b) then -1 - (magN f (lowN f b) : Int) else (magN f (lowN f b) : Int)) = _
        rw [neg_low, show magN f (lowN f b) = magN f b from by unfold magN lowN; rw [Nat.mod_mod_of_dvd]; exact Nat.pow_dvd_pow 2 (by omega)]
      have w1 := wideM_le_iff f (not_nan f a ca) (not_nan f b cb)
      have w2 := wideM_le_iff f (not_nan f b cb) (not_nan f a ca)
      have w3 := wideM_le_iff f (Nat.zero_le _) (not_nan f a ca)
      unfold cmpN
      rw [a1, b1, ca, cb, a3, b3, hA, hB, if_neg (show ¬ (false || false) = true by decide), if_neg (show ¬ (false || false) = true by decide)]
      generalize magN f a = A at *
      generalize magN f b = B at *
      generalize wideM f A = U at *
      generalize wideM f B = V at *
      by_cases z : clsN f a = 0 ∧ clsN f b = 0
      · rw [if_pos z, if_pos ⟨a2.mpr z.1, b2.mpr z.2⟩]
      · rw [if_neg z, if_neg (fun h => z ⟨a2.mp h.1, b2.mp h.2⟩)]
        cases negN f a <;> cases negN f b <;> simp only [Bool.false_eq_true, if_false, if_true] <;> repeat' split
        all_goals first | rfl | (exfalso; omega)
    · rw [widen_nan f b cb]; unfold cmpN; rw [single_nan, cb, Bool.or_true, Bool.or_true, if_pos rfl, if_pos rfl]
  · rw [widen_nan f a ca]; unfold cmpN; rw [single_nan, ca, Bool.true_or, Bool.true_or, if_pos rfl, if_pos rfl]
end Go.Proofs.Ytoljndjpnbdjmaa.Round

/- What is a number of a format stays it; parts of a brain float's unit: plain numbers alone. -/
namespace Go.Proofs.Ytoljndjpnbdjmaa.Round
open Go.RowKit Go.Proofs.Ytoljndjpnbdjmaa.P Go.Proofs.Ytoljndjpnbdjmaa.Num Go.Proofs.Ytoljndjpnbdjmaa.BitsF Go.Proofs.Ytoljndjpnbdjmaa.Fmt Go.Proofs.YtoljndjpnbdjmaaW.PrintWords Go.Proofs.YtoljndjpnbdjmaaW.PrintLast Go.Proofs.YtoljndjpnbdjmaaW.PrintMore

theorem left_zero (s : Nat) (d : Int) (h : leftN s d false = 0) : d ≤ 0 ∨ s % 2 ^ d.toNat = 0 := by
  unfold leftN at h
  by_cases c : d ≤ 0 ∨ s % 2 ^ d.toNat = 0
  · exact c
  · rw [if_neg c] at h
    split at h
    · omega
    · split at h <;> omega
end Go.Proofs.Ytoljndjpnbdjmaa.Round

/- Numbers near one, drawn: plain numbers (for rounds with chapter 9). -/
namespace Go.Proofs.Ytoljndjpnbdjmaa.Round
open Go.RowKit Go.Proofs.Ytoljndjpnbdjmaa.P Go.Proofs.Ytoljndjpnbdjmaa.Num Go.Proofs.Ytoljndjpnbdjmaa.BitsF Go.Proofs.Ytoljndjpnbdjmaa.Fmt Go.Proofs.YtoljndjpnbdjmaaW.PrintWords Go.Proofs.YtoljndjpnbdjmaaW.PrintLast Go.Proofs.YtoljndjpnbdjmaaW.PrintMore

/-- The exponent's bits of one. -/
def oneN (f : Int) : Nat := topN f / 2
theorem one_cases (f : Int) : fe f = 5 ∧ fm f = 10 ∧ oneN f = 15 ∧ leastN f = -14 ∧ topN f = 31 ∨ fe f = 8 ∧ fm f = 7 ∧ oneN f = 127 ∧ leastN f = -126 ∧ topN f = 255 ∨ fe f = 8 ∧ fm f = 23 ∧ oneN f = 127 ∧ leastN f = -126 ∧ topN f = 255 := by
  unfold oneN topN leastN
  rcases fcases f with ⟨h1, h2⟩ | ⟨h1, h2⟩ | ⟨h1, h2⟩ <;> rw [h1, h2] <;> simp
theorem mild_shl (f : Int) : shl .u32 4 (fm f : Int) = ((4 * 2 ^ fm f : Nat) : Int) ∧ shl .u32 2 (fm f : Int) = ((2 * 2 ^ fm f : Nat) : Int) ∧
    shl .u32 ((((shl .u32 1 (fe f : Int)) - 1) % 4294967296) / 2) (fm f : Int) = ((oneN f * 2 ^ fm f : Nat) : Int) := by
  rcases one_cases f with ⟨h1, h2, h3, _⟩ | ⟨h1, h2, h3, _⟩ | ⟨h1, h2, h3, _⟩ <;> rw [h1, h2, h3] <;> decide
theorem mild_range (f : Int) : 4 * 2 ^ fm f + oneN f * 2 ^ fm f < 2 ^ (fe f + fm f) ∧ 2 * 2 ^ fm f ≤ oneN f * 2 ^ fm f := by
  rcases one_cases f with ⟨h1, h2, h3, _⟩ | ⟨h1, h2, h3, _⟩ | ⟨h1, h2, h3, _⟩ <;> rw [h1, h2, h3] <;> decide
theorem mild_plain (O P a : Nat) (h : 2 * P ≤ O) (hO : O + 4 * P < 2147483648) (hP : 0 < P) : ((((O : Nat) : Int) - ((2 * P : Nat) : Int)) % 4294967296 + Int.tmod ((a : Int) / 8) ((4 * P : Nat) : Int)) % 4294967296 = ((O - 2 * P + a / 8 % (4 * P) : Nat) : Int) := by
  have e : Int.tmod ((a : Int) / 8) ((4 * P : Nat) : Int) = ((a / 8 % (4 * P) : Nat) : Int) := by
    rw [show (a : Int) / 8 = ((a / 8 : Nat) : Int) from rfl, Int.tmod_eq_emod_of_nonneg (Int.natCast_nonneg _)]; rfl
  have hm := Nat.mod_lt (a / 8) (show 4 * P > 0 by omega)
  rw [e]
  generalize a / 8 % (4 * P) = m at *
  omega
theorem or_sign (f : Int) (m : Nat) (h : m < 2 ^ (fe f + fm f)) : Go.bits .or .u32 (m : Int) (signN f true : Int) = ((m + signN f true : Nat) : Int) := by
  have hb := fbounds f
  have h31 := pow_le31 (show fe f + fm f ≤ 31 by omega)
  have hs : signN f true = 2 ^ (fe f + fm f) := rfl
  rw [or_u32 m _ (by omega) (by omega), Nat.or_comm, or_add _ _ (fe f + fm f) (by rw [hs, Nat.mod_self]) h, Nat.add_comm]
/-- Nought, or a number of either sign from a quarter to below four. -/
theorem mild_f (f : Int) (a : Nat) (ha : a < 4294967296) : ∃ m : Nat, ∃ neg : Bool, annealseat_Mild.f f (a : Int) = some ((m + signN f neg : Nat) : Int) ∧ (m = 0 ∧ neg = false ∨ (oneN f - 2) * 2 ^ fm f ≤ m ∧ m < (oneN f + 2) * 2 ^ fm f) := by
  unfold annealseat_Mild.f
  by_cases c : Int.tmod (a : Int) 7 = 0
  · rw [if_pos c]
    exact ⟨0, false, rfl, .inl ⟨rfl, rfl⟩⟩
  · rw [if_neg c, ref_widths_f, Option.bind_some]
    dsimp only
    obtain ⟨s1, s2, s3⟩ := mild_shl f
    obtain ⟨r1, r2⟩ := mild_range f
    have hb := fbounds f
    have h31 := pow_le31 (show fe f + fm f ≤ 31 by omega)
    have hp := Nat.two_pow_pos (fm f)
    rw [s1, s2, s3, if_pos (Int.natCast_nonneg _), if_pos (Int.natCast_nonneg _), if_neg (by omega), mild_plain _ _ _ r2 (by omega) hp]
    have hm := Nat.mod_lt (a / 8) (show 4 * 2 ^ fm f > 0 by omega)
    have h2 : (oneN f - 2) * 2 ^ fm f = oneN f * 2 ^ fm f - 2 * 2 ^ fm f := Nat.sub_mul _ _ _
    have h3 : (oneN f + 2) * 2 ^ fm f = oneN f * 2 ^ fm f + 2 * 2 ^ fm f := Nat.add_mul _ _ _
    generalize hM : oneN f * 2 ^ fm f - 2 * 2 ^ fm f + a / 8 % (4 * 2 ^ fm f) = m at *
    by_cases d : Go.bits .and .u32 (a : Int) 1 = 1
    · rw [if_pos d, ref_zero_f, Option.bind_some, or_sign f m (by omega)]
      exact ⟨m, true, rfl, .inr ⟨by omega, by omega⟩⟩
    · rw [if_neg d]
      exact ⟨m, false, rfl, .inr ⟨by omega, by omega⟩⟩
/-- The parts of such a number. -/
theorem mild_parts (f : Int) (m : Nat) (neg : Bool) (h1 : (oneN f - 2) * 2 ^ fm f ≤ m) (h2 : m < (oneN f + 2) * 2 ^ fm f) :
    negN f (m + signN f neg) = neg ∧ magN f (m + signN f neg) = m ∧ m + signN f neg < 2 ^ (fe f + fm f + 1) ∧ m + signN f neg < 4294967296 ∧ oneN f - 2 ≤ expN f (m + signN f neg) ∧ expN f (m + signN f neg) < oneN f + 2 ∧
    clsN f (m + signN f neg) = 2 ∧ wholeN f (m + signN f neg) = fracN f (m + signN f neg) + 2 ^ fm f ∧ m = expN f (m + signN f neg) * 2 ^ fm f + fracN f (m + signN f neg) := by
  obtain ⟨r1, r2⟩ := mild_range f
  have hb := fbounds f
  have h32 := pow_le32 (show fe f + fm f + 1 ≤ 32 by omega)
  have hp := Nat.two_pow_pos (fm f)
  have h3 : (oneN f + 2) * 2 ^ fm f = oneN f * 2 ^ fm f + 2 * 2 ^ fm f := Nat.add_mul _ _ _
  obtain ⟨p1, p2, p3⟩ := sign_parts f m neg (by omega)
  obtain ⟨q1, q2⟩ := mag_parts f (m + signN f neg)
  rw [p2] at q1 q2
  have e1 : oneN f - 2 ≤ m / 2 ^ fm f := (Nat.le_div_iff_mul_le hp).mpr h1
  have e2 : m / 2 ^ fm f < oneN f + 2 := (Nat.div_lt_iff_lt_mul hp).mpr h2
  have hd := Nat.div_add_mod m (2 ^ fm f)
  rw [q1, q2, Nat.mul_comm] at hd
  rw [q1] at e1 e2
  have hc : oneN f = 15 ∧ topN f = 31 ∨ oneN f = 127 ∧ topN f = 255 := by
    rcases one_cases f with ⟨_, _, h3, _, h4⟩ | ⟨_, _, h3, _, h4⟩ | ⟨_, _, h3, _, h4⟩ <;> omega
  refine ⟨p1, p2, p3, by omega, e1, e2, ?_, ?_, hd.symm⟩
  · unfold clsN; rw [if_neg (by omega), if_pos (by omega)]
  · unfold wholeN; rw [if_neg (by omega)]
end Go.Proofs.Ytoljndjpnbdjmaa.Round

/- A number without its sign: plain numbers. -/
namespace Go.Proofs.Ytoljndjpnbdjmaa.Round
open Go.RowKit Go.Proofs.Ytoljndjpnbdjmaa.P Go.Proofs.Ytoljndjpnbdjmaa.Num Go.Proofs.Ytoljndjpnbdjmaa.BitsF Go.Proofs.Ytoljndjpnbdjmaa.Fmt Go.Proofs.YtoljndjpnbdjmaaW.PrintWords Go.Proofs.YtoljndjpnbdjmaaW.PrintLast Go.Proofs.YtoljndjpnbdjmaaW.PrintMore

theorem and_mod (a n : Nat) (hn : n ≤ 31) (h : a < 2 ^ (n + 1)) : a &&& (4294967295 - 2 ^ n) = a % 2 ^ n := by
  have hp := pow_le31 hn
  apply Nat.eq_of_testBit_eq
  intro i
  have e : 4294967295 - 2 ^ n = 2 ^ 32 - (2 ^ n + 1) := by omega
  rw [Nat.testBit_and, e, Nat.testBit_two_pow_sub_succ (by omega), Nat.testBit_mod_two_pow, Nat.testBit_two_pow]
  by_cases c : i < n
  · rw [decide_eq_true c, decide_eq_true (show i < 32 by omega), decide_eq_false (show ¬ n = i by omega)]; simp
  · by_cases d : n = i
    · rw [decide_eq_true d, decide_eq_false c]; simp
    · have : a.testBit i = false := Nat.testBit_lt_two_pow (Nat.lt_of_lt_of_le h (Nat.pow_le_pow_right (by decide) (by omega)))
      rw [this, decide_eq_false c]; simp
theorem and_not (f : Int) (a : Nat) (h : a < 2 ^ (fe f + fm f + 1)) : Go.bits .andNot .u32 (a : Int) (signN f true : Int) = (magN f a : Int) := by
  have hb := fbounds f
  have h31 := pow_le31 (show fe f + fm f ≤ 31 by omega)
  have h32 := pow_le32 (show fe f + fm f + 1 ≤ 32 by omega)
  have hs : signN f true = 2 ^ (fe f + fm f) := rfl
  rw [Go.u32_andNot_nat a _ (by omega) (by omega), hs, and_mod a _ (by omega) h]; rfl
end Go.Proofs.Ytoljndjpnbdjmaa.Round

/- The program's rounding and the reference's, from some round on; small facts about lists. -/
namespace Go.Proofs.Ytoljndjpnbdjmaa.Round
open Go.RowKit Go.Proofs.Ytoljndjpnbdjmaa.P Go.Proofs.Ytoljndjpnbdjmaa.Num Go.Proofs.Ytoljndjpnbdjmaa.BitsF Go.Proofs.Ytoljndjpnbdjmaa.Fmt Go.Proofs.YtoljndjpnbdjmaaW.PrintWords Go.Proofs.YtoljndjpnbdjmaaW.PrintLast Go.Proofs.YtoljndjpnbdjmaaW.PrintMore

theorem pack_ev (f mode : Int) (neg : Bool) (x : Int) (s : Nat) (more : Bool) (hs : s < 18446744073709551616) :
    Ev (fun k => round_Pack.f k f mode neg x (s : Int) more) ((packN f mode neg (clampE x) s more : Int), false, false, excN f mode neg (clampE x) s more) :=
  Ev.of (round_Pack.mono _ _ _ _ _ _) (pack_f 0 f mode neg x s more hs)
theorem known3_ev : Ev (fun k => anneallaw3_known.f k) true := Ev.of anneallaw3_known.mono (k := 20) (by kernel_rfl)
theorem form_f (a : Int) (h : 0 ≤ a) : ∃ f : Int, anneallaw3_form.f a = some f ∧ (f = 0 ∨ f = 1 ∨ f = 2) := by
  unfold anneallaw3_form.f
  have e := Int.tmod_eq_emod_of_nonneg (b := 3) h
  have : a % 3 = 0 ∨ a % 3 = 1 ∨ a % 3 = 2 := by omega
  simp only [Option.bind_some, e]
  rcases this with h | h | h <;> rw [h]
  · exact ⟨0, rfl, .inl rfl⟩
  · exact ⟨1, rfl, .inr (.inl rfl)⟩
  · exact ⟨2, rfl, .inr (.inr rfl)⟩
end Go.Proofs.Ytoljndjpnbdjmaa.Round

-- Printed by a program of this session's out of Lean's print of the translation; Lean checks it.
namespace Go.Proofs.Ytoljndjpnbdjmaa.P
open Go.RowKit Go.Proofs.YtoljndjpnbdjmaaW.PrintWords Go.Proofs.YtoljndjpnbdjmaaW.PrintLast Go.Proofs.YtoljndjpnbdjmaaW.PrintMore
attribute [local go_sem] max2_int min2_int max_two min_two max_three min_three max_four min_four   -- for this text's walks alone
set_option linter.unusedVariables false
set_option linter.unusedSimpArgs false

/-! ### anneallaw3_RoundModes: function 4 -/
mutual
def anneallaw3_RoundModes.j0 : Nat → Int → Int → Int → Int → Int → Bool → Bool → Bool → Bool → Bool → Bool → Bool → Bool → Bool → Bool → Bool → Bool → Bool → Bool → Bool → Bool → Bool → Bool → Bool → Bool → Option (Bool)
 |0, _, _, _, _, _, _, _, _, _, _, _, _, _, _, _, _, _, _, _, _, _, _, _, _, _ => none
 |k + 1, x13, x19, x21, x23, x24, x258000, x258001, x258002, x258003, x258004, x265000, x265001, x265002, x265003, x265004, x272000, x272001, x272002, x272003, x272004, x279000, x279001, x279002, x279003, x279004 => if x13 = x24 then (if (x258004 != x265004) = true then (anneallaw3_RoundModes.j1 k x13 x19 x21 x23 true x258000 x258001 x258002 x258003 x258004) else (if (x265004 != x272004) = true then (anneallaw3_RoundModes.j1 k x13 x19 x21 x23 true x258000 x258001 x258002 x258003 x258004) else (anneallaw3_RoundModes.j1 k x13 x19 x21 x23 (x272004 != x279004) x258000 x258001 x258002 x258003 x258004))) else (anneallaw3_RoundModes.j1 k x13 x19 x21 x23 true x258000 x258001 x258002 x258003 x258004)
def anneallaw3_RoundModes.j1 : Nat → Int → Int → Int → Int → Bool → Bool → Bool → Bool → Bool → Bool → Option (Bool)
 |0, _, _, _, _, _, _, _, _, _, _ => none
 |k + 1, x13, x19, x21, x23, x105, x258000, x258001, x258002, x258003, x258004 => if x105 = true then (some false) else (if x258004 = true then (if x23 = x13 then (some false) else (if x19 = x23 then (if x21 = x23 then (some true) else (some (x21 == x13))) else (if x19 = x13 then (if x21 = x23 then (some true) else (some (x21 == x13))) else (some false)))) else (if x13 = x23 then (if x13 = x19 then (some (x19 == x21)) else (some false)) else (some false)))
end
def anneallaw3_RoundModes.f (k : Nat) (a0 : Int) (a1 : Int) (a2 : Int) (a3 : Bool) (a4 : Bool) : Option (Bool) := (anneallaw3_known.f k).bind fun t249 => (if t249 = true then ((anneallaw3_form.f a0).bind fun t250 => ((round_Pack.f k t250 1 a3 (Int.tmod (wrap64 (a1)) 300) a2 a4).bind fun bt251 => ((round_Pack.f k t250 2 a3 (Int.tmod (wrap64 (a1)) 300) a2 a4).bind fun bt258 => ((round_Pack.f k t250 3 a3 (Int.tmod (wrap64 (a1)) 300) a2 a4).bind fun bt265 => ((round_Pack.f k t250 0 a3 (Int.tmod (wrap64 (a1)) 300) a2 a4).bind fun bt272 => ((round_Pack.f k t250 4 a3 (Int.tmod (wrap64 (a1)) 300) a2 a4).bind fun bt279 => (if a3 = true then (anneallaw3_RoundModes.j0 k bt251.1 bt272.1 bt279.1 bt265.1 bt258.1 bt251.2.1 bt251.2.2.1 bt251.2.2.2.1 bt251.2.2.2.2.1 bt251.2.2.2.2.2 bt258.2.1 bt258.2.2.1 bt258.2.2.2.1 bt258.2.2.2.2.1 bt258.2.2.2.2.2 bt265.2.1 bt265.2.2.1 bt265.2.2.2.1 bt265.2.2.2.2.1 bt265.2.2.2.2.2 bt272.2.1 bt272.2.2.1 bt272.2.2.2.1 bt272.2.2.2.2.1 bt272.2.2.2.2.2) else (anneallaw3_RoundModes.j0 k bt251.1 bt272.1 bt279.1 bt258.1 bt265.1 bt251.2.1 bt251.2.2.1 bt251.2.2.2.1 bt251.2.2.2.2.1 bt251.2.2.2.2.2 bt258.2.1 bt258.2.2.1 bt258.2.2.2.1 bt258.2.2.2.2.1 bt258.2.2.2.2.2 bt265.2.1 bt265.2.2.1 bt265.2.2.2.1 bt265.2.2.2.2.1 bt265.2.2.2.2.2 bt272.2.1 bt272.2.2.1 bt272.2.2.2.1 bt272.2.2.2.2.1 bt272.2.2.2.2.2)))))))) else (some false))
/-- THE ONE PURE STATEMENT of anneallaw3_RoundModes: yours. -/
def anneallaw3_RoundModes.Pure : Prop := ∀ (a0 : Int) (a1 : Int) (a2 : Int) (a3 : Bool) (a4 : Bool), (Lit.int .u8 a0).wf = true → (Lit.int .i16 a1).wf = true → (Lit.int .u64 a2).wf = true → ∃ k, anneallaw3_RoundModes.f k a0 a1 a2 a3 a4 = some true
end Go.Proofs.Ytoljndjpnbdjmaa.P

/- RoundModes: towards nought, up, down stand on either side, and the nearest is one of them: of each format, for every exponent and number. -/
namespace Go.Proofs.Ytoljndjpnbdjmaa.Pure
open Go.RowKit Go.Proofs.Ytoljndjpnbdjmaa.P Go.Proofs.Ytoljndjpnbdjmaa.Num Go.Proofs.Ytoljndjpnbdjmaa.BitsF Go.Proofs.Ytoljndjpnbdjmaa.Fmt Go.Proofs.Ytoljndjpnbdjmaa.Round Go.Proofs.YtoljndjpnbdjmaaW.PrintWords Go.Proofs.YtoljndjpnbdjmaaW.PrintLast Go.Proofs.YtoljndjpnbdjmaaW.PrintMore

/-- Without a sign: what each mode makes of the units and of what is left. -/
def amountN (f : Int) (up inf : Bool) (base : Nat) : Nat :=
  if overN f (base + if up then 1 else 0) then (if inf then topN f * 2 ^ fm f else topN f * 2 ^ fm f - 1) else base + if up then 1 else 0
theorem pack_amount (f mode : Int) (neg : Bool) (x : Int) (s : Nat) (more : Bool) :
    packN f mode neg x s more = amountN f (upN mode neg (quoN s (unitN f x s - x)) (leftN s (unitN f x s - x) more)) (endless mode neg) (riseN f x s * 2 ^ fm f + quoN s (unitN f x s - x)) + signN f neg := rfl
theorem exc_inexact (f mode : Int) (neg : Bool) (x : Int) (s : Nat) (more : Bool) :
    (excN f mode neg x s more).2.2 = (overN f (keyN f mode neg x s more) || inexN f x s more) := by
  unfold excN; split <;> simp_all
theorem amount_out (f : Int) (B : Nat) : amountN f false false B = if topN f * 2 ^ fm f ≤ B then topN f * 2 ^ fm f - 1 else B := by
  unfold amountN overN; simp
theorem amount_in (f : Int) (up : Bool) (B : Nat) : amountN f up true B = if topN f * 2 ^ fm f ≤ B then topN f * 2 ^ fm f else B + if up then 1 else 0 := by
  unfold amountN overN
  simp only [if_true, decide_eq_true_iff]
  split <;> split <;> cases up <;> simp at * <;> omega
theorem up_left (mode : Int) (neg : Bool) (q l : Nat) (h : upN mode neg q l = true) : l ≠ 0 := by
  rintro rfl; unfold upN at h; simp at h
/-- What the statement asks, of amounts with a sign. -/
theorem modes (f : Int) (neg more : Bool) (x : Int) (s : Nat) (mo mi : Int) (ho : mo = if neg then 2 else 3) (hi : mi = if neg then 3 else 2) :
    packN f 1 neg x s more = packN f mo neg x s more ∧ (excN f 1 neg x s more).2.2 = (excN f mo neg x s more).2.2 ∧ (excN f mo neg x s more).2.2 = (excN f mi neg x s more).2.2 ∧ (excN f mi neg x s more).2.2 = (excN f 0 neg x s more).2.2 ∧
    ((excN f 1 neg x s more).2.2 = false → packN f 1 neg x s more = packN f mi neg x s more ∧ packN f 1 neg x s more = packN f 0 neg x s more ∧ packN f 0 neg x s more = packN f 4 neg x s more) ∧
    ((excN f 1 neg x s more).2.2 = true → packN f mi neg x s more ≠ packN f 1 neg x s more ∧ (packN f 0 neg x s more = packN f mi neg x s more ∨ packN f 0 neg x s more = packN f 1 neg x s more) ∧ (packN f 4 neg x s more = packN f mi neg x s more ∨ packN f 4 neg x s more = packN f 1 neg x s more)) := by
  have ht : 0 < topN f * 2 ^ fm f := Nat.mul_pos (by have := top_cases f; omega) (Nat.two_pow_pos _)
  have u1 : ∀ q l, upN 1 neg q l = false := fun q l => rfl
  have uo : ∀ q l, upN mo neg q l = false := fun q l => by subst ho; cases neg <;> rfl
  have ui : ∀ q l, upN mi neg q l = decide (l ≠ 0) := fun q l => by subst hi; cases neg <;> simp [upN]
  have n1 : endless 1 neg = false := rfl
  have no : endless mo neg = false := by subst ho; cases neg <;> rfl
  have ni : endless mi neg = true := by subst hi; cases neg <;> rfl
  have n0 : endless 0 neg = true := rfl
  have n4 : endless 4 neg = true := rfl
  have w0 := up_left 0 neg (quoN s (unitN f x s - x)) (leftN s (unitN f x s - x) more)
  have w4 := up_left 4 neg (quoN s (unitN f x s - x)) (leftN s (unitN f x s - x) more)
  have key : ∀ m, keyN f m neg x s more = (riseN f x s * 2 ^ fm f + quoN s (unitN f x s - x)) + if upN m neg (quoN s (unitN f x s - x)) (leftN s (unitN f x s - x) more) then 1 else 0 := fun m => rfl
  have inx : inexN f x s more = decide (leftN s (unitN f x s - x) more ≠ 0) := rfl
  simp only [exc_inexact, pack_amount, key, inx, u1, uo, ui, n1, no, ni, n0, n4]
  generalize upN 0 neg (quoN s (unitN f x s - x)) (leftN s (unitN f x s - x) more) = a at *
  generalize upN 4 neg (quoN s (unitN f x s - x)) (leftN s (unitN f x s - x) more) = b at *
  generalize riseN f x s * 2 ^ fm f + quoN s (unitN f x s - x) = B at *
  generalize leftN s (unitN f x s - x) more = l at *
  simp only [amount_out, amount_in]
  unfold overN
  generalize topN f * 2 ^ fm f = T at *
  by_cases l0 : l = 0
  · subst l0
    have ha : a = false := by cases a <;> simp_all
    have hb : b = false := by cases b <;> simp_all
    subst ha hb
    simp
    constructor
    · intro h; rw [if_neg (by omega), if_neg (by omega)]
    · intro h; rw [if_pos h, if_pos h]; omega
  · simp [l0]
    by_cases h : T ≤ B
    · simp [h]; try omega
    · simp [h] <;> cases a <;> cases b <;> simp
theorem RoundModes : anneallaw3_RoundModes.Pure := by
  intro a0 a1 a2 a3 a4 h0 h1 h2
  obtain ⟨p0, q0⟩ := wf_u8 h0
  obtain ⟨p1, q1⟩ := wf_i16 h1
  obtain ⟨p2, q2⟩ := wf_u64 h2
  obtain ⟨s, rfl⟩ := nat_of p2
  apply Ev.rounds
  unfold anneallaw3_RoundModes.f
  refine Ev.bind known3_ev ?_
  obtain ⟨f, hf, _⟩ := form_f a0 p0
  simp only [if_true, hf, Option.bind_some]
  generalize Int.tmod (wrap64 a1) 300 = e
  have pk := fun m => pack_ev f m a3 e s a4 (by omega)
  refine Ev.bind (pk 1) (Ev.bind (pk 2) (Ev.bind (pk 3) (Ev.bind (pk 0) (Ev.bind (pk 4) ?_))))
  have last : ∀ (v1 v0 v4 vi : Nat) (b0 b1 b2 b3 b4 : Bool), (b4 = false → v1 = vi ∧ v1 = v0 ∧ v0 = v4) → (b4 = true → vi ≠ v1 ∧ (v0 = vi ∨ v0 = v1) ∧ (v4 = vi ∨ v4 = v1)) → Ev (fun k => anneallaw3_RoundModes.j1 k (v1 : Int) (v0 : Int) (v4 : Int) (vi : Int) false b0 b1 b2 b3 b4) true := by
    intro v1 v0 v4 vi b0 b1 b2 b3 b4 hf ht
    refine Ev.step (fun k => by rw [anneallaw3_RoundModes.j1]) ?_
    simp only [Bool.false_eq_true, if_false]
    cases b4
    · obtain ⟨e1, e2, e3⟩ := hf rfl
      subst e1 e2 e3
      simp only [Bool.false_eq_true, if_false, if_true, beq_self_eq_true]
      exact Ev.now true
    · obtain ⟨e1, e2, e3⟩ := ht rfl
      have n1 : ¬ ((vi : Int) = (v1 : Int)) := by omega
      have n2 : ((v4 : Int) = (vi : Int)) ∨ ((v4 : Int) = (v1 : Int)) := by omega
      simp only [if_true, if_neg n1]
      have fin : Ev (fun _ : Nat => if (v4 : Int) = (vi : Int) then some true else some ((v4 : Int) == (v1 : Int))) true := by
        by_cases h : (v4 : Int) = (vi : Int)
        · simp only [if_pos h]; exact Ev.now true
        · simp only [if_neg h]; simp only [n2.resolve_left h, beq_self_eq_true]; exact Ev.now true
      by_cases h : (v0 : Int) = (vi : Int)
      · simp only [if_pos h]; exact fin
      · have h' : (v0 : Int) = (v1 : Int) := by omega
        simp only [if_neg h, if_pos h']; exact fin
  cases a3
  · have M := modes f false a4 (clampE e) s 3 2 rfl rfl
    generalize excN f 1 false (clampE e) s a4 = x1 at *
    generalize excN f 0 false (clampE e) s a4 = x0 at *
    generalize packN f 1 false (clampE e) s a4 = v1 at *
    generalize packN f 0 false (clampE e) s a4 = v0 at *
    generalize packN f 4 false (clampE e) s a4 = v4 at *
    generalize excN f 2 false (clampE e) s a4 = x2 at *
    generalize excN f 3 false (clampE e) s a4 = x3 at *
    generalize packN f 2 false (clampE e) s a4 = v2 at *
    generalize packN f 3 false (clampE e) s a4 = v3 at *
    obtain ⟨m1, m2, m3, m4, m5, m6⟩ := M
    subst m1
    simp only [Bool.false_eq_true, if_false]
    refine Ev.step (fun k => by rw [anneallaw3_RoundModes.j0, if_pos rfl]) ?_
    simp only [← m4, ← m3, ← m2, bne_self_eq_false, Bool.false_eq_true, if_false]
    exact last _ _ _ _ _ _ _ _ _ m5 m6
  · have M := modes f true a4 (clampE e) s 2 3 rfl rfl
    generalize excN f 1 true (clampE e) s a4 = x1 at *
    generalize excN f 0 true (clampE e) s a4 = x0 at *
    generalize packN f 1 true (clampE e) s a4 = v1 at *
    generalize packN f 0 true (clampE e) s a4 = v0 at *
    generalize packN f 4 true (clampE e) s a4 = v4 at *
    generalize excN f 2 true (clampE e) s a4 = x2 at *
    generalize excN f 3 true (clampE e) s a4 = x3 at *
    generalize packN f 2 true (clampE e) s a4 = v2 at *
    generalize packN f 3 true (clampE e) s a4 = v3 at *
    obtain ⟨m1, m2, m3, m4, m5, m6⟩ := M
    subst m1
    simp only [if_true]
    refine Ev.step (fun k => by rw [anneallaw3_RoundModes.j0, if_pos rfl]) ?_
    simp only [← m4, ← m3, ← m2, bne_self_eq_false, Bool.false_eq_true, if_false]
    exact last _ _ _ _ _ _ _ _ _ m5 m6
end Go.Proofs.Ytoljndjpnbdjmaa.Pure

/- ChanceBetween: a number near one, narrowed by chance, is one of both neighbours, and a greater word never makes it greater: for either narrow format, every number drawn, every two words. -/
namespace Go.Proofs.Ytoljndjpnbdjmaa.Pure
open Go.RowKit Go.Proofs.Ytoljndjpnbdjmaa.P Go.Proofs.Ytoljndjpnbdjmaa.Num Go.Proofs.Ytoljndjpnbdjmaa.BitsF Go.Proofs.Ytoljndjpnbdjmaa.Fmt Go.Proofs.Ytoljndjpnbdjmaa.Round Go.Proofs.YtoljndjpnbdjmaaW.PrintWords Go.Proofs.YtoljndjpnbdjmaaW.PrintLast Go.Proofs.YtoljndjpnbdjmaaW.PrintMore

theorem known11_ev : Ev (fun k => anneallaw11_known.f k) true := Ev.of anneallaw11_known.mono (k := 60) (by kernel_rfl)
theorem to_exc (f mode : Int) (x : Nat) (hx : magN 2 x < infK 2) : toX 2 f mode x = (false, false, excN f mode (negN 2 x) (lowestN 2 x) (wholeN 2 x) false) := by
  have hc := (cls_finite 2 x).mpr ((mag_exp 2 x).mpr hx)
  unfold toX; rw [if_neg (by omega), if_neg (by omega)]
theorem to_pack (f mode : Int) (x : Nat) (hx : magN 2 x < infK 2) : toN 2 f mode x = packN f mode (negN 2 x) (lowestN 2 x) (wholeN 2 x) false := by
  have hc := (cls_finite 2 x).mpr ((mag_exp 2 x).mpr hx)
  unfold toN; rw [if_neg (by omega), if_neg (by omega)]
/-- Nothing is lost: all are one. -/
theorem between_exact (f : Int) (x w : Nat) (hx : magN 2 x < infK 2) (h : (excN f 3 (negN 2 x) (lowestN 2 x) (wholeN 2 x) false).2.2 = false) : chanN f x w = toN 2 f 3 x ∧ toN 2 f 3 x = toN 2 f 2 x := by
  have hk : keepsN f x = true := by
    rw [exc_inexact, Bool.or_eq_false_iff] at h
    have hl : leftN (wholeN 2 x) (dropN f x) false = 0 := by
      have := h.2
      unfold inexN at this
      exact Decidable.not_not.mp (of_decide_eq_false this)
    unfold keepsN
    exact decide_eq_true (.inr (.inr (left_zero _ _ hl)))
  unfold chanN
  rw [if_pos hk, to_pack f 0 x hx, to_pack f 3 x hx, to_pack f 2 x hx]
  cases hn : negN 2 x
  · rw [hn] at h
    obtain ⟨m1, m2, m3, m4, m5, m6⟩ := modes f false false (lowestN 2 x) (wholeN 2 x) 3 2 rfl rfl
    obtain ⟨a, b, _⟩ := m5 (by rw [m2, h])
    exact ⟨by rw [← b, m1], by rw [← m1, a]⟩
  · rw [hn] at h
    obtain ⟨m1, m2, m3, m4, m5, m6⟩ := modes f true false (lowestN 2 x) (wholeN 2 x) 2 3 rfl rfl
    obtain ⟨a, b, _⟩ := m5 (by rw [m2, m3, h])
    exact ⟨by rw [← b, a], by rw [← m1, a]⟩
theorem mild_rise (f : Int) (hf : f = 0 ∨ f = 1) (x : Nat) (e1 : 125 ≤ expN 2 x) (e2 : expN 2 x < 129) (hw : wholeN 2 x = fracN 2 x + 8388608) :
    riseN f (lowestN 2 x) (wholeN 2 x) * 2 ^ fm f + 2 ^ (fm f + 1) + 1 < infK f := by
  have hfr := frac_lt 2 x
  rw [show fm 2 = 23 from rfl] at hfr
  have hl : lenN (wholeN 2 x) = 24 := lenN_of _ 24 (by omega) (.inr (by omega))
  have hlo : lowestN 2 x = (expN 2 x : Int) - 150 := by
    unfold lowestN
    rw [show leastN 2 = -126 from rfl, show fm 2 = 23 from rfl]; omega
  unfold riseN infK
  rw [if_neg (by omega), hl, hlo]
  rcases hf with rfl | rfl
  · rw [show leastN 0 = -14 from rfl, show fm 0 = 10 from rfl, show topN 0 = 31 from rfl]; omega
  · rw [show leastN 1 = -126 from rfl, show fm 1 = 7 from rfl, show topN 1 = 255 from rfl]; omega
/-- Something is lost: the neighbours, and which one it becomes. -/
theorem between_parts (f : Int) (x : Nat) (hx : magN 2 x < infK 2) (hc : clsN 2 x = 2) (hr : riseN f (lowestN 2 x) (wholeN 2 x) * 2 ^ fm f + 2 ^ (fm f + 1) + 1 < infK f) (h : (excN f 3 (negN 2 x) (lowestN 2 x) (wholeN 2 x) false).2.2 = true) :
    ∃ B p : Nat, B + 1 < infK f ∧ toN 2 f 3 x = (B + if negN 2 x then 1 else 0) + signN f (negN 2 x) ∧ toN 2 f 2 x = (B + if negN 2 x then 0 else 1) + signN f (negN 2 x) ∧ ∀ w, chanN f x w = (B + if w < p then 1 else 0) + signN f (negN 2 x) := by
  obtain ⟨q1, _⟩ := quo_bounds f (lowestN 2 x) (wholeN 2 x)
  have hover : ∀ mode, overN f (keyN f mode (negN 2 x) (lowestN 2 x) (wholeN 2 x) false) = false := by
    intro mode
    unfold overN keyN
    apply decide_eq_false
    unfold infK at hr
    split <;> omega
  have hl : leftN (wholeN 2 x) (dropN f x) false ≠ 0 := by
    rw [exc_inexact, hover, Bool.false_or] at h
    unfold inexN at h
    exact of_decide_eq_true h
  have hd : ¬ dropN f x ≤ 0 := by
    intro hd; apply hl; exact left_exact _ _ (.inl hd)
  have hm : ¬ wholeN 2 x % 2 ^ (dropN f x).toNat = 0 := by
    intro hm; apply hl; exact left_exact _ _ (.inr hm)
  have hxf := (mag_exp 2 x).mpr hx
  have hk : keepsN f x = false := by
    unfold keepsN
    apply decide_eq_false
    rintro (a | a | a | a)
    · omega
    · omega
    · exact hd a
    · exact hm a
  have hdq := drop_quo f x hd
  have hup : ∀ mode neg, upN mode neg (quoN (wholeN 2 x) (unitN f (lowestN 2 x) (wholeN 2 x) - lowestN 2 x)) (leftN (wholeN 2 x) (unitN f (lowestN 2 x) (wholeN 2 x) - lowestN 2 x) false) = upN mode neg (quoN (wholeN 2 x) (unitN f (lowestN 2 x) (wholeN 2 x) - lowestN 2 x)) (leftN (wholeN 2 x) (dropN f x) false) := fun _ _ => rfl
  refine ⟨riseN f (lowestN 2 x) (wholeN 2 x) * 2 ^ fm f + quoN (wholeN 2 x) (unitN f (lowestN 2 x) (wholeN 2 x) - lowestN 2 x), partN (wholeN 2 x) (dropN f x), by omega, ?_, ?_, ?_⟩
  · rw [to_pack f 3 x hx]
    unfold packN
    rw [hover, if_neg (by decide)]
    unfold keyN
    rw [hup]
    have : upN 3 (negN 2 x) (quoN (wholeN 2 x) (unitN f (lowestN 2 x) (wholeN 2 x) - lowestN 2 x)) (leftN (wholeN 2 x) (dropN f x) false) = negN 2 x := by
      unfold upN; rw [if_neg (by decide), if_neg (by decide), if_pos rfl, decide_eq_true hl, Bool.and_true]
    rw [this]
  · rw [to_pack f 2 x hx]
    unfold packN
    rw [hover, if_neg (by decide)]
    unfold keyN
    rw [hup]
    have : upN 2 (negN 2 x) (quoN (wholeN 2 x) (unitN f (lowestN 2 x) (wholeN 2 x) - lowestN 2 x)) (leftN (wholeN 2 x) (dropN f x) false) = !negN 2 x := by
      unfold upN; rw [if_neg (by decide), if_pos rfl, decide_eq_true hl, Bool.and_true]
    rw [this]
    cases negN 2 x <;> rfl
  · intro w
    unfold chanN stepN
    rw [hk, if_neg (by decide), hdq, ← Nat.add_assoc]
    unfold capN
    rw [if_neg (by split <;> omega)]
theorem amount_f (f : Int) (y : Nat) (h : y < 2 ^ (fe f + fm f + 1)) : anneallaw11_ChanceBetween_1.f (y : Int) f = some (magN f y : Int) := by
  unfold anneallaw11_ChanceBetween_1.f
  rw [ref_zero_f, Option.bind_some, and_not f y h]
theorem chan_lt (f : Int) (x w : Nat) : chanN f x w < 2 ^ (fe f + fm f + 1) := by
  unfold chanN
  split
  · exact (to_lt 2 f 0 x).1
  · exact (sign_parts f _ (negN 2 x) (Nat.lt_of_le_of_lt (cap_le f 0 _ _).1 (infK_lt f).1)).2.2
/-- What the statement asks, of plain numbers. -/
theorem between (f : Int) (hf : f = 0 ∨ f = 1) (m : Nat) (neg : Bool) (hm : m = 0 ∧ neg = false ∨ (oneN 2 - 2) * 2 ^ fm 2 ≤ m ∧ m < (oneN 2 + 2) * 2 ^ fm 2) (v w : Nat) (hvw : v ≤ w) :
    m + signN 2 neg < 4294967296 ∧ magN 2 (m + signN 2 neg) < infK 2 ∧
    ((excN f 3 (negN 2 (m + signN 2 neg)) (lowestN 2 (m + signN 2 neg)) (wholeN 2 (m + signN 2 neg)) false).2.2 = true →
      (chanN f (m + signN 2 neg) v = toN 2 f 3 (m + signN 2 neg) ∨ chanN f (m + signN 2 neg) v = toN 2 f 2 (m + signN 2 neg)) ∧ (chanN f (m + signN 2 neg) w = toN 2 f 3 (m + signN 2 neg) ∨ chanN f (m + signN 2 neg) w = toN 2 f 2 (m + signN 2 neg)) ∧
      magN f (chanN f (m + signN 2 neg) w) ≤ magN f (chanN f (m + signN 2 neg) v)) := by
  rcases hm with ⟨rfl, rfl⟩ | ⟨h1, h2⟩
  · refine ⟨by decide, by decide, fun h => ?_⟩
    exfalso
    have hz : (excN f 3 (negN 2 (0 + signN 2 false)) (lowestN 2 (0 + signN 2 false)) (wholeN 2 (0 + signN 2 false)) false).2.2 = false := by
      rcases hf with rfl | rfl <;> decide
    rw [hz] at h; cases h
  · obtain ⟨p1, p2, p3, p4, p5, p6, p7, p8, p9⟩ := mild_parts 2 m neg h1 h2
    have hx : magN 2 (m + signN 2 neg) < infK 2 := by
      rw [p2]; rw [show oneN 2 = 127 from rfl, show fm 2 = 23 from rfl] at h2
      show m < 2139095040; omega
    refine ⟨p4, hx, fun h => ?_⟩
    have hr := mild_rise f hf (m + signN 2 neg) p5 p6 p8
    obtain ⟨B, p, hB, t3, t2, tc⟩ := between_parts f (m + signN 2 neg) hx p7 hr h
    obtain ⟨i1, _⟩ := infK_lt f
    rw [t3, t2, tc v, tc w]
    generalize negN 2 (m + signN 2 neg) = n
    have hmag : ∀ b : Bool, magN f ((B + if b then 1 else 0) + signN f n) = B + if b then 1 else 0 := fun b => (sign_parts f (B + if b then 1 else 0) n (by cases b <;> simp <;> omega)).2.1
    have e : ∀ u : Nat, (if u < p then 1 else 0 : Nat) = if decide (u < p) = true then 1 else 0 := fun u => by by_cases c : u < p <;> simp [c]
    rw [e v, e w, hmag, hmag]
    have hle : decide (w < p) = true → decide (v < p) = true := fun hw => decide_eq_true (by have := of_decide_eq_true hw; omega)
    generalize decide (v < p) = a at *
    generalize decide (w < p) = b at *
    cases n <;> cases a <;> cases b <;> first | exact absurd (hle rfl) (by decide) | exact ⟨by first | exact .inl rfl | exact .inr rfl, by first | exact .inl rfl | exact .inr rfl, Nat.add_le_add_left (by decide) B⟩
theorem between_ev (f : Int) (hf : f = 0 ∨ f = 1) (a v w : Nat) (ha : a < 4294967296) (hv : v < 4294967296) (hw : w < 4294967296) : Ev (fun k => anneallaw11_ChanceBetween.j0 k (a : Int) (v : Int) (w : Int) f) true := by
  obtain ⟨m, neg, hx, hm⟩ := mild_f 2 a ha
  have hmn : mn (v : Int) (w : Int) = ((min v w : Nat) : Int) := by unfold mn; split <;> omega
  have hmx : mx (v : Int) (w : Int) = ((max v w : Nat) : Int) := by unfold mx; split <;> omega
  obtain ⟨b1, b2, b3⟩ := between f hf m neg hm (min v w) (max v w) (by omega)
  have be := fun w => between_exact f (m + signN 2 neg) w b2
  generalize m + signN 2 neg = x at *
  refine Ev.step (fun k => by rw [anneallaw11_ChanceBetween.j0, hx, Option.bind_some, hmn, hmx]) (Ev.bind (ref_to_ev 2 f 3 x b1) (Ev.bind (ref_to_ev 2 f 2 x b1) (Ev.bind (chance_ev f x (min v w) b1 (by omega)) (Ev.bind (chance_ev f x (max v w) b1 (by omega)) ?_))))
  rw [to_exc f 3 x b2, to_exc f 2 x b2]
  dsimp only
  have c1 := chan_lt f x (min v w)
  have c2 := chan_lt f x (max v w)
  cases hi : (excN f 3 (negN 2 x) (lowestN 2 x) (wholeN 2 x) false).2.2
  · obtain ⟨e1, e2⟩ := be (min v w) hi
    obtain ⟨e3, _⟩ := be (max v w) hi
    refine Ev.congr (fun k => by rw [if_neg (by decide), e1, if_pos rfl, e3, if_pos rfl, e2, beq_self_eq_true]) (Ev.step (fun k => by rw [anneallaw11_ChanceBetween.j1]) (Ev.now true))
  · obtain ⟨d1, d2, d3⟩ := b3 hi
    have fin : Ev (fun k => (anneallaw11_ChanceBetween_1.f (chanN f x (max v w) : Int) f).bind fun t => (anneallaw11_ChanceBetween_1.f (chanN f x (min v w) : Int) f).bind fun u => anneallaw11_ChanceBetween.j2 k (decide (t ≤ u))) true := by
      refine Ev.congr (fun k => by rw [amount_f f _ c2, Option.bind_some, amount_f f _ c1, Option.bind_some, decide_eq_true (show (magN f (chanN f x (max v w)) : Int) ≤ (magN f (chanN f x (min v w)) : Int) by omega)]) (Ev.step (fun k => by rw [anneallaw11_ChanceBetween.j2]) (Ev.now true))
    generalize chanN f x (min v w) = p at *
    generalize chanN f x (max v w) = q at *
    refine Ev.congr (fun k => ?_) fin
    rw [if_pos rfl]
    by_cases s1 : p = toN 2 f 3 x
    · rw [if_pos (show (p : Int) = (toN 2 f 3 x : Int) by omega)]
      by_cases s2 : q = toN 2 f 3 x
      · rw [if_pos (show (q : Int) = (toN 2 f 3 x : Int) by omega)]
      · rw [if_neg (show ¬ (q : Int) = (toN 2 f 3 x : Int) by omega), if_pos (show (q : Int) = (toN 2 f 2 x : Int) by omega)]
    · rw [if_neg (show ¬ (p : Int) = (toN 2 f 3 x : Int) by omega), if_pos (show (p : Int) = (toN 2 f 2 x : Int) by omega)]
      by_cases s2 : q = toN 2 f 3 x
      · rw [if_pos (show (q : Int) = (toN 2 f 3 x : Int) by omega)]
      · rw [if_neg (show ¬ (q : Int) = (toN 2 f 3 x : Int) by omega), if_pos (show (q : Int) = (toN 2 f 2 x : Int) by omega)]
theorem ChanceBetween : anneallaw11_ChanceBetween.Pure := by
  intro a0 a1 a2 a3 h1 h2 h3
  obtain ⟨p1, q1⟩ := wf_u32 h1
  obtain ⟨p2, q2⟩ := wf_u32 h2
  obtain ⟨p3, q3⟩ := wf_u32 h3
  obtain ⟨a, rfl⟩ := nat_of p1
  obtain ⟨v, rfl⟩ := nat_of p2
  obtain ⟨w, rfl⟩ := nat_of p3
  apply Ev.rounds
  unfold anneallaw11_ChanceBetween.f
  refine Ev.bind known11_ev ?_
  refine Ev.congr (fun k => by rw [if_pos rfl]) ?_
  cases a0
  · exact Ev.congr (fun k => by rw [if_neg (by decide)]) (between_ev 1 (.inr rfl) a v w (by omega) (by omega) (by omega))
  · exact Ev.congr (fun k => by rw [if_pos rfl]) (between_ev 0 (.inl rfl) a v w (by omega) (by omega) (by omega))
end Go.Proofs.Ytoljndjpnbdjmaa.Pure
