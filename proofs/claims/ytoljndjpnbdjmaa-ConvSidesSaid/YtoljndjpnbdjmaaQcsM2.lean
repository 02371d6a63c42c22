import Derived.Test.YtoljndjpnbdjmaaQcsM1
import Derived.Test.YtoljndjpnbdjmaaQcsPx10
import Derived.Test.YtoljndjpnbdjmaaQcsPx8
import Derived.Test.YtoljndjpnbdjmaaQcsPx15
import Derived.Test.YtoljndjpnbdjmaaQcsPx16
/- What the reference's formats are: the same plain numbers. -/
namespace Go.Proofs.Ytoljndjpnbdjmaa.Round
open Go.RowKit Go.Proofs.Ytoljndjpnbdjmaa.P Go.Proofs.Ytoljndjpnbdjmaa.Num Go.Proofs.Ytoljndjpnbdjmaa.BitsF Go.Proofs.Ytoljndjpnbdjmaa.Fmt Go.Proofs.YtoljndjpnbdjmaaW.PrintWords Go.Proofs.YtoljndjpnbdjmaaW.PrintLast Go.Proofs.YtoljndjpnbdjmaaW.PrintMore

theorem beq_nn (a b : Nat) : (((a : Int) == (b : Int)) : Bool) = decide (a = b) := by
  by_cases h : a = b
  · subst h; simp
  · rw [beq_eq_false_iff_ne.mpr (by omega)]; simp [h]
theorem ref_widths_f (f : Int) : annealref1_Widths.f f = some ((fe f : Int), (fm f : Int)) := by
  unfold annealref1_Widths.f fe fm
  by_cases h : f = 0
  · subst h; rfl
  · rw [if_neg h, if_neg h, if_neg h]
    by_cases h1 : f = 1
    · subst h1; rfl
    · rw [if_neg h1, if_neg h1]; rfl
theorem ref_sign_f (f : Int) (neg : Bool) : annealref1_sign.f f neg = some (signN f neg : Int) := by
  unfold annealref1_sign.f signN
  obtain ⟨b1, b2, b3, b4, b5⟩ := fbounds f
  rw [ref_widths_f]; simp only [Option.bind_some]
  cases neg
  · rfl
  · simp only [if_true]
    rw [show (fe f : Int) + (fm f : Int) = ((fe f + fm f : Nat) : Int) by omega, w64_id _ (by omega) (by omega), if_pos (by omega), one_shl _ b5]
theorem ref_zero_f (f : Int) (neg : Bool) : annealref1_Zero.f f neg = some (signN f neg : Int) := by
  unfold annealref1_Zero.f; rw [ref_sign_f]; rfl
theorem inf_lt (f : Int) (neg : Bool) : infN f neg < 4294967296 ∧ topN f * 2 ^ fm f + 2 ^ fm f = 2 ^ (fe f + fm f) := by
  obtain ⟨b1, b2, b3, b4, b5⟩ := fbounds f
  have h31 := pow_le31 b5
  have hp := Nat.two_pow_pos (fm f)
  have e : topN f * 2 ^ fm f + 2 ^ fm f = 2 ^ (fe f + fm f) := by
    rw [Nat.pow_add, ← Nat.succ_mul]; congr 1
    unfold topN; have := Nat.two_pow_pos (fe f); omega
  refine ⟨?_, e⟩
  unfold infN signN; split <;> omega
end Go.Proofs.Ytoljndjpnbdjmaa.Round

/- The reference's parts of a number, its class, its whole number and exponent, its place in the order: as plain numbers. -/
namespace Go.Proofs.Ytoljndjpnbdjmaa.Round
open Go.RowKit Go.Proofs.Ytoljndjpnbdjmaa.P Go.Proofs.Ytoljndjpnbdjmaa.Num Go.Proofs.Ytoljndjpnbdjmaa.BitsF Go.Proofs.Ytoljndjpnbdjmaa.Fmt Go.Proofs.YtoljndjpnbdjmaaW.PrintWords Go.Proofs.YtoljndjpnbdjmaaW.PrintLast Go.Proofs.YtoljndjpnbdjmaaW.PrintMore

/-- A number's bits: the lowest of a format's width. -/
def lowN (f : Int) (v : Nat) : Nat := v % 2 ^ (fe f + fm f + 1)
theorem low_lt (f : Int) (v : Nat) : lowN f v < 2 ^ (fe f + fm f + 1) := Nat.mod_lt _ (Nat.two_pow_pos _)
theorem low_32 (f : Int) (v : Nat) : lowN f v < 4294967296 := by
  obtain ⟨b1, b2, b3, b4, b5⟩ := fbounds f
  have := low_lt f v
  have := pow_le32 (show fe f + fm f + 1 ≤ 32 by omega)
  omega
theorem low_id (f : Int) (v : Nat) (h : v < 2 ^ (fe f + fm f + 1)) : lowN f v = v := Nat.mod_eq_of_lt h
def maskN (f : Int) : Nat := 2 ^ (fe f + fm f + 1) - 1
theorem mask_lit (n : Nat) (hn : n ≤ 32) : (IntKind.u64.wrap (shl .u64 1 (n : Int) - 1)) % 4294967296 = ((2 ^ n - 1 : Nat) : Int) := by
  have h32 := pow_le32 hn
  have h0 := Nat.two_pow_pos n
  rw [show shl .u64 1 (n : Int) = _ from shl_u64 1 n, Nat.one_mul]
  generalize 2 ^ n = P at *
  rw [Nat.mod_eq_of_lt (by omega), u64_wrap]
  omega
theorem width_f (f : Int) : wrap64 ((wrap64 (1 + (fe f : Int))) + (fm f : Int)) = ((fe f + fm f + 1 : Nat) : Int) := by
  obtain ⟨b1, b2, b3, b4, b5⟩ := fbounds f
  rw [w64_id (1 + (fe f : Int)) (by omega) (by omega), w64_id _ (by omega) (by omega)]; omega
theorem ref_mask_f (f : Int) : annealref1_Mask.f f = some (maskN f : Int) := by
  unfold annealref1_Mask.f
  have h := fbounds f
  rw [ref_widths_f, Option.bind_some]
  dsimp only
  rw [width_f, mask_lit _ (by omega)]
  exact if_pos (Int.natCast_nonneg _)
theorem and_mask (f : Int) (v : Nat) (hv : v < 4294967296) : Go.bits .and .u32 (v : Int) (maskN f : Int) = (lowN f v : Int) := by
  unfold maskN lowN
  have h := fbounds f
  have h32 := pow_le32 (show fe f + fm f + 1 ≤ 32 by omega)
  generalize fe f + fm f + 1 = n at *
  have h0 := Nat.two_pow_pos n
  rw [and_u32 _ _ hv (by omega), Nat.and_two_pow_sub_one_eq_mod]
theorem top_bit (f : Int) (v : Nat) : ((((lowN f v / 2 ^ (fe f + fm f) : Nat) : Int) == 1) : Bool) = negN f (lowN f v) := by
  rw [show (1 : Int) = ((1 : Nat) : Int) from rfl, beq_nn]
  unfold negN
  have : lowN f v / 2 ^ (fe f + fm f) < 2 := by rw [Nat.div_lt_iff_lt_mul (Nat.two_pow_pos _), Nat.mul_comm, ← Nat.pow_succ]; exact low_lt f v
  rw [Nat.mod_eq_of_lt this]
theorem small_w64 (a n : Nat) (hn : n ≤ 31) : wrap64 ((a % 2 ^ n : Nat) : Int) = ((a % 2 ^ n : Nat) : Int) := by
  have h1 := pow_le31 hn
  have h2 := Nat.mod_lt a (Nat.two_pow_pos n)
  generalize a % 2 ^ n = q at *
  exact w64_id _ (by omega) (by omega)
theorem small_u64 (a n : Nat) (hn : n ≤ 31) : IntKind.u64.wrap ((a % 2 ^ n : Nat) : Int) = ((a % 2 ^ n : Nat) : Int) := by
  have h1 := pow_le31 hn
  have h2 := Nat.mod_lt a (Nat.two_pow_pos n)
  generalize a % 2 ^ n = q at *
  exact u64_id _ (by omega)
theorem ref_parts_f (f : Int) (v : Nat) (hv : v < 4294967296) : annealref1_parts.f f (v : Int) = some (negN f (lowN f v), (expN f (lowN f v) : Int), (fracN f (lowN f v) : Int)) := by
  unfold annealref1_parts.f
  obtain ⟨b1, b2, b3, b4, b5⟩ := fbounds f
  have hl := low_32 f v
  rw [ref_widths_f, Option.bind_some, ref_mask_f, Option.bind_some]
  dsimp only
  rw [and_mask f v hv, show (fe f : Int) + (fm f : Int) = ((fe f + fm f : Nat) : Int) by omega, w64_id _ (by omega) (by omega), if_pos (by omega), if_pos (by omega), if_pos (by omega), shr_u32 _ _ hl, shr_u32 _ _ hl, mask_u32 _ _ (Nat.lt_of_le_of_lt (Nat.div_le_self _ _) hl) (by omega), mask_u32 _ _ hl (by omega), top_bit, small_w64 _ _ (by omega), small_u64 _ _ (by omega)]
  unfold expN fracN
  exact Eq.refl _
/-- The class of a number: 0 nought, 1 small, 2 normal, 3 infinite, 4 quiet, 5 signal. -/
def clsN (f : Int) (v : Nat) : Nat :=
  if expN f v = 0 then (if fracN f v = 0 then 0 else 1) else if expN f v < topN f then 2 else if fracN f v = 0 then 3 else if fracN f v / 2 ^ (fm f - 1) = 1 then 4 else 5
theorem ref_class_ev (f : Int) (v : Nat) (hv : v < 4294967296) : Ev (fun k => annealref1_Class.f k f (v : Int)) (clsN f (lowN f v) : Int) := by
  obtain ⟨b1, b2, b3, b4, b5⟩ := fbounds f
  have h31 := pow_le31 (show fe f ≤ 31 by omega)
  have h0 := Nat.two_pow_pos (fe f)
  have hfr := frac_lt f (lowN f v)
  have h31' := pow_le31 (show fm f ≤ 31 by omega)
  refine ⟨1, fun k hk => ?_⟩
  obtain ⟨k, rfl⟩ : ∃ j, k = j + 1 := ⟨k - 1, by omega⟩
  unfold annealref1_Class.f clsN
  rw [ref_widths_f, ref_parts_f f v hv]
  simp only [Option.bind_some]
  generalize expN f (lowN f v) = e
  generalize fracN f (lowN f v) = m at *
  have ht : wrap64 (((2 ^ fe f : Nat) : Int) - 1) = (topN f : Int) := by rw [w64_id _ (by omega) (by omega)]; unfold topN; omega
  by_cases c : e = 0
  · subst c
    rw [if_pos (by rfl), annealref1_Class.j0, if_pos rfl]
    by_cases c2 : m = 0
    · subst c2; rfl
    · rw [if_neg (by simp; omega), if_pos (by rfl), if_neg c2]; rfl
  · rw [if_neg (by omega), annealref1_Class.j0, if_neg (by decide), if_neg (by omega), if_pos (by omega), one_shl_i64 _ (by omega), ht, if_neg c]
    by_cases c2 : e < topN f
    · rw [if_pos (by omega), if_pos c2]; rfl
    · rw [if_neg (by omega), if_neg c2]
      by_cases c3 : m = 0
      · rw [if_pos (by omega), if_pos c3]; rfl
      · rw [if_neg (by omega), if_neg c3, w64_id _ (by omega) (by omega), if_pos (by omega), show (fm f : Int) - 1 = ((fm f - 1 : Nat) : Int) by omega, shr_u64 _ _ (by omega)]
        by_cases c4 : m / 2 ^ (fm f - 1) = 1
        · rw [if_pos (by rw [c4]; rfl), if_pos c4]; rfl
        · rw [if_neg (by omega), if_neg c4]; rfl
theorem cls_finite (f : Int) (v : Nat) : clsN f v < 3 ↔ expN f v < topN f := by
  have := top_cases f
  unfold clsN
  split
  · split <;> omega
  · split
    · omega
    · split
      · omega
      · split <;> omega
/-- A finite number's whole number, the exponent of its lowest bit. -/
def wholeN (f : Int) (v : Nat) : Nat := if expN f v = 0 then fracN f v else fracN f v + 2 ^ fm f
def lowestN (f : Int) (v : Nat) : Int := leastN f - fm f + (expN f v - 1 : Nat)
theorem or_top (m n : Nat) (h : m < 2 ^ n) (hn : n ≤ 31) : Go.bits .or .u64 (m : Int) (shl .u64 1 (n : Int)) = ((m + 2 ^ n : Nat) : Int) := by
  have h31 := pow_le31 hn
  rw [show (1 : Int) = ((1 : Nat) : Int) from rfl, shl_u64, Nat.one_mul, Nat.mod_eq_of_lt (by omega), or_u64 _ _ (by omega) (by omega), Nat.or_comm, or_add _ _ n (by simp) h, Nat.add_comm]
theorem clear_top (a n : Nat) (h : a < 2 ^ (n + 1)) (hn : n ≤ 31) : Go.bits .andNot .u32 (a : Int) ((2 ^ n : Nat) : Int) = ((a % 2 ^ n : Nat) : Int) := by
  have h32 := pow_le32 (show n + 1 ≤ 32 by omega)
  have h31 := pow_le31 hn
  have e : (BitVec.ofInt 32 (a : Int) &&& ~~~ BitVec.ofInt 32 ((2 ^ n : Nat) : Int)).toNat = a % 2 ^ n := by
    rw [BitVec.ofInt_natCast, BitVec.ofInt_natCast]
    apply Nat.eq_of_testBit_eq
    intro i
    rw [BitVec.testBit_toNat, BitVec.getLsbD_and, BitVec.getLsbD_not, BitVec.getLsbD_ofNat, BitVec.getLsbD_ofNat, Nat.testBit_mod_two_pow, Nat.testBit_two_pow]
    by_cases c : i < n
    · have c1 : i < 32 := by omega
      have c2 : ¬ n = i := by omega
      simp [c, c1, c2]
    · by_cases c3 : n = i
      · subst c3; simp
      · have : a.testBit i = false := Nat.testBit_lt_two_pow (Nat.lt_of_lt_of_le h (Nat.pow_le_pow_right (by decide) (by omega)))
        simp [c, this]
  show IntKind.u32.wrap (((BitVec.ofInt 32 (a : Int) &&& ~~~ BitVec.ofInt 32 ((2 ^ n : Nat) : Int)).toNat : Nat) : Int) = _
  rw [e]
  have : a % 2 ^ n ≤ a := Nat.mod_le _ _
  rw [u32_wrap]; omega
theorem ref_neg_f (f : Int) (v : Nat) (hv : v < 4294967296) : annealref1_neg.f f (v : Int) = some (negN f (lowN f v)) := by
  unfold annealref1_neg.f; rw [ref_parts_f f v hv]; rfl
/-- A number's place in the order. -/
def placeN (f : Int) (v : Nat) : Int := if negN f v then -1 - ((v % 2 ^ (fe f + fm f) : Nat) : Int) else ((v % 2 ^ (fe f + fm f) : Nat) : Int)
theorem ref_key_f (f : Int) (v : Nat) (hv : v < 4294967296) : annealref1_Key.f f (v : Int) = some (placeN f (lowN f v)) := by
  unfold annealref1_Key.f placeN
  obtain ⟨b1, b2, b3, b4, b5⟩ := fbounds f
  have h31 := pow_le31 b5
  have hm := Nat.mod_lt (lowN f v) (Nat.two_pow_pos (fe f + fm f))
  rw [ref_mask_f, ref_sign_f, ref_neg_f f v hv]
  simp only [Option.bind_some]
  rw [and_mask f v hv, show signN f true = 2 ^ (fe f + fm f) from rfl, clear_top _ _ (low_lt f v) b5]
  generalize lowN f v % 2 ^ (fe f + fm f) = q at *
  rw [w64_id (q : Int) (by omega) (by omega), w64_id _ (by omega) (by omega)]
  split <;> rfl
end Go.Proofs.Ytoljndjpnbdjmaa.Round

/- What is a number already is rounded to it; a greater number isn't rounded to a lesser one: of the plain numbers that the rounding computes. -/
namespace Go.Proofs.Ytoljndjpnbdjmaa.Round
open Go.RowKit Go.Proofs.Ytoljndjpnbdjmaa.P Go.Proofs.Ytoljndjpnbdjmaa.Num Go.Proofs.Ytoljndjpnbdjmaa.BitsF Go.Proofs.Ytoljndjpnbdjmaa.Fmt Go.Proofs.YtoljndjpnbdjmaaW.PrintWords Go.Proofs.YtoljndjpnbdjmaaW.PrintLast Go.Proofs.YtoljndjpnbdjmaaW.PrintMore

theorem up_none (mode : Int) (neg : Bool) (q : Nat) : upN mode neg q 0 = false := by unfold upN; simp
/-- A whole number of units, of one's own binade or of the least one, with noughts behind. -/
theorem exact_all (f : Int) (M s r : Nat) (hM : M < 2 ^ (fm f + 1)) (hr : r = 0 ∨ 2 ^ fm f ≤ M) :
    riseN f (leastN f - fm f + r - s) (M * 2 ^ s) = r ∧ quoN (M * 2 ^ s) (unitN f (leastN f - fm f + r - s) (M * 2 ^ s) - (leastN f - fm f + r - s)) = M ∧ leftN (M * 2 ^ s) (unitN f (leastN f - fm f + r - s) (M * 2 ^ s) - (leastN f - fm f + r - s)) false = 0 := by
  have hrise : riseN f (leastN f - fm f + r - s) (M * 2 ^ s) = r := by
    unfold riseN
    by_cases c : M = 0
    · subst c
      rw [Nat.zero_mul, if_pos rfl]
      rcases hr with h | h
      · exact h.symm
      · have := Nat.two_pow_pos (fm f); omega
    · rw [if_neg (Nat.mul_ne_zero c (Nat.ne_of_gt (Nat.two_pow_pos s))), lenN_mul M s c]
      have h1 := lenN_bound M (fm f + 1) hM
      have h2 := lenN_pos M c
      have h3 : r ≠ 0 → fm f < lenN M := fun h => lenN_ge M (fm f) (hr.resolve_left h)
      omega
  have hu : unitN f (leastN f - fm f + r - s) (M * 2 ^ s) - (leastN f - fm f + r - s) = (s : Int) := by
    unfold unitN; rw [hrise]; omega
  rw [hu]
  have hp := Nat.two_pow_pos s
  refine ⟨hrise, ?_, left_none _ (.inr ?_)⟩
  · unfold quoN
    by_cases c : (s : Int) ≤ 0
    · obtain rfl : s = 0 := by omega
      simp
    · rw [if_neg c, Int.toNat_natCast, Nat.mul_div_cancel _ hp]
  · rw [Int.toNat_natCast, Nat.mul_mod_left]
theorem whole_lt (f : Int) (v : Nat) : wholeN f v < 2 ^ (fm f + 1) := by
  have hf := frac_lt f v
  have hs : 2 ^ (fm f + 1) = 2 * 2 ^ fm f := by rw [Nat.pow_succ, Nat.mul_comm]
  unfold wholeN; split <;> omega

/-! ### a greater number -/
/-- What is left, by the rest and a half. -/
def restN (r h : Nat) (more : Bool) : Nat := if r < h then (if r = 0 ∧ more = false then 0 else 1) else if r = h ∧ more = false then 2 else 3
theorem left_rest (s : Nat) (d : Int) (more : Bool) (hd : ¬ d ≤ 0) : leftN s d more = restN (s % 2 ^ d.toNat) (2 ^ (d.toNat - 1)) more := by
  obtain ⟨m, hm⟩ : ∃ m, d.toNat = m + 1 := ⟨d.toNat - 1, by omega⟩
  have hh := Nat.two_pow_pos m
  have hs : 2 ^ (m + 1) = 2 ^ m * 2 := Nat.pow_succ ..
  have h1 := Nat.mod_lt s (Nat.two_pow_pos (m + 1))
  have h3 : s / 2 ^ m = (s / 2 ^ (m + 1)) * 2 + (s % 2 ^ (m + 1)) / 2 ^ m := by
    have h2 := Nat.div_add_mod s (2 ^ (m + 1))
    rw [hs] at h2 ⊢
    have e : s = 2 ^ m * (s / (2 ^ m * 2) * 2) + s % (2 ^ m * 2) := by
      rw [← Nat.mul_assoc, Nat.mul_right_comm]; exact h2.symm
    exact (congrArg (· / 2 ^ m) e).trans (Nat.mul_add_div hh _ _)
  have h4 : s % 2 ^ m = s % 2 ^ (m + 1) % 2 ^ m := by rw [hs, Nat.mod_mul_right_mod]
  have hz : ¬ s % 2 ^ (m + 1) = 0 → leftN s d more = if s / 2 ^ m % 2 = 0 then 1 else if s % 2 ^ m ≠ 0 ∨ more = true then 3 else 2 := by
    intro h'
    have := left_some more hd (by rw [hm]; exact h')
    rw [hm, Nat.add_sub_cancel] at this; exact this
  rw [hm, Nat.add_sub_cancel]
  by_cases c : s % 2 ^ (m + 1) = 0
  · rw [left_none _ (.inr (by rw [hm]; exact c)), c]
    unfold restN
    rw [if_pos hh]
    cases more <;> simp
  · rw [hz c, h3, h4]
    generalize s % 2 ^ (m + 1) = r at *
    unfold restN
    by_cases lt : r < 2 ^ m
    · rw [if_pos lt, Nat.div_eq_of_lt lt, if_pos (by omega), if_neg (by omega)]
    · have e1 : r / 2 ^ m = 1 := Nat.div_eq_of_lt_le (by omega) (by omega)
      have e2 : r % 2 ^ m = r - 2 ^ m := by rw [Nat.mod_eq_sub_mod (by omega), Nat.mod_eq_of_lt (by omega)]
      rw [if_neg lt, e1, e2, if_neg (by omega)]
      by_cases e3 : r = 2 ^ m
      · subst e3; cases more <;> simp
      · rw [if_pos (.inl (by omega)), if_neg (by omega)]
theorem rest_mono {r r' h : Nat} {more less : Bool} (hr : r ≤ r') (hm : r = r' → more = true → less = true) : restN r h more ≤ restN r' h less := by
  unfold restN
  rcases Nat.lt_or_eq_of_le hr with c | c
  · split <;> split <;> (first | (split <;> split <;> omega) | (split <;> omega) | omega)
  · subst c
    have := hm rfl
    split <;> cases more <;> cases less <;> simp_all <;> split <;> omega
theorem up_mono (mode : Int) (neg : Bool) (q l l' : Nat) (hl : l ≤ l') (hl' : l' ≤ 3) (h : upN mode neg q l = true) : upN mode neg q l' = true := by
  unfold upN at *
  by_cases m1 : mode = 1
  · simp [m1] at h
  · by_cases m2 : mode = 2
    · simp [m2] at h ⊢; exact ⟨h.1, by omega⟩
    · by_cases m3 : mode = 3
      · simp [m3] at h ⊢; exact ⟨h.1, by omega⟩
      · by_cases m4 : mode = 4
        · simp [m4] at h ⊢; omega
        · simp [m1, m2, m3, m4] at h ⊢; omega
theorem len_mono {a b : Nat} (h : a ≤ b) : lenN a ≤ lenN b := lenN_bound a _ (Nat.lt_of_le_of_lt h (lenN_lt b))
theorem rise_mono (f x : Int) {a b : Nat} (h : a ≤ b) : riseN f x a ≤ riseN f x b := by
  have hl := len_mono h
  unfold riseN
  split
  · omega
  · rw [if_neg (by omega)]; omega
theorem quo_mono (d : Int) {a b : Nat} (h : a ≤ b) : quoN a d ≤ quoN b d := by
  unfold quoN; split
  · exact Nat.mul_le_mul_right _ h
  · exact Nat.div_le_div_right h
theorem left_mono (d : Int) {a b : Nat} {more less : Bool} (h : a ≤ b) (hm : a = b → more = true → less = true) (hq : quoN a d = quoN b d) : leftN a d more ≤ leftN b d less := by
  by_cases c : d ≤ 0
  · have e : a = b := by
      unfold quoN at hq; rw [if_pos c, if_pos c] at hq
      exact Nat.eq_of_mul_eq_mul_right (Nat.two_pow_pos _) hq
    subst e
    rw [left_none _ (.inl c), left_none _ (.inl c)]
    have := hm rfl
    cases more <;> cases less <;> simp_all
  · rw [left_rest a d _ c, left_rest b d _ c]
    unfold quoN at hq; rw [if_neg c, if_neg c] at hq
    have h1 := Nat.div_add_mod a (2 ^ d.toNat)
    have h2 := Nat.div_add_mod b (2 ^ d.toNat)
    rw [hq] at h1
    apply rest_mono
    · omega
    · intro e; exact hm (by omega)
theorem key_mono (f mode : Int) (neg : Bool) (x : Int) {a b : Nat} {more less : Bool} (h : a ≤ b) (hm : a = b → more = true → less = true) : keyN f mode neg x a more ≤ keyN f mode neg x b less := by
  have hr := rise_mono f x h
  obtain ⟨qa, _⟩ := quo_bounds f x a
  obtain ⟨_, qb⟩ := quo_bounds f x b
  have hs : 2 ^ (fm f + 1) = 2 * 2 ^ fm f := by rw [Nat.pow_succ, Nat.mul_comm]
  unfold keyN
  rcases Nat.lt_or_eq_of_le hr with c | c
  · have q := qb (by omega)
    have h1 : (riseN f x a + 1) * 2 ^ fm f ≤ riseN f x b * 2 ^ fm f := Nat.mul_le_mul_right _ c
    rw [Nat.add_mul, Nat.one_mul] at h1
    generalize quoN a (unitN f x a - x) = u at *
    generalize quoN b (unitN f x b - x) = w at *
    split <;> split <;> omega
  · have hu : unitN f x a = unitN f x b := by unfold unitN; rw [c]
    rw [hu, c]
    have hq := quo_mono (unitN f x b - x) h
    rcases Nat.lt_or_eq_of_le hq with d | d
    · split <;> split <;> omega
    · have hl := left_mono (unitN f x b - x) h hm d
      have hl3 := left_le b (unitN f x b - x) less
      rw [d]
      by_cases u : upN mode neg (quoN b (unitN f x b - x)) (leftN a (unitN f x b - x) more) = true
      · rw [if_pos u, if_pos (up_mono mode neg _ _ _ hl hl3 u)]
        exact Nat.le_refl _
      · rw [if_neg u]; split <;> omega
end Go.Proofs.Ytoljndjpnbdjmaa.Round

/- Amounts: what a number's bits without its sign stand for, in units of the least number; rounding depends on the amount alone. -/
namespace Go.Proofs.Ytoljndjpnbdjmaa.Round
open Go.RowKit Go.Proofs.Ytoljndjpnbdjmaa.P Go.Proofs.Ytoljndjpnbdjmaa.Num Go.Proofs.Ytoljndjpnbdjmaa.BitsF Go.Proofs.Ytoljndjpnbdjmaa.Fmt Go.Proofs.YtoljndjpnbdjmaaW.PrintWords Go.Proofs.YtoljndjpnbdjmaaW.PrintLast Go.Proofs.YtoljndjpnbdjmaaW.PrintMore

def magN (f : Int) (v : Nat) : Nat := v % 2 ^ (fe f + fm f)
def amtN (f : Int) (K : Nat) : Nat := (if K / 2 ^ fm f = 0 then K % 2 ^ fm f else K % 2 ^ fm f + 2 ^ fm f) * 2 ^ (K / 2 ^ fm f - 1)
theorem amt_lt (f : Int) (K : Nat) : amtN f K < 2 ^ fm f * 2 ^ (K / 2 ^ fm f) := by
  have hm := Nat.mod_lt K (Nat.two_pow_pos (fm f))
  unfold amtN
  generalize K % 2 ^ fm f = m at *
  generalize K / 2 ^ fm f = E at *
  by_cases c : E = 0
  · subst c; rw [if_pos rfl]; simpa using hm
  · rw [if_neg c]
    have e : 2 ^ fm f * 2 ^ E = (2 ^ fm f + 2 ^ fm f) * 2 ^ (E - 1) := by
      obtain ⟨j, rfl⟩ : ∃ j, E = j + 1 := ⟨E - 1, by omega⟩
      rw [Nat.add_sub_cancel, Nat.pow_succ, Nat.add_mul, ← Nat.mul_assoc]; omega
    rw [e]
    exact Nat.mul_lt_mul_of_pos_right (by omega) (Nat.two_pow_pos _)
theorem amt_ge (f : Int) (K : Nat) (h : K / 2 ^ fm f ≠ 0) : 2 ^ fm f * 2 ^ (K / 2 ^ fm f - 1) ≤ amtN f K := by
  unfold amtN; rw [if_neg h]
  exact Nat.mul_le_mul_right _ (Nat.le_add_left _ _)
theorem amt_mono (f : Int) {K L : Nat} (h : K ≤ L) : amtN f K ≤ amtN f L := by
  have hd := Nat.div_le_div_right (c := 2 ^ fm f) h
  rcases Nat.lt_or_eq_of_le hd with c | c
  · have h1 := amt_lt f K
    have h2 := amt_ge f L (Nat.ne_of_gt (Nat.lt_of_le_of_lt (Nat.zero_le _) c))
    have h3 : 2 ^ fm f * 2 ^ (K / 2 ^ fm f) ≤ 2 ^ fm f * 2 ^ (L / 2 ^ fm f - 1) := Nat.mul_le_mul_left _ (Nat.pow_le_pow_right (by decide) (Nat.le_sub_one_of_lt c))
    omega
  · have h1 := Nat.div_add_mod K (2 ^ fm f)
    have h2 := Nat.div_add_mod L (2 ^ fm f)
    unfold amtN
    rw [c] at h1 ⊢
    refine Nat.mul_le_mul_right _ ?_
    split <;> omega
/-- So many units of a binade. -/
theorem amt_key (f : Int) (r q : Nat) (hq : q ≤ 2 ^ (fm f + 1)) (hr : r = 0 ∨ 2 ^ fm f ≤ q) : amtN f (r * 2 ^ fm f + q) = q * 2 ^ r := by
  have hp := Nat.two_pow_pos (fm f)
  have hs : 2 ^ (fm f + 1) = 2 * 2 ^ fm f := by rw [Nat.pow_succ, Nat.mul_comm]
  unfold amtN
  by_cases c : q < 2 ^ fm f
  · obtain rfl : r = 0 := by omega
    rw [Nat.zero_mul, Nat.zero_add, Nat.div_eq_of_lt c, if_pos rfl, Nat.mod_eq_of_lt c]
  · by_cases c2 : q = 2 ^ (fm f + 1)
    · have e : r * 2 ^ fm f + q = (r + 2) * 2 ^ fm f := by rw [c2, hs, Nat.add_mul]
      rw [e, Nat.mul_div_cancel _ hp, Nat.mul_mod_left, if_neg (by omega), show r + 2 - 1 = r + 1 from rfl, c2, hs, Nat.pow_succ, Nat.zero_add]
      rw [Nat.mul_comm (2 ^ r) 2, ← Nat.mul_assoc, Nat.mul_comm (2 ^ fm f) 2]
    · have e : r * 2 ^ fm f + q = (q - 2 ^ fm f) + 2 ^ fm f * (r + 1) := by rw [Nat.mul_add, Nat.mul_one, Nat.mul_comm r]; omega
      rw [e, Nat.add_mul_div_left _ _ hp, Nat.add_mul_mod_self_left, Nat.div_eq_of_lt (by omega), Nat.mod_eq_of_lt (by omega), if_neg (by omega), show 0 + (r + 1) - 1 = r by omega]
      congr 1; omega
/-- The same number, with noughts behind. -/
theorem rest_scale (r h j : Nat) : restN (r * 2 ^ j) (h * 2 ^ j) false = restN r h false := by
  have hp := Nat.two_pow_pos j
  unfold restN
  have h1 : r * 2 ^ j < h * 2 ^ j ↔ r < h := Nat.mul_lt_mul_right hp
  have h2 : r * 2 ^ j = 0 ↔ r = 0 := by rw [Nat.mul_eq_zero]; omega
  have h3 : r * 2 ^ j = h * 2 ^ j ↔ r = h := ⟨fun e => Nat.eq_of_mul_eq_mul_right hp e, fun e => by rw [e]⟩
  simp only [h1, h2, h3]
theorem left_exact (s : Nat) (d : Int) (h : d ≤ 0 ∨ s % 2 ^ d.toNat = 0) : leftN s d false = 0 := left_none false h
theorem quo_scale (s j : Nat) (d : Int) : quoN (s * 2 ^ j) d = quoN s (d - j) ∧ leftN (s * 2 ^ j) d false = leftN s (d - j) false := by
  by_cases c : d ≤ 0
  · rw [left_exact _ _ (.inl c), left_exact _ _ (.inl (by omega))]
    refine ⟨?_, rfl⟩
    unfold quoN
    rw [if_pos c, if_pos (by omega), show (-(d - (j : Int))).toNat = j + (-d).toNat by omega, Nat.pow_add, Nat.mul_assoc]
  · obtain ⟨n, rfl⟩ := nat_of (show 0 ≤ d by omega)
    by_cases c2 : (n : Int) - j ≤ 0
    · obtain ⟨i, rfl⟩ : ∃ i, j = n + i := ⟨j - n, by omega⟩
      have e : s * 2 ^ (n + i) = s * 2 ^ i * 2 ^ n := by rw [Nat.add_comm, Nat.pow_add, Nat.mul_assoc]
      have hp := Nat.two_pow_pos n
      constructor
      · unfold quoN
        rw [if_neg c, if_pos c2, Int.toNat_natCast, e, Nat.mul_div_cancel _ hp, show (-((n : Int) - ((n + i : Nat) : Int))).toNat = i by omega]
      · rw [left_exact _ _ (.inr (by rw [Int.toNat_natCast, e, Nat.mul_mod_left])), left_exact _ _ (.inl c2)]
    · obtain ⟨i, rfl⟩ : ∃ i, n = i + j := ⟨n - j, by omega⟩
      have hp := Nat.two_pow_pos j
      have e : ((i + j : Nat) : Int) - (j : Int) = (i : Int) := by omega
      rw [e] at c2 ⊢
      have hi : i ≠ 0 := by omega
      constructor
      · unfold quoN
        rw [if_neg c, if_neg c2, Int.toNat_natCast, Int.toNat_natCast, Nat.pow_add, Nat.mul_div_mul_right _ _ hp]
      · rw [left_rest _ _ _ c, left_rest _ _ _ c2, Int.toNat_natCast, Int.toNat_natCast, Nat.pow_add, Nat.mul_mod_mul_right, show i + j - 1 = i - 1 + j by omega, Nat.pow_add, rest_scale]
theorem rise_scale (f x : Int) (s j : Nat) : riseN f x (s * 2 ^ j) = riseN f (x + j) s := by
  unfold riseN
  by_cases c : s = 0
  · subst c; rw [Nat.zero_mul, if_pos rfl, if_pos rfl]
  · rw [if_neg (Nat.mul_ne_zero c (Nat.ne_of_gt (Nat.two_pow_pos j))), if_neg c, lenN_mul s j c]
    congr 1; omega
theorem key_scale (f mode : Int) (neg : Bool) (x : Int) (s j : Nat) : keyN f mode neg x (s * 2 ^ j) false = keyN f mode neg (x + j) s false := by
  have hr := rise_scale f x s j
  have hu : unitN f x (s * 2 ^ j) = unitN f (x + j) s := by unfold unitN; rw [hr]
  obtain ⟨hq, hl⟩ := quo_scale s j (unitN f (x + j) s - x)
  rw [show unitN f (x + j) s - x - j = unitN f (x + j) s - (x + j) by omega] at hq hl
  unfold keyN
  rw [hr, hu, hq, hl]
theorem exact_key (f mode : Int) (neg : Bool) (M s r : Nat) (hM : M < 2 ^ (fm f + 1)) (hr : r = 0 ∨ 2 ^ fm f ≤ M) : keyN f mode neg (leastN f - fm f + r - s) (M * 2 ^ s) false = r * 2 ^ fm f + M := by
  obtain ⟨h1, h2, h3⟩ := exact_all f M s r hM hr
  unfold keyN; rw [h3, up_none, h1, h2]; simp
theorem key_amt (f mode : Int) (neg : Bool) (K : Nat) : keyN f mode neg (leastN f - fm f) (amtN f K) false = K := by
  have hm := Nat.mod_lt K (Nat.two_pow_pos (fm f))
  have hd := Nat.div_add_mod K (2 ^ fm f)
  have hs : 2 ^ (fm f + 1) = 2 * 2 ^ fm f := by rw [Nat.pow_succ, Nat.mul_comm]
  unfold amtN
  generalize K % 2 ^ fm f = m at *
  generalize K / 2 ^ fm f = E at *
  by_cases c : E = 0
  · subst c
    have h := exact_key f mode neg m 0 0 (by omega) (.inl rfl)
    simp at h hd ⊢
    rw [h, hd]
  · rw [if_neg c]
    have h := exact_key f mode neg (m + 2 ^ fm f) (E - 1) (E - 1) (by omega) (.inr (by omega))
    rw [show leastN f - (fm f : Int) + ((E - 1 : Nat) : Int) - ((E - 1 : Nat) : Int) = leastN f - fm f by omega] at h
    rw [h]
    have h2 : E * 2 ^ fm f = (E - 1) * 2 ^ fm f + 2 ^ fm f := by rw [← Nat.succ_mul]; congr 1; omega
    rw [Nat.mul_comm] at hd
    omega
/-- A number's amount, by its whole number. -/
theorem mag_parts (f : Int) (v : Nat) : magN f v / 2 ^ fm f = expN f v ∧ magN f v % 2 ^ fm f = fracN f v := by
  unfold magN expN fracN
  rw [Nat.add_comm (fe f), Nat.pow_add]
  exact ⟨Nat.mod_mul_right_div_self .., Nat.mod_mul_right_mod ..⟩
theorem amt_whole (f : Int) (v : Nat) : amtN f (magN f v) = wholeN f v * 2 ^ (expN f v - 1) := by
  obtain ⟨h1, h2⟩ := mag_parts f v
  unfold amtN wholeN; rw [h1, h2]
/-- Rounding of a finite number's amount: by units of the least. -/
theorem key_whole (g f mode : Int) (neg : Bool) (v : Nat) : keyN f mode neg (lowestN g v) (wholeN g v) false = keyN f mode neg (leastN g - fm g) (amtN g (magN g v)) false := by
  rw [amt_whole, key_scale]; rfl
end Go.Proofs.Ytoljndjpnbdjmaa.Round
