/- What is a number already is rounded to it; a greater number isn't rounded to a lesser one: of the plain numbers that the rounding computes. -/
import Derived.Test.YtoljndjpnbdjmaaRefParts
namespace Go.Proofs.Ytoljndjpnbdjmaa.Round
open Go.RowKit Go.Proofs.Ytoljndjpnbdjmaa.P Go.Proofs.Ytoljndjpnbdjmaa.Num Go.Proofs.Ytoljndjpnbdjmaa.BitsF Go.Proofs.Ytoljndjpnbdjmaa.Fmt Go.Proofs.YtoljndjpnbdjmaaW.PrintWords Go.Proofs.YtoljndjpnbdjmaaW.PrintLast Go.Proofs.YtoljndjpnbdjmaaW.PrintMore

theorem up_none (mode : Int) (neg : Bool) (q : Nat) : upN mode neg q 0 = false := by unfold upN; simp
/-- A whole number of units, of one's own binade or of the least one, with noughts behind. -/
theorem exact_all (f : Int) (M s r : Nat) (hM : M < 2 ^ (fm f + 1)) (hr : r = 0 ∨ 2 ^ fm f ≤ M) :
    riseN f (leastN f - fm f + r - s) (M * 2 ^ s) = r ∧ quoN (M * 2 ^ s) (unitN f (leastN f - fm f + r - s) (M * 2 ^ s) - (leastN f - fm f + r - s)) = M ∧ leftN (M * 2 ^ s) (unitN f (leastN f - fm f + r - s) (M * 2 ^ s) - (leastN f - fm f + r - s)) false = 0 := by
  have hrise : riseN f (leastN f - fm f + r - s) (M * 2 ^ s) = r := by
    unfold riseN
    by_cases c : M = 0
    · subst c
      rw [Nat.zero_mul, if_pos rfl]
      rcases hr with h | h
      · exact h.symm
      · have := Nat.two_pow_pos (fm f); omega
    · rw [if_neg (Nat.mul_ne_zero c (Nat.ne_of_gt (Nat.two_pow_pos s))), lenN_mul M s c]
      have h1 := lenN_bound M (fm f + 1) hM
      have h2 := lenN_pos M c
      have h3 : r ≠ 0 → fm f < lenN M := fun h => lenN_ge M (fm f) (hr.resolve_left h)
      omega
  have hu : unitN f (leastN f - fm f + r - s) (M * 2 ^ s) - (leastN f - fm f + r - s) = (s : Int) := by
    unfold unitN; rw [hrise]; omega
  rw [hu]
  have hp := Nat.two_pow_pos s
  refine ⟨hrise, ?_, left_none _ (.inr ?_)⟩
  · unfold quoN
    by_cases c : (s : Int) ≤ 0
    · obtain rfl : s = 0 := by omega
      simp
    · rw [if_neg c, Int.toNat_natCast, Nat.mul_div_cancel _ hp]
  · rw [Int.toNat_natCast, Nat.mul_mod_left]
theorem exact_pack (f mode : Int) (neg : Bool) (M s r : Nat) (hM : M < 2 ^ (fm f + 1)) (hr : r = 0 ∨ 2 ^ fm f ≤ M) (ht : r * 2 ^ fm f + M < topN f * 2 ^ fm f) :
    packN f mode neg (leastN f - fm f + r - s) (M * 2 ^ s) false = r * 2 ^ fm f + M + signN f neg ∧ excN f mode neg (leastN f - fm f + r - s) (M * 2 ^ s) false = (false, false, false) := by
  obtain ⟨h1, h2, h3⟩ := exact_all f M s r hM hr
  have hk : keyN f mode neg (leastN f - fm f + r - s) (M * 2 ^ s) false = r * 2 ^ fm f + M := by
    unfold keyN; rw [h3, up_none, h1, h2]; simp
  have ho : overN f (r * 2 ^ fm f + M) = false := by unfold overN; rw [decide_eq_false_iff_not]; omega
  constructor
  · unfold packN; rw [hk, ho]; simp
  · unfold excN underN inexN; rw [hk, ho, h3]; simp
/-- A finite number, rounded. -/
theorem finite_pack (f mode : Int) (v s : Nat) (h : expN f (lowN f v) < topN f) :
    packN f mode (negN f (lowN f v)) (lowestN f (lowN f v) - s) (wholeN f (lowN f v) * 2 ^ s) false = lowN f v ∧ excN f mode (negN f (lowN f v)) (lowestN f (lowN f v) - s) (wholeN f (lowN f v) * 2 ^ s) false = (false, false, false) := by
  have hf := frac_lt f (lowN f v)
  have hp := low_parts f v
  unfold lowestN wholeN
  generalize hx : lowN f v = x at *
  generalize expN f x = e at *
  generalize fracN f x = m at *
  generalize negN f x = neg at *
  have hs : 2 ^ (fm f + 1) = 2 * 2 ^ fm f := by rw [Nat.pow_succ, Nat.mul_comm]
  by_cases c : e = 0
  · subst c
    rw [if_pos rfl]
    have ht : 0 < topN f * 2 ^ fm f := by
      have := top_cases f; exact Nat.mul_pos (by omega) (Nat.two_pow_pos _)
    have h1 : 2 ^ fm f ≤ topN f * 2 ^ fm f := Nat.le_mul_of_pos_left _ (by omega)
    have := exact_pack f mode neg m s 0 (by omega) (.inl rfl) (by omega)
    rw [hp, Nat.zero_mul] at *
    exact this
  · rw [if_neg c]
    have h1 : (e + 1) * 2 ^ fm f ≤ topN f * 2 ^ fm f := Nat.mul_le_mul_right _ h
    rw [Nat.add_mul, Nat.one_mul] at h1
    have h2 : e * 2 ^ fm f = (e - 1) * 2 ^ fm f + 2 ^ fm f := by rw [← Nat.succ_mul]; congr 1; omega
    have h3 : (e - 1) * 2 ^ fm f + (m + 2 ^ fm f) = e * 2 ^ fm f + m := by omega
    have := exact_pack f mode neg (m + 2 ^ fm f) s (e - 1) (by omega) (.inr (by omega)) (by omega)
    rw [h3] at this
    rw [hp]
    exact this
theorem whole_lt (f : Int) (v : Nat) : wholeN f v < 2 ^ (fm f + 1) := by
  have hf := frac_lt f v
  have hs : 2 ^ (fm f + 1) = 2 * 2 ^ fm f := by rw [Nat.pow_succ, Nat.mul_comm]
  unfold wholeN; split <;> omega

/-! ### a greater number -/
/-- What is left, by the rest and a half. -/
def restN (r h : Nat) (more : Bool) : Nat := if r < h then (if r = 0 ∧ more = false then 0 else 1) else if r = h ∧ more = false then 2 else 3
theorem left_rest (s : Nat) (d : Int) (more : Bool) (hd : ¬ d ≤ 0) : leftN s d more = restN (s % 2 ^ d.toNat) (2 ^ (d.toNat - 1)) more := by
  obtain ⟨m, hm⟩ : ∃ m, d.toNat = m + 1 := ⟨d.toNat - 1, by omega⟩
  have hh := Nat.two_pow_pos m
  have hs : 2 ^ (m + 1) = 2 ^ m * 2 := Nat.pow_succ ..
  have h1 := Nat.mod_lt s (Nat.two_pow_pos (m + 1))
  have h3 : s / 2 ^ m = (s / 2 ^ (m + 1)) * 2 + (s % 2 ^ (m + 1)) / 2 ^ m := by
    have h2 := Nat.div_add_mod s (2 ^ (m + 1))
    rw [hs] at h2 ⊢
    have e : s = 2 ^ m * (s / (2 ^ m * 2) * 2) + s % (2 ^ m * 2) := by
      rw [← Nat.mul_assoc, Nat.mul_right_comm]; exact h2.symm
    exact (congrArg (· / 2 ^ m) e).trans (Nat.mul_add_div hh _ _)
  have h4 : s % 2 ^ m = s % 2 ^ (m + 1) % 2 ^ m := by rw [hs, Nat.mod_mul_right_mod]
  have hz : ¬ s % 2 ^ (m + 1) = 0 → leftN s d more = if s / 2 ^ m % 2 = 0 then 1 else if s % 2 ^ m ≠ 0 ∨ more = true then 3 else 2 := by
    intro h'
    have := left_some more hd (by rw [hm]; exact h')
    rw [hm, Nat.add_sub_cancel] at this; exact this
  rw [hm, Nat.add_sub_cancel]
  by_cases c : s % 2 ^ (m + 1) = 0
  · rw [left_none _ (.inr (by rw [hm]; exact c)), c]
    unfold restN
    rw [if_pos hh]
    cases more <;> simp
  · rw [hz c, h3, h4]
    generalize s % 2 ^ (m + 1) = r at *
    unfold restN
    by_cases lt : r < 2 ^ m
    · rw [if_pos lt, Nat.div_eq_of_lt lt, if_pos (by omega), if_neg (by omega)]
    · have e1 : r / 2 ^ m = 1 := Nat.div_eq_of_lt_le (by omega) (by omega)
      have e2 : r % 2 ^ m = r - 2 ^ m := by rw [Nat.mod_eq_sub_mod (by omega), Nat.mod_eq_of_lt (by omega)]
      rw [if_neg lt, e1, e2, if_neg (by omega)]
      by_cases e3 : r = 2 ^ m
      · subst e3; cases more <;> simp
      · rw [if_pos (.inl (by omega)), if_neg (by omega)]
theorem rest_mono {r r' h : Nat} {more less : Bool} (hr : r ≤ r') (hm : r = r' → more = true → less = true) : restN r h more ≤ restN r' h less := by
  unfold restN
  rcases Nat.lt_or_eq_of_le hr with c | c
  · split <;> split <;> (first | (split <;> split <;> omega) | (split <;> omega) | omega)
  · subst c
    have := hm rfl
    split <;> cases more <;> cases less <;> simp_all <;> split <;> omega
theorem up_mono (mode : Int) (neg : Bool) (q l l' : Nat) (hl : l ≤ l') (hl' : l' ≤ 3) (h : upN mode neg q l = true) : upN mode neg q l' = true := by
  unfold upN at *
  by_cases m1 : mode = 1
  · simp [m1] at h
  · by_cases m2 : mode = 2
    · simp [m2] at h ⊢; exact ⟨h.1, by omega⟩
    · by_cases m3 : mode = 3
      · simp [m3] at h ⊢; exact ⟨h.1, by omega⟩
      · by_cases m4 : mode = 4
        · simp [m4] at h ⊢; omega
        · simp [m1, m2, m3, m4] at h ⊢; omega
theorem len_mono {a b : Nat} (h : a ≤ b) : lenN a ≤ lenN b := lenN_bound a _ (Nat.lt_of_le_of_lt h (lenN_lt b))
theorem rise_mono (f x : Int) {a b : Nat} (h : a ≤ b) : riseN f x a ≤ riseN f x b := by
  have hl := len_mono h
  unfold riseN
  split
  · omega
  · rw [if_neg (by omega)]; omega
theorem quo_mono (d : Int) {a b : Nat} (h : a ≤ b) : quoN a d ≤ quoN b d := by
  unfold quoN; split
  · exact Nat.mul_le_mul_right _ h
  · exact Nat.div_le_div_right h
theorem left_mono (d : Int) {a b : Nat} {more less : Bool} (h : a ≤ b) (hm : a = b → more = true → less = true) (hq : quoN a d = quoN b d) : leftN a d more ≤ leftN b d less := by
  by_cases c : d ≤ 0
  · have e : a = b := by
      unfold quoN at hq; rw [if_pos c, if_pos c] at hq
      exact Nat.eq_of_mul_eq_mul_right (Nat.two_pow_pos _) hq
    subst e
    rw [left_none _ (.inl c), left_none _ (.inl c)]
    have := hm rfl
    cases more <;> cases less <;> simp_all
  · rw [left_rest a d _ c, left_rest b d _ c]
    unfold quoN at hq; rw [if_neg c, if_neg c] at hq
    have h1 := Nat.div_add_mod a (2 ^ d.toNat)
    have h2 := Nat.div_add_mod b (2 ^ d.toNat)
    rw [hq] at h1
    apply rest_mono
    · omega
    · intro e; exact hm (by omega)
theorem key_mono (f mode : Int) (neg : Bool) (x : Int) {a b : Nat} {more less : Bool} (h : a ≤ b) (hm : a = b → more = true → less = true) : keyN f mode neg x a more ≤ keyN f mode neg x b less := by
  have hr := rise_mono f x h
  obtain ⟨qa, _⟩ := quo_bounds f x a
  obtain ⟨_, qb⟩ := quo_bounds f x b
  have hs : 2 ^ (fm f + 1) = 2 * 2 ^ fm f := by rw [Nat.pow_succ, Nat.mul_comm]
  unfold keyN
  rcases Nat.lt_or_eq_of_le hr with c | c
  · have q := qb (by omega)
    have h1 : (riseN f x a + 1) * 2 ^ fm f ≤ riseN f x b * 2 ^ fm f := Nat.mul_le_mul_right _ c
    rw [Nat.add_mul, Nat.one_mul] at h1
    generalize quoN a (unitN f x a - x) = u at *
    generalize quoN b (unitN f x b - x) = w at *
    split <;> split <;> omega
  · have hu : unitN f x a = unitN f x b := by unfold unitN; rw [c]
    rw [hu, c]
    have hq := quo_mono (unitN f x b - x) h
    rcases Nat.lt_or_eq_of_le hq with d | d
    · split <;> split <;> omega
    · have hl := left_mono (unitN f x b - x) h hm d
      have hl3 := left_le b (unitN f x b - x) less
      rw [d]
      by_cases u : upN mode neg (quoN b (unitN f x b - x)) (leftN a (unitN f x b - x) more) = true
      · rw [if_pos u, if_pos (up_mono mode neg _ _ _ hl hl3 u)]
        exact Nat.le_refl _
      · rw [if_neg u]; split <;> omega
theorem pack_mono (f mode : Int) (neg : Bool) (x : Int) {a b : Nat} {more less : Bool} (h : a ≤ b) (hm : a = b → more = true → less = true) : packN f mode neg x a more ≤ packN f mode neg x b less := by
  have hk := key_mono f mode neg x h hm
  unfold packN overN
  generalize keyN f mode neg x a more = K at *
  generalize keyN f mode neg x b less = K' at *
  generalize topN f * 2 ^ fm f = T at *
  cases endless mode neg
  · by_cases c : T ≤ K <;> by_cases c' : T ≤ K' <;> simp [c, c'] <;> omega
  · by_cases c : T ≤ K <;> by_cases c' : T ≤ K' <;> simp [c, c'] <;> omega
theorem pack_below (f mode : Int) (x : Int) (a : Nat) (more : Bool) : packN f mode false x a more < 2 ^ (fe f + fm f) := by
  obtain ⟨_, hi⟩ := inf_lt f false
  have hp := Nat.two_pow_pos (fm f)
  have ht : 0 < topN f * 2 ^ fm f := Nat.mul_pos (by have := top_cases f; omega) hp
  unfold packN overN signN
  generalize keyN f mode false x a more = K at *
  generalize topN f * 2 ^ fm f = T at *
  by_cases c : T ≤ K
  · cases endless mode false <;> simp [c] <;> omega
  · simp [c]; omega
end Go.Proofs.Ytoljndjpnbdjmaa.Round
