import Derived.Test.YtejkemahdincjaaQfpM8
import Derived.Test.YtejkemahdincjaaQfpM6
import Derived.Test.YtejkemahdincjaaQfpM5
import Derived.Test.YtejkemahdincjaaQfpM4
/- Which numbers are none, infinite, nought; bits of a format alone: the program's, as plain numbers. -/
set_option linter.unusedVariables false
set_option linter.unusedSimpArgs false
namespace Go.Proofs.Ytejkemahdincjaa.Round
open Go.RowKit Go.Proofs.Ytejkemahdincjaa.P Go.Proofs.Ytejkemahdincjaa.Num Go.Proofs.Ytejkemahdincjaa.BitsF Go.Proofs.Ytejkemahdincjaa.Fmt Go.Proofs.YtejkemahdincjaaW.PrintWords Go.Proofs.YtejkemahdincjaaW.PrintLast Go.Proofs.YtejkemahdincjaaW.PrintMore

theorem pzero_ev (f : Int) (v : Nat) (hv : v < 4294967296) : Ev (fun k => format_IsZero.f k f (v : Int)) (decide (clsN f v = 0)) := by
 refine Ev.congr (fun k => by unfold format_IsZero.f; rfl) (Ev.bind (class_ev f v hv) (Ev.congr (fun k => ?_) (Ev.now _)))
 rw [show (0 : Int) = ((0 : Nat) : Int) from rfl, beq_nn]
theorem pinf_ev (f : Int) (v : Nat) (hv : v < 4294967296) : Ev (fun k => format_IsInf.f k f (v : Int)) (decide (clsN f v = 3)) := by
 refine Ev.congr (fun k => by unfold format_IsInf.f; rfl) (Ev.bind (class_ev f v hv) (Ev.congr (fun k => ?_) (Ev.now _)))
 rw [show (3 : Int) = ((3 : Nat) : Int) from rfl, beq_nn]
theorem pnans_step (f : Int) (L : List Int) (i v : Nat) (b c : Bool) (r : Int × Bool × Bool × Bool × Bool × Bool × Bool) (hi : i < L.length) (hn : L.length ≤ 100) (hv : v < 4294967296) (hr : rd L (i : Int) = (v : Int))
  (h : Ev (fun k => sum_Nans.l0 k f (b || isNan f v) L (L.length : Int) ((i + 1 : Nat) : Int) (c || isLoud f v) false false false false) r) : Ev (fun k => sum_Nans.l0 k f b L (L.length : Int) (i : Int) c false false false false) r := by
 have hw : wrap64 ((i : Int) + 1) = ((i + 1 : Nat) : Int) := by rw [w64_id _ (by omega) (by omega)]; omega
 refine Ev.step (fun k => by rw [sum_Nans.l0, if_pos (by omega), if_pos (Int.natCast_nonneg _), if_pos (by omega), hr, hw]) (Ev.bind (class_ev f v hv) (Ev.congr (fun k => ?_) h))
 have e5 : (((clsN f v : Nat) : Int) == 5) = isLoud f v := by rw [show (5 : Int) = ((5 : Nat) : Int) from rfl, beq_nn]; rfl
 have e4 : decide (((clsN f v : Nat) : Int) ≥ 4) = isNan f v := by unfold isNan; apply decide_eq_decide.mpr; omega
 rw [e5, e4]
 cases b <;> cases c <;> simp
theorem pnans_end (f : Int) (L : List Int) (b c : Bool) : Ev (fun k => sum_Nans.l0 k f b L (L.length : Int) (L.length : Int) c false false false false) ((nanN f : Int), c, false, false, false, false, b) :=
 Ev.step (fun k => by rw [sum_Nans.l0, if_neg (by omega), nan_f]; rfl) (Ev.now _)
theorem pnans2_ev (f : Int) (a b : Nat) (ha : a < 4294967296) (hb : b < 4294967296) : Ev (fun k => sum_Nans.f k f [(a : Int), (b : Int)]) ((nanN f : Int), isLoud f a || isLoud f b, false, false, false, false, isNan f a || isNan f b) := by
 refine Ev.congr (fun k => by unfold sum_Nans.f; rfl) (pnans_step f _ 0 a false false _ (by simp) (by simp) ha rfl (pnans_step f _ 1 b _ _ _ (by simp) (by simp) hb rfl ?_))
 rw [Bool.false_or, Bool.false_or]
 exact pnans_end f [(a : Int), (b : Int)] _ _
theorem none_low (f : Int) (v : Nat) (h : clsN f v = 0) : lowN f v = signN f (negN f v) ∧ wholeN f v = 0 := by
 have hz : expN f v = 0 ∧ fracN f v = 0 := by
  unfold clsN at h
  by_cases c : expN f v = 0
  ·rw [if_pos c] at h
   by_cases d : fracN f v = 0
   ·exact ⟨c, d⟩
   ·rw [if_neg d] at h; omega
  ·rw [if_neg c] at h
   split at h
   ·omega
   ·split at h
    ·omega
    ·split at h <;> omega
 have hp := low_parts f v
 rw [exp_low, frac_low, neg_low, hz.1, hz.2] at hp
 refine ⟨by omega, ?_⟩
 unfold wholeN; rw [if_pos hz.1, hz.2]
theorem inf_low (f : Int) (v : Nat) (h : clsN f v = 3) : lowN f v = infN f (negN f v) := by
 have hz : expN f v = topN f ∧ fracN f v = 0 := by
  have he := exp_le f v
  unfold clsN at h
  by_cases c : expN f v = 0
  ·rw [if_pos c] at h
   split at h <;> omega
  ·rw [if_neg c] at h
   by_cases d : expN f v < topN f
   ·rw [if_pos d] at h; omega
   ·rw [if_neg d] at h
    by_cases z : fracN f v = 0
    ·exact ⟨by omega, z⟩
    ·rw [if_neg z] at h; split at h <;> omega
 have hp := low_parts f v
 rw [exp_low, frac_low, neg_low, hz.1, hz.2] at hp
 unfold infN; omega
theorem key_none (f mode : Int) (neg : Bool) (x : Int) : keyN f mode neg x 0 false = 0 := by
 unfold keyN
 have hr : riseN f x 0 = 0 := by unfold riseN; rw [if_pos rfl]
 have hq : quoN 0 (unitN f x 0 - x) = 0 := by unfold quoN; split <;> simp
 have hl : leftN 0 (unitN f x 0 - x) false = 0 := left_none _ (.inr (by simp))
 unfold upN
 rw [hr, hq, hl]; simp
theorem pack_none (f mode : Int) (neg : Bool) (x : Int) : packN f mode neg x 0 false = signN f neg ∧ excN f mode neg x 0 false = (false, false, false) := by
 have ht := top_cases f
 have hi : 0 < topN f * 2 ^ fm f := Nat.mul_pos (by omega) (Nat.two_pow_pos _)
 have ho : overN f 0 = false := by unfold overN; rw [decide_eq_false_iff_not]; omega
 have hl : leftN 0 (unitN f x 0 - x) false = 0 := left_none _ (.inr (by simp))
 have hin : inexN f x 0 false = false := by unfold inexN; rw [hl]; rfl
 unfold packN excN underN
 rw [key_none, ho, hin]; simp
theorem lowest_near (f : Int) (v : Nat) : -200 ≤ lowestN f v ∧ lowestN f v ≤ 300 := by
 have := least_cases f; have := top_cases f; have := fbounds f; have := exp_le f v
 unfold lowestN; omega
theorem cls_exp (f : Int) (v : Nat) (h : clsN f v < 3) : expN f v < topN f := (cls_finite f v).mp h
/- Sums to all bits that rounding asks for: plain numbers alone. -/

def gapN (s : Nat) : Nat := 62 - lenN s
def meetN (na : Bool) (Ea : Int) (A : Nat) (nb : Bool) (Eb : Int) (B : Nat) : Bool × Int × Nat × Bool :=
 if na = nb then (na, Ea, A + B / 2 ^ (Ea - Eb).toNat, decide (B % 2 ^ (Ea - Eb).toNat ≠ 0))
 else (na, Ea, A - B / 2 ^ (Ea - Eb).toNat - (if B % 2 ^ (Ea - Eb).toNat ≠ 0 then 1 else 0), decide (B % 2 ^ (Ea - Eb).toNat ≠ 0))
def exactN (n1 : Bool) (e1 : Int) (s1 : Nat) (n2 : Bool) (e2 : Int) (s2 : Nat) : Bool × Int × Nat × Bool :=
 if s1 = 0 then (n2, e2, s2, false) else if s2 = 0 then (n1, e1, s1, false)
 else if e1 - (gapN s1 : Int) < e2 - (gapN s2 : Int) ∨ e1 - (gapN s1 : Int) = e2 - (gapN s2 : Int) ∧ s1 * 2 ^ gapN s1 < s2 * 2 ^ gapN s2 then meetN n2 (e2 - (gapN s2 : Int)) (s2 * 2 ^ gapN s2) n1 (e1 - (gapN s1 : Int)) (s1 * 2 ^ gapN s1)
 else meetN n1 (e1 - (gapN s1 : Int)) (s1 * 2 ^ gapN s1) n2 (e2 - (gapN s2 : Int)) (s2 * 2 ^ gapN s2)
theorem gap_bounds (s : Nat) (h : s ≠ 0) (h' : s < 4611686018427387904) : gapN s ≤ 61 ∧ lenN s + gapN s = 62 ∧ 2305843009213693952 ≤ s * 2 ^ gapN s ∧ s * 2 ^ gapN s < 4611686018427387904 := by
 have h1 := lenN_bound s 62 h'
 have h2 := lenN_pos s h
 have e : lenN s + gapN s = 62 := by unfold gapN; omega
 have hp := Nat.two_pow_pos (gapN s)
 have l1 := Nat.mul_le_mul_right (2 ^ gapN s) (lenN_le s h)
 have l2 := Nat.mul_lt_mul_of_pos_right (lenN_lt s) hp
 rw [← Nat.pow_add, show lenN s - 1 + gapN s = 61 by omega] at l1
 rw [← Nat.pow_add, e] at l2
 exact ⟨by omega, e, l1, l2⟩
theorem exact_self (n : Bool) (e : Int) (s : Nat) : (exactN n e s (!n) e s).2.2 = (0, false) := by
 unfold exactN
 by_cases h : s = 0
 ·rw [if_pos h, h]
 ·rw [if_neg h, if_neg h, if_neg (by omega)]
  unfold meetN
  rw [Int.sub_self, show (0 : Int).toNat = 0 from rfl, Nat.pow_zero, Nat.div_one, Nat.mod_one, if_neg (by cases n <;> decide)]
  simp
/- Sums, rounded: plain numbers alone. -/

def noughtN (f mode : Int) (a b : Bool) : Nat := if a = b then signN f a else signN f (decide (mode = 3))
def roundedN (f mode : Int) (a b : Bool) (r : Bool × Int × Nat × Bool) : Nat := if r.2.2 = (0, false) then noughtN f mode a b else packN f mode r.1 r.2.1 r.2.2.1 r.2.2.2
def roundedX (f mode : Int) (r : Bool × Int × Nat × Bool) : Bool × Bool × Bool := if r.2.2 = (0, false) then (false, false, false) else excN f mode r.1 r.2.1 r.2.2.1 r.2.2.2
def pairN (f : Int) (a b : Nat) : Bool × Int × Nat × Bool := exactN (negN f a) (lowestN f a) (wholeN f a) (negN f b) (lowestN f b) (wholeN f b)
def sumN (f mode : Int) (a b : Nat) : Nat :=
 if 4 ≤ clsN f a ∨ 4 ≤ clsN f b then nanN f else if clsN f a = 3 ∧ clsN f b = 3 ∧ negN f a ≠ negN f b then nanN f else if clsN f a = 3 then infN f (negN f a) else if clsN f b = 3 then infN f (negN f b)
 else roundedN f mode (negN f a) (negN f b) (pairN f a b)
def sumX (f mode : Int) (a b : Nat) : Bool × Bool × Bool × Bool × Bool :=
 if 4 ≤ clsN f a ∨ 4 ≤ clsN f b then (isLoud f a || isLoud f b, false, false, false, false) else if clsN f a = 3 ∧ clsN f b = 3 ∧ negN f a ≠ negN f b then (true, false, false, false, false) else if clsN f a = 3 ∨ clsN f b = 3 then (false, false, false, false, false)
 else (false, false, roundedX f mode (pairN f a b))
/- Sums of which nothing is lost: plain numbers alone. -/

theorem pow_split (m E F : Int) (h1 : m ≤ E) (h2 : E ≤ F) : 2 ^ (F - m).toNat = 2 ^ (F - E).toNat * 2 ^ (E - m).toNat := by
 rw [← Nat.pow_add]; congr 1; omega
/- A rounding depends on the value alone: more bits of the same value make no difference. Quotients and roots to so many bits. Plain numbers alone. -/

theorem rest_refine (r h t P : Nat) (m : Bool) (ht : t < P) : restN (r * P + t) (h * P) m = restN r h (m || decide (t ≠ 0)) := by
 have h1 : r * P + t < h * P ↔ r < h := by
  constructor
  ·intro c; exact Nat.lt_of_mul_lt_mul_right (Nat.lt_of_le_of_lt (Nat.le_add_right _ _) c)
  ·intro c
   have := Nat.mul_le_mul_right P (show r + 1 ≤ h from c)
   rw [Nat.add_mul] at this; omega
 have h2 : r * P + t = h * P ↔ r = h ∧ t = 0 := by
  constructor
  ·intro c
   have a : ¬ r < h := fun l => by have := h1.mpr l; omega
   have b : ¬ h < r := fun l => by
    have := Nat.mul_le_mul_right P (show h + 1 ≤ r from l)
    rw [Nat.add_mul] at this; omega
   have e : r = h := by omega
   subst e; exact ⟨rfl, by omega⟩
  ·rintro ⟨rfl, rfl⟩; rfl
 have h3 : r * P + t = 0 ↔ r = 0 ∧ t = 0 := by
  constructor
  ·intro c
   have : r * P = 0 := by omega
   rw [Nat.mul_eq_zero] at this; omega
  ·rintro ⟨rfl, rfl⟩; simp
 unfold restN
 simp only [h1, h2, h3]
 by_cases c : t = 0
 ·subst c; simp
 ·simp [c]
theorem len_refine (s t j : Nat) (ht : t < 2 ^ j) (hs : s ≠ 0) : lenN (s * 2 ^ j + t) = lenN s + j := by
 have hp := Nat.two_pow_pos j
 have h1 : 2 ^ j ≤ s * 2 ^ j := Nat.le_mul_of_pos_left _ (by omega)
 have := lenN_div (s * 2 ^ j + t) j (by omega)
 rw [Nat.mul_comm, Nat.mul_add_div hp, Nat.div_eq_of_lt ht, Nat.add_zero] at this
 rw [Nat.mul_comm s]; omega
theorem some_refine (s t j : Nat) (hs : s ≠ 0) : s * 2 ^ j + t ≠ 0 := by
 have h1 : 2 ^ j ≤ s * 2 ^ j := Nat.le_mul_of_pos_left _ (by omega)
 have hp := Nat.two_pow_pos j
 omega
theorem rise_refine (f x : Int) (s t j : Nat) (ht : t < 2 ^ j) (hs : s ≠ 0) : riseN f x (s * 2 ^ j + t) = riseN f (x + j) s := by
 unfold riseN
 rw [if_neg (some_refine s t j hs), if_neg hs, len_refine s t j ht hs]
 congr 1; omega
theorem unit_refine (f x : Int) (s t j : Nat) (ht : t < 2 ^ j) (hs : s ≠ 0) : unitN f x (s * 2 ^ j + t) = unitN f (x + j) s := by
 unfold unitN; rw [rise_refine f x s t j ht hs]
theorem unit_above (f x : Int) (s : Nat) (hs : 2 ^ (fm f + 1) ≤ s) : 1 ≤ unitN f x s - x ∧ s ≠ 0 := by
 have hl := lenN_ge s (fm f + 1) hs
 have hp := Nat.two_pow_pos (fm f + 1)
 have h0 : s ≠ 0 := by omega
 refine ⟨?_, h0⟩
 unfold unitN riseN
 rw [if_neg h0]; omega
theorem left_refine (f x : Int) (s t j : Nat) (m : Bool) (ht : t < 2 ^ j) (hs : 2 ^ (fm f + 1) ≤ s) :
  quoN (s * 2 ^ j + t) (unitN f x (s * 2 ^ j + t) - x) = quoN s (unitN f (x + j) s - (x + j)) ∧
  leftN (s * 2 ^ j + t) (unitN f x (s * 2 ^ j + t) - x) m = leftN s (unitN f (x + j) s - (x + j)) (m || decide (t ≠ 0)) := by
 obtain ⟨hd, h0⟩ := unit_above f (x + j) s hs
 rw [unit_refine f x s t j ht h0]
 generalize unitN f (x + j) s = U at *
 obtain ⟨d, e⟩ := nat_of (show 0 ≤ U - (x + j) by omega)
 rw [e] at hd ⊢
 rw [show U - x = ((d + j : Nat) : Int) by omega]
 have hp := Nat.two_pow_pos j
 have hq : (s * 2 ^ j + t) / 2 ^ j = s := by rw [Nat.mul_comm, Nat.mul_add_div hp, Nat.div_eq_of_lt ht, Nat.add_zero]
 constructor
 ·unfold quoN
  rw [if_neg (by omega), if_neg (by omega), Int.toNat_natCast, Int.toNat_natCast, Nat.add_comm d j, Nat.pow_add, ← Nat.div_div_eq_div_mul, hq]
 ·rw [left_rest _ _ _ (show ¬ ((d + j : Nat) : Int) ≤ 0 by omega), left_rest _ _ _ (show ¬ (d : Int) ≤ 0 by omega), Int.toNat_natCast, Int.toNat_natCast]
  have h1 : (s * 2 ^ j + t) % 2 ^ (d + j) = s % 2 ^ d * 2 ^ j + t := by
   rw [Nat.add_comm d j, Nat.pow_add, Nat.mod_mul, hq, Nat.mul_comm s, Nat.mul_add_mod, Nat.mod_eq_of_lt ht]
   rw [Nat.add_comm, Nat.mul_comm (2 ^ j)]
  have h2 : 2 ^ (d + j - 1) = 2 ^ (d - 1) * 2 ^ j := by rw [← Nat.pow_add]; congr 1; omega
  rw [h1, h2, rest_refine _ _ _ _ _ ht]
theorem pack_refine (f mode : Int) (neg : Bool) (x : Int) (s t j : Nat) (m : Bool) (ht : t < 2 ^ j) (hs : 2 ^ (fm f + 1) ≤ s) :
  packN f mode neg x (s * 2 ^ j + t) m = packN f mode neg (x + j) s (m || decide (t ≠ 0)) ∧ excN f mode neg x (s * 2 ^ j + t) m = excN f mode neg (x + j) s (m || decide (t ≠ 0)) := by
 obtain ⟨h1, h2⟩ := left_refine f x s t j m ht hs
 have h0 := (unit_above f x s hs).2
 have h3 := rise_refine f x s t j ht h0
 have hk : keyN f mode neg x (s * 2 ^ j + t) m = keyN f mode neg (x + j) s (m || decide (t ≠ 0)) := by unfold keyN; rw [h1, h2, h3]
 have hi : inexN f x (s * 2 ^ j + t) m = inexN f (x + j) s (m || decide (t ≠ 0)) := by unfold inexN; rw [h2]
 have hu : underN f x (s * 2 ^ j + t) m = underN f (x + j) s (m || decide (t ≠ 0)) := by
  unfold underN
  rw [hi, len_refine s t j ht h0, decide_eq_false (some_refine s t j h0), decide_eq_false h0]
  congr 2; apply decide_eq_decide.mpr; omega
 unfold packN excN
 rw [hk, hi, hu]; exact ⟨rfl, rfl⟩
/- Amounts: what a number's bits without its sign stand for, in units of the least number; rounding depends on the amount alone. -/

def magN (f : Int) (v : Nat) : Nat := v % 2 ^ (fe f + fm f)
theorem rest_scale (r h j : Nat) : restN (r * 2 ^ j) (h * 2 ^ j) false = restN r h false := by
 have hp := Nat.two_pow_pos j
 unfold restN
 have h1 : r * 2 ^ j < h * 2 ^ j ↔ r < h := Nat.mul_lt_mul_right hp
 have h2 : r * 2 ^ j = 0 ↔ r = 0 := by rw [Nat.mul_eq_zero]; omega
 have h3 : r * 2 ^ j = h * 2 ^ j ↔ r = h := ⟨fun e => Nat.eq_of_mul_eq_mul_right hp e, fun e => by rw [e]⟩
 simp only [h1, h2, h3]
theorem left_exact (s : Nat) (d : Int) (h : d ≤ 0 ∨ s % 2 ^ d.toNat = 0) : leftN s d false = 0 := left_none false h
theorem quo_scale (s j : Nat) (d : Int) : quoN (s * 2 ^ j) d = quoN s (d - j) ∧ leftN (s * 2 ^ j) d false = leftN s (d - j) false := by
 by_cases c : d ≤ 0
 ·rw [left_exact _ _ (.inl c), left_exact _ _ (.inl (by omega))]
  refine ⟨?_, rfl⟩
  unfold quoN
  rw [if_pos c, if_pos (by omega), show (-(d - (j : Int))).toNat = j + (-d).toNat by omega, Nat.pow_add, Nat.mul_assoc]
 ·obtain ⟨n, rfl⟩ := nat_of (show 0 ≤ d by omega)
  by_cases c2 : (n : Int) - j ≤ 0
  ·obtain ⟨i, rfl⟩ : ∃ i, j = n + i := ⟨j - n, by omega⟩
   have e : s * 2 ^ (n + i) = s * 2 ^ i * 2 ^ n := by rw [Nat.add_comm, Nat.pow_add, Nat.mul_assoc]
   have hp := Nat.two_pow_pos n
   constructor
   ·unfold quoN
    rw [if_neg c, if_pos c2, Int.toNat_natCast, e, Nat.mul_div_cancel _ hp, show (-((n : Int) - ((n + i : Nat) : Int))).toNat = i by omega]
   ·rw [left_exact _ _ (.inr (by rw [Int.toNat_natCast, e, Nat.mul_mod_left])), left_exact _ _ (.inl c2)]
  ·obtain ⟨i, rfl⟩ : ∃ i, n = i + j := ⟨n - j, by omega⟩
   have hp := Nat.two_pow_pos j
   have e : ((i + j : Nat) : Int) - (j : Int) = (i : Int) := by omega
   rw [e] at c2 ⊢
   have hi : i ≠ 0 := by omega
   constructor
   ·unfold quoN
    rw [if_neg c, if_neg c2, Int.toNat_natCast, Int.toNat_natCast, Nat.pow_add, Nat.mul_div_mul_right _ _ hp]
   ·rw [left_rest _ _ _ c, left_rest _ _ _ c2, Int.toNat_natCast, Int.toNat_natCast, Nat.pow_add, Nat.mul_mod_mul_right, show i + j - 1 = i - 1 + j by omega, Nat.pow_add, rest_scale]
theorem rise_scale (f x : Int) (s j : Nat) : riseN f x (s * 2 ^ j) = riseN f (x + j) s := by
 unfold riseN
 by_cases c : s = 0
 ·subst c; rw [Nat.zero_mul, if_pos rfl, if_pos rfl]
 ·rw [if_neg (Nat.mul_ne_zero c (Nat.ne_of_gt (Nat.two_pow_pos j))), if_neg c, lenN_mul s j c]
  congr 1; omega
theorem key_scale (f mode : Int) (neg : Bool) (x : Int) (s j : Nat) : keyN f mode neg x (s * 2 ^ j) false = keyN f mode neg (x + j) s false := by
 have hr := rise_scale f x s j
 have hu : unitN f x (s * 2 ^ j) = unitN f (x + j) s := by unfold unitN; rw [hr]
 obtain ⟨hq, hl⟩ := quo_scale s j (unitN f (x + j) s - x)
 rw [show unitN f (x + j) s - x - j = unitN f (x + j) s - (x + j) by omega] at hq hl
 unfold keyN
 rw [hr, hu, hq, hl]
theorem mag_parts (f : Int) (v : Nat) : magN f v / 2 ^ fm f = expN f v ∧ magN f v % 2 ^ fm f = fracN f v := by
 unfold magN expN fracN
 rw [Nat.add_comm (fe f), Nat.pow_add]
 exact ⟨Nat.mod_mul_right_div_self .., Nat.mod_mul_right_mod ..⟩
/- Bits with a sign, beyond the greatest number: plain numbers alone (for rounds without chapter 9). -/

def infK (f : Int) : Nat := topN f * 2 ^ fm f
theorem infK_lt (f : Int) : infK f < 2 ^ (fe f + fm f) ∧ 0 < infK f := by
 obtain ⟨_, hi⟩ := inf_lt f false
 have hp := Nat.two_pow_pos (fm f)
 have ht : 0 < topN f * 2 ^ fm f := Nat.mul_pos (by have := top_cases f; omega) hp
 unfold infK; omega
theorem sign_parts (f : Int) (P : Nat) (neg : Bool) (h : P < 2 ^ (fe f + fm f)) : negN f (P + signN f neg) = neg ∧ magN f (P + signN f neg) = P ∧ P + signN f neg < 2 ^ (fe f + fm f + 1) := by
 unfold negN magN signN
 have hp := Nat.two_pow_pos (fe f + fm f)
 cases neg
 ·simp only [Bool.false_eq_true, if_false, Nat.add_zero]
  rw [Nat.div_eq_of_lt h, Nat.mod_eq_of_lt h, Nat.pow_succ]
  exact ⟨rfl, rfl, by omega⟩
 ·simp only [if_true]
  rw [Nat.add_div_right _ hp, Nat.div_eq_of_lt h, Nat.add_mod_right, Nat.mod_eq_of_lt h, Nat.pow_succ]
  exact ⟨rfl, rfl, by omega⟩
/- Numbers near one, drawn: plain numbers. -/

def oneN (f : Int) : Nat := topN f / 2
theorem one_cases (f : Int) : fe f = 5 ∧ fm f = 10 ∧ oneN f = 15 ∧ leastN f = -14 ∧ topN f = 31 ∨ fe f = 8 ∧ fm f = 7 ∧ oneN f = 127 ∧ leastN f = -126 ∧ topN f = 255 ∨ fe f = 8 ∧ fm f = 23 ∧ oneN f = 127 ∧ leastN f = -126 ∧ topN f = 255 := by
 unfold oneN topN leastN
 rcases fcases f with ⟨h1, h2⟩ | ⟨h1, h2⟩ | ⟨h1, h2⟩ <;> rw [h1, h2] <;> simp
/- Small whole numbers as numbers: plain numbers alone. -/

theorem pack_even (f mode : Int) (neg : Bool) (x : Int) (s j : Nat) : packN f mode neg x (s * 2 ^ j) false = packN f mode neg (x + j) s false ∧ excN f mode neg x (s * 2 ^ j) false = excN f mode neg (x + j) s false := by
 have hk := key_scale f mode neg x s j
 have hr := rise_scale f x s j
 have hu : unitN f x (s * 2 ^ j) = unitN f (x + j) s := by unfold unitN; rw [hr]
 have hl := (quo_scale s j (unitN f (x + j) s - x)).2
 rw [show unitN f (x + j) s - x - j = unitN f (x + j) s - (x + j) by omega] at hl
 have hi : inexN f x (s * 2 ^ j) false = inexN f (x + j) s false := by unfold inexN; rw [hu, hl]
 have hun : underN f x (s * 2 ^ j) false = underN f (x + j) s false := by
  unfold underN
  rw [hi]
  congr 1
  by_cases c : s = 0
  ·subst c; simp
  ·rw [decide_eq_false c, decide_eq_false (Nat.mul_ne_zero c (Nat.ne_of_gt (Nat.two_pow_pos j))), lenN_mul s j c]
   congr 1; apply decide_eq_decide.mpr; omega
 unfold packN excN
 rw [hk, hi, hun]; exact ⟨rfl, rfl⟩
theorem norm_under (f : Int) (e r : Nat) (h : e < topN f) (hr : r < 2 ^ fm f) : e * 2 ^ fm f + r < infK f := by
 have := Nat.mul_le_mul_right (2 ^ fm f) (show e + 1 ≤ topN f from h)
 rw [Nat.add_mul] at this
 unfold infK; omega
theorem norm_all (f : Int) (neg : Bool) (e r : Nat) (h0 : 1 ≤ e) (h1 : e < topN f) (hr : r < 2 ^ fm f) :
  negN f (e * 2 ^ fm f + r + signN f neg) = neg ∧ magN f (e * 2 ^ fm f + r + signN f neg) = e * 2 ^ fm f + r ∧ e * 2 ^ fm f + r + signN f neg < 2 ^ (fe f + fm f + 1) ∧ e * 2 ^ fm f + r + signN f neg < 4294967296 ∧
  expN f (e * 2 ^ fm f + r + signN f neg) = e ∧ fracN f (e * 2 ^ fm f + r + signN f neg) = r ∧ clsN f (e * 2 ^ fm f + r + signN f neg) = 2 ∧ wholeN f (e * 2 ^ fm f + r + signN f neg) = r + 2 ^ fm f ∧
  lowestN f (e * 2 ^ fm f + r + signN f neg) = leastN f - fm f + ((e - 1 : Nat) : Int) := by
 have hl := norm_under f e r h1 hr
 have hi := (infK_lt f).1
 have hb := fbounds f
 have h32 := pow_le32 (show fe f + fm f + 1 ≤ 32 by omega)
 have hp := Nat.two_pow_pos (fm f)
 obtain ⟨p1, p2, p3⟩ := sign_parts f (e * 2 ^ fm f + r) neg (by omega)
 obtain ⟨q1, q2⟩ := mag_parts f (e * 2 ^ fm f + r + signN f neg)
 rw [p2, Nat.mul_comm, Nat.mul_add_div hp, Nat.div_eq_of_lt hr, Nat.add_zero, Nat.mul_comm] at q1
 rw [p2, Nat.mul_comm, Nat.mul_add_mod, Nat.mod_eq_of_lt hr, Nat.mul_comm] at q2
 refine ⟨p1, p2, p3, by omega, q1.symm, q2.symm, ?_, ?_, ?_⟩
 ·unfold clsN; rw [← q1, if_neg (by omega), if_pos h1]
 ·unfold wholeN; rw [← q1, ← q2, if_neg (by omega)]
 ·unfold lowestN; rw [← q1]
theorem int_parts (f : Int) (N : Nat) (h0 : N ≠ 0) (h : N < 2 ^ (fm f + 1)) : ∃ e r j : Nat, 1 ≤ e ∧ e < topN f ∧ r < 2 ^ fm f ∧ r + 2 ^ fm f = N * 2 ^ j ∧ leastN f - fm f + ((e - 1 : Nat) : Int) = -(j : Int) ∧ lenN N + j = fm f + 1 ∧
  ∀ (mode : Int) (neg : Bool), packN f mode neg 0 N false = e * 2 ^ fm f + r + signN f neg ∧ excN f mode neg 0 N false = (false, false, false) := by
 have hl := lenN_bound N (fm f + 1) h
 have hp := lenN_pos N h0
 have hb := fbounds f
 have hc := one_cases f
 obtain ⟨j, hj⟩ : ∃ j, lenN N + j = fm f + 1 := ⟨fm f + 1 - lenN N, by omega⟩
 have hpj := Nat.two_pow_pos j
 have hpm := Nat.two_pow_pos (fm f)
 have m1 : 2 ^ fm f ≤ N * 2 ^ j := by
  have := Nat.mul_le_mul_right (2 ^ j) (lenN_le N h0)
  rw [← Nat.pow_add, show lenN N - 1 + j = fm f by omega] at this; exact this
 have m2 : N * 2 ^ j < 2 ^ (fm f + 1) := by
  have := Nat.mul_lt_mul_of_pos_right (lenN_lt N) hpj
  rw [← Nat.pow_add, hj] at this; exact this
 have hs : 2 ^ (fm f + 1) = 2 * 2 ^ fm f := by rw [Nat.pow_succ, Nat.mul_comm]
 have hr : ∃ R : Nat, (R : Int) = lenN N - 1 - leastN f ∧ R + 1 < topN f := by
  refine ⟨(lenN N - 1 - leastN f : Int).toNat, ?_, ?_⟩ <;> rcases hc with ⟨c1, c2, c3, c4, c5⟩ | ⟨c1, c2, c3, c4, c5⟩ | ⟨c1, c2, c3, c4, c5⟩ <;> omega
 obtain ⟨R, hR, hR1⟩ := hr
 have hfin := norm_under f (R + 1) (N * 2 ^ j - 2 ^ fm f) (by omega) (by omega)
 have hk : R * 2 ^ fm f + N * 2 ^ j = (R + 1) * 2 ^ fm f + (N * 2 ^ j - 2 ^ fm f) := by rw [Nat.add_mul]; omega
 refine ⟨R + 1, N * 2 ^ j - 2 ^ fm f, j, by omega, by omega, by omega, by omega, by rw [show R + 1 - 1 = R by omega]; omega, hj, fun mode neg => ?_⟩
 obtain ⟨x1, x2⟩ := exact_pack f mode neg (N * 2 ^ j) 0 R m2 (.inr m1) (by rw [hk]; exact hfin)
 rw [hk] at x1
 rw [Nat.pow_zero, Nat.mul_one, show leastN f - (fm f : Int) + (R : Int) - ((0 : Nat) : Int) = -(j : Int) by omega] at x1 x2
 obtain ⟨s1, s2⟩ := pack_even f mode neg (-(j : Int)) N j
 rw [show -(j : Int) + (j : Int) = 0 by omega] at s1 s2
 rw [s1] at x1
 rw [s2] at x2
 exact ⟨x1, x2⟩
theorem int_one (f mode : Int) (neg : Bool) : packN f mode neg 0 1 false = oneN f * 2 ^ fm f + 0 + signN f neg := by
 obtain ⟨e, r, j, h1, h2, h3, h4, h5, h6, h7⟩ := int_parts f 1 (by decide) (by have := Nat.two_pow_pos (fm f); rw [Nat.pow_succ]; omega)
 have hl : lenN 1 = 1 := by decide
 have hj : j = fm f := by omega
 subst hj
 have hc := one_cases f
 have he : e = oneN f := by rcases hc with ⟨c1, c2, c3, c4, c5⟩ | ⟨c1, c2, c3, c4, c5⟩ | ⟨c1, c2, c3, c4, c5⟩ <;> omega
 have hr : r = 0 := by omega
 rw [(h7 mode neg).1, he, hr]
theorem zero_all (f : Int) (b : Bool) : clsN f (signN f b) = 0 ∧ negN f (signN f b) = b ∧ signN f b < 4294967296 := by
 have hb := fbounds f
 have h31 := pow_le31 (show fe f + fm f ≤ 31 by omega)
 have hp := Nat.two_pow_pos (fm f)
 obtain ⟨p1, p2, p3⟩ := sign_parts f 0 b (Nat.two_pow_pos _)
 obtain ⟨q1, q2⟩ := mag_parts f (0 + signN f b)
 rw [p2] at q1 q2
 rw [Nat.zero_add] at *
 refine ⟨?_, p1, ?_⟩
 ·unfold clsN; rw [← q1, ← q2, Nat.zero_div, Nat.zero_mod]; rfl
 ·unfold signN; split <;> omega
/- Sums as whole numbers of many bits: plain numbers alone. -/

def wideN (n1 : Bool) (X : Nat) (n2 : Bool) (Y : Nat) : Bool × Nat := if n1 = n2 then (n1, X + Y) else if X < Y then (n2, Y - X) else (n1, X - Y)
theorem meet_add (f mode : Int) (n : Bool) (Ea Eb m : Int) (A B : Nat) (hm : m ≤ Eb) (h : Eb ≤ Ea) (a1 : 2305843009213693952 ≤ A) :
    (A * 2 ^ (Ea - m).toNat + B * 2 ^ (Eb - m).toNat ≠ 0) ∧ ¬ ((meetN n Ea A n Eb B).2.2 = (0, false)) ∧ (meetN n Ea A n Eb B).1 = n ∧
    packN f mode n (meetN n Ea A n Eb B).2.1 (meetN n Ea A n Eb B).2.2.1 (meetN n Ea A n Eb B).2.2.2 = packN f mode n m (A * 2 ^ (Ea - m).toNat + B * 2 ^ (Eb - m).toNat) false ∧
    excN f mode n (meetN n Ea A n Eb B).2.1 (meetN n Ea A n Eb B).2.2.1 (meetN n Ea A n Eb B).2.2.2 = excN f mode n m (A * 2 ^ (Ea - m).toNat + B * 2 ^ (Eb - m).toNat) false := by
  have hb := fbounds f
  have hp : 2 ^ (fm f + 1) ≤ 2 ^ 24 := Nat.pow_le_pow_right (by decide) (by omega)
  have hr : meetN n Ea A n Eb B = (n, Ea, A + B / 2 ^ (Ea - Eb).toNat, decide (B % 2 ^ (Ea - Eb).toNat ≠ 0)) := by unfold meetN; rw [if_pos rfl]
  have hs := pow_split m Eb Ea hm h
  rw [hr]
  dsimp only
  have hd : 0 < 2 ^ (Ea - Eb).toNat := Nat.two_pow_pos _
  have hu : 0 < 2 ^ (Eb - m).toNat := Nat.two_pow_pos _
  have hdm := Nat.div_add_mod B (2 ^ (Ea - Eb).toNat)
  have ht := Nat.mod_lt B hd
  obtain ⟨q, hq⟩ : ∃ q, B / 2 ^ (Ea - Eb).toNat = q := ⟨_, rfl⟩
  obtain ⟨t, htt⟩ : ∃ t, B % 2 ^ (Ea - Eb).toNat = t := ⟨_, rfl⟩
  rw [hq, htt] at hdm ⊢
  rw [htt] at ht
  have e : A * 2 ^ (Ea - m).toNat + B * 2 ^ (Eb - m).toNat = ((A + q) * 2 ^ (Ea - Eb).toNat + t) * 2 ^ (Eb - m).toNat := by
    rw [hs, ← Nat.mul_assoc, ← Nat.add_mul, Nat.add_mul A, Nat.add_assoc, Nat.mul_comm q, hdm]
  obtain ⟨p1, p2⟩ := pack_even f mode n m ((A + q) * 2 ^ (Ea - Eb).toNat + t) (Eb - m).toNat
  obtain ⟨q1, q2⟩ := pack_refine f mode n Eb (A + q) t (Ea - Eb).toNat false ht (by omega)
  rw [show m + ((Eb - m).toNat : Int) = Eb by omega] at p1 p2
  rw [show Eb + ((Ea - Eb).toNat : Int) = Ea by omega, Bool.false_or] at q1 q2
  refine ⟨?_, fun z => ?_, rfl, ?_, ?_⟩
  · have := Nat.mul_le_mul a1 (Nat.two_pow_pos (Ea - m).toNat); omega
  · have := (Prod.mk.inj z).1; omega
  · rw [e, p1, q1]
  · rw [e, p2, q2]
theorem meet_less (f mode : Int) (n n' : Bool) (hn : n ≠ n') (Ea Eb m : Int) (A B : Nat) (hm : m ≤ Eb) (h : Eb ≤ Ea) (_ : Ea = Eb → B ≤ A) (a1 : 2305843009213693952 ≤ A) (b2 : B < 4611686018427387904) (b4 : B % 4 = 0) :
    (A * 2 ^ (Ea - m).toNat - B * 2 ^ (Eb - m).toNat = 0 ↔ (meetN n Ea A n' Eb B).2.2 = (0, false)) ∧ (meetN n Ea A n' Eb B).1 = n ∧
    (A * 2 ^ (Ea - m).toNat - B * 2 ^ (Eb - m).toNat ≠ 0 → packN f mode n (meetN n Ea A n' Eb B).2.1 (meetN n Ea A n' Eb B).2.2.1 (meetN n Ea A n' Eb B).2.2.2 = packN f mode n m (A * 2 ^ (Ea - m).toNat - B * 2 ^ (Eb - m).toNat) false ∧
    excN f mode n (meetN n Ea A n' Eb B).2.1 (meetN n Ea A n' Eb B).2.2.1 (meetN n Ea A n' Eb B).2.2.2 = excN f mode n m (A * 2 ^ (Ea - m).toNat - B * 2 ^ (Eb - m).toNat) false) := by
  have hb := fbounds f
  have hp : 2 ^ (fm f + 1) ≤ 2 ^ 24 := Nat.pow_le_pow_right (by decide) (by omega)
  have hr : meetN n Ea A n' Eb B = (n, Ea, A - B / 2 ^ (Ea - Eb).toNat - (if B % 2 ^ (Ea - Eb).toNat ≠ 0 then 1 else 0), decide (B % 2 ^ (Ea - Eb).toNat ≠ 0)) := by unfold meetN; rw [if_neg hn]
  have hs := pow_split m Eb Ea hm h
  rw [hr]
  dsimp only
  have hd : 0 < 2 ^ (Ea - Eb).toNat := Nat.two_pow_pos _
  have hu : 0 < 2 ^ (Eb - m).toNat := Nat.two_pow_pos _
  have hdm := Nat.div_add_mod B (2 ^ (Ea - Eb).toNat)
  have ht := Nat.mod_lt B hd
  have hX : A * 2 ^ (Ea - m).toNat - B * 2 ^ (Eb - m).toNat = (A * 2 ^ (Ea - Eb).toNat - B) * 2 ^ (Eb - m).toNat := by rw [hs, ← Nat.mul_assoc, ← Nat.sub_mul]
  by_cases t0 : B % 2 ^ (Ea - Eb).toNat = 0
  · rw [if_neg (show ¬ (B % 2 ^ (Ea - Eb).toNat ≠ 0) by omega), decide_eq_false (show ¬ (B % 2 ^ (Ea - Eb).toNat ≠ 0) by omega), Nat.sub_zero]
    have e : A * 2 ^ (Ea - m).toNat - B * 2 ^ (Eb - m).toNat = (A - B / 2 ^ (Ea - Eb).toNat) * 2 ^ (Ea - m).toNat := by
      rw [hX, hs, ← Nat.mul_assoc, Nat.sub_mul A]
      congr 2
      rw [t0, Nat.add_zero, Nat.mul_comm] at hdm
      exact hdm.symm
    obtain ⟨p1, p2⟩ := pack_even f mode n m (A - B / 2 ^ (Ea - Eb).toNat) (Ea - m).toNat
    rw [show m + ((Ea - m).toNat : Int) = Ea by omega] at p1 p2
    rw [e]
    have hw : 0 < 2 ^ (Ea - m).toNat := Nat.two_pow_pos _
    refine ⟨⟨fun z => ?_, fun z => ?_⟩, rfl, fun _ => ⟨p1.symm, p2.symm⟩⟩
    · rcases Nat.mul_eq_zero.mp z with z | z
      · rw [z]
      · omega
    · rw [(Prod.mk.inj z).1, Nat.zero_mul]
  · rw [if_pos t0, decide_eq_true (show B % 2 ^ (Ea - Eb).toNat ≠ 0 from t0)]
    have h3 : 3 ≤ (Ea - Eb).toNat := by
      rcases Nat.lt_or_ge (Ea - Eb).toNat 3 with c | c
      · exfalso
        have : (Ea - Eb).toNat = 0 ∨ (Ea - Eb).toNat = 1 ∨ (Ea - Eb).toNat = 2 := by omega
        rcases this with c | c | c <;> rw [c] at t0 <;> simp at t0 <;> omega
      · exact c
    have h8 : 2 ^ 3 ≤ 2 ^ (Ea - Eb).toNat := Nat.pow_le_pow_right (by decide) h3
    have hq : B / 2 ^ (Ea - Eb).toNat ≤ B / 2 ^ 3 := Nat.div_le_div_left h8 (by decide)
    have e : A * 2 ^ (Ea - m).toNat - B * 2 ^ (Eb - m).toNat = ((A - B / 2 ^ (Ea - Eb).toNat - 1) * 2 ^ (Ea - Eb).toNat + (2 ^ (Ea - Eb).toNat - B % 2 ^ (Ea - Eb).toNat)) * 2 ^ (Eb - m).toNat := by
      rw [hX]
      congr 1
      generalize 2 ^ (Ea - Eb).toNat = D at *
      generalize hqq : B / D = q at *
      generalize B % D = t at *
      have h1 : (A - q - 1) * D + D = (A - q) * D := by
        rw [← Nat.succ_mul]; congr 1; omega
      have h2 : (A - q) * D = A * D - D * q := by rw [Nat.sub_mul, Nat.mul_comm q]
      have h4 : D * q + D ≤ A * D := by
        rw [← Nat.mul_succ, Nat.mul_comm A]; exact Nat.mul_le_mul_left _ (by omega)
      omega
    have hqb : B / 2 ^ (Ea - Eb).toNat ≤ 576460752303423488 := by omega
    obtain ⟨p1, p2⟩ := pack_even f mode n m ((A - B / 2 ^ (Ea - Eb).toNat - 1) * 2 ^ (Ea - Eb).toNat + (2 ^ (Ea - Eb).toNat - B % 2 ^ (Ea - Eb).toNat)) (Eb - m).toNat
    obtain ⟨q1, q2⟩ := pack_refine f mode n Eb (A - B / 2 ^ (Ea - Eb).toNat - 1) (2 ^ (Ea - Eb).toNat - B % 2 ^ (Ea - Eb).toNat) (Ea - Eb).toNat false (by omega) (by omega)
    rw [show m + ((Eb - m).toNat : Int) = Eb by omega] at p1 p2
    rw [show Eb + ((Ea - Eb).toNat : Int) = Ea by omega, Bool.false_or, decide_eq_true (show 2 ^ (Ea - Eb).toNat - B % 2 ^ (Ea - Eb).toNat ≠ 0 by omega)] at q1 q2
    rw [e]
    refine ⟨⟨fun z => ?_, fun z => ?_⟩, rfl, fun _ => ⟨by rw [p1, q1], by rw [p2, q2]⟩⟩
    · exfalso
      rcases Nat.mul_eq_zero.mp z with z | z <;> omega
    · have := (Prod.mk.inj z).2; cases this
theorem exact_wide (f mode : Int) (n1 : Bool) (e1 : Int) (s1 : Nat) (n2 : Bool) (e2 : Int) (s2 : Nat) (l1 : -298 ≤ e1) (l2 : -298 ≤ e2) (h1 : s1 < 1152921504606846976) (h2 : s2 < 1152921504606846976) :
    roundedN f mode n1 n2 (exactN n1 e1 s1 n2 e2 s2) = (if (wideN n1 (s1 * 2 ^ (e1 + 298).toNat) n2 (s2 * 2 ^ (e2 + 298).toNat)).2 = 0 then noughtN f mode n1 n2 else packN f mode (wideN n1 (s1 * 2 ^ (e1 + 298).toNat) n2 (s2 * 2 ^ (e2 + 298).toNat)).1 (-298) (wideN n1 (s1 * 2 ^ (e1 + 298).toNat) n2 (s2 * 2 ^ (e2 + 298).toNat)).2 false) ∧
    roundedX f mode (exactN n1 e1 s1 n2 e2 s2) = (if (wideN n1 (s1 * 2 ^ (e1 + 298).toNat) n2 (s2 * 2 ^ (e2 + 298).toNat)).2 = 0 then (false, false, false) else excN f mode (wideN n1 (s1 * 2 ^ (e1 + 298).toNat) n2 (s2 * 2 ^ (e2 + 298).toNat)).1 (-298) (wideN n1 (s1 * 2 ^ (e1 + 298).toNat) n2 (s2 * 2 ^ (e2 + 298).toNat)).2 false) := by
  have one : ∀ (n : Bool) (e : Int) (s : Nat), -298 ≤ e → packN f mode n (-298) (s * 2 ^ (e + 298).toNat) false = packN f mode n e s false ∧ excN f mode n (-298) (s * 2 ^ (e + 298).toNat) false = excN f mode n e s false := fun n e s h => by
    have := pack_even f mode n (-298) s (e + 298).toNat
    rwa [show (-298 : Int) + ((e + 298).toNat : Int) = e by omega] at this
  have pos : ∀ (e : Int) (s : Nat), s ≠ 0 → s * 2 ^ (e + 298).toNat ≠ 0 := fun e s h => Nat.mul_ne_zero h (by have := Nat.two_pow_pos (e + 298).toNat; omega)
  unfold exactN roundedN roundedX
  by_cases z1 : s1 = 0
  · subst z1
    rw [if_pos rfl, Nat.zero_mul]
    by_cases z2 : s2 = 0
    · subst z2
      have hw : (wideN n1 0 n2 (0 * 2 ^ (e2 + 298).toNat)).2 = 0 := by unfold wideN; rw [Nat.zero_mul]; split <;> rfl
      rw [if_pos rfl, if_pos hw, if_pos rfl, if_pos hw]; exact ⟨rfl, rfl⟩
    · have hw : wideN n1 0 n2 (s2 * 2 ^ (e2 + 298).toNat) = (n2, s2 * 2 ^ (e2 + 298).toNat) := by
        unfold wideN
        by_cases n : n1 = n2
        · rw [if_pos n, n, Nat.zero_add]
        · rw [if_neg n, if_pos (Nat.pos_of_ne_zero (pos e2 s2 z2)), Nat.sub_zero]
      have hne : ¬ (s2, false) = (0, false) := fun e => z2 (Prod.mk.inj e).1
      rw [hw, if_neg hne, if_neg hne, if_neg (pos e2 s2 z2), if_neg (pos e2 s2 z2)]
      exact ⟨(one n2 e2 s2 l2).1.symm, (one n2 e2 s2 l2).2.symm⟩
  · rw [if_neg z1]
    by_cases z2 : s2 = 0
    · subst z2
      have hw : wideN n1 (s1 * 2 ^ (e1 + 298).toNat) n2 (0 * 2 ^ (e2 + 298).toNat) = (n1, s1 * 2 ^ (e1 + 298).toNat) := by
        unfold wideN
        rw [Nat.zero_mul]
        by_cases n : n1 = n2
        · rw [if_pos n, Nat.add_zero]
        · rw [if_neg n, if_neg (Nat.not_lt_zero _), Nat.sub_zero]
      have hne : ¬ (s1, false) = (0, false) := fun e => z1 (Prod.mk.inj e).1
      rw [if_pos rfl, hw, if_neg hne, if_neg hne, if_neg (pos e1 s1 z1), if_neg (pos e1 s1 z1)]
      exact ⟨(one n1 e1 s1 l1).1.symm, (one n1 e1 s1 l1).2.symm⟩
    · rw [if_neg z2]
      obtain ⟨a1, a2, a3, a4⟩ := gap_bounds s1 z1 (by omega)
      obtain ⟨b1, b2, b3, b4⟩ := gap_bounds s2 z2 (by omega)
      have k1 := lenN_bound s1 60 h1
      have k2 := lenN_bound s2 60 h2
      have m1 : s1 * 2 ^ gapN s1 % 4 = 0 := by
        rw [show gapN s1 = (gapN s1 - 2) + 2 by omega, Nat.pow_add, ← Nat.mul_assoc]; exact Nat.mul_mod_left _ _
      have m2 : s2 * 2 ^ gapN s2 % 4 = 0 := by
        rw [show gapN s2 = (gapN s2 - 2) + 2 by omega, Nat.pow_add, ← Nat.mul_assoc]; exact Nat.mul_mod_left _ _
      have up1 : s1 * 2 ^ gapN s1 * 2 ^ (e1 - (gapN s1 : Int) - (-400)).toNat = s1 * 2 ^ (e1 + 298).toNat * 2 ^ 102 := by
        rw [Nat.mul_assoc, ← Nat.pow_add, Nat.mul_assoc, ← Nat.pow_add]; congr 2; omega
      have up2 : s2 * 2 ^ gapN s2 * 2 ^ (e2 - (gapN s2 : Int) - (-400)).toNat = s2 * 2 ^ (e2 + 298).toNat * 2 ^ 102 := by
        rw [Nat.mul_assoc, ← Nat.pow_add, Nat.mul_assoc, ← Nat.pow_add]; congr 2; omega
      have E1 : -400 ≤ e1 - (gapN s1 : Int) := by omega
      have E2 : -400 ≤ e2 - (gapN s2 : Int) := by omega
      have down : ∀ (n : Bool) (W : Nat), packN f mode n (-400) (W * 2 ^ 102) false = packN f mode n (-298) W false ∧ excN f mode n (-400) (W * 2 ^ 102) false = excN f mode n (-298) W false := fun n W => pack_even f mode n (-400) W 102
      clear one k1 k2 a1 a2 b1 b2
      have X0 := pos e1 s1 z1
      have Y0 := pos e2 s2 z2
      generalize s1 * 2 ^ (e1 + 298).toNat = X at *
      generalize s2 * 2 ^ (e2 + 298).toNat = Y at *
      generalize e1 - (gapN s1 : Int) = F at *
      generalize e2 - (gapN s2 : Int) = G at *
      generalize s1 * 2 ^ gapN s1 = A at *
      generalize s2 * 2 ^ gapN s2 = B at *
      have p102 : 0 < 2 ^ 102 := Nat.two_pow_pos _
      -- two that stand in their order
      have main : ∀ (n n' : Bool) (F G : Int) (A B X Y : Nat), G ≤ F → (F = G → B ≤ A) → -400 ≤ G → 2305843009213693952 ≤ A → B < 4611686018427387904 → B % 4 = 0 → A * 2 ^ (F - (-400)).toNat = X * 2 ^ 102 → B * 2 ^ (G - (-400)).toNat = Y * 2 ^ 102 → X ≠ 0 →
          ∀ (w : Bool × Nat), w = (if n = n' then (n, X + Y) else (n, X - Y)) → ∀ (a b : Bool),
          (if (meetN n F A n' G B).2.2 = (0, false) then noughtN f mode a b else packN f mode (meetN n F A n' G B).1 (meetN n F A n' G B).2.1 (meetN n F A n' G B).2.2.1 (meetN n F A n' G B).2.2.2) = (if w.2 = 0 then noughtN f mode a b else packN f mode w.1 (-298) w.2 false) ∧
          (if (meetN n F A n' G B).2.2 = (0, false) then (false, false, false) else excN f mode (meetN n F A n' G B).1 (meetN n F A n' G B).2.1 (meetN n F A n' G B).2.2.1 (meetN n F A n' G B).2.2.2) = (if w.2 = 0 then (false, false, false) else excN f mode w.1 (-298) w.2 false) := by
        intro n n' F G A B X Y hGF h0 hG hA hB hB4 hX hY hX0 w hw a b
        by_cases c : n = n'
        · subst c
          rw [if_pos rfl] at hw
          subst hw
          obtain ⟨r1, r2, r3, r4, r5⟩ := meet_add f mode n F G (-400) A B hG hGF hA
          rw [hX, hY, ← Nat.add_mul] at r4 r5
          rw [(down n (X + Y)).1] at r4
          rw [(down n (X + Y)).2] at r5
          rw [if_neg r2, if_neg r2, r3, r4, r5]
          dsimp only
          rw [if_neg (show ¬ X + Y = 0 by omega), if_neg (show ¬ X + Y = 0 by omega)]
          exact ⟨rfl, rfl⟩
        · rw [if_neg c] at hw
          subst hw
          obtain ⟨r1, r2, r3⟩ := meet_less f mode n n' c F G (-400) A B hG hGF h0 hA hB hB4
          rw [hX, hY, ← Nat.sub_mul] at r1 r3
          dsimp only
          by_cases z : X - Y = 0
          · rw [if_pos (r1.mp (by rw [z, Nat.zero_mul])), if_pos (r1.mp (by rw [z, Nat.zero_mul])), if_pos z, if_pos z]
            exact ⟨rfl, rfl⟩
          · have z' : (X - Y) * 2 ^ 102 ≠ 0 := Nat.mul_ne_zero z (by omega)
            obtain ⟨r4, r5⟩ := r3 z'
            rw [(down n (X - Y)).1] at r4
            rw [(down n (X - Y)).2] at r5
            rw [if_neg (fun e => z' (r1.mpr e)), if_neg (fun e => z' (r1.mpr e)), if_neg z, if_neg z, r2, r4, r5]
            exact ⟨rfl, rfl⟩
      have ord : ∀ (F G : Int) (A B X Y : Nat), 2305843009213693952 ≤ B → A < 4611686018427387904 → -400 ≤ F → A * 2 ^ (F - (-400)).toNat = X * 2 ^ 102 → B * 2 ^ (G - (-400)).toNat = Y * 2 ^ 102 → (F < G ∨ F = G ∧ A < B) → X < Y := by
        intro F G A B X Y hB hA hF hX hY c
        refine Nat.lt_of_mul_lt_mul_right (a := 2 ^ 102) ?_
        rw [← hX, ← hY]
        rcases c with c | ⟨rfl, c⟩
        · have hs : 2 ^ (G - (-400)).toNat = 2 ^ (G - F).toNat * 2 ^ (F - (-400)).toNat := pow_split (-400) F G hF (by omega)
          have h2 : 2 ^ 1 ≤ 2 ^ (G - F).toNat := Nat.pow_le_pow_right (by decide) (by omega)
          rw [hs, ← Nat.mul_assoc]
          refine Nat.mul_lt_mul_of_pos_right ?_ (Nat.two_pow_pos _)
          have := Nat.mul_le_mul hB h2
          omega
        · exact Nat.mul_lt_mul_of_pos_right c (Nat.two_pow_pos _)
      by_cases c : F < G ∨ F = G ∧ A < B
      · rw [if_pos c]
        have hlt := ord F G A B X Y b3 a4 E1 up1 up2 c
        have hw : wideN n1 X n2 Y = (if n2 = n1 then (n2, Y + X) else (n2, Y - X)) := by
          unfold wideN
          by_cases n : n1 = n2
          · rw [if_pos n, if_pos n.symm, n, Nat.add_comm]
          · rw [if_neg n, if_pos hlt, if_neg (show ¬ n2 = n1 from fun e => n e.symm)]
        exact main n2 n1 G F B A Y X (by omega) (by omega) E1 b3 a4 m1 up2 up1 Y0 _ hw n1 n2
      · rw [if_neg c]
        have hle : ¬ X < Y := by
          intro hlt
          by_cases c' : G < F ∨ G = F ∧ B < A
          · have := ord G F B A Y X a3 b4 E2 up2 up1 c'; omega
          · obtain rfl : F = G := by omega
            obtain rfl : A = B := by omega
            have h5 := up1.symm.trans up2
            have := Nat.eq_of_mul_eq_mul_right p102 h5
            omega
        have hw : wideN n1 X n2 Y = (if n1 = n2 then (n1, X + Y) else (n1, X - Y)) := by
          unfold wideN
          by_cases n : n1 = n2
          · rw [if_pos n, if_pos n]
          · rw [if_neg n, if_neg n, if_neg hle]
        exact main n1 n2 F G A B X Y (by omega) (by omega) E2 a3 b4 m2 up1 up2 X0 _ hw n1 n2
end Go.Proofs.Ytejkemahdincjaa.Round

/- The reference's loops of layer 1: how many bits, shifts. -/
namespace Go.Proofs.Ytejkemahdincjaa.BitsF
open Go.RowKit Go.Proofs.Ytejkemahdincjaa.P Go.Proofs.Ytejkemahdincjaa.Num Go.Proofs.YtejkemahdincjaaW.PrintWords Go.Proofs.YtejkemahdincjaaW.PrintLast Go.Proofs.YtejkemahdincjaaW.PrintMore

theorem ref_len_l0 (j : Nat) : ∀ v c k : Nat, v < 2 ^ j → c + j ≤ 64 → annealref1_Len.l0 (j + 1 + k) (v : Int) (c : Int) = some ((c + lenN v : Nat) : Int) := by
 induction j with
 |zero =>
  intro v c k h _
  obtain rfl : v = 0 := by rw [Nat.pow_zero] at h; omega
  rw [show 0 + 1 + k = k + 1 by omega, annealref1_Len.l0, if_neg (by decide)]; rfl
 |succ j ih =>
  intro v c k h hc
  rw [show j + 1 + 1 + k = (j + 1 + k) + 1 by omega, annealref1_Len.l0]
  by_cases hv : v = 0
  ·subst hv; rw [if_neg (by decide)]; rfl
  ·rw [if_pos (by omega), show (v : Int) / 2 = ((v / 2 : Nat) : Int) by omega, w64_id _ (by omega) (by omega), show (c : Int) + 1 = ((c + 1 : Nat) : Int) by omega, ih _ _ k (by rw [Nat.pow_succ] at h; omega) (by omega), lenN_half v hv]
   congr 2; omega
theorem ref_len_ev (v : Nat) (hv : v < 18446744073709551616) : Ev (fun k => annealref1_Len.f k (v : Int)) (lenN v : Int) :=
 Ev.of (annealref1_Len.mono _) (k := 65) (by
  have h := ref_len_l0 64 v 0 0 (by omega) (by decide)
  rw [Nat.zero_add, show 64 + 1 + 0 = 65 from rfl] at h
  unfold annealref1_Len.f
  exact h)
theorem half_pow (v j : Nat) : v / 2 / 2 ^ j = v / 2 ^ (j + 1) := by rw [Nat.div_div_eq_div_mul, Nat.pow_succ, Nat.mul_comm 2]
theorem out_right (v j : Nat) : (decide (v % 2 ≠ 0) || decide (v / 2 % 2 ^ j ≠ 0)) = decide (v % 2 ^ (j + 1) ≠ 0) := by
 have e : v % 2 ^ (j + 1) = v % 2 + 2 * (v / 2 % 2 ^ j) := by rw [Nat.pow_succ, Nat.mul_comm, Nat.mod_mul]
 rw [← Bool.decide_or]
 congr 1; apply propext
 have hz : ∀ z : Nat, v / 2 % 2 ^ j = z → (v % 2 ≠ 0 ∨ z ≠ 0 ↔ v % 2 + 2 * z ≠ 0) := by intro z _; omega
 rw [e]; exact hz _ rfl
theorem ref_shift_l1 (j : Nat) : ∀ (v k : Nat) (b : Bool), v < 18446744073709551616 → j ≤ 64 →
  annealref1_Shift.l1 (j + 1 + k) (v : Int) (-(j : Int)) b = some (((v * 2 ^ j % 18446744073709551616 : Nat) : Int), b || decide (18446744073709551616 ≤ v * 2 ^ j)) := by
 induction j with
 |zero =>
  intro v k b hv _
  rw [show 0 + 1 + k = k + 1 by omega, annealref1_Shift.l1, if_neg (by decide), Nat.pow_zero, Nat.mul_one, Nat.mod_eq_of_lt hv, decide_eq_false (by omega), Bool.or_false]
 |succ j ih =>
  intro v k b hv hj
  have e1 : wrap64 (-((j + 1 : Nat) : Int) + 1) = -(j : Int) := by rw [w64_id] <;> omega
  have e2 : IntKind.u64.wrap ((v : Int) * 2) = ((v * 2 % 18446744073709551616 : Nat) : Int) := by rw [show (v : Int) * 2 = ((v * 2 : Nat) : Int) by omega, u64_nat]
  have e3 : (((v : Int) / 9223372036854775808 == 1) : Bool) = decide (9223372036854775808 ≤ v) := by
   by_cases h : 9223372036854775808 ≤ v
   ·rw [decide_eq_true h, beq_iff_eq]; omega
   ·rw [decide_eq_false h, beq_eq_false_iff_ne]; omega
  have e4 : v * 2 % 18446744073709551616 * 2 ^ j % 18446744073709551616 = v * 2 ^ (j + 1) % 18446744073709551616 := by
   rw [Nat.mod_mul_mod, Nat.mul_assoc, ← Nat.pow_succ']
  have e5 : ∀ b : Bool, ((b || decide (9223372036854775808 ≤ v)) || decide (18446744073709551616 ≤ v * 2 % 18446744073709551616 * 2 ^ j)) = (b || decide (18446744073709551616 ≤ v * 2 ^ (j + 1))) := by
   intro b
   rw [Bool.or_assoc, ← Bool.decide_or]
   congr 2
   apply propext
   rw [show v * 2 ^ (j + 1) = v * 2 * 2 ^ j by rw [Nat.mul_assoc, ← Nat.pow_succ']]
   have hp := Nat.two_pow_pos j
   constructor
   ·rintro (h | h)
    ·calc 18446744073709551616 ≤ v * 2 * 1 := by omega
      _ ≤ v * 2 * 2 ^ j := Nat.mul_le_mul_left _ hp
    ·exact Nat.le_trans h (Nat.mul_le_mul_right _ (Nat.mod_le _ _))
   ·intro h
    by_cases h' : 9223372036854775808 ≤ v
    ·exact .inl h'
    ·right; rw [Nat.mod_eq_of_lt (by omega)]; exact h
  rw [show j + 1 + 1 + k = (j + 1 + k) + 1 by omega, annealref1_Shift.l1, if_pos (by omega), e1, e2, e3]
  by_cases hb : b = true
  ·subst hb
   rw [if_pos rfl, ih _ k true (Nat.mod_lt _ (by decide)) (by omega), e4]
   simp only [Bool.true_or]
  ·rw [if_neg hb, ih _ k _ (Nat.mod_lt _ (by decide)) (by omega), e4]
   have : b = false := by simpa using hb
   subst this
   have := e5 false
   simp only [Bool.false_or] at this ⊢
   rw [this]
theorem ref_shift_l0 (j : Nat) : ∀ (v k : Nat) (b : Bool), v < 18446744073709551616 → j ≤ 64 →
  annealref1_Shift.l0 (j + 2 + k) (v : Int) (j : Int) b = some (((v / 2 ^ j : Nat) : Int), b || decide (v % 2 ^ j ≠ 0)) := by
 induction j with
 |zero =>
  intro v k b hv _
  have h := ref_shift_l1 0 v k b hv (by decide)
  rw [show 0 + 2 + k = (0 + 1 + k) + 1 by omega, annealref1_Shift.l0, if_neg (by decide), show ((0 : Nat) : Int) = -((0 : Nat) : Int) by rfl, h]
  simp [Nat.mod_one]; omega
 |succ j ih =>
  intro v k b hv hj
  have e1 : wrap64 (((j + 1 : Nat) : Int) - 1) = (j : Int) := by rw [w64_id] <;> omega
  have e3 : ((Go.bits .and .u64 (v : Int) 1 == 1) : Bool) = decide (v % 2 ≠ 0) := by
   rw [and1_u64 v hv]
   by_cases h : v % 2 ≠ 0
   ·rw [decide_eq_true h, beq_iff_eq]; omega
   ·rw [decide_eq_false h, beq_eq_false_iff_ne]; omega
  rw [show j + 1 + 2 + k = (j + 2 + k) + 1 by omega, annealref1_Shift.l0, if_pos (by omega), e1, e3, show (v : Int) / 2 = ((v / 2 : Nat) : Int) by omega]
  have o := out_right v j
  by_cases hb : b = true
  ·subst hb
   rw [if_pos rfl, ih _ k true (by omega) (by omega), half_pow]
   simp only [Bool.true_or]
  ·rw [if_neg hb, ih _ k _ (by omega) (by omega), half_pow, o]
   have : b = false := by simpa using hb
   subst this
   rfl
theorem ref_shift_ev (v : Nat) (hv : v < 18446744073709551616) (n : Int) :
  Ev (fun k => annealref1_Shift.f k (v : Int) n) ((((shiftN v n).1 : Nat) : Int), (shiftN v n).2) := by
 refine Ev.of (annealref1_Shift.mono _ _) (k := 67) ?_
 unfold annealref1_Shift.f
 by_cases c : 0 ≤ n
 ·obtain ⟨m, rfl⟩ := nat_of c
  have e : mn (mx (m : Int) (-64)) 64 = ((min m 64 : Nat) : Int) := by unfold mn mx; split <;> split <;> omega
  have h := ref_shift_l0 (min m 64) v (65 - min m 64) false hv (by omega)
  rw [show min m 64 + 2 + (65 - min m 64) = 67 by omega] at h
  rw [e, h, shiftN_right]
  by_cases c' : m ≤ 64
  ·rw [Nat.min_eq_left c']; rfl
  ·have b1 := pow_big (show 64 ≤ m by omega)
   rw [Nat.min_eq_right (by omega), Nat.div_eq_of_lt (show v < 2 ^ 64 by omega), Nat.mod_eq_of_lt (show v < 2 ^ 64 by omega), Nat.div_eq_of_lt (show v < 2 ^ m by omega), Nat.mod_eq_of_lt (show v < 2 ^ m by omega)]; rfl
 ·obtain ⟨m, hm⟩ := nat_of (show 0 ≤ -n by omega)
  obtain rfl : n = -(m : Int) := by omega
  have e : mn (mx (-(m : Int)) (-64)) 64 = -((min m 64 : Nat) : Int) := by unfold mn mx; split <;> split <;> omega
  have h := ref_shift_l1 (min m 64) v (65 - min m 64) false hv (by omega)
  rw [show min m 64 + 1 + (65 - min m 64) = 66 by omega] at h
  rw [e, annealref1_Shift.l0, if_neg (by omega), h, shiftN_left _ _ hv]
  by_cases c' : m ≤ 64
  ·rw [Nat.min_eq_left c']; rfl
  ·rw [Nat.min_eq_right (by omega)]
   have b1 := pow_big (show 64 ≤ m by omega)
   have e : (2 : Nat) ^ m = 18446744073709551616 * 2 ^ (m - 64) := by rw [show 18446744073709551616 = 2 ^ 64 from rfl, ← Nat.pow_add]; congr 1; omega
   have e1 : v * 2 ^ m % 18446744073709551616 = 0 := by rw [e, ← Nat.mul_assoc, Nat.mul_comm v, Nat.mul_assoc, Nat.mul_mod_right]
   rw [e1, show v * 2 ^ 64 % 18446744073709551616 = 0 by omega, Bool.false_or]
   congr 2
   apply decide_eq_decide.mpr
   constructor
   ·intro h1
    have : v ≠ 0 := by intro h0; subst h0; omega
    exact Nat.le_trans b1 (Nat.le_mul_of_pos_left _ (by omega))
   ·intro h1
    have : v ≠ 0 := by intro h0; subst h0; omega
    omega
end Go.Proofs.Ytejkemahdincjaa.BitsF

/- What the reference's rounding computes: the same plain numbers. -/
namespace Go.Proofs.Ytejkemahdincjaa.Round
open Go.RowKit Go.Proofs.Ytejkemahdincjaa.P Go.Proofs.Ytejkemahdincjaa.Num Go.Proofs.Ytejkemahdincjaa.BitsF Go.Proofs.Ytejkemahdincjaa.Fmt Go.Proofs.YtejkemahdincjaaW.PrintWords Go.Proofs.YtejkemahdincjaaW.PrintLast Go.Proofs.YtejkemahdincjaaW.PrintMore

theorem ref_greatest_f (f : Int) (neg : Bool) : annealref1_Greatest.f f neg = some (greatN f neg : Int) := by
 unfold annealref1_Greatest.f greatN
 obtain ⟨hi, _⟩ := inf_lt f neg
 have ht := top_cases f
 have hp := Nat.two_pow_pos (fm f)
 have : 0 < topN f * 2 ^ fm f := Nat.mul_pos (by omega) hp
 rw [ref_inf_f]; simp only [Option.bind_some]
 unfold infN at *
 congr 1; omega
theorem ref_divide_f (s : Nat) (hs : s < 18446744073709551616) (d : Int) (h1 : -100000 ≤ d) (h2 : d ≤ 100000) (hq : d ≤ 0 → s * 2 ^ (-d).toNat < 18446744073709551616) :
  Ev (fun k => annealref1_divide.f k (s : Int) d) ((quoN s d : Int), decide (2 ≤ leftN s d false), decide (leftN s d false = 1 ∨ leftN s d false = 3)) := by
 unfold annealref1_divide.f
 by_cases c : d ≤ 0
 ·obtain ⟨m, hm⟩ := nat_of (show 0 ≤ -d by omega)
  have e : mn (wrap64 (-d)) 63 = ((min m 63 : Nat) : Int) := by rw [w64_id _ (by omega) (by omega), hm]; unfold mn; split <;> omega
  simp only [if_pos c, e, if_pos (show 0 ≤ ((min m 63 : Nat) : Int) by omega), left_none false (.inl c)]
  have hq' := hq c
  rw [hm, Int.toNat_natCast] at hq'
  have e2 : IntKind.u64.wrap ((s : Int) * 2 ^ ((min m 63 : Nat) : Int).toNat) = (quoN s d : Int) := by
   rw [Int.toNat_natCast, show (s : Int) * 2 ^ (min m 63) = ((s * 2 ^ (min m 63) : Nat) : Int) by simp, u64_nat]
   unfold quoN; rw [if_pos c, hm, Int.toNat_natCast]
   by_cases z : s = 0
   ·subst z; simp
   ·have : m ≤ 63 := by
     rcases Nat.lt_or_ge 63 m with h | h
     ·have := pow_big (show 64 ≤ m by omega)
      have : 2 ^ m ≤ s * 2 ^ m := Nat.le_mul_of_pos_left _ (by omega)
      omega
     ·exact h
    rw [Nat.min_eq_left this, Nat.mod_eq_of_lt hq']
  rw [e2]
  exact Ev.now _
 ·obtain ⟨m, rfl⟩ := nat_of (show 0 ≤ d by omega)
  have hqe : quoN s (m : Int) = s / 2 ^ m := by unfold quoN; rw [if_neg c, Int.toNat_natCast]
  rw [hqe]
  simp only [if_neg c]
  by_cases c' : (m : Int) > 64
  ·simp only [if_pos c']
   have hb := pow_big (show 64 ≤ m - 1 by omega)
   have hb2 := pow_big (show 64 ≤ m by omega)
   have hl : leftN s (m : Int) false = if s = 0 then 0 else 1 := by
    by_cases z : s = 0
    ·subst z; rw [left_none _ (.inr (by simp))]; rfl
    ·rw [left_some _ c (by rw [Int.toNat_natCast, Nat.mod_eq_of_lt (by omega)]; exact z), Int.toNat_natCast, Nat.div_eq_of_lt (show s < 2 ^ (m - 1) by omega), if_neg z]; rfl
   rw [Nat.div_eq_of_lt (show s < 2 ^ m by omega), hl, show (0 : Int) = ((0 : Nat) : Int) from rfl, bne_cast]
   by_cases z : s = 0
   ·subst z; exact Ev.now _
   ·rw [if_neg z, decide_eq_true z]; exact Ev.now _
  ·have e : wrap64 ((m : Int) - 1) = ((m - 1 : Nat) : Int) := by rw [w64_id] <;> omega
   simp only [if_neg c', e]
   have hd : s / 2 ^ (m - 1) < 18446744073709551616 := Nat.lt_of_le_of_lt (Nat.div_le_self _ _) hs
   have s1 := ref_shift_ev s hs (m : Int)
   have s2 := ref_shift_ev s hs ((m - 1 : Nat) : Int)
   rw [shiftN_right] at s1 s2
   refine Ev.bind s1 (Ev.bind s2 (Ev.bind s2 ?_))
   rw [and1_u64 _ hd]
   have em : s % 2 ^ m = s % 2 ^ (m - 1) + 2 ^ (m - 1) * (s / 2 ^ (m - 1) % 2) := by
    rw [show m = m - 1 + 1 by omega, Nat.pow_succ, Nat.mod_mul, Nat.add_sub_cancel]
   have hb1 : (((s / 2 ^ (m - 1) % 2 : Nat) : Int) == 1) = decide (2 ≤ leftN s (m : Int) false) ∧ decide (s % 2 ^ (m - 1) ≠ 0) = decide (leftN s (m : Int) false = 1 ∨ leftN s (m : Int) false = 3) := by
    have hp := Nat.two_pow_pos (m - 1)
    by_cases z : s % 2 ^ m = 0
    ·rw [left_none _ (.inr (by rw [Int.toNat_natCast]; exact z))]
     rw [z] at em
     have z1 : s % 2 ^ (m - 1) = 0 := by omega
     have z2 : s / 2 ^ (m - 1) % 2 = 0 := by
      have : 2 ^ (m - 1) * (s / 2 ^ (m - 1) % 2) = 0 := by omega
      rcases Nat.mul_eq_zero.mp this with h | h
      ·omega
      ·exact h
     rw [z1, z2]; exact ⟨rfl, rfl⟩
    ·rw [left_some _ c (by rw [Int.toNat_natCast]; exact z), Int.toNat_natCast]
     have hb : s / 2 ^ (m - 1) % 2 = 0 ∨ s / 2 ^ (m - 1) % 2 = 1 := by omega
     rcases hb with hb | hb
     ·rw [hb, Nat.mul_zero, Nat.add_zero] at em
      rw [em] at z
      rw [hb, decide_eq_true z]; exact ⟨rfl, rfl⟩
     ·rw [hb, if_neg (by decide)]
      by_cases w : s % 2 ^ (m - 1) = 0
      ·rw [w]; exact ⟨rfl, rfl⟩
      ·rw [if_pos (.inl w), decide_eq_true w]; exact ⟨rfl, rfl⟩
   simp only [hb1.1, hb1.2]
   exact Ev.now _
theorem left_more (s : Nat) (d : Int) : decide (2 ≤ leftN s d true) = decide (2 ≤ leftN s d false) ∧ (leftN s d true = 1 ∨ leftN s d true = 3) := by
 by_cases c : d ≤ 0 ∨ s % 2 ^ d.toNat = 0
 ·rw [left_none _ c, left_none _ c]; simp
 ·have c' := not_or.mp c
  rw [left_some _ c'.1 c'.2, left_some _ c'.1 c'.2]
  split
  ·simp
  ·simp; split <;> simp
theorem ref_up_f (mode : Int) (neg : Bool) (q left : Nat) (h : left ≤ 3) : annealref1_up.f mode neg (decide (q % 2 = 1)) (decide (2 ≤ left)) (decide (left = 1 ∨ left = 3)) = some (upN mode neg q left) := by
 unfold annealref1_up.f upN
 have hl : left = 0 ∨ left = 1 ∨ left = 2 ∨ left = 3 := by omega
 by_cases m1 : mode = 1
 ·rw [if_pos m1, if_pos m1]
 ·rw [if_neg m1, if_neg m1]
  by_cases m2 : mode = 2
  ·rw [if_pos m2, if_pos m2]; rcases hl with rfl | rfl | rfl | rfl <;> cases neg <;> rfl
  ·rw [if_neg m2, if_neg m2]
   by_cases m3 : mode = 3
   ·rw [if_pos m3, if_pos m3]; rcases hl with rfl | rfl | rfl | rfl <;> cases neg <;> rfl
   ·rw [if_neg m3, if_neg m3]
    by_cases m4 : mode = 4
    ·rw [if_pos m4, if_pos m4]
    ·rw [if_neg m4, if_neg m4]
     rcases hl with rfl | rfl | rfl | rfl <;> simp
theorem ref_over_f (k : Nat) (f mode : Int) (neg : Bool) : annealref1_over.f (k + 1) f mode neg = some (((if endless mode neg then infN f neg else greatN f neg : Nat) : Int)) := by
 unfold annealref1_over.f endless
 simp only [annealref1_over.j0, ref_greatest_f, ref_inf_f, Option.bind_some]
 by_cases m1 : mode = 1
 ·rw [if_pos m1, if_pos m1]; rfl
 ·rw [if_neg m1, if_neg m1]
  by_cases m2 : mode = 2
  ·rw [if_pos m2, if_pos m2]; subst m2; cases neg <;> rfl
  ·rw [if_neg m2, if_neg m2]
   by_cases m3 : mode = 3
   ·rw [if_pos m3, if_pos m3]; cases neg <;> rfl
   ·rw [if_neg m3, if_neg m3]; rfl
/- The reference's rounding computes the same numbers as the program's. -/

theorem sign_or (f : Int) (neg : Bool) (v : Nat) (h : v < 2 ^ (fe f + fm f)) : Go.bits .or .u32 (signN f neg : Int) (v : Int) = ((v + signN f neg : Nat) : Int) ∧ v + signN f neg < 4294967296 := by
 obtain ⟨b1, b2, b3, b4, b5⟩ := fbounds f
 have h31 := pow_le31 b5
 unfold signN
 cases neg
 ·simp only [Bool.false_eq_true, if_false]
  rw [or_u32 _ _ (by omega) (by omega), Nat.zero_or, Nat.add_zero]; exact ⟨rfl, by omega⟩
 ·simp only [if_true]
  rw [or_u32 _ _ (by omega) (by omega), or_add _ _ (fe f + fm f) (by simp) h, Nat.add_comm]; exact ⟨rfl, by omega⟩
theorem ref_pack_j5 (k : Nat) (f mode : Int) (neg : Bool) (q U : Nat) (hU : U ≤ 10300) (hq : q < 2 ^ (fm f + 1)) (hq' : U ≠ 0 → 2 ^ fm f ≤ q) (K : Nat) (hK : K = U * 2 ^ fm f + q) (c0 c1 c2 c3 c4 : Bool) :
  annealref1_Pack.j5 (k + 2) f mode neg (fm f : Int) (leastN f - fm f + U) (q : Int) c0 c1 c2 c3 c4 = some
   ((((if overN f K then (if endless mode neg then topN f * 2 ^ fm f else topN f * 2 ^ fm f - 1) else K) + signN f neg : Nat) : Int),
    if overN f K then (false, false, true, false, true) else (c0, c1, c2, c3, c4)) ∧
  annealref1_Pack.j6 (k + 2) f mode neg (fm f : Int) (leastN f - fm f + U) (q : Int) c0 c1 c2 c3 c4 = some
   ((((if overN f K then (if endless mode neg then topN f * 2 ^ fm f else topN f * 2 ^ fm f - 1) else K) + signN f neg : Nat) : Int),
    if overN f K then (false, false, true, false, true) else (c0, c1, c2, c3, c4)) := by
 obtain ⟨b1, b2, b3, b4, b5⟩ := fbounds f
 have hl := least_cases f
 have hp := Nat.two_pow_pos (fm f)
 have hpe := Nat.two_pow_pos (fe f)
 have h31 := pow_le31 (show fm f + 1 ≤ 31 by omega)
 have h8 := pow_le31 (show fe f ≤ 31 by omega)
 have hsucc : 2 ^ (fm f + 1) = 2 * 2 ^ fm f := by rw [Nat.pow_succ, Nat.mul_comm]
 have ht := top_cases f
 obtain ⟨_, hte⟩ := inf_lt f neg
 have e1 : shl .u64 1 (fm f : Int) = ((2 ^ fm f : Nat) : Int) := by rw [show (1 : Int) = ((1 : Nat) : Int) from rfl, shl_u64, Nat.one_mul, Nat.mod_eq_of_lt (by omega)]
 have e2 : wrap64 (wrap64 (leastN f - (fm f : Int) + (U : Int) + (fm f : Int)) + (1 - leastN f)) = ((U + 1 : Nat) : Int) := by
  rw [w64_id (leastN f - (fm f : Int) + (U : Int) + (fm f : Int)) (by omega) (by omega), w64_id _ (by omega) (by omega)]; omega
 have e3 : wrap64 (shl .i64 1 (fe f : Int) - 1) = ((topN f : Nat) : Int) := by
  rw [one_shl_i64 _ (by omega), w64_id _ (by omega) (by omega)]; unfold topN; omega
 rw [annealref1_Pack.j5, annealref1_Pack.j6, if_pos (by omega), e1, ref_bias_f, ref_widths_f, ref_sign_f]
 simp only [Option.bind_some]
 rw [if_pos (show (0 : Int) ≤ (fe f : Int) by omega), e2, e3, ref_over_f]
 simp only [Option.bind_some]
 by_cases c : q < 2 ^ fm f
 ·have hU0 : U = 0 := by
   rcases Nat.eq_zero_or_pos U with h | h
   ·exact h
   ·have := hq' (by omega); omega
  have ho : overN f K = false := by
   unfold overN
   rw [decide_eq_false_iff_not, hK, hU0]
   have : 1 * 2 ^ fm f ≤ topN f * 2 ^ fm f := Nat.mul_le_mul_right _ (by omega)
   omega
  obtain ⟨s1, s2⟩ := sign_or f neg q (by omega)
  rw [if_pos (show (q : Int) < ((2 ^ fm f : Nat) : Int) by omega), show (q : Int) % 4294967296 = (q : Int) by omega, s1, ho, hK, hU0]
  simp
 ·rw [if_neg (show ¬ (q : Int) < ((2 ^ fm f : Nat) : Int) by omega)]
  have ho : ((U + 1 : Nat) : Int) ≥ (topN f : Int) ↔ overN f K = true := by
   unfold overN
   rw [decide_eq_true_iff, hK]
   constructor
   ·intro h
    have : topN f * 2 ^ fm f ≤ (U + 1) * 2 ^ fm f := Nat.mul_le_mul_right _ (by omega)
    rw [Nat.add_mul, Nat.one_mul] at this; omega
   ·intro h
    rcases Nat.lt_or_ge (U + 1) (topN f) with d | d
    ·have : (U + 1 + 1) * 2 ^ fm f ≤ topN f * 2 ^ fm f := Nat.mul_le_mul_right _ d
     rw [Nat.add_mul, Nat.add_mul, Nat.one_mul] at this; omega
    ·omega
  by_cases c' : ((U + 1 : Nat) : Int) ≥ (topN f : Int)
  ·rw [if_pos c', ho.mp c']
   simp only [if_true]
   have : (if endless mode neg then infN f neg else greatN f neg) = (if endless mode neg then topN f * 2 ^ fm f else topN f * 2 ^ fm f - 1) + signN f neg := by
    unfold infN greatN; split <;> rfl
   rw [this]
   exact ⟨rfl, rfl⟩
  ·rw [if_neg c']
   have co : overN f K = false := by simpa using fun h => c' (ho.mpr h)
   have hmul : (U + 1) * 2 ^ fm f + 2 ^ fm f ≤ 2 ^ (fe f + fm f) := by
    have : (U + 1) * 2 ^ fm f ≤ topN f * 2 ^ fm f := Nat.mul_le_mul_right _ (by omega)
    omega
   have h32 := pow_le31 b5
   have hm1 : q % 2 ^ fm f = q - 2 ^ fm f := by
    have h1 : q / 2 ^ fm f = 1 := Nat.div_eq_of_lt_le (by omega) (by omega)
    have := Nat.div_add_mod q (2 ^ fm f)
    rw [h1, Nat.mul_one] at this; omega
   have e4 : shl .u32 (((U + 1 : Nat) : Int) % 4294967296) (fm f : Int) = (((U + 1) * 2 ^ fm f : Nat) : Int) := by
    rw [show ((U + 1 : Nat) : Int) % 4294967296 = ((U + 1 : Nat) : Int) by omega, shl_u32, Nat.mod_eq_of_lt (by omega)]
   have e5 : Go.bits .and .u64 (q : Int) (IntKind.u64.wrap (((2 ^ fm f : Nat) : Int) - 1)) % 4294967296 = ((q % 2 ^ fm f : Nat) : Int) := by
    rw [show ((2 ^ fm f : Nat) : Int) - 1 = ((2 ^ fm f - 1 : Nat) : Int) by omega, u64_id _ (by omega), mask_u64 _ _ (by omega) (by omega)]
    have := Nat.mod_lt q hp; omega
   have hKe : K + signN f neg = (U + 1) * 2 ^ fm f + signN f neg + q % 2 ^ fm f := by
    rw [hK, hm1, Nat.add_mul]; omega
   obtain ⟨s1, s2⟩ := sign_or f neg ((U + 1) * 2 ^ fm f) (by omega)
   have hq2 : q % 2 ^ fm f < 2 ^ fm f := Nat.mod_lt _ hp
   have e6 : Go.bits .or .u32 (((U + 1) * 2 ^ fm f + signN f neg : Nat) : Int) ((q % 2 ^ fm f : Nat) : Int) = (((U + 1) * 2 ^ fm f + signN f neg + q % 2 ^ fm f : Nat) : Int) := by
    rw [or_u32 _ _ s2 (by omega), or_add _ _ (fm f) ?_ hq2]
    unfold signN
    cases neg
    ·simp
    ·simp only [if_true]
     rw [Nat.pow_add, ← Nat.add_mul, Nat.mul_mod_left]
   rw [e4, s1, e5, e6, co]
   simp only [Bool.false_eq_true, if_false, hKe]
   exact ⟨trivial, trivial⟩
theorem step_ew (f : Int) : wrap64 ((fm f : Int) + 1) = ((fm f + 1 : Nat) : Int) := by
 obtain ⟨b1, b2, b3, b4, b5⟩ := fbounds f
 rw [w64_id] <;> omega
theorem step_es (f : Int) : shl .u64 1 ((fm f + 1 : Nat) : Int) = ((2 ^ (fm f + 1) : Nat) : Int) := by
 obtain ⟨b1, b2, b3, b4, b5⟩ := fbounds f
 have h31 := pow_le31 (show fm f + 1 ≤ 31 by omega)
 rw [show (1 : Int) = ((1 : Nat) : Int) from rfl, shl_u64, Nat.one_mul, Nat.mod_eq_of_lt (by omega)]
theorem step_e8 (f : Int) (U : Nat) (h : U ≤ 10200) : wrap64 (leastN f - (fm f : Int) + (U : Int) + 1) = leastN f - (fm f : Int) + ((U + 1 : Nat) : Int) := by
 obtain ⟨b1, b2, b3, b4, b5⟩ := fbounds f
 have hl := least_cases f
 rw [w64_id] <;> omega
theorem step_e9 (f : Int) : (((2 ^ (fm f + 1) : Nat) : Int)) / 2 = ((2 ^ fm f : Nat) : Int) := by
 have hsucc : 2 ^ (fm f + 1) = 2 * 2 ^ fm f := by rw [Nat.pow_succ, Nat.mul_comm]
 omega
theorem step_lt (f : Int) : 2 ^ fm f < 2 ^ (fm f + 1) := Nat.pow_lt_pow_right (by decide) (Nat.lt_succ_self _)
theorem step_key (U m q : Nat) (h : q = 2 * m) : (U + 1) * m + m = U * m + q := by rw [Nat.add_mul]; omega
theorem step_q {a b : Nat} (h : a ≤ b) (h' : ¬ a = b) : a < b := by omega
theorem step_i {a b : Nat} (h' : ¬ a = b) : ¬ ((a : Int) = (b : Int)) := by omega
theorem step_n {m : Nat} : (0 : Int) ≤ (m : Int) := by omega
theorem ref_pack_ev (f mode : Int) (neg : Bool) (x : Int) (s : Nat) (more : Bool) (hs : s < 18446744073709551616) :
  Ev (fun k => annealref1_Pack.f k f mode neg x (s : Int) more) ((packN f mode neg (clampE x) s more : Int), false, false, excN f mode neg (clampE x) s more) := by
 unfold annealref1_Pack.f
 have hc : mn (mx x (-10000)) 10000 = clampE x := rfl
 obtain ⟨h1, h2⟩ := clampE_bounds x
 rw [hc]
 generalize clampE x = x at *
 have hll := left_le s (unitN f x s - x) more
 by_cases z : s = 0 ∧ more = false
 ·obtain ⟨rfl, rfl⟩ := z
  simp only [if_pos (show ((0 : Nat) : Int) = 0 from rfl)]
  refine Ev.step (fun k => by rw [annealref1_Pack.j0]) ?_
  simp only [Bool.not_false, if_true, ref_zero_f, Option.bind_some]
  have h := pack_f 0 f mode neg x 0 false (by decide)
  rw [clampE_id x h1 h2] at h
  unfold round_Pack.f at h
  rw [if_pos (by rfl), show mn (mx x (-10000)) 10000 = x from clampE_id x h1 h2, round_Pack.j0] at h
  simp only [Bool.not_false, if_true, zero_f, Option.bind_some] at h
  rw [← Option.some.inj h]
  exact Ev.now _
 ·have hj : ∀ k, (if (s : Int) = 0 then annealref1_Pack.j0 k f mode neg x (s : Int) more (!more) else annealref1_Pack.j0 k f mode neg x (s : Int) more false) = annealref1_Pack.j0 k f mode neg x (s : Int) more false := by
   intro k
   by_cases c : (s : Int) = 0
   ·rw [if_pos c]
    cases more
    ·exact absurd ⟨by omega, rfl⟩ z
    ·rfl
   ·rw [if_neg c]
  refine Ev.congr hj ?_
  obtain ⟨u1, u2, u3⟩ := unit_bounds f x s hs h1 h2
  obtain ⟨q1, q2⟩ := quo_bounds f x s
  obtain ⟨b1, b2, b3, b4, b5⟩ := fbounds f
  have hl := least_cases f
  have hn := lenN_small s hs
  have h31 := pow_le31 (show fm f + 1 ≤ 31 by omega)
  have hp := Nat.two_pow_pos (fm f)
  have hsucc : 2 ^ (fm f + 1) = 2 * 2 ^ fm f := by rw [Nat.pow_succ, Nat.mul_comm]
  have hq64 : quoN s (unitN f x s - x) < 18446744073709551616 := by omega
  have hd : unitN f x s - x ≤ 0 → s * 2 ^ (-(unitN f x s - x)).toNat < 18446744073709551616 := by
   intro h; have := hq64; unfold quoN at this; rw [if_pos h] at this; exact this
  -- the exponent that the reference takes
  have hE : ∃ e : Int, (∀ k, (if (s : Int) = 0 then annealref1_Pack.j1 k f mode neg x (s : Int) more (fm f : Int) (leastN f) (-20000) else annealref1_Pack.j1 k f mode neg x (s : Int) more (fm f : Int) (leastN f) (wrap64 (wrap64 (x + (lenN s : Int)) - 1))) = annealref1_Pack.j1 k f mode neg x (s : Int) more (fm f : Int) (leastN f) e) ∧ wrap64 (mx e (leastN f) - (fm f : Int)) = unitN f x s ∧ (decide (e < leastN f) = (decide (s = 0) || decide (x + lenN s - 1 < leastN f))) := by
   by_cases c : s = 0
   ·subst c
    refine ⟨-20000, fun k => by rw [if_pos (show ((0 : Nat) : Int) = 0 from rfl)], ?_, ?_⟩
    ·have : riseN f x 0 = 0 := by unfold riseN; rw [if_pos rfl]
     have hm : mx (-20000) (leastN f) = leastN f := by unfold mx; split <;> omega
     rw [hm]
     unfold unitN; rw [this, w64_id _ (by omega) (by omega)]; omega
    ·rw [decide_eq_true (by omega)]; simp
   ·have e1 : wrap64 (wrap64 (x + (lenN s : Int)) - 1) = x + lenN s - 1 := by
     rw [w64_id (x + _) (by omega) (by omega), w64_id _ (by omega) (by omega)]
    refine ⟨x + lenN s - 1, fun k => by rw [if_neg (by omega), e1], ?_, ?_⟩
    ·have hr : riseN f x s = (x + lenN s - 1 - leastN f).toNat := by unfold riseN; rw [if_neg c]
     unfold unitN mx
     split
     ·rw [w64_id _ (by omega) (by omega)]; omega
     ·rw [w64_id _ (by omega) (by omega)]; omega
    ·rw [decide_eq_false c, Bool.false_or]
  obtain ⟨e, he1, he2, he3⟩ := hE
  refine Ev.step (fun k => by rw [annealref1_Pack.j0]) ?_
  simp only [Bool.false_eq_true, if_false, ref_widths_f, ref_bias_f, Option.bind_some]
  refine Ev.bind (ref_len_ev s hs) ?_
  rw [show (1 : Int) - (1 - leastN f) = leastN f by omega, w64_id (leastN f) (by omega) (by omega)]
  refine Ev.congr he1 ?_
  refine Ev.step (fun k => by rw [annealref1_Pack.j1]) ?_
  rw [he2, w64_id (unitN f x s - x) (by omega) (by omega)]
  refine Ev.bind (ref_divide_f s hs _ (by omega) (by omega) hd) ?_
  -- what is left, with the little more
  have hlm : leftN s (unitN f x s - x) false ≤ 3 := left_le s _ false
  have hcol : ∀ k (r : Option (Int × Bool × Bool × Bool × Bool × Bool)), annealref1_Pack.j2 k f mode neg (fm f : Int) (leastN f) e (unitN f x s) (quoN s (unitN f x s - x) : Int) (decide (2 ≤ leftN s (unitN f x s - x) more)) (decide (leftN s (unitN f x s - x) more = 1 ∨ leftN s (unitN f x s - x) more = 3)) = r →
    (if decide (leftN s (unitN f x s - x) false = 1 ∨ leftN s (unitN f x s - x) false = 3) = true then annealref1_Pack.j2 k f mode neg (fm f : Int) (leastN f) e (unitN f x s) (quoN s (unitN f x s - x) : Int) (decide (2 ≤ leftN s (unitN f x s - x) false)) true else annealref1_Pack.j2 k f mode neg (fm f : Int) (leastN f) e (unitN f x s) (quoN s (unitN f x s - x) : Int) (decide (2 ≤ leftN s (unitN f x s - x) false)) more) = r := by
   intro k r h
   cases more
   ·by_cases c : leftN s (unitN f x s - x) false = 1 ∨ leftN s (unitN f x s - x) false = 3
    ·rw [decide_eq_true c] at h ⊢; rw [if_pos rfl]; exact h
    ·rw [decide_eq_false c] at h ⊢; rw [if_neg (by decide)]; exact h
   ·obtain ⟨m1, m2⟩ := left_more s (unitN f x s - x)
    rw [decide_eq_true m2, m1] at h
    split <;> exact h
  refine Ev.congr (fun k => hcol k _ rfl) ?_
  generalize hL : leftN s (unitN f x s - x) more = L at *
  refine Ev.step (fun k => by rw [annealref1_Pack.j2]) ?_
  have hinx : decide (L ≠ 0) = inexN f x s more := by unfold inexN; rw [hL]
  have h2 : ∀ k, (if decide (2 ≤ L) = true then annealref1_Pack.j3 k f mode neg (fm f : Int) (leastN f) e (unitN f x s) (quoN s (unitN f x s - x) : Int) (decide (2 ≤ L)) (decide (L = 1 ∨ L = 3)) true else annealref1_Pack.j3 k f mode neg (fm f : Int) (leastN f) e (unitN f x s) (quoN s (unitN f x s - x) : Int) (decide (2 ≤ L)) (decide (L = 1 ∨ L = 3)) (decide (L = 1 ∨ L = 3))) = annealref1_Pack.j3 k f mode neg (fm f : Int) (leastN f) e (unitN f x s) (quoN s (unitN f x s - x) : Int) (decide (2 ≤ L)) (decide (L = 1 ∨ L = 3)) (inexN f x s more) := by
   intro k
   rw [← hinx]
   have : L = 0 ∨ L = 1 ∨ L = 2 ∨ L = 3 := by omega
   rcases this with h | h | h | h <;> subst h <;> rfl
  refine Ev.congr h2 ?_
  refine Ev.step (fun k => by rw [annealref1_Pack.j3]) ?_
  have hodd : ((Go.bits .and .u64 (quoN s (unitN f x s - x) : Int) 1 == 1) : Bool) = decide (quoN s (unitN f x s - x) % 2 = 1) := by
   rw [and1_u64 _ hq64, show (1 : Int) = ((1 : Nat) : Int) from rfl, beq_nn]
  simp only [hodd, ref_up_f mode neg _ L hll, Option.bind_some]
  -- the unit above
  have hK : keyN f mode neg x s more = riseN f x s * 2 ^ fm f + (quoN s (unitN f x s - x) + (if upN mode neg (quoN s (unitN f x s - x)) L then 1 else 0)) := by
   unfold keyN; rw [hL, Nat.add_assoc]
  have h3 : ∀ k, (if upN mode neg (quoN s (unitN f x s - x)) L = true then annealref1_Pack.j4 k f mode neg (fm f : Int) (leastN f) e (unitN f x s) (IntKind.u64.wrap ((quoN s (unitN f x s - x) : Int) + 1)) (inexN f x s more) else annealref1_Pack.j4 k f mode neg (fm f : Int) (leastN f) e (unitN f x s) (quoN s (unitN f x s - x) : Int) (inexN f x s more)) = annealref1_Pack.j4 k f mode neg (fm f : Int) (leastN f) e (unitN f x s) ((quoN s (unitN f x s - x) + (if upN mode neg (quoN s (unitN f x s - x)) L then 1 else 0) : Nat) : Int) (inexN f x s more) := by
   intro k
   by_cases c : upN mode neg (quoN s (unitN f x s - x)) L = true
   ·rw [if_pos c, if_pos c, show (quoN s (unitN f x s - x) : Int) + 1 = ((quoN s (unitN f x s - x) + 1 : Nat) : Int) by omega, u64_id _ (by omega)]
   ·rw [if_neg c, if_neg c, Nat.add_zero]
  refine Ev.congr h3 ?_
  have hqn : quoN s (unitN f x s - x) + (if upN mode neg (quoN s (unitN f x s - x)) L then 1 else 0) ≤ 2 ^ (fm f + 1) := by split <;> omega
  have hqm : riseN f x s ≠ 0 → 2 ^ fm f ≤ quoN s (unitN f x s - x) + (if upN mode neg (quoN s (unitN f x s - x)) L then 1 else 0) := fun h => Nat.le_trans (q2 h) (Nat.le_add_right _ _)
  generalize quoN s (unitN f x s - x) + (if upN mode neg (quoN s (unitN f x s - x)) L then 1 else 0) = Q at *
  have hun : unitN f x s = leastN f - fm f + (riseN f x s : Nat) := rfl
  rw [hun]
  have ew := step_ew f
  have es := step_es f
  have e8 := step_e8 f _ u3
  have e9 := step_e9 f
  have fin : ∀ r : Int × Bool × Bool × Bool × Bool × Bool, r = ((((if overN f (keyN f mode neg x s more) then (if endless mode neg then topN f * 2 ^ fm f else topN f * 2 ^ fm f - 1) else keyN f mode neg x s more) + signN f neg : Nat) : Int), if overN f (keyN f mode neg x s more) then (false, false, true, false, true) else (false, false, false, underN f x s more, inexN f x s more)) → r = ((packN f mode neg x s more : Int), false, false, excN f mode neg x s more) := by
   intro r hr
   rw [hr]
   unfold packN excN
   split <;> rfl
  have hund : underN f x s more = (inexN f x s more && decide (e < leastN f)) := by unfold underN; rw [he3]
  refine Ev.step (fun k => by rw [annealref1_Pack.j4]) ?_
  simp only [ew, es, e8, if_pos (step_n (m := fm f + 1))]
  by_cases cQ : Q = 2 ^ (fm f + 1)
  ·have g := fun k c3 => ref_pack_j5 k f mode neg (2 ^ fm f) (riseN f x s + 1) (Nat.le_trans (Nat.succ_le_succ u3) (by decide)) (step_lt f) (fun _ => Nat.le_refl _) (keyN f mode neg x s more) (by rw [hK]; exact (step_key _ _ _ (cQ.trans hsucc)).symm) false false false c3 (inexN f x s more)
   simp only [cQ, if_true, e9]
   by_cases ci : inexN f x s more = true
   ·simp only [ci, if_true] at g ⊢
    rw [ci, Bool.true_and] at hund
    rw [← fin _ rfl, hund, ci]
    exact ⟨2, fun n hn => by obtain ⟨m, rfl⟩ : ∃ m, n = m + 2 := ⟨n - 2, by omega⟩; exact (g m _).1⟩
   ·rw [Bool.not_eq_true] at ci
    simp only [ci, Bool.false_eq_true, if_false] at g ⊢
    rw [ci, Bool.false_and] at hund
    rw [← fin _ rfl, hund, ci]
    exact ⟨2, fun n hn => by obtain ⟨m, rfl⟩ : ∃ m, n = m + 2 := ⟨n - 2, by omega⟩; exact (g m _).2⟩
  ·have g := fun k c3 => ref_pack_j5 k f mode neg Q (riseN f x s) (Nat.le_trans u3 (by decide)) (step_q hqn cQ) hqm (keyN f mode neg x s more) hK false false false c3 (inexN f x s more)
   have cQ' : ¬ ((Q : Int) = ((2 ^ (fm f + 1) : Nat) : Int)) := step_i cQ
   simp only [cQ', if_false]
   by_cases ci : inexN f x s more = true
   ·simp only [ci, if_true] at g ⊢
    rw [ci, Bool.true_and] at hund
    rw [← fin _ rfl, hund, ci]
    exact ⟨2, fun n hn => by obtain ⟨m, rfl⟩ : ∃ m, n = m + 2 := ⟨n - 2, by omega⟩; exact (g m _).1⟩
   ·rw [Bool.not_eq_true] at ci
    simp only [ci, Bool.false_eq_true, if_false] at g ⊢
    rw [ci, Bool.false_and] at hund
    rw [← fin _ rfl, hund, ci]
    exact ⟨2, fun n hn => by obtain ⟨m, rfl⟩ : ∃ m, n = m + 2 := ⟨n - 2, by omega⟩; exact (g m _).2⟩
end Go.Proofs.Ytejkemahdincjaa.Round

/- The reference's whole numbers of 640 bits: what its functions answer. -/
namespace Go.Proofs.Ytejkemahdincjaa.Round
open Go.RowKit Go.Proofs.Ytejkemahdincjaa.P Go.Proofs.Ytejkemahdincjaa.E Go.Proofs.Ytejkemahdincjaa.Num Go.Proofs.Ytejkemahdincjaa.BitsF Go.Proofs.Ytejkemahdincjaa.Fmt Go.Proofs.YtejkemahdincjaaW.PrintWords Go.Proofs.YtejkemahdincjaaW.PrintLast Go.Proofs.YtejkemahdincjaaW.PrintMore

theorem below_l2 (xn yn : Bool) {xs ys : List Int} (hx : Lims xs) (hy : Lims ys) (j : Nat) (hj : j ≤ 10) : Ev2 (fun k n => annealref1_below.l2 k n ((j : Int) - 1) yn ys xn xs) (decide (lo xs j < lo ys j)) := by
  induction j with
  | zero => exact Ev2.step (fun k n => by rw [annealref1_below.l2_eq, if_neg (by omega), lo_none, lo_none]; rfl) (Ev2.now _)
  | succ j ih =>
    have a := lo_lt hx j
    have b := lo_lt hy j
    have q0 : (0 : Int) ≤ ((j + 1 : Nat) : Int) - 1 := by omega
    have q1 : ((j + 1 : Nat) : Int) - 1 < 10 := by omega
    have e : ((j + 1 : Nat) : Int) - 1 = (j : Int) := by omega
    refine Ev2.step (fun k n => by rw [annealref1_below.l2_eq, if_pos q0, if_pos q0, if_pos q1, if_pos q0, if_pos q1, e, hx.rd j, hy.rd j]) ?_
    rw [lo_succ, lo_succ]
    by_cases c : lim xs j = lim ys j
    · refine Ev2.congr (fun k n => by rw [if_pos (by rw [c]), w64_id _ (by omega) (by omega)]) ?_
      rw [c]
      simp only [Nat.add_lt_add_iff_right]
      exact ih (by omega)
    · refine Ev2.congr (fun k n => by rw [if_neg (by omega), if_pos (by omega), if_pos (by omega), if_pos (by omega), if_pos (by omega)]) ?_
      have h : decide ((lim xs j : Int) < (lim ys j : Int)) = decide (lo xs j + lim xs j * 2 ^ (64 * j) < lo ys j + lim ys j * 2 ^ (64 * j)) := by
        apply decide_eq_decide.mpr
        rcases Nat.lt_or_gt_of_ne c with c | c
        · have := Nat.mul_le_mul_right (2 ^ (64 * j)) (show lim xs j + 1 ≤ lim ys j from c)
          rw [Nat.add_mul] at this; omega
        · have := Nat.mul_le_mul_right (2 ^ (64 * j)) (show lim ys j + 1 ≤ lim xs j from c)
          rw [Nat.add_mul] at this; omega
      rw [← h]; exact Ev2.now _
theorem below_ev (xn yn : Bool) {xs ys : List Int} (hx : Lims xs) (hy : Lims ys) : Ev (fun n => E.annealref1_below.f n xn xs yn ys) (decide (lo xs 10 < lo ys 10)) :=
  Ev.congr (fun n => annealref1_below.eq n xn xs yn ys) (below_l2 xn yn hx hy 10 (by decide)).diag

theorem limb_sub (x y b : Nat) (hx : x < 18446744073709551616) (hy : y < 18446744073709551616) (hb : b ≤ 1) :
    ∃ d c : Nat, d < 18446744073709551616 ∧ c ≤ 1 ∧ d + y + b = x + c * 18446744073709551616 ∧ IntKind.u64.wrap (IntKind.u64.wrap ((x : Int) - (y : Int)) - (b : Int)) = (d : Int) ∧
      (c = 1 ↔ ((x : Int) < (y : Int) ∨ IntKind.u64.wrap ((x : Int) - (y : Int)) < (b : Int))) := by
  rw [u64_wrap, u64_wrap]
  by_cases c : x < y + b
  · exact ⟨x + 18446744073709551616 - y - b, 1, by omega, by omega, by omega, by omega, by omega⟩
  · exact ⟨x - y - b, 0, by omega, by omega, by omega, by omega, by omega⟩
theorem limb_add (x y b : Nat) (hx : x < 18446744073709551616) (hy : y < 18446744073709551616) (hb : b ≤ 1) :
    ∃ d c : Nat, d < 18446744073709551616 ∧ c ≤ 1 ∧ x + y + b = d + c * 18446744073709551616 ∧ IntKind.u64.wrap (IntKind.u64.wrap ((x : Int) + (y : Int)) + (b : Int)) = (d : Int) ∧
      (c = 1 ↔ (IntKind.u64.wrap ((x : Int) + (y : Int)) < (x : Int) ∨ IntKind.u64.wrap (IntKind.u64.wrap ((x : Int) + (y : Int)) + (b : Int)) < IntKind.u64.wrap ((x : Int) + (y : Int)))) := by
  rw [u64_wrap, u64_wrap]
  by_cases c : x + y + b < 18446744073709551616
  · exact ⟨x + y + b, 0, by omega, by omega, by omega, by omega, by omega⟩
  · exact ⟨x + y + b - 18446744073709551616, 1, by omega, by omega, by omega, by omega, by omega⟩
theorem minus_l5 (ln xn yn : Bool) (z : List Int) {xs ys : List Int} (hx : Lims xs) (hy : Lims ys) (m : Nat) : ∀ (i : Nat) (b : Nat) (L : List Int), i + m = 10 → Lims L → b ≤ 1 → lo L i + lo ys i = lo xs i + b * 2 ^ (64 * i) → (∀ j, i ≤ j → lim L j = lim xs j) →
    ∃ (R : List Int) (c : Nat), Ev2 (fun k n => annealref1_minus.l5 k n (i : Int) (b : Int) ln z yn ys xn L) (xn, R) ∧ Lims R ∧ lo R 10 + lo ys 10 = lo xs 10 + c * T640 := by
  induction m with
  | zero =>
    intro i b L hi hL hb h1 h2
    obtain rfl : i = 10 := by omega
    exact ⟨L, b, Ev2.step (fun k n => by rw [annealref1_minus.l5_eq, if_neg (by omega)]) (Ev2.now _), hL, by rw [← T640_eq]; exact h1⟩
  | succ m ih =>
    intro i b L hi hL hb h1 h2
    have i1 : (i : Int) < 10 := by omega
    have i0 : (0 : Int) ≤ (i : Int) := by omega
    have e := h2 i (Nat.le_refl _)
    obtain ⟨d, c, d1, c1, d2, d3, d4⟩ := limb_sub (lim xs i) (lim ys i) b (hx.lt i) (hy.lt i) hb
    have hlen : i < L.length := by rw [hL.len]; omega
    have key : lo (L.set i (d : Int)) (i + 1) + lo ys (i + 1) = lo xs (i + 1) + c * 2 ^ (64 * (i + 1)) := by
      rw [lo_succ, lo_succ, lo_succ, lo_set L i _ hlen, lim_set L i i _ hlen, if_pos rfl, Int.toNat_natCast, show 64 * (i + 1) = 64 * i + 64 by omega, Nat.pow_add, show (2 : Nat) ^ 64 = 18446744073709551616 by decide, Nat.mul_comm (2 ^ (64 * i)), ← Nat.mul_assoc]
      have := congrArg (· * 2 ^ (64 * i)) d2
      simp only [Nat.add_mul] at this
      omega
    obtain ⟨R, q, r1, r2, r3⟩ := ih (i + 1) c (L.set i (d : Int)) (by omega) (hL.set i d (by omega) d1) c1 key (fun j hj => by rw [lim_set L i j _ hlen, if_neg (by omega)]; exact h2 j (by omega))
    refine ⟨R, q, ?_, r2, r3⟩
    refine Ev2.step (fun k n => by
      rw [annealref1_minus.l5_eq, if_pos i1, if_pos i0, if_pos i1, if_pos i0, if_pos i1, if_pos i0, if_pos i1, if_pos i0, if_pos i1, hL.rd i, hy.rd i, e, d3, Int.toNat_natCast, w64_id _ (by omega) (by omega), if_pos i0, if_pos i1]) ?_
    rw [show ((i : Int) + 1) = ((i + 1 : Nat) : Int) by omega]
    rcases Nat.lt_or_ge c 1 with c0 | c0
    · obtain rfl : c = 0 := by omega
      refine Ev2.congr (fun k n => by rw [if_neg (fun h => absurd (d4.mpr (.inl h)) (by decide)), if_neg (fun h => absurd (d4.mpr (.inr h)) (by decide)), if_pos i0, if_pos i1]) ?_
      exact r1
    · obtain rfl : c = 1 := by omega
      refine Ev2.congr (fun k n => ?_) r1
      by_cases t : (lim xs i : Int) < (lim ys i : Int)
      · rw [if_pos t]; rfl
      · rw [if_neg t, if_pos ((d4.mp rfl).resolve_left t)]; rfl
theorem plus_l5 (ln xn yn : Bool) (z : List Int) {xs ys : List Int} (hx : Lims xs) (hy : Lims ys) (m : Nat) : ∀ (i : Nat) (b : Nat) (L : List Int), i + m = 10 → Lims L → b ≤ 1 → lo L i + b * 2 ^ (64 * i) = lo xs i + lo ys i → (∀ j, i ≤ j → lim L j = lim xs j) →
    ∃ (R : List Int) (c : Nat), Ev2 (fun k n => annealref1_plus.l5 k n (i : Int) (b : Int) ln z yn ys xn L) (xn, R) ∧ Lims R ∧ lo R 10 + c * T640 = lo xs 10 + lo ys 10 := by
  induction m with
  | zero =>
    intro i b L hi hL hb h1 h2
    obtain rfl : i = 10 := by omega
    exact ⟨L, b, Ev2.step (fun k n => by rw [annealref1_plus.l5_eq, if_neg (by omega)]) (Ev2.now _), hL, by rw [← T640_eq]; exact h1⟩
  | succ m ih =>
    intro i b L hi hL hb h1 h2
    have i1 : (i : Int) < 10 := by omega
    have i0 : (0 : Int) ≤ (i : Int) := by omega
    have e := h2 i (Nat.le_refl _)
    obtain ⟨d, c, d1, c1, d2, d3, d4⟩ := limb_add (lim xs i) (lim ys i) b (hx.lt i) (hy.lt i) hb
    have hlen : i < L.length := by rw [hL.len]; omega
    have key : lo (L.set i (d : Int)) (i + 1) + c * 2 ^ (64 * (i + 1)) = lo xs (i + 1) + lo ys (i + 1) := by
      rw [lo_succ, lo_succ, lo_succ, lo_set L i _ hlen, lim_set L i i _ hlen, if_pos rfl, Int.toNat_natCast, show 64 * (i + 1) = 64 * i + 64 by omega, Nat.pow_add, show (2 : Nat) ^ 64 = 18446744073709551616 by decide, Nat.mul_comm (2 ^ (64 * i)), ← Nat.mul_assoc]
      have := congrArg (· * 2 ^ (64 * i)) d2
      simp only [Nat.add_mul] at this
      omega
    obtain ⟨R, q, r1, r2, r3⟩ := ih (i + 1) c (L.set i (d : Int)) (by omega) (hL.set i d (by omega) d1) c1 key (fun j hj => by rw [lim_set L i j _ hlen, if_neg (by omega)]; exact h2 j (by omega))
    refine ⟨R, q, ?_, r2, r3⟩
    refine Ev2.step (fun k n => by
      rw [annealref1_plus.l5_eq, if_pos i1, if_pos i0, if_pos i1, if_pos i0, if_pos i1, if_pos i0, if_pos i1, hL.rd i, hy.rd i, e, d3, Int.toNat_natCast, w64_id _ (by omega) (by omega), if_pos i0, if_pos i1]) ?_
    rw [show ((i : Int) + 1) = ((i + 1 : Nat) : Int) by omega]
    rw [d3] at d4
    rcases Nat.lt_or_ge c 1 with c0 | c0
    · obtain rfl : c = 0 := by omega
      refine Ev2.congr (fun k n => by rw [if_neg (fun h => absurd (d4.mpr (.inl h)) (by decide)), if_neg (fun h => absurd (d4.mpr (.inr h)) (by decide)), if_pos i0, if_pos i1]) ?_
      exact r1
    · obtain rfl : c = 1 := by omega
      refine Ev2.congr (fun k n => ?_) r1
      by_cases t : IntKind.u64.wrap ((lim xs i : Int) + (lim ys i : Int)) < (lim xs i : Int)
      · rw [if_pos t]; rfl
      · rw [if_neg t, if_pos ((d4.mp rfl).resolve_left t)]; rfl
theorem wminus_ev (xn yn : Bool) {xs ys : List Int} (hx : Lims xs) (hy : Lims ys) : ∃ R, Lims R ∧ lo R 10 = (if lo xs 10 < lo ys 10 then lo ys 10 - lo xs 10 else lo xs 10 - lo ys 10) ∧
    Ev (fun n => E.annealref1_minus.f n xn xs yn ys) ((if lo xs 10 < lo ys 10 then yn else xn), R) := by
  have hb := below_ev xn yn hx hy
  have fin : ∀ (R : List Int) (c X Y : Nat), Lims R → lo R 10 + Y = X + c * T640 → Y ≤ X → lo R 10 = X - Y := by
    intro R c X Y hR h hle
    have hl := lo_top hR
    rcases Nat.eq_zero_or_pos c with c0 | c0
    · rw [c0, Nat.zero_mul] at h; omega
    · have : 1 * T640 ≤ _ := Nat.mul_le_mul_right T640 c0
      rw [Nat.one_mul] at this; omega
  by_cases c : lo xs 10 < lo ys 10
  · obtain ⟨R, q, r1, r2, r3⟩ := minus_l5 false yn xn (0 :: List.replicate 9 0) hy hx 10 0 0 ys (by decide) hy (by decide) (by rw [lo_none, lo_none]) (fun _ _ => rfl)
    refine ⟨R, r2, by rw [if_pos c]; exact fin R q _ _ r2 r3 (by omega), ?_⟩
    refine Ev.congr (fun n => annealref1_minus.eq n xn xs yn ys) (Ev.bind hb ?_)
    rw [if_pos c, decide_eq_true c]
    exact Ev.congr (fun n => by rw [if_pos rfl]; rfl) r1.diag
  · obtain ⟨R, q, r1, r2, r3⟩ := minus_l5 false xn yn (0 :: List.replicate 9 0) hx hy 10 0 0 xs (by decide) hx (by decide) (by rw [lo_none, lo_none]) (fun _ _ => rfl)
    refine ⟨R, r2, by rw [if_neg c]; exact fin R q _ _ r2 r3 (by omega), ?_⟩
    refine Ev.congr (fun n => annealref1_minus.eq n xn xs yn ys) (Ev.bind hb ?_)
    rw [if_neg c, decide_eq_false c]
    exact Ev.congr (fun n => by rw [if_neg (by decide)]; rfl) r1.diag
theorem plus_same (xn : Bool) {xs ys : List Int} (hx : Lims xs) (hy : Lims ys) (h : lo xs 10 + lo ys 10 < T640) : ∃ R, Lims R ∧ lo R 10 = lo xs 10 + lo ys 10 ∧
    Ev (fun n => E.annealref1_plus.f n xn xs xn ys) (xn, R) := by
  obtain ⟨R, q, r1, r2, r3⟩ := plus_l5 false xn xn (0 :: List.replicate 9 0) hx hy 10 0 0 xs (by decide) hx (by decide) (by rw [lo_none, lo_none]) (fun _ _ => rfl)
  refine ⟨R, r2, ?_, ?_⟩
  · rcases Nat.eq_zero_or_pos q with c0 | c0
    · rw [c0, Nat.zero_mul, Nat.add_zero] at r3; exact r3
    · have : 1 * T640 ≤ _ := Nat.mul_le_mul_right T640 c0
      rw [Nat.one_mul] at this; omega
  · exact Ev.congr (fun n => by rw [annealref1_plus.eq, if_pos (beq_self_eq_true _)]; rfl) r1.diag
theorem plus_diff (xn yn : Bool) (e : xn ≠ yn) {xs ys : List Int} (hx : Lims xs) (hy : Lims ys) : ∃ R, Lims R ∧ lo R 10 = (if lo xs 10 < lo ys 10 then lo ys 10 - lo xs 10 else lo xs 10 - lo ys 10) ∧
    Ev (fun n => E.annealref1_plus.f n xn xs yn ys) ((if lo xs 10 < lo ys 10 then yn else xn), R) := by
  obtain ⟨R, r1, r2, r3⟩ := wminus_ev xn yn hx hy
  refine ⟨R, r1, r2, ?_⟩
  refine Ev.congr (fun n => by rw [annealref1_plus.eq, if_neg (by rw [beq_iff_eq]; exact e)]) (Ev.bind r3 (Ev.now _))
theorem plus_ev (xn yn : Bool) {xs ys : List Int} (hx : Lims xs) (hy : Lims ys) (h : lo xs 10 + lo ys 10 < T640) : ∃ R, Lims R ∧ lo R 10 = (wideN xn (lo xs 10) yn (lo ys 10)).2 ∧
    Ev (fun n => E.annealref1_plus.f n xn xs yn ys) ((wideN xn (lo xs 10) yn (lo ys 10)).1, R) := by
  by_cases e : xn = yn
  · subst e
    obtain ⟨R, r1, r2, r3⟩ := plus_same xn hx hy h
    have w : wideN xn (lo xs 10) xn (lo ys 10) = (xn, lo xs 10 + lo ys 10) := if_pos rfl
    rw [w]
    exact ⟨R, r1, r2, r3⟩
  · obtain ⟨R, r1, r2, r3⟩ := plus_diff xn yn e hx hy
    have w : wideN xn (lo xs 10) yn (lo ys 10) = ((if lo xs 10 < lo ys 10 then yn else xn), (if lo xs 10 < lo ys 10 then lo ys 10 - lo xs 10 else lo xs 10 - lo ys 10)) := by
      unfold wideN
      rw [if_neg e]
      split <;> rfl
    rw [w]
    exact ⟨R, r1, r2, r3⟩
theorem spread_ev (neg : Bool) (e : Int) (s : Nat) (h1 : -298 ≤ e) (h2 : e ≤ 250) (hs : s < 1152921504606846976) : ∃ R, Lims R ∧ lo R 10 = s * 2 ^ (e + 298).toNat ∧ Ev (fun n => E.annealref1_spread.f n neg e (s : Int)) (neg, R) := by
  obtain ⟨a, ha⟩ : ∃ a : Nat, e + 298 = (a : Int) := ⟨(e + 298).toNat, by omega⟩
  have hz := lims_zero
  have at1 : wrap64 (e + 298) = (a : Int) := by rw [w64_id _ (by omega) (by omega)]; exact ha
  have at2 : Int.tmod (a : Int) 64 = ((a % 64 : Nat) : Int) := by rw [Int.tmod_eq_emod_of_nonneg (by omega)]; omega
  have at3 : wrap64 (Int.tdiv (a : Int) 64) = ((a / 64 : Nat) : Int) := by rw [Int.tdiv_eq_ediv_of_nonneg (by omega), w64_id _ (by omega) (by omega)]; omega
  have hq : a / 64 ≤ 8 := by omega
  have hr : a % 64 < 64 := Nat.mod_lt _ (by decide)
  have hm : a = 64 * (a / 64) + a % 64 := by omega
  have ev : s * 2 ^ (e + 298).toNat = s * 2 ^ (a % 64) * 2 ^ (64 * (a / 64)) := by
    rw [Nat.mul_assoc, ← Nat.pow_add]; congr 2; omega
  rw [ev]
  have l0 : (List.replicate 10 (0 : Int)).length = 10 := rfl
  have z0 : lo (List.replicate 10 (0 : Int)) 10 = 0 := (lo_zero 10).mpr fun i _ => lim_zero i
  generalize hqq : a / 64 = q at *
  generalize hrr : a % 64 = r at *
  have iq : q < 10 := by omega
  have iq1 : q + 1 < 10 := by omega
  have iqn : ¬ q + 1 = q := by omega
  have i1 : (0 : Int) ≤ (r : Int) := by omega
  have i2 : (0 : Int) ≤ (q : Int) := by omega
  have i3 : (q : Int) < 10 := by omega
  have hs64 : s < 18446744073709551616 := by omega
  have M : s * 2 ^ r % 18446744073709551616 < 18446744073709551616 := Nat.mod_lt _ (by decide)
  have b1 := hz.set q (s * 2 ^ r % 18446744073709551616) iq M
  have b2 := lo_set0 (List.replicate 10 (0 : Int)) q (s * 2 ^ r % 18446744073709551616) (by rw [l0]; exact iq) (lim_zero q) 10 iq
  rw [z0, Nat.zero_add] at b2
  by_cases r0 : r = 0
  · have i4 : ¬ (0 : Int) < (r : Int) := by omega
    refine ⟨_, b1, ?_, Ev.congr (fun n => annealref1_spread.eq n neg e (s : Int)) (Ev.congr (fun n => ?_) (Ev.now _))⟩
    · rw [b2, r0, Nat.pow_zero, Nat.mul_one, Nat.mod_eq_of_lt (by omega)]
    · rw [at1, at2, at3, if_pos i1, if_pos i2, if_pos i3, if_neg i4, shl_u64, Int.toNat_natCast]
  · have i4 : (0 : Int) < (r : Int) := by omega
    have i5 : (q : Int) < 9 := by omega
    have i6 : (0 : Int) ≤ ((64 - r : Nat) : Int) := by omega
    have i7 : (0 : Int) ≤ ((q + 1 : Nat) : Int) := by omega
    have i8 : ((q + 1 : Nat) : Int) < 10 := by omega
    have S : s / 2 ^ (64 - r) < 18446744073709551616 := Nat.lt_of_le_of_lt (Nat.div_le_self _ _) (by omega)
    have b3 := b1.set (q + 1) (s / 2 ^ (64 - r)) iq1 S
    have l1 : (List.set (List.replicate 10 (0 : Int)) q ((s * 2 ^ r % 18446744073709551616 : Nat) : Int)).length = 10 := by rw [List.length_set]; rfl
    have b4 := lo_set0 (List.set (List.replicate 10 (0 : Int)) q ((s * 2 ^ r % 18446744073709551616 : Nat) : Int)) (q + 1) (s / 2 ^ (64 - r)) (by rw [l1]; exact iq1) (by rw [lim_set _ _ _ _ (by rw [l0]; exact iq), if_neg iqn]; exact lim_zero _) 10 iq1
    refine ⟨_, b3, ?_, Ev.congr (fun n => annealref1_spread.eq n neg e (s : Int)) (Ev.congr (fun n => ?_) (Ev.now _))⟩
    · rw [b4, b2, show 64 * (q + 1) = 64 + 64 * q by omega, Nat.pow_add, ← Nat.mul_assoc, ← Nat.add_mul]
      refine congrArg (· * 2 ^ (64 * q)) ?_
      have h64 : (2 : Nat) ^ 64 = 18446744073709551616 := by decide
      have hd : s * 2 ^ r / 18446744073709551616 = s / 2 ^ (64 - r) := by
        rw [← h64, show (2 : Nat) ^ 64 = 2 ^ (64 - r) * 2 ^ r by rw [← Nat.pow_add]; congr 1; omega]
        exact Nat.mul_div_mul_right _ _ (Nat.two_pow_pos r)
      rw [← hd, h64]
      have := Nat.div_add_mod (s * 2 ^ r) 18446744073709551616
      clear b1 b2 b3 b4 ev
      generalize s * 2 ^ r = Q at *
      omega
    · have t1 : wrap64 (64 - (r : Int)) = ((64 - r : Nat) : Int) := by rw [w64_id _ (by omega) (by omega)]; omega
      have t2 : wrap64 ((q : Int) + 1) = ((q + 1 : Nat) : Int) := by rw [w64_id _ (by omega) (by omega)]; omega
      rw [at1, at2, at3, if_pos i1, if_pos i2, if_pos i3, if_pos i4, if_pos i5, t1, t2, if_pos i6, if_pos i7, if_pos i8, shl_u64, shr_u64 _ _ hs64, Int.toNat_natCast, Int.toNat_natCast]
def anyL (xs : List Int) : Nat → Nat → Bool
  | _, 0 => false
  | j, m + 1 => decide (lim xs j ≠ 0) || anyL xs (j + 1) m
theorem anyL_false (xs : List Int) (m : Nat) : ∀ j, anyL xs j m = false ↔ ∀ q, j ≤ q → q < j + m → lim xs q = 0 := by
  induction m with
  | zero => exact fun j => ⟨fun _ q h1 h2 => by omega, fun _ => rfl⟩
  | succ m ih =>
    intro j
    unfold anyL
    rw [Bool.or_eq_false_iff, ih (j + 1), decide_eq_false_iff_not]
    constructor
    · rintro ⟨h1, h2⟩ q h3 h4
      by_cases c : q = j
      · rw [c]; exact Decidable.not_not.mp h1
      · exact h2 q (by omega) (by omega)
    · intro h
      exact ⟨fun c => c (h j (Nat.le_refl _) (by omega)), fun q h1 h2 => h q (by omega) (by omega)⟩
theorem anyL_lo (xs : List Int) (m : Nat) : anyL xs 0 m = decide (lo xs m ≠ 0) := by
  cases h : anyL xs 0 m
  · have := (anyL_false xs m 0).mp h
    rw [decide_eq_false (show ¬ lo xs m ≠ 0 from fun c => c ((lo_zero m).mpr fun i hi => this i (Nat.zero_le _) (by omega)))]
  · have hne : lo xs m ≠ 0 := fun c => by
      have := (anyL_false xs m 0).mpr (fun q _ hq => (lo_zero m).mp c q (by omega))
      rw [h] at this; cases this
    rw [decide_eq_true hne]
theorem rounded_l19 (f mode e sig top : Int) (i : Nat) (neg c0 c1 c2 c3 c4 : Bool) {xs : List Int} (hx : Lims xs) (r : Int × Bool × Bool × Bool × Bool × Bool) (ht : top = (i : Int) + 1) (hi : i < 10) (m : Nat) : ∀ (j : Nat) (more : Bool), j + m = i →
    Ev (fun n => (annealref1_Pack.f n f mode neg e sig (more || anyL xs j m))) r →
    Ev2 (fun k n => annealref1_rounded.l19 k n (j : Int) more e sig top mode f c0 c1 c2 c3 c4 neg xs) r := by
  induction m with
  | zero =>
    intro j more hj h
    obtain rfl : j = i := by omega
    have h : Ev (fun n => annealref1_Pack.f n f mode neg e sig (more || false)) r := h
    rw [Bool.or_false] at h
    refine Ev2.step (fun k n => by rw [annealref1_rounded.l19_eq, ht, w64_id _ (by omega) (by omega), if_neg (by omega)]) ?_
    exact Ev2.bind h (Ev2.now _)
  | succ m ih =>
    intro j more hj h
    have j0 : (0 : Int) ≤ (j : Int) := by omega
    have j1 : (j : Int) < 10 := by omega
    have next : ∀ b : Bool, (more || anyL xs j (m + 1)) = (b || anyL xs (j + 1) m) → Ev2 (fun k n => annealref1_rounded.l19 k n ((j + 1 : Nat) : Int) b e sig top mode f c0 c1 c2 c3 c4 neg xs) r := fun b hb => ih (j + 1) b (by omega) (by rw [← hb]; exact h)
    have hw : wrap64 ((j : Int) + 1) = ((j + 1 : Nat) : Int) := by rw [w64_id _ (by omega) (by omega)]; omega
    refine Ev2.step (fun k n => by rw [annealref1_rounded.l19_eq, ht, w64_id ((i : Int) + 1 - 1) (by omega) (by omega), if_pos (by omega), hw, ← ht]) ?_
    cases more
    · refine Ev2.congr (fun k n => by rw [if_neg (by decide), if_pos j0, if_pos j1, hx.rd j]) ?_
      by_cases z : lim xs j = 0
      · rw [z]
        refine next false ?_
        show (false || (decide (lim xs j ≠ 0) || anyL xs (j + 1) m)) = _
        rw [z]; rfl
      · have hb : ((lim xs j : Int) == 0) = false := beq_eq_false_iff_ne.mpr (by omega)
        rw [hb]
        refine next true ?_
        show (false || (decide (lim xs j ≠ 0) || anyL xs (j + 1) m)) = _
        rw [decide_eq_true z]; rfl
    · exact Ev2.congr (fun k n => by rw [if_pos rfl]) (next true rfl)
theorem rounded_low (f mode : Int) (i : Nat) (neg : Bool) {xs : List Int} (hx : Lims xs) (hi : i + 1 < 10) (h0 : lim xs (i + 1) ≠ 0) :
    packN f mode neg (-298) (lo xs (i + 2)) false = packN f mode neg (64 * ((i : Int) + 1) - 298 - (64 - (lenN (lim xs (i + 1)) : Int))) (lim xs (i + 1) * 2 ^ (64 - lenN (lim xs (i + 1))) + lim xs i / 2 ^ lenN (lim xs (i + 1))) (decide (lim xs i % 2 ^ lenN (lim xs (i + 1)) ≠ 0) || decide (lo xs i ≠ 0)) ∧
    excN f mode neg (-298) (lo xs (i + 2)) false = excN f mode neg (64 * ((i : Int) + 1) - 298 - (64 - (lenN (lim xs (i + 1)) : Int))) (lim xs (i + 1) * 2 ^ (64 - lenN (lim xs (i + 1))) + lim xs i / 2 ^ lenN (lim xs (i + 1))) (decide (lim xs i % 2 ^ lenN (lim xs (i + 1)) ≠ 0) || decide (lo xs i ≠ 0)) ∧
    lim xs (i + 1) * 2 ^ (64 - lenN (lim xs (i + 1))) + lim xs i / 2 ^ lenN (lim xs (i + 1)) < 18446744073709551616 := by
  have hb := fbounds f
  have hp : 2 ^ (fm f + 1) ≤ 2 ^ 24 := Nat.pow_le_pow_right (by decide) (by omega)
  have hl := lo_lt hx i
  have ha := hx.lt (i + 1)
  have hc := hx.lt i
  rw [lo_succ, lo_succ]
  generalize lo xs i = W at *
  generalize lim xs (i + 1) = a at *
  generalize lim xs i = c at *
  have n1 := lenN_bound a 64 ha
  have n2 := lenN_pos a h0
  have n3 := lenN_le a h0
  have n4 := lenN_lt a
  generalize lenN a = n at *
  have pk : 2 ^ n * 2 ^ (64 - n) = 18446744073709551616 := by
    rw [← Nat.pow_add, show n + (64 - n) = 64 by omega]
  have pn := Nat.two_pow_pos n
  have pk0 := Nat.two_pow_pos (64 - n)
  have cd : c / 2 ^ n < 2 ^ (64 - n) := (Nat.div_lt_iff_lt_mul pn).mpr (by rw [Nat.mul_comm, pk]; exact hc)
  have cm := Nat.mod_lt c pn
  have cdm := Nat.div_add_mod c (2 ^ n)
  have a63 : 9223372036854775808 ≤ a * 2 ^ (64 - n) := by
    have h := Nat.mul_le_mul_right (2 ^ (64 - n)) n3
    rw [← Nat.pow_add, show n - 1 + (64 - n) = 63 by omega] at h
    have : (2 : Nat) ^ 63 = 9223372036854775808 := by decide
    omega
  have a64 : a * 2 ^ (64 - n) + 2 ^ (64 - n) ≤ 18446744073709551616 := by
    have h := Nat.mul_le_mul_right (2 ^ (64 - n)) n4
    rw [pk, Nat.succ_mul] at h; exact h
  have e : W + c * 2 ^ (64 * i) + a * 2 ^ (64 * (i + 1)) = (a * 2 ^ (64 - n) + c / 2 ^ n) * 2 ^ (n + 64 * i) + (c % 2 ^ n * 2 ^ (64 * i) + W) := by
    rw [Nat.pow_add, show 64 * (i + 1) = 64 + 64 * i by omega, Nat.pow_add, show (2 : Nat) ^ 64 = 2 ^ n * 2 ^ (64 - n) by rw [pk], ← Nat.mul_assoc, ← Nat.mul_assoc, ← Nat.mul_assoc, Nat.add_mul]
    have h1 : c * 2 ^ (64 * i) = c / 2 ^ n * 2 ^ n * 2 ^ (64 * i) + c % 2 ^ n * 2 ^ (64 * i) := by
      rw [← Nat.add_mul, Nat.mul_comm (c / 2 ^ n), cdm]
    rw [h1, Nat.add_mul, Nat.mul_right_comm a (2 ^ n)]
    generalize a * 2 ^ (64 - n) * 2 ^ n * 2 ^ (64 * i) = Z1
    generalize c / 2 ^ n * 2 ^ n * 2 ^ (64 * i) = Z2
    generalize c % 2 ^ n * 2 ^ (64 * i) = Z3
    omega
  have small : c % 2 ^ n * 2 ^ (64 * i) + W < 2 ^ (n + 64 * i) := by
    have h := Nat.mul_le_mul_right (2 ^ (64 * i)) (show c % 2 ^ n + 1 ≤ 2 ^ n from cm)
    rw [Nat.add_mul, Nat.one_mul, ← Nat.pow_add] at h
    exact Nat.lt_of_lt_of_le (Nat.add_lt_add_left hl _) h
  obtain ⟨q1, q2⟩ := pack_refine f mode neg (-298) (a * 2 ^ (64 - n) + c / 2 ^ n) (c % 2 ^ n * 2 ^ (64 * i) + W) (n + 64 * i) false small (Nat.le_trans hp (Nat.le_trans (show 2 ^ 24 ≤ a * 2 ^ (64 - n) by omega) (Nat.le_add_right _ _)))
  have t : decide (c % 2 ^ n * 2 ^ (64 * i) + W ≠ 0) = (decide (c % 2 ^ n ≠ 0) || decide (W ≠ 0)) := by
    have pi := Nat.two_pow_pos (64 * i)
    by_cases c0 : c % 2 ^ n = 0
    · rw [c0, Nat.zero_mul, Nat.zero_add]; simp
    · have : c % 2 ^ n * 2 ^ (64 * i) ≠ 0 := Nat.mul_ne_zero c0 (by omega)
      rw [decide_eq_true (show c % 2 ^ n * 2 ^ (64 * i) + W ≠ 0 by omega), decide_eq_true (show c % 2 ^ n ≠ 0 from c0)]; rfl
  rw [e, q1, q2, Bool.false_or, t, show (-298 : Int) + ((n + 64 * i : Nat) : Int) = 64 * ((i : Int) + 1) - 298 - (64 - (n : Int)) by omega]
  exact ⟨rfl, rfl, by omega⟩
theorem wide_exp (i L : Nat) (hi : i < 10) (h1 : L ≤ 64) : wrap64 (wrap64 (wrap64 (64 * ((i + 1 : Nat) : Int)) - 298) - ((64 - L : Nat) : Int)) = 64 * ((i : Int) + 1) - 298 - (64 - (L : Int)) ∧ -10000 ≤ 64 * ((i : Int) + 1) - 298 - (64 - (L : Int)) ∧ 64 * ((i : Int) + 1) - 298 - (64 - (L : Int)) ≤ 10000 := by
  rw [w64_id (64 * _) (by omega) (by omega), w64_id (64 * _ - 298) (by omega) (by omega), w64_id _ (by omega) (by omega)]; omega
theorem full_more (c : Nat) (hc : c < 18446744073709551616) : (!((c : Int) == 0)) = decide (c % 2 ^ 64 ≠ 0) := by
  rw [show c % 2 ^ 64 = c from Nat.mod_eq_of_lt (by rw [show (2 : Nat) ^ 64 = 18446744073709551616 by decide]; exact hc)]
  by_cases c0 : c = 0
  · rw [c0]; rfl
  · rw [beq_eq_false_iff_ne.mpr (show (c : Int) ≠ 0 by omega), decide_eq_true c0]; rfl
theorem full_sig (a c : Nat) (hc : c < 18446744073709551616) : a * 2 ^ (64 - 64) + c / 2 ^ 64 = a := by
  rw [Nat.div_eq_of_lt (by rw [show (2 : Nat) ^ 64 = 18446744073709551616 by decide]; exact hc), Nat.sub_self, Nat.pow_zero, Nat.mul_one, Nat.add_zero]
theorem part_sig (a c L : Nat) (hL : L ≤ 64) (hc : c < 18446744073709551616) (n4 : a < 2 ^ L) : Go.bits .or .u64 (shl .u64 (a : Int) ((64 - L : Nat) : Int)) (shr .u64 (c : Int) (L : Int)) = ((a * 2 ^ (64 - L) + c / 2 ^ L : Nat) : Int) := by
  have e64 : L + (64 - L) = 64 := by clear n4 hc; omega
  have pn := Nat.two_pow_pos L
  have cd : c / 2 ^ L < 2 ^ (64 - L) := (Nat.div_lt_iff_lt_mul pn).mpr (by
    rw [← Nat.pow_add, Nat.add_comm, e64]; exact hc)
  have a64 : a * 2 ^ (64 - L) < 18446744073709551616 := by
    have h := Nat.mul_lt_mul_of_pos_right n4 (Nat.two_pow_pos (64 - L))
    rw [← Nat.pow_add, e64] at h; exact h
  rw [shl_u64, shr_u64 _ _ hc, Nat.mod_eq_of_lt a64, or_u64 _ _ a64 (Nat.lt_of_le_of_lt (Nat.div_le_self _ _) hc), or_add _ _ (64 - L) (Nat.mul_mod_left _ _) cd]
theorem part_more (c L : Nat) (hL : L ≤ 64) : (!(shl .u64 (c : Int) ((64 - L : Nat) : Int) == 0)) = decide (c % 2 ^ L ≠ 0) := by
  have e64 : L + (64 - L) = 64 := by omega
  have h1 : c * 2 ^ (64 - L) % 18446744073709551616 = c % 2 ^ L * 2 ^ (64 - L) := by
    rw [show (18446744073709551616 : Nat) = 2 ^ L * 2 ^ (64 - L) by rw [← Nat.pow_add, e64]]
    exact Nat.mul_mod_mul_right _ _ _
  rw [shl_u64, h1]
  by_cases c0 : c % 2 ^ L = 0
  · rw [c0, Nat.zero_mul]; rfl
  · have : c % 2 ^ L * 2 ^ (64 - L) ≠ 0 := Nat.mul_ne_zero c0 (Nat.ne_of_gt (Nat.two_pow_pos _))
    rw [beq_eq_false_iff_ne.mpr (show ((c % 2 ^ L * 2 ^ (64 - L) : Nat) : Int) ≠ 0 from fun e => this (Int.ofNat.inj e)), decide_eq_true c0]; rfl
theorem len_small (L : Nat) (n1 : L ≤ 64) : wrap64 (64 - (L : Int)) = ((64 - L : Nat) : Int) ∧ (0 : Int) ≤ (L : Int) ∧ (0 : Int) ≤ ((64 - L : Nat) : Int) := by
  rw [w64_id _ (by omega) (by omega)]; omega
theorem idx_small (i : Nat) (h : i + 1 < 10) : (0 : Int) ≤ ((i + 1 : Nat) : Int) ∧ ((i + 1 : Nat) : Int) < 10 ∧ (0 : Int) < ((i + 1 : Nat) : Int) ∧ wrap64 (((i + 1 : Nat) : Int) - 1) = (i : Int) ∧ (0 : Int) ≤ (i : Int) ∧ (i : Int) < 10 ∧ ((i + 1 : Nat) : Int) = (i : Int) + 1 := by
  rw [w64_id _ (by omega) (by omega)]; omega
theorem natCast_ne {a : Nat} (h : a ≠ 0) : ¬ ((a : Int) = 0) := by omega
theorem rounded_one (f mode : Int) (neg c0 c1 c2 c3 c4 : Bool) {xs : List Int} (i : Nat) (hi : i + 1 < 10) (a c L : Nat) (r : Int × Bool × Bool × Bool × Bool × Bool) (ra : rd xs ((i + 1 : Nat) : Int) = (a : Int)) (rc : rd xs (i : Int) = (c : Int)) (ha : a ≠ 0) (hc : c < 18446744073709551616) (n1 : L ≤ 64) (n4 : a < 2 ^ L)
    (hln : Ev (fun n => annealref1_Len.f n (a : Int)) (L : Int))
    (fin : ∀ (more : Bool) (top : Int), top = (i : Int) + 1 → more = decide (c % 2 ^ L ≠ 0) →
          Ev2 (fun k n => annealref1_rounded.l19 k n ((0 : Nat) : Int) more (64 * ((i : Int) + 1) - 298 - (64 - (L : Int))) ((a * 2 ^ (64 - L) + c / 2 ^ L : Nat) : Int) top mode f c0 c1 c2 c3 c4 neg xs) r) :
    Ev2 (fun k n => annealref1_rounded.l2 k n ((i + 1 : Nat) : Int) mode f c0 c1 c2 c3 c4 neg xs) r := by
  obtain ⟨j0, j1, jp, hw, k0, k1, tp⟩ := idx_small i hi
  obtain ⟨w1, l0, l1⟩ := len_small L n1
  have za := natCast_ne ha
  have w2 := (wide_exp i L (Nat.lt_of_succ_lt hi) n1).1
  refine Ev2.step (fun k n => by rw [annealref1_rounded.l2_eq, if_pos j0, if_pos j1, ra, if_neg za, if_pos j0, if_pos j1]) (Ev2.bind hln ?_)
  by_cases full : L = 64
  · have f1 : ((L : Int) = 64) := by rw [full]; rfl
    have f2 : ¬ ((L : Int) < 64) := by rw [f1]; decide
    have sg : a * 2 ^ (64 - L) + c / 2 ^ L = a := by rw [full]; exact full_sig a c hc
    have more : (!((c : Int) == 0)) = decide (c % 2 ^ L ≠ 0) := by rw [full]; exact full_more c hc
    rw [sg] at fin
    refine Ev2.congr (fun k n => by
      rw [if_pos j0, if_pos j1, if_pos jp, w1, if_pos l1, hw, if_pos k0, if_pos k1, if_pos l0, if_pos f1, if_pos j0, if_pos j1, if_pos k0, if_pos k1, if_neg f2, w2, rc, more]) ?_
    exact (fin _ _ tp rfl).inner
  · have f1 : ¬ ((L : Int) = 64) := fun e => full (by clear n4 fin hln; omega)
    have f2 : (L : Int) < 64 := by clear n4 fin hln; omega
    have sg := part_sig a c L n1 hc n4
    have more := part_more c L n1
    refine Ev2.congr (fun k n => by
      rw [if_pos j0, if_pos j1, if_pos jp, w1, if_pos l1, hw, if_pos k0, if_pos k1, if_pos l0, if_neg f1, if_pos k0, if_pos k1, if_pos f2, if_pos l1, w2, rc, sg, more]) ?_
    exact (fin _ _ tp rfl).inner
theorem rounded_l2 (f mode : Int) (neg c0 c1 c2 c3 c4 : Bool) {xs : List Int} (hx : Lims xs) (j : Nat) : j < 10 → lo xs (j + 1) ≠ 0 →
    Ev2 (fun k n => annealref1_rounded.l2 k n (j : Int) mode f c0 c1 c2 c3 c4 neg xs) ((packN f mode neg (-298) (lo xs (j + 1)) false : Int), false, false, excN f mode neg (-298) (lo xs (j + 1)) false) := by
  induction j with
  | zero =>
    intro _ h
    rw [lo_succ, lo_none, Nat.zero_add, Nat.mul_zero, Nat.pow_zero, Nat.mul_one] at h ⊢
    have h1 := hx.lt 0
    have hp := ref_pack_ev f mode neg (-298) (lim xs 0) false h1
    rw [clampE_id _ (by omega) (by omega)] at hp
    have w0 : wrap64 (wrap64 (64 * ((0 : Nat) : Int)) - 298) = -298 := by unfold wrap64; omega
    have r0 := hx.rd 0
    refine Ev2.step (fun k n => by rw [annealref1_rounded.l2_eq, if_pos (by decide), if_pos (by decide), r0, if_neg (by omega), if_pos (by decide), if_pos (by decide)]) ?_
    refine Ev2.bind (ref_len_ev _ h1) ?_
    refine Ev2.congr (fun k n => by rw [if_pos (by decide), if_pos (by decide), if_neg (by decide), w0]) ?_
    exact Ev2.bind hp (Ev2.now _)
  | succ i ih =>
    intro hj h
    have j0 : (0 : Int) ≤ ((i + 1 : Nat) : Int) := by omega
    have j1 : ((i + 1 : Nat) : Int) < 10 := by omega
    have jp : (0 : Int) < ((i + 1 : Nat) : Int) := by omega
    have hw : wrap64 (((i + 1 : Nat) : Int) - 1) = (i : Int) := by rw [w64_id _ (by omega) (by omega)]; omega
    have k0 : (0 : Int) ≤ (i : Int) := by omega
    have k1 : (i : Int) < 10 := by omega
    by_cases z : lim xs (i + 1) = 0
    · have e : lo xs (i + 1 + 1) = lo xs (i + 1) := by rw [lo_succ xs (i + 1), z, Nat.zero_mul, Nat.add_zero]
      rw [e] at h ⊢
      refine Ev2.step (fun k n => by rw [annealref1_rounded.l2_eq, if_pos j0, if_pos j1, hx.rd (i + 1), if_pos (by rw [z]; rfl), hw]) ?_
      exact ih (by omega) h
    · obtain ⟨p1, p2, p3⟩ := rounded_low f mode i neg hx (by omega) z
      have ha := hx.lt (i + 1)
      have hc := hx.lt i
      have ra := hx.rd (i + 1)
      have rc := hx.rd i
      have n1 := lenN_bound _ 64 ha
      have n2 := lenN_pos _ z
      have n4 := lenN_lt (lim xs (i + 1))
      have hln := ref_len_ev _ ha
      have fin : ∀ (more : Bool) (top : Int), top = (i : Int) + 1 → more = decide (lim xs i % 2 ^ lenN (lim xs (i + 1)) ≠ 0) →
          Ev2 (fun k n => annealref1_rounded.l19 k n ((0 : Nat) : Int) more (64 * ((i : Int) + 1) - 298 - (64 - (lenN (lim xs (i + 1)) : Int))) ((lim xs (i + 1) * 2 ^ (64 - lenN (lim xs (i + 1))) + lim xs i / 2 ^ lenN (lim xs (i + 1)) : Nat) : Int) top mode f c0 c1 c2 c3 c4 neg xs) ((packN f mode neg (-298) (lo xs (i + 1 + 1)) false : Int), false, false, excN f mode neg (-298) (lo xs (i + 1 + 1)) false) := by
        intro more top ht hm
        refine rounded_l19 f mode _ _ top i neg c0 c1 c2 c3 c4 hx _ ht (by omega) i 0 more (by omega) ?_
        rw [anyL_lo, hm, p1, p2]
        have hp := ref_pack_ev f mode neg (64 * ((i : Int) + 1) - 298 - (64 - (lenN (lim xs (i + 1)) : Int))) (lim xs (i + 1) * 2 ^ (64 - lenN (lim xs (i + 1))) + lim xs i / 2 ^ lenN (lim xs (i + 1))) (decide (lim xs i % 2 ^ lenN (lim xs (i + 1)) ≠ 0) || decide (lo xs i ≠ 0)) p3
        have we := wide_exp i (lenN (lim xs (i + 1))) (Nat.lt_of_succ_lt hj) n1
        rw [clampE_id _ we.2.1 we.2.2] at hp
        exact hp
      exact rounded_one f mode neg c0 c1 c2 c3 c4 i hj _ _ _ _ (hx.rd (i + 1)) (hx.rd i) z hc n1 n4 hln fin
end Go.Proofs.Ytejkemahdincjaa.Round

/- Sums to all bits that rounding asks for: the program's, as plain numbers. -/
namespace Go.Proofs.Ytejkemahdincjaa.Round
open Go.RowKit Go.Proofs.Ytejkemahdincjaa.P Go.Proofs.Ytejkemahdincjaa.Num Go.Proofs.Ytejkemahdincjaa.BitsF Go.Proofs.Ytejkemahdincjaa.Fmt Go.Proofs.YtejkemahdincjaaW.PrintWords Go.Proofs.YtejkemahdincjaaW.PrintLast Go.Proofs.YtejkemahdincjaaW.PrintMore

theorem up_shift (v n : Nat) (h : v * 2 ^ n < 18446744073709551616) : (shiftN v (-(n : Int))).1 = v * 2 ^ n := by
 have hp := Nat.two_pow_pos n
 have hv : v < 18446744073709551616 := Nat.lt_of_le_of_lt (Nat.le_mul_of_pos_right v hp) h
 rw [shiftN_left v n hv]
 exact Nat.mod_eq_of_lt h
theorem full_ev (n : Bool) (e : Int) (s : Nat) (m : Bool) (h : s ≠ 0) (h' : s < 4611686018427387904) (l : -100000 ≤ e) (l' : e ≤ 100000) : Ev (fun k => sum_full.f k n e (s : Int) m) (n, e - (gapN s : Int), ((s * 2 ^ gapN s : Nat) : Int), m) := by
 obtain ⟨a1, a2, a3, a4⟩ := gap_bounds s h h'
 have hw : wrap64 (62 - (lenN s : Int)) = (gapN s : Int) := by rw [w64_id _ (by omega) (by omega)]; omega
 refine Ev.congr (fun k => by unfold sum_full.f; rfl) (Ev.bind (len_ev s (by omega)) ?_)
 rw [hw, w64_id (-(gapN s : Int)) (by omega) (by omega), w64_id (e - (gapN s : Int)) (by omega) (by omega)]
 refine Ev.bind (shift_ev s (by omega) (-(gapN s : Int)) (by omega) (by omega)) ?_
 dsimp only
 rw [up_shift _ _ (by omega)]
 exact Ev.now _
def castE (r : Bool × Int × Nat × Bool) : Bool × Int × Int × Bool := (r.1, r.2.1, (r.2.2.1 : Int), r.2.2.2)
theorem sub_w (A L : Nat) (h : L ≤ A) (hA : A < 18446744073709551616) : IntKind.u64.wrap ((A : Int) - (L : Int)) = ((A - L : Nat) : Int) := by rw [u64_wrap]; omega
theorem sub_one_w (A L : Nat) (h : L + 1 ≤ A) (hA : A < 18446744073709551616) : IntKind.u64.wrap (((A - L : Nat) : Int) - 1) = ((A - L - 1 : Nat) : Int) := by rw [u64_wrap]; omega
theorem meet_ev (na : Bool) (Ea : Int) (A : Nat) (nb : Bool) (Eb : Int) (B : Nat) (h : Eb ≤ Ea) (h0 : Ea = Eb → B ≤ A) (a1 : 2305843009213693952 ≤ A) (a2 : A < 4611686018427387904) (b2 : B < 4611686018427387904) (l1 : -200000 ≤ Eb) (l2 : Ea ≤ 200000) :
  Ev (fun k => sum_Exact.j1 k na Ea (A : Int) false nb Eb (B : Int) false) (castE (meetN na Ea A nb Eb B)) := by
 obtain ⟨d, hd⟩ : ∃ d : Nat, Ea - Eb = (d : Int) := ⟨(Ea - Eb).toNat, by omega⟩
 have hlow : B / 2 ^ d ≤ A ∧ (B % 2 ^ d ≠ 0 → B / 2 ^ d + 1 ≤ A) := by
  rcases Nat.eq_zero_or_pos d with c | c
  ·subst c
   have := h0 (by omega)
   rw [Nat.pow_zero, Nat.div_one, Nat.mod_one]; omega
  ·have h2 : 2 ^ 1 ≤ 2 ^ d := Nat.pow_le_pow_right (by decide) c
   have h3 : B / 2 ^ d ≤ B / 2 := Nat.div_le_div_left h2 (by decide)
   omega
 have hl62 : B / 2 ^ d < 4611686018427387904 := Nat.lt_of_le_of_lt (Nat.div_le_self _ _) b2
 refine Ev.step (fun k => by rw [sum_Exact.j1, w64_id (Ea - Eb) (by omega) (by omega), hd]) (Ev.bind (shift_ev B (by omega) (d : Int) (by omega) (by omega)) ?_)
 rw [shiftN_right]
 dsimp only
 unfold meetN castE
 rw [hd, Int.toNat_natCast]
 by_cases n : na = nb
 ·subst n
  rw [if_pos rfl]
  refine Ev.congr (fun k => ?_) (Ev.now _)
  rw [if_pos (beq_self_eq_true na), ← Int.natCast_add, u64_id _ (by omega)]
 ·rw [if_neg n]
  have hb : ¬ (na == nb) = true := by rw [beq_iff_eq]; exact n
  by_cases o : B % 2 ^ d ≠ 0
  ·have := hlow.2 o
   rw [if_pos o]
   refine Ev.congr (fun k => ?_) (show Ev (fun k => sum_Exact.j2 k na Ea ((A - B / 2 ^ d - 1 : Nat) : Int) (decide (B % 2 ^ d ≠ 0))) (na, Ea, ((A - B / 2 ^ d - 1 : Nat) : Int), decide (B % 2 ^ d ≠ 0)) from Ev.step (fun k => by rw [sum_Exact.j2]) (Ev.now _))
   rw [if_neg hb, if_pos (decide_eq_true o)]
   rw [sub_w A _ hlow.1 (by omega), sub_one_w A _ this (by omega)]
  ·rw [if_neg o, Nat.sub_zero]
   refine Ev.congr (fun k => ?_) (show Ev (fun k => sum_Exact.j2 k na Ea ((A - B / 2 ^ d : Nat) : Int) (decide (B % 2 ^ d ≠ 0))) (na, Ea, ((A - B / 2 ^ d : Nat) : Int), decide (B % 2 ^ d ≠ 0)) from Ev.step (fun k => by rw [sum_Exact.j2]) (Ev.now _))
   rw [if_neg hb, if_neg (show ¬ decide (B % 2 ^ d ≠ 0) = true by rw [decide_eq_true_iff]; exact o)]
   rw [sub_w A _ hlow.1 (by omega)]
theorem exact_ev (n1 : Bool) (e1 : Int) (s1 : Nat) (n2 : Bool) (e2 : Int) (s2 : Nat) (h1 : s1 < 4611686018427387904) (h2 : s2 < 4611686018427387904) (l1 : -100000 ≤ e1) (l1' : e1 ≤ 100000) (l2 : -100000 ≤ e2) (l2' : e2 ≤ 100000) :
  Ev (fun k => sum_Exact.f k n1 e1 (s1 : Int) false n2 e2 (s2 : Int) false) (castE (exactN n1 e1 s1 n2 e2 s2)) := by
 refine Ev.congr (fun k => by unfold sum_Exact.f; rfl) ?_
 unfold exactN
 by_cases z1 : s1 = 0
 ·rw [if_pos z1]
  exact Ev.congr (fun k => by rw [if_pos (by omega)]; rfl) (Ev.now _)
 ·rw [if_neg z1]
  by_cases z2 : s2 = 0
  ·rw [if_pos z2]
   exact Ev.congr (fun k => by rw [if_neg (by omega), if_pos (by omega)]; rfl) (Ev.now _)
  ·rw [if_neg z2]
   obtain ⟨a1, a2, a3, a4⟩ := gap_bounds s1 z1 h1
   obtain ⟨b1, b2, b3, b4⟩ := gap_bounds s2 z2 h2
   refine Ev.congr (fun k => by rw [if_neg (by omega), if_neg (by omega)]) (Ev.bind (full_ev n1 e1 s1 false z1 h1 l1 l1') (Ev.bind (full_ev n2 e2 s2 false z2 h2 l2 l2') ?_))
   dsimp only
   generalize hE1 : e1 - (gapN s1 : Int) = E1 at *
   generalize hE2 : e2 - (gapN s2 : Int) = E2 at *
   generalize s1 * 2 ^ gapN s1 = A at *
   generalize s2 * 2 ^ gapN s2 = B at *
   have swap : (E1 < E2 ∨ E1 = E2 ∧ A < B) → Ev (fun k => sum_Exact.j0 k true n1 E1 (A : Int) false n2 E2 (B : Int) false) (castE (if E1 < E2 ∨ E1 = E2 ∧ A < B then meetN n2 E2 B n1 E1 A else meetN n1 E1 A n2 E2 B)) := by
    intro c
    rw [if_pos c]
    exact Ev.step (fun k => by rw [sum_Exact.j0, if_pos rfl]) (meet_ev n2 E2 B n1 E1 A (by omega) (by omega) b3 b4 a4 (by omega) (by omega))
   have stay : ¬ (E1 < E2 ∨ E1 = E2 ∧ A < B) → Ev (fun k => sum_Exact.j0 k false n1 E1 (A : Int) false n2 E2 (B : Int) false) (castE (if E1 < E2 ∨ E1 = E2 ∧ A < B then meetN n2 E2 B n1 E1 A else meetN n1 E1 A n2 E2 B)) := by
    intro c
    rw [if_neg c]
    exact Ev.step (fun k => by rw [sum_Exact.j0, if_neg (by decide)]) (meet_ev n1 E1 A n2 E2 B (by omega) (by omega) a3 a4 b4 (by omega) (by omega))
   by_cases c1 : E1 < E2
   ·exact Ev.congr (fun k => by rw [if_pos c1]) (swap (.inl c1))
   ·by_cases c2 : E1 = E2
    ·by_cases c3 : A < B
     ·exact Ev.congr (fun k => by rw [if_neg c1, if_pos c2, decide_eq_true (show (A : Int) < (B : Int) by omega)]) (swap (.inr ⟨c2, c3⟩))
     ·exact Ev.congr (fun k => by rw [if_neg c1, if_pos c2, decide_eq_false (show ¬ (A : Int) < (B : Int) by omega)]) (stay (by omega))
    ·exact Ev.congr (fun k => by rw [if_neg c1, if_neg c2]) (stay (by omega))
theorem exact_bounds (n1 : Bool) (e1 : Int) (s1 : Nat) (n2 : Bool) (e2 : Int) (s2 : Nat) (h1 : s1 < 4611686018427387904) (h2 : s2 < 4611686018427387904) (l1 : -1000 ≤ e1) (l1' : e1 ≤ 1000) (l2 : -1000 ≤ e2) (l2' : e2 ≤ 1000) :
  -1100 ≤ (exactN n1 e1 s1 n2 e2 s2).2.1 ∧ (exactN n1 e1 s1 n2 e2 s2).2.1 ≤ 1000 ∧ (exactN n1 e1 s1 n2 e2 s2).2.2.1 < 9223372036854775808 := by
 have meet : ∀ (na : Bool) (Ea : Int) (A : Nat) (nb : Bool) (Eb : Int) (B : Nat), A < 4611686018427387904 → B < 4611686018427387904 → (meetN na Ea A nb Eb B).2.1 = Ea ∧ (meetN na Ea A nb Eb B).2.2.1 < 9223372036854775808 := by
  intro na Ea A nb Eb B ha hb
  have hl := Nat.div_le_self B (2 ^ (Ea - Eb).toNat)
  unfold meetN
  by_cases n : na = nb
  ·rw [if_pos n]; exact ⟨rfl, by show A + B / 2 ^ (Ea - Eb).toNat < _; omega⟩
  ·rw [if_neg n]; exact ⟨rfl, Nat.lt_of_le_of_lt (Nat.le_trans (Nat.sub_le _ _) (Nat.sub_le _ _)) (show A < 9223372036854775808 by omega)⟩
 unfold exactN
 by_cases z1 : s1 = 0
 ·rw [if_pos z1]; dsimp only; omega
 ·rw [if_neg z1]
  by_cases z2 : s2 = 0
  ·rw [if_pos z2]; dsimp only; omega
  ·rw [if_neg z2]
   obtain ⟨a1, a2, a3, a4⟩ := gap_bounds s1 z1 h1
   obtain ⟨b1, b2, b3, b4⟩ := gap_bounds s2 z2 h2
   split
   ·have := meet n2 (e2 - (gapN s2 : Int)) _ n1 (e1 - (gapN s1 : Int)) _ b4 a4; omega
   ·have := meet n1 (e1 - (gapN s1 : Int)) _ n2 (e2 - (gapN s2 : Int)) _ a4 b4; omega
end Go.Proofs.Ytejkemahdincjaa.Round
