import Derived.Test.YtngkpekmgahjiaaQwbM6
import Derived.Test.YtngkpekmgahjiaaQwbPackE
import Derived.Test.YtngkpekmgahjiaaQwbPx27
import Derived.Test.YtngkpekmgahjiaaQwbPx28
import Derived.Test.YtngkpekmgahjiaaQwbM5
import Derived.Test.YtngkpekmgahjiaaQwbM4
import Derived.Test.YtngkpekmgahjiaaQwbPx48
import Derived.Test.YtngkpekmgahjiaaQwbPx30
import Derived.Test.YtngkpekmgahjiaaQwbPx50
/- Numbers times powers of two: the program's, as plain numbers. -/
namespace Go.Proofs.Ytngkpekmgahjiaa.Round
open Go.RowKit Go.Proofs.Ytngkpekmgahjiaa.P Go.Proofs.Ytngkpekmgahjiaa.Num Go.Proofs.Ytngkpekmgahjiaa.BitsF Go.Proofs.Ytngkpekmgahjiaa.Fmt Go.Proofs.YtngkpekmgahjiaaW.PrintWords Go.Proofs.YtngkpekmgahjiaaW.PrintLast Go.Proofs.YtngkpekmgahjiaaW.PrintMore

def clampS (n : Int) : Int := mn (mx n (-5000)) 5000
theorem clampS_in (n : Int) : -5000 ≤ clampS n ∧ clampS n ≤ 5000 := by
  unfold clampS mn mx; split <;> split <;> omega
theorem clampS_id (n : Int) (h : -5000 ≤ n) (h' : n ≤ 5000) : clampS n = n := by
  unfold clampS mn mx; split <;> split <;> omega
def scaleN (f mode : Int) (v : Nat) (n : Int) : Nat :=
  if 4 ≤ clsN f v then nanN f else if clsN f v = 3 then lowN f v else packN f mode (negN f v) (lowestN f v + clampS n) (wholeN f v) false
def scaleX (f mode : Int) (v : Nat) (n : Int) : Bool × Bool × Bool × Bool × Bool :=
  if 4 ≤ clsN f v then (isLoud f v, false, false, false, false) else if clsN f v = 3 then (false, false, false, false, false) else (false, false, excN f mode (negN f v) (lowestN f v + clampS n) (wholeN f v) false)
theorem apart_ev (f : Int) (v : Nat) (hv : v < 4294967296) : Ev (fun k => whole_apart.f k f (v : Int))
    (if 4 ≤ clsN f v then ((nanN f : Int), isLoud f v, false, false, false, false, true) else ((lowN f v : Int), false, false, false, false, false, decide (clsN f v = 3 ∨ clsN f v = 0))) := by
  refine Ev.congr (fun k => by unfold whole_apart.f; rfl) (Ev.bind (pnans1_ev f v hv) ?_)
  by_cases c4 : 4 ≤ clsN f v
  · rw [if_pos c4]
    exact Ev.congr (fun k => by rw [if_pos (show isNan f v = true from decide_eq_true c4)]) (Ev.now _)
  · rw [if_neg c4]
    have n4 : ¬ isNan f v = true := by unfold isNan; simp; omega
    refine Ev.congr (fun k => by rw [if_neg n4, pmask_f, Option.bind_some, and_mask f v hv]) (Ev.bind (pinf_ev f v hv) ?_)
    by_cases c3 : clsN f v = 3
    · exact Ev.congr (fun k => by rw [if_pos (decide_eq_true c3), decide_eq_true (.inl c3)]) (Ev.now _)
    · refine Ev.congr (fun k => by rw [if_neg (by simp [c3])]) (Ev.bind (pzero_ev f v hv) (Ev.congr (fun k => ?_) (Ev.now _)))
      rw [show decide (clsN f v = 3 ∨ clsN f v = 0) = decide (clsN f v = 0) from decide_eq_decide.mpr (by omega)]
theorem scale_e (f : Int) (v : Nat) (n : Int) : wrap64 (lowestN f v + mn (mx n (-5000)) 5000) = lowestN f v + clampS n ∧ -10000 ≤ lowestN f v + clampS n ∧ lowestN f v + clampS n ≤ 10000 := by
  obtain ⟨l1, l2⟩ := lowest_near f v
  have := clampS_in n
  refine ⟨?_, by omega, by omega⟩
  show wrap64 (lowestN f v + clampS n) = _
  exact w64_id _ (by omega) (by omega)
theorem scale_ev (f mode : Int) (v : Nat) (n : Int) (hv : v < 4294967296) : Ev (fun k => whole_Scale.f k f mode (v : Int) n) ((scaleN f mode v n : Int), scaleX f mode v n) := by
  refine Ev.congr (fun k => by unfold whole_Scale.f; rfl) (Ev.bind (apart_ev f v hv) ?_)
  unfold scaleN scaleX
  by_cases c4 : 4 ≤ clsN f v
  · rw [if_pos c4, if_pos c4, if_pos c4]
    exact Ev.congr (fun k => by rw [if_pos rfl]) (Ev.now _)
  · rw [if_neg c4, if_neg c4, if_neg c4]
    by_cases c3 : clsN f v = 3
    · rw [if_pos c3, if_pos c3, decide_eq_true (.inl c3)]
      exact Ev.congr (fun k => by rw [if_pos rfl]) (Ev.now _)
    · rw [if_neg c3, if_neg c3]
      by_cases c0 : clsN f v = 0
      · obtain ⟨n1, n2⟩ := none_low f v c0
        obtain ⟨q1, q2⟩ := pack_none f mode (negN f v) (lowestN f v + clampS n)
        rw [decide_eq_true (.inr c0), n1, n2, q1, q2]
        exact Ev.congr (fun k => by rw [if_pos rfl]) (Ev.now _)
      · have hx := cls_exp f v (by omega)
        obtain ⟨e1, e2, e3⟩ := scale_e f v n
        have hp := packs_ev f mode (negN f v) (lowestN f v + clampS n) (wholeN f v) false (whole_64 f v)
        rw [clampE_id _ e2 e3] at hp
        rw [decide_eq_false (by omega)]
        exact Ev.congr (fun k => by rw [if_neg (show ¬ false = true by decide), of_f f v hv hx, Option.bind_some]; dsimp only; rw [e1]) (Ev.bind hp (Ev.now _))
end Go.Proofs.Ytngkpekmgahjiaa.Round

/- Amounts: what a number's bits without its sign stand for, in units of the least number; rounding depends on the amount alone. -/
namespace Go.Proofs.Ytngkpekmgahjiaa.Round
open Go.RowKit Go.Proofs.Ytngkpekmgahjiaa.P Go.Proofs.Ytngkpekmgahjiaa.Num Go.Proofs.Ytngkpekmgahjiaa.BitsF Go.Proofs.Ytngkpekmgahjiaa.Fmt Go.Proofs.YtngkpekmgahjiaaW.PrintWords Go.Proofs.YtngkpekmgahjiaaW.PrintLast Go.Proofs.YtngkpekmgahjiaaW.PrintMore

def magN (f : Int) (v : Nat) : Nat := v % 2 ^ (fe f + fm f)
/-- The same number, with noughts behind. -/
theorem rest_scale (r h j : Nat) : restN (r * 2 ^ j) (h * 2 ^ j) false = restN r h false := by
  have hp := Nat.two_pow_pos j
  unfold restN
  have h1 : r * 2 ^ j < h * 2 ^ j ↔ r < h := Nat.mul_lt_mul_right hp
  have h2 : r * 2 ^ j = 0 ↔ r = 0 := by rw [Nat.mul_eq_zero]; omega
  have h3 : r * 2 ^ j = h * 2 ^ j ↔ r = h := ⟨fun e => Nat.eq_of_mul_eq_mul_right hp e, fun e => by rw [e]⟩
  simp only [h1, h2, h3]
theorem left_exact (s : Nat) (d : Int) (h : d ≤ 0 ∨ s % 2 ^ d.toNat = 0) : leftN s d false = 0 := left_none false h
theorem quo_scale (s j : Nat) (d : Int) : quoN (s * 2 ^ j) d = quoN s (d - j) ∧ leftN (s * 2 ^ j) d false = leftN s (d - j) false := by
  by_cases c : d ≤ 0
  · rw [left_exact _ _ (.inl c), left_exact _ _ (.inl (by omega))]
    refine ⟨?_, rfl⟩
    unfold quoN
    rw [if_pos c, if_pos (by omega), show (-(d - (j : Int))).toNat = j + (-d).toNat by omega, Nat.pow_add, Nat.mul_assoc]
  · obtain ⟨n, rfl⟩ := nat_of (show 0 ≤ d by omega)
    by_cases c2 : (n : Int) - j ≤ 0
    · obtain ⟨i, rfl⟩ : ∃ i, j = n + i := ⟨j - n, by omega⟩
      have e : s * 2 ^ (n + i) = s * 2 ^ i * 2 ^ n := by rw [Nat.add_comm, Nat.pow_add, Nat.mul_assoc]
      have hp := Nat.two_pow_pos n
      constructor
      · unfold quoN
        rw [if_neg c, if_pos c2, Int.toNat_natCast, e, Nat.mul_div_cancel _ hp, show (-((n : Int) - ((n + i : Nat) : Int))).toNat = i by omega]
      · rw [left_exact _ _ (.inr (by rw [Int.toNat_natCast, e, Nat.mul_mod_left])), left_exact _ _ (.inl c2)]
    · obtain ⟨i, rfl⟩ : ∃ i, n = i + j := ⟨n - j, by omega⟩
      have hp := Nat.two_pow_pos j
      have e : ((i + j : Nat) : Int) - (j : Int) = (i : Int) := by omega
      rw [e] at c2 ⊢
      have hi : i ≠ 0 := by omega
      constructor
      · unfold quoN
        rw [if_neg c, if_neg c2, Int.toNat_natCast, Int.toNat_natCast, Nat.pow_add, Nat.mul_div_mul_right _ _ hp]
      · rw [left_rest _ _ _ c, left_rest _ _ _ c2, Int.toNat_natCast, Int.toNat_natCast, Nat.pow_add, Nat.mul_mod_mul_right, show i + j - 1 = i - 1 + j by omega, Nat.pow_add, rest_scale]
theorem rise_scale (f x : Int) (s j : Nat) : riseN f x (s * 2 ^ j) = riseN f (x + j) s := by
  unfold riseN
  by_cases c : s = 0
  · subst c; rw [Nat.zero_mul, if_pos rfl, if_pos rfl]
  · rw [if_neg (Nat.mul_ne_zero c (Nat.ne_of_gt (Nat.two_pow_pos j))), if_neg c, lenN_mul s j c]
    congr 1; omega
theorem key_scale (f mode : Int) (neg : Bool) (x : Int) (s j : Nat) : keyN f mode neg x (s * 2 ^ j) false = keyN f mode neg (x + j) s false := by
  have hr := rise_scale f x s j
  have hu : unitN f x (s * 2 ^ j) = unitN f (x + j) s := by unfold unitN; rw [hr]
  obtain ⟨hq, hl⟩ := quo_scale s j (unitN f (x + j) s - x)
  rw [show unitN f (x + j) s - x - j = unitN f (x + j) s - (x + j) by omega] at hq hl
  unfold keyN
  rw [hr, hu, hq, hl]
/-- A number's amount, by its whole number. -/
theorem mag_parts (f : Int) (v : Nat) : magN f v / 2 ^ fm f = expN f v ∧ magN f v % 2 ^ fm f = fracN f v := by
  unfold magN expN fracN
  rw [Nat.add_comm (fe f), Nat.pow_add]
  exact ⟨Nat.mod_mul_right_div_self .., Nat.mod_mul_right_mod ..⟩
end Go.Proofs.Ytngkpekmgahjiaa.Round

/- Bits with a sign, beyond the greatest number: plain numbers alone (for rounds without chapter 9). -/
namespace Go.Proofs.Ytngkpekmgahjiaa.Round
open Go.RowKit Go.Proofs.Ytngkpekmgahjiaa.P Go.Proofs.Ytngkpekmgahjiaa.Num Go.Proofs.Ytngkpekmgahjiaa.BitsF Go.Proofs.Ytngkpekmgahjiaa.Fmt Go.Proofs.YtngkpekmgahjiaaW.PrintWords Go.Proofs.YtngkpekmgahjiaaW.PrintLast Go.Proofs.YtngkpekmgahjiaaW.PrintMore

def infK (f : Int) : Nat := topN f * 2 ^ fm f
theorem infK_lt (f : Int) : infK f < 2 ^ (fe f + fm f) ∧ 0 < infK f := by
  obtain ⟨_, hi⟩ := inf_lt f false
  have hp := Nat.two_pow_pos (fm f)
  have ht : 0 < topN f * 2 ^ fm f := Nat.mul_pos (by have := top_cases f; omega) hp
  unfold infK; omega
/-- Bits with a sign. -/
theorem sign_parts (f : Int) (P : Nat) (neg : Bool) (h : P < 2 ^ (fe f + fm f)) : negN f (P + signN f neg) = neg ∧ magN f (P + signN f neg) = P ∧ P + signN f neg < 2 ^ (fe f + fm f + 1) := by
  unfold negN magN signN
  have hp := Nat.two_pow_pos (fe f + fm f)
  cases neg
  · simp only [Bool.false_eq_true, if_false, Nat.add_zero]
    rw [Nat.div_eq_of_lt h, Nat.mod_eq_of_lt h, Nat.pow_succ]
    exact ⟨rfl, rfl, by omega⟩
  · simp only [if_true]
    rw [Nat.add_div_right _ hp, Nat.div_eq_of_lt h, Nat.add_mod_right, Nat.mod_eq_of_lt h, Nat.pow_succ]
    exact ⟨rfl, rfl, by omega⟩
end Go.Proofs.Ytngkpekmgahjiaa.Round

/- Numbers near one, drawn: plain numbers. -/
namespace Go.Proofs.Ytngkpekmgahjiaa.Round
open Go.RowKit Go.Proofs.Ytngkpekmgahjiaa.P Go.Proofs.Ytngkpekmgahjiaa.Num Go.Proofs.Ytngkpekmgahjiaa.BitsF Go.Proofs.Ytngkpekmgahjiaa.Fmt Go.Proofs.YtngkpekmgahjiaaW.PrintWords Go.Proofs.YtngkpekmgahjiaaW.PrintLast Go.Proofs.YtngkpekmgahjiaaW.PrintMore

/-- The exponent's bits of one. -/
def oneN (f : Int) : Nat := topN f / 2
theorem one_cases (f : Int) : fe f = 5 ∧ fm f = 10 ∧ oneN f = 15 ∧ leastN f = -14 ∧ topN f = 31 ∨ fe f = 8 ∧ fm f = 7 ∧ oneN f = 127 ∧ leastN f = -126 ∧ topN f = 255 ∨ fe f = 8 ∧ fm f = 23 ∧ oneN f = 127 ∧ leastN f = -126 ∧ topN f = 255 := by
  unfold oneN topN leastN
  rcases fcases f with ⟨h1, h2⟩ | ⟨h1, h2⟩ | ⟨h1, h2⟩ <;> rw [h1, h2] <;> simp
end Go.Proofs.Ytngkpekmgahjiaa.Round

/- Normal numbers times powers of two, and what is lost at the ends: plain numbers. -/
namespace Go.Proofs.Ytngkpekmgahjiaa.Round
open Go.RowKit Go.Proofs.Ytngkpekmgahjiaa.P Go.Proofs.Ytngkpekmgahjiaa.Num Go.Proofs.Ytngkpekmgahjiaa.BitsF Go.Proofs.Ytngkpekmgahjiaa.Fmt Go.Proofs.YtngkpekmgahjiaaW.PrintWords Go.Proofs.YtngkpekmgahjiaaW.PrintLast Go.Proofs.YtngkpekmgahjiaaW.PrintMore

theorem norm_lt (f : Int) (e r : Nat) (h : e < topN f) (hr : r < 2 ^ fm f) : e * 2 ^ fm f + r < infK f := by
  have := Nat.mul_le_mul_right (2 ^ fm f) (show e + 1 ≤ topN f from h)
  rw [Nat.add_mul] at this
  unfold infK; omega
/-- A normal number's parts, by its exponent's bits and its fraction. -/
theorem norm_parts (f : Int) (neg : Bool) (e r : Nat) (h0 : 1 ≤ e) (h1 : e < topN f) (hr : r < 2 ^ fm f) :
    negN f (e * 2 ^ fm f + r + signN f neg) = neg ∧ magN f (e * 2 ^ fm f + r + signN f neg) = e * 2 ^ fm f + r ∧ e * 2 ^ fm f + r + signN f neg < 2 ^ (fe f + fm f + 1) ∧ e * 2 ^ fm f + r + signN f neg < 4294967296 ∧
    expN f (e * 2 ^ fm f + r + signN f neg) = e ∧ fracN f (e * 2 ^ fm f + r + signN f neg) = r ∧ clsN f (e * 2 ^ fm f + r + signN f neg) = 2 ∧ wholeN f (e * 2 ^ fm f + r + signN f neg) = r + 2 ^ fm f ∧
    lowestN f (e * 2 ^ fm f + r + signN f neg) = leastN f - fm f + ((e - 1 : Nat) : Int) := by
  have hl := norm_lt f e r h1 hr
  have hi := (infK_lt f).1
  have hb := fbounds f
  have h32 := pow_le32 (show fe f + fm f + 1 ≤ 32 by omega)
  have hp := Nat.two_pow_pos (fm f)
  obtain ⟨p1, p2, p3⟩ := sign_parts f (e * 2 ^ fm f + r) neg (by omega)
  obtain ⟨q1, q2⟩ := mag_parts f (e * 2 ^ fm f + r + signN f neg)
  rw [p2, Nat.mul_comm, Nat.mul_add_div hp, Nat.div_eq_of_lt hr, Nat.add_zero, Nat.mul_comm] at q1
  rw [p2, Nat.mul_comm, Nat.mul_add_mod, Nat.mod_eq_of_lt hr, Nat.mul_comm] at q2
  refine ⟨p1, p2, p3, by omega, q1.symm, q2.symm, ?_, ?_, ?_⟩
  · unfold clsN; rw [← q1, if_neg (by omega), if_pos h1]
  · unfold wholeN; rw [← q1, ← q2, if_neg (by omega)]
  · unfold lowestN; rw [← q1]
theorem scale_norm (f mode : Int) (neg : Bool) (e e' r : Nat) (h0 : 1 ≤ e) (h1 : e < topN f) (h0' : 1 ≤ e') (h1' : e' < topN f) (hr : r < 2 ^ fm f) (n : Int) (hn : n = (e' : Int) - e) :
    scaleN f mode (e * 2 ^ fm f + r + signN f neg) n = e' * 2 ^ fm f + r + signN f neg ∧ scaleX f mode (e * 2 ^ fm f + r + signN f neg) n = (false, false, false, false, false) := by
  obtain ⟨p1, p2, p3, p4, p5, p6, p7, p8, p9⟩ := norm_parts f neg e r h0 h1 hr
  have ht := top_cases f
  have hl := norm_lt f e' r h1' hr
  have hs : 2 ^ (fm f + 1) = 2 * 2 ^ fm f := by rw [Nat.pow_succ, Nat.mul_comm]
  have hk : (e' - 1) * 2 ^ fm f + (r + 2 ^ fm f) = e' * 2 ^ fm f + r := by
    have : e' * 2 ^ fm f = (e' - 1) * 2 ^ fm f + 2 ^ fm f := by rw [← Nat.succ_mul]; congr 1; omega
    omega
  obtain ⟨x1, x2⟩ := exact_pack f mode neg (r + 2 ^ fm f) 0 (e' - 1) (by omega) (.inr (by omega)) (by unfold infK at hl; omega)
  rw [hk] at x1
  rw [Nat.pow_zero, Nat.mul_one, show leastN f - (fm f : Int) + ((e' - 1 : Nat) : Int) - ((0 : Nat) : Int) = leastN f - fm f + ((e - 1 : Nat) : Int) + clampS n by rw [clampS_id n (by omega) (by omega)]; omega] at x1 x2
  unfold scaleN scaleX
  rw [p7, p1, p8, p9, if_neg (by decide), if_neg (by decide), if_neg (by decide), if_neg (by decide), x1, x2]
  exact ⟨rfl, rfl⟩
theorem zero_parts (f : Int) : clsN f 0 = 0 ∧ negN f 0 = false ∧ wholeN f 0 = 0 ∧ signN f false = 0 := by
  refine ⟨?_, ?_, ?_, rfl⟩
  · unfold clsN expN fracN; simp
  · unfold negN; simp
  · unfold wholeN expN fracN; simp
theorem scale_zero (f mode n : Int) : scaleN f mode 0 n = 0 := by
  obtain ⟨z1, z2, z3, z4⟩ := zero_parts f
  unfold scaleN
  rw [z1, z2, z3, if_neg (by decide), if_neg (by decide), (pack_none _ _ _ _).1, z4]
end Go.Proofs.Ytngkpekmgahjiaa.Round

/- Numbers made whole: the program's, as plain numbers. -/
namespace Go.Proofs.Ytngkpekmgahjiaa.Round
open Go.RowKit Go.Proofs.Ytngkpekmgahjiaa.P Go.Proofs.Ytngkpekmgahjiaa.Num Go.Proofs.Ytngkpekmgahjiaa.BitsF Go.Proofs.Ytngkpekmgahjiaa.Fmt Go.Proofs.YtngkpekmgahjiaaW.PrintWords Go.Proofs.YtngkpekmgahjiaaW.PrintLast Go.Proofs.YtngkpekmgahjiaaW.PrintMore

theorem pfinite_f (f : Int) (v : Nat) (hv : v < 4294967296) : format_Finite.f f (v : Int) = some (decide (expN f v < topN f)) := by
  unfold format_Finite.f
  rw [parts_f f v hv, Option.bind_some, top_f, Option.bind_some]
  dsimp only
  congr 1; apply decide_eq_decide.mpr; omega
/-- A number's amount, made whole; was some lost? -/
def unitsN (f mode : Int) (v : Nat) : Nat :=
  if 40 < lowestN f v + lenN (wholeN f v) then 1099511627776
  else quoN (wholeN f v) (-lowestN f v) + if upN mode (negN f v) (quoN (wholeN f v) (-lowestN f v)) (leftN (wholeN f v) (-lowestN f v) false) then 1 else 0
def unitsX (f : Int) (v : Nat) : Bool := if 40 < lowestN f v + lenN (wholeN f v) then false else decide (leftN (wholeN f v) (-lowestN f v) false ≠ 0)
theorem whole_len (f : Int) (v : Nat) : lenN (wholeN f v) ≤ 24 := by
  have h := lenN_bound _ _ (whole_lt f v)
  have := fbounds f
  omega
theorem quo_forty (f : Int) (v : Nat) (h : ¬ 40 < lowestN f v + lenN (wholeN f v)) : quoN (wholeN f v) (-lowestN f v) < 2 ^ 40 := by
  have hl := lenN_lt (wholeN f v)
  have hw := whole_len f v
  unfold quoN
  by_cases c : -lowestN f v ≤ 0
  · rw [if_pos c, show (-(-lowestN f v)).toNat = (lowestN f v).toNat by congr 1; omega]
    have h1 : wholeN f v * 2 ^ (lowestN f v).toNat < 2 ^ lenN (wholeN f v) * 2 ^ (lowestN f v).toNat := Nat.mul_lt_mul_of_pos_right hl (Nat.two_pow_pos _)
    rw [← Nat.pow_add] at h1
    exact Nat.lt_of_lt_of_le h1 (Nat.pow_le_pow_right (by decide) (by omega))
  · rw [if_neg c]
    exact Nat.lt_of_le_of_lt (Nat.div_le_self _ _) (Nat.lt_of_lt_of_le hl (Nat.pow_le_pow_right (by decide) (by omega)))
theorem units_le (f mode : Int) (v : Nat) : unitsN f mode v ≤ 1099511627776 := by
  unfold unitsN
  split
  · omega
  · next h =>
    have := quo_forty f v h
    split <;> omega
theorem units_ev (f mode : Int) (v : Nat) : Ev (fun k => whole_units.f k (negN f v) (lowestN f v) (wholeN f v : Int) false mode) ((unitsN f mode v : Int), unitsX f v) := by
  have hs := whole_64 f v
  obtain ⟨l1, l2⟩ := lowest_near f v
  have hw := whole_len f v
  refine Ev.congr (fun k => by unfold whole_units.f; rfl) (Ev.bind (len_ev _ hs) ?_)
  rw [w64_id (lowestN f v + (lenN (wholeN f v) : Int)) (by omega) (by omega), w64_id (-lowestN f v) (by omega) (by omega)]
  unfold unitsN unitsX
  by_cases c : 40 < lowestN f v + lenN (wholeN f v)
  · rw [if_pos c, if_pos c]
    exact Ev.congr (fun k => by rw [if_pos (by omega)]; rfl) (Ev.now _)
  · rw [if_neg c, if_neg c]
    have hq := quo_forty f v c
    have hu := units_f 0 (wholeN f v) hs (-lowestN f v) (by omega) (by omega) false (fun h => by
      unfold quoN at hq; rw [if_pos h] at hq; omega)
    refine Ev.congr (fun k => by rw [if_neg (by omega)]) (Ev.bind (Ev.of (round_Units.mono _ _ _) hu) ?_)
    dsimp only
    generalize hQ : quoN (wholeN f v) (-lowestN f v) = q at *
    generalize leftN (wholeN f v) (-lowestN f v) false = l at *
    refine Ev.congr (fun k => by rw [up_f mode (negN f v) q l (by omega), Option.bind_some, exc_cast]) ?_
    cases upN mode (negN f v) q l
    · exact Ev.congr (fun k => by rw [if_neg (by decide), if_neg (by decide), Nat.add_zero]) (Ev.now _)
    · exact Ev.congr (fun k => by rw [if_pos rfl, if_pos rfl, show (q : Int) + 1 = ((q + 1 : Nat) : Int) by omega, u64_id _ (by omega)]) (Ev.now _)
/-- A number as a whole one, with its sign. -/
def intN (f mode : Int) (v : Nat) : Int := if negN f v then -(unitsN f mode v : Int) else (unitsN f mode v : Int)
def toIntN (f mode : Int) (v : Nat) : Int × Bool × Bool × Bool × Bool × Bool :=
  if expN f v < topN f ∧ -2147483648 ≤ intN f mode v ∧ intN f mode v ≤ 2147483647 then (intN f mode v, false, false, false, false, unitsX f v) else (-2147483648, true, false, false, false, false)
theorem w32_id (n : Int) (h : -2147483648 ≤ n) (h' : n ≤ 2147483647) : wrap32 n = n := by unfold wrap32; omega
theorem w32_in (n : Int) : -2147483648 ≤ wrap32 n ∧ wrap32 n ≤ 2147483647 := by unfold wrap32; omega
theorem fits (V : Int) (h1 : -1099511627776 ≤ V) (h2 : V ≤ 1099511627776) (x : Bool) : (if V = wrap64 (wrap32 V) then some (wrap32 V, false, false, false, false, x) else some (-2147483648, true, false, false, false, false)) =
    some (if -2147483648 ≤ V ∧ V ≤ 2147483647 then (V, false, false, false, false, x) else (-2147483648, true, false, false, false, false)) := by
  obtain ⟨w1, w2⟩ := w32_in V
  rw [w64_id (wrap32 V) (by omega) (by omega)]
  by_cases c : -2147483648 ≤ V ∧ V ≤ 2147483647
  · rw [w32_id V c.1 c.2, if_pos rfl, if_pos c]
  · rw [if_neg (by omega), if_neg c]
theorem toint_ev (f mode : Int) (v : Nat) (hv : v < 4294967296) : Ev (fun k => whole_ToInt.f k f mode (v : Int)) (toIntN f mode v) := by
  refine Ev.congr (fun k => by unfold whole_ToInt.f; rw [pfinite_f f v hv, Option.bind_some]) ?_
  unfold toIntN intN
  have hu := units_le f mode v
  by_cases c : expN f v < topN f
  · refine Ev.congr (fun k => by rw [if_pos (decide_eq_true c), of_f f v hv c, Option.bind_some]) (Ev.bind (units_ev f mode v) ?_)
    dsimp only
    generalize unitsN f mode v = q at *
    rw [w64_id (q : Int) (by omega) (by omega), w64_id (-(q : Int)) (by omega) (by omega)]
    cases negN f v
    · refine Ev.congr (fun k => by rw [if_neg (show ¬ false = true by decide)]) (Ev.step (fun k => ?_) (Ev.now _))
      rw [whole_ToInt.j0, fits (q : Int) (by omega) (by omega)]
      by_cases d : -2147483648 ≤ (q : Int) ∧ (q : Int) ≤ 2147483647
      · rw [if_pos d, if_neg (show ¬ false = true by decide), if_pos ⟨c, d⟩]
      · rw [if_neg d, if_neg (show ¬ false = true by decide), if_neg (fun h => d h.2)]
    · refine Ev.congr (fun k => by rw [if_pos (show true = true from rfl)]) (Ev.step (fun k => ?_) (Ev.now _))
      rw [whole_ToInt.j0, fits (-(q : Int)) (by omega) (by omega)]
      by_cases d : -2147483648 ≤ -(q : Int) ∧ -(q : Int) ≤ 2147483647
      · rw [if_pos d, if_pos (show true = true from rfl), if_pos ⟨c, d⟩]
      · rw [if_neg d, if_pos (show true = true from rfl), if_neg (fun h => d h.2)]
  · rw [if_neg (fun h => c h.1)]
    exact Ev.congr (fun k => by rw [if_neg (by simp [c])]) (Ev.now _)
end Go.Proofs.Ytngkpekmgahjiaa.Round

/- Whole numbers as numbers, and numbers made whole that stay numbers: the program's, as plain numbers. -/
namespace Go.Proofs.Ytngkpekmgahjiaa.Round
open Go.RowKit Go.Proofs.Ytngkpekmgahjiaa.P Go.Proofs.Ytngkpekmgahjiaa.Num Go.Proofs.Ytngkpekmgahjiaa.BitsF Go.Proofs.Ytngkpekmgahjiaa.Fmt Go.Proofs.YtngkpekmgahjiaaW.PrintWords Go.Proofs.YtngkpekmgahjiaaW.PrintLast Go.Proofs.YtngkpekmgahjiaaW.PrintMore

theorem amount_f (v : Int) (h1 : -9223372036854775808 ≤ v) (h2 : v ≤ 9223372036854775807) : whole_amount.f v = some (v.natAbs : Int) := by
  unfold whole_amount.f
  by_cases c : v < 0
  · rw [if_pos c, u64_wrap, u64_wrap]; congr 1; omega
  · rw [if_neg c, u64_wrap]; congr 1; omega
theorem fromint_ev (f mode v : Int) (h1 : -9223372036854775808 ≤ v) (h2 : v ≤ 9223372036854775807) :
    Ev (fun k => whole_FromInt.f k f mode v) ((packN f mode (decide (v < 0)) 0 v.natAbs false : Int), false, false, excN f mode (decide (v < 0)) 0 v.natAbs false) := by
  have hp := packs_ev f mode (decide (v < 0)) 0 v.natAbs false (by omega)
  rw [clampE_id _ (by decide) (by decide)] at hp
  exact Ev.congr (fun k => by unfold whole_FromInt.f; rw [amount_f v h1 h2, Option.bind_some]) (Ev.bind hp (Ev.now _))
/-- A number made whole. -/
def roundN (f mode : Int) (v : Nat) : Nat :=
  if 4 ≤ clsN f v then nanN f else if clsN f v = 3 ∨ clsN f v = 0 ∨ 0 ≤ lowestN f v then lowN f v else packN f mode (negN f v) 0 (unitsN f mode v) false
def roundX (f : Int) (v : Nat) : Bool × Bool :=
  if 4 ≤ clsN f v then (isLoud f v, false) else if clsN f v = 3 ∨ clsN f v = 0 ∨ 0 ≤ lowestN f v then (false, false) else (false, unitsX f v)
theorem round_ev (f mode : Int) (v : Nat) (hv : v < 4294967296) : Ev (fun k => whole_Round.f k f mode (v : Int)) ((roundN f mode v : Int), (roundX f v).1, false, false, false, (roundX f v).2) := by
  refine Ev.congr (fun k => by unfold whole_Round.f; rfl) (Ev.bind (apart_ev f v hv) ?_)
  unfold roundN roundX
  by_cases c4 : 4 ≤ clsN f v
  · rw [if_pos c4, if_pos c4, if_pos c4]
    exact Ev.congr (fun k => by rw [if_pos rfl]) (Ev.now _)
  · rw [if_neg c4, if_neg c4, if_neg c4]
    by_cases c3 : clsN f v = 3 ∨ clsN f v = 0
    · rw [if_pos (show clsN f v = 3 ∨ clsN f v = 0 ∨ 0 ≤ lowestN f v by omega), if_pos (show clsN f v = 3 ∨ clsN f v = 0 ∨ 0 ≤ lowestN f v by omega), decide_eq_true c3]
      exact Ev.congr (fun k => by rw [if_pos rfl]) (Ev.now _)
    · rw [decide_eq_false c3]
      refine Ev.congr (fun k => by rw [if_neg (show ¬ false = true by decide), of_f f v hv (cls_exp f v (by omega)), Option.bind_some]) ?_
      dsimp only
      by_cases c0 : 0 ≤ lowestN f v
      · rw [if_pos (show clsN f v = 3 ∨ clsN f v = 0 ∨ 0 ≤ lowestN f v by omega), if_pos (show clsN f v = 3 ∨ clsN f v = 0 ∨ 0 ≤ lowestN f v by omega)]
        exact Ev.congr (fun k => by rw [if_pos c0, pmask_f, Option.bind_some, and_mask f v hv]) (Ev.now _)
      · rw [if_neg (show ¬ (clsN f v = 3 ∨ clsN f v = 0 ∨ 0 ≤ lowestN f v) by omega), if_neg (show ¬ (clsN f v = 3 ∨ clsN f v = 0 ∨ 0 ≤ lowestN f v) by omega)]
        have hu := units_le f mode v
        have hp := packs_ev f mode (negN f v) 0 (unitsN f mode v) false (by omega)
        rw [clampE_id _ (by decide) (by decide)] at hp
        refine Ev.congr (fun k => by rw [if_neg (by omega)]) (Ev.bind (units_ev f mode v) (Ev.bind hp ?_))
        exact Ev.now _
/-- Noughts behind make no difference. -/
theorem pack_scale (f mode : Int) (neg : Bool) (x : Int) (s j : Nat) : packN f mode neg x (s * 2 ^ j) false = packN f mode neg (x + j) s false ∧ excN f mode neg x (s * 2 ^ j) false = excN f mode neg (x + j) s false := by
  have hk := key_scale f mode neg x s j
  have hr := rise_scale f x s j
  have hu : unitN f x (s * 2 ^ j) = unitN f (x + j) s := by unfold unitN; rw [hr]
  have hl := (quo_scale s j (unitN f (x + j) s - x)).2
  rw [show unitN f (x + j) s - x - j = unitN f (x + j) s - (x + j) by omega] at hl
  have hi : inexN f x (s * 2 ^ j) false = inexN f (x + j) s false := by unfold inexN; rw [hu, hl]
  have hun : underN f x (s * 2 ^ j) false = underN f (x + j) s false := by
    unfold underN
    rw [hi]
    congr 1
    by_cases c : s = 0
    · subst c; simp
    · rw [decide_eq_false c, decide_eq_false (Nat.mul_ne_zero c (Nat.ne_of_gt (Nat.two_pow_pos j))), lenN_mul s j c]
      congr 1; apply decide_eq_decide.mpr; omega
  unfold packN excN
  rw [hk, hi, hun]; exact ⟨rfl, rfl⟩
end Go.Proofs.Ytngkpekmgahjiaa.Round

/- WholeBack: whole numbers that fit come back, in each mode: as whole ones, made whole, scaled there and back; of each format. -/
namespace Go.Proofs.Ytngkpekmgahjiaa.Pure
open Go.RowKit Go.Proofs.Ytngkpekmgahjiaa.P Go.Proofs.Ytngkpekmgahjiaa.Num Go.Proofs.Ytngkpekmgahjiaa.BitsF Go.Proofs.Ytngkpekmgahjiaa.Fmt Go.Proofs.Ytngkpekmgahjiaa.Round Go.Proofs.YtngkpekmgahjiaaW.PrintWords Go.Proofs.YtngkpekmgahjiaaW.PrintLast Go.Proofs.YtngkpekmgahjiaaW.PrintMore
theorem known8_ev : Ev (fun k => anneallaw8_known.f k) true := Ev.of anneallaw8_known.mono (k := 60) (by kernel_rfl)
theorem form8_f (c : Nat) : ∃ f : Int, anneallaw8_form.f (c : Int) = some f := by
  have e := Int.tmod_eq_emod_of_nonneg (b := 3) (Int.natCast_nonneg c)
  unfold anneallaw8_form.f
  rw [Option.bind_some, e]
  have h : (c : Int) % 3 = 0 ∨ (c : Int) % 3 = 1 ∨ (c : Int) % 3 = 2 := by omega
  rcases h with h | h | h <;> rw [h] <;> exact ⟨_, rfl⟩
theorem tmod_nat (n m : Nat) (hm : m < 1000) (h0 : 0 < m) : wrap64 (Int.tmod (n : Int) (m : Int)) = ((n % m : Nat) : Int) := by
  rw [Int.tmod_eq_emod_of_nonneg (Int.natCast_nonneg n)]
  have := Nat.mod_lt n h0
  rw [w64_id _ (by omega) (by omega)]; rfl
theorem wf_i32 {n : Int} (h : (Lit.int .i32 n).wf = true) : -2147483648 ≤ n ∧ n ≤ 2147483647 := by
  simp [Lit.wf, IntKind.min, IntKind.max, IntKind.bits, IntKind.signed] at h; omega
/-- A small whole number, as a number. -/
theorem whole_parts (f mode : Int) (N : Nat) (h0 : N ≠ 0) (h : N < 2 ^ fm f) (neg : Bool) : ∃ e r j : Nat, 1 ≤ e ∧ e + 4 < topN f ∧ 4 ≤ e ∧ r < 2 ^ fm f ∧ 1 ≤ j ∧ r + 2 ^ fm f = N * 2 ^ j ∧ leastN f - fm f + ((e - 1 : Nat) : Int) = -(j : Int) ∧ lenN N + j = fm f + 1 ∧
    packN f mode neg 0 N false = e * 2 ^ fm f + r + signN f neg ∧ excN f mode neg 0 N false = (false, false, false) := by
  have hl := lenN_bound N (fm f) h
  have hp := lenN_pos N h0
  have hb := fbounds f
  have hc := one_cases f
  obtain ⟨j, hj⟩ : ∃ j, lenN N + j = fm f + 1 := ⟨fm f + 1 - lenN N, by omega⟩
  have hpj := Nat.two_pow_pos j
  have hpm := Nat.two_pow_pos (fm f)
  have m1 : 2 ^ fm f ≤ N * 2 ^ j := by
    have := Nat.mul_le_mul_right (2 ^ j) (lenN_le N h0)
    rw [← Nat.pow_add, show lenN N - 1 + j = fm f by omega] at this; exact this
  have m2 : N * 2 ^ j < 2 ^ (fm f + 1) := by
    have := Nat.mul_lt_mul_of_pos_right (lenN_lt N) hpj
    rw [← Nat.pow_add, hj] at this; exact this
  have hs : 2 ^ (fm f + 1) = 2 * 2 ^ fm f := by rw [Nat.pow_succ, Nat.mul_comm]
  have hr : ∃ R : Nat, (R : Int) = lenN N - 1 - leastN f ∧ R + 1 + 4 < topN f ∧ 4 ≤ R + 1 := by
    refine ⟨(lenN N - 1 - leastN f : Int).toNat, ?_, ?_, ?_⟩ <;> rcases hc with ⟨c1, c2, c3, c4, c5⟩ | ⟨c1, c2, c3, c4, c5⟩ | ⟨c1, c2, c3, c4, c5⟩ <;> omega
  obtain ⟨R, hR, hR1, hR2⟩ := hr
  have hfin := norm_lt f (R + 1) (N * 2 ^ j - 2 ^ fm f) (by omega) (by omega)
  have hk : R * 2 ^ fm f + N * 2 ^ j = (R + 1) * 2 ^ fm f + (N * 2 ^ j - 2 ^ fm f) := by rw [Nat.add_mul]; omega
  obtain ⟨x1, x2⟩ := exact_pack f mode neg (N * 2 ^ j) 0 R m2 (.inr m1) (by rw [hk]; exact hfin)
  rw [hk] at x1
  rw [Nat.pow_zero, Nat.mul_one, show leastN f - (fm f : Int) + (R : Int) - ((0 : Nat) : Int) = -(j : Int) by omega] at x1 x2
  obtain ⟨s1, s2⟩ := pack_scale f mode neg (-(j : Int)) N j
  rw [show -(j : Int) + (j : Int) = 0 by omega] at s1 s2
  rw [s1] at x1
  rw [s2] at x2
  exact ⟨R + 1, N * 2 ^ j - 2 ^ fm f, j, by omega, by omega, by omega, by omega, by omega, by omega, by rw [show R + 1 - 1 = R by omega]; omega, hj, x1, x2⟩
theorem zero_units (f mode : Int) : intN f mode 0 = 0 ∧ unitsX f 0 = false := by
  obtain ⟨z1, z2, z3, z4⟩ := zero_parts f
  obtain ⟨l1, l2⟩ := lowest_near f 0
  have hlow : lowestN f 0 ≤ 0 := by
    have := least_cases f
    have := fbounds f
    unfold lowestN expN; simp; omega
  have hq : quoN 0 (-lowestN f 0) = 0 := by unfold quoN; split <;> simp
  have hl : leftN 0 (-lowestN f 0) false = 0 := left_none _ (.inr (by simp))
  unfold intN unitsN unitsX
  rw [z2, z3, hq, hl, up_none, lenN_zero, if_neg (show ¬ (40 : Int) < lowestN f 0 + ((0 : Nat) : Int) by omega), if_neg (show ¬ (40 : Int) < lowestN f 0 + ((0 : Nat) : Int) by omega)]
  exact ⟨rfl, rfl⟩
/-- All that a whole number comes back as. -/
theorem backs (f mode i : Int) (h1 : -((2 ^ fm f : Nat) : Int) < i) (h2 : i < ((2 ^ fm f : Nat) : Int)) (n : Nat) (hn : n < 4) : ∃ a b : Nat, a < 4294967296 ∧ b < 4294967296 ∧
    packN f mode (decide (i < 0)) 0 i.natAbs false = a ∧ excN f mode (decide (i < 0)) 0 i.natAbs false = (false, false, false) ∧ toIntN f mode a = (i, false, false, false, false, false) ∧
    roundN f mode a = a ∧ roundX f a = (false, false) ∧ scaleN f mode a (n : Int) = b ∧ scaleX f mode a (n : Int) = (false, false, false, false, false) ∧ scaleN f mode b (-(n : Int)) = a ∧ scaleX f mode b (-(n : Int)) = (false, false, false, false, false) := by
  by_cases c : i = 0
  · subst c
    obtain ⟨z1, z2, z3, z4⟩ := zero_parts f
    obtain ⟨q1, q2⟩ := pack_none f mode false 0
    obtain ⟨u1, u2⟩ := zero_units f mode
    have ht := top_cases f
    have he : expN f 0 < topN f := by unfold expN; simp; omega
    have sx : ∀ n : Int, scaleX f mode 0 n = (false, false, false, false, false) := by
      intro n; unfold scaleX; rw [z1, z2, z3, if_neg (by decide), if_neg (by decide), (pack_none _ _ _ _).2]
    refine ⟨0, 0, by decide, by decide, by rw [← z4]; exact q1, q2, ?_, ?_, ?_, scale_zero _ _ _, sx _, scale_zero _ _ _, sx _⟩
    · unfold toIntN; rw [u1, u2, if_pos ⟨he, by decide, by decide⟩]
    · unfold roundN; rw [z1, if_neg (by decide), if_pos (.inr (.inl rfl))]; unfold lowN; simp
    · unfold roundX; rw [z1, if_neg (by decide), if_pos (.inr (.inl rfl))]
  · obtain ⟨e, r, j, e1, e2, e3, hr, hj, hM, hlow, hlen, x1, x2⟩ := whole_parts f mode i.natAbs (by omega) (by omega) (decide (i < 0))
    have hb := fbounds f
    generalize hneg : decide (i < 0) = neg at *
    obtain ⟨p1, p2, p3, p4, p5, p6, p7, p8, p9⟩ := norm_parts f neg e r e1 (by omega) hr
    obtain ⟨_, _, _, b4, _⟩ := norm_parts f neg (e + n) r (by omega) (by omega) hr
    obtain ⟨s1, s2⟩ := scale_norm f mode neg e (e + n) r e1 (by omega) (by omega) (by omega) hr (n : Int) (by omega)
    obtain ⟨t1, t2⟩ := scale_norm f mode neg (e + n) e r (by omega) (by omega) e1 (by omega) hr (-(n : Int)) (by omega)
    have hpj := Nat.two_pow_pos j
    have hN : i.natAbs < 2 ^ fm f := by omega
    have h31 := pow_le31 (show fm f ≤ 31 by omega)
    have hwl : lenN (r + 2 ^ fm f) = lenN i.natAbs + j := by rw [hM]; exact lenN_mul _ _ (by omega)
    have hq : quoN (r + 2 ^ fm f) (- -(j : Int)) = i.natAbs := by
      rw [Int.neg_neg, hM]; unfold quoN; rw [if_neg (by omega), Int.toNat_natCast, Nat.mul_div_cancel _ hpj]
    have hl : leftN (r + 2 ^ fm f) (- -(j : Int)) false = 0 := by
      rw [Int.neg_neg, hM]; exact left_exact _ _ (.inr (by rw [Int.toNat_natCast, Nat.mul_mod_left]))
    have hu : unitsN f mode (e * 2 ^ fm f + r + signN f neg) = i.natAbs ∧ unitsX f (e * 2 ^ fm f + r + signN f neg) = false := by
      unfold unitsN unitsX
      rw [p8, p9, hlow, hwl, hq, hl, up_none, if_neg (show ¬ (40 : Int) < -(j : Int) + ((lenN i.natAbs + j : Nat) : Int) by omega), if_neg (show ¬ (40 : Int) < -(j : Int) + ((lenN i.natAbs + j : Nat) : Int) by omega)]; exact ⟨rfl, rfl⟩
    have hi : intN f mode (e * 2 ^ fm f + r + signN f neg) = i := by
      unfold intN; rw [hu.1, p1, ← hneg]
      by_cases d : i < 0
      · rw [decide_eq_true d, if_pos rfl]; omega
      · rw [decide_eq_false d, if_neg (by decide)]; omega
    have hclt : ¬ (clsN f (e * 2 ^ fm f + r + signN f neg) = 3 ∨ clsN f (e * 2 ^ fm f + r + signN f neg) = 0 ∨ 0 ≤ lowestN f (e * 2 ^ fm f + r + signN f neg)) := by
      rw [p7, p9, hlow]; omega
    refine ⟨_, _, p4, b4, x1, x2, ?_, ?_, ?_, s1, s2, t1, t2⟩
    · unfold toIntN; rw [hi, hu.2, p5, if_pos ⟨by omega, by omega, by omega⟩]
    · unfold roundN; rw [if_neg (by rw [p7]; decide), if_neg hclt, p1, hu.1, x1]
    · unfold roundX; rw [if_neg (by rw [p7]; decide), if_neg hclt, hu.2]
theorem shr_f (f a : Int) (h1 : -2147483648 ≤ a) (h2 : a ≤ 2147483647) : ∃ i : Int, shr .i64 (wrap64 a) (wrap64 (32 - (fm f : Int))) = i ∧ -((2 ^ fm f : Nat) : Int) < i ∧ i < ((2 ^ fm f : Nat) : Int) := by
  have hb := fbounds f
  refine ⟨_, rfl, ?_⟩
  rw [w64_id a (by omega) (by omega), w64_id _ (by omega) (by omega), show (32 : Int) - (fm f : Int) = ((32 - fm f : Nat) : Int) by omega]
  unfold shr
  rw [Int.toNat_natCast, Nat.min_eq_left (show 32 - fm f ≤ IntKind.i64.bits by show 32 - fm f ≤ 64; omega)]
  have hp := Nat.two_pow_pos (32 - fm f)
  have hm : 2 ^ fm f * 2 ^ (32 - fm f) = 4294967296 := by rw [← Nat.pow_add, show fm f + (32 - fm f) = 32 by omega]
  have hP31 := pow_le31 (show 32 - fm f ≤ 31 by omega)
  rw [← pow_cast]
  generalize 2 ^ (32 - fm f) = P at *
  generalize 2 ^ fm f = Q at *
  have hm' : (Q : Int) * (P : Int) = 4294967296 := by rw [← Int.natCast_mul, hm]; rfl
  have hP : 0 < (P : Int) := by omega
  constructor
  · have : -(Q : Int) + 1 ≤ a / (P : Int) := by
      rw [Int.le_ediv_iff_mul_le hP, Int.add_mul, Int.neg_mul, hm', Int.one_mul]; omega
    omega
  · rw [Int.ediv_lt_iff_lt_mul hP, hm']; omega
theorem WholeBack : anneallaw8_WholeBack.Pure := by
  intro a0 a1 a2 a3 h0 h1 h2 h3
  obtain ⟨p0, q0⟩ := wf_u8 h0
  obtain ⟨p2, q2⟩ := wf_i32 h2
  obtain ⟨p3, q3⟩ := wf_u8 h3
  obtain ⟨c, rfl⟩ := nat_of p0
  obtain ⟨l, rfl⟩ := nat_of p3
  obtain ⟨f, ff⟩ := form8_f c
  obtain ⟨i, hi, i1, i2⟩ := shr_f f a2 p2 q2
  have ej := tmod_nat l 4 (by decide) (by decide)
  have hn := Nat.mod_lt l (show 4 > 0 by decide)
  have hb := fbounds f
  have h31 := pow_le31 (show fm f ≤ 31 by omega)
  apply Ev.rounds
  unfold anneallaw8_WholeBack.f
  refine Ev.bind known8_ev ?_
  refine Ev.congr (fun k => by rw [if_pos rfl, ff, Option.bind_some, ref_widths_f, Option.bind_some]) ?_
  dsimp only
  generalize wrap64 (Int.tmod a1 5) = mode
  rw [hi, show (4 : Int) = ((4 : Nat) : Int) from rfl, ej]
  generalize l % 4 = n at *
  rw [w64_id (-(n : Int)) (by omega) (by omega)]
  obtain ⟨a, b, av, bv, r1, r2, r3, r4, r5, r6, r7, r8, r9⟩ := backs f mode i i1 i2 n hn
  have t1 := fromint_ev f mode i (by omega) (by omega)
  have t2 := toint_ev f mode a av
  have t3 := round_ev f mode a av
  have t4 := scale_ev f mode a (n : Int) av
  have t5 := scale_ev f mode b (-(n : Int)) bv
  rw [r1, r2] at t1
  rw [r3] at t2
  rw [r4, r5] at t3
  rw [r6, r7] at t4
  rw [r8, r9] at t5
  refine Ev.congr (fun k => by rw [if_pos (by rw [w64_id _ (by omega) (by omega)]; omega)]) (Ev.bind t1 (Ev.bind t2 (Ev.bind t3 (Ev.bind t4 (Ev.bind t5 ?_)))))
  refine Ev.congr (fun k => ?_) (show Ev (fun k => anneallaw8_WholeBack.j0 k true) true from Ev.step (fun k => by rw [anneallaw8_WholeBack.j0]) (Ev.now true))
  dsimp only
  rw [if_pos (by decide), if_pos (by decide), if_pos (by decide), if_pos (by rw [w64_id i (by omega) (by omega)]), if_pos rfl, if_pos (by decide), if_pos (by decide), beq_self_eq_true]
end Go.Proofs.Ytngkpekmgahjiaa.Pure
