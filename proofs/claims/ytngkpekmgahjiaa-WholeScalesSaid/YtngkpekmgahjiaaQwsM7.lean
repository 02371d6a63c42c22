import Derived.Test.YtngkpekmgahjiaaQwsM6
import Derived.Test.YtngkpekmgahjiaaQwsPackE
import Derived.Test.YtngkpekmgahjiaaQwsPx27
import Derived.Test.YtngkpekmgahjiaaQwsPx28
import Derived.Test.YtngkpekmgahjiaaQwsM5
import Derived.Test.YtngkpekmgahjiaaQwsM3
import Derived.Test.YtngkpekmgahjiaaQwsPx30
import Derived.Test.YtngkpekmgahjiaaQwsPx32
/- Numbers times powers of two: the program's, as plain numbers. -/
namespace Go.Proofs.Ytngkpekmgahjiaa.Round
open Go.RowKit Go.Proofs.Ytngkpekmgahjiaa.P Go.Proofs.Ytngkpekmgahjiaa.Num Go.Proofs.Ytngkpekmgahjiaa.BitsF Go.Proofs.Ytngkpekmgahjiaa.Fmt Go.Proofs.YtngkpekmgahjiaaW.PrintWords Go.Proofs.YtngkpekmgahjiaaW.PrintLast Go.Proofs.YtngkpekmgahjiaaW.PrintMore

def clampS (n : Int) : Int := mn (mx n (-5000)) 5000
theorem clampS_in (n : Int) : -5000 ≤ clampS n ∧ clampS n ≤ 5000 := by
  unfold clampS mn mx; split <;> split <;> omega
theorem clampS_id (n : Int) (h : -5000 ≤ n) (h' : n ≤ 5000) : clampS n = n := by
  unfold clampS mn mx; split <;> split <;> omega
def scaleN (f mode : Int) (v : Nat) (n : Int) : Nat :=
  if 4 ≤ clsN f v then nanN f else if clsN f v = 3 then lowN f v else packN f mode (negN f v) (lowestN f v + clampS n) (wholeN f v) false
def scaleX (f mode : Int) (v : Nat) (n : Int) : Bool × Bool × Bool × Bool × Bool :=
  if 4 ≤ clsN f v then (isLoud f v, false, false, false, false) else if clsN f v = 3 then (false, false, false, false, false) else (false, false, excN f mode (negN f v) (lowestN f v + clampS n) (wholeN f v) false)
theorem apart_ev (f : Int) (v : Nat) (hv : v < 4294967296) : Ev (fun k => whole_apart.f k f (v : Int))
    (if 4 ≤ clsN f v then ((nanN f : Int), isLoud f v, false, false, false, false, true) else ((lowN f v : Int), false, false, false, false, false, decide (clsN f v = 3 ∨ clsN f v = 0))) := by
  refine Ev.congr (fun k => by unfold whole_apart.f; rfl) (Ev.bind (pnans1_ev f v hv) ?_)
  by_cases c4 : 4 ≤ clsN f v
  · rw [if_pos c4]
    exact Ev.congr (fun k => by rw [if_pos (show isNan f v = true from decide_eq_true c4)]) (Ev.now _)
  · rw [if_neg c4]
    have n4 : ¬ isNan f v = true := by unfold isNan; simp; omega
    refine Ev.congr (fun k => by rw [if_neg n4, pmask_f, Option.bind_some, and_mask f v hv]) (Ev.bind (pinf_ev f v hv) ?_)
    by_cases c3 : clsN f v = 3
    · exact Ev.congr (fun k => by rw [if_pos (decide_eq_true c3), decide_eq_true (.inl c3)]) (Ev.now _)
    · refine Ev.congr (fun k => by rw [if_neg (by simp [c3])]) (Ev.bind (pzero_ev f v hv) (Ev.congr (fun k => ?_) (Ev.now _)))
      rw [show decide (clsN f v = 3 ∨ clsN f v = 0) = decide (clsN f v = 0) from decide_eq_decide.mpr (by omega)]
theorem scale_e (f : Int) (v : Nat) (n : Int) : wrap64 (lowestN f v + mn (mx n (-5000)) 5000) = lowestN f v + clampS n ∧ -10000 ≤ lowestN f v + clampS n ∧ lowestN f v + clampS n ≤ 10000 := by
  obtain ⟨l1, l2⟩ := lowest_near f v
  have := clampS_in n
  refine ⟨?_, by omega, by omega⟩
  show wrap64 (lowestN f v + clampS n) = _
  exact w64_id _ (by omega) (by omega)
theorem scale_ev (f mode : Int) (v : Nat) (n : Int) (hv : v < 4294967296) : Ev (fun k => whole_Scale.f k f mode (v : Int) n) ((scaleN f mode v n : Int), scaleX f mode v n) := by
  refine Ev.congr (fun k => by unfold whole_Scale.f; rfl) (Ev.bind (apart_ev f v hv) ?_)
  unfold scaleN scaleX
  by_cases c4 : 4 ≤ clsN f v
  · rw [if_pos c4, if_pos c4, if_pos c4]
    exact Ev.congr (fun k => by rw [if_pos rfl]) (Ev.now _)
  · rw [if_neg c4, if_neg c4, if_neg c4]
    by_cases c3 : clsN f v = 3
    · rw [if_pos c3, if_pos c3, decide_eq_true (.inl c3)]
      exact Ev.congr (fun k => by rw [if_pos rfl]) (Ev.now _)
    · rw [if_neg c3, if_neg c3]
      by_cases c0 : clsN f v = 0
      · obtain ⟨n1, n2⟩ := none_low f v c0
        obtain ⟨q1, q2⟩ := pack_none f mode (negN f v) (lowestN f v + clampS n)
        rw [decide_eq_true (.inr c0), n1, n2, q1, q2]
        exact Ev.congr (fun k => by rw [if_pos rfl]) (Ev.now _)
      · have hx := cls_exp f v (by omega)
        obtain ⟨e1, e2, e3⟩ := scale_e f v n
        have hp := packs_ev f mode (negN f v) (lowestN f v + clampS n) (wholeN f v) false (whole_64 f v)
        rw [clampE_id _ e2 e3] at hp
        rw [decide_eq_false (by omega)]
        exact Ev.congr (fun k => by rw [if_neg (show ¬ false = true by decide), of_f f v hv hx, Option.bind_some]; dsimp only; rw [e1]) (Ev.bind hp (Ev.now _))
end Go.Proofs.Ytngkpekmgahjiaa.Round

/- Amounts: what a number's bits without its sign stand for, in units of the least number; rounding depends on the amount alone. -/
namespace Go.Proofs.Ytngkpekmgahjiaa.Round
open Go.RowKit Go.Proofs.Ytngkpekmgahjiaa.P Go.Proofs.Ytngkpekmgahjiaa.Num Go.Proofs.Ytngkpekmgahjiaa.BitsF Go.Proofs.Ytngkpekmgahjiaa.Fmt Go.Proofs.YtngkpekmgahjiaaW.PrintWords Go.Proofs.YtngkpekmgahjiaaW.PrintLast Go.Proofs.YtngkpekmgahjiaaW.PrintMore

def magN (f : Int) (v : Nat) : Nat := v % 2 ^ (fe f + fm f)
/-- A number's amount, by its whole number. -/
theorem mag_parts (f : Int) (v : Nat) : magN f v / 2 ^ fm f = expN f v ∧ magN f v % 2 ^ fm f = fracN f v := by
  unfold magN expN fracN
  rw [Nat.add_comm (fe f), Nat.pow_add]
  exact ⟨Nat.mod_mul_right_div_self .., Nat.mod_mul_right_mod ..⟩
end Go.Proofs.Ytngkpekmgahjiaa.Round

/- Bits with a sign, beyond the greatest number: plain numbers alone (for rounds without chapter 9). -/
namespace Go.Proofs.Ytngkpekmgahjiaa.Round
open Go.RowKit Go.Proofs.Ytngkpekmgahjiaa.P Go.Proofs.Ytngkpekmgahjiaa.Num Go.Proofs.Ytngkpekmgahjiaa.BitsF Go.Proofs.Ytngkpekmgahjiaa.Fmt Go.Proofs.YtngkpekmgahjiaaW.PrintWords Go.Proofs.YtngkpekmgahjiaaW.PrintLast Go.Proofs.YtngkpekmgahjiaaW.PrintMore

def infK (f : Int) : Nat := topN f * 2 ^ fm f
theorem infK_lt (f : Int) : infK f < 2 ^ (fe f + fm f) ∧ 0 < infK f := by
  obtain ⟨_, hi⟩ := inf_lt f false
  have hp := Nat.two_pow_pos (fm f)
  have ht : 0 < topN f * 2 ^ fm f := Nat.mul_pos (by have := top_cases f; omega) hp
  unfold infK; omega
/-- Bits with a sign. -/
theorem sign_parts (f : Int) (P : Nat) (neg : Bool) (h : P < 2 ^ (fe f + fm f)) : negN f (P + signN f neg) = neg ∧ magN f (P + signN f neg) = P ∧ P + signN f neg < 2 ^ (fe f + fm f + 1) := by
  unfold negN magN signN
  have hp := Nat.two_pow_pos (fe f + fm f)
  cases neg
  · simp only [Bool.false_eq_true, if_false, Nat.add_zero]
    rw [Nat.div_eq_of_lt h, Nat.mod_eq_of_lt h, Nat.pow_succ]
    exact ⟨rfl, rfl, by omega⟩
  · simp only [if_true]
    rw [Nat.add_div_right _ hp, Nat.div_eq_of_lt h, Nat.add_mod_right, Nat.mod_eq_of_lt h, Nat.pow_succ]
    exact ⟨rfl, rfl, by omega⟩
end Go.Proofs.Ytngkpekmgahjiaa.Round

/- Numbers near one, drawn: plain numbers. -/
namespace Go.Proofs.Ytngkpekmgahjiaa.Round
open Go.RowKit Go.Proofs.Ytngkpekmgahjiaa.P Go.Proofs.Ytngkpekmgahjiaa.Num Go.Proofs.Ytngkpekmgahjiaa.BitsF Go.Proofs.Ytngkpekmgahjiaa.Fmt Go.Proofs.YtngkpekmgahjiaaW.PrintWords Go.Proofs.YtngkpekmgahjiaaW.PrintLast Go.Proofs.YtngkpekmgahjiaaW.PrintMore

/-- The exponent's bits of one. -/
def oneN (f : Int) : Nat := topN f / 2
theorem one_cases (f : Int) : fe f = 5 ∧ fm f = 10 ∧ oneN f = 15 ∧ leastN f = -14 ∧ topN f = 31 ∨ fe f = 8 ∧ fm f = 7 ∧ oneN f = 127 ∧ leastN f = -126 ∧ topN f = 255 ∨ fe f = 8 ∧ fm f = 23 ∧ oneN f = 127 ∧ leastN f = -126 ∧ topN f = 255 := by
  unfold oneN topN leastN
  rcases fcases f with ⟨h1, h2⟩ | ⟨h1, h2⟩ | ⟨h1, h2⟩ <;> rw [h1, h2] <;> simp
theorem mild_shl (f : Int) : shl .u32 4 (fm f : Int) = ((4 * 2 ^ fm f : Nat) : Int) ∧ shl .u32 2 (fm f : Int) = ((2 * 2 ^ fm f : Nat) : Int) ∧
    shl .u32 ((((shl .u32 1 (fe f : Int)) - 1) % 4294967296) / 2) (fm f : Int) = ((oneN f * 2 ^ fm f : Nat) : Int) := by
  rcases one_cases f with ⟨h1, h2, h3, _⟩ | ⟨h1, h2, h3, _⟩ | ⟨h1, h2, h3, _⟩ <;> rw [h1, h2, h3] <;> decide
theorem mild_range (f : Int) : 4 * 2 ^ fm f + oneN f * 2 ^ fm f < 2 ^ (fe f + fm f) ∧ 2 * 2 ^ fm f ≤ oneN f * 2 ^ fm f := by
  rcases one_cases f with ⟨h1, h2, h3, _⟩ | ⟨h1, h2, h3, _⟩ | ⟨h1, h2, h3, _⟩ <;> rw [h1, h2, h3] <;> decide
theorem mild_plain (O P a : Nat) (h : 2 * P ≤ O) (hO : O + 4 * P < 2147483648) (hP : 0 < P) : ((((O : Nat) : Int) - ((2 * P : Nat) : Int)) % 4294967296 + Int.tmod ((a : Int) / 8) ((4 * P : Nat) : Int)) % 4294967296 = ((O - 2 * P + a / 8 % (4 * P) : Nat) : Int) := by
  have e : Int.tmod ((a : Int) / 8) ((4 * P : Nat) : Int) = ((a / 8 % (4 * P) : Nat) : Int) := by
    rw [show (a : Int) / 8 = ((a / 8 : Nat) : Int) from rfl, Int.tmod_eq_emod_of_nonneg (Int.natCast_nonneg _)]; rfl
  have hm := Nat.mod_lt (a / 8) (show 4 * P > 0 by omega)
  rw [e]
  generalize a / 8 % (4 * P) = m at *
  omega
theorem or_sign (f : Int) (m : Nat) (h : m < 2 ^ (fe f + fm f)) : Go.bits .or .u32 (m : Int) (signN f true : Int) = ((m + signN f true : Nat) : Int) := by
  have hb := fbounds f
  have h31 := pow_le31 (show fe f + fm f ≤ 31 by omega)
  have hs : signN f true = 2 ^ (fe f + fm f) := rfl
  rw [or_u32 m _ (by omega) (by omega), Nat.or_comm, or_add _ _ (fe f + fm f) (by rw [hs, Nat.mod_self]) h, Nat.add_comm]
/-- Nought, or a number of either sign from a quarter to below four. -/
theorem mild_f (f : Int) (a : Nat) (ha : a < 4294967296) : ∃ m : Nat, ∃ neg : Bool, annealseat_Mild.f f (a : Int) = some ((m + signN f neg : Nat) : Int) ∧ (m = 0 ∧ neg = false ∨ (oneN f - 2) * 2 ^ fm f ≤ m ∧ m < (oneN f + 2) * 2 ^ fm f) := by
  unfold annealseat_Mild.f
  by_cases c : Int.tmod (a : Int) 7 = 0
  · rw [if_pos c]
    exact ⟨0, false, rfl, .inl ⟨rfl, rfl⟩⟩
  · rw [if_neg c, ref_widths_f, Option.bind_some]
    dsimp only
    obtain ⟨s1, s2, s3⟩ := mild_shl f
    obtain ⟨r1, r2⟩ := mild_range f
    have hb := fbounds f
    have h31 := pow_le31 (show fe f + fm f ≤ 31 by omega)
    have hp := Nat.two_pow_pos (fm f)
    rw [s1, s2, s3, if_pos (Int.natCast_nonneg _), if_pos (Int.natCast_nonneg _), if_neg (by omega), mild_plain _ _ _ r2 (by omega) hp]
    have hm := Nat.mod_lt (a / 8) (show 4 * 2 ^ fm f > 0 by omega)
    have h2 : (oneN f - 2) * 2 ^ fm f = oneN f * 2 ^ fm f - 2 * 2 ^ fm f := Nat.sub_mul _ _ _
    have h3 : (oneN f + 2) * 2 ^ fm f = oneN f * 2 ^ fm f + 2 * 2 ^ fm f := Nat.add_mul _ _ _
    generalize hM : oneN f * 2 ^ fm f - 2 * 2 ^ fm f + a / 8 % (4 * 2 ^ fm f) = m at *
    by_cases d : Go.bits .and .u32 (a : Int) 1 = 1
    · rw [if_pos d, ref_zero_f, Option.bind_some, or_sign f m (by omega)]
      exact ⟨m, true, rfl, .inr ⟨by omega, by omega⟩⟩
    · rw [if_neg d]
      exact ⟨m, false, rfl, .inr ⟨by omega, by omega⟩⟩
/-- The parts of such a number. -/
theorem mild_parts (f : Int) (m : Nat) (neg : Bool) (h1 : (oneN f - 2) * 2 ^ fm f ≤ m) (h2 : m < (oneN f + 2) * 2 ^ fm f) :
    negN f (m + signN f neg) = neg ∧ magN f (m + signN f neg) = m ∧ m + signN f neg < 2 ^ (fe f + fm f + 1) ∧ m + signN f neg < 4294967296 ∧ oneN f - 2 ≤ expN f (m + signN f neg) ∧ expN f (m + signN f neg) < oneN f + 2 ∧
    clsN f (m + signN f neg) = 2 ∧ wholeN f (m + signN f neg) = fracN f (m + signN f neg) + 2 ^ fm f ∧ m = expN f (m + signN f neg) * 2 ^ fm f + fracN f (m + signN f neg) := by
  obtain ⟨r1, r2⟩ := mild_range f
  have hb := fbounds f
  have h32 := pow_le32 (show fe f + fm f + 1 ≤ 32 by omega)
  have hp := Nat.two_pow_pos (fm f)
  have h3 : (oneN f + 2) * 2 ^ fm f = oneN f * 2 ^ fm f + 2 * 2 ^ fm f := Nat.add_mul _ _ _
  obtain ⟨p1, p2, p3⟩ := sign_parts f m neg (by omega)
  obtain ⟨q1, q2⟩ := mag_parts f (m + signN f neg)
  rw [p2] at q1 q2
  have e1 : oneN f - 2 ≤ m / 2 ^ fm f := (Nat.le_div_iff_mul_le hp).mpr h1
  have e2 : m / 2 ^ fm f < oneN f + 2 := (Nat.div_lt_iff_lt_mul hp).mpr h2
  have hd := Nat.div_add_mod m (2 ^ fm f)
  rw [q1, q2, Nat.mul_comm] at hd
  rw [q1] at e1 e2
  have hc : oneN f = 15 ∧ topN f = 31 ∨ oneN f = 127 ∧ topN f = 255 := by
    rcases one_cases f with ⟨_, _, h3, _, h4⟩ | ⟨_, _, h3, _, h4⟩ | ⟨_, _, h3, _, h4⟩ <;> omega
  refine ⟨p1, p2, p3, by omega, e1, e2, ?_, ?_, hd.symm⟩
  · unfold clsN; rw [if_neg (by omega), if_pos (by omega)]
  · unfold wholeN; rw [if_neg (by omega)]
end Go.Proofs.Ytngkpekmgahjiaa.Round

/- Normal numbers times powers of two, and what is lost at the ends: plain numbers. -/
namespace Go.Proofs.Ytngkpekmgahjiaa.Round
open Go.RowKit Go.Proofs.Ytngkpekmgahjiaa.P Go.Proofs.Ytngkpekmgahjiaa.Num Go.Proofs.Ytngkpekmgahjiaa.BitsF Go.Proofs.Ytngkpekmgahjiaa.Fmt Go.Proofs.YtngkpekmgahjiaaW.PrintWords Go.Proofs.YtngkpekmgahjiaaW.PrintLast Go.Proofs.YtngkpekmgahjiaaW.PrintMore

theorem norm_lt (f : Int) (e r : Nat) (h : e < topN f) (hr : r < 2 ^ fm f) : e * 2 ^ fm f + r < infK f := by
  have := Nat.mul_le_mul_right (2 ^ fm f) (show e + 1 ≤ topN f from h)
  rw [Nat.add_mul] at this
  unfold infK; omega
/-- A normal number's parts, by its exponent's bits and its fraction. -/
theorem norm_parts (f : Int) (neg : Bool) (e r : Nat) (h0 : 1 ≤ e) (h1 : e < topN f) (hr : r < 2 ^ fm f) :
    negN f (e * 2 ^ fm f + r + signN f neg) = neg ∧ magN f (e * 2 ^ fm f + r + signN f neg) = e * 2 ^ fm f + r ∧ e * 2 ^ fm f + r + signN f neg < 2 ^ (fe f + fm f + 1) ∧ e * 2 ^ fm f + r + signN f neg < 4294967296 ∧
    expN f (e * 2 ^ fm f + r + signN f neg) = e ∧ fracN f (e * 2 ^ fm f + r + signN f neg) = r ∧ clsN f (e * 2 ^ fm f + r + signN f neg) = 2 ∧ wholeN f (e * 2 ^ fm f + r + signN f neg) = r + 2 ^ fm f ∧
    lowestN f (e * 2 ^ fm f + r + signN f neg) = leastN f - fm f + ((e - 1 : Nat) : Int) := by
  have hl := norm_lt f e r h1 hr
  have hi := (infK_lt f).1
  have hb := fbounds f
  have h32 := pow_le32 (show fe f + fm f + 1 ≤ 32 by omega)
  have hp := Nat.two_pow_pos (fm f)
  obtain ⟨p1, p2, p3⟩ := sign_parts f (e * 2 ^ fm f + r) neg (by omega)
  obtain ⟨q1, q2⟩ := mag_parts f (e * 2 ^ fm f + r + signN f neg)
  rw [p2, Nat.mul_comm, Nat.mul_add_div hp, Nat.div_eq_of_lt hr, Nat.add_zero, Nat.mul_comm] at q1
  rw [p2, Nat.mul_comm, Nat.mul_add_mod, Nat.mod_eq_of_lt hr, Nat.mul_comm] at q2
  refine ⟨p1, p2, p3, by omega, q1.symm, q2.symm, ?_, ?_, ?_⟩
  · unfold clsN; rw [← q1, if_neg (by omega), if_pos h1]
  · unfold wholeN; rw [← q1, ← q2, if_neg (by omega)]
  · unfold lowestN; rw [← q1]
theorem scale_norm (f mode : Int) (neg : Bool) (e e' r : Nat) (h0 : 1 ≤ e) (h1 : e < topN f) (h0' : 1 ≤ e') (h1' : e' < topN f) (hr : r < 2 ^ fm f) (n : Int) (hn : n = (e' : Int) - e) :
    scaleN f mode (e * 2 ^ fm f + r + signN f neg) n = e' * 2 ^ fm f + r + signN f neg ∧ scaleX f mode (e * 2 ^ fm f + r + signN f neg) n = (false, false, false, false, false) := by
  obtain ⟨p1, p2, p3, p4, p5, p6, p7, p8, p9⟩ := norm_parts f neg e r h0 h1 hr
  have ht := top_cases f
  have hl := norm_lt f e' r h1' hr
  have hs : 2 ^ (fm f + 1) = 2 * 2 ^ fm f := by rw [Nat.pow_succ, Nat.mul_comm]
  have hk : (e' - 1) * 2 ^ fm f + (r + 2 ^ fm f) = e' * 2 ^ fm f + r := by
    have : e' * 2 ^ fm f = (e' - 1) * 2 ^ fm f + 2 ^ fm f := by rw [← Nat.succ_mul]; congr 1; omega
    omega
  obtain ⟨x1, x2⟩ := exact_pack f mode neg (r + 2 ^ fm f) 0 (e' - 1) (by omega) (.inr (by omega)) (by unfold infK at hl; omega)
  rw [hk] at x1
  rw [Nat.pow_zero, Nat.mul_one, show leastN f - (fm f : Int) + ((e' - 1 : Nat) : Int) - ((0 : Nat) : Int) = leastN f - fm f + ((e - 1 : Nat) : Int) + clampS n by rw [clampS_id n (by omega) (by omega)]; omega] at x1 x2
  unfold scaleN scaleX
  rw [p7, p1, p8, p9, if_neg (by decide), if_neg (by decide), if_neg (by decide), if_neg (by decide), x1, x2]
  exact ⟨rfl, rfl⟩
/-- Far above all. -/
theorem scale_over (f : Int) (neg : Bool) (e r : Nat) (h0 : 1 ≤ e) (h1 : e < topN f) (hr : r < 2 ^ fm f) :
    scaleN f 0 (e * 2 ^ fm f + r + signN f neg) 4000 = infN f neg ∧ scaleX f 0 (e * 2 ^ fm f + r + signN f neg) 4000 = (false, false, true, false, true) := by
  obtain ⟨p1, p2, p3, p4, p5, p6, p7, p8, p9⟩ := norm_parts f neg e r h0 h1 hr
  have ht := top_cases f
  have hb := fbounds f
  have hp := Nat.two_pow_pos (fm f)
  have hc : clampS 4000 = 4000 := by decide
  have hrise : topN f ≤ riseN f (leastN f - fm f + ((e - 1 : Nat) : Int) + 4000) (r + 2 ^ fm f) := by
    unfold riseN; rw [if_neg (by omega)]; omega
  have hk : topN f * 2 ^ fm f ≤ keyN f 0 neg (leastN f - fm f + ((e - 1 : Nat) : Int) + 4000) (r + 2 ^ fm f) false := by
    have := Nat.mul_le_mul_right (2 ^ fm f) hrise
    unfold keyN; omega
  have ho : overN f (keyN f 0 neg (leastN f - fm f + ((e - 1 : Nat) : Int) + 4000) (r + 2 ^ fm f) false) = true := decide_eq_true hk
  unfold scaleN scaleX packN excN
  rw [p7, p1, p8, p9, hc, ho]
  simp [infN, endless]
/-- Far below all. -/
theorem scale_under (f : Int) (neg : Bool) (e r : Nat) (h0 : 1 ≤ e) (h1 : e < topN f) (hr : r < 2 ^ fm f) :
    scaleN f 0 (e * 2 ^ fm f + r + signN f neg) (-4000) = signN f neg ∧ scaleX f 0 (e * 2 ^ fm f + r + signN f neg) (-4000) = (false, false, false, true, true) := by
  obtain ⟨p1, p2, p3, p4, p5, p6, p7, p8, p9⟩ := norm_parts f neg e r h0 h1 hr
  have ht := top_cases f
  have hb := fbounds f
  have hp := Nat.two_pow_pos (fm f)
  have hs : 2 ^ (fm f + 1) = 2 * 2 ^ fm f := by rw [Nat.pow_succ, Nat.mul_comm]
  have hc : clampS (-4000) = -4000 := by decide
  have hlen := lenN_bound (r + 2 ^ fm f) (fm f + 1) (by omega)
  have hrise : riseN f (leastN f - fm f + ((e - 1 : Nat) : Int) + -4000) (r + 2 ^ fm f) = 0 := by
    unfold riseN; rw [if_neg (by omega)]; omega
  have hu : unitN f (leastN f - fm f + ((e - 1 : Nat) : Int) + -4000) (r + 2 ^ fm f) - (leastN f - fm f + ((e - 1 : Nat) : Int) + -4000) = ((4001 - e : Nat) : Int) := by
    unfold unitN; rw [hrise]; omega
  have hbig : r + 2 ^ fm f < 2 ^ (4001 - e - 1) := by
    have : 2 ^ (fm f + 1) ≤ 2 ^ (4001 - e - 1) := Nat.pow_le_pow_right (by decide) (by omega)
    omega
  have hbig' : r + 2 ^ fm f < 2 ^ (4001 - e) := Nat.lt_of_lt_of_le hbig (Nat.pow_le_pow_right (by decide) (by omega))
  have hq : quoN (r + 2 ^ fm f) ((4001 - e : Nat) : Int) = 0 := by
    unfold quoN; rw [if_neg (by omega), Int.toNat_natCast, Nat.div_eq_of_lt hbig']
  have hl : leftN (r + 2 ^ fm f) ((4001 - e : Nat) : Int) false = 1 := by
    unfold leftN
    rw [Int.toNat_natCast, Nat.mod_eq_of_lt hbig', Nat.div_eq_of_lt hbig, if_neg (by omega), if_pos (by decide)]
  have hk : keyN f 0 neg (leastN f - fm f + ((e - 1 : Nat) : Int) + -4000) (r + 2 ^ fm f) false = 0 := by
    unfold keyN; rw [hu, hq, hl, hrise]; simp [upN]
  have hi := (infK_lt f).2
  have ho : overN f 0 = false := by unfold overN; rw [decide_eq_false_iff_not]; unfold infK at hi; omega
  have hin : inexN f (leastN f - fm f + ((e - 1 : Nat) : Int) + -4000) (r + 2 ^ fm f) false = true := by unfold inexN; rw [hu, hl]; rfl
  have hun : underN f (leastN f - fm f + ((e - 1 : Nat) : Int) + -4000) (r + 2 ^ fm f) false = true := by
    unfold underN; rw [hin, show decide (leastN f - (fm f : Int) + ((e - 1 : Nat) : Int) + -4000 + (lenN (r + 2 ^ fm f) : Int) - 1 < leastN f) = true from decide_eq_true (by omega), Bool.or_true]; rfl
  unfold scaleN scaleX packN excN
  rw [p7, p1, p8, p9, hc, hk, ho, hin, hun, if_neg (by decide), if_neg (by decide), if_neg (by decide), if_neg (by decide), if_neg (by decide), if_neg (by decide)]
  exact ⟨by omega, rfl⟩
theorem zero_parts (f : Int) : clsN f 0 = 0 ∧ negN f 0 = false ∧ wholeN f 0 = 0 ∧ signN f false = 0 := by
  refine ⟨?_, ?_, ?_, rfl⟩
  · unfold clsN expN fracN; simp
  · unfold negN; simp
  · unfold wholeN expN fracN; simp
theorem scale_zero (f mode n : Int) : scaleN f mode 0 n = 0 := by
  obtain ⟨z1, z2, z3, z4⟩ := zero_parts f
  unfold scaleN
  rw [z1, z2, z3, if_neg (by decide), if_neg (by decide), (pack_none _ _ _ _).1, z4]
/-- The sign alone. -/
theorem and_sign (f : Int) (v : Nat) (hv : v < 4294967296) : Go.bits .and .u32 (v : Int) (signN f true : Int) = (signN f (negN f v) : Int) := by
  have hb := fbounds f
  have h31 := pow_le31 (show fe f + fm f ≤ 31 by omega)
  have hs : signN f true = 2 ^ (fe f + fm f) := rfl
  rw [and_u32 v _ hv (by omega), hs]
  congr 1
  apply Nat.eq_of_testBit_eq
  intro i
  rw [Nat.testBit_and, Nat.testBit_two_pow]
  unfold signN negN
  by_cases e : fe f + fm f = i
  · subst e
    rw [Nat.testBit_eq_decide_div_mod_eq]
    by_cases c : v / 2 ^ (fe f + fm f) % 2 = 1
    · rw [decide_eq_true c, if_pos rfl, Nat.testBit_two_pow]; simp
    · rw [decide_eq_false c, if_neg (by decide)]; simp
  · rw [decide_eq_false e, Bool.and_false]
    split
    · rw [Nat.testBit_two_pow, decide_eq_false e]
    · simp
end Go.Proofs.Ytngkpekmgahjiaa.Round

/- The reference's loops of layer 1: how many bits, shifts. -/
namespace Go.Proofs.Ytngkpekmgahjiaa.BitsF
open Go.RowKit Go.Proofs.Ytngkpekmgahjiaa.P Go.Proofs.Ytngkpekmgahjiaa.Num Go.Proofs.YtngkpekmgahjiaaW.PrintWords Go.Proofs.YtngkpekmgahjiaaW.PrintLast Go.Proofs.YtngkpekmgahjiaaW.PrintMore

/-! ### the reference's loops -/
end Go.Proofs.Ytngkpekmgahjiaa.BitsF

/- What the reference's rounding computes: the same plain numbers. -/
namespace Go.Proofs.Ytngkpekmgahjiaa.Round
open Go.RowKit Go.Proofs.Ytngkpekmgahjiaa.P Go.Proofs.Ytngkpekmgahjiaa.Num Go.Proofs.Ytngkpekmgahjiaa.BitsF Go.Proofs.Ytngkpekmgahjiaa.Fmt Go.Proofs.YtngkpekmgahjiaaW.PrintWords Go.Proofs.YtngkpekmgahjiaaW.PrintLast Go.Proofs.YtngkpekmgahjiaaW.PrintMore

end Go.Proofs.Ytngkpekmgahjiaa.Round

/- The reference's rounding computes the same numbers as the program's. -/
namespace Go.Proofs.Ytngkpekmgahjiaa.Round
open Go.RowKit Go.Proofs.Ytngkpekmgahjiaa.P Go.Proofs.Ytngkpekmgahjiaa.Num Go.Proofs.Ytngkpekmgahjiaa.BitsF Go.Proofs.Ytngkpekmgahjiaa.Fmt Go.Proofs.YtngkpekmgahjiaaW.PrintWords Go.Proofs.YtngkpekmgahjiaaW.PrintLast Go.Proofs.YtngkpekmgahjiaaW.PrintMore

/-- A sign beside an amount. -/
theorem sign_or (f : Int) (neg : Bool) (v : Nat) (h : v < 2 ^ (fe f + fm f)) : Go.bits .or .u32 (signN f neg : Int) (v : Int) = ((v + signN f neg : Nat) : Int) ∧ v + signN f neg < 4294967296 := by
  obtain ⟨b1, b2, b3, b4, b5⟩ := fbounds f
  have h31 := pow_le31 b5
  unfold signN
  cases neg
  · simp only [Bool.false_eq_true, if_false]
    rw [or_u32 _ _ (by omega) (by omega), Nat.zero_or, Nat.add_zero]; exact ⟨rfl, by omega⟩
  · simp only [if_true]
    rw [or_u32 _ _ (by omega) (by omega), or_add _ _ (fe f + fm f) (by simp) h, Nat.add_comm]; exact ⟨rfl, by omega⟩
end Go.Proofs.Ytngkpekmgahjiaa.Round

/- WholeScales: scaling by powers adds up where nothing is lost, and what is lost at the ends, for every number near one of each format, each two powers from 0 to 4. -/
namespace Go.Proofs.Ytngkpekmgahjiaa.Pure
open Go.RowKit Go.Proofs.Ytngkpekmgahjiaa.P Go.Proofs.Ytngkpekmgahjiaa.Num Go.Proofs.Ytngkpekmgahjiaa.BitsF Go.Proofs.Ytngkpekmgahjiaa.Fmt Go.Proofs.Ytngkpekmgahjiaa.Round Go.Proofs.YtngkpekmgahjiaaW.PrintWords Go.Proofs.YtngkpekmgahjiaaW.PrintLast Go.Proofs.YtngkpekmgahjiaaW.PrintMore
theorem known8_ev : Ev (fun k => anneallaw8_known.f k) true := Ev.of anneallaw8_known.mono (k := 60) (by kernel_rfl)
theorem form8_f (c : Nat) : ∃ f : Int, anneallaw8_form.f (c : Int) = some f := by
  have e := Int.tmod_eq_emod_of_nonneg (b := 3) (Int.natCast_nonneg c)
  unfold anneallaw8_form.f
  rw [Option.bind_some, e]
  have h : (c : Int) % 3 = 0 ∨ (c : Int) % 3 = 1 ∨ (c : Int) % 3 = 2 := by omega
  rcases h with h | h | h <;> rw [h] <;> exact ⟨_, rfl⟩
theorem tmod_nat (n m : Nat) (hm : m < 1000) (h0 : 0 < m) : wrap64 (Int.tmod (n : Int) (m : Int)) = ((n % m : Nat) : Int) := by
  rw [Int.tmod_eq_emod_of_nonneg (Int.natCast_nonneg n)]
  have := Nat.mod_lt n h0
  rw [w64_id _ (by omega) (by omega)]; rfl
theorem scales (f : Int) (x i j : Nat) (neg : Bool) (m : Nat) (hi : i < 5) (hj : j < 5) (hx : x = m + signN f neg) (h : (oneN f - 2) * 2 ^ fm f ≤ m ∧ m < (oneN f + 2) * 2 ^ fm f) :
    ∃ p q : Nat, p < 4294967296 ∧ x ≠ 0 ∧ x < 4294967296 ∧ negN f x = neg ∧ scaleN f 0 x (i : Int) = p ∧ scaleX f 0 x (i : Int) = (false, false, false, false, false) ∧ scaleN f 0 p (j : Int) = q ∧ scaleX f 0 p (j : Int) = (false, false, false, false, false) ∧
    scaleN f 0 x ((i + j : Nat) : Int) = q ∧ scaleX f 0 x ((i + j : Nat) : Int) = (false, false, false, false, false) ∧ scaleN f 0 x 4000 = infN f neg ∧ scaleX f 0 x 4000 = (false, false, true, false, true) ∧ scaleN f 0 x (-4000) = signN f neg ∧ scaleX f 0 x (-4000) = (false, false, false, true, true) := by
  obtain ⟨_, _, _, _, m5, m6, _, _, m9⟩ := mild_parts f m neg h.1 h.2
  have hr := frac_lt f (m + signN f neg)
  generalize expN f (m + signN f neg) = e at *
  generalize fracN f (m + signN f neg) = r at *
  have hc : oneN f = 15 ∧ topN f = 31 ∨ oneN f = 127 ∧ topN f = 255 := by
    rcases one_cases f with ⟨_, _, h3, _, h4⟩ | ⟨_, _, h3, _, h4⟩ | ⟨_, _, h3, _, h4⟩ <;> omega
  subst m9
  subst hx
  obtain ⟨a1, a2⟩ := scale_norm f 0 neg e (e + i) r (by omega) (by omega) (by omega) (by omega) hr (i : Int) (by omega)
  obtain ⟨b1, b2⟩ := scale_norm f 0 neg (e + i) (e + i + j) r (by omega) (by omega) (by omega) (by omega) hr (j : Int) (by omega)
  obtain ⟨c1, c2⟩ := scale_norm f 0 neg e (e + i + j) r (by omega) (by omega) (by omega) (by omega) hr ((i + j : Nat) : Int) (by omega)
  obtain ⟨d1, d2⟩ := scale_over f neg e r (by omega) (by omega) hr
  obtain ⟨u1, u2⟩ := scale_under f neg e r (by omega) (by omega) hr
  obtain ⟨n1, n2, n3, n4, _⟩ := norm_parts f neg e r (by omega) (by omega) hr
  obtain ⟨_, _, _, o4, _⟩ := norm_parts f neg (e + i) r (by omega) (by omega) hr
  have hp := Nat.two_pow_pos (fm f)
  have hpos := Nat.mul_le_mul_right (2 ^ fm f) (show 1 ≤ e by omega)
  exact ⟨_, _, o4, by omega, n4, n1, a1, a2, b1, b2, c1, c2, d1, d2, u1, u2⟩
theorem WholeScales : anneallaw8_WholeScales.Pure := by
  intro a0 a1 a2 a3 h0 h1 h2 h3
  obtain ⟨p0, q0⟩ := wf_u8 h0
  obtain ⟨p1, q1⟩ := wf_u32 h1
  obtain ⟨p2, q2⟩ := wf_u8 h2
  obtain ⟨p3, q3⟩ := wf_u8 h3
  obtain ⟨c, rfl⟩ := nat_of p0
  obtain ⟨a, rfl⟩ := nat_of p1
  obtain ⟨n, rfl⟩ := nat_of p2
  obtain ⟨l, rfl⟩ := nat_of p3
  obtain ⟨f, ff⟩ := form8_f c
  obtain ⟨m, neg, hm, hmr⟩ := mild_f f a (by omega)
  have ei := tmod_nat n 5 (by decide) (by decide)
  have ej := tmod_nat l 5 (by decide) (by decide)
  have hi := Nat.mod_lt n (show 5 > 0 by decide)
  have hj := Nat.mod_lt l (show 5 > 0 by decide)
  apply Ev.rounds
  unfold anneallaw8_WholeScales.f
  refine Ev.bind known8_ev ?_
  refine Ev.congr (fun k => by rw [if_pos rfl, ff, Option.bind_some, hm, Option.bind_some, show (5 : Int) = ((5 : Nat) : Int) from rfl, ei, ej]) ?_
  generalize n % 5 = i at *
  generalize l % 5 = j at *
  have eij : wrap64 ((i : Int) + (j : Int)) = ((i + j : Nat) : Int) := by rw [w64_id _ (by omega) (by omega)]; omega
  rw [eij]
  generalize hx : m + signN f neg = x at *
  rcases hmr with ⟨rfl, rfl⟩ | hmr
  · obtain rfl : x = 0 := by rw [← hx]; rfl
    have s := fun n : Int => scale_ev f 0 0 n (by decide)
    simp only [scale_zero] at s
    refine Ev.bind (s _) (Ev.bind (s _) (Ev.bind (s _) (Ev.bind (s _) (Ev.bind (s _) ?_))))
    refine Ev.congr (fun k => ?_) (show Ev (fun k => anneallaw8_WholeScales.j0 k true) true from Ev.step (fun k => by rw [anneallaw8_WholeScales.j0]) (Ev.now true))
    dsimp only
    rw [if_pos (by rfl), if_pos (by rfl), if_pos (by rfl)]; rfl
  · obtain ⟨p, q, pv, x0, xv, xn, r1, r2, r3, r4, r5, r6, r7, r8, r9, r10⟩ := scales f x i j neg m hi hj hx.symm hmr
    have t1 := scale_ev f 0 x (i : Int) xv
    have t2 := scale_ev f 0 p (j : Int) pv
    have t3 := scale_ev f 0 x ((i + j : Nat) : Int) xv
    have t4 := scale_ev f 0 x 4000 xv
    have t5 := scale_ev f 0 x (-4000) xv
    rw [r1, r2] at t1
    rw [r3, r4] at t2
    rw [r5, r6] at t3
    rw [r7, r8] at t4
    rw [r9, r10] at t5
    refine Ev.bind t1 (Ev.bind t2 (Ev.bind t3 (Ev.bind t4 (Ev.bind t5 ?_))))
    refine Ev.congr (fun k => ?_) (show Ev (fun k => anneallaw8_WholeScales.j1 k true) true from Ev.step (fun k => by rw [anneallaw8_WholeScales.j1]) (Ev.now true))
    have hs := (sign_or f neg (topN f * 2 ^ fm f) (infK_lt f).1).1
    have hi : (infN f false : Int) = ((topN f * 2 ^ fm f : Nat) : Int) := by unfold infN; rfl
    dsimp only
    rw [if_neg (show ¬ ((x : Nat) : Int) = 0 by omega), ref_zero_f, Option.bind_some, if_pos rfl, if_pos (by decide), if_pos (by decide), if_pos (by decide), ref_inf_f, Option.bind_some, and_sign f x xv, xn, hi, hs, if_pos (by rfl), if_pos (by decide), if_pos rfl]
    rfl
end Go.Proofs.Ytngkpekmgahjiaa.Pure
