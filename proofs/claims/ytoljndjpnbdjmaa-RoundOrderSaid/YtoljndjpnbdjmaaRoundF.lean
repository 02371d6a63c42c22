/- What the program's rounding computes, as plain numbers. -/
import Derived.Test.YtoljndjpnbdjmaaFmt
import Derived.Test.YtoljndjpnbdjmaaPx3
import Derived.Test.YtoljndjpnbdjmaaPx4
import Derived.Test.YtoljndjpnbdjmaaPx5
import Derived.Test.YtoljndjpnbdjmaaPx7
namespace Go.Proofs.Ytoljndjpnbdjmaa.Round
open Go.RowKit Go.Proofs.Ytoljndjpnbdjmaa.P Go.Proofs.Ytoljndjpnbdjmaa.Num Go.Proofs.Ytoljndjpnbdjmaa.BitsF Go.Proofs.Ytoljndjpnbdjmaa.Fmt Go.Proofs.YtoljndjpnbdjmaaW.PrintWords Go.Proofs.YtoljndjpnbdjmaaW.PrintLast Go.Proofs.YtoljndjpnbdjmaaW.PrintMore

/-- Whole units of 2^d of a number times 1 (d below nought: more of them). -/
def quoN (s : Nat) (d : Int) : Nat := if d ≤ 0 then s * 2 ^ (-d).toNat else s / 2 ^ d.toNat
/-- What is left: 0 nothing, 1 less than a half, 2 a half, 3 more. -/
def leftN (s : Nat) (d : Int) (more : Bool) : Nat :=
  if d ≤ 0 ∨ s % 2 ^ d.toNat = 0 then (if more then 1 else 0)
  else if s / 2 ^ (d.toNat - 1) % 2 = 0 then 1 else if s % 2 ^ (d.toNat - 1) ≠ 0 ∨ more = true then 3 else 2
/-- Is the unit above taken? -/
def upN (mode : Int) (neg : Bool) (q left : Nat) : Bool :=
  if mode = 1 then false else if mode = 2 then (!neg && decide (left ≠ 0)) else if mode = 3 then (neg && decide (left ≠ 0))
  else if mode = 4 then decide (2 ≤ left) else (decide (left = 3) || (decide (left = 2) && decide (q % 2 = 1)))
/-- How many binades above the least normal one. -/
def riseN (f : Int) (x : Int) (s : Nat) : Nat := if s = 0 then 0 else (x + lenN s - 1 - leastN f).toNat
/-- The exponent of the unit. -/
def unitN (f : Int) (x : Int) (s : Nat) : Int := leastN f - fm f + riseN f x s
/-- The rounded number's bits, without its sign, as if there were exponents without end. -/
def keyN (f mode : Int) (neg : Bool) (x : Int) (s : Nat) (more : Bool) : Nat :=
  riseN f x s * 2 ^ fm f + quoN s (unitN f x s - x) + (if upN mode neg (quoN s (unitN f x s - x)) (leftN s (unitN f x s - x) more) then 1 else 0)
def overN (f : Int) (k : Nat) : Bool := decide (topN f * 2 ^ fm f ≤ k)
/-- Beyond the greatest: is it infinite? -/
def endless (mode : Int) (neg : Bool) : Bool := if mode = 1 then false else if mode = 2 then !neg else if mode = 3 then neg else true
def inexN (f : Int) (x : Int) (s : Nat) (more : Bool) : Bool := decide (leftN s (unitN f x s - x) more ≠ 0)
def underN (f : Int) (x : Int) (s : Nat) (more : Bool) : Bool := inexN f x s more && (decide (s = 0) || decide (x + lenN s - 1 < leastN f))
/-- The rounded number. -/
def packN (f mode : Int) (neg : Bool) (x : Int) (s : Nat) (more : Bool) : Nat :=
  (if overN f (keyN f mode neg x s more) then (if endless mode neg then topN f * 2 ^ fm f else topN f * 2 ^ fm f - 1) else keyN f mode neg x s more) + signN f neg
/-- What is told beside it: Over, Under, Inexact. -/
def excN (f mode : Int) (neg : Bool) (x : Int) (s : Nat) (more : Bool) : Bool × Bool × Bool :=
  if overN f (keyN f mode neg x s more) then (true, false, true) else (false, underN f x s more, inexN f x s more)
def clampE (x : Int) : Int := mn (mx x (-10000)) 10000
theorem clampE_bounds (x : Int) : -10000 ≤ clampE x ∧ clampE x ≤ 10000 := by
  unfold clampE mn mx; split <;> split <;> omega
theorem clampE_id (x : Int) (h : -10000 ≤ x) (h' : x ≤ 10000) : clampE x = x := by
  unfold clampE mn mx; split <;> split <;> omega

theorem unit_f (k : Nat) (f x : Int) (s : Nat) (hs : s < 18446744073709551616) (h1 : -10000 ≤ x) (h2 : x ≤ 10000) : round_Unit.f (k + 1) f x (s : Int) = some (unitN f x s) := by
  unfold round_Unit.f unitN riseN
  obtain ⟨b1, b2, b3, b4, b5⟩ := fbounds f
  have hl := least_cases f
  have hn := lenN_small s hs
  simp only [widths_f, least_f, Option.bind_some]
  by_cases c : s = 0
  · subst c
    rw [if_neg (by decide), if_pos rfl, w64_id _ (by omega) (by omega)]; simp
  · rw [if_pos (by omega), if_neg c, len_f k s hs]
    simp only [Option.bind_some]
    rw [w64_id (x + _) (by omega) (by omega), w64_id (x + _ - 1) (by omega) (by omega)]
    unfold mx
    split
    · rw [w64_id _ (by omega) (by omega)]; congr 1; omega
    · rw [w64_id _ (by omega) (by omega)]; congr 1; omega
theorem quo_lt (s : Nat) (d : Int) (h : d ≤ 0) (h' : s * 2 ^ (-d).toNat < 18446744073709551616) : s * 2 ^ (-d).toNat % 18446744073709551616 = quoN s d := by
  unfold quoN; rw [if_pos h, Nat.mod_eq_of_lt h']
theorem left_le (s : Nat) (d : Int) (more : Bool) : leftN s d more ≤ 3 := by
  unfold leftN; split
  · split <;> omega
  · split
    · omega
    · split <;> omega
theorem shiftN_fst (v : Nat) (n : Int) : (shiftN v n).1 = if 0 ≤ n then v / 2 ^ n.toNat else v * 2 ^ (-n).toNat % 18446744073709551616 := by
  unfold shiftN; split <;> rfl
theorem left_none {s : Nat} {d : Int} (more : Bool) (h : d ≤ 0 ∨ s % 2 ^ d.toNat = 0) : leftN s d more = if more then 1 else 0 := by
  unfold leftN; rw [if_pos h]
theorem left_some {s : Nat} {d : Int} (more : Bool) (h : ¬ d ≤ 0) (h' : ¬ s % 2 ^ d.toNat = 0) :
    leftN s d more = if s / 2 ^ (d.toNat - 1) % 2 = 0 then 1 else if s % 2 ^ (d.toNat - 1) ≠ 0 ∨ more = true then 3 else 2 := by
  unfold leftN; rw [if_neg (not_or.mpr ⟨h, h'⟩)]
theorem units_f (k : Nat) (s : Nat) (hs : s < 18446744073709551616) (d : Int) (h1 : -100000 ≤ d) (h2 : d ≤ 100000) (more : Bool) (hq : d ≤ 0 → s * 2 ^ (-d).toNat < 18446744073709551616) :
    round_Units.f (k + 1) (s : Int) d more = some ((quoN s d : Int), (leftN s d more : Int)) := by
  unfold round_Units.f
  by_cases c : d ≤ 0
  · rw [if_pos c, shift_f s hs d (by omega) (by omega)]
    have e : (shiftN s d).1 = quoN s d := by
      rw [shiftN_fst]
      by_cases c0 : 0 ≤ d
      · obtain rfl : d = 0 := by omega
        unfold quoN; simp
      · rw [if_neg c0]; exact quo_lt s d c (hq c)
    simp only [Option.bind_some, e]
    rw [left_none more (.inl c)]
    cases more <;> rfl
  · rw [if_neg c]
    obtain ⟨m, rfl⟩ := nat_of (show 0 ≤ d by omega)
    have hm : (m : Int) - 1 = ((m - 1 : Nat) : Int) := by omega
    rw [shift_f s hs _ (by omega) (by omega), w64_id _ (by omega) (by omega), hm, shift_f s hs _ (by omega) (by omega)]
    simp only [Option.bind_some, shiftN_right]
    have hqe : quoN s (m : Int) = s / 2 ^ m := by unfold quoN; rw [if_neg c, Int.toNat_natCast]
    have hd : s / 2 ^ (m - 1) < 18446744073709551616 := Nat.lt_of_le_of_lt (Nat.div_le_self _ _) hs
    rw [hqe]
    by_cases z : s % 2 ^ m = 0
    · have hl : leftN s (m : Int) more = if more then 1 else 0 := left_none more (.inr (by rw [Int.toNat_natCast]; exact z))
      rw [hl, if_neg (by simp [z])]
      cases more <;> rfl
    · have hl : leftN s (m : Int) more = _ := left_some more c (by rw [Int.toNat_natCast]; exact z)
      rw [Int.toNat_natCast] at hl
      rw [hl, if_pos (by simp [z]), and1_u64 _ hd]
      by_cases y : s / 2 ^ (m - 1) % 2 = 0
      · simp only [y, if_true, Int.natCast_zero]; rfl
      · simp only [y, if_false]
        rw [if_neg (by omega)]
        by_cases w : s % 2 ^ (m - 1) = 0
        · simp only [w, ne_eq, not_true_eq_false, decide_false, Bool.false_eq_true, if_false, false_or]
          cases more <;> rfl
        · simp only [w, ne_eq, not_false_eq_true, decide_true, if_true, true_or]; rfl
theorem up_f (mode : Int) (neg : Bool) (q left : Nat) (hq : q < 18446744073709551616) : round_Up.f mode neg (q : Int) (left : Int) = some (upN mode neg q left) := by
  unfold round_Up.f upN
  have eb : (((left : Int) != 0) : Bool) = decide (left ≠ 0) := by rw [show (0 : Int) = ((0 : Nat) : Int) from rfl, bne_cast]
  have e1 : ((Go.bits .and .u64 (q : Int) 1 == 1) : Bool) = decide (q % 2 = 1) := by
    rw [and1_u64 q hq, show (1 : Int) = ((1 : Nat) : Int) from rfl]
    by_cases h : q % 2 = 1
    · rw [h]; rfl
    · rw [decide_eq_false h, beq_eq_false_iff_ne]; omega
  rw [eb, e1]
  by_cases m1 : mode = 1
  · rw [if_pos m1, if_pos m1]
  · rw [if_neg m1, if_neg m1]
    by_cases m2 : mode = 2
    · rw [if_pos m2, if_pos m2]; cases neg <;> simp
    · rw [if_neg m2, if_neg m2]
      by_cases m3 : mode = 3
      · rw [if_pos m3, if_pos m3]; cases neg <;> simp
      · rw [if_neg m3, if_neg m3]
        by_cases m4 : mode = 4
        · rw [if_pos m4, if_pos m4]; congr 1; apply decide_eq_decide.mpr; omega
        · rw [if_neg m4, if_neg m4]
          by_cases l3 : left = 3
          · subst l3; rfl
          · rw [if_neg (by omega), decide_eq_false l3, Bool.false_or]
            by_cases l2 : left = 2
            · subst l2; simp
            · rw [if_neg (by omega), decide_eq_false l2, Bool.false_and]
theorem beyond_f (f mode : Int) (neg : Bool) : round_beyond.f f mode neg = some (((if endless mode neg then infN f neg else greatN f neg : Nat) : Int), false, false, true, false, true) := by
  unfold round_beyond.f endless
  simp only [greatest_f, inf_f, Option.bind_some]
  by_cases m1 : mode = 1
  · rw [if_pos m1, if_pos m1]; rfl
  · rw [if_neg m1, if_neg m1]
    by_cases m2 : mode = 2
    · rw [if_pos m2, if_pos m2]; cases neg <;> rfl
    · rw [if_neg m2, if_neg m2]
      by_cases m3 : mode = 3
      · rw [if_pos m3, if_pos m3]; cases neg <;> rfl
      · rw [if_neg m3, if_neg m3]; rfl

/-- Below the least normal number there are fewer units than a normal number has; above, as many. -/
theorem quo_bounds (f x : Int) (s : Nat) : quoN s (unitN f x s - x) < 2 ^ (fm f + 1) ∧ (riseN f x s ≠ 0 → 2 ^ fm f ≤ quoN s (unitN f x s - x)) := by
  obtain ⟨b1, b2, b3, b4, b5⟩ := fbounds f
  by_cases c : s = 0
  · subst c
    have : riseN f x 0 = 0 := by unfold riseN; rw [if_pos rfl]
    refine ⟨?_, fun h => absurd this h⟩
    have h0 := Nat.two_pow_pos (fm f + 1)
    unfold quoN; split <;> simp [h0]
  · have hlt := lenN_lt s
    have hle := lenN_le s c
    have hpos := lenN_pos s c
    have hr : riseN f x s = (x + lenN s - 1 - leastN f).toNat := by unfold riseN; rw [if_neg c]
    unfold unitN quoN
    generalize lenN s = L at *
    by_cases d : leastN f - (fm f : Int) + (riseN f x s : Int) - x ≤ 0
    · rw [if_pos d]
      obtain ⟨j, hj⟩ := nat_of (show 0 ≤ -(leastN f - (fm f : Int) + (riseN f x s : Int) - x) by omega)
      rw [hj, Int.toNat_natCast]
      have hjL : L + j ≤ fm f + 1 := by omega
      constructor
      · calc s * 2 ^ j < 2 ^ L * 2 ^ j := Nat.mul_lt_mul_of_pos_right hlt (Nat.two_pow_pos _)
          _ = 2 ^ (L + j) := (Nat.pow_add ..).symm
          _ ≤ 2 ^ (fm f + 1) := Nat.pow_le_pow_right (by decide) hjL
      · intro h
        calc 2 ^ fm f = 2 ^ (L - 1) * 2 ^ j := by rw [← Nat.pow_add]; congr 1; omega
          _ ≤ s * 2 ^ j := Nat.mul_le_mul_right _ hle
    · rw [if_neg d]
      obtain ⟨j, hj⟩ := nat_of (show 0 ≤ leastN f - (fm f : Int) + (riseN f x s : Int) - x by omega)
      rw [hj, Int.toNat_natCast]
      constructor
      · rw [Nat.div_lt_iff_lt_mul (Nat.two_pow_pos _), ← Nat.pow_add]
        exact Nat.lt_of_lt_of_le hlt (Nat.pow_le_pow_right (by decide) (by omega))
      · intro h
        rw [Nat.le_div_iff_mul_le (Nat.two_pow_pos _), ← Nat.pow_add]
        exact Nat.le_trans (Nat.pow_le_pow_right (by decide) (by omega)) hle
theorem unit_bounds (f x : Int) (s : Nat) (hs : s < 18446744073709551616) (h1 : -10000 ≤ x) (h2 : x ≤ 10000) : -200 ≤ unitN f x s ∧ unitN f x s ≤ 10100 ∧ riseN f x s ≤ 10200 := by
  obtain ⟨b1, b2, b3, b4, b5⟩ := fbounds f
  have hl := least_cases f
  have hn := lenN_small s hs
  unfold unitN
  have hr : riseN f x s = 0 ∨ (riseN f x s : Int) = x + lenN s - 1 - leastN f := by
    unfold riseN; split
    · left; rfl
    · omega
  omega
theorem exc_cast (l : Nat) : (((l : Int) != 0) : Bool) = decide (l ≠ 0) := by rw [show (0 : Int) = ((0 : Nat) : Int) from rfl, bne_cast]

/-- The last steps: what is made of units, of how many a normal number has. -/
theorem pack_j3 (k : Nat) (f mode : Int) (neg : Bool) (x : Int) (s q l a : Nat) (hs : s < 18446744073709551616) (hq : q < 18446744073709551616) (h1 : -10000 ≤ x) (h2 : x ≤ 10000) (K : Nat)
    (hK : K = a * 2 ^ fm f + q % 2 ^ fm f) :
    round_Pack.j3 (k + 2) f mode neg x (s : Int) (fm f : Int) (q : Int) (l : Int) (a : Int) = some
      ((((if overN f K then (if endless mode neg then topN f * 2 ^ fm f else topN f * 2 ^ fm f - 1) else K) + signN f neg : Nat) : Int), false, false,
        overN f K, !overN f K && (decide (l ≠ 0) && (decide (s = 0) || decide (x + lenN s - 1 < leastN f))), overN f K || decide (l ≠ 0)) := by
  obtain ⟨b1, b2, b3, b4, b5⟩ := fbounds f
  have hp := Nat.two_pow_pos (fm f)
  have hm : q % 2 ^ fm f < 2 ^ fm f := Nat.mod_lt _ hp
  have h31 := pow_le31 (show fm f ≤ 31 by omega)
  have ho : (a : Int) ≥ (topN f : Int) ↔ overN f K = true := by
    unfold overN
    rw [decide_eq_true_iff, hK]
    constructor
    · intro h
      have : topN f * 2 ^ fm f ≤ a * 2 ^ fm f := Nat.mul_le_mul_right _ (by omega)
      omega
    · intro h
      rcases Nat.lt_or_ge a (topN f) with c | c
      · have : (a + 1) * 2 ^ fm f ≤ topN f * 2 ^ fm f := Nat.mul_le_mul_right _ c
        rw [Nat.add_mul, Nat.one_mul] at this; omega
      · omega
  rw [round_Pack.j3, top_f]
  simp only [Option.bind_some]
  by_cases c : (a : Int) ≥ (topN f : Int)
  · rw [if_pos c, beyond_f, ho.mp c]
    simp only [Option.bind_some, if_true, Bool.not_true, Bool.false_and, Bool.true_or]
    congr 2
    unfold infN greatN
    split <;> rfl
  · rw [if_neg c]
    have co : overN f K = false := by simpa using fun h => c (ho.mpr h)
    have ec : bits_Cut.f (q : Int) (fm f : Int) = some ((q % 2 ^ fm f : Nat) : Int) := by
      rw [cut_f q hq _ (by omega)]; unfold cutN; rw [if_neg (by omega), Int.toNat_natCast]
    have ej : format_Join.f f neg (a : Int) (((q % 2 ^ fm f : Nat) : Int) % 4294967296) = some ((K + signN f neg : Nat) : Int) := by
      rw [show ((q % 2 ^ fm f : Nat) : Int) % 4294967296 = ((q % 2 ^ fm f : Nat) : Int) by omega, join_f f neg _ _ (by omega) hm, hK]; rfl
    rw [co, ec]
    simp only [Option.bind_some, ej, Bool.false_eq_true, if_false, Bool.not_false, Bool.true_and, Bool.false_or, exc_cast]
    by_cases l0 : l = 0
    · subst l0; simp
    · rw [if_neg (by omega)]
      by_cases s0 : s = 0
      · subst s0; simp [l0]
      · have hn := lenN_small s hs
        rw [if_neg (by omega), len_f (k) s hs, least_f]
        simp only [Option.bind_some]
        rw [w64_id (x + _) (by omega) (by omega), w64_id _ (by omega) (by omega)]
        simp [l0, s0]
theorem pack_j1 (k : Nat) (f mode : Int) (neg : Bool) (x : Int) (s q l : Nat) (U : Nat) (hU : U ≤ 10200) (hs : s < 18446744073709551616) (hq : q ≤ 2 ^ (fm f + 1)) (hq' : U ≠ 0 → 2 ^ fm f ≤ q) (h1 : -10000 ≤ x) (h2 : x ≤ 10000) (K : Nat)
    (hK : K = U * 2 ^ fm f + q) :
    round_Pack.j1 (k + 4) f mode neg x (s : Int) (fm f : Int) (leastN f - fm f + U) (q : Int) (l : Int) = some
      ((((if overN f K then (if endless mode neg then topN f * 2 ^ fm f else topN f * 2 ^ fm f - 1) else K) + signN f neg : Nat) : Int), false, false,
        overN f K, !overN f K && (decide (l ≠ 0) && (decide (s = 0) || decide (x + lenN s - 1 < leastN f))), overN f K || decide (l ≠ 0)) := by
  obtain ⟨b1, b2, b3, b4, b5⟩ := fbounds f
  have hl := least_cases f
  have hp := Nat.two_pow_pos (fm f)
  have h31 := pow_le31 (show fm f + 1 ≤ 31 by omega)
  have hq64 : q < 18446744073709551616 := by omega
  have e1 : wrap64 ((fm f : Int) + 1) = ((fm f + 1 : Nat) : Int) := by rw [w64_id] <;> omega
  have hsucc : 2 ^ (fm f + 1) = 2 * 2 ^ fm f := by rw [Nat.pow_succ, Nat.mul_comm]
  rw [round_Pack.j1, e1, u64_id _ (by omega), if_pos (by omega), shr_u64 _ _ hq64]
  by_cases c : q = 2 ^ (fm f + 1)
  · have hd : q / 2 ^ (fm f + 1) = 1 := by rw [c, Nat.div_self (by omega)]
    rw [hd, if_neg (by decide), w64_id _ (by omega) (by omega), show (q : Int) / 2 = ((2 ^ fm f : Nat) : Int) by omega, round_Pack.j2, least_f]
    simp only [Option.bind_some]
    rw [u64_id _ (by omega), if_pos (by omega), shr_u64 _ _ (by omega), Nat.div_self hp, if_neg (by decide)]
    rw [show leastN f - (fm f : Int) + (U : Int) + 1 + (fm f : Int) = leastN f + (U : Int) + 1 by omega, w64_id (leastN f + (U : Int) + 1) (by omega) (by omega), w64_id (leastN f + (U : Int) + 1 - leastN f) (by omega) (by omega), w64_id _ (by omega) (by omega), show leastN f + (U : Int) + 1 - leastN f + 1 = ((U + 2 : Nat) : Int) by omega]
    exact pack_j3 k f mode neg x s _ l (U + 2) hs (by omega) h1 h2 K (by rw [hK, c, hsucc, Nat.mod_self, Nat.add_mul]; omega)
  · have hd : q / 2 ^ (fm f + 1) = 0 := Nat.div_eq_of_lt (by omega)
    rw [hd, if_pos (by decide), round_Pack.j2, least_f]
    simp only [Option.bind_some]
    rw [u64_id _ (by omega), if_pos (by omega), shr_u64 _ _ hq64]
    by_cases c2 : q < 2 ^ fm f
    · have hU0 : U = 0 := by
        rcases Nat.eq_zero_or_pos U with h | h
        · exact h
        · have := hq' (by omega); omega
      subst hU0
      rw [Nat.div_eq_of_lt c2, if_pos (by decide)]
      have h := pack_j3 k f mode neg x s q l 0 hs hq64 h1 h2 K (by rw [hK, Nat.mod_eq_of_lt c2])
      rw [show ((0 : Nat) : Int) = 0 from rfl] at h
      exact h
    · have hd1 : q / 2 ^ fm f = 1 := Nat.div_eq_of_lt_le (by omega) (by omega)
      rw [hd1, if_neg (by decide)]
      rw [show leastN f - (fm f : Int) + (U : Int) + (fm f : Int) = leastN f + (U : Int) by omega, w64_id (leastN f + (U : Int)) (by omega) (by omega), w64_id (leastN f + (U : Int) - leastN f) (by omega) (by omega), w64_id _ (by omega) (by omega), show leastN f + (U : Int) - leastN f + 1 = ((U + 1 : Nat) : Int) by omega]
      have hm1 : q % 2 ^ fm f = q - 2 ^ fm f := by
        have := Nat.div_add_mod q (2 ^ fm f)
        rw [hd1, Nat.mul_one] at this; omega
      exact pack_j3 k f mode neg x s q l (U + 1) hs hq64 h1 h2 K (by rw [hK, hm1, Nat.add_mul]; omega)
/-- The whole rounding, for every argument. -/
theorem pack_f (k : Nat) (f mode : Int) (neg : Bool) (x : Int) (s : Nat) (more : Bool) (hs : s < 18446744073709551616) :
    round_Pack.f (k + 5) f mode neg x (s : Int) more = some ((packN f mode neg (clampE x) s more : Int), false, false, excN f mode neg (clampE x) s more) := by
  unfold round_Pack.f
  have hc : mn (mx x (-10000)) 10000 = clampE x := rfl
  obtain ⟨h1, h2⟩ := clampE_bounds x
  rw [hc]
  generalize clampE x = x at *
  by_cases z : s = 0 ∧ more = false
  · obtain ⟨rfl, rfl⟩ := z
    rw [if_pos (by decide), round_Pack.j0]
    simp only [Bool.not_false, if_true]
    rw [zero_f]
    have hk : keyN f mode neg x 0 false = 0 := by
      unfold keyN
      have hr : riseN f x 0 = 0 := by unfold riseN; rw [if_pos rfl]
      have hq : quoN 0 (unitN f x 0 - x) = 0 := by unfold quoN; split <;> simp
      have hl : leftN 0 (unitN f x 0 - x) false = 0 := by rw [left_none _ (.inr (by simp))]; rfl
      rw [hr, hq, hl]
      have : upN mode neg 0 0 = false := by unfold upN; simp
      rw [this]; simp
    have hl : leftN 0 (unitN f x 0 - x) false = 0 := by rw [left_none _ (.inr (by simp))]; rfl
    have ho : overN f 0 = false := by
      unfold overN
      have := top_cases f
      have := Nat.two_pow_pos (fm f)
      rw [decide_eq_false_iff_not]
      have : 0 < topN f * 2 ^ fm f := Nat.mul_pos (by omega) (by omega)
      omega
    unfold packN excN underN inexN
    rw [hk, ho, hl]; simp
  · have hj : (if (s : Int) = 0 then round_Pack.j0 (k + 5) f mode neg x (s : Int) more (!more) else round_Pack.j0 (k + 5) f mode neg x (s : Int) more false) = round_Pack.j0 (k + 5) f mode neg x (s : Int) more false := by
      by_cases c : (s : Int) = 0
      · rw [if_pos c]
        cases more
        · exact absurd ⟨by omega, rfl⟩ z
        · rfl
      · rw [if_neg c]
    rw [hj, round_Pack.j0, if_neg (by decide), widths_f]
    obtain ⟨u1, u2, u3⟩ := unit_bounds f x s hs h1 h2
    obtain ⟨q1, q2⟩ := quo_bounds f x s
    obtain ⟨b1, b2, b3, b4, b5⟩ := fbounds f
    have h31 := pow_le31 (show fm f + 1 ≤ 31 by omega)
    have hll := left_le s (unitN f x s - x) more
    have hq64 : quoN s (unitN f x s - x) < 18446744073709551616 := by omega
    have hd : unitN f x s - x ≤ 0 → s * 2 ^ (-(unitN f x s - x)).toNat < 18446744073709551616 := by
      intro h; have := hq64; unfold quoN at this; rw [if_pos h] at this; exact this
    simp only [Option.bind_some]
    rw [unit_f _ f x s hs h1 h2]
    simp only [Option.bind_some]
    rw [w64_id _ (by omega) (by omega), units_f _ s hs _ (by omega) (by omega) more hd]
    simp only [Option.bind_some]
    rw [up_f _ _ _ _ hq64]
    simp only [Option.bind_some]
    have hun : unitN f x s = leastN f - fm f + (riseN f x s : Nat) := rfl
    have key : ∀ up : Bool, round_Pack.j1 (k + 4) f mode neg x (s : Int) (fm f : Int) (unitN f x s) ((quoN s (unitN f x s - x) + (if up then 1 else 0) : Nat) : Int) (leftN s (unitN f x s - x) more : Int) = _ :=
      fun up => pack_j1 k f mode neg x s _ _ (riseN f x s) u3 hs (by split <;> omega) (fun h => Nat.le_trans (q2 h) (Nat.le_add_right _ _)) h1 h2 _ rfl
    have res : ∀ up : Bool, up = upN mode neg (quoN s (unitN f x s - x)) (leftN s (unitN f x s - x) more) → round_Pack.j1 (k + 4) f mode neg x (s : Int) (fm f : Int) (unitN f x s) ((quoN s (unitN f x s - x) + (if up then 1 else 0) : Nat) : Int) (leftN s (unitN f x s - x) more : Int) = some ((packN f mode neg x s more : Int), false, false, excN f mode neg x s more) := by
      intro up hup
      rw [key up]
      subst hup
      unfold packN excN underN inexN keyN
      rw [← Nat.add_assoc]
      by_cases o : overN f (riseN f x s * 2 ^ fm f + quoN s (unitN f x s - x) + if upN mode neg (quoN s (unitN f x s - x)) (leftN s (unitN f x s - x) more) = true then 1 else 0) = true
      · rw [o]; simp
      · rw [Bool.not_eq_true] at o; rw [o]; simp
    by_cases hu : upN mode neg (quoN s (unitN f x s - x)) (leftN s (unitN f x s - x) more) = true
    · rw [if_pos hu]
      have h := res true hu.symm
      rw [if_pos rfl] at h
      rw [show ((quoN s (unitN f x s - x) : Nat) : Int) + 1 = ((quoN s (unitN f x s - x) + 1 : Nat) : Int) by omega, u64_id _ (by omega)]
      exact h
    · rw [if_neg hu]
      rw [Bool.not_eq_true] at hu
      have h := res false hu.symm
      rw [if_neg (by decide), Nat.add_zero] at h
      exact h
end Go.Proofs.Ytoljndjpnbdjmaa.Round
