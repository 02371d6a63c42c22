import Derived.Test.YtfapjegkilljnaaGreatQotM8
import Derived.Test.YtfapjegkilljnaaGreatQotM6
import Derived.Test.YtfapjegkilljnaaGreatQotM5
import Derived.Test.YtfapjegkilljnaaGreatQotM7
/- What the program's rounding computes, as plain numbers. -/
set_option linter.unusedVariables false
set_option linter.unusedSimpArgs false
namespace Go.Proofs.YtfapjegkilljnaaGreat.Round
open Go.RowKit Go.Proofs.YtfapjegkilljnaaGreat.P Go.Proofs.YtfapjegkilljnaaGreat.Num Go.Proofs.YtfapjegkilljnaaGreat.BitsF Go.Proofs.YtfapjegkilljnaaGreat.Fmt Go.Proofs.YtfapjegkilljnaaGreatW.PrintWords Go.Proofs.YtfapjegkilljnaaGreatW.PrintLast Go.Proofs.YtfapjegkilljnaaGreatW.PrintMore

def jA (s : Nat) (d : Int) : Nat := if d ≤ 0 then s * 2 ^ (-d).toNat else s / 2 ^ d.toNat
def fT (s : Nat) (d : Int) (more : Bool) : Nat :=
 if d ≤ 0 ∨ s % 2 ^ d.toNat = 0 then (if more then 1 else 0)
 else if s / 2 ^ (d.toNat - 1) % 2 = 0 then 1 else if s % 2 ^ (d.toNat - 1) ≠ 0 ∨ more = true then 3 else 2
def upN (mode : Int) (neg : Bool) (q left : Nat) : Bool :=
 if mode = 1 then false else if mode = 2 then (!neg && decide (left ≠ 0)) else if mode = 3 then (neg && decide (left ≠ 0))
 else if mode = 4 then decide (2 ≤ left) else (decide (left = 3) || (decide (left = 2) && decide (q % 2 = 1)))
def iM (f x : Int) (s : Nat) : Nat := if s = 0 then 0 else (x + fK s - 1 - dL f).toNat
def dP (f x : Int) (s : Nat) : Int := dL f - fm f + iM f x s
def uM (f mode : Int) (neg : Bool) (x : Int) (s : Nat) (more : Bool) : Nat :=
 iM f x s * 2 ^ fm f + jA s (dP f x s - x) + (if upN mode neg (jA s (dP f x s - x)) (fT s (dP f x s - x) more) then 1 else 0)
def jM (f : Int) (k : Nat) : Bool := decide (gY f * 2 ^ fm f ≤ k)
def jU (mode : Int) (neg : Bool) : Bool := if mode = 1 then false else if mode = 2 then !neg else if mode = 3 then neg else true
def lT (f x : Int) (s : Nat) (more : Bool) : Bool := decide (fT s (dP f x s - x) more ≠ 0)
def nA (f x : Int) (s : Nat) (more : Bool) : Bool := lT f x s more && (decide (s = 0) || decide (x + fK s - 1 < dL f))
def fI (f mode : Int) (neg : Bool) (x : Int) (s : Nat) (more : Bool) : Nat :=
 (if jM f (uM f mode neg x s more) then (if jU mode neg then gY f * 2 ^ fm f else gY f * 2 ^ fm f - 1) else uM f mode neg x s more) + eP f neg
def kY (f mode : Int) (neg : Bool) (x : Int) (s : Nat) (more : Bool) : Bool × Bool × Bool :=
 if jM f (uM f mode neg x s more) then (true, false, true) else (false, nA f x s more, lT f x s more)
def lG (x : Int) : Int := mn (mx x (-10000)) 10000
theorem pK (x : Int) : -10000 ≤ lG x ∧ lG x ≤ 10000 := by
 unfold lG mn mx; split <;> split <;> omega
theorem iF (x : Int) (h : -10000 ≤ x) (h' : x ≤ 10000) : lG x = x := by
 unfold lG mn mx; split <;> split <;> omega

theorem unit_f (k : Nat) (f x : Int) (s : Nat) (hs : s < 18446744073709551616) (h1 : -10000 ≤ x) (h2 : x ≤ 10000) : dG.f (k + 1) f x (s : Int) = some (dP f x s) := by
 unfold dG.f dP iM
 obtain ⟨b1, b2, b3, b4, b5⟩ := dN f
 have hl := iC f
 have hn := nY s hs
 simp only [iT, qE, Option.bind_some]
 by_cases c : s = 0
 ·subst c
  rw [if_neg (by decide), if_pos rfl, bW _ (by omega) (by omega)]; simp
 ·rw [if_pos (by omega), if_neg c, len_f k s hs]
  simp only [Option.bind_some]
  rw [bW (x + _) (by omega) (by omega), bW (x + _ - 1) (by omega) (by omega)]
  unfold mx
  split
  ·rw [bW _ (by omega) (by omega)]; congr 1; omega
  ·rw [bW _ (by omega) (by omega)]; congr 1; omega
theorem quo_lt (s : Nat) (d : Int) (h : d ≤ 0) (h' : s * 2 ^ (-d).toNat < 18446744073709551616) : s * 2 ^ (-d).toNat % 18446744073709551616 = jA s d := by
 unfold jA; rw [if_pos h, Nat.mod_eq_of_lt h']
theorem yI (s : Nat) (d : Int) (more : Bool) : fT s d more ≤ 3 := by
 unfold fT; split
 ·split <;> omega
 ·split
  ·omega
  ·split <;> omega
theorem aAF (v : Nat) (n : Int) : (lN v n).1 = if 0 ≤ n then v / 2 ^ n.toNat else v * 2 ^ (-n).toNat % 18446744073709551616 := by
 unfold lN; split <;> rfl
theorem iP {s : Nat} {d : Int} (more : Bool) (h : d ≤ 0 ∨ s % 2 ^ d.toNat = 0) : fT s d more = if more then 1 else 0 := by
 unfold fT; rw [if_pos h]
theorem l8 {s : Nat} {d : Int} (more : Bool) (h : ¬ d ≤ 0) (h' : ¬ s % 2 ^ d.toNat = 0) :
  fT s d more = if s / 2 ^ (d.toNat - 1) % 2 = 0 then 1 else if s % 2 ^ (d.toNat - 1) ≠ 0 ∨ more = true then 3 else 2 := by
 unfold fT; rw [if_neg (not_or.mpr ⟨h, h'⟩)]
theorem units_f (k s : Nat) (hs : s < 18446744073709551616) (d : Int) (h1 : -100000 ≤ d) (h2 : d ≤ 100000) (more : Bool) (hq : d ≤ 0 → s * 2 ^ (-d).toNat < 18446744073709551616) :
  cZ.f (k + 1) (s : Int) d more = some ((jA s d : Int), (fT s d more : Int)) := by
 unfold cZ.f
 by_cases c : d ≤ 0
 ·rw [if_pos c, vI s hs d (by omega) (by omega)]
  have e : (lN s d).1 = jA s d := by
   rw [aAF]
   by_cases c0 : 0 ≤ d
   ·obtain rfl : d = 0 := by omega
    unfold jA; simp
   ·rw [if_neg c0]; exact quo_lt s d c (hq c)
  simp only [Option.bind_some, e]
  rw [iP more (.inl c)]
  cases more <;> rfl
 ·rw [if_neg c]
  obtain ⟨m, rfl⟩ := lU (show 0 ≤ d by omega)
  have hm : (m : Int) - 1 = ((m - 1 : Nat) : Int) := by omega
  rw [vI s hs _ (by omega) (by omega), bW _ (by omega) (by omega), hm, vI s hs _ (by omega) (by omega)]
  simp only [Option.bind_some, jD]
  have hqe : jA s (m : Int) = s / 2 ^ m := by unfold jA; rw [if_neg c, Int.toNat_natCast]
  have hd : s / 2 ^ (m - 1) < 18446744073709551616 := Nat.lt_of_le_of_lt (Nat.div_le_self _ _) hs
  rw [hqe]
  by_cases z : s % 2 ^ m = 0
  ·have hl : fT s (m : Int) more = if more then 1 else 0 := iP more (.inr (by rw [Int.toNat_natCast]; exact z))
   rw [hl, if_neg (by simp [z])]
   cases more <;> rfl
  ·have hl : fT s (m : Int) more = _ := l8 more c (by rw [Int.toNat_natCast]; exact z)
   rw [Int.toNat_natCast] at hl
   rw [hl, if_pos (by simp [z]), o8 _ hd]
   by_cases y : s / 2 ^ (m - 1) % 2 = 0
   ·simp only [y, if_true, Int.natCast_zero]; rfl
   ·simp only [y, if_false]
    rw [if_neg (by omega)]
    by_cases w : s % 2 ^ (m - 1) = 0
    ·simp only [w, ne_eq, not_true_eq_false, decide_false, Bool.false_eq_true, if_false, false_or]
     cases more <;> rfl
    ·simp only [w, ne_eq, not_false_eq_true, decide_true, if_true, true_or]; rfl
theorem up_f (mode : Int) (neg : Bool) (q left : Nat) (hq : q < 18446744073709551616) : iL.f mode neg (q : Int) (left : Int) = some (upN mode neg q left) := by
 unfold iL.f upN
 have eb : (((left : Int) != 0) : Bool) = decide (left ≠ 0) := by rw [show (0 : Int) = ((0 : Nat) : Int) from rfl, bne_cast]
 have e1 : ((Go.bits .and .u64 (q : Int) 1 == 1) : Bool) = decide (q % 2 = 1) := by
  rw [o8 q hq, show (1 : Int) = ((1 : Nat) : Int) from rfl]
  by_cases h : q % 2 = 1
  ·rw [h]; rfl
  ·rw [decide_eq_false h, beq_eq_false_iff_ne]; omega
 rw [eb, e1]
 by_cases m1 : mode = 1
 ·rw [if_pos m1, if_pos m1]
 ·rw [if_neg m1, if_neg m1]
  by_cases m2 : mode = 2
  ·rw [if_pos m2, if_pos m2]; cases neg <;> simp
  ·rw [if_neg m2, if_neg m2]
   by_cases m3 : mode = 3
   ·rw [if_pos m3, if_pos m3]; cases neg <;> simp
   ·rw [if_neg m3, if_neg m3]
    by_cases m4 : mode = 4
    ·rw [if_pos m4, if_pos m4]; congr 1; apply decide_eq_decide.mpr; omega
    ·rw [if_neg m4, if_neg m4]
     by_cases l3 : left = 3
     ·subst l3; rfl
     ·rw [if_neg (by omega), decide_eq_false l3, Bool.false_or]
      by_cases l2 : left = 2
      ·subst l2; simp
      ·rw [if_neg (by omega), decide_eq_false l2, Bool.false_and]
theorem beyond_f (f mode : Int) (neg : Bool) : bY.f f mode neg = some (((if jU mode neg then nG f neg else pI f neg : Nat) : Int), false, false, true, false, true) := by
 unfold bY.f jU
 simp only [aAJ, yE, Option.bind_some]
 by_cases m1 : mode = 1
 ·rw [if_pos m1, if_pos m1]; rfl
 ·rw [if_neg m1, if_neg m1]
  by_cases m2 : mode = 2
  ·rw [if_pos m2, if_pos m2]; cases neg <;> rfl
  ·rw [if_neg m2, if_neg m2]
   by_cases m3 : mode = 3
   ·rw [if_pos m3, if_pos m3]; cases neg <;> rfl
   ·rw [if_neg m3, if_neg m3]; rfl

theorem uJ (f x : Int) (s : Nat) : jA s (dP f x s - x) < 2 ^ (fm f + 1) ∧ (iM f x s ≠ 0 → 2 ^ fm f ≤ jA s (dP f x s - x)) := by
 obtain ⟨b1, b2, b3, b4, b5⟩ := dN f
 by_cases c : s = 0
 ·subst c
  have : iM f x 0 = 0 := by unfold iM; rw [if_pos rfl]
  refine ⟨?_, fun h => absurd this h⟩
  have h0 := Nat.two_pow_pos (fm f + 1)
  unfold jA; split <;> simp [h0]
 ·have hlt := lF s
  have hle := qI s c
  have hpos := kS s c
  have hr : iM f x s = (x + fK s - 1 - dL f).toNat := by unfold iM; rw [if_neg c]
  unfold dP jA
  generalize fK s = L at *
  by_cases d : dL f - (fm f : Int) + (iM f x s : Int) - x ≤ 0
  ·rw [if_pos d]
   obtain ⟨j, hj⟩ := lU (show 0 ≤ -(dL f - (fm f : Int) + (iM f x s : Int) - x) by omega)
   rw [hj, Int.toNat_natCast]
   have hjL : L + j ≤ fm f + 1 := by omega
   constructor
   ·calc s * 2 ^ j < 2 ^ L * 2 ^ j := Nat.mul_lt_mul_of_pos_right hlt (Nat.two_pow_pos _)
     _ = 2 ^ (L + j) := (Nat.pow_add ..).symm
     _ ≤ 2 ^ (fm f + 1) := Nat.pow_le_pow_right (by decide) hjL
   ·intro h
    calc 2 ^ fm f = 2 ^ (L - 1) * 2 ^ j := by rw [← Nat.pow_add]; congr 1; omega
     _ ≤ s * 2 ^ j := Nat.mul_le_mul_right _ hle
  ·rw [if_neg d]
   obtain ⟨j, hj⟩ := lU (show 0 ≤ dL f - (fm f : Int) + (iM f x s : Int) - x by omega)
   rw [hj, Int.toNat_natCast]
   constructor
   ·rw [Nat.div_lt_iff_lt_mul (Nat.two_pow_pos _), ← Nat.pow_add]
    exact Nat.lt_of_lt_of_le hlt (Nat.pow_le_pow_right (by decide) (by omega))
   ·intro h
    rw [Nat.le_div_iff_mul_le (Nat.two_pow_pos _), ← Nat.pow_add]
    exact Nat.le_trans (Nat.pow_le_pow_right (by decide) (by omega)) hle
theorem tN (f x : Int) (s : Nat) (hs : s < 18446744073709551616) (h1 : -10000 ≤ x) (h2 : x ≤ 10000) : -200 ≤ dP f x s ∧ dP f x s ≤ 10100 ∧ iM f x s ≤ 10200 := by
 obtain ⟨b1, b2, b3, b4, b5⟩ := dN f
 have hl := iC f
 have hn := nY s hs
 unfold dP
 have hr : iM f x s = 0 ∨ (iM f x s : Int) = x + fK s - 1 - dL f := by
  unfold iM; split
  ·left; rfl
  ·omega
 omega
theorem exc_cast (l : Nat) : (((l : Int) != 0) : Bool) = decide (l ≠ 0) := by rw [show (0 : Int) = ((0 : Nat) : Int) from rfl, bne_cast]

theorem yQ (k : Nat) (f mode : Int) (neg : Bool) (x : Int) (s q l a : Nat) (hs : s < 18446744073709551616) (hq : q < 18446744073709551616) (h1 : -10000 ≤ x) (h2 : x ≤ 10000) (K : Nat)
  (hK : K = a * 2 ^ fm f + q % 2 ^ fm f) :
  aC.j3 (k + 2) f mode neg x (s : Int) (fm f : Int) (q : Int) (l : Int) (a : Int) = some
   ((((if jM f K then (if jU mode neg then gY f * 2 ^ fm f else gY f * 2 ^ fm f - 1) else K) + eP f neg : Nat) : Int), false, false,
    jM f K, !jM f K && (decide (l ≠ 0) && (decide (s = 0) || decide (x + fK s - 1 < dL f))), jM f K || decide (l ≠ 0)) := by
 obtain ⟨b1, b2, b3, b4, b5⟩ := dN f
 have hp := Nat.two_pow_pos (fm f)
 have hm : q % 2 ^ fm f < 2 ^ fm f := Nat.mod_lt _ hp
 have h31 := dU (show fm f ≤ 31 by omega)
 have ho : (a : Int) ≥ (gY f : Int) ↔ jM f K = true := by
  unfold jM
  rw [decide_eq_true_iff, hK]
  constructor
  ·intro h
   have : gY f * 2 ^ fm f ≤ a * 2 ^ fm f := Nat.mul_le_mul_right _ (by omega)
   omega
  ·intro h
   rcases Nat.lt_or_ge a (gY f) with c | c
   ·have : (a + 1) * 2 ^ fm f ≤ gY f * 2 ^ fm f := Nat.mul_le_mul_right _ c
    rw [Nat.add_mul, Nat.one_mul] at this; omega
   ·omega
 rw [aC.j3, yO]
 simp only [Option.bind_some]
 by_cases c : (a : Int) ≥ (gY f : Int)
 ·rw [if_pos c, beyond_f, ho.mp c]
  simp only [Option.bind_some, if_true, Bool.not_true, Bool.false_and, Bool.true_or]
  congr 2
  unfold nG pI
  split <;> rfl
 ·rw [if_neg c]
  have co : jM f K = false := by simpa using fun h => c (ho.mpr h)
  have ec : fJ.f (q : Int) (fm f : Int) = some ((q % 2 ^ fm f : Nat) : Int) := by
   rw [cut_f q hq _ (by omega)]; unfold cutN; rw [if_neg (by omega), Int.toNat_natCast]
  have ej : cB.f f neg (a : Int) (((q % 2 ^ fm f : Nat) : Int) % 4294967296) = some ((K + eP f neg : Nat) : Int) := by
   rw [show ((q % 2 ^ fm f : Nat) : Int) % 4294967296 = ((q % 2 ^ fm f : Nat) : Int) by omega, wG f neg _ _ (by omega) hm, hK]; rfl
  rw [co, ec]
  simp only [Option.bind_some, ej, Bool.false_eq_true, if_false, Bool.not_false, Bool.true_and, Bool.false_or, exc_cast]
  by_cases l0 : l = 0
  ·subst l0; simp
  ·rw [if_neg (by omega)]
   by_cases s0 : s = 0
   ·subst s0; simp [l0]
   ·have hn := nY s hs
    rw [if_neg (by omega), len_f (k) s hs, qE]
    simp only [Option.bind_some]
    rw [bW (x + _) (by omega) (by omega), bW _ (by omega) (by omega)]
    simp [l0, s0]
theorem pack_j1 (k : Nat) (f mode : Int) (neg : Bool) (x : Int) (s q l U : Nat) (hU : U ≤ 10200) (hs : s < 18446744073709551616) (hq : q ≤ 2 ^ (fm f + 1)) (hq' : U ≠ 0 → 2 ^ fm f ≤ q) (h1 : -10000 ≤ x) (h2 : x ≤ 10000) (K : Nat)
  (hK : K = U * 2 ^ fm f + q) :
  aC.j1 (k + 4) f mode neg x (s : Int) (fm f : Int) (dL f - fm f + U) (q : Int) (l : Int) = some
   ((((if jM f K then (if jU mode neg then gY f * 2 ^ fm f else gY f * 2 ^ fm f - 1) else K) + eP f neg : Nat) : Int), false, false,
    jM f K, !jM f K && (decide (l ≠ 0) && (decide (s = 0) || decide (x + fK s - 1 < dL f))), jM f K || decide (l ≠ 0)) := by
 obtain ⟨b1, b2, b3, b4, b5⟩ := dN f
 have hl := iC f
 have hp := Nat.two_pow_pos (fm f)
 have h31 := dU (show fm f + 1 ≤ 31 by omega)
 have hq64 : q < 18446744073709551616 := by omega
 have e1 : wrap64 ((fm f : Int) + 1) = ((fm f + 1 : Nat) : Int) := by rw [bW] <;> omega
 have hsucc : 2 ^ (fm f + 1) = 2 * 2 ^ fm f := by rw [Nat.pow_succ, Nat.mul_comm]
 rw [aC.j1, e1, fD _ (by omega), if_pos (by omega), nT _ _ hq64]
 by_cases c : q = 2 ^ (fm f + 1)
 ·have hd : q / 2 ^ (fm f + 1) = 1 := by rw [c, Nat.div_self (by omega)]
  rw [hd, if_neg (by decide), bW _ (by omega) (by omega), show (q : Int) / 2 = ((2 ^ fm f : Nat) : Int) by omega, aC.j2, qE]
  simp only [Option.bind_some]
  rw [fD _ (by omega), if_pos (by omega), nT _ _ (by omega), Nat.div_self hp, if_neg (by decide)]
  rw [show dL f - (fm f : Int) + (U : Int) + 1 + (fm f : Int) = dL f + (U : Int) + 1 by omega, bW (dL f + (U : Int) + 1) (by omega) (by omega), bW (dL f + (U : Int) + 1 - dL f) (by omega) (by omega), bW _ (by omega) (by omega), show dL f + (U : Int) + 1 - dL f + 1 = ((U + 2 : Nat) : Int) by omega]
  exact yQ k f mode neg x s _ l (U + 2) hs (by omega) h1 h2 K (by rw [hK, c, hsucc, Nat.mod_self, Nat.add_mul]; omega)
 ·have hd : q / 2 ^ (fm f + 1) = 0 := Nat.div_eq_of_lt (by omega)
  rw [hd, if_pos (by decide), aC.j2, qE]
  simp only [Option.bind_some]
  rw [fD _ (by omega), if_pos (by omega), nT _ _ hq64]
  by_cases c2 : q < 2 ^ fm f
  ·have hU0 : U = 0 := by
    rcases Nat.eq_zero_or_pos U with h | h
    ·exact h
    ·have := hq' (by omega); omega
   subst hU0
   rw [Nat.div_eq_of_lt c2, if_pos (by decide)]
   have h := yQ k f mode neg x s q l 0 hs hq64 h1 h2 K (by rw [hK, Nat.mod_eq_of_lt c2])
   rw [show ((0 : Nat) : Int) = 0 from rfl] at h
   exact h
  ·have hd1 : q / 2 ^ fm f = 1 := Nat.div_eq_of_lt_le (by omega) (by omega)
   rw [hd1, if_neg (by decide)]
   rw [show dL f - (fm f : Int) + (U : Int) + (fm f : Int) = dL f + (U : Int) by omega, bW (dL f + (U : Int)) (by omega) (by omega), bW (dL f + (U : Int) - dL f) (by omega) (by omega), bW _ (by omega) (by omega), show dL f + (U : Int) - dL f + 1 = ((U + 1 : Nat) : Int) by omega]
   have hm1 : q % 2 ^ fm f = q - 2 ^ fm f := by
    have := Nat.div_add_mod q (2 ^ fm f)
    rw [hd1, Nat.mul_one] at this; omega
   exact yQ k f mode neg x s q l (U + 1) hs hq64 h1 h2 K (by rw [hK, hm1, Nat.add_mul]; omega)
theorem pack_f (k : Nat) (f mode : Int) (neg : Bool) (x : Int) (s : Nat) (more : Bool) (hs : s < 18446744073709551616) :
  aC.f (k + 5) f mode neg x (s : Int) more = some ((fI f mode neg (lG x) s more : Int), false, false, kY f mode neg (lG x) s more) := by
 unfold aC.f
 have hc : mn (mx x (-10000)) 10000 = lG x := rfl
 obtain ⟨h1, h2⟩ := pK x
 rw [hc]
 generalize lG x = x at *
 by_cases z : s = 0 ∧ more = false
 ·obtain ⟨rfl, rfl⟩ := z
  rw [if_pos (by decide), aC.j0]
  simp only [Bool.not_false, if_true]
  rw [uL]
  have hk : uM f mode neg x 0 false = 0 := by
   unfold uM
   have hr : iM f x 0 = 0 := by unfold iM; rw [if_pos rfl]
   have hq : jA 0 (dP f x 0 - x) = 0 := by unfold jA; split <;> simp
   have hl : fT 0 (dP f x 0 - x) false = 0 := by rw [iP _ (.inr (by simp))]; rfl
   rw [hr, hq, hl]
   have : upN mode neg 0 0 = false := by unfold upN; simp
   rw [this]; simp
  have hl : fT 0 (dP f x 0 - x) false = 0 := by rw [iP _ (.inr (by simp))]; rfl
  have ho : jM f 0 = false := by
   unfold jM
   have := iE f
   have := Nat.two_pow_pos (fm f)
   rw [decide_eq_false_iff_not]
   have : 0 < gY f * 2 ^ fm f := Nat.mul_pos (by omega) (by omega)
   omega
  unfold fI kY nA lT
  rw [hk, ho, hl]; simp
 ·have hj : (if (s : Int) = 0 then aC.j0 (k + 5) f mode neg x (s : Int) more (!more) else aC.j0 (k + 5) f mode neg x (s : Int) more false) = aC.j0 (k + 5) f mode neg x (s : Int) more false := by
   by_cases c : (s : Int) = 0
   ·rw [if_pos c]
    cases more
    ·exact absurd ⟨by omega, rfl⟩ z
    ·rfl
   ·rw [if_neg c]
  rw [hj, aC.j0, if_neg (by decide), iT]
  obtain ⟨u1, u2, u3⟩ := tN f x s hs h1 h2
  obtain ⟨q1, q2⟩ := uJ f x s
  obtain ⟨b1, b2, b3, b4, b5⟩ := dN f
  have h31 := dU (show fm f + 1 ≤ 31 by omega)
  have hll := yI s (dP f x s - x) more
  have hq64 : jA s (dP f x s - x) < 18446744073709551616 := by omega
  have hd : dP f x s - x ≤ 0 → s * 2 ^ (-(dP f x s - x)).toNat < 18446744073709551616 := by
   intro h; have := hq64; unfold jA at this; rw [if_pos h] at this; exact this
  simp only [Option.bind_some]
  rw [unit_f _ f x s hs h1 h2]
  simp only [Option.bind_some]
  rw [bW _ (by omega) (by omega), units_f _ s hs _ (by omega) (by omega) more hd]
  simp only [Option.bind_some]
  rw [up_f _ _ _ _ hq64]
  simp only [Option.bind_some]
  have hun : dP f x s = dL f - fm f + (iM f x s : Nat) := rfl
  have key : ∀ up : Bool, aC.j1 (k + 4) f mode neg x (s : Int) (fm f : Int) (dP f x s) ((jA s (dP f x s - x) + (if up then 1 else 0) : Nat) : Int) (fT s (dP f x s - x) more : Int) = _ :=
   fun up => pack_j1 k f mode neg x s _ _ (iM f x s) u3 hs (by split <;> omega) (fun h => Nat.le_trans (q2 h) (Nat.le_add_right _ _)) h1 h2 _ rfl
  have res : ∀ up : Bool, up = upN mode neg (jA s (dP f x s - x)) (fT s (dP f x s - x) more) → aC.j1 (k + 4) f mode neg x (s : Int) (fm f : Int) (dP f x s) ((jA s (dP f x s - x) + (if up then 1 else 0) : Nat) : Int) (fT s (dP f x s - x) more : Int) = some ((fI f mode neg x s more : Int), false, false, kY f mode neg x s more) := by
   intro up hup
   rw [key up]
   subst hup
   unfold fI kY nA lT uM
   rw [← Nat.add_assoc]
   by_cases o : jM f (iM f x s * 2 ^ fm f + jA s (dP f x s - x) + if upN mode neg (jA s (dP f x s - x)) (fT s (dP f x s - x) more) = true then 1 else 0) = true
   ·rw [o]; simp
   ·rw [Bool.not_eq_true] at o; rw [o]; simp
  by_cases hu : upN mode neg (jA s (dP f x s - x)) (fT s (dP f x s - x) more) = true
  ·rw [if_pos hu]
   have h := res true hu.symm
   rw [if_pos rfl] at h
   rw [show ((jA s (dP f x s - x) : Nat) : Int) + 1 = ((jA s (dP f x s - x) + 1 : Nat) : Int) by omega, fD _ (by omega)]
   exact h
  ·rw [if_neg hu]
   rw [Bool.not_eq_true] at hu
   have h := res false hu.symm
   rw [if_neg (by decide), Nat.add_zero] at h
   exact h
/- What is a number already is rounded to it; a greater number isn't rounded to a lesser one: of the plain numbers that the rounding computes. -/

theorem jL (f : Int) (v : Nat) : bJ f v < 2 ^ (fm f + 1) := by
 have hf := sK f v
 have hs : 2 ^ (fm f + 1) = 2 * 2 ^ fm f := by rw [Nat.pow_succ, Nat.mul_comm]
 unfold bJ; split <;> omega

def vB (r h : Nat) (more : Bool) : Nat := if r < h then (if r = 0 ∧ more = false then 0 else 1) else if r = h ∧ more = false then 2 else 3
theorem oO (s : Nat) (d : Int) (more : Bool) (hd : ¬ d ≤ 0) : fT s d more = vB (s % 2 ^ d.toNat) (2 ^ (d.toNat - 1)) more := by
 obtain ⟨m, hm⟩ : ∃ m, d.toNat = m + 1 := ⟨d.toNat - 1, by omega⟩
 have hh := Nat.two_pow_pos m
 have hs : 2 ^ (m + 1) = 2 ^ m * 2 := Nat.pow_succ ..
 have h1 := Nat.mod_lt s (Nat.two_pow_pos (m + 1))
 have h3 : s / 2 ^ m = (s / 2 ^ (m + 1)) * 2 + (s % 2 ^ (m + 1)) / 2 ^ m := by
  have h2 := Nat.div_add_mod s (2 ^ (m + 1))
  rw [hs] at h2 ⊢
  have e : s = 2 ^ m * (s / (2 ^ m * 2) * 2) + s % (2 ^ m * 2) := by
   rw [← Nat.mul_assoc, Nat.mul_right_comm]; exact h2.symm
  exact (congrArg (· / 2 ^ m) e).trans (Nat.mul_add_div hh _ _)
 have h4 : s % 2 ^ m = s % 2 ^ (m + 1) % 2 ^ m := by rw [hs, Nat.mod_mul_right_mod]
 have hz : ¬ s % 2 ^ (m + 1) = 0 → fT s d more = if s / 2 ^ m % 2 = 0 then 1 else if s % 2 ^ m ≠ 0 ∨ more = true then 3 else 2 := by
  intro h'
  have := l8 more hd (by rw [hm]; exact h')
  rw [hm, Nat.add_sub_cancel] at this; exact this
 rw [hm, Nat.add_sub_cancel]
 by_cases c : s % 2 ^ (m + 1) = 0
 ·rw [iP _ (.inr (by rw [hm]; exact c)), c]
  unfold vB
  rw [if_pos hh]
  cases more <;> simp
 ·rw [hz c, h3, h4]
  generalize s % 2 ^ (m + 1) = r at *
  unfold vB
  by_cases lt : r < 2 ^ m
  ·rw [if_pos lt, Nat.div_eq_of_lt lt, if_pos (by omega), if_neg (by omega)]
  ·have e1 : r / 2 ^ m = 1 := Nat.div_eq_of_lt_le (by omega) (by omega)
   have e2 : r % 2 ^ m = r - 2 ^ m := by rw [Nat.mod_eq_sub_mod (by omega), Nat.mod_eq_of_lt (by omega)]
   rw [if_neg lt, e1, e2, if_neg (by omega)]
   by_cases e3 : r = 2 ^ m
   ·subst e3; cases more <;> simp
   ·rw [if_pos (.inl (by omega)), if_neg (by omega)]
/- Which numbers are none, infinite, nought; bits of a format alone: the program's, as plain numbers. -/

theorem rH (f : Int) (v : Nat) (hv : v < 4294967296) : Ev (fun k => bL.f k f (v : Int)) (decide (bM f v = 0)) := by
 refine Ev.congr (fun k => by unfold bL.f; rfl) (Ev.bind (pE f v hv) (Ev.congr (fun k => ?_) (Ev.now _)))
 rw [show (0 : Int) = ((0 : Nat) : Int) from rfl, nI]
theorem iX (f : Int) (v : Nat) (hv : v < 4294967296) : Ev (fun k => aO.f k f (v : Int)) (decide (bM f v = 3)) := by
 refine Ev.congr (fun k => by unfold aO.f; rfl) (Ev.bind (pE f v hv) (Ev.congr (fun k => ?_) (Ev.now _)))
 rw [show (3 : Int) = ((3 : Nat) : Int) from rfl, nI]
theorem pmask_f (f : Int) : iA.f f = some (maskN f : Int) := by
 unfold iA.f maskN
 have h := dN f
 rw [iT, Option.bind_some]
 dsimp only
 rw [show (fe f : Int) + (fm f : Int) = ((fe f + fm f : Nat) : Int) by omega, bW ((fe f + fm f : Nat) : Int) (by omega) (by omega), show ((fe f + fm f : Nat) : Int) + 1 = ((fe f + fm f + 1 : Nat) : Int) by omega, wu _ (by omega), if_pos (Int.natCast_nonneg _)]
 have e := rY 1 (fe f + fm f + 1)
 rw [Nat.one_mul] at e
 rw [show (1 : Int) = ((1 : Nat) : Int) from rfl, e]
 have h32 := mP (show fe f + fm f + 1 ≤ 32 by omega)
 have h0 := Nat.two_pow_pos (fe f + fm f + 1)
 generalize 2 ^ (fe f + fm f + 1) = P at *
 congr 1; omega
theorem kW (f : Int) (L : List Int) (i v : Nat) (b c : Bool) (r : Int × Bool × Bool × Bool × Bool × Bool × Bool) (hi : i < L.length) (hn : L.length ≤ 100) (hv : v < 4294967296) (hr : rd L (i : Int) = (v : Int))
  (h : Ev (fun k => bC.l0 k f (b || dX f v) L (L.length : Int) ((i + 1 : Nat) : Int) (c || fC f v) false false false false) r) : Ev (fun k => bC.l0 k f b L (L.length : Int) (i : Int) c false false false false) r := by
 have hw : wrap64 ((i : Int) + 1) = ((i + 1 : Nat) : Int) := by rw [bW _ (by omega) (by omega)]; omega
 refine Ev.step (fun k => by rw [bC.l0, if_pos (by omega), if_pos (Int.natCast_nonneg _), if_pos (by omega), hr, hw]) (Ev.bind (pE f v hv) (Ev.congr (fun k => ?_) h))
 have e5 : (((bM f v : Nat) : Int) == 5) = fC f v := by rw [show (5 : Int) = ((5 : Nat) : Int) from rfl, nI]; rfl
 have e4 : decide (((bM f v : Nat) : Int) ≥ 4) = dX f v := by unfold dX; apply decide_eq_decide.mpr; omega
 rw [e5, e4]
 cases b <;> cases c <;> simp
theorem sP (f : Int) (L : List Int) (b c : Bool) : Ev (fun k => bC.l0 k f b L (L.length : Int) (L.length : Int) c false false false false) ((pQ f : Int), c, false, false, false, false, b) :=
 Ev.step (fun k => by rw [bC.l0, if_neg (by omega), nan_f]; rfl) (Ev.now _)
theorem aBR (f : Int) (v : Nat) (hv : v < 4294967296) : Ev (fun k => bC.f k f [(v : Int)]) ((pQ f : Int), fC f v, false, false, false, false, dX f v) := by
 refine Ev.congr (fun k => by unfold bC.f; rfl) (kW f _ 0 v false false _ (by simp) (by simp) hv rfl ?_)
 rw [Bool.false_or, Bool.false_or]
 exact sP f [(v : Int)] _ _
theorem oP (f : Int) (a b : Nat) (ha : a < 4294967296) (hb : b < 4294967296) : Ev (fun k => bC.f k f [(a : Int), (b : Int)]) ((pQ f : Int), fC f a || fC f b, false, false, false, false, dX f a || dX f b) := by
 refine Ev.congr (fun k => by unfold bC.f; rfl) (kW f _ 0 a false false _ (by simp) (by simp) ha rfl (kW f _ 1 b _ _ _ (by simp) (by simp) hb rfl ?_))
 rw [Bool.false_or, Bool.false_or]
 exact sP f [(a : Int), (b : Int)] _ _
theorem mQ (f : Int) (v : Nat) (h : bM f v = 0) : lC f v = eP f (dB f v) ∧ bJ f v = 0 := by
 have hz : mY f v = 0 ∧ kK f v = 0 := by
  unfold bM at h
  by_cases c : mY f v = 0
  ·rw [if_pos c] at h
   by_cases d : kK f v = 0
   ·exact ⟨c, d⟩
   ·rw [if_neg d] at h; omega
  ·rw [if_neg c] at h
   split at h
   ·omega
   ·split at h
    ·omega
    ·split at h <;> omega
 have hp := wL f v
 rw [qC, rG, tK, hz.1, hz.2] at hp
 refine ⟨by omega, ?_⟩
 unfold bJ; rw [if_pos hz.1, hz.2]
theorem vT (f : Int) (v : Nat) (h : bM f v = 3) : lC f v = nG f (dB f v) := by
 have hz : mY f v = gY f ∧ kK f v = 0 := by
  have he := zP f v
  unfold bM at h
  by_cases c : mY f v = 0
  ·rw [if_pos c] at h
   split at h <;> omega
  ·rw [if_neg c] at h
   by_cases d : mY f v < gY f
   ·rw [if_pos d] at h; omega
   ·rw [if_neg d] at h
    by_cases z : kK f v = 0
    ·exact ⟨by omega, z⟩
    ·rw [if_neg z] at h; split at h <;> omega
 have hp := wL f v
 rw [qC, rG, tK, hz.1, hz.2] at hp
 unfold nG; omega
theorem vE (f : Int) (v : Nat) : bJ f v < 18446744073709551616 := by
 have h := dN f
 have h1 := jL f v
 have h2 := dU (show fm f + 1 ≤ 31 by omega)
 omega
theorem dV (f : Int) (v : Nat) : -200 ≤ bB f v ∧ bB f v ≤ 300 := by
 have := iC f; have := iE f; have := dN f; have := zP f v
 unfold bB; omega
theorem gT (f : Int) (v : Nat) (h : bM f v < 3) : mY f v < gY f := (qF f v).mp h
/- Sums to all bits that rounding asks for: plain numbers alone. -/

def kI (s : Nat) : Nat := 62 - fK s
def gU (na : Bool) (Ea : Int) (A : Nat) (nb : Bool) (Eb : Int) (B : Nat) : Bool × Int × Nat × Bool :=
 if na = nb then (na, Ea, A + B / 2 ^ (Ea - Eb).toNat, decide (B % 2 ^ (Ea - Eb).toNat ≠ 0))
 else (na, Ea, A - B / 2 ^ (Ea - Eb).toNat - (if B % 2 ^ (Ea - Eb).toNat ≠ 0 then 1 else 0), decide (B % 2 ^ (Ea - Eb).toNat ≠ 0))
def lL (n1 : Bool) (e1 : Int) (s1 : Nat) (n2 : Bool) (e2 : Int) (s2 : Nat) : Bool × Int × Nat × Bool :=
 if s1 = 0 then (n2, e2, s2, false) else if s2 = 0 then (n1, e1, s1, false)
 else if e1 - (kI s1 : Int) < e2 - (kI s2 : Int) ∨ e1 - (kI s1 : Int) = e2 - (kI s2 : Int) ∧ s1 * 2 ^ kI s1 < s2 * 2 ^ kI s2 then gU n2 (e2 - (kI s2 : Int)) (s2 * 2 ^ kI s2) n1 (e1 - (kI s1 : Int)) (s1 * 2 ^ kI s1)
 else gU n1 (e1 - (kI s1 : Int)) (s1 * 2 ^ kI s1) n2 (e2 - (kI s2 : Int)) (s2 * 2 ^ kI s2)
theorem jW (s : Nat) (h : s ≠ 0) (h' : s < 4611686018427387904) : kI s ≤ 61 ∧ fK s + kI s = 62 ∧ 2305843009213693952 ≤ s * 2 ^ kI s ∧ s * 2 ^ kI s < 4611686018427387904 := by
 have h1 := fO s 62 h'
 have h2 := kS s h
 have e : fK s + kI s = 62 := by unfold kI; omega
 have hp := Nat.two_pow_pos (kI s)
 have l1 := Nat.mul_le_mul_right (2 ^ kI s) (qI s h)
 have l2 := Nat.mul_lt_mul_of_pos_right (lF s) hp
 rw [← Nat.pow_add, show fK s - 1 + kI s = 61 by omega] at l1
 rw [← Nat.pow_add, e] at l2
 exact ⟨by omega, e, l1, l2⟩
/- Sums, rounded: plain numbers alone. -/

def mU (f mode : Int) (a b : Bool) : Nat := if a = b then eP f a else eP f (decide (mode = 3))
def fG (f mode : Int) (a b : Bool) (r : Bool × Int × Nat × Bool) : Nat := if r.2.2 = (0, false) then mU f mode a b else fI f mode r.1 r.2.1 r.2.2.1 r.2.2.2
def fV (f mode : Int) (r : Bool × Int × Nat × Bool) : Bool × Bool × Bool := if r.2.2 = (0, false) then (false, false, false) else kY f mode r.1 r.2.1 r.2.2.1 r.2.2.2
def wX (f : Int) (a b : Nat) : Bool × Int × Nat × Bool := lL (dB f a) (bB f a) (bJ f a) (dB f b) (bB f b) (bJ f b)
def vP (f mode : Int) (a b : Nat) : Nat :=
 if 4 ≤ bM f a ∨ 4 ≤ bM f b then pQ f else if bM f a = 3 ∧ bM f b = 3 ∧ dB f a ≠ dB f b then pQ f else if bM f a = 3 then nG f (dB f a) else if bM f b = 3 then nG f (dB f b)
 else fG f mode (dB f a) (dB f b) (wX f a b)
def aAU (f mode : Int) (a b : Nat) : Bool × Bool × Bool × Bool × Bool :=
 if 4 ≤ bM f a ∨ 4 ≤ bM f b then (fC f a || fC f b, false, false, false, false) else if bM f a = 3 ∧ bM f b = 3 ∧ dB f a ≠ dB f b then (true, false, false, false, false) else if bM f a = 3 ∨ bM f b = 3 then (false, false, false, false, false)
 else (false, false, fV f mode (wX f a b))
/- Sums of which nothing is lost: plain numbers alone. -/

theorem tL (m E F : Int) (h1 : m ≤ E) (h2 : E ≤ F) : 2 ^ (F - m).toNat = 2 ^ (F - E).toNat * 2 ^ (E - m).toNat := by
 rw [← Nat.pow_add]; congr 1; omega
/- A rounding depends on the value alone: more bits of the same value make no difference. Quotients and roots to so many bits. Plain numbers alone. -/

theorem xI (r h t P : Nat) (m : Bool) (ht : t < P) : vB (r * P + t) (h * P) m = vB r h (m || decide (t ≠ 0)) := by
 have h1 : r * P + t < h * P ↔ r < h := by
  constructor
  ·intro c; exact Nat.lt_of_mul_lt_mul_right (Nat.lt_of_le_of_lt (Nat.le_add_right _ _) c)
  ·intro c
   have := Nat.mul_le_mul_right P (show r + 1 ≤ h from c)
   rw [Nat.add_mul] at this; omega
 have h2 : r * P + t = h * P ↔ r = h ∧ t = 0 := by
  constructor
  ·intro c
   have a : ¬ r < h := fun l => by have := h1.mpr l; omega
   have b : ¬ h < r := fun l => by
    have := Nat.mul_le_mul_right P (show h + 1 ≤ r from l)
    rw [Nat.add_mul] at this; omega
   have e : r = h := by omega
   subst e; exact ⟨rfl, by omega⟩
  ·rintro ⟨rfl, rfl⟩; rfl
 have h3 : r * P + t = 0 ↔ r = 0 ∧ t = 0 := by
  constructor
  ·intro c
   have : r * P = 0 := by omega
   rw [Nat.mul_eq_zero] at this; omega
  ·rintro ⟨rfl, rfl⟩; simp
 unfold vB
 simp only [h1, h2, h3]
 by_cases c : t = 0
 ·subst c; simp
 ·simp [c]
theorem uP (s t j : Nat) (ht : t < 2 ^ j) (hs : s ≠ 0) : fK (s * 2 ^ j + t) = fK s + j := by
 have hp := Nat.two_pow_pos j
 have h1 : 2 ^ j ≤ s * 2 ^ j := Nat.le_mul_of_pos_left _ (by omega)
 have := mW (s * 2 ^ j + t) j (by omega)
 rw [Nat.mul_comm, Nat.mul_add_div hp, Nat.div_eq_of_lt ht, Nat.add_zero] at this
 rw [Nat.mul_comm s]; omega
theorem sS (s t j : Nat) (hs : s ≠ 0) : s * 2 ^ j + t ≠ 0 := by
 have h1 : 2 ^ j ≤ s * 2 ^ j := Nat.le_mul_of_pos_left _ (by omega)
 have hp := Nat.two_pow_pos j
 omega
theorem sO (f x : Int) (s t j : Nat) (ht : t < 2 ^ j) (hs : s ≠ 0) : iM f x (s * 2 ^ j + t) = iM f (x + j) s := by
 unfold iM
 rw [if_neg (sS s t j hs), if_neg hs, uP s t j ht hs]
 congr 1; omega
theorem yF (f x : Int) (s t j : Nat) (ht : t < 2 ^ j) (hs : s ≠ 0) : dP f x (s * 2 ^ j + t) = dP f (x + j) s := by
 unfold dP; rw [sO f x s t j ht hs]
theorem uT (f x : Int) (s : Nat) (hs : 2 ^ (fm f + 1) ≤ s) : 1 ≤ dP f x s - x ∧ s ≠ 0 := by
 have hl := lenN_ge s (fm f + 1) hs
 have hp := Nat.two_pow_pos (fm f + 1)
 have h0 : s ≠ 0 := by omega
 refine ⟨?_, h0⟩
 unfold dP iM
 rw [if_neg h0]; omega
theorem xX (f x : Int) (s t j : Nat) (m : Bool) (ht : t < 2 ^ j) (hs : 2 ^ (fm f + 1) ≤ s) :
  jA (s * 2 ^ j + t) (dP f x (s * 2 ^ j + t) - x) = jA s (dP f (x + j) s - (x + j)) ∧
  fT (s * 2 ^ j + t) (dP f x (s * 2 ^ j + t) - x) m = fT s (dP f (x + j) s - (x + j)) (m || decide (t ≠ 0)) := by
 obtain ⟨hd, h0⟩ := uT f (x + j) s hs
 rw [yF f x s t j ht h0]
 generalize dP f (x + j) s = U at *
 obtain ⟨d, e⟩ := lU (show 0 ≤ U - (x + j) by omega)
 rw [e] at hd ⊢
 rw [show U - x = ((d + j : Nat) : Int) by omega]
 have hp := Nat.two_pow_pos j
 have hq : (s * 2 ^ j + t) / 2 ^ j = s := by rw [Nat.mul_comm, Nat.mul_add_div hp, Nat.div_eq_of_lt ht, Nat.add_zero]
 constructor
 ·unfold jA
  rw [if_neg (by omega), if_neg (by omega), Int.toNat_natCast, Int.toNat_natCast, Nat.add_comm d j, Nat.pow_add, ← Nat.div_div_eq_div_mul, hq]
 ·rw [oO _ _ _ (show ¬ ((d + j : Nat) : Int) ≤ 0 by omega), oO _ _ _ (show ¬ (d : Int) ≤ 0 by omega), Int.toNat_natCast, Int.toNat_natCast]
  have h1 : (s * 2 ^ j + t) % 2 ^ (d + j) = s % 2 ^ d * 2 ^ j + t := by
   rw [Nat.add_comm d j, Nat.pow_add, Nat.mod_mul, hq, Nat.mul_comm s, Nat.mul_add_mod, Nat.mod_eq_of_lt ht]
   rw [Nat.add_comm, Nat.mul_comm (2 ^ j)]
  have h2 : 2 ^ (d + j - 1) = 2 ^ (d - 1) * 2 ^ j := by rw [← Nat.pow_add]; congr 1; omega
  rw [h1, h2, xI _ _ _ _ _ ht]
theorem lD (f mode : Int) (neg : Bool) (x : Int) (s t j : Nat) (m : Bool) (ht : t < 2 ^ j) (hs : 2 ^ (fm f + 1) ≤ s) :
  fI f mode neg x (s * 2 ^ j + t) m = fI f mode neg (x + j) s (m || decide (t ≠ 0)) ∧ kY f mode neg x (s * 2 ^ j + t) m = kY f mode neg (x + j) s (m || decide (t ≠ 0)) := by
 obtain ⟨h1, h2⟩ := xX f x s t j m ht hs
 have h0 := (uT f x s hs).2
 have h3 := sO f x s t j ht h0
 have hk : uM f mode neg x (s * 2 ^ j + t) m = uM f mode neg (x + j) s (m || decide (t ≠ 0)) := by unfold uM; rw [h1, h2, h3]
 have hi : lT f x (s * 2 ^ j + t) m = lT f (x + j) s (m || decide (t ≠ 0)) := by unfold lT; rw [h2]
 have hu : nA f x (s * 2 ^ j + t) m = nA f (x + j) s (m || decide (t ≠ 0)) := by
  unfold nA
  rw [hi, uP s t j ht h0, decide_eq_false (sS s t j h0), decide_eq_false h0]
  congr 2; apply decide_eq_decide.mpr; omega
 unfold fI kY
 rw [hk, hi, hu]; exact ⟨rfl, rfl⟩
theorem uO (f mode : Int) (neg : Bool) (e : Int) (A B c j : Nat) (hB : 0 < B) (hs : 2 ^ (fm f + 1) ≤ A * 2 ^ c / B) :
  fI f mode neg (e - ((c + j : Nat) : Int)) (A * 2 ^ (c + j) / B) (decide (A * 2 ^ (c + j) % B ≠ 0)) = fI f mode neg (e - c) (A * 2 ^ c / B) (decide (A * 2 ^ c % B ≠ 0)) ∧
  kY f mode neg (e - ((c + j : Nat) : Int)) (A * 2 ^ (c + j) / B) (decide (A * 2 ^ (c + j) % B ≠ 0)) = kY f mode neg (e - c) (A * 2 ^ c / B) (decide (A * 2 ^ c % B ≠ 0)) := by
 have hp := Nat.two_pow_pos j
 rw [Nat.pow_add, ← Nat.mul_assoc]
 generalize A * 2 ^ c = V at *
 have hd := Nat.div_add_mod V B
 have hr := Nat.mod_lt V hB
 generalize V / B = s at *
 generalize V % B = r at *
 have e1 : V * 2 ^ j = B * (s * 2 ^ j) + r * 2 ^ j := by rw [← hd, Nat.add_mul, Nat.mul_assoc]
 have e2 : V * 2 ^ j / B = s * 2 ^ j + r * 2 ^ j / B := by rw [e1, Nat.mul_add_div hB]
 have e3 : V * 2 ^ j % B = r * 2 ^ j % B := by rw [e1, Nat.mul_add_mod]
 have ht : r * 2 ^ j / B < 2 ^ j := by
  rw [Nat.div_lt_iff_lt_mul hB, Nat.mul_comm]
  exact Nat.mul_lt_mul_of_pos_left hr hp
 have h := lD f mode neg (e - ((c + j : Nat) : Int)) s (r * 2 ^ j / B) j (decide (r * 2 ^ j % B ≠ 0)) ht hs
 have hm : (decide (r * 2 ^ j % B ≠ 0) || decide (r * 2 ^ j / B ≠ 0)) = decide (r ≠ 0) := by
  have hz : r * 2 ^ j = 0 ↔ r = 0 := by rw [Nat.mul_eq_zero]; omega
  have hdm := Nat.div_add_mod (r * 2 ^ j) B
  by_cases z : r = 0
  ·subst z; simp
  ·have : r * 2 ^ j ≠ 0 := fun c => z (hz.mp c)
   rw [decide_eq_true z]
   by_cases a : r * 2 ^ j % B = 0
   ·have b : r * 2 ^ j / B ≠ 0 := fun b => by rw [a, b] at hdm; simp at hdm; omega
    rw [decide_eq_true b, Bool.or_true]
   ·rw [decide_eq_true a, Bool.true_or]
 rw [e2, e3, h.1, h.2, hm, show e - ((c + j : Nat) : Int) + (j : Int) = e - c by omega]
 exact ⟨rfl, rfl⟩
theorem quo_same (f mode : Int) (neg : Bool) (e : Int) (A B c d : Nat) (hB : 0 < B) (hc : 2 ^ (fm f + 1) ≤ A * 2 ^ c / B) (hd : 2 ^ (fm f + 1) ≤ A * 2 ^ d / B) :
  fI f mode neg (e - c) (A * 2 ^ c / B) (decide (A * 2 ^ c % B ≠ 0)) = fI f mode neg (e - d) (A * 2 ^ d / B) (decide (A * 2 ^ d % B ≠ 0)) ∧
  kY f mode neg (e - c) (A * 2 ^ c / B) (decide (A * 2 ^ c % B ≠ 0)) = kY f mode neg (e - d) (A * 2 ^ d / B) (decide (A * 2 ^ d % B ≠ 0)) := by
 rcases Nat.le_total c d with h | h
 ·obtain ⟨j, rfl⟩ := Nat.exists_eq_add_of_le h
  have := uO f mode neg e A B c j hB hc
  exact ⟨this.1.symm, this.2.symm⟩
 ·obtain ⟨j, rfl⟩ := Nat.exists_eq_add_of_le h
  exact uO f mode neg e A B d j hB hd
/- Amounts: what a number's bits without its sign stand for, in units of the least number; rounding depends on the amount alone. -/

def vX (f : Int) (v : Nat) : Nat := v % 2 ^ (fe f + fm f)
theorem aAA (r h j : Nat) : vB (r * 2 ^ j) (h * 2 ^ j) false = vB r h false := by
 have hp := Nat.two_pow_pos j
 unfold vB
 have h1 : r * 2 ^ j < h * 2 ^ j ↔ r < h := Nat.mul_lt_mul_right hp
 have h2 : r * 2 ^ j = 0 ↔ r = 0 := by rw [Nat.mul_eq_zero]; omega
 have h3 : r * 2 ^ j = h * 2 ^ j ↔ r = h := ⟨fun e => Nat.eq_of_mul_eq_mul_right hp e, fun e => by rw [e]⟩
 simp only [h1, h2, h3]
theorem nW (s : Nat) (d : Int) (h : d ≤ 0 ∨ s % 2 ^ d.toNat = 0) : fT s d false = 0 := iP false h
theorem wM (s j : Nat) (d : Int) : jA (s * 2 ^ j) d = jA s (d - j) ∧ fT (s * 2 ^ j) d false = fT s (d - j) false := by
 by_cases c : d ≤ 0
 ·rw [nW _ _ (.inl c), nW _ _ (.inl (by omega))]
  refine ⟨?_, rfl⟩
  unfold jA
  rw [if_pos c, if_pos (by omega), show (-(d - (j : Int))).toNat = j + (-d).toNat by omega, Nat.pow_add, Nat.mul_assoc]
 ·obtain ⟨n, rfl⟩ := lU (show 0 ≤ d by omega)
  by_cases c2 : (n : Int) - j ≤ 0
  ·obtain ⟨i, rfl⟩ : ∃ i, j = n + i := ⟨j - n, by omega⟩
   have e : s * 2 ^ (n + i) = s * 2 ^ i * 2 ^ n := by rw [Nat.add_comm, Nat.pow_add, Nat.mul_assoc]
   have hp := Nat.two_pow_pos n
   constructor
   ·unfold jA
    rw [if_neg c, if_pos c2, Int.toNat_natCast, e, Nat.mul_div_cancel _ hp, show (-((n : Int) - ((n + i : Nat) : Int))).toNat = i by omega]
   ·rw [nW _ _ (.inr (by rw [Int.toNat_natCast, e, Nat.mul_mod_left])), nW _ _ (.inl c2)]
  ·obtain ⟨i, rfl⟩ : ∃ i, n = i + j := ⟨n - j, by omega⟩
   have hp := Nat.two_pow_pos j
   have e : ((i + j : Nat) : Int) - (j : Int) = (i : Int) := by omega
   rw [e] at c2 ⊢
   have hi : i ≠ 0 := by omega
   constructor
   ·unfold jA
    rw [if_neg c, if_neg c2, Int.toNat_natCast, Int.toNat_natCast, Nat.pow_add, Nat.mul_div_mul_right _ _ hp]
   ·rw [oO _ _ _ c, oO _ _ _ c2, Int.toNat_natCast, Int.toNat_natCast, Nat.pow_add, Nat.mul_mod_mul_right, show i + j - 1 = i - 1 + j by omega, Nat.pow_add, aAA]
theorem uI (f x : Int) (s j : Nat) : iM f x (s * 2 ^ j) = iM f (x + j) s := by
 unfold iM
 by_cases c : s = 0
 ·subst c; rw [Nat.zero_mul, if_pos rfl, if_pos rfl]
 ·rw [if_neg (Nat.mul_ne_zero c (Nat.ne_of_gt (Nat.two_pow_pos j))), if_neg c, oW s j c]
  congr 1; omega
theorem aA6 (f mode : Int) (neg : Bool) (x : Int) (s j : Nat) : uM f mode neg x (s * 2 ^ j) false = uM f mode neg (x + j) s false := by
 have hr := uI f x s j
 have hu : dP f x (s * 2 ^ j) = dP f (x + j) s := by unfold dP; rw [hr]
 obtain ⟨hq, hl⟩ := wM s j (dP f (x + j) s - x)
 rw [show dP f (x + j) s - x - j = dP f (x + j) s - (x + j) by omega] at hq hl
 unfold uM
 rw [hr, hu, hq, hl]
theorem oZ (f : Int) (v : Nat) : vX f v / 2 ^ fm f = mY f v ∧ vX f v % 2 ^ fm f = kK f v := by
 unfold vX mY kK
 rw [Nat.add_comm (fe f), Nat.pow_add]
 exact ⟨Nat.mod_mul_right_div_self .., Nat.mod_mul_right_mod ..⟩
/- Bits with a sign, beyond the greatest number: plain numbers alone (for rounds without chapter 9). -/

def infK (f : Int) : Nat := gY f * 2 ^ fm f
theorem infK_lt (f : Int) : infK f < 2 ^ (fe f + fm f) ∧ 0 < infK f := by
 obtain ⟨_, hi⟩ := lV f false
 have hp := Nat.two_pow_pos (fm f)
 have ht : 0 < gY f * 2 ^ fm f := Nat.mul_pos (by have := iE f; omega) hp
 unfold infK; omega
theorem qB (f : Int) (P : Nat) (neg : Bool) (h : P < 2 ^ (fe f + fm f)) : dB f (P + eP f neg) = neg ∧ vX f (P + eP f neg) = P ∧ P + eP f neg < 2 ^ (fe f + fm f + 1) := by
 unfold dB vX eP
 have hp := Nat.two_pow_pos (fe f + fm f)
 cases neg
 ·simp only [Bool.false_eq_true, if_false, Nat.add_zero]
  rw [Nat.div_eq_of_lt h, Nat.mod_eq_of_lt h, Nat.pow_succ]
  exact ⟨rfl, rfl, by omega⟩
 ·simp only [if_true]
  rw [Nat.add_div_right _ hp, Nat.div_eq_of_lt h, Nat.add_mod_right, Nat.mod_eq_of_lt h, Nat.pow_succ]
  exact ⟨rfl, rfl, by omega⟩
theorem mag_cls (f : Int) (v : Nat) (h : vX f v = infK f) : bM f v = 3 := by
 obtain ⟨h1, h2⟩ := oZ f v
 have ht := iE f
 unfold bM
 rw [← h1, ← h2, h]
 unfold infK
 rw [Nat.mul_div_cancel _ (Nat.two_pow_pos _), Nat.mul_mod_left, if_neg (by omega), if_neg (by omega), if_pos rfl]
theorem mag_sign (f : Int) (v : Nat) (h : v < 2 ^ (fe f + fm f + 1)) : v = vX f v + eP f (dB f v) := by
 unfold vX eP dB
 have h1 := Nat.div_add_mod v (2 ^ (fe f + fm f))
 have h2 : v / 2 ^ (fe f + fm f) < 2 := by rw [Nat.div_lt_iff_lt_mul (Nat.two_pow_pos _), Nat.mul_comm, ← Nat.pow_succ]; exact h
 rw [Nat.mod_eq_of_lt h2]
 generalize v / 2 ^ (fe f + fm f) = b at *
 have h3 : b = 0 ∨ b = 1 := by omega
 rcases h3 with rfl | rfl
 ·simp at h1 ⊢; omega
 ·simp at h1 ⊢; omega
/- Numbers near one, drawn: plain numbers. -/

def yK (f : Int) : Nat := gY f / 2
theorem pF (f : Int) : fe f = 5 ∧ fm f = 10 ∧ yK f = 15 ∧ dL f = -14 ∧ gY f = 31 ∨ fe f = 8 ∧ fm f = 7 ∧ yK f = 127 ∧ dL f = -126 ∧ gY f = 255 ∨ fe f = 8 ∧ fm f = 23 ∧ yK f = 127 ∧ dL f = -126 ∧ gY f = 255 := by
 unfold yK gY dL
 rcases rX f with ⟨h1, h2⟩ | ⟨h1, h2⟩ | ⟨h1, h2⟩ <;> rw [h1, h2] <;> simp
theorem mild_shl (f : Int) : shl .u32 4 (fm f : Int) = ((4 * 2 ^ fm f : Nat) : Int) ∧ shl .u32 2 (fm f : Int) = ((2 * 2 ^ fm f : Nat) : Int) ∧
  shl .u32 ((((shl .u32 1 (fe f : Int)) - 1) % 4294967296) / 2) (fm f : Int) = ((yK f * 2 ^ fm f : Nat) : Int) := by
 rcases pF f with ⟨h1, h2, h3, _⟩ | ⟨h1, h2, h3, _⟩ | ⟨h1, h2, h3, _⟩ <;> rw [h1, h2, h3] <;> decide
theorem aAq (f : Int) : 4 * 2 ^ fm f + yK f * 2 ^ fm f < 2 ^ (fe f + fm f) ∧ 2 * 2 ^ fm f ≤ yK f * 2 ^ fm f := by
 rcases pF f with ⟨h1, h2, h3, _⟩ | ⟨h1, h2, h3, _⟩ | ⟨h1, h2, h3, _⟩ <;> rw [h1, h2, h3] <;> decide
theorem aAB (O P a : Nat) (h : 2 * P ≤ O) (hO : O + 4 * P < 2147483648) (hP : 0 < P) : ((((O : Nat) : Int) - ((2 * P : Nat) : Int)) % 4294967296 + Int.tmod ((a : Int) / 8) ((4 * P : Nat) : Int)) % 4294967296 = ((O - 2 * P + a / 8 % (4 * P) : Nat) : Int) := by
 have e : Int.tmod ((a : Int) / 8) ((4 * P : Nat) : Int) = ((a / 8 % (4 * P) : Nat) : Int) := by
  rw [show (a : Int) / 8 = ((a / 8 : Nat) : Int) from rfl, Int.tmod_eq_emod_of_nonneg (Int.natCast_nonneg _)]; rfl
 have hm := Nat.mod_lt (a / 8) (show 4 * P > 0 by omega)
 rw [e]
 generalize a / 8 % (4 * P) = m at *
 omega
theorem or_sign (f : Int) (m : Nat) (h : m < 2 ^ (fe f + fm f)) : Go.bits .or .u32 (m : Int) (eP f true : Int) = ((m + eP f true : Nat) : Int) := by
 have hb := dN f
 have h31 := dU (show fe f + fm f ≤ 31 by omega)
 have hs : eP f true = 2 ^ (fe f + fm f) := rfl
 rw [oQ m _ (by omega) (by omega), Nat.or_comm, nD _ _ (fe f + fm f) (by rw [hs, Nat.mod_self]) h, Nat.add_comm]
theorem mild_f (f : Int) (a : Nat) (ha : a < 4294967296) : ∃ m : Nat, ∃ neg : Bool, fF.f f (a : Int) = some ((m + eP f neg : Nat) : Int) ∧ (m = 0 ∧ neg = false ∨ (yK f - 2) * 2 ^ fm f ≤ m ∧ m < (yK f + 2) * 2 ^ fm f) := by
 unfold fF.f
 by_cases c : Int.tmod (a : Int) 7 = 0
 ·rw [if_pos c]
  exact ⟨0, false, rfl, .inl ⟨rfl, rfl⟩⟩
 ·rw [if_neg c, fA, Option.bind_some]
  dsimp only
  obtain ⟨s1, s2, s3⟩ := mild_shl f
  obtain ⟨r1, r2⟩ := aAq f
  have hb := dN f
  have h31 := dU (show fe f + fm f ≤ 31 by omega)
  have hp := Nat.two_pow_pos (fm f)
  rw [s1, s2, s3, if_pos (Int.natCast_nonneg _), if_pos (Int.natCast_nonneg _), if_neg (by omega), aAB _ _ _ r2 (by omega) hp]
  have hm := Nat.mod_lt (a / 8) (show 4 * 2 ^ fm f > 0 by omega)
  have h2 : (yK f - 2) * 2 ^ fm f = yK f * 2 ^ fm f - 2 * 2 ^ fm f := Nat.sub_mul _ _ _
  have h3 : (yK f + 2) * 2 ^ fm f = yK f * 2 ^ fm f + 2 * 2 ^ fm f := Nat.add_mul _ _ _
  generalize hM : yK f * 2 ^ fm f - 2 * 2 ^ fm f + a / 8 % (4 * 2 ^ fm f) = m at *
  by_cases d : Go.bits .and .u32 (a : Int) 1 = 1
  ·rw [if_pos d, jE, Option.bind_some, or_sign f m (by omega)]
   exact ⟨m, true, rfl, .inr ⟨by omega, by omega⟩⟩
  ·rw [if_neg d]
   exact ⟨m, false, rfl, .inr ⟨by omega, by omega⟩⟩
/- Small whole numbers as numbers: plain numbers alone. -/

theorem nP (f mode : Int) (neg : Bool) (x : Int) (s j : Nat) : fI f mode neg x (s * 2 ^ j) false = fI f mode neg (x + j) s false ∧ kY f mode neg x (s * 2 ^ j) false = kY f mode neg (x + j) s false := by
 have hk := aA6 f mode neg x s j
 have hr := uI f x s j
 have hu : dP f x (s * 2 ^ j) = dP f (x + j) s := by unfold dP; rw [hr]
 have hl := (wM s j (dP f (x + j) s - x)).2
 rw [show dP f (x + j) s - x - j = dP f (x + j) s - (x + j) by omega] at hl
 have hi : lT f x (s * 2 ^ j) false = lT f (x + j) s false := by unfold lT; rw [hu, hl]
 have hun : nA f x (s * 2 ^ j) false = nA f (x + j) s false := by
  unfold nA
  rw [hi]
  congr 1
  by_cases c : s = 0
  ·subst c; simp
  ·rw [decide_eq_false c, decide_eq_false (Nat.mul_ne_zero c (Nat.ne_of_gt (Nat.two_pow_pos j))), oW s j c]
   congr 1; apply decide_eq_decide.mpr; omega
 unfold fI kY
 rw [hk, hi, hun]; exact ⟨rfl, rfl⟩
theorem zero_all (f : Int) (b : Bool) : bM f (eP f b) = 0 ∧ dB f (eP f b) = b ∧ eP f b < 4294967296 := by
 have hb := dN f
 have h31 := dU (show fe f + fm f ≤ 31 by omega)
 have hp := Nat.two_pow_pos (fm f)
 obtain ⟨p1, p2, p3⟩ := qB f 0 b (Nat.two_pow_pos _)
 obtain ⟨q1, q2⟩ := oZ f (0 + eP f b)
 rw [p2] at q1 q2
 rw [Nat.zero_add] at *
 refine ⟨?_, p1, ?_⟩
 ·unfold bM; rw [← q1, ← q2, Nat.zero_div, Nat.zero_mod]; rfl
 ·unfold eP; split <;> omega
theorem inf_all (f : Int) (b : Bool) : bM f (nG f b) = 3 ∧ dB f (nG f b) = b ∧ nG f b < 4294967296 := by
 obtain ⟨i1, i2⟩ := infK_lt f
 obtain ⟨p1, p2, p3⟩ := qB f (infK f) b i1
 exact ⟨mag_cls f _ p2, p1, (lV f b).1⟩
/- Sums as whole numbers of many bits: plain numbers alone. -/

def iV (n1 : Bool) (X : Nat) (n2 : Bool) (Y : Nat) : Bool × Nat := if n1 = n2 then (n1, X + Y) else if X < Y then (n2, Y - X) else (n1, X - Y)
theorem meet_add (f mode : Int) (n : Bool) (Ea Eb m : Int) (A B : Nat) (hm : m ≤ Eb) (h : Eb ≤ Ea) (a1 : 2305843009213693952 ≤ A) :
    (A * 2 ^ (Ea - m).toNat + B * 2 ^ (Eb - m).toNat ≠ 0) ∧ ¬ ((gU n Ea A n Eb B).2.2 = (0, false)) ∧ (gU n Ea A n Eb B).1 = n ∧
    fI f mode n (gU n Ea A n Eb B).2.1 (gU n Ea A n Eb B).2.2.1 (gU n Ea A n Eb B).2.2.2 = fI f mode n m (A * 2 ^ (Ea - m).toNat + B * 2 ^ (Eb - m).toNat) false ∧
    kY f mode n (gU n Ea A n Eb B).2.1 (gU n Ea A n Eb B).2.2.1 (gU n Ea A n Eb B).2.2.2 = kY f mode n m (A * 2 ^ (Ea - m).toNat + B * 2 ^ (Eb - m).toNat) false := by
  have hb := dN f
  have hp : 2 ^ (fm f + 1) ≤ 2 ^ 24 := Nat.pow_le_pow_right (by decide) (by omega)
  have hr : gU n Ea A n Eb B = (n, Ea, A + B / 2 ^ (Ea - Eb).toNat, decide (B % 2 ^ (Ea - Eb).toNat ≠ 0)) := by unfold gU; rw [if_pos rfl]
  have hs := tL m Eb Ea hm h
  rw [hr]
  dsimp only
  have hd : 0 < 2 ^ (Ea - Eb).toNat := Nat.two_pow_pos _
  have hu : 0 < 2 ^ (Eb - m).toNat := Nat.two_pow_pos _
  have hdm := Nat.div_add_mod B (2 ^ (Ea - Eb).toNat)
  have ht := Nat.mod_lt B hd
  obtain ⟨q, hq⟩ : ∃ q, B / 2 ^ (Ea - Eb).toNat = q := ⟨_, rfl⟩
  obtain ⟨t, htt⟩ : ∃ t, B % 2 ^ (Ea - Eb).toNat = t := ⟨_, rfl⟩
  rw [hq, htt] at hdm ⊢
  rw [htt] at ht
  have e : A * 2 ^ (Ea - m).toNat + B * 2 ^ (Eb - m).toNat = ((A + q) * 2 ^ (Ea - Eb).toNat + t) * 2 ^ (Eb - m).toNat := by
    rw [hs, ← Nat.mul_assoc, ← Nat.add_mul, Nat.add_mul A, Nat.add_assoc, Nat.mul_comm q, hdm]
  obtain ⟨p1, p2⟩ := nP f mode n m ((A + q) * 2 ^ (Ea - Eb).toNat + t) (Eb - m).toNat
  obtain ⟨q1, q2⟩ := lD f mode n Eb (A + q) t (Ea - Eb).toNat false ht (by omega)
  rw [show m + ((Eb - m).toNat : Int) = Eb by omega] at p1 p2
  rw [show Eb + ((Ea - Eb).toNat : Int) = Ea by omega, Bool.false_or] at q1 q2
  refine ⟨?_, fun z => ?_, rfl, ?_, ?_⟩
  · have := Nat.mul_le_mul a1 (Nat.two_pow_pos (Ea - m).toNat); omega
  · have := (Prod.mk.inj z).1; omega
  · rw [e, p1, q1]
  · rw [e, p2, q2]
theorem aBn (f mode : Int) (n n' : Bool) (hn : n ≠ n') (Ea Eb m : Int) (A B : Nat) (hm : m ≤ Eb) (h : Eb ≤ Ea) (_ : Ea = Eb → B ≤ A) (a1 : 2305843009213693952 ≤ A) (b2 : B < 4611686018427387904) (b4 : B % 4 = 0) :
    (A * 2 ^ (Ea - m).toNat - B * 2 ^ (Eb - m).toNat = 0 ↔ (gU n Ea A n' Eb B).2.2 = (0, false)) ∧ (gU n Ea A n' Eb B).1 = n ∧
    (A * 2 ^ (Ea - m).toNat - B * 2 ^ (Eb - m).toNat ≠ 0 → fI f mode n (gU n Ea A n' Eb B).2.1 (gU n Ea A n' Eb B).2.2.1 (gU n Ea A n' Eb B).2.2.2 = fI f mode n m (A * 2 ^ (Ea - m).toNat - B * 2 ^ (Eb - m).toNat) false ∧
    kY f mode n (gU n Ea A n' Eb B).2.1 (gU n Ea A n' Eb B).2.2.1 (gU n Ea A n' Eb B).2.2.2 = kY f mode n m (A * 2 ^ (Ea - m).toNat - B * 2 ^ (Eb - m).toNat) false) := by
  have hb := dN f
  have hp : 2 ^ (fm f + 1) ≤ 2 ^ 24 := Nat.pow_le_pow_right (by decide) (by omega)
  have hr : gU n Ea A n' Eb B = (n, Ea, A - B / 2 ^ (Ea - Eb).toNat - (if B % 2 ^ (Ea - Eb).toNat ≠ 0 then 1 else 0), decide (B % 2 ^ (Ea - Eb).toNat ≠ 0)) := by unfold gU; rw [if_neg hn]
  have hs := tL m Eb Ea hm h
  rw [hr]
  dsimp only
  have hd : 0 < 2 ^ (Ea - Eb).toNat := Nat.two_pow_pos _
  have hu : 0 < 2 ^ (Eb - m).toNat := Nat.two_pow_pos _
  have hdm := Nat.div_add_mod B (2 ^ (Ea - Eb).toNat)
  have ht := Nat.mod_lt B hd
  have hX : A * 2 ^ (Ea - m).toNat - B * 2 ^ (Eb - m).toNat = (A * 2 ^ (Ea - Eb).toNat - B) * 2 ^ (Eb - m).toNat := by rw [hs, ← Nat.mul_assoc, ← Nat.sub_mul]
  by_cases t0 : B % 2 ^ (Ea - Eb).toNat = 0
  · rw [if_neg (show ¬ (B % 2 ^ (Ea - Eb).toNat ≠ 0) by omega), decide_eq_false (show ¬ (B % 2 ^ (Ea - Eb).toNat ≠ 0) by omega), Nat.sub_zero]
    have e : A * 2 ^ (Ea - m).toNat - B * 2 ^ (Eb - m).toNat = (A - B / 2 ^ (Ea - Eb).toNat) * 2 ^ (Ea - m).toNat := by
      rw [hX, hs, ← Nat.mul_assoc, Nat.sub_mul A]
      congr 2
      rw [t0, Nat.add_zero, Nat.mul_comm] at hdm
      exact hdm.symm
    obtain ⟨p1, p2⟩ := nP f mode n m (A - B / 2 ^ (Ea - Eb).toNat) (Ea - m).toNat
    rw [show m + ((Ea - m).toNat : Int) = Ea by omega] at p1 p2
    rw [e]
    have hw : 0 < 2 ^ (Ea - m).toNat := Nat.two_pow_pos _
    refine ⟨⟨fun z => ?_, fun z => ?_⟩, rfl, fun _ => ⟨p1.symm, p2.symm⟩⟩
    · rcases Nat.mul_eq_zero.mp z with z | z
      · rw [z]
      · omega
    · rw [(Prod.mk.inj z).1, Nat.zero_mul]
  · rw [if_pos t0, decide_eq_true (show B % 2 ^ (Ea - Eb).toNat ≠ 0 from t0)]
    have h3 : 3 ≤ (Ea - Eb).toNat := by
      rcases Nat.lt_or_ge (Ea - Eb).toNat 3 with c | c
      · exfalso
        have : (Ea - Eb).toNat = 0 ∨ (Ea - Eb).toNat = 1 ∨ (Ea - Eb).toNat = 2 := by omega
        rcases this with c | c | c <;> rw [c] at t0 <;> simp at t0 <;> omega
      · exact c
    have h8 : 2 ^ 3 ≤ 2 ^ (Ea - Eb).toNat := Nat.pow_le_pow_right (by decide) h3
    have hq : B / 2 ^ (Ea - Eb).toNat ≤ B / 2 ^ 3 := Nat.div_le_div_left h8 (by decide)
    have e : A * 2 ^ (Ea - m).toNat - B * 2 ^ (Eb - m).toNat = ((A - B / 2 ^ (Ea - Eb).toNat - 1) * 2 ^ (Ea - Eb).toNat + (2 ^ (Ea - Eb).toNat - B % 2 ^ (Ea - Eb).toNat)) * 2 ^ (Eb - m).toNat := by
      rw [hX]
      congr 1
      generalize 2 ^ (Ea - Eb).toNat = D at *
      generalize hqq : B / D = q at *
      generalize B % D = t at *
      have h1 : (A - q - 1) * D + D = (A - q) * D := by
        rw [← Nat.succ_mul]; congr 1; omega
      have h2 : (A - q) * D = A * D - D * q := by rw [Nat.sub_mul, Nat.mul_comm q]
      have h4 : D * q + D ≤ A * D := by
        rw [← Nat.mul_succ, Nat.mul_comm A]; exact Nat.mul_le_mul_left _ (by omega)
      omega
    have hqb : B / 2 ^ (Ea - Eb).toNat ≤ 576460752303423488 := by omega
    obtain ⟨p1, p2⟩ := nP f mode n m ((A - B / 2 ^ (Ea - Eb).toNat - 1) * 2 ^ (Ea - Eb).toNat + (2 ^ (Ea - Eb).toNat - B % 2 ^ (Ea - Eb).toNat)) (Eb - m).toNat
    obtain ⟨q1, q2⟩ := lD f mode n Eb (A - B / 2 ^ (Ea - Eb).toNat - 1) (2 ^ (Ea - Eb).toNat - B % 2 ^ (Ea - Eb).toNat) (Ea - Eb).toNat false (by omega) (by omega)
    rw [show m + ((Eb - m).toNat : Int) = Eb by omega] at p1 p2
    rw [show Eb + ((Ea - Eb).toNat : Int) = Ea by omega, Bool.false_or, decide_eq_true (show 2 ^ (Ea - Eb).toNat - B % 2 ^ (Ea - Eb).toNat ≠ 0 by omega)] at q1 q2
    rw [e]
    refine ⟨⟨fun z => ?_, fun z => ?_⟩, rfl, fun _ => ⟨by rw [p1, q1], by rw [p2, q2]⟩⟩
    · exfalso
      rcases Nat.mul_eq_zero.mp z with z | z <;> omega
    · have := (Prod.mk.inj z).2; cases this
theorem pX (f mode : Int) (n1 : Bool) (e1 : Int) (s1 : Nat) (n2 : Bool) (e2 : Int) (s2 : Nat) (l1 : -298 ≤ e1) (l2 : -298 ≤ e2) (h1 : s1 < 1152921504606846976) (h2 : s2 < 1152921504606846976) :
    fG f mode n1 n2 (lL n1 e1 s1 n2 e2 s2) = (if (iV n1 (s1 * 2 ^ (e1 + 298).toNat) n2 (s2 * 2 ^ (e2 + 298).toNat)).2 = 0 then mU f mode n1 n2 else fI f mode (iV n1 (s1 * 2 ^ (e1 + 298).toNat) n2 (s2 * 2 ^ (e2 + 298).toNat)).1 (-298) (iV n1 (s1 * 2 ^ (e1 + 298).toNat) n2 (s2 * 2 ^ (e2 + 298).toNat)).2 false) ∧
    fV f mode (lL n1 e1 s1 n2 e2 s2) = (if (iV n1 (s1 * 2 ^ (e1 + 298).toNat) n2 (s2 * 2 ^ (e2 + 298).toNat)).2 = 0 then (false, false, false) else kY f mode (iV n1 (s1 * 2 ^ (e1 + 298).toNat) n2 (s2 * 2 ^ (e2 + 298).toNat)).1 (-298) (iV n1 (s1 * 2 ^ (e1 + 298).toNat) n2 (s2 * 2 ^ (e2 + 298).toNat)).2 false) := by
  have one : ∀ (n : Bool) (e : Int) (s : Nat), -298 ≤ e → fI f mode n (-298) (s * 2 ^ (e + 298).toNat) false = fI f mode n e s false ∧ kY f mode n (-298) (s * 2 ^ (e + 298).toNat) false = kY f mode n e s false := fun n e s h => by
    have := nP f mode n (-298) s (e + 298).toNat
    rwa [show (-298 : Int) + ((e + 298).toNat : Int) = e by omega] at this
  have pos : ∀ (e : Int) (s : Nat), s ≠ 0 → s * 2 ^ (e + 298).toNat ≠ 0 := fun e s h => Nat.mul_ne_zero h (by have := Nat.two_pow_pos (e + 298).toNat; omega)
  unfold lL fG fV
  by_cases z1 : s1 = 0
  · subst z1
    rw [if_pos rfl, Nat.zero_mul]
    by_cases z2 : s2 = 0
    · subst z2
      have hw : (iV n1 0 n2 (0 * 2 ^ (e2 + 298).toNat)).2 = 0 := by unfold iV; rw [Nat.zero_mul]; split <;> rfl
      rw [if_pos rfl, if_pos hw, if_pos rfl, if_pos hw]; exact ⟨rfl, rfl⟩
    · have hw : iV n1 0 n2 (s2 * 2 ^ (e2 + 298).toNat) = (n2, s2 * 2 ^ (e2 + 298).toNat) := by
        unfold iV
        by_cases n : n1 = n2
        · rw [if_pos n, n, Nat.zero_add]
        · rw [if_neg n, if_pos (Nat.pos_of_ne_zero (pos e2 s2 z2)), Nat.sub_zero]
      have hne : ¬ (s2, false) = (0, false) := fun e => z2 (Prod.mk.inj e).1
      rw [hw, if_neg hne, if_neg hne, if_neg (pos e2 s2 z2), if_neg (pos e2 s2 z2)]
      exact ⟨(one n2 e2 s2 l2).1.symm, (one n2 e2 s2 l2).2.symm⟩
  · rw [if_neg z1]
    by_cases z2 : s2 = 0
    · subst z2
      have hw : iV n1 (s1 * 2 ^ (e1 + 298).toNat) n2 (0 * 2 ^ (e2 + 298).toNat) = (n1, s1 * 2 ^ (e1 + 298).toNat) := by
        unfold iV
        rw [Nat.zero_mul]
        by_cases n : n1 = n2
        · rw [if_pos n, Nat.add_zero]
        · rw [if_neg n, if_neg (Nat.not_lt_zero _), Nat.sub_zero]
      have hne : ¬ (s1, false) = (0, false) := fun e => z1 (Prod.mk.inj e).1
      rw [if_pos rfl, hw, if_neg hne, if_neg hne, if_neg (pos e1 s1 z1), if_neg (pos e1 s1 z1)]
      exact ⟨(one n1 e1 s1 l1).1.symm, (one n1 e1 s1 l1).2.symm⟩
    · rw [if_neg z2]
      obtain ⟨a1, a2, a3, a4⟩ := jW s1 z1 (by omega)
      obtain ⟨b1, b2, b3, b4⟩ := jW s2 z2 (by omega)
      have k1 := fO s1 60 h1
      have k2 := fO s2 60 h2
      have m1 : s1 * 2 ^ kI s1 % 4 = 0 := by
        rw [show kI s1 = (kI s1 - 2) + 2 by omega, Nat.pow_add, ← Nat.mul_assoc]; exact Nat.mul_mod_left _ _
      have m2 : s2 * 2 ^ kI s2 % 4 = 0 := by
        rw [show kI s2 = (kI s2 - 2) + 2 by omega, Nat.pow_add, ← Nat.mul_assoc]; exact Nat.mul_mod_left _ _
      have up1 : s1 * 2 ^ kI s1 * 2 ^ (e1 - (kI s1 : Int) - (-400)).toNat = s1 * 2 ^ (e1 + 298).toNat * 2 ^ 102 := by
        rw [Nat.mul_assoc, ← Nat.pow_add, Nat.mul_assoc, ← Nat.pow_add]; congr 2; omega
      have up2 : s2 * 2 ^ kI s2 * 2 ^ (e2 - (kI s2 : Int) - (-400)).toNat = s2 * 2 ^ (e2 + 298).toNat * 2 ^ 102 := by
        rw [Nat.mul_assoc, ← Nat.pow_add, Nat.mul_assoc, ← Nat.pow_add]; congr 2; omega
      have E1 : -400 ≤ e1 - (kI s1 : Int) := by omega
      have E2 : -400 ≤ e2 - (kI s2 : Int) := by omega
      have down : ∀ (n : Bool) (W : Nat), fI f mode n (-400) (W * 2 ^ 102) false = fI f mode n (-298) W false ∧ kY f mode n (-400) (W * 2 ^ 102) false = kY f mode n (-298) W false := fun n W => nP f mode n (-400) W 102
      clear one k1 k2 a1 a2 b1 b2
      have X0 := pos e1 s1 z1
      have Y0 := pos e2 s2 z2
      generalize s1 * 2 ^ (e1 + 298).toNat = X at *
      generalize s2 * 2 ^ (e2 + 298).toNat = Y at *
      generalize e1 - (kI s1 : Int) = F at *
      generalize e2 - (kI s2 : Int) = G at *
      generalize s1 * 2 ^ kI s1 = A at *
      generalize s2 * 2 ^ kI s2 = B at *
      have p102 : 0 < 2 ^ 102 := Nat.two_pow_pos _
      -- two that stand in their order
      have main : ∀ (n n' : Bool) (F G : Int) (A B X Y : Nat), G ≤ F → (F = G → B ≤ A) → -400 ≤ G → 2305843009213693952 ≤ A → B < 4611686018427387904 → B % 4 = 0 → A * 2 ^ (F - (-400)).toNat = X * 2 ^ 102 → B * 2 ^ (G - (-400)).toNat = Y * 2 ^ 102 → X ≠ 0 →
          ∀ (w : Bool × Nat), w = (if n = n' then (n, X + Y) else (n, X - Y)) → ∀ (a b : Bool),
          (if (gU n F A n' G B).2.2 = (0, false) then mU f mode a b else fI f mode (gU n F A n' G B).1 (gU n F A n' G B).2.1 (gU n F A n' G B).2.2.1 (gU n F A n' G B).2.2.2) = (if w.2 = 0 then mU f mode a b else fI f mode w.1 (-298) w.2 false) ∧
          (if (gU n F A n' G B).2.2 = (0, false) then (false, false, false) else kY f mode (gU n F A n' G B).1 (gU n F A n' G B).2.1 (gU n F A n' G B).2.2.1 (gU n F A n' G B).2.2.2) = (if w.2 = 0 then (false, false, false) else kY f mode w.1 (-298) w.2 false) := by
        intro n n' F G A B X Y hGF h0 hG hA hB hB4 hX hY hX0 w hw a b
        by_cases c : n = n'
        · subst c
          rw [if_pos rfl] at hw
          subst hw
          obtain ⟨r1, r2, r3, r4, r5⟩ := meet_add f mode n F G (-400) A B hG hGF hA
          rw [hX, hY, ← Nat.add_mul] at r4 r5
          rw [(down n (X + Y)).1] at r4
          rw [(down n (X + Y)).2] at r5
          rw [if_neg r2, if_neg r2, r3, r4, r5]
          dsimp only
          rw [if_neg (show ¬ X + Y = 0 by omega), if_neg (show ¬ X + Y = 0 by omega)]
          exact ⟨rfl, rfl⟩
        · rw [if_neg c] at hw
          subst hw
          obtain ⟨r1, r2, r3⟩ := aBn f mode n n' c F G (-400) A B hG hGF h0 hA hB hB4
          rw [hX, hY, ← Nat.sub_mul] at r1 r3
          dsimp only
          by_cases z : X - Y = 0
          · rw [if_pos (r1.mp (by rw [z, Nat.zero_mul])), if_pos (r1.mp (by rw [z, Nat.zero_mul])), if_pos z, if_pos z]
            exact ⟨rfl, rfl⟩
          · have z' : (X - Y) * 2 ^ 102 ≠ 0 := Nat.mul_ne_zero z (by omega)
            obtain ⟨r4, r5⟩ := r3 z'
            rw [(down n (X - Y)).1] at r4
            rw [(down n (X - Y)).2] at r5
            rw [if_neg (fun e => z' (r1.mpr e)), if_neg (fun e => z' (r1.mpr e)), if_neg z, if_neg z, r2, r4, r5]
            exact ⟨rfl, rfl⟩
      have ord : ∀ (F G : Int) (A B X Y : Nat), 2305843009213693952 ≤ B → A < 4611686018427387904 → -400 ≤ F → A * 2 ^ (F - (-400)).toNat = X * 2 ^ 102 → B * 2 ^ (G - (-400)).toNat = Y * 2 ^ 102 → (F < G ∨ F = G ∧ A < B) → X < Y := by
        intro F G A B X Y hB hA hF hX hY c
        refine Nat.lt_of_mul_lt_mul_right (a := 2 ^ 102) ?_
        rw [← hX, ← hY]
        rcases c with c | ⟨rfl, c⟩
        · have hs : 2 ^ (G - (-400)).toNat = 2 ^ (G - F).toNat * 2 ^ (F - (-400)).toNat := tL (-400) F G hF (by omega)
          have h2 : 2 ^ 1 ≤ 2 ^ (G - F).toNat := Nat.pow_le_pow_right (by decide) (by omega)
          rw [hs, ← Nat.mul_assoc]
          refine Nat.mul_lt_mul_of_pos_right ?_ (Nat.two_pow_pos _)
          have := Nat.mul_le_mul hB h2
          omega
        · exact Nat.mul_lt_mul_of_pos_right c (Nat.two_pow_pos _)
      by_cases c : F < G ∨ F = G ∧ A < B
      · rw [if_pos c]
        have hlt := ord F G A B X Y b3 a4 E1 up1 up2 c
        have hw : iV n1 X n2 Y = (if n2 = n1 then (n2, Y + X) else (n2, Y - X)) := by
          unfold iV
          by_cases n : n1 = n2
          · rw [if_pos n, if_pos n.symm, n, Nat.add_comm]
          · rw [if_neg n, if_pos hlt, if_neg (show ¬ n2 = n1 from fun e => n e.symm)]
        exact main n2 n1 G F B A Y X (by omega) (by omega) E1 b3 a4 m1 up2 up1 Y0 _ hw n1 n2
      · rw [if_neg c]
        have hle : ¬ X < Y := by
          intro hlt
          by_cases c' : G < F ∨ G = F ∧ B < A
          · have := ord G F B A Y X a3 b4 E2 up2 up1 c'; omega
          · obtain rfl : F = G := by omega
            obtain rfl : A = B := by omega
            have h5 := up1.symm.trans up2
            have := Nat.eq_of_mul_eq_mul_right p102 h5
            omega
        have hw : iV n1 X n2 Y = (if n1 = n2 then (n1, X + Y) else (n1, X - Y)) := by
          unfold iV
          by_cases n : n1 = n2
          · rw [if_pos n, if_pos n]
          · rw [if_neg n, if_neg n, if_neg hle]
        exact main n1 n2 F G A B X Y (by omega) (by omega) E2 a3 b4 m2 up1 up2 X0 _ hw n1 n2
end Go.Proofs.YtfapjegkilljnaaGreat.Round

/- The reference's loops of layer 1: how many bits, shifts. -/
namespace Go.Proofs.YtfapjegkilljnaaGreat.BitsF
open Go.RowKit Go.Proofs.YtfapjegkilljnaaGreat.P Go.Proofs.YtfapjegkilljnaaGreat.Num Go.Proofs.YtfapjegkilljnaaGreatW.PrintWords Go.Proofs.YtfapjegkilljnaaGreatW.PrintLast Go.Proofs.YtfapjegkilljnaaGreatW.PrintMore

theorem aAo (j : Nat) : ∀ v c k : Nat, v < 2 ^ j → c + j ≤ 64 → aS.l0 (j + 1 + k) (v : Int) (c : Int) = some ((c + fK v : Nat) : Int) := by
 induction j with
 |zero =>
  intro v c k h _
  obtain rfl : v = 0 := by rw [Nat.pow_zero] at h; omega
  rw [show 0 + 1 + k = k + 1 by omega, aS.l0, if_neg (by decide)]; rfl
 |succ j ih =>
  intro v c k h hc
  rw [show j + 1 + 1 + k = (j + 1 + k) + 1 by omega, aS.l0]
  by_cases hv : v = 0
  ·subst hv; rw [if_neg (by decide)]; rfl
  ·rw [if_pos (by omega), show (v : Int) / 2 = ((v / 2 : Nat) : Int) by omega, bW _ (by omega) (by omega), show (c : Int) + 1 = ((c + 1 : Nat) : Int) by omega, ih _ _ k (by rw [Nat.pow_succ] at h; omega) (by omega), aA1 v hv]
   congr 2; omega
theorem qL (v : Nat) (hv : v < 18446744073709551616) : Ev (fun k => aS.f k (v : Int)) (fK v : Int) :=
 Ev.of (aS.mono _) (k := 65) (by
  have h := aAo 64 v 0 0 (by omega) (by decide)
  rw [Nat.zero_add, show 64 + 1 + 0 = 65 from rfl] at h
  unfold aS.f
  exact h)
theorem aAb (v j : Nat) : v / 2 / 2 ^ j = v / 2 ^ (j + 1) := by rw [Nat.div_div_eq_div_mul, Nat.pow_succ, Nat.mul_comm 2]
theorem aCl (v j : Nat) : (decide (v % 2 ≠ 0) || decide (v / 2 % 2 ^ j ≠ 0)) = decide (v % 2 ^ (j + 1) ≠ 0) := by
 have e : v % 2 ^ (j + 1) = v % 2 + 2 * (v / 2 % 2 ^ j) := by rw [Nat.pow_succ, Nat.mul_comm, Nat.mod_mul]
 rw [← Bool.decide_or]
 congr 1; apply propext
 have hz : ∀ z : Nat, v / 2 % 2 ^ j = z → (v % 2 ≠ 0 ∨ z ≠ 0 ↔ v % 2 + 2 * z ≠ 0) := by intro z _; omega
 rw [e]; exact hz _ rfl
theorem qP (j : Nat) : ∀ (v k : Nat) (b : Bool), v < 18446744073709551616 → j ≤ 64 →
  aL.l1 (j + 1 + k) (v : Int) (-(j : Int)) b = some (((v * 2 ^ j % 18446744073709551616 : Nat) : Int), b || decide (18446744073709551616 ≤ v * 2 ^ j)) := by
 induction j with
 |zero =>
  intro v k b hv _
  rw [show 0 + 1 + k = k + 1 by omega, aL.l1, if_neg (by decide), Nat.pow_zero, Nat.mul_one, Nat.mod_eq_of_lt hv, decide_eq_false (by omega), Bool.or_false]
 |succ j ih =>
  intro v k b hv hj
  have e1 : wrap64 (-((j + 1 : Nat) : Int) + 1) = -(j : Int) := by rw [bW] <;> omega
  have e2 : IntKind.u64.wrap ((v : Int) * 2) = ((v * 2 % 18446744073709551616 : Nat) : Int) := by rw [show (v : Int) * 2 = ((v * 2 : Nat) : Int) by omega, vV]
  have e3 : (((v : Int) / 9223372036854775808 == 1) : Bool) = decide (9223372036854775808 ≤ v) := by
   by_cases h : 9223372036854775808 ≤ v
   ·rw [decide_eq_true h, beq_iff_eq]; omega
   ·rw [decide_eq_false h, beq_eq_false_iff_ne]; omega
  have e4 : v * 2 % 18446744073709551616 * 2 ^ j % 18446744073709551616 = v * 2 ^ (j + 1) % 18446744073709551616 := by
   rw [Nat.mod_mul_mod, Nat.mul_assoc, ← Nat.pow_succ']
  have e5 : ∀ b : Bool, ((b || decide (9223372036854775808 ≤ v)) || decide (18446744073709551616 ≤ v * 2 % 18446744073709551616 * 2 ^ j)) = (b || decide (18446744073709551616 ≤ v * 2 ^ (j + 1))) := by
   intro b
   rw [Bool.or_assoc, ← Bool.decide_or]
   congr 2
   apply propext
   rw [show v * 2 ^ (j + 1) = v * 2 * 2 ^ j by rw [Nat.mul_assoc, ← Nat.pow_succ']]
   have hp := Nat.two_pow_pos j
   constructor
   ·rintro (h | h)
    ·calc 18446744073709551616 ≤ v * 2 * 1 := by omega
      _ ≤ v * 2 * 2 ^ j := Nat.mul_le_mul_left _ hp
    ·exact Nat.le_trans h (Nat.mul_le_mul_right _ (Nat.mod_le _ _))
   ·intro h
    by_cases h' : 9223372036854775808 ≤ v
    ·exact .inl h'
    ·right; rw [Nat.mod_eq_of_lt (by omega)]; exact h
  rw [show j + 1 + 1 + k = (j + 1 + k) + 1 by omega, aL.l1, if_pos (by omega), e1, e2, e3]
  by_cases hb : b = true
  ·subst hb
   rw [if_pos rfl, ih _ k true (Nat.mod_lt _ (by decide)) (by omega), e4]
   simp only [Bool.true_or]
  ·rw [if_neg hb, ih _ k _ (Nat.mod_lt _ (by decide)) (by omega), e4]
   have : b = false := by simpa using hb
   subst this
   have := e5 false
   simp only [Bool.false_or] at this ⊢
   rw [this]
theorem xA (j : Nat) : ∀ (v k : Nat) (b : Bool), v < 18446744073709551616 → j ≤ 64 →
  aL.l0 (j + 2 + k) (v : Int) (j : Int) b = some (((v / 2 ^ j : Nat) : Int), b || decide (v % 2 ^ j ≠ 0)) := by
 induction j with
 |zero =>
  intro v k b hv _
  have h := qP 0 v k b hv (by decide)
  rw [show 0 + 2 + k = (0 + 1 + k) + 1 by omega, aL.l0, if_neg (by decide), show ((0 : Nat) : Int) = -((0 : Nat) : Int) by rfl, h]
  simp [Nat.mod_one]; omega
 |succ j ih =>
  intro v k b hv hj
  have e1 : wrap64 (((j + 1 : Nat) : Int) - 1) = (j : Int) := by rw [bW] <;> omega
  have e3 : ((Go.bits .and .u64 (v : Int) 1 == 1) : Bool) = decide (v % 2 ≠ 0) := by
   rw [o8 v hv]
   by_cases h : v % 2 ≠ 0
   ·rw [decide_eq_true h, beq_iff_eq]; omega
   ·rw [decide_eq_false h, beq_eq_false_iff_ne]; omega
  rw [show j + 1 + 2 + k = (j + 2 + k) + 1 by omega, aL.l0, if_pos (by omega), e1, e3, show (v : Int) / 2 = ((v / 2 : Nat) : Int) by omega]
  have o := aCl v j
  by_cases hb : b = true
  ·subst hb
   rw [if_pos rfl, ih _ k true (by omega) (by omega), aAb]
   simp only [Bool.true_or]
  ·rw [if_neg hb, ih _ k _ (by omega) (by omega), aAb, o]
   have : b = false := by simpa using hb
   subst this
   rfl
theorem qU (v : Nat) (hv : v < 18446744073709551616) (n : Int) :
  Ev (fun k => aL.f k (v : Int) n) ((((lN v n).1 : Nat) : Int), (lN v n).2) := by
 refine Ev.of (aL.mono _ _) (k := 67) ?_
 unfold aL.f
 by_cases c : 0 ≤ n
 ·obtain ⟨m, rfl⟩ := lU c
  have e : mn (mx (m : Int) (-64)) 64 = ((min m 64 : Nat) : Int) := by unfold mn mx; split <;> split <;> omega
  have h := xA (min m 64) v (65 - min m 64) false hv (by omega)
  rw [show min m 64 + 2 + (65 - min m 64) = 67 by omega] at h
  rw [e, h, jD]
  by_cases c' : m ≤ 64
  ·rw [Nat.min_eq_left c']; rfl
  ·have b1 := nQ (show 64 ≤ m by omega)
   rw [Nat.min_eq_right (by omega), Nat.div_eq_of_lt (show v < 2 ^ 64 by omega), Nat.mod_eq_of_lt (show v < 2 ^ 64 by omega), Nat.div_eq_of_lt (show v < 2 ^ m by omega), Nat.mod_eq_of_lt (show v < 2 ^ m by omega)]; rfl
 ·obtain ⟨m, hm⟩ := lU (show 0 ≤ -n by omega)
  obtain rfl : n = -(m : Int) := by omega
  have e : mn (mx (-(m : Int)) (-64)) 64 = -((min m 64 : Nat) : Int) := by unfold mn mx; split <;> split <;> omega
  have h := qP (min m 64) v (65 - min m 64) false hv (by omega)
  rw [show min m 64 + 1 + (65 - min m 64) = 66 by omega] at h
  rw [e, aL.l0, if_neg (by omega), h, lI _ _ hv]
  by_cases c' : m ≤ 64
  ·rw [Nat.min_eq_left c']; rfl
  ·rw [Nat.min_eq_right (by omega)]
   have b1 := nQ (show 64 ≤ m by omega)
   have e : (2 : Nat) ^ m = 18446744073709551616 * 2 ^ (m - 64) := by rw [show 18446744073709551616 = 2 ^ 64 from rfl, ← Nat.pow_add]; congr 1; omega
   have e1 : v * 2 ^ m % 18446744073709551616 = 0 := by rw [e, ← Nat.mul_assoc, Nat.mul_comm v, Nat.mul_assoc, Nat.mul_mod_right]
   rw [e1, show v * 2 ^ 64 % 18446744073709551616 = 0 by omega, Bool.false_or]
   congr 2
   apply decide_eq_decide.mpr
   constructor
   ·intro h1
    have : v ≠ 0 := by intro h0; subst h0; omega
    exact Nat.le_trans b1 (Nat.le_mul_of_pos_left _ (by omega))
   ·intro h1
    have : v ≠ 0 := by intro h0; subst h0; omega
    omega
end Go.Proofs.YtfapjegkilljnaaGreat.BitsF

/- What the reference's rounding computes: the same plain numbers. -/
namespace Go.Proofs.YtfapjegkilljnaaGreat.Round
open Go.RowKit Go.Proofs.YtfapjegkilljnaaGreat.P Go.Proofs.YtfapjegkilljnaaGreat.Num Go.Proofs.YtfapjegkilljnaaGreat.BitsF Go.Proofs.YtfapjegkilljnaaGreat.Fmt Go.Proofs.YtfapjegkilljnaaGreatW.PrintWords Go.Proofs.YtfapjegkilljnaaGreatW.PrintLast Go.Proofs.YtfapjegkilljnaaGreatW.PrintMore

theorem uA (f : Int) (neg : Bool) : eH.f f neg = some (pI f neg : Int) := by
 unfold eH.f pI
 obtain ⟨hi, _⟩ := lV f neg
 have ht := iE f
 have hp := Nat.two_pow_pos (fm f)
 have : 0 < gY f * 2 ^ fm f := Nat.mul_pos (by omega) hp
 rw [kD]; simp only [Option.bind_some]
 unfold nG at *
 congr 1; omega
theorem xB (s : Nat) (hs : s < 18446744073709551616) (d : Int) (h1 : -100000 ≤ d) (h2 : d ≤ 100000) (hq : d ≤ 0 → s * 2 ^ (-d).toNat < 18446744073709551616) :
  Ev (fun k => bI.f k (s : Int) d) ((jA s d : Int), decide (2 ≤ fT s d false), decide (fT s d false = 1 ∨ fT s d false = 3)) := by
 unfold bI.f
 by_cases c : d ≤ 0
 ·obtain ⟨m, hm⟩ := lU (show 0 ≤ -d by omega)
  have e : mn (wrap64 (-d)) 63 = ((min m 63 : Nat) : Int) := by rw [bW _ (by omega) (by omega), hm]; unfold mn; split <;> omega
  simp only [if_pos c, e, if_pos (show 0 ≤ ((min m 63 : Nat) : Int) by omega), iP false (.inl c)]
  have hq' := hq c
  rw [hm, Int.toNat_natCast] at hq'
  have e2 : IntKind.u64.wrap ((s : Int) * 2 ^ ((min m 63 : Nat) : Int).toNat) = (jA s d : Int) := by
   rw [Int.toNat_natCast, show (s : Int) * 2 ^ (min m 63) = ((s * 2 ^ (min m 63) : Nat) : Int) by simp, vV]
   unfold jA; rw [if_pos c, hm, Int.toNat_natCast]
   by_cases z : s = 0
   ·subst z; simp
   ·have : m ≤ 63 := by
     rcases Nat.lt_or_ge 63 m with h | h
     ·have := nQ (show 64 ≤ m by omega)
      have : 2 ^ m ≤ s * 2 ^ m := Nat.le_mul_of_pos_left _ (by omega)
      omega
     ·exact h
    rw [Nat.min_eq_left this, Nat.mod_eq_of_lt hq']
  rw [e2]
  exact Ev.now _
 ·obtain ⟨m, rfl⟩ := lU (show 0 ≤ d by omega)
  have hqe : jA s (m : Int) = s / 2 ^ m := by unfold jA; rw [if_neg c, Int.toNat_natCast]
  rw [hqe]
  simp only [if_neg c]
  by_cases c' : (m : Int) > 64
  ·simp only [if_pos c']
   have hb := nQ (show 64 ≤ m - 1 by omega)
   have hb2 := nQ (show 64 ≤ m by omega)
   have hl : fT s (m : Int) false = if s = 0 then 0 else 1 := by
    by_cases z : s = 0
    ·subst z; rw [iP _ (.inr (by simp))]; rfl
    ·rw [l8 _ c (by rw [Int.toNat_natCast, Nat.mod_eq_of_lt (by omega)]; exact z), Int.toNat_natCast, Nat.div_eq_of_lt (show s < 2 ^ (m - 1) by omega), if_neg z]; rfl
   rw [Nat.div_eq_of_lt (show s < 2 ^ m by omega), hl, show (0 : Int) = ((0 : Nat) : Int) from rfl, bne_cast]
   by_cases z : s = 0
   ·subst z; exact Ev.now _
   ·rw [if_neg z, decide_eq_true z]; exact Ev.now _
  ·have e : wrap64 ((m : Int) - 1) = ((m - 1 : Nat) : Int) := by rw [bW] <;> omega
   simp only [if_neg c', e]
   have hd : s / 2 ^ (m - 1) < 18446744073709551616 := Nat.lt_of_le_of_lt (Nat.div_le_self _ _) hs
   have s1 := qU s hs (m : Int)
   have s2 := qU s hs ((m - 1 : Nat) : Int)
   rw [jD] at s1 s2
   refine Ev.bind s1 (Ev.bind s2 (Ev.bind s2 ?_))
   rw [o8 _ hd]
   have em : s % 2 ^ m = s % 2 ^ (m - 1) + 2 ^ (m - 1) * (s / 2 ^ (m - 1) % 2) := by
    rw [show m = m - 1 + 1 by omega, Nat.pow_succ, Nat.mod_mul, Nat.add_sub_cancel]
   have hb1 : (((s / 2 ^ (m - 1) % 2 : Nat) : Int) == 1) = decide (2 ≤ fT s (m : Int) false) ∧ decide (s % 2 ^ (m - 1) ≠ 0) = decide (fT s (m : Int) false = 1 ∨ fT s (m : Int) false = 3) := by
    have hp := Nat.two_pow_pos (m - 1)
    by_cases z : s % 2 ^ m = 0
    ·rw [iP _ (.inr (by rw [Int.toNat_natCast]; exact z))]
     rw [z] at em
     have z1 : s % 2 ^ (m - 1) = 0 := by omega
     have z2 : s / 2 ^ (m - 1) % 2 = 0 := by
      have : 2 ^ (m - 1) * (s / 2 ^ (m - 1) % 2) = 0 := by omega
      rcases Nat.mul_eq_zero.mp this with h | h
      ·omega
      ·exact h
     rw [z1, z2]; exact ⟨rfl, rfl⟩
    ·rw [l8 _ c (by rw [Int.toNat_natCast]; exact z), Int.toNat_natCast]
     have hb : s / 2 ^ (m - 1) % 2 = 0 ∨ s / 2 ^ (m - 1) % 2 = 1 := by omega
     rcases hb with hb | hb
     ·rw [hb, Nat.mul_zero, Nat.add_zero] at em
      rw [em] at z
      rw [hb, decide_eq_true z]; exact ⟨rfl, rfl⟩
     ·rw [hb, if_neg (by decide)]
      by_cases w : s % 2 ^ (m - 1) = 0
      ·rw [w]; exact ⟨rfl, rfl⟩
      ·rw [if_pos (.inl w), decide_eq_true w]; exact ⟨rfl, rfl⟩
   simp only [hb1.1, hb1.2]
   exact Ev.now _
theorem aBS (s : Nat) (d : Int) : decide (2 ≤ fT s d true) = decide (2 ≤ fT s d false) ∧ (fT s d true = 1 ∨ fT s d true = 3) := by
 by_cases c : d ≤ 0 ∨ s % 2 ^ d.toNat = 0
 ·rw [iP _ c, iP _ c]; simp
 ·have c' := not_or.mp c
  rw [l8 _ c'.1 c'.2, l8 _ c'.1 c'.2]
  split
  ·simp
  ·simp; split <;> simp
theorem ref_up_f (mode : Int) (neg : Bool) (q left : Nat) (h : left ≤ 3) : eD.f mode neg (decide (q % 2 = 1)) (decide (2 ≤ left)) (decide (left = 1 ∨ left = 3)) = some (upN mode neg q left) := by
 unfold eD.f upN
 have hl : left = 0 ∨ left = 1 ∨ left = 2 ∨ left = 3 := by omega
 by_cases m1 : mode = 1
 ·rw [if_pos m1, if_pos m1]
 ·rw [if_neg m1, if_neg m1]
  by_cases m2 : mode = 2
  ·rw [if_pos m2, if_pos m2]; rcases hl with rfl | rfl | rfl | rfl <;> cases neg <;> rfl
  ·rw [if_neg m2, if_neg m2]
   by_cases m3 : mode = 3
   ·rw [if_pos m3, if_pos m3]; rcases hl with rfl | rfl | rfl | rfl <;> cases neg <;> rfl
   ·rw [if_neg m3, if_neg m3]
    by_cases m4 : mode = 4
    ·rw [if_pos m4, if_pos m4]
    ·rw [if_neg m4, if_neg m4]
     rcases hl with rfl | rfl | rfl | rfl <;> simp
theorem aAs (k : Nat) (f mode : Int) (neg : Bool) : aN.f (k + 1) f mode neg = some (((if jU mode neg then nG f neg else pI f neg : Nat) : Int)) := by
 unfold aN.f jU
 simp only [aN.j0, uA, kD, Option.bind_some]
 by_cases m1 : mode = 1
 ·rw [if_pos m1, if_pos m1]; rfl
 ·rw [if_neg m1, if_neg m1]
  by_cases m2 : mode = 2
  ·rw [if_pos m2, if_pos m2]; subst m2; cases neg <;> rfl
  ·rw [if_neg m2, if_neg m2]
   by_cases m3 : mode = 3
   ·rw [if_pos m3, if_pos m3]; cases neg <;> rfl
   ·rw [if_neg m3, if_neg m3]; rfl
/- The reference's rounding computes the same numbers as the program's. -/

theorem aBM (f : Int) (neg : Bool) (v : Nat) (h : v < 2 ^ (fe f + fm f)) : Go.bits .or .u32 (eP f neg : Int) (v : Int) = ((v + eP f neg : Nat) : Int) ∧ v + eP f neg < 4294967296 := by
 obtain ⟨b1, b2, b3, b4, b5⟩ := dN f
 have h31 := dU b5
 unfold eP
 cases neg
 ·simp only [Bool.false_eq_true, if_false]
  rw [oQ _ _ (by omega) (by omega), Nat.zero_or, Nat.add_zero]; exact ⟨rfl, by omega⟩
 ·simp only [if_true]
  rw [oQ _ _ (by omega) (by omega), nD _ _ (fe f + fm f) (by simp) h, Nat.add_comm]; exact ⟨rfl, by omega⟩
theorem sV (k : Nat) (f mode : Int) (neg : Bool) (q U : Nat) (hU : U ≤ 10300) (hq : q < 2 ^ (fm f + 1)) (hq' : U ≠ 0 → 2 ^ fm f ≤ q) (K : Nat) (hK : K = U * 2 ^ fm f + q) (c0 c1 c2 c3 c4 : Bool) :
  aA.j5 (k + 2) f mode neg (fm f : Int) (dL f - fm f + U) (q : Int) c0 c1 c2 c3 c4 = some
   ((((if jM f K then (if jU mode neg then gY f * 2 ^ fm f else gY f * 2 ^ fm f - 1) else K) + eP f neg : Nat) : Int),
    if jM f K then (false, false, true, false, true) else (c0, c1, c2, c3, c4)) ∧
  aA.j6 (k + 2) f mode neg (fm f : Int) (dL f - fm f + U) (q : Int) c0 c1 c2 c3 c4 = some
   ((((if jM f K then (if jU mode neg then gY f * 2 ^ fm f else gY f * 2 ^ fm f - 1) else K) + eP f neg : Nat) : Int),
    if jM f K then (false, false, true, false, true) else (c0, c1, c2, c3, c4)) := by
 obtain ⟨b1, b2, b3, b4, b5⟩ := dN f
 have hl := iC f
 have hp := Nat.two_pow_pos (fm f)
 have hpe := Nat.two_pow_pos (fe f)
 have h31 := dU (show fm f + 1 ≤ 31 by omega)
 have h8 := dU (show fe f ≤ 31 by omega)
 have hsucc : 2 ^ (fm f + 1) = 2 * 2 ^ fm f := by rw [Nat.pow_succ, Nat.mul_comm]
 have ht := iE f
 obtain ⟨_, hte⟩ := lV f neg
 have e1 : shl .u64 1 (fm f : Int) = ((2 ^ fm f : Nat) : Int) := by rw [show (1 : Int) = ((1 : Nat) : Int) from rfl, kP, Nat.one_mul, Nat.mod_eq_of_lt (by omega)]
 have e2 : wrap64 (wrap64 (dL f - (fm f : Int) + (U : Int) + (fm f : Int)) + (1 - dL f)) = ((U + 1 : Nat) : Int) := by
  rw [bW (dL f - (fm f : Int) + (U : Int) + (fm f : Int)) (by omega) (by omega), bW _ (by omega) (by omega)]; omega
 have e3 : wrap64 (shl .i64 1 (fe f : Int) - 1) = ((gY f : Nat) : Int) := by
  rw [lK _ (by omega), bW _ (by omega) (by omega)]; unfold gY; omega
 rw [aA.j5, aA.j6, if_pos (by omega), e1, qD, fA, nV]
 simp only [Option.bind_some]
 rw [if_pos (show (0 : Int) ≤ (fe f : Int) by omega), e2, e3, aAs]
 simp only [Option.bind_some]
 by_cases c : q < 2 ^ fm f
 ·have hU0 : U = 0 := by
   rcases Nat.eq_zero_or_pos U with h | h
   ·exact h
   ·have := hq' (by omega); omega
  have ho : jM f K = false := by
   unfold jM
   rw [decide_eq_false_iff_not, hK, hU0]
   have : 1 * 2 ^ fm f ≤ gY f * 2 ^ fm f := Nat.mul_le_mul_right _ (by omega)
   omega
  obtain ⟨s1, s2⟩ := aBM f neg q (by omega)
  rw [if_pos (show (q : Int) < ((2 ^ fm f : Nat) : Int) by omega), show (q : Int) % 4294967296 = (q : Int) by omega, s1, ho, hK, hU0]
  simp
 ·rw [if_neg (show ¬ (q : Int) < ((2 ^ fm f : Nat) : Int) by omega)]
  have ho : ((U + 1 : Nat) : Int) ≥ (gY f : Int) ↔ jM f K = true := by
   unfold jM
   rw [decide_eq_true_iff, hK]
   constructor
   ·intro h
    have : gY f * 2 ^ fm f ≤ (U + 1) * 2 ^ fm f := Nat.mul_le_mul_right _ (by omega)
    rw [Nat.add_mul, Nat.one_mul] at this; omega
   ·intro h
    rcases Nat.lt_or_ge (U + 1) (gY f) with d | d
    ·have : (U + 1 + 1) * 2 ^ fm f ≤ gY f * 2 ^ fm f := Nat.mul_le_mul_right _ d
     rw [Nat.add_mul, Nat.add_mul, Nat.one_mul] at this; omega
    ·omega
  by_cases c' : ((U + 1 : Nat) : Int) ≥ (gY f : Int)
  ·rw [if_pos c', ho.mp c']
   simp only [if_true]
   have : (if jU mode neg then nG f neg else pI f neg) = (if jU mode neg then gY f * 2 ^ fm f else gY f * 2 ^ fm f - 1) + eP f neg := by
    unfold nG pI; split <;> rfl
   rw [this]
   exact ⟨rfl, rfl⟩
  ·rw [if_neg c']
   have co : jM f K = false := by simpa using fun h => c' (ho.mpr h)
   have hmul : (U + 1) * 2 ^ fm f + 2 ^ fm f ≤ 2 ^ (fe f + fm f) := by
    have : (U + 1) * 2 ^ fm f ≤ gY f * 2 ^ fm f := Nat.mul_le_mul_right _ (by omega)
    omega
   have h32 := dU b5
   have hm1 : q % 2 ^ fm f = q - 2 ^ fm f := by
    have h1 : q / 2 ^ fm f = 1 := Nat.div_eq_of_lt_le (by omega) (by omega)
    have := Nat.div_add_mod q (2 ^ fm f)
    rw [h1, Nat.mul_one] at this; omega
   have e4 : shl .u32 (((U + 1 : Nat) : Int) % 4294967296) (fm f : Int) = (((U + 1) * 2 ^ fm f : Nat) : Int) := by
    rw [show ((U + 1 : Nat) : Int) % 4294967296 = ((U + 1 : Nat) : Int) by omega, rY, Nat.mod_eq_of_lt (by omega)]
   have e5 : Go.bits .and .u64 (q : Int) (IntKind.u64.wrap (((2 ^ fm f : Nat) : Int) - 1)) % 4294967296 = ((q % 2 ^ fm f : Nat) : Int) := by
    rw [show ((2 ^ fm f : Nat) : Int) - 1 = ((2 ^ fm f - 1 : Nat) : Int) by omega, fD _ (by omega), vJ _ _ (by omega) (by omega)]
    have := Nat.mod_lt q hp; omega
   have hKe : K + eP f neg = (U + 1) * 2 ^ fm f + eP f neg + q % 2 ^ fm f := by
    rw [hK, hm1, Nat.add_mul]; omega
   obtain ⟨s1, s2⟩ := aBM f neg ((U + 1) * 2 ^ fm f) (by omega)
   have hq2 : q % 2 ^ fm f < 2 ^ fm f := Nat.mod_lt _ hp
   have e6 : Go.bits .or .u32 (((U + 1) * 2 ^ fm f + eP f neg : Nat) : Int) ((q % 2 ^ fm f : Nat) : Int) = (((U + 1) * 2 ^ fm f + eP f neg + q % 2 ^ fm f : Nat) : Int) := by
    rw [oQ _ _ s2 (by omega), nD _ _ (fm f) ?_ hq2]
    unfold eP
    cases neg
    ·simp
    ·simp only [if_true]
     rw [Nat.pow_add, ← Nat.add_mul, Nat.mul_mod_left]
   rw [e4, s1, e5, e6, co]
   simp only [Bool.false_eq_true, if_false, hKe]
   exact ⟨trivial, trivial⟩
theorem step_ew (f : Int) : wrap64 ((fm f : Int) + 1) = ((fm f + 1 : Nat) : Int) := by
 obtain ⟨b1, b2, b3, b4, b5⟩ := dN f
 rw [bW] <;> omega
theorem step_es (f : Int) : shl .u64 1 ((fm f + 1 : Nat) : Int) = ((2 ^ (fm f + 1) : Nat) : Int) := by
 obtain ⟨b1, b2, b3, b4, b5⟩ := dN f
 have h31 := dU (show fm f + 1 ≤ 31 by omega)
 rw [show (1 : Int) = ((1 : Nat) : Int) from rfl, kP, Nat.one_mul, Nat.mod_eq_of_lt (by omega)]
theorem step_e8 (f : Int) (U : Nat) (h : U ≤ 10200) : wrap64 (dL f - (fm f : Int) + (U : Int) + 1) = dL f - (fm f : Int) + ((U + 1 : Nat) : Int) := by
 obtain ⟨b1, b2, b3, b4, b5⟩ := dN f
 have hl := iC f
 rw [bW] <;> omega
theorem step_e9 (f : Int) : (((2 ^ (fm f + 1) : Nat) : Int)) / 2 = ((2 ^ fm f : Nat) : Int) := by
 have hsucc : 2 ^ (fm f + 1) = 2 * 2 ^ fm f := by rw [Nat.pow_succ, Nat.mul_comm]
 omega
theorem step_lt (f : Int) : 2 ^ fm f < 2 ^ (fm f + 1) := Nat.pow_lt_pow_right (by decide) (Nat.lt_succ_self _)
theorem step_key (U m q : Nat) (h : q = 2 * m) : (U + 1) * m + m = U * m + q := by rw [Nat.add_mul]; omega
theorem step_q {a b : Nat} (h : a ≤ b) (h' : ¬ a = b) : a < b := by omega
theorem step_i {a b : Nat} (h' : ¬ a = b) : ¬ ((a : Int) = (b : Int)) := by omega
theorem step_n {m : Nat} : (0 : Int) ≤ (m : Int) := by omega
theorem lM (f mode : Int) (neg : Bool) (x : Int) (s : Nat) (more : Bool) (hs : s < 18446744073709551616) :
  Ev (fun k => aA.f k f mode neg x (s : Int) more) ((fI f mode neg (lG x) s more : Int), false, false, kY f mode neg (lG x) s more) := by
 unfold aA.f
 have hc : mn (mx x (-10000)) 10000 = lG x := rfl
 obtain ⟨h1, h2⟩ := pK x
 rw [hc]
 generalize lG x = x at *
 have hll := yI s (dP f x s - x) more
 by_cases z : s = 0 ∧ more = false
 ·obtain ⟨rfl, rfl⟩ := z
  simp only [if_pos (show ((0 : Nat) : Int) = 0 from rfl)]
  refine Ev.step (fun k => by rw [aA.j0]) ?_
  simp only [Bool.not_false, if_true, jE, Option.bind_some]
  have h := pack_f 0 f mode neg x 0 false (by decide)
  rw [iF x h1 h2] at h
  unfold aC.f at h
  rw [if_pos (by rfl), show mn (mx x (-10000)) 10000 = x from iF x h1 h2, aC.j0] at h
  simp only [Bool.not_false, if_true, uL, Option.bind_some] at h
  rw [← Option.some.inj h]
  exact Ev.now _
 ·have hj : ∀ k, (if (s : Int) = 0 then aA.j0 k f mode neg x (s : Int) more (!more) else aA.j0 k f mode neg x (s : Int) more false) = aA.j0 k f mode neg x (s : Int) more false := by
   intro k
   by_cases c : (s : Int) = 0
   ·rw [if_pos c]
    cases more
    ·exact absurd ⟨by omega, rfl⟩ z
    ·rfl
   ·rw [if_neg c]
  refine Ev.congr hj ?_
  obtain ⟨u1, u2, u3⟩ := tN f x s hs h1 h2
  obtain ⟨q1, q2⟩ := uJ f x s
  obtain ⟨b1, b2, b3, b4, b5⟩ := dN f
  have hl := iC f
  have hn := nY s hs
  have h31 := dU (show fm f + 1 ≤ 31 by omega)
  have hp := Nat.two_pow_pos (fm f)
  have hsucc : 2 ^ (fm f + 1) = 2 * 2 ^ fm f := by rw [Nat.pow_succ, Nat.mul_comm]
  have hq64 : jA s (dP f x s - x) < 18446744073709551616 := by omega
  have hd : dP f x s - x ≤ 0 → s * 2 ^ (-(dP f x s - x)).toNat < 18446744073709551616 := by
   intro h; have := hq64; unfold jA at this; rw [if_pos h] at this; exact this
  -- the exponent that the reference takes
  have hE : ∃ e : Int, (∀ k, (if (s : Int) = 0 then aA.j1 k f mode neg x (s : Int) more (fm f : Int) (dL f) (-20000) else aA.j1 k f mode neg x (s : Int) more (fm f : Int) (dL f) (wrap64 (wrap64 (x + (fK s : Int)) - 1))) = aA.j1 k f mode neg x (s : Int) more (fm f : Int) (dL f) e) ∧ wrap64 (mx e (dL f) - (fm f : Int)) = dP f x s ∧ (decide (e < dL f) = (decide (s = 0) || decide (x + fK s - 1 < dL f))) := by
   by_cases c : s = 0
   ·subst c
    refine ⟨-20000, fun k => by rw [if_pos (show ((0 : Nat) : Int) = 0 from rfl)], ?_, ?_⟩
    ·have : iM f x 0 = 0 := by unfold iM; rw [if_pos rfl]
     have hm : mx (-20000) (dL f) = dL f := by unfold mx; split <;> omega
     rw [hm]
     unfold dP; rw [this, bW _ (by omega) (by omega)]; omega
    ·rw [decide_eq_true (by omega)]; simp
   ·have e1 : wrap64 (wrap64 (x + (fK s : Int)) - 1) = x + fK s - 1 := by
     rw [bW (x + _) (by omega) (by omega), bW _ (by omega) (by omega)]
    refine ⟨x + fK s - 1, fun k => by rw [if_neg (by omega), e1], ?_, ?_⟩
    ·have hr : iM f x s = (x + fK s - 1 - dL f).toNat := by unfold iM; rw [if_neg c]
     unfold dP mx
     split
     ·rw [bW _ (by omega) (by omega)]; omega
     ·rw [bW _ (by omega) (by omega)]; omega
    ·rw [decide_eq_false c, Bool.false_or]
  obtain ⟨e, he1, he2, he3⟩ := hE
  refine Ev.step (fun k => by rw [aA.j0]) ?_
  simp only [Bool.false_eq_true, if_false, fA, qD, Option.bind_some]
  refine Ev.bind (qL s hs) ?_
  rw [show (1 : Int) - (1 - dL f) = dL f by omega, bW (dL f) (by omega) (by omega)]
  refine Ev.congr he1 ?_
  refine Ev.step (fun k => by rw [aA.j1]) ?_
  rw [he2, bW (dP f x s - x) (by omega) (by omega)]
  refine Ev.bind (xB s hs _ (by omega) (by omega) hd) ?_
  -- what is left, with the little more
  have hlm : fT s (dP f x s - x) false ≤ 3 := yI s _ false
  have hcol : ∀ k (r : Option (Int × Bool × Bool × Bool × Bool × Bool)), aA.j2 k f mode neg (fm f : Int) (dL f) e (dP f x s) (jA s (dP f x s - x) : Int) (decide (2 ≤ fT s (dP f x s - x) more)) (decide (fT s (dP f x s - x) more = 1 ∨ fT s (dP f x s - x) more = 3)) = r →
    (if decide (fT s (dP f x s - x) false = 1 ∨ fT s (dP f x s - x) false = 3) = true then aA.j2 k f mode neg (fm f : Int) (dL f) e (dP f x s) (jA s (dP f x s - x) : Int) (decide (2 ≤ fT s (dP f x s - x) false)) true else aA.j2 k f mode neg (fm f : Int) (dL f) e (dP f x s) (jA s (dP f x s - x) : Int) (decide (2 ≤ fT s (dP f x s - x) false)) more) = r := by
   intro k r h
   cases more
   ·by_cases c : fT s (dP f x s - x) false = 1 ∨ fT s (dP f x s - x) false = 3
    ·rw [decide_eq_true c] at h ⊢; rw [if_pos rfl]; exact h
    ·rw [decide_eq_false c] at h ⊢; rw [if_neg (by decide)]; exact h
   ·obtain ⟨m1, m2⟩ := aBS s (dP f x s - x)
    rw [decide_eq_true m2, m1] at h
    split <;> exact h
  refine Ev.congr (fun k => hcol k _ rfl) ?_
  generalize hL : fT s (dP f x s - x) more = L at *
  refine Ev.step (fun k => by rw [aA.j2]) ?_
  have hinx : decide (L ≠ 0) = lT f x s more := by unfold lT; rw [hL]
  have h2 : ∀ k, (if decide (2 ≤ L) = true then aA.j3 k f mode neg (fm f : Int) (dL f) e (dP f x s) (jA s (dP f x s - x) : Int) (decide (2 ≤ L)) (decide (L = 1 ∨ L = 3)) true else aA.j3 k f mode neg (fm f : Int) (dL f) e (dP f x s) (jA s (dP f x s - x) : Int) (decide (2 ≤ L)) (decide (L = 1 ∨ L = 3)) (decide (L = 1 ∨ L = 3))) = aA.j3 k f mode neg (fm f : Int) (dL f) e (dP f x s) (jA s (dP f x s - x) : Int) (decide (2 ≤ L)) (decide (L = 1 ∨ L = 3)) (lT f x s more) := by
   intro k
   rw [← hinx]
   have : L = 0 ∨ L = 1 ∨ L = 2 ∨ L = 3 := by omega
   rcases this with h | h | h | h <;> subst h <;> rfl
  refine Ev.congr h2 ?_
  refine Ev.step (fun k => by rw [aA.j3]) ?_
  have hodd : ((Go.bits .and .u64 (jA s (dP f x s - x) : Int) 1 == 1) : Bool) = decide (jA s (dP f x s - x) % 2 = 1) := by
   rw [o8 _ hq64, show (1 : Int) = ((1 : Nat) : Int) from rfl, nI]
  simp only [hodd, ref_up_f mode neg _ L hll, Option.bind_some]
  -- the unit above
  have hK : uM f mode neg x s more = iM f x s * 2 ^ fm f + (jA s (dP f x s - x) + (if upN mode neg (jA s (dP f x s - x)) L then 1 else 0)) := by
   unfold uM; rw [hL, Nat.add_assoc]
  have h3 : ∀ k, (if upN mode neg (jA s (dP f x s - x)) L = true then aA.j4 k f mode neg (fm f : Int) (dL f) e (dP f x s) (IntKind.u64.wrap ((jA s (dP f x s - x) : Int) + 1)) (lT f x s more) else aA.j4 k f mode neg (fm f : Int) (dL f) e (dP f x s) (jA s (dP f x s - x) : Int) (lT f x s more)) = aA.j4 k f mode neg (fm f : Int) (dL f) e (dP f x s) ((jA s (dP f x s - x) + (if upN mode neg (jA s (dP f x s - x)) L then 1 else 0) : Nat) : Int) (lT f x s more) := by
   intro k
   by_cases c : upN mode neg (jA s (dP f x s - x)) L = true
   ·rw [if_pos c, if_pos c, show (jA s (dP f x s - x) : Int) + 1 = ((jA s (dP f x s - x) + 1 : Nat) : Int) by omega, fD _ (by omega)]
   ·rw [if_neg c, if_neg c, Nat.add_zero]
  refine Ev.congr h3 ?_
  have hqn : jA s (dP f x s - x) + (if upN mode neg (jA s (dP f x s - x)) L then 1 else 0) ≤ 2 ^ (fm f + 1) := by split <;> omega
  have hqm : iM f x s ≠ 0 → 2 ^ fm f ≤ jA s (dP f x s - x) + (if upN mode neg (jA s (dP f x s - x)) L then 1 else 0) := fun h => Nat.le_trans (q2 h) (Nat.le_add_right _ _)
  generalize jA s (dP f x s - x) + (if upN mode neg (jA s (dP f x s - x)) L then 1 else 0) = Q at *
  have hun : dP f x s = dL f - fm f + (iM f x s : Nat) := rfl
  rw [hun]
  have ew := step_ew f
  have es := step_es f
  have e8 := step_e8 f _ u3
  have e9 := step_e9 f
  have fin : ∀ r : Int × Bool × Bool × Bool × Bool × Bool, r = ((((if jM f (uM f mode neg x s more) then (if jU mode neg then gY f * 2 ^ fm f else gY f * 2 ^ fm f - 1) else uM f mode neg x s more) + eP f neg : Nat) : Int), if jM f (uM f mode neg x s more) then (false, false, true, false, true) else (false, false, false, nA f x s more, lT f x s more)) → r = ((fI f mode neg x s more : Int), false, false, kY f mode neg x s more) := by
   intro r hr
   rw [hr]
   unfold fI kY
   split <;> rfl
  have hund : nA f x s more = (lT f x s more && decide (e < dL f)) := by unfold nA; rw [he3]
  refine Ev.step (fun k => by rw [aA.j4]) ?_
  simp only [ew, es, e8, if_pos (step_n (m := fm f + 1))]
  by_cases cQ : Q = 2 ^ (fm f + 1)
  ·have g := fun k c3 => sV k f mode neg (2 ^ fm f) (iM f x s + 1) (Nat.le_trans (Nat.succ_le_succ u3) (by decide)) (step_lt f) (fun _ => Nat.le_refl _) (uM f mode neg x s more) (by rw [hK]; exact (step_key _ _ _ (cQ.trans hsucc)).symm) false false false c3 (lT f x s more)
   simp only [cQ, if_true, e9]
   by_cases ci : lT f x s more = true
   ·simp only [ci, if_true] at g ⊢
    rw [ci, Bool.true_and] at hund
    rw [← fin _ rfl, hund, ci]
    exact ⟨2, fun n hn => by obtain ⟨m, rfl⟩ : ∃ m, n = m + 2 := ⟨n - 2, by omega⟩; exact (g m _).1⟩
   ·rw [Bool.not_eq_true] at ci
    simp only [ci, Bool.false_eq_true, if_false] at g ⊢
    rw [ci, Bool.false_and] at hund
    rw [← fin _ rfl, hund, ci]
    exact ⟨2, fun n hn => by obtain ⟨m, rfl⟩ : ∃ m, n = m + 2 := ⟨n - 2, by omega⟩; exact (g m _).2⟩
  ·have g := fun k c3 => sV k f mode neg Q (iM f x s) (Nat.le_trans u3 (by decide)) (step_q hqn cQ) hqm (uM f mode neg x s more) hK false false false c3 (lT f x s more)
   have cQ' : ¬ ((Q : Int) = ((2 ^ (fm f + 1) : Nat) : Int)) := step_i cQ
   simp only [cQ', if_false]
   by_cases ci : lT f x s more = true
   ·simp only [ci, if_true] at g ⊢
    rw [ci, Bool.true_and] at hund
    rw [← fin _ rfl, hund, ci]
    exact ⟨2, fun n hn => by obtain ⟨m, rfl⟩ : ∃ m, n = m + 2 := ⟨n - 2, by omega⟩; exact (g m _).1⟩
   ·rw [Bool.not_eq_true] at ci
    simp only [ci, Bool.false_eq_true, if_false] at g ⊢
    rw [ci, Bool.false_and] at hund
    rw [← fin _ rfl, hund, ci]
    exact ⟨2, fun n hn => by obtain ⟨m, rfl⟩ : ∃ m, n = m + 2 := ⟨n - 2, by omega⟩; exact (g m _).2⟩
end Go.Proofs.YtfapjegkilljnaaGreat.Round

/- The reference's whole numbers of 640 bits: what its functions answer. -/
namespace Go.Proofs.YtfapjegkilljnaaGreat.Round
open Go.RowKit Go.Proofs.YtfapjegkilljnaaGreat.P Go.Proofs.YtfapjegkilljnaaGreat.E Go.Proofs.YtfapjegkilljnaaGreat.Num Go.Proofs.YtfapjegkilljnaaGreat.BitsF Go.Proofs.YtfapjegkilljnaaGreat.Fmt Go.Proofs.YtfapjegkilljnaaGreatW.PrintWords Go.Proofs.YtfapjegkilljnaaGreatW.PrintLast Go.Proofs.YtfapjegkilljnaaGreatW.PrintMore

theorem below_l2 (xn yn : Bool) {xs ys : List Int} (hx : lQ xs) (hy : lQ ys) (j : Nat) (hj : j ≤ 10) : Ev2 (fun k n => bP.l2 k n ((j : Int) - 1) yn ys xn xs) (decide (lo xs j < lo ys j)) := by
  induction j with
  | zero => exact Ev2.step (fun k n => by rw [bP.aAp, if_neg (by omega), mO, mO]; rfl) (Ev2.now _)
  | succ j ih =>
    have a := lo_lt hx j
    have b := lo_lt hy j
    have q0 : (0 : Int) ≤ ((j + 1 : Nat) : Int) - 1 := by omega
    have q1 : ((j + 1 : Nat) : Int) - 1 < 10 := by omega
    have e : ((j + 1 : Nat) : Int) - 1 = (j : Int) := by omega
    refine Ev2.step (fun k n => by rw [bP.aAp, if_pos q0, if_pos q0, if_pos q1, if_pos q0, if_pos q1, e, hx.rd j, hy.rd j]) ?_
    rw [kQ, kQ]
    by_cases c : lim xs j = lim ys j
    · refine Ev2.congr (fun k n => by rw [if_pos (by rw [c]), bW _ (by omega) (by omega)]) ?_
      rw [c]
      simp only [Nat.add_lt_add_iff_right]
      exact ih (by omega)
    · refine Ev2.congr (fun k n => by rw [if_neg (by omega), if_pos (by omega), if_pos (by omega), if_pos (by omega), if_pos (by omega)]) ?_
      have h : decide ((lim xs j : Int) < (lim ys j : Int)) = decide (lo xs j + lim xs j * 2 ^ (64 * j) < lo ys j + lim ys j * 2 ^ (64 * j)) := by
        apply decide_eq_decide.mpr
        rcases Nat.lt_or_gt_of_ne c with c | c
        · have := Nat.mul_le_mul_right (2 ^ (64 * j)) (show lim xs j + 1 ≤ lim ys j from c)
          rw [Nat.add_mul] at this; omega
        · have := Nat.mul_le_mul_right (2 ^ (64 * j)) (show lim ys j + 1 ≤ lim xs j from c)
          rw [Nat.add_mul] at this; omega
      rw [← h]; exact Ev2.now _
theorem below_ev (xn yn : Bool) {xs ys : List Int} (hx : lQ xs) (hy : lQ ys) : Ev (fun n => E.bP.f n xn xs yn ys) (decide (lo xs 10 < lo ys 10)) :=
  Ev.congr (fun n => bP.eq n xn xs yn ys) (below_l2 xn yn hx hy 10 (by decide)).diag

theorem limb_sub (x y b : Nat) (hx : x < 18446744073709551616) (hy : y < 18446744073709551616) (hb : b ≤ 1) :
    ∃ d c : Nat, d < 18446744073709551616 ∧ c ≤ 1 ∧ d + y + b = x + c * 18446744073709551616 ∧ IntKind.u64.wrap (IntKind.u64.wrap ((x : Int) - (y : Int)) - (b : Int)) = (d : Int) ∧
      (c = 1 ↔ ((x : Int) < (y : Int) ∨ IntKind.u64.wrap ((x : Int) - (y : Int)) < (b : Int))) := by
  rw [jZ, jZ]
  by_cases c : x < y + b
  · exact ⟨x + 18446744073709551616 - y - b, 1, by omega, by omega, by omega, by omega, by omega⟩
  · exact ⟨x - y - b, 0, by omega, by omega, by omega, by omega, by omega⟩
theorem limb_add (x y b : Nat) (hx : x < 18446744073709551616) (hy : y < 18446744073709551616) (hb : b ≤ 1) :
    ∃ d c : Nat, d < 18446744073709551616 ∧ c ≤ 1 ∧ x + y + b = d + c * 18446744073709551616 ∧ IntKind.u64.wrap (IntKind.u64.wrap ((x : Int) + (y : Int)) + (b : Int)) = (d : Int) ∧
      (c = 1 ↔ (IntKind.u64.wrap ((x : Int) + (y : Int)) < (x : Int) ∨ IntKind.u64.wrap (IntKind.u64.wrap ((x : Int) + (y : Int)) + (b : Int)) < IntKind.u64.wrap ((x : Int) + (y : Int)))) := by
  rw [jZ, jZ]
  by_cases c : x + y + b < 18446744073709551616
  · exact ⟨x + y + b, 0, by omega, by omega, by omega, by omega, by omega⟩
  · exact ⟨x + y + b - 18446744073709551616, 1, by omega, by omega, by omega, by omega, by omega⟩
theorem zN (ln xn yn : Bool) (z : List Int) {xs ys : List Int} (hx : lQ xs) (hy : lQ ys) (m : Nat) : ∀ (i : Nat) (b : Nat) (L : List Int), i + m = 10 → lQ L → b ≤ 1 → lo L i + lo ys i = lo xs i + b * 2 ^ (64 * i) → (∀ j, i ≤ j → lim L j = lim xs j) →
    ∃ (R : List Int) (c : Nat), Ev2 (fun k n => bK.l5 k n (i : Int) (b : Int) ln z yn ys xn L) (xn, R) ∧ lQ R ∧ lo R 10 + lo ys 10 = lo xs 10 + c * T640 := by
  induction m with
  | zero =>
    intro i b L hi hL hb h1 h2
    obtain rfl : i = 10 := by omega
    exact ⟨L, b, Ev2.step (fun k n => by rw [bK.aA5, if_neg (by omega)]) (Ev2.now _), hL, by rw [← vL]; exact h1⟩
  | succ m ih =>
    intro i b L hi hL hb h1 h2
    have i1 : (i : Int) < 10 := by omega
    have i0 : (0 : Int) ≤ (i : Int) := by omega
    have e := h2 i (Nat.le_refl _)
    obtain ⟨d, c, d1, c1, d2, d3, d4⟩ := limb_sub (lim xs i) (lim ys i) b (hx.lt i) (hy.lt i) hb
    have hlen : i < L.length := by rw [hL.len]; omega
    have key : lo (L.set i (d : Int)) (i + 1) + lo ys (i + 1) = lo xs (i + 1) + c * 2 ^ (64 * (i + 1)) := by
      rw [kQ, kQ, kQ, aBQ L i _ hlen, oI L i i _ hlen, if_pos rfl, Int.toNat_natCast, show 64 * (i + 1) = 64 * i + 64 by omega, Nat.pow_add, show (2 : Nat) ^ 64 = 18446744073709551616 by decide, Nat.mul_comm (2 ^ (64 * i)), ← Nat.mul_assoc]
      have := congrArg (· * 2 ^ (64 * i)) d2
      simp only [Nat.add_mul] at this
      omega
    obtain ⟨R, q, r1, r2, r3⟩ := ih (i + 1) c (L.set i (d : Int)) (by omega) (hL.set i d (by omega) d1) c1 key (fun j hj => by rw [oI L i j _ hlen, if_neg (by omega)]; exact h2 j (by omega))
    refine ⟨R, q, ?_, r2, r3⟩
    refine Ev2.step (fun k n => by
      rw [bK.aA5, if_pos i1, if_pos i0, if_pos i1, if_pos i0, if_pos i1, if_pos i0, if_pos i1, if_pos i0, if_pos i1, hL.rd i, hy.rd i, e, d3, Int.toNat_natCast, bW _ (by omega) (by omega), if_pos i0, if_pos i1]) ?_
    rw [show ((i : Int) + 1) = ((i + 1 : Nat) : Int) by omega]
    rcases Nat.lt_or_ge c 1 with c0 | c0
    · obtain rfl : c = 0 := by omega
      refine Ev2.congr (fun k n => by rw [if_neg (fun h => absurd (d4.mpr (.inl h)) (by decide)), if_neg (fun h => absurd (d4.mpr (.inr h)) (by decide)), if_pos i0, if_pos i1]) ?_
      exact r1
    · obtain rfl : c = 1 := by omega
      refine Ev2.congr (fun k n => ?_) r1
      by_cases t : (lim xs i : Int) < (lim ys i : Int)
      · rw [if_pos t]; rfl
      · rw [if_neg t, if_pos ((d4.mp rfl).resolve_left t)]; rfl
theorem plus_l5 (ln xn yn : Bool) (z : List Int) {xs ys : List Int} (hx : lQ xs) (hy : lQ ys) (m : Nat) : ∀ (i : Nat) (b : Nat) (L : List Int), i + m = 10 → lQ L → b ≤ 1 → lo L i + b * 2 ^ (64 * i) = lo xs i + lo ys i → (∀ j, i ≤ j → lim L j = lim xs j) →
    ∃ (R : List Int) (c : Nat), Ev2 (fun k n => bN.l5 k n (i : Int) (b : Int) ln z yn ys xn L) (xn, R) ∧ lQ R ∧ lo R 10 + c * T640 = lo xs 10 + lo ys 10 := by
  induction m with
  | zero =>
    intro i b L hi hL hb h1 h2
    obtain rfl : i = 10 := by omega
    exact ⟨L, b, Ev2.step (fun k n => by rw [bN.aA5, if_neg (by omega)]) (Ev2.now _), hL, by rw [← vL]; exact h1⟩
  | succ m ih =>
    intro i b L hi hL hb h1 h2
    have i1 : (i : Int) < 10 := by omega
    have i0 : (0 : Int) ≤ (i : Int) := by omega
    have e := h2 i (Nat.le_refl _)
    obtain ⟨d, c, d1, c1, d2, d3, d4⟩ := limb_add (lim xs i) (lim ys i) b (hx.lt i) (hy.lt i) hb
    have hlen : i < L.length := by rw [hL.len]; omega
    have key : lo (L.set i (d : Int)) (i + 1) + c * 2 ^ (64 * (i + 1)) = lo xs (i + 1) + lo ys (i + 1) := by
      rw [kQ, kQ, kQ, aBQ L i _ hlen, oI L i i _ hlen, if_pos rfl, Int.toNat_natCast, show 64 * (i + 1) = 64 * i + 64 by omega, Nat.pow_add, show (2 : Nat) ^ 64 = 18446744073709551616 by decide, Nat.mul_comm (2 ^ (64 * i)), ← Nat.mul_assoc]
      have := congrArg (· * 2 ^ (64 * i)) d2
      simp only [Nat.add_mul] at this
      omega
    obtain ⟨R, q, r1, r2, r3⟩ := ih (i + 1) c (L.set i (d : Int)) (by omega) (hL.set i d (by omega) d1) c1 key (fun j hj => by rw [oI L i j _ hlen, if_neg (by omega)]; exact h2 j (by omega))
    refine ⟨R, q, ?_, r2, r3⟩
    refine Ev2.step (fun k n => by
      rw [bN.aA5, if_pos i1, if_pos i0, if_pos i1, if_pos i0, if_pos i1, if_pos i0, if_pos i1, hL.rd i, hy.rd i, e, d3, Int.toNat_natCast, bW _ (by omega) (by omega), if_pos i0, if_pos i1]) ?_
    rw [show ((i : Int) + 1) = ((i + 1 : Nat) : Int) by omega]
    rw [d3] at d4
    rcases Nat.lt_or_ge c 1 with c0 | c0
    · obtain rfl : c = 0 := by omega
      refine Ev2.congr (fun k n => by rw [if_neg (fun h => absurd (d4.mpr (.inl h)) (by decide)), if_neg (fun h => absurd (d4.mpr (.inr h)) (by decide)), if_pos i0, if_pos i1]) ?_
      exact r1
    · obtain rfl : c = 1 := by omega
      refine Ev2.congr (fun k n => ?_) r1
      by_cases t : IntKind.u64.wrap ((lim xs i : Int) + (lim ys i : Int)) < (lim xs i : Int)
      · rw [if_pos t]; rfl
      · rw [if_neg t, if_pos ((d4.mp rfl).resolve_left t)]; rfl
theorem aB6 (xn yn : Bool) {xs ys : List Int} (hx : lQ xs) (hy : lQ ys) : ∃ R, lQ R ∧ lo R 10 = (if lo xs 10 < lo ys 10 then lo ys 10 - lo xs 10 else lo xs 10 - lo ys 10) ∧
    Ev (fun n => E.bK.f n xn xs yn ys) ((if lo xs 10 < lo ys 10 then yn else xn), R) := by
  have hb := below_ev xn yn hx hy
  have fin : ∀ (R : List Int) (c X Y : Nat), lQ R → lo R 10 + Y = X + c * T640 → Y ≤ X → lo R 10 = X - Y := by
    intro R c X Y hR h hle
    have hl := lo_top hR
    rcases Nat.eq_zero_or_pos c with c0 | c0
    · rw [c0, Nat.zero_mul] at h; omega
    · have : 1 * T640 ≤ _ := Nat.mul_le_mul_right T640 c0
      rw [Nat.one_mul] at this; omega
  by_cases c : lo xs 10 < lo ys 10
  · obtain ⟨R, q, r1, r2, r3⟩ := zN false yn xn (0 :: List.replicate 9 0) hy hx 10 0 0 ys (by decide) hy (by decide) (by rw [mO, mO]) (fun _ _ => rfl)
    refine ⟨R, r2, by rw [if_pos c]; exact fin R q _ _ r2 r3 (by omega), ?_⟩
    refine Ev.congr (fun n => bK.eq n xn xs yn ys) (Ev.bind hb ?_)
    rw [if_pos c, decide_eq_true c]
    exact Ev.congr (fun n => by rw [if_pos rfl]; rfl) r1.diag
  · obtain ⟨R, q, r1, r2, r3⟩ := zN false xn yn (0 :: List.replicate 9 0) hx hy 10 0 0 xs (by decide) hx (by decide) (by rw [mO, mO]) (fun _ _ => rfl)
    refine ⟨R, r2, by rw [if_neg c]; exact fin R q _ _ r2 r3 (by omega), ?_⟩
    refine Ev.congr (fun n => bK.eq n xn xs yn ys) (Ev.bind hb ?_)
    rw [if_neg c, decide_eq_false c]
    exact Ev.congr (fun n => by rw [if_neg (by decide)]; rfl) r1.diag
theorem aBA (xn : Bool) {xs ys : List Int} (hx : lQ xs) (hy : lQ ys) (h : lo xs 10 + lo ys 10 < T640) : ∃ R, lQ R ∧ lo R 10 = lo xs 10 + lo ys 10 ∧
    Ev (fun n => E.bN.f n xn xs xn ys) (xn, R) := by
  obtain ⟨R, q, r1, r2, r3⟩ := plus_l5 false xn xn (0 :: List.replicate 9 0) hx hy 10 0 0 xs (by decide) hx (by decide) (by rw [mO, mO]) (fun _ _ => rfl)
  refine ⟨R, r2, ?_, ?_⟩
  · rcases Nat.eq_zero_or_pos q with c0 | c0
    · rw [c0, Nat.zero_mul, Nat.add_zero] at r3; exact r3
    · have : 1 * T640 ≤ _ := Nat.mul_le_mul_right T640 c0
      rw [Nat.one_mul] at this; omega
  · exact Ev.congr (fun n => by rw [bN.eq, if_pos (beq_self_eq_true _)]; rfl) r1.diag
theorem aA4 (xn yn : Bool) (e : xn ≠ yn) {xs ys : List Int} (hx : lQ xs) (hy : lQ ys) : ∃ R, lQ R ∧ lo R 10 = (if lo xs 10 < lo ys 10 then lo ys 10 - lo xs 10 else lo xs 10 - lo ys 10) ∧
    Ev (fun n => E.bN.f n xn xs yn ys) ((if lo xs 10 < lo ys 10 then yn else xn), R) := by
  obtain ⟨R, r1, r2, r3⟩ := aB6 xn yn hx hy
  refine ⟨R, r1, r2, ?_⟩
  refine Ev.congr (fun n => by rw [bN.eq, if_neg (by rw [beq_iff_eq]; exact e)]) (Ev.bind r3 (Ev.now _))
theorem plus_ev (xn yn : Bool) {xs ys : List Int} (hx : lQ xs) (hy : lQ ys) (h : lo xs 10 + lo ys 10 < T640) : ∃ R, lQ R ∧ lo R 10 = (iV xn (lo xs 10) yn (lo ys 10)).2 ∧
    Ev (fun n => E.bN.f n xn xs yn ys) ((iV xn (lo xs 10) yn (lo ys 10)).1, R) := by
  by_cases e : xn = yn
  · subst e
    obtain ⟨R, r1, r2, r3⟩ := aBA xn hx hy h
    have w : iV xn (lo xs 10) xn (lo ys 10) = (xn, lo xs 10 + lo ys 10) := if_pos rfl
    rw [w]
    exact ⟨R, r1, r2, r3⟩
  · obtain ⟨R, r1, r2, r3⟩ := aA4 xn yn e hx hy
    have w : iV xn (lo xs 10) yn (lo ys 10) = ((if lo xs 10 < lo ys 10 then yn else xn), (if lo xs 10 < lo ys 10 then lo ys 10 - lo xs 10 else lo xs 10 - lo ys 10)) := by
      unfold iV
      rw [if_neg e]
      split <;> rfl
    rw [w]
    exact ⟨R, r1, r2, r3⟩
theorem oM (neg : Bool) (e : Int) (s : Nat) (h1 : -298 ≤ e) (h2 : e ≤ 250) (hs : s < 1152921504606846976) : ∃ R, lQ R ∧ lo R 10 = s * 2 ^ (e + 298).toNat ∧ Ev (fun n => E.bR.f n neg e (s : Int)) (neg, R) := by
  obtain ⟨a, ha⟩ : ∃ a : Nat, e + 298 = (a : Int) := ⟨(e + 298).toNat, by omega⟩
  have hz := aCa
  have at1 : wrap64 (e + 298) = (a : Int) := by rw [bW _ (by omega) (by omega)]; exact ha
  have at2 : Int.tmod (a : Int) 64 = ((a % 64 : Nat) : Int) := by rw [Int.tmod_eq_emod_of_nonneg (by omega)]; omega
  have at3 : wrap64 (Int.tdiv (a : Int) 64) = ((a / 64 : Nat) : Int) := by rw [Int.tdiv_eq_ediv_of_nonneg (by omega), bW _ (by omega) (by omega)]; omega
  have hq : a / 64 ≤ 8 := by omega
  have hr : a % 64 < 64 := Nat.mod_lt _ (by decide)
  have hm : a = 64 * (a / 64) + a % 64 := by omega
  have ev : s * 2 ^ (e + 298).toNat = s * 2 ^ (a % 64) * 2 ^ (64 * (a / 64)) := by
    rw [Nat.mul_assoc, ← Nat.pow_add]; congr 2; omega
  rw [ev]
  have l0 : (List.replicate 10 (0 : Int)).length = 10 := rfl
  have z0 : lo (List.replicate 10 (0 : Int)) 10 = 0 := (tF 10).mpr fun i _ => rE i
  generalize hqq : a / 64 = q at *
  generalize hrr : a % 64 = r at *
  have iq : q < 10 := by omega
  have iq1 : q + 1 < 10 := by omega
  have iqn : ¬ q + 1 = q := by omega
  have i1 : (0 : Int) ≤ (r : Int) := by omega
  have i2 : (0 : Int) ≤ (q : Int) := by omega
  have i3 : (q : Int) < 10 := by omega
  have hs64 : s < 18446744073709551616 := by omega
  have M : s * 2 ^ r % 18446744073709551616 < 18446744073709551616 := Nat.mod_lt _ (by decide)
  have b1 := hz.set q (s * 2 ^ r % 18446744073709551616) iq M
  have b2 := aCe (List.replicate 10 (0 : Int)) q (s * 2 ^ r % 18446744073709551616) (by rw [l0]; exact iq) (rE q) 10 iq
  rw [z0, Nat.zero_add] at b2
  by_cases r0 : r = 0
  · have i4 : ¬ (0 : Int) < (r : Int) := by omega
    refine ⟨_, b1, ?_, Ev.congr (fun n => bR.eq n neg e (s : Int)) (Ev.congr (fun n => ?_) (Ev.now _))⟩
    · rw [b2, r0, Nat.pow_zero, Nat.mul_one, Nat.mod_eq_of_lt (by omega)]
    · rw [at1, at2, at3, if_pos i1, if_pos i2, if_pos i3, if_neg i4, kP, Int.toNat_natCast]
  · have i4 : (0 : Int) < (r : Int) := by omega
    have i5 : (q : Int) < 9 := by omega
    have i6 : (0 : Int) ≤ ((64 - r : Nat) : Int) := by omega
    have i7 : (0 : Int) ≤ ((q + 1 : Nat) : Int) := by omega
    have i8 : ((q + 1 : Nat) : Int) < 10 := by omega
    have S : s / 2 ^ (64 - r) < 18446744073709551616 := Nat.lt_of_le_of_lt (Nat.div_le_self _ _) (by omega)
    have b3 := b1.set (q + 1) (s / 2 ^ (64 - r)) iq1 S
    have l1 : (List.set (List.replicate 10 (0 : Int)) q ((s * 2 ^ r % 18446744073709551616 : Nat) : Int)).length = 10 := by rw [List.length_set]; rfl
    have b4 := aCe (List.set (List.replicate 10 (0 : Int)) q ((s * 2 ^ r % 18446744073709551616 : Nat) : Int)) (q + 1) (s / 2 ^ (64 - r)) (by rw [l1]; exact iq1) (by rw [oI _ _ _ _ (by rw [l0]; exact iq), if_neg iqn]; exact rE _) 10 iq1
    refine ⟨_, b3, ?_, Ev.congr (fun n => bR.eq n neg e (s : Int)) (Ev.congr (fun n => ?_) (Ev.now _))⟩
    · rw [b4, b2, show 64 * (q + 1) = 64 + 64 * q by omega, Nat.pow_add, ← Nat.mul_assoc, ← Nat.add_mul]
      refine congrArg (· * 2 ^ (64 * q)) ?_
      have h64 : (2 : Nat) ^ 64 = 18446744073709551616 := by decide
      have hd : s * 2 ^ r / 18446744073709551616 = s / 2 ^ (64 - r) := by
        rw [← h64, show (2 : Nat) ^ 64 = 2 ^ (64 - r) * 2 ^ r by rw [← Nat.pow_add]; congr 1; omega]
        exact Nat.mul_div_mul_right _ _ (Nat.two_pow_pos r)
      rw [← hd, h64]
      have := Nat.div_add_mod (s * 2 ^ r) 18446744073709551616
      clear b1 b2 b3 b4 ev
      generalize s * 2 ^ r = Q at *
      omega
    · have t1 : wrap64 (64 - (r : Int)) = ((64 - r : Nat) : Int) := by rw [bW _ (by omega) (by omega)]; omega
      have t2 : wrap64 ((q : Int) + 1) = ((q + 1 : Nat) : Int) := by rw [bW _ (by omega) (by omega)]; omega
      rw [at1, at2, at3, if_pos i1, if_pos i2, if_pos i3, if_pos i4, if_pos i5, t1, t2, if_pos i6, if_pos i7, if_pos i8, kP, nT _ _ hs64, Int.toNat_natCast, Int.toNat_natCast]
def anyL (xs : List Int) : Nat → Nat → Bool
  | _, 0 => false
  | j, m + 1 => decide (lim xs j ≠ 0) || anyL xs (j + 1) m
theorem uU (xs : List Int) (m : Nat) : ∀ j, anyL xs j m = false ↔ ∀ q, j ≤ q → q < j + m → lim xs q = 0 := by
  induction m with
  | zero => exact fun j => ⟨fun _ q h1 h2 => by omega, fun _ => rfl⟩
  | succ m ih =>
    intro j
    unfold anyL
    rw [Bool.or_eq_false_iff, ih (j + 1), decide_eq_false_iff_not]
    constructor
    · rintro ⟨h1, h2⟩ q h3 h4
      by_cases c : q = j
      · rw [c]; exact Decidable.not_not.mp h1
      · exact h2 q (by omega) (by omega)
    · intro h
      exact ⟨fun c => c (h j (Nat.le_refl _) (by omega)), fun q h1 h2 => h q (by omega) (by omega)⟩
theorem anyL_lo (xs : List Int) (m : Nat) : anyL xs 0 m = decide (lo xs m ≠ 0) := by
  cases h : anyL xs 0 m
  · have := (uU xs m 0).mp h
    rw [decide_eq_false (show ¬ lo xs m ≠ 0 from fun c => c ((tF m).mpr fun i hi => this i (Nat.zero_le _) (by omega)))]
  · have hne : lo xs m ≠ 0 := fun c => by
      have := (uU xs m 0).mpr (fun q _ hq => (tF m).mp c q (by omega))
      rw [h] at this; cases this
    rw [decide_eq_true hne]
theorem xL (f mode e sig top : Int) (i : Nat) (neg c0 c1 c2 c3 c4 : Bool) {xs : List Int} (hx : lQ xs) (r : Int × Bool × Bool × Bool × Bool × Bool) (ht : top = (i : Int) + 1) (hi : i < 10) (m : Nat) : ∀ (j : Nat) (more : Bool), j + m = i →
    Ev (fun n => (aA.f n f mode neg e sig (more || anyL xs j m))) r →
    Ev2 (fun k n => aM.l19 k n (j : Int) more e sig top mode f c0 c1 c2 c3 c4 neg xs) r := by
  induction m with
  | zero =>
    intro j more hj h
    obtain rfl : j = i := by omega
    have h : Ev (fun n => aA.f n f mode neg e sig (more || false)) r := h
    rw [Bool.or_false] at h
    refine Ev2.step (fun k n => by rw [aM.l19_eq, ht, bW _ (by omega) (by omega), if_neg (by omega)]) ?_
    exact Ev2.bind h (Ev2.now _)
  | succ m ih =>
    intro j more hj h
    have j0 : (0 : Int) ≤ (j : Int) := by omega
    have j1 : (j : Int) < 10 := by omega
    have next : ∀ b : Bool, (more || anyL xs j (m + 1)) = (b || anyL xs (j + 1) m) → Ev2 (fun k n => aM.l19 k n ((j + 1 : Nat) : Int) b e sig top mode f c0 c1 c2 c3 c4 neg xs) r := fun b hb => ih (j + 1) b (by omega) (by rw [← hb]; exact h)
    have hw : wrap64 ((j : Int) + 1) = ((j + 1 : Nat) : Int) := by rw [bW _ (by omega) (by omega)]; omega
    refine Ev2.step (fun k n => by rw [aM.l19_eq, ht, bW ((i : Int) + 1 - 1) (by omega) (by omega), if_pos (by omega), hw, ← ht]) ?_
    cases more
    · refine Ev2.congr (fun k n => by rw [if_neg (by decide), if_pos j0, if_pos j1, hx.rd j]) ?_
      by_cases z : lim xs j = 0
      · rw [z]
        refine next false ?_
        show (false || (decide (lim xs j ≠ 0) || anyL xs (j + 1) m)) = _
        rw [z]; rfl
      · have hb : ((lim xs j : Int) == 0) = false := beq_eq_false_iff_ne.mpr (by omega)
        rw [hb]
        refine next true ?_
        show (false || (decide (lim xs j ≠ 0) || anyL xs (j + 1) m)) = _
        rw [decide_eq_true z]; rfl
    · exact Ev2.congr (fun k n => by rw [if_pos rfl]) (next true rfl)
theorem yT (f mode : Int) (i : Nat) (neg : Bool) {xs : List Int} (hx : lQ xs) (hi : i + 1 < 10) (h0 : lim xs (i + 1) ≠ 0) :
    fI f mode neg (-298) (lo xs (i + 2)) false = fI f mode neg (64 * ((i : Int) + 1) - 298 - (64 - (fK (lim xs (i + 1)) : Int))) (lim xs (i + 1) * 2 ^ (64 - fK (lim xs (i + 1))) + lim xs i / 2 ^ fK (lim xs (i + 1))) (decide (lim xs i % 2 ^ fK (lim xs (i + 1)) ≠ 0) || decide (lo xs i ≠ 0)) ∧
    kY f mode neg (-298) (lo xs (i + 2)) false = kY f mode neg (64 * ((i : Int) + 1) - 298 - (64 - (fK (lim xs (i + 1)) : Int))) (lim xs (i + 1) * 2 ^ (64 - fK (lim xs (i + 1))) + lim xs i / 2 ^ fK (lim xs (i + 1))) (decide (lim xs i % 2 ^ fK (lim xs (i + 1)) ≠ 0) || decide (lo xs i ≠ 0)) ∧
    lim xs (i + 1) * 2 ^ (64 - fK (lim xs (i + 1))) + lim xs i / 2 ^ fK (lim xs (i + 1)) < 18446744073709551616 := by
  have hb := dN f
  have hp : 2 ^ (fm f + 1) ≤ 2 ^ 24 := Nat.pow_le_pow_right (by decide) (by omega)
  have hl := lo_lt hx i
  have ha := hx.lt (i + 1)
  have hc := hx.lt i
  rw [kQ, kQ]
  generalize lo xs i = W at *
  generalize lim xs (i + 1) = a at *
  generalize lim xs i = c at *
  have n1 := fO a 64 ha
  have n2 := kS a h0
  have n3 := qI a h0
  have n4 := lF a
  generalize fK a = n at *
  have pk : 2 ^ n * 2 ^ (64 - n) = 18446744073709551616 := by
    rw [← Nat.pow_add, show n + (64 - n) = 64 by omega]
  have pn := Nat.two_pow_pos n
  have pk0 := Nat.two_pow_pos (64 - n)
  have cd : c / 2 ^ n < 2 ^ (64 - n) := (Nat.div_lt_iff_lt_mul pn).mpr (by rw [Nat.mul_comm, pk]; exact hc)
  have cm := Nat.mod_lt c pn
  have cdm := Nat.div_add_mod c (2 ^ n)
  have a63 : 9223372036854775808 ≤ a * 2 ^ (64 - n) := by
    have h := Nat.mul_le_mul_right (2 ^ (64 - n)) n3
    rw [← Nat.pow_add, show n - 1 + (64 - n) = 63 by omega] at h
    have : (2 : Nat) ^ 63 = 9223372036854775808 := by decide
    omega
  have a64 : a * 2 ^ (64 - n) + 2 ^ (64 - n) ≤ 18446744073709551616 := by
    have h := Nat.mul_le_mul_right (2 ^ (64 - n)) n4
    rw [pk, Nat.succ_mul] at h; exact h
  have e : W + c * 2 ^ (64 * i) + a * 2 ^ (64 * (i + 1)) = (a * 2 ^ (64 - n) + c / 2 ^ n) * 2 ^ (n + 64 * i) + (c % 2 ^ n * 2 ^ (64 * i) + W) := by
    rw [Nat.pow_add, show 64 * (i + 1) = 64 + 64 * i by omega, Nat.pow_add, show (2 : Nat) ^ 64 = 2 ^ n * 2 ^ (64 - n) by rw [pk], ← Nat.mul_assoc, ← Nat.mul_assoc, ← Nat.mul_assoc, Nat.add_mul]
    have h1 : c * 2 ^ (64 * i) = c / 2 ^ n * 2 ^ n * 2 ^ (64 * i) + c % 2 ^ n * 2 ^ (64 * i) := by
      rw [← Nat.add_mul, Nat.mul_comm (c / 2 ^ n), cdm]
    rw [h1, Nat.add_mul, Nat.mul_right_comm a (2 ^ n)]
    generalize a * 2 ^ (64 - n) * 2 ^ n * 2 ^ (64 * i) = Z1
    generalize c / 2 ^ n * 2 ^ n * 2 ^ (64 * i) = Z2
    generalize c % 2 ^ n * 2 ^ (64 * i) = Z3
    omega
  have small : c % 2 ^ n * 2 ^ (64 * i) + W < 2 ^ (n + 64 * i) := by
    have h := Nat.mul_le_mul_right (2 ^ (64 * i)) (show c % 2 ^ n + 1 ≤ 2 ^ n from cm)
    rw [Nat.add_mul, Nat.one_mul, ← Nat.pow_add] at h
    exact Nat.lt_of_lt_of_le (Nat.add_lt_add_left hl _) h
  obtain ⟨q1, q2⟩ := lD f mode neg (-298) (a * 2 ^ (64 - n) + c / 2 ^ n) (c % 2 ^ n * 2 ^ (64 * i) + W) (n + 64 * i) false small (Nat.le_trans hp (Nat.le_trans (show 2 ^ 24 ≤ a * 2 ^ (64 - n) by omega) (Nat.le_add_right _ _)))
  have t : decide (c % 2 ^ n * 2 ^ (64 * i) + W ≠ 0) = (decide (c % 2 ^ n ≠ 0) || decide (W ≠ 0)) := by
    have pi := Nat.two_pow_pos (64 * i)
    by_cases c0 : c % 2 ^ n = 0
    · rw [c0, Nat.zero_mul, Nat.zero_add]; simp
    · have : c % 2 ^ n * 2 ^ (64 * i) ≠ 0 := Nat.mul_ne_zero c0 (by omega)
      rw [decide_eq_true (show c % 2 ^ n * 2 ^ (64 * i) + W ≠ 0 by omega), decide_eq_true (show c % 2 ^ n ≠ 0 from c0)]; rfl
  rw [e, q1, q2, Bool.false_or, t, show (-298 : Int) + ((n + 64 * i : Nat) : Int) = 64 * ((i : Int) + 1) - 298 - (64 - (n : Int)) by omega]
  exact ⟨rfl, rfl, by omega⟩
theorem zM (i L : Nat) (hi : i < 10) (h1 : L ≤ 64) : wrap64 (wrap64 (wrap64 (64 * ((i + 1 : Nat) : Int)) - 298) - ((64 - L : Nat) : Int)) = 64 * ((i : Int) + 1) - 298 - (64 - (L : Int)) ∧ -10000 ≤ 64 * ((i : Int) + 1) - 298 - (64 - (L : Int)) ∧ 64 * ((i : Int) + 1) - 298 - (64 - (L : Int)) ≤ 10000 := by
  rw [bW (64 * _) (by omega) (by omega), bW (64 * _ - 298) (by omega) (by omega), bW _ (by omega) (by omega)]; omega
theorem aB8 (c : Nat) (hc : c < 18446744073709551616) : (!((c : Int) == 0)) = decide (c % 2 ^ 64 ≠ 0) := by
  rw [show c % 2 ^ 64 = c from Nat.mod_eq_of_lt (by rw [show (2 : Nat) ^ 64 = 18446744073709551616 by decide]; exact hc)]
  by_cases c0 : c = 0
  · rw [c0]; rfl
  · rw [beq_eq_false_iff_ne.mpr (show (c : Int) ≠ 0 by omega), decide_eq_true c0]; rfl
theorem full_sig (a c : Nat) (hc : c < 18446744073709551616) : a * 2 ^ (64 - 64) + c / 2 ^ 64 = a := by
  rw [Nat.div_eq_of_lt (by rw [show (2 : Nat) ^ 64 = 18446744073709551616 by decide]; exact hc), Nat.sub_self, Nat.pow_zero, Nat.mul_one, Nat.add_zero]
theorem part_sig (a c L : Nat) (hL : L ≤ 64) (hc : c < 18446744073709551616) (n4 : a < 2 ^ L) : Go.bits .or .u64 (shl .u64 (a : Int) ((64 - L : Nat) : Int)) (shr .u64 (c : Int) (L : Int)) = ((a * 2 ^ (64 - L) + c / 2 ^ L : Nat) : Int) := by
  have e64 : L + (64 - L) = 64 := by clear n4 hc; omega
  have pn := Nat.two_pow_pos L
  have cd : c / 2 ^ L < 2 ^ (64 - L) := (Nat.div_lt_iff_lt_mul pn).mpr (by
    rw [← Nat.pow_add, Nat.add_comm, e64]; exact hc)
  have a64 : a * 2 ^ (64 - L) < 18446744073709551616 := by
    have h := Nat.mul_lt_mul_of_pos_right n4 (Nat.two_pow_pos (64 - L))
    rw [← Nat.pow_add, e64] at h; exact h
  rw [kP, nT _ _ hc, Nat.mod_eq_of_lt a64, aAc _ _ a64 (Nat.lt_of_le_of_lt (Nat.div_le_self _ _) hc), nD _ _ (64 - L) (Nat.mul_mod_left _ _) cd]
theorem aBV (c L : Nat) (hL : L ≤ 64) : (!(shl .u64 (c : Int) ((64 - L : Nat) : Int) == 0)) = decide (c % 2 ^ L ≠ 0) := by
  have e64 : L + (64 - L) = 64 := by omega
  have h1 : c * 2 ^ (64 - L) % 18446744073709551616 = c % 2 ^ L * 2 ^ (64 - L) := by
    rw [show (18446744073709551616 : Nat) = 2 ^ L * 2 ^ (64 - L) by rw [← Nat.pow_add, e64]]
    exact Nat.mul_mod_mul_right _ _ _
  rw [kP, h1]
  by_cases c0 : c % 2 ^ L = 0
  · rw [c0, Nat.zero_mul]; rfl
  · have : c % 2 ^ L * 2 ^ (64 - L) ≠ 0 := Nat.mul_ne_zero c0 (Nat.ne_of_gt (Nat.two_pow_pos _))
    rw [beq_eq_false_iff_ne.mpr (show ((c % 2 ^ L * 2 ^ (64 - L) : Nat) : Int) ≠ 0 from fun e => this (Int.ofNat.inj e)), decide_eq_true c0]; rfl
theorem aBa (L : Nat) (n1 : L ≤ 64) : wrap64 (64 - (L : Int)) = ((64 - L : Nat) : Int) ∧ (0 : Int) ≤ (L : Int) ∧ (0 : Int) ≤ ((64 - L : Nat) : Int) := by
  rw [bW _ (by omega) (by omega)]; omega
theorem aBK (i : Nat) (h : i + 1 < 10) : (0 : Int) ≤ ((i + 1 : Nat) : Int) ∧ ((i + 1 : Nat) : Int) < 10 ∧ (0 : Int) < ((i + 1 : Nat) : Int) ∧ wrap64 (((i + 1 : Nat) : Int) - 1) = (i : Int) ∧ (0 : Int) ≤ (i : Int) ∧ (i : Int) < 10 ∧ ((i + 1 : Nat) : Int) = (i : Int) + 1 := by
  rw [bW _ (by omega) (by omega)]; omega
theorem aAR {a : Nat} (h : a ≠ 0) : ¬ ((a : Int) = 0) := by omega
theorem yM (f mode : Int) (neg c0 c1 c2 c3 c4 : Bool) {xs : List Int} (i : Nat) (hi : i + 1 < 10) (a c L : Nat) (r : Int × Bool × Bool × Bool × Bool × Bool) (ra : rd xs ((i + 1 : Nat) : Int) = (a : Int)) (rc : rd xs (i : Int) = (c : Int)) (ha : a ≠ 0) (hc : c < 18446744073709551616) (n1 : L ≤ 64) (n4 : a < 2 ^ L)
    (hln : Ev (fun n => aS.f n (a : Int)) (L : Int))
    (fin : ∀ (more : Bool) (top : Int), top = (i : Int) + 1 → more = decide (c % 2 ^ L ≠ 0) →
          Ev2 (fun k n => aM.l19 k n ((0 : Nat) : Int) more (64 * ((i : Int) + 1) - 298 - (64 - (L : Int))) ((a * 2 ^ (64 - L) + c / 2 ^ L : Nat) : Int) top mode f c0 c1 c2 c3 c4 neg xs) r) :
    Ev2 (fun k n => aM.l2 k n ((i + 1 : Nat) : Int) mode f c0 c1 c2 c3 c4 neg xs) r := by
  obtain ⟨j0, j1, jp, hw, k0, k1, tp⟩ := aBK i hi
  obtain ⟨w1, l0, l1⟩ := aBa L n1
  have za := aAR ha
  have w2 := (zM i L (Nat.lt_of_succ_lt hi) n1).1
  refine Ev2.step (fun k n => by rw [aM.aAp, if_pos j0, if_pos j1, ra, if_neg za, if_pos j0, if_pos j1]) (Ev2.bind hln ?_)
  by_cases full : L = 64
  · have f1 : ((L : Int) = 64) := by rw [full]; rfl
    have f2 : ¬ ((L : Int) < 64) := by rw [f1]; decide
    have sg : a * 2 ^ (64 - L) + c / 2 ^ L = a := by rw [full]; exact full_sig a c hc
    have more : (!((c : Int) == 0)) = decide (c % 2 ^ L ≠ 0) := by rw [full]; exact aB8 c hc
    rw [sg] at fin
    refine Ev2.congr (fun k n => by
      rw [if_pos j0, if_pos j1, if_pos jp, w1, if_pos l1, hw, if_pos k0, if_pos k1, if_pos l0, if_pos f1, if_pos j0, if_pos j1, if_pos k0, if_pos k1, if_neg f2, w2, rc, more]) ?_
    exact (fin _ _ tp rfl).inner
  · have f1 : ¬ ((L : Int) = 64) := fun e => full (by clear n4 fin hln; omega)
    have f2 : (L : Int) < 64 := by clear n4 fin hln; omega
    have sg := part_sig a c L n1 hc n4
    have more := aBV c L n1
    refine Ev2.congr (fun k n => by
      rw [if_pos j0, if_pos j1, if_pos jp, w1, if_pos l1, hw, if_pos k0, if_pos k1, if_pos l0, if_neg f1, if_pos k0, if_pos k1, if_pos f2, if_pos l1, w2, rc, sg, more]) ?_
    exact (fin _ _ tp rfl).inner
theorem aAz (f mode : Int) (neg c0 c1 c2 c3 c4 : Bool) {xs : List Int} (hx : lQ xs) (j : Nat) : j < 10 → lo xs (j + 1) ≠ 0 →
    Ev2 (fun k n => aM.l2 k n (j : Int) mode f c0 c1 c2 c3 c4 neg xs) ((fI f mode neg (-298) (lo xs (j + 1)) false : Int), false, false, kY f mode neg (-298) (lo xs (j + 1)) false) := by
  induction j with
  | zero =>
    intro _ h
    rw [kQ, mO, Nat.zero_add, Nat.mul_zero, Nat.pow_zero, Nat.mul_one] at h ⊢
    have h1 := hx.lt 0
    have hp := lM f mode neg (-298) (lim xs 0) false h1
    rw [iF _ (by omega) (by omega)] at hp
    have w0 : wrap64 (wrap64 (64 * ((0 : Nat) : Int)) - 298) = -298 := by unfold wrap64; omega
    have r0 := hx.rd 0
    refine Ev2.step (fun k n => by rw [aM.aAp, if_pos (by decide), if_pos (by decide), r0, if_neg (by omega), if_pos (by decide), if_pos (by decide)]) ?_
    refine Ev2.bind (qL _ h1) ?_
    refine Ev2.congr (fun k n => by rw [if_pos (by decide), if_pos (by decide), if_neg (by decide), w0]) ?_
    exact Ev2.bind hp (Ev2.now _)
  | succ i ih =>
    intro hj h
    have j0 : (0 : Int) ≤ ((i + 1 : Nat) : Int) := by omega
    have j1 : ((i + 1 : Nat) : Int) < 10 := by omega
    have jp : (0 : Int) < ((i + 1 : Nat) : Int) := by omega
    have hw : wrap64 (((i + 1 : Nat) : Int) - 1) = (i : Int) := by rw [bW _ (by omega) (by omega)]; omega
    have k0 : (0 : Int) ≤ (i : Int) := by omega
    have k1 : (i : Int) < 10 := by omega
    by_cases z : lim xs (i + 1) = 0
    · have e : lo xs (i + 1 + 1) = lo xs (i + 1) := by rw [kQ xs (i + 1), z, Nat.zero_mul, Nat.add_zero]
      rw [e] at h ⊢
      refine Ev2.step (fun k n => by rw [aM.aAp, if_pos j0, if_pos j1, hx.rd (i + 1), if_pos (by rw [z]; rfl), hw]) ?_
      exact ih (by omega) h
    · obtain ⟨p1, p2, p3⟩ := yT f mode i neg hx (by omega) z
      have ha := hx.lt (i + 1)
      have hc := hx.lt i
      have ra := hx.rd (i + 1)
      have rc := hx.rd i
      have n1 := fO _ 64 ha
      have n2 := kS _ z
      have n4 := lF (lim xs (i + 1))
      have hln := qL _ ha
      have fin : ∀ (more : Bool) (top : Int), top = (i : Int) + 1 → more = decide (lim xs i % 2 ^ fK (lim xs (i + 1)) ≠ 0) →
          Ev2 (fun k n => aM.l19 k n ((0 : Nat) : Int) more (64 * ((i : Int) + 1) - 298 - (64 - (fK (lim xs (i + 1)) : Int))) ((lim xs (i + 1) * 2 ^ (64 - fK (lim xs (i + 1))) + lim xs i / 2 ^ fK (lim xs (i + 1)) : Nat) : Int) top mode f c0 c1 c2 c3 c4 neg xs) ((fI f mode neg (-298) (lo xs (i + 1 + 1)) false : Int), false, false, kY f mode neg (-298) (lo xs (i + 1 + 1)) false) := by
        intro more top ht hm
        refine xL f mode _ _ top i neg c0 c1 c2 c3 c4 hx _ ht (by omega) i 0 more (by omega) ?_
        rw [anyL_lo, hm, p1, p2]
        have hp := lM f mode neg (64 * ((i : Int) + 1) - 298 - (64 - (fK (lim xs (i + 1)) : Int))) (lim xs (i + 1) * 2 ^ (64 - fK (lim xs (i + 1))) + lim xs i / 2 ^ fK (lim xs (i + 1))) (decide (lim xs i % 2 ^ fK (lim xs (i + 1)) ≠ 0) || decide (lo xs i ≠ 0)) p3
        have we := zM i (fK (lim xs (i + 1))) (Nat.lt_of_succ_lt hj) n1
        rw [iF _ we.2.1 we.2.2] at hp
        exact hp
      exact yM f mode neg c0 c1 c2 c3 c4 i hj _ _ _ _ (hx.rd (i + 1)) (hx.rd i) z hc n1 n4 hln fin
end Go.Proofs.YtfapjegkilljnaaGreat.Round

/- Sums to all bits that rounding asks for: the program's, as plain numbers. -/
namespace Go.Proofs.YtfapjegkilljnaaGreat.Round
open Go.RowKit Go.Proofs.YtfapjegkilljnaaGreat.P Go.Proofs.YtfapjegkilljnaaGreat.Num Go.Proofs.YtfapjegkilljnaaGreat.BitsF Go.Proofs.YtfapjegkilljnaaGreat.Fmt Go.Proofs.YtfapjegkilljnaaGreatW.PrintWords Go.Proofs.YtfapjegkilljnaaGreatW.PrintLast Go.Proofs.YtfapjegkilljnaaGreatW.PrintMore

theorem up_shift (v n : Nat) (h : v * 2 ^ n < 18446744073709551616) : (lN v (-(n : Int))).1 = v * 2 ^ n := by
 have hp := Nat.two_pow_pos n
 have hv : v < 18446744073709551616 := Nat.lt_of_le_of_lt (Nat.le_mul_of_pos_right v hp) h
 rw [lI v n hv]
 exact Nat.mod_eq_of_lt h
theorem aBx (n : Bool) (e : Int) (s : Nat) (m : Bool) (h : s ≠ 0) (h' : s < 4611686018427387904) (l : -100000 ≤ e) (l' : e ≤ 100000) : Ev (fun k => eF.f k n e (s : Int) m) (n, e - (kI s : Int), ((s * 2 ^ kI s : Nat) : Int), m) := by
 obtain ⟨a1, a2, a3, a4⟩ := jW s h h'
 have hw : wrap64 (62 - (fK s : Int)) = (kI s : Int) := by rw [bW _ (by omega) (by omega)]; omega
 refine Ev.congr (fun k => by unfold eF.f; rfl) (Ev.bind (aCf s (by omega)) ?_)
 rw [hw, bW (-(kI s : Int)) (by omega) (by omega), bW (e - (kI s : Int)) (by omega) (by omega)]
 refine Ev.bind (rO s (by omega) (-(kI s : Int)) (by omega) (by omega)) ?_
 dsimp only
 rw [up_shift _ _ (by omega)]
 exact Ev.now _
def xP (r : Bool × Int × Nat × Bool) : Bool × Int × Int × Bool := (r.1, r.2.1, (r.2.2.1 : Int), r.2.2.2)
theorem sub_w (A L : Nat) (h : L ≤ A) (hA : A < 18446744073709551616) : IntKind.u64.wrap ((A : Int) - (L : Int)) = ((A - L : Nat) : Int) := by rw [jZ]; omega
theorem aCq (A L : Nat) (h : L + 1 ≤ A) (hA : A < 18446744073709551616) : IntKind.u64.wrap (((A - L : Nat) : Int) - 1) = ((A - L - 1 : Nat) : Int) := by rw [jZ]; omega
theorem aBb (na : Bool) (Ea : Int) (A : Nat) (nb : Bool) (Eb : Int) (B : Nat) (h : Eb ≤ Ea) (h0 : Ea = Eb → B ≤ A) (a1 : 2305843009213693952 ≤ A) (a2 : A < 4611686018427387904) (b2 : B < 4611686018427387904) (l1 : -200000 ≤ Eb) (l2 : Ea ≤ 200000) :
  Ev (fun k => aQ.j1 k na Ea (A : Int) false nb Eb (B : Int) false) (xP (gU na Ea A nb Eb B)) := by
 obtain ⟨d, hd⟩ : ∃ d : Nat, Ea - Eb = (d : Int) := ⟨(Ea - Eb).toNat, by omega⟩
 have hlow : B / 2 ^ d ≤ A ∧ (B % 2 ^ d ≠ 0 → B / 2 ^ d + 1 ≤ A) := by
  rcases Nat.eq_zero_or_pos d with c | c
  ·subst c
   have := h0 (by omega)
   rw [Nat.pow_zero, Nat.div_one, Nat.mod_one]; omega
  ·have h2 : 2 ^ 1 ≤ 2 ^ d := Nat.pow_le_pow_right (by decide) c
   have h3 : B / 2 ^ d ≤ B / 2 := Nat.div_le_div_left h2 (by decide)
   omega
 have hl62 : B / 2 ^ d < 4611686018427387904 := Nat.lt_of_le_of_lt (Nat.div_le_self _ _) b2
 refine Ev.step (fun k => by rw [aQ.j1, bW (Ea - Eb) (by omega) (by omega), hd]) (Ev.bind (rO B (by omega) (d : Int) (by omega) (by omega)) ?_)
 rw [jD]
 dsimp only
 unfold gU xP
 rw [hd, Int.toNat_natCast]
 by_cases n : na = nb
 ·subst n
  rw [if_pos rfl]
  refine Ev.congr (fun k => ?_) (Ev.now _)
  rw [if_pos (beq_self_eq_true na), ← Int.natCast_add, fD _ (by omega)]
 ·rw [if_neg n]
  have hb : ¬ (na == nb) = true := by rw [beq_iff_eq]; exact n
  by_cases o : B % 2 ^ d ≠ 0
  ·have := hlow.2 o
   rw [if_pos o]
   refine Ev.congr (fun k => ?_) (show Ev (fun k => aQ.j2 k na Ea ((A - B / 2 ^ d - 1 : Nat) : Int) (decide (B % 2 ^ d ≠ 0))) (na, Ea, ((A - B / 2 ^ d - 1 : Nat) : Int), decide (B % 2 ^ d ≠ 0)) from Ev.step (fun k => by rw [aQ.j2]) (Ev.now _))
   rw [if_neg hb, if_pos (decide_eq_true o)]
   rw [sub_w A _ hlow.1 (by omega), aCq A _ this (by omega)]
  ·rw [if_neg o, Nat.sub_zero]
   refine Ev.congr (fun k => ?_) (show Ev (fun k => aQ.j2 k na Ea ((A - B / 2 ^ d : Nat) : Int) (decide (B % 2 ^ d ≠ 0))) (na, Ea, ((A - B / 2 ^ d : Nat) : Int), decide (B % 2 ^ d ≠ 0)) from Ev.step (fun k => by rw [aQ.j2]) (Ev.now _))
   rw [if_neg hb, if_neg (show ¬ decide (B % 2 ^ d ≠ 0) = true by rw [decide_eq_true_iff]; exact o)]
   rw [sub_w A _ hlow.1 (by omega)]
theorem zW (n1 : Bool) (e1 : Int) (s1 : Nat) (n2 : Bool) (e2 : Int) (s2 : Nat) (h1 : s1 < 4611686018427387904) (h2 : s2 < 4611686018427387904) (l1 : -100000 ≤ e1) (l1' : e1 ≤ 100000) (l2 : -100000 ≤ e2) (l2' : e2 ≤ 100000) :
  Ev (fun k => aQ.f k n1 e1 (s1 : Int) false n2 e2 (s2 : Int) false) (xP (lL n1 e1 s1 n2 e2 s2)) := by
 refine Ev.congr (fun k => by unfold aQ.f; rfl) ?_
 unfold lL
 by_cases z1 : s1 = 0
 ·rw [if_pos z1]
  exact Ev.congr (fun k => by rw [if_pos (by omega)]; rfl) (Ev.now _)
 ·rw [if_neg z1]
  by_cases z2 : s2 = 0
  ·rw [if_pos z2]
   exact Ev.congr (fun k => by rw [if_neg (by omega), if_pos (by omega)]; rfl) (Ev.now _)
  ·rw [if_neg z2]
   obtain ⟨a1, a2, a3, a4⟩ := jW s1 z1 h1
   obtain ⟨b1, b2, b3, b4⟩ := jW s2 z2 h2
   refine Ev.congr (fun k => by rw [if_neg (by omega), if_neg (by omega)]) (Ev.bind (aBx n1 e1 s1 false z1 h1 l1 l1') (Ev.bind (aBx n2 e2 s2 false z2 h2 l2 l2') ?_))
   dsimp only
   generalize hE1 : e1 - (kI s1 : Int) = E1 at *
   generalize hE2 : e2 - (kI s2 : Int) = E2 at *
   generalize s1 * 2 ^ kI s1 = A at *
   generalize s2 * 2 ^ kI s2 = B at *
   have swap : (E1 < E2 ∨ E1 = E2 ∧ A < B) → Ev (fun k => aQ.j0 k true n1 E1 (A : Int) false n2 E2 (B : Int) false) (xP (if E1 < E2 ∨ E1 = E2 ∧ A < B then gU n2 E2 B n1 E1 A else gU n1 E1 A n2 E2 B)) := by
    intro c
    rw [if_pos c]
    exact Ev.step (fun k => by rw [aQ.j0, if_pos rfl]) (aBb n2 E2 B n1 E1 A (by omega) (by omega) b3 b4 a4 (by omega) (by omega))
   have stay : ¬ (E1 < E2 ∨ E1 = E2 ∧ A < B) → Ev (fun k => aQ.j0 k false n1 E1 (A : Int) false n2 E2 (B : Int) false) (xP (if E1 < E2 ∨ E1 = E2 ∧ A < B then gU n2 E2 B n1 E1 A else gU n1 E1 A n2 E2 B)) := by
    intro c
    rw [if_neg c]
    exact Ev.step (fun k => by rw [aQ.j0, if_neg (by decide)]) (aBb n1 E1 A n2 E2 B (by omega) (by omega) a3 a4 b4 (by omega) (by omega))
   by_cases c1 : E1 < E2
   ·exact Ev.congr (fun k => by rw [if_pos c1]) (swap (.inl c1))
   ·by_cases c2 : E1 = E2
    ·by_cases c3 : A < B
     ·exact Ev.congr (fun k => by rw [if_neg c1, if_pos c2, decide_eq_true (show (A : Int) < (B : Int) by omega)]) (swap (.inr ⟨c2, c3⟩))
     ·exact Ev.congr (fun k => by rw [if_neg c1, if_pos c2, decide_eq_false (show ¬ (A : Int) < (B : Int) by omega)]) (stay (by omega))
    ·exact Ev.congr (fun k => by rw [if_neg c1, if_neg c2]) (stay (by omega))
theorem qO (n1 : Bool) (e1 : Int) (s1 : Nat) (n2 : Bool) (e2 : Int) (s2 : Nat) (h1 : s1 < 4611686018427387904) (h2 : s2 < 4611686018427387904) (l1 : -1000 ≤ e1) (l1' : e1 ≤ 1000) (l2 : -1000 ≤ e2) (l2' : e2 ≤ 1000) :
  -1100 ≤ (lL n1 e1 s1 n2 e2 s2).2.1 ∧ (lL n1 e1 s1 n2 e2 s2).2.1 ≤ 1000 ∧ (lL n1 e1 s1 n2 e2 s2).2.2.1 < 9223372036854775808 := by
 have meet : ∀ (na : Bool) (Ea : Int) (A : Nat) (nb : Bool) (Eb : Int) (B : Nat), A < 4611686018427387904 → B < 4611686018427387904 → (gU na Ea A nb Eb B).2.1 = Ea ∧ (gU na Ea A nb Eb B).2.2.1 < 9223372036854775808 := by
  intro na Ea A nb Eb B ha hb
  have hl := Nat.div_le_self B (2 ^ (Ea - Eb).toNat)
  unfold gU
  by_cases n : na = nb
  ·rw [if_pos n]; exact ⟨rfl, by show A + B / 2 ^ (Ea - Eb).toNat < _; omega⟩
  ·rw [if_neg n]; exact ⟨rfl, Nat.lt_of_le_of_lt (Nat.le_trans (Nat.sub_le _ _) (Nat.sub_le _ _)) (show A < 9223372036854775808 by omega)⟩
 unfold lL
 by_cases z1 : s1 = 0
 ·rw [if_pos z1]; dsimp only; omega
 ·rw [if_neg z1]
  by_cases z2 : s2 = 0
  ·rw [if_pos z2]; dsimp only; omega
  ·rw [if_neg z2]
   obtain ⟨a1, a2, a3, a4⟩ := jW s1 z1 h1
   obtain ⟨b1, b2, b3, b4⟩ := jW s2 z2 h2
   split
   ·have := meet n2 (e2 - (kI s2 : Int)) _ n1 (e1 - (kI s1 : Int)) _ b4 a4; omega
   ·have := meet n1 (e1 - (kI s1 : Int)) _ n2 (e2 - (kI s2 : Int)) _ a4 b4; omega
end Go.Proofs.YtfapjegkilljnaaGreat.Round
