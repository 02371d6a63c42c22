import Derived.Test.YtfapjegkilljnaaQobZ
import Derived.Test.YtfapjegkilljnaaQobM4
import Derived.Test.YtfapjegkilljnaaQobM5
import Derived.Test.YtfapjegkilljnaaQobM6
import Derived.Test.YtfapjegkilljnaaQobPackE
-- Printed by a program of this session's out of Lean's print of the translation; Lean checks it.
set_option linter.unusedVariables false
set_option linter.unusedSimpArgs false
namespace Go.Proofs.Ytfapjegkilljnaa.P
open Go.RowKit Go.Proofs.YtfapjegkilljnaaW.PrintWords Go.Proofs.YtfapjegkilljnaaW.PrintLast Go.Proofs.YtfapjegkilljnaaW.PrintMore
attribute [local go_sem] max2_int min2_int max_two min_two max_three min_three max_four min_four

-- NEED 2
/-! ### bA: function 102 -/
mutual
def bA.j0 : Nat → Int → Int → Int → Int → Bool → Bool → Bool → Option (Int × Bool × Bool × Bool × Bool × Bool)
 |0, _, _, _, _, _, _, _ => none
 |k + 1, x0, x1, x2, x3, x13, x14, x39 => if x39 = true then ((bG.f x0 x2).bind fun t471 => ((bG.f x0 x3).bind fun t472 => ((aM.f k x0 t471 t472 x13 x14).bind fun bt473 => (some (bt473.1, bt473.2.1, bt473.2.2.1, bt473.2.2.2.1, bt473.2.2.2.2.1, bt473.2.2.2.2.2))))) else ((dL.f x0 x2).bind fun bt479 => ((dL.f x0 x3).bind fun bt483 => ((aG.f k bt479.1 bt479.2.1 bt479.2.2.1 bt479.2.2.2 bt483.1 bt483.2.1 bt483.2.2.1 bt483.2.2.2).bind fun bt489 => (if bt489.2.2.1 = 0 then (bA.j1 k x0 x1 (!bt489.2.2.2) bt479.1 bt479.2.1 bt479.2.2.1 bt479.2.2.2 bt483.1 bt483.2.1 bt483.2.2.1 bt483.2.2.2 bt489.1 bt489.2.1 bt489.2.2.1 bt489.2.2.2) else (bA.j1 k x0 x1 false bt479.1 bt479.2.1 bt479.2.2.1 bt479.2.2.2 bt483.1 bt483.2.1 bt483.2.2.1 bt483.2.2.2 bt489.1 bt489.2.1 bt489.2.2.1 bt489.2.2.2)))))
def bA.j1 : Nat → Int → Int → Bool → Bool → Int → Int → Bool → Bool → Int → Int → Bool → Bool → Int → Int → Bool → Option (Int × Bool × Bool × Bool × Bool × Bool)
 |0, _, _, _, _, _, _, _, _, _, _, _, _, _, _, _ => none
 |k + 1, x0, x1, x68, x488000, x488001, x488002, x488003, x489000, x489001, x489002, x489003, x494000, x494001, x494002, x494003 => if x68 = true then ((dF.f x0 x1 x488000 x489000).bind fun t494 => (some (t494, false, false, false, false, false))) else ((aA.f k x0 x1 x494000 x494001 x494002 x494003).bind fun bt495 => (some (bt495.1, bt495.2.1, bt495.2.2.1, bt495.2.2.2.1, bt495.2.2.2.2.1, bt495.2.2.2.2.2)))
end
def bA.f (k : Nat) (a0 a1 : Int) (a2 a3 : Int) : Option (Int × Bool × Bool × Bool × Bool × Bool) := (aQ.f k a0 (([a2, a3] : List Int))).bind fun bt461 => (if bt461.2.2.2.2.2.2 = true then (some (bt461.1, bt461.2.1, bt461.2.2.1, bt461.2.2.2.1, bt461.2.2.2.2.1, bt461.2.2.2.2.2.1)) else ((aD.f k a0 a2).bind fun t469 => ((aD.f k a0 a3).bind fun t470 => (if t469 = true then (bA.j0 k a0 a1 a2 a3 t469 t470 true) else (bA.j0 k a0 a1 a2 a3 t469 t470 t470)))))
end Go.Proofs.Ytfapjegkilljnaa.P

/- Sums and differences: the program's, as plain numbers. -/
namespace Go.Proofs.Ytfapjegkilljnaa.Round
open Go.RowKit Go.Proofs.Ytfapjegkilljnaa.P Go.Proofs.Ytfapjegkilljnaa.Num Go.Proofs.Ytfapjegkilljnaa.BitsF Go.Proofs.Ytfapjegkilljnaa.Fmt Go.Proofs.YtfapjegkilljnaaW.PrintWords Go.Proofs.YtfapjegkilljnaaW.PrintLast Go.Proofs.YtfapjegkilljnaaW.PrintMore

theorem vT (f mode : Int) (a b : Bool) : dF.f f mode a b = some (qU f mode a b : Int) := by
 unfold dF.f qU
 have e3 : ((mode == 3) : Bool) = decide (mode = 3) := by
  by_cases c : mode = 3
  ·subst c; rfl
  ·rw [decide_eq_false c]; exact beq_eq_false_iff_ne.mpr c
 rw [e3]
 by_cases c : a = b
 ·subst c; rw [if_pos (beq_self_eq_true a), if_pos rfl, rQ]; rfl
 ·rw [if_neg (show ¬ (a == b) = true by rw [beq_iff_eq]; exact c), if_neg c, rQ]; rfl
theorem oD (f : Int) (a b x y : Bool) : Ev (fun k => aM.f k f a b x y) (if x = true ∧ y = true ∧ a ≠ b then ((nO f : Int), true, false, false, false, false) else if x = true then ((nQ f a : Int), false, false, false, false, false) else ((nQ f b : Int), false, false, false, false, false)) := by
 have bad : Ev (fun k => aM.j0 k f a b x true) ((nO f : Int), true, false, false, false, false) :=
  Ev.step (fun k => by rw [aM.j0, if_pos rfl, wV]; rfl) (Ev.now _)
 have left : x = true → Ev (fun k => aM.j0 k f a b x false) ((nQ f a : Int), false, false, false, false, false) := fun h =>
  Ev.step (fun k => by rw [aM.j0, if_neg (by decide), if_pos h, sV]; rfl) (Ev.now _)
 have right : ¬ x = true → Ev (fun k => aM.j0 k f a b x false) ((nQ f b : Int), false, false, false, false, false) := fun h =>
  Ev.step (fun k => by rw [aM.j0, if_neg (by decide), if_neg h, sV]; rfl) (Ev.now _)
 refine Ev.congr (fun k => by unfold aM.f; rfl) ?_
 by_cases hx : x = true
 ·by_cases hy : y = true
  ·by_cases n : a = b
   ·rw [if_neg (fun h => h.2.2 n), if_pos hx]
    refine Ev.congr (fun k => ?_) (left hx)
    rw [if_pos hx, if_pos hy, n, bne_self_eq_false]
   ·rw [if_pos ⟨hx, hy, n⟩]
    refine Ev.congr (fun k => ?_) bad
    rw [if_pos hx, if_pos hy, bne_iff_ne.mpr n]
  ·rw [if_neg (fun h => hy h.2.1), if_pos hx]
   exact Ev.congr (fun k => by rw [if_pos hx, if_neg hy]) (left hx)
 ·rw [if_neg (fun h => hx h.1), if_neg hx]
  exact Ev.congr (fun k => by rw [if_neg hx]) (right hx)
theorem kF (f : Int) (v : Nat) : bM f v < 4611686018427387904 := by
 have h := dC f
 have h1 := jM f v
 have h2 := dM (show fm f + 1 ≤ 31 by omega)
 omega
theorem add_ev (f mode : Int) (a b : Nat) (ha : a < 4294967296) (hb : b < 4294967296) : Ev (fun k => bA.f k f mode (a : Int) (b : Int)) ((sumN f mode a b : Int), sumX f mode a b) := by
 have hla := pI f a
 have hlb := pI f b
 refine Ev.congr (fun k => by unfold bA.f; rfl) (Ev.bind (lV f a b ha hb) ?_)
 unfold sumN sumX
 by_cases n : 4 ≤ bJ f a ∨ 4 ≤ bJ f b
 ·have e : (dO f a || dO f b) = true := by unfold dO; rw [Bool.or_eq_true, decide_eq_true_iff, decide_eq_true_iff]; exact n
  rw [if_pos n, if_pos n]
  exact Ev.congr (fun k => by rw [if_pos e]) (Ev.now _)
 ·have e : ¬ (dO f a || dO f b) = true := by unfold dO; rw [Bool.or_eq_true, decide_eq_true_iff, decide_eq_true_iff]; exact n
  rw [if_neg n, if_neg n]
  refine Ev.congr (fun k => by rw [if_neg e]) (Ev.bind (fH f a ha) (Ev.bind (fH f b hb) ?_))
  by_cases i : bJ f a = 3 ∨ bJ f b = 3
  ·have hj : Ev (fun k => bA.j0 k f mode (a : Int) (b : Int) (decide (bJ f a = 3)) (decide (bJ f b = 3)) true)
     ((((if bJ f a = 3 ∧ bJ f b = 3 ∧ cZ f a ≠ cZ f b then nO f else if bJ f a = 3 then nQ f (cZ f a) else if bJ f b = 3 then nQ f (cZ f b) else fD f mode (cZ f a) (cZ f b) (xE f a b) : Nat) : Int)),
      if bJ f a = 3 ∧ bJ f b = 3 ∧ cZ f a ≠ cZ f b then (true, false, false, false, false) else if bJ f a = 3 ∨ bJ f b = 3 then (false, false, false, false, false) else (false, false, gF f mode (xE f a b))) := by
    have hin := oD f (cZ f a) (cZ f b) (decide (bJ f a = 3)) (decide (bJ f b = 3))
    simp only [decide_eq_true_iff] at hin
    refine Ev.step (fun k => by rw [bA.j0, if_pos rfl, mZ f a ha, Option.bind_some, mZ f b hb, Option.bind_some]) (Ev.bind hin (Ev.congr (fun k => ?_) (Ev.now _)))
    by_cases t : bJ f a = 3 ∧ bJ f b = 3 ∧ cZ f a ≠ cZ f b
    ·rw [if_pos t, if_pos t, if_pos t]
    ·rw [if_neg t, if_neg t, if_neg t, if_pos i]
     by_cases a3 : bJ f a = 3
     ·rw [if_pos a3, if_pos a3]
     ·rw [if_neg a3, if_neg a3, if_pos (i.resolve_left a3)]
   by_cases a3 : bJ f a = 3
   ·exact Ev.congr (fun k => by rw [if_pos (decide_eq_true a3)]) hj
   ·refine Ev.congr (fun k => by rw [if_neg (by simp [a3])]) ?_
    rw [show decide (bJ f b = 3) = true from decide_eq_true (i.resolve_left a3)] at hj ⊢
    exact hj
  ·have a3 : ¬ bJ f a = 3 := fun h => i (.inl h)
   have b3 : ¬ bJ f b = 3 := fun h => i (.inr h)
   rw [if_neg (fun h => a3 h.1), if_neg a3, if_neg b3, if_neg (fun h => a3 h.1), if_neg i]
   obtain ⟨l1, l2⟩ := dQ f a
   obtain ⟨m1, m2⟩ := dQ f b
   have hx := vN (cZ f a) (bF f a) (bM f a) (cZ f b) (bF f b) (bM f b) (kF f a) (kF f b) (by omega) (by omega) (by omega) (by omega)
   obtain ⟨x1, x2, x3⟩ := mO (cZ f a) (bF f a) (bM f a) (cZ f b) (bF f b) (bM f b) (kF f a) (kF f b) (by omega) (by omega) (by omega) (by omega)
   rw [decide_eq_false a3, decide_eq_false b3]
   refine Ev.congr (fun k => by rw [if_neg (by decide)]) (Ev.step (fun k => by rw [bA.j0, if_neg (by decide), of_f f a ha (iN f a (by omega)), Option.bind_some, of_f f b hb (iN f b (by omega)), Option.bind_some]) ?_)
   dsimp only
   refine Ev.bind hx ?_
   unfold xE tQ
   generalize kQ (cZ f a) (bF f a) (bM f a) (cZ f b) (bF f b) (bM f b) = r at *
   obtain ⟨rn, re, rs, rm⟩ := r
   dsimp only at *
   have hp := lH f mode rn re rs rm (by omega)
   rw [jV _ (by omega) (by omega)] at hp
   have pack : ¬ (rs = 0 ∧ rm = false) → Ev (fun k => bA.j1 k f mode false (cZ f a) (bF f a) (bM f a : Int) false (cZ f b) (bF f b) (bM f b : Int) false rn re (rs : Int) rm) ((fD f mode (cZ f a) (cZ f b) (rn, re, rs, rm) : Int), false, false, gF f mode (rn, re, rs, rm)) := by
    intro z
    have zz : ¬ (rs, rm) = (0, false) := fun e => z ⟨(Prod.mk.inj e).1, (Prod.mk.inj e).2⟩
    unfold fD gF
    rw [if_neg zz, if_neg zz]
    exact Ev.step (fun k => by rw [bA.j1, if_neg (by decide)]) (Ev.bind hp (Ev.now _))
   by_cases s0 : rs = 0
   ·cases rm
    ·have zz : (rs, false) = (0, false) := by rw [s0]
     refine Ev.congr (fun k => by rw [if_pos (by omega)]) (Ev.step (fun k => by rw [bA.j1, if_pos (by decide), vT]) (Ev.congr (fun k => ?_) (Ev.now _)))
     unfold fD gF
     rw [if_pos zz, if_pos zz]; rfl
    ·exact Ev.congr (fun k => by rw [if_pos (by omega)]; rfl) (pack (by simp))
   ·exact Ev.congr (fun k => by rw [if_neg (by omega)]) (pack (fun h => s0 h.1))
/- Amounts: what a number's bits without its sign stand for, in units of the least number; rounding depends on the amount alone. -/

def o9 (f : Int) (v : Nat) : Nat := v % 2 ^ (fe f + fm f)
theorem lI (f : Int) (v : Nat) : o9 f v / 2 ^ fm f = oW f v ∧ o9 f v % 2 ^ fm f = lW f v := by
 unfold o9 oW lW
 rw [Nat.add_comm (fe f), Nat.pow_add]
 exact ⟨Nat.mod_mul_right_div_self .., Nat.mod_mul_right_mod ..⟩
/- Bits with a sign, beyond the greatest number: plain numbers alone (for rounds without chapter 9). -/

def infK (f : Int) : Nat := gW f * 2 ^ fm f
theorem infK_lt (f : Int) : infK f < 2 ^ (fe f + fm f) ∧ 0 < infK f := by
 obtain ⟨_, hi⟩ := kP f false
 have hp := Nat.two_pow_pos (fm f)
 have ht : 0 < gW f * 2 ^ fm f := Nat.mul_pos (by have := gD f; omega) hp
 unfold infK; omega
theorem kI (f : Int) (P : Nat) (neg : Bool) (h : P < 2 ^ (fe f + fm f)) : cZ f (P + d9 f neg) = neg ∧ o9 f (P + d9 f neg) = P ∧ P + d9 f neg < 2 ^ (fe f + fm f + 1) := by
 unfold cZ o9 d9
 have hp := Nat.two_pow_pos (fe f + fm f)
 cases neg
 ·simp only [Bool.false_eq_true, if_false, Nat.add_zero]
  rw [Nat.div_eq_of_lt h, Nat.mod_eq_of_lt h, Nat.pow_succ]
  exact ⟨rfl, rfl, by omega⟩
 ·simp only [if_true]
  rw [Nat.add_div_right _ hp, Nat.div_eq_of_lt h, Nat.add_mod_right, Nat.mod_eq_of_lt h, Nat.pow_succ]
  exact ⟨rfl, rfl, by omega⟩
theorem mag_cls (f : Int) (v : Nat) (h : o9 f v = infK f) : bJ f v = 3 := by
 obtain ⟨h1, h2⟩ := lI f v
 have ht := gD f
 unfold bJ
 rw [← h1, ← h2, h]
 unfold infK
 rw [Nat.mul_div_cancel _ (Nat.two_pow_pos _), Nat.mul_mod_left, if_neg (by omega), if_neg (by omega), if_pos rfl]
theorem mag_sign (f : Int) (v : Nat) (h : v < 2 ^ (fe f + fm f + 1)) : v = o9 f v + d9 f (cZ f v) := by
 unfold o9 d9 cZ
 have h1 := Nat.div_add_mod v (2 ^ (fe f + fm f))
 have h2 : v / 2 ^ (fe f + fm f) < 2 := by rw [Nat.div_lt_iff_lt_mul (Nat.two_pow_pos _), Nat.mul_comm, ← Nat.pow_succ]; exact h
 rw [Nat.mod_eq_of_lt h2]
 generalize v / 2 ^ (fe f + fm f) = b at *
 have h3 : b = 0 ∨ b = 1 := by omega
 rcases h3 with rfl | rfl
 ·simp at h1 ⊢; omega
 ·simp at h1 ⊢; omega
end Go.Proofs.Ytfapjegkilljnaa.Round

-- Printed by a program of this session's out of Lean's print of the translation; Lean checks it.
namespace Go.Proofs.Ytfapjegkilljnaa.P
open Go.RowKit Go.Proofs.YtfapjegkilljnaaW.PrintWords Go.Proofs.YtfapjegkilljnaaW.PrintLast Go.Proofs.YtfapjegkilljnaaW.PrintMore
attribute [local go_sem] max2_int min2_int max_two min_two max_three min_three max_four min_four

-- NEED 3
/-! ### dG: function 101 -/
def dG.f (k : Nat) (a0 a1 : Int) (a2 a3 : Int) : Option (Int × Bool × Bool × Bool × Bool × Bool) := (aQ.f k a0 (([a2, a3] : List Int))).bind fun bt505 => (if bt505.2.2.2.2.2.2 = true then (some (bt505.1, bt505.2.1, bt505.2.2.1, bt505.2.2.2.1, bt505.2.2.2.2.1, bt505.2.2.2.2.2.1)) else ((bX.f a0 a3).bind fun t513 => ((bA.f k a0 a1 a2 t513).bind fun bt514 => (some (bt514.1, bt514.2.1, bt514.2.2.1, bt514.2.2.2.1, bt514.2.2.2.2.1, bt514.2.2.2.2.2)))))
end Go.Proofs.Ytfapjegkilljnaa.P

/- Differences: the program's, as plain numbers. -/
namespace Go.Proofs.Ytfapjegkilljnaa.Round
open Go.RowKit Go.Proofs.Ytfapjegkilljnaa.P Go.Proofs.Ytfapjegkilljnaa.Num Go.Proofs.Ytfapjegkilljnaa.BitsF Go.Proofs.Ytfapjegkilljnaa.Fmt Go.Proofs.YtfapjegkilljnaaW.PrintWords Go.Proofs.YtfapjegkilljnaaW.PrintLast Go.Proofs.YtfapjegkilljnaaW.PrintMore

def jE (f : Int) (v : Nat) : Nat := o9 f v + d9 f (!cZ f v)
theorem xor_off (m n : Nat) (h : m < 2 ^ n) : m ^^^ 2 ^ n = m + 2 ^ n ∧ (m + 2 ^ n) ^^^ 2 ^ n = m := by
 have ho : m + 2 ^ n = 2 ^ n ||| m := by rw [pW (2 ^ n) m n (Nat.mod_self _) h, Nat.add_comm]
 have hn : m.testBit n = false := Nat.testBit_lt_two_pow h
 rw [ho]
 constructor
 ·apply Nat.eq_of_testBit_eq
  intro i
  rw [Nat.testBit_xor, Nat.testBit_or, Nat.testBit_two_pow]
  by_cases e : n = i
  ·subst e; rw [hn]; simp
  ·rw [decide_eq_false e]; simp
 ·apply Nat.eq_of_testBit_eq
  intro i
  rw [Nat.testBit_xor, Nat.testBit_or, Nat.testBit_two_pow]
  by_cases e : n = i
  ·subst e; rw [hn]; simp
  ·rw [decide_eq_false e]; simp
theorem zP (f : Int) (v : Nat) : o9 f v < 2 ^ (fe f + fm f) := Nat.mod_lt _ (Nat.two_pow_pos _)
theorem xS (f : Int) (v : Nat) : nH f v = o9 f v + d9 f (cZ f v) := by
 have h := mag_sign f (nH f v) (low_lt f v)
 have e : o9 f (nH f v) = o9 f v := by
  unfold o9 nH
  exact Nat.mod_mod_of_dvd _ (Nat.pow_dvd_pow 2 (by omega))
 rw [yM, e] at h
 exact h
theorem zV (f : Int) (v : Nat) (hv : v < 4294967296) : bX.f f (v : Int) = some (jE f v : Int) := by
 have hb := dC f
 have h31 := dM (show fe f + fm f ≤ 31 by omega)
 have hm := zP f v
 have hs : d9 f true = 2 ^ (fe f + fm f) := rfl
 have hs0 : d9 f false = 0 := rfl
 obtain ⟨x1, x2⟩ := xor_off (o9 f v) (fe f + fm f) hm
 unfold bX.f jE
 rw [fC, Option.bind_some, xR, Option.bind_some]
 dsimp only
 rw [sum_w, if_pos (Int.natCast_nonneg _), vI f v hv, mD _ (by omega), xS]
 cases cZ f v
 ·rw [hs0, Nat.add_zero, xK _ _ (by omega) (by omega), x1]; rfl
 ·rw [hs, xK _ _ (by omega) (by omega), x2, Bool.not_true, hs0, Nat.add_zero]
theorem pV (f : Int) (v : Nat) : cZ f (jE f v) = !cZ f v ∧ bJ f (jE f v) = bJ f v ∧ bM f (jE f v) = bM f v ∧ bF f (jE f v) = bF f v ∧ jE f v < 4294967296 := by
 have hb := dC f
 have h32 := kZ (show fe f + fm f + 1 ≤ 32 by omega)
 obtain ⟨p1, p2, p3⟩ := kI f (o9 f v) (!cZ f v) (zP f v)
 obtain ⟨m1, m2⟩ := lI f (jE f v)
 obtain ⟨n1, n2⟩ := lI f v
 have hm : o9 f (jE f v) = o9 f v := p2
 rw [hm] at m1 m2
 have he : oW f (jE f v) = oW f v := by rw [← m1, n1]
 have hf : lW f (jE f v) = lW f v := by rw [← m2, n2]
 refine ⟨p1, ?_, ?_, ?_, by unfold jE; omega⟩
 ·unfold bJ; rw [he, hf]
 ·unfold bM; rw [he, hf]
 ·unfold bF; rw [he]
def subN (f mode : Int) (a b : Nat) : Nat := if 4 ≤ bJ f a ∨ 4 ≤ bJ f b then nO f else sumN f mode a (jE f b)
def subX (f mode : Int) (a b : Nat) : Bool × Bool × Bool × Bool × Bool := if 4 ≤ bJ f a ∨ 4 ≤ bJ f b then (eZ f a || eZ f b, false, false, false, false) else sumX f mode a (jE f b)
theorem sub_ev (f mode : Int) (a b : Nat) (ha : a < 4294967296) (hb : b < 4294967296) : Ev (fun k => dG.f k f mode (a : Int) (b : Int)) ((subN f mode a b : Int), subX f mode a b) := by
 refine Ev.congr (fun k => by unfold dG.f; rfl) (Ev.bind (lV f a b ha hb) ?_)
 unfold subN subX
 by_cases n : 4 ≤ bJ f a ∨ 4 ≤ bJ f b
 ·have e : (dO f a || dO f b) = true := by unfold dO; rw [Bool.or_eq_true, decide_eq_true_iff, decide_eq_true_iff]; exact n
  rw [if_pos n, if_pos n]
  exact Ev.congr (fun k => by rw [if_pos e]) (Ev.now _)
 ·have e : ¬ (dO f a || dO f b) = true := by unfold dO; rw [Bool.or_eq_true, decide_eq_true_iff, decide_eq_true_iff]; exact n
  rw [if_neg n, if_neg n]
  exact Ev.congr (fun k => by rw [if_neg e, zV f b hb, Option.bind_some]) (Ev.bind (add_ev f mode a _ ha (pV f b).2.2.2.2) (Ev.now _))
/- Products: as plain numbers. -/

def mG (f : Int) (a b : Nat) : Bool := decide (bJ f a = 0 ∧ bJ f b = 3 ∨ bJ f a = 3 ∧ bJ f b = 0)
def mulN (f mode : Int) (a b : Nat) : Nat :=
 if 4 ≤ bJ f a ∨ 4 ≤ bJ f b then nO f else if mG f a b then nO f else if bJ f a = 3 ∨ bJ f b = 3 then nQ f (cZ f a != cZ f b)
 else mW f mode (cZ f a != cZ f b) (bF f a + bF f b) (bM f a * bM f b) false
def mulX (f mode : Int) (a b : Nat) : Bool × Bool × Bool × Bool × Bool :=
 if 4 ≤ bJ f a ∨ 4 ≤ bJ f b then (eZ f a || eZ f b, false, false, false, false) else if mG f a b then (true, false, false, false, false) else if bJ f a = 3 ∨ bJ f b = 3 then (false, false, false, false, false)
 else (false, false, excN f mode (cZ f a != cZ f b) (bF f a + bF f b) (bM f a * bM f b) false)
theorem rP (f : Int) (a b : Nat) : bM f a * bM f b < 18446744073709551616 := by
 have wa := jM f a
 have wb := jM f b
 have hbd := dC f
 have hp24 : 2 ^ (fm f + 1) ≤ 16777216 := Nat.pow_le_pow_right (show 0 < 2 by decide) (show fm f + 1 ≤ 24 by omega)
 have := Nat.mul_le_mul (show bM f a ≤ 16777216 by omega) (show bM f b ≤ 16777216 by omega)
 omega
end Go.Proofs.Ytfapjegkilljnaa.Round

-- Printed by a program of this session's out of Lean's print of the translation; Lean checks it.
namespace Go.Proofs.Ytfapjegkilljnaa.P
open Go.RowKit Go.Proofs.YtfapjegkilljnaaW.PrintWords Go.Proofs.YtfapjegkilljnaaW.PrintLast Go.Proofs.YtfapjegkilljnaaW.PrintMore
attribute [local go_sem] max2_int min2_int max_two min_two max_three min_three max_four min_four

-- NEED 2
/-! ### bO: function 32 -/
def bO.j0 : Nat → Int → Int → Int → Int → Bool → Bool → Option (Int × Bool × Bool × Bool × Bool × Bool)
 |0, _, _, _, _, _, _ => none
 |k + 1, x0, x1, x2, x3, x13, x49 => if x49 = true then ((bH.f x0 x13).bind fun t289 => (some (t289, false, false, false, false, false))) else ((cK.f x0 x2 x3).bind fun bt290 => ((aA.f k x0 x1 x13 bt290.2.1 bt290.2.2.1 false).bind fun bt295 => (some (bt295.1, bt295.2.1, bt295.2.2.1, bt295.2.2.2.1, bt295.2.2.2.2.1, bt295.2.2.2.2.2))))
def bO.f (k : Nat) (a0 a1 : Int) (a2 a3 : Int) : Option (Int × Bool × Bool × Bool × Bool × Bool) := (aQ.f k a0 (([a2, a3] : List Int))).bind fun bt270 => (if bt270.2.2.2.2.2.2 = true then (some (bt270.1, bt270.2.1, bt270.2.2.1, bt270.2.2.2.1, bt270.2.2.2.2.1, bt270.2.2.2.2.2.1)) else ((bV.f k a0 a2 a3).bind fun t278 => (if t278 = true then ((dJ.f a0).bind fun bt279 => (some (bt279.1, bt279.2.1, bt279.2.2.1, bt279.2.2.2.1, bt279.2.2.2.2.1, bt279.2.2.2.2.2))) else ((bG.f a0 a2).bind fun t285 => ((bG.f a0 a3).bind fun t286 => ((aD.f k a0 a2).bind fun t287 => (if t287 = true then (bO.j0 k a0 a1 a2 a3 (t285 != t286) true) else ((aD.f k a0 a3).bind fun t288 => (bO.j0 k a0 a1 a2 a3 (t285 != t286) t288)))))))))
end Go.Proofs.Ytfapjegkilljnaa.P
