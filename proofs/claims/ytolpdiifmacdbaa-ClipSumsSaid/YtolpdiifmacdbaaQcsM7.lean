import Derived.Test.YtolpdiifmacdbaaQcsZ
import Derived.Test.YtolpdiifmacdbaaQcsM4
import Derived.Test.YtolpdiifmacdbaaQcsM5
import Derived.Test.YtolpdiifmacdbaaQcsM6
import Derived.Test.YtolpdiifmacdbaaQcsPackE
-- Printed by a program of this session's out of Lean's print of the translation; Lean checks it.
set_option linter.unusedVariables false
set_option linter.unusedSimpArgs false
namespace Go.Proofs.Ytolpdiifmacdbaa.P
open Go.RowKit Go.Proofs.YtolpdiifmacdbaaW.PrintWords Go.Proofs.YtolpdiifmacdbaaW.PrintLast Go.Proofs.YtolpdiifmacdbaaW.PrintMore
attribute [local go_sem] max2_int min2_int max_two min_two max_three min_three max_four min_four

-- NEED 2
/-! ### bA: function 75 -/
mutual
def bA.j0 : Nat → Int → Int → Int → Int → Bool → Bool → Bool → Option (Int × Bool × Bool × Bool × Bool × Bool)
 |0, _, _, _, _, _, _, _ => none
 |k + 1, x0, x1, x2, x3, x13, x14, x39 => if x39 = true then ((bL.f x0 x2).bind fun t572 => ((bL.f x0 x3).bind fun t573 => ((aK.f k x0 t572 t573 x13 x14).bind fun bt574 => (some (bt574.1, bt574.2.1, bt574.2.2.1, bt574.2.2.2.1, bt574.2.2.2.2.1, bt574.2.2.2.2.2))))) else ((dE.f x0 x2).bind fun bt580 => ((dE.f x0 x3).bind fun bt584 => ((aG.f k bt580.1 bt580.2.1 bt580.2.2.1 bt580.2.2.2 bt584.1 bt584.2.1 bt584.2.2.1 bt584.2.2.2).bind fun bt590 => (if bt590.2.2.1 = 0 then (bA.j1 k x0 x1 (!bt590.2.2.2) bt580.1 bt580.2.1 bt580.2.2.1 bt580.2.2.2 bt584.1 bt584.2.1 bt584.2.2.1 bt584.2.2.2 bt590.1 bt590.2.1 bt590.2.2.1 bt590.2.2.2) else (bA.j1 k x0 x1 false bt580.1 bt580.2.1 bt580.2.2.1 bt580.2.2.2 bt584.1 bt584.2.1 bt584.2.2.1 bt584.2.2.2 bt590.1 bt590.2.1 bt590.2.2.1 bt590.2.2.2)))))
def bA.j1 : Nat → Int → Int → Bool → Bool → Int → Int → Bool → Bool → Int → Int → Bool → Bool → Int → Int → Bool → Option (Int × Bool × Bool × Bool × Bool × Bool)
 |0, _, _, _, _, _, _, _, _, _, _, _, _, _, _, _ => none
 |k + 1, x0, x1, x68, x589000, x589001, x589002, x589003, x590000, x590001, x590002, x590003, x595000, x595001, x595002, x595003 => if x68 = true then ((dB.f x0 x1 x589000 x590000).bind fun t595 => (some (t595, false, false, false, false, false))) else ((aA.f k x0 x1 x595000 x595001 x595002 x595003).bind fun bt596 => (some (bt596.1, bt596.2.1, bt596.2.2.1, bt596.2.2.2.1, bt596.2.2.2.2.1, bt596.2.2.2.2.2)))
end
def bA.f (k : Nat) (a0 a1 : Int) (a2 a3 : Int) : Option (Int × Bool × Bool × Bool × Bool × Bool) := (aN.f k a0 (([a2, a3] : List Int))).bind fun bt562 => (if bt562.2.2.2.2.2.2 = true then (some (bt562.1, bt562.2.1, bt562.2.2.1, bt562.2.2.2.1, bt562.2.2.2.2.1, bt562.2.2.2.2.2.1)) else ((aD.f k a0 a2).bind fun t570 => ((aD.f k a0 a3).bind fun t571 => (if t570 = true then (bA.j0 k a0 a1 a2 a3 t570 t571 true) else (bA.j0 k a0 a1 a2 a3 t570 t571 t571)))))
end Go.Proofs.Ytolpdiifmacdbaa.P

/- Sums and differences: the program's, as plain numbers. -/
namespace Go.Proofs.Ytolpdiifmacdbaa.Round
open Go.RowKit Go.Proofs.Ytolpdiifmacdbaa.P Go.Proofs.Ytolpdiifmacdbaa.Num Go.Proofs.Ytolpdiifmacdbaa.BitsF Go.Proofs.Ytolpdiifmacdbaa.Fmt Go.Proofs.YtolpdiifmacdbaaW.PrintWords Go.Proofs.YtolpdiifmacdbaaW.PrintLast Go.Proofs.YtolpdiifmacdbaaW.PrintMore

theorem tT (f mode : Int) (a b : Bool) : dB.f f mode a b = some (jC f mode a b : Int) := by
 unfold dB.f jC
 have e3 : ((mode == 3) : Bool) = decide (mode = 3) := by
  by_cases c : mode = 3
  ·subst c; rfl
  ·rw [decide_eq_false c]; exact beq_eq_false_iff_ne.mpr c
 rw [e3]
 by_cases c : a = b
 ·subst c; rw [if_pos (beq_self_eq_true a), if_pos rfl, qP]; rfl
 ·rw [if_neg (show ¬ (a == b) = true by rw [beq_iff_eq]; exact c), if_neg c, qP]; rfl
theorem nL (f : Int) (a b x y : Bool) : Ev (fun k => aK.f k f a b x y) (if x = true ∧ y = true ∧ a ≠ b then ((nP f : Int), true, false, false, false, false) else if x = true then ((mO f a : Int), false, false, false, false, false) else ((mO f b : Int), false, false, false, false, false)) := by
 have bad : Ev (fun k => aK.j0 k f a b x true) ((nP f : Int), true, false, false, false, false) :=
  Ev.step (fun k => by rw [aK.j0, if_pos rfl, vD]; rfl) (Ev.now _)
 have left : x = true → Ev (fun k => aK.j0 k f a b x false) ((mO f a : Int), false, false, false, false, false) := fun h =>
  Ev.step (fun k => by rw [aK.j0, if_neg (by decide), if_pos h, sJ]; rfl) (Ev.now _)
 have right : ¬ x = true → Ev (fun k => aK.j0 k f a b x false) ((mO f b : Int), false, false, false, false, false) := fun h =>
  Ev.step (fun k => by rw [aK.j0, if_neg (by decide), if_neg h, sJ]; rfl) (Ev.now _)
 refine Ev.congr (fun k => by unfold aK.f; rfl) ?_
 by_cases hx : x = true
 ·by_cases hy : y = true
  ·by_cases n : a = b
   ·rw [if_neg (fun h => h.2.2 n), if_pos hx]
    refine Ev.congr (fun k => ?_) (left hx)
    rw [if_pos hx, if_pos hy, n, bne_self_eq_false]
   ·rw [if_pos ⟨hx, hy, n⟩]
    refine Ev.congr (fun k => ?_) bad
    rw [if_pos hx, if_pos hy, bne_iff_ne.mpr n]
  ·rw [if_neg (fun h => hy h.2.1), if_pos hx]
   exact Ev.congr (fun k => by rw [if_pos hx, if_neg hy]) (left hx)
 ·rw [if_neg (fun h => hx h.1), if_neg hx]
  exact Ev.congr (fun k => by rw [if_neg hx]) (right hx)
theorem jR (f : Int) (v : Nat) : bG f v < 4611686018427387904 := by
 have h := dC f
 have h1 := iW f v
 have h2 := dL (show fm f + 1 ≤ 31 by omega)
 omega
theorem add_ev (f mode : Int) (a b : Nat) (ha : a < 4294967296) (hb : b < 4294967296) : Ev (fun k => bA.f k f mode (a : Int) (b : Int)) ((pR f mode a b : Int), sumX f mode a b) := by
 have hla := oV f a
 have hlb := oV f b
 refine Ev.congr (fun k => by unfold bA.f; rfl) (Ev.bind (nU f a b ha hb) ?_)
 unfold pR sumX
 by_cases n : 4 ≤ bE f a ∨ 4 ≤ bE f b
 ·have e : (dX f a || dX f b) = true := by unfold dX; rw [Bool.or_eq_true, decide_eq_true_iff, decide_eq_true_iff]; exact n
  rw [if_pos n, if_pos n]
  exact Ev.congr (fun k => by rw [if_pos e]) (Ev.now _)
 ·have e : ¬ (dX f a || dX f b) = true := by unfold dX; rw [Bool.or_eq_true, decide_eq_true_iff, decide_eq_true_iff]; exact n
  rw [if_neg n, if_neg n]
  refine Ev.congr (fun k => by rw [if_neg e]) (Ev.bind (eU f a ha) (Ev.bind (eU f b hb) ?_))
  by_cases i : bE f a = 3 ∨ bE f b = 3
  ·have hj : Ev (fun k => bA.j0 k f mode (a : Int) (b : Int) (decide (bE f a = 3)) (decide (bE f b = 3)) true)
     ((((if bE f a = 3 ∧ bE f b = 3 ∧ bZ f a ≠ bZ f b then nP f else if bE f a = 3 then mO f (bZ f a) else if bE f b = 3 then mO f (bZ f b) else dR f mode (bZ f a) (bZ f b) (kW f a b) : Nat) : Int)),
      if bE f a = 3 ∧ bE f b = 3 ∧ bZ f a ≠ bZ f b then (true, false, false, false, false) else if bE f a = 3 ∨ bE f b = 3 then (false, false, false, false, false) else (false, false, dW f mode (kW f a b))) := by
    have hin := nL f (bZ f a) (bZ f b) (decide (bE f a = 3)) (decide (bE f b = 3))
    simp only [decide_eq_true_iff] at hin
    refine Ev.step (fun k => by rw [bA.j0, if_pos rfl, nQ f a ha, Option.bind_some, nQ f b hb, Option.bind_some]) (Ev.bind hin (Ev.congr (fun k => ?_) (Ev.now _)))
    by_cases t : bE f a = 3 ∧ bE f b = 3 ∧ bZ f a ≠ bZ f b
    ·rw [if_pos t, if_pos t, if_pos t]
    ·rw [if_neg t, if_neg t, if_neg t, if_pos i]
     by_cases a3 : bE f a = 3
     ·rw [if_pos a3, if_pos a3]
     ·rw [if_neg a3, if_neg a3, if_pos (i.resolve_left a3)]
   by_cases a3 : bE f a = 3
   ·exact Ev.congr (fun k => by rw [if_pos (decide_eq_true a3)]) hj
   ·refine Ev.congr (fun k => by rw [if_neg (by simp [a3])]) ?_
    rw [show decide (bE f b = 3) = true from decide_eq_true (i.resolve_left a3)] at hj ⊢
    exact hj
  ·have a3 : ¬ bE f a = 3 := fun h => i (.inl h)
   have b3 : ¬ bE f b = 3 := fun h => i (.inr h)
   rw [if_neg (fun h => a3 h.1), if_neg a3, if_neg b3, if_neg (fun h => a3 h.1), if_neg i]
   obtain ⟨l1, l2⟩ := dH f a
   obtain ⟨m1, m2⟩ := dH f b
   have hx := uG (bZ f a) (bC f a) (bG f a) (bZ f b) (bC f b) (bG f b) (jR f a) (jR f b) (by omega) (by omega) (by omega) (by omega)
   obtain ⟨x1, x2, x3⟩ := lT (bZ f a) (bC f a) (bG f a) (bZ f b) (bC f b) (bG f b) (jR f a) (jR f b) (by omega) (by omega) (by omega) (by omega)
   rw [decide_eq_false a3, decide_eq_false b3]
   refine Ev.congr (fun k => by rw [if_neg (by decide)]) (Ev.step (fun k => by rw [bA.j0, if_neg (by decide), of_f f a ha (iC f a (by omega)), Option.bind_some, of_f f b hb (iC f b (by omega)), Option.bind_some]) ?_)
   dsimp only
   refine Ev.bind hx ?_
   unfold kW sS
   generalize fT (bZ f a) (bC f a) (bG f a) (bZ f b) (bC f b) (bG f b) = r at *
   obtain ⟨rn, re, rs, rm⟩ := r
   dsimp only at *
   have hp := kK f mode rn re rs rm (by omega)
   rw [jE _ (by omega) (by omega)] at hp
   have pack : ¬ (rs = 0 ∧ rm = false) → Ev (fun k => bA.j1 k f mode false (bZ f a) (bC f a) (bG f a : Int) false (bZ f b) (bC f b) (bG f b : Int) false rn re (rs : Int) rm) ((dR f mode (bZ f a) (bZ f b) (rn, re, rs, rm) : Int), false, false, dW f mode (rn, re, rs, rm)) := by
    intro z
    have zz : ¬ (rs, rm) = (0, false) := fun e => z ⟨(Prod.mk.inj e).1, (Prod.mk.inj e).2⟩
    unfold dR dW
    rw [if_neg zz, if_neg zz]
    exact Ev.step (fun k => by rw [bA.j1, if_neg (by decide)]) (Ev.bind hp (Ev.now _))
   by_cases s0 : rs = 0
   ·cases rm
    ·have zz : (rs, false) = (0, false) := by rw [s0]
     refine Ev.congr (fun k => by rw [if_pos (by omega)]) (Ev.step (fun k => by rw [bA.j1, if_pos (by decide), tT]) (Ev.congr (fun k => ?_) (Ev.now _)))
     unfold dR dW
     rw [if_pos zz, if_pos zz]; rfl
    ·exact Ev.congr (fun k => by rw [if_pos (by omega)]; rfl) (pack (by simp))
   ·exact Ev.congr (fun k => by rw [if_neg (by omega)]) (pack (fun h => s0 h.1))
/- Amounts: what a number's bits without its sign stand for, in units of the least number; rounding depends on the amount alone. -/

def magN (f : Int) (v : Nat) : Nat := v % 2 ^ (fe f + fm f)
theorem mZ (f : Int) (v : Nat) : magN f v / 2 ^ fm f = lK f v ∧ magN f v % 2 ^ fm f = iX f v := by
 unfold magN lK iX
 rw [Nat.add_comm (fe f), Nat.pow_add]
 exact ⟨Nat.mod_mul_right_div_self .., Nat.mod_mul_right_mod ..⟩
/- Bits with a sign, beyond the greatest number: plain numbers alone (for rounds without chapter 9). -/

def infK (f : Int) : Nat := fC f * 2 ^ fm f
theorem zD (f : Int) : infK f < 2 ^ (fe f + fm f) ∧ 0 < infK f := by
 obtain ⟨_, hi⟩ := jV f false
 have hp := Nat.two_pow_pos (fm f)
 have ht : 0 < fC f * 2 ^ fm f := Nat.mul_pos (by have := fG f; omega) hp
 unfold infK; omega
theorem kY (f : Int) (P : Nat) (neg : Bool) (h : P < 2 ^ (fe f + fm f)) : bZ f (P + cK f neg) = neg ∧ magN f (P + cK f neg) = P ∧ P + cK f neg < 2 ^ (fe f + fm f + 1) := by
 unfold bZ magN cK
 have hp := Nat.two_pow_pos (fe f + fm f)
 cases neg
 ·simp only [Bool.false_eq_true, if_false, Nat.add_zero]
  rw [Nat.div_eq_of_lt h, Nat.mod_eq_of_lt h, Nat.pow_succ]
  exact ⟨rfl, rfl, by omega⟩
 ·simp only [if_true]
  rw [Nat.add_div_right _ hp, Nat.div_eq_of_lt h, Nat.add_mod_right, Nat.mod_eq_of_lt h, Nat.pow_succ]
  exact ⟨rfl, rfl, by omega⟩
theorem mag_cls (f : Int) (v : Nat) (h : magN f v = infK f) : bE f v = 3 := by
 obtain ⟨h1, h2⟩ := mZ f v
 have ht := fG f
 unfold bE
 rw [← h1, ← h2, h]
 unfold infK
 rw [Nat.mul_div_cancel _ (Nat.two_pow_pos _), Nat.mul_mod_left, if_neg (by omega), if_neg (by omega), if_pos rfl]
/- Differences: the program's, as plain numbers. -/

/- Products: as plain numbers. -/

def kX (f : Int) (a b : Nat) : Bool := decide (bE f a = 0 ∧ bE f b = 3 ∨ bE f a = 3 ∧ bE f b = 0)
def mulN (f mode : Int) (a b : Nat) : Nat :=
 if 4 ≤ bE f a ∨ 4 ≤ bE f b then nP f else if kX f a b then nP f else if bE f a = 3 ∨ bE f b = 3 then mO f (bZ f a != bZ f b)
 else j4 f mode (bZ f a != bZ f b) (bC f a + bC f b) (bG f a * bG f b) false
def mulX (f mode : Int) (a b : Nat) : Bool × Bool × Bool × Bool × Bool :=
 if 4 ≤ bE f a ∨ 4 ≤ bE f b then (eQ f a || eQ f b, false, false, false, false) else if kX f a b then (true, false, false, false, false) else if bE f a = 3 ∨ bE f b = 3 then (false, false, false, false, false)
 else (false, false, vB f mode (bZ f a != bZ f b) (bC f a + bC f b) (bG f a * bG f b) false)
theorem qV (f : Int) (a b : Nat) : bG f a * bG f b < 18446744073709551616 := by
 have wa := iW f a
 have wb := iW f b
 have hbd := dC f
 have hp24 : 2 ^ (fm f + 1) ≤ 16777216 := Nat.pow_le_pow_right (show 0 < 2 by decide) (show fm f + 1 ≤ 24 by omega)
 have := Nat.mul_le_mul (show bG f a ≤ 16777216 by omega) (show bG f b ≤ 16777216 by omega)
 omega
end Go.Proofs.Ytolpdiifmacdbaa.Round

-- Printed by a program of this session's out of Lean's print of the translation; Lean checks it.
namespace Go.Proofs.Ytolpdiifmacdbaa.P
open Go.RowKit Go.Proofs.YtolpdiifmacdbaaW.PrintWords Go.Proofs.YtolpdiifmacdbaaW.PrintLast Go.Proofs.YtolpdiifmacdbaaW.PrintMore
attribute [local go_sem] max2_int min2_int max_two min_two max_three min_three max_four min_four

-- NEED 2
/-! ### bJ: function 71 -/
def bJ.j0 : Nat → Int → Int → Int → Int → Bool → Bool → Option (Int × Bool × Bool × Bool × Bool × Bool)
 |0, _, _, _, _, _, _ => none
 |k + 1, x0, x1, x2, x3, x13, x49 => if x49 = true then ((bF.f x0 x13).bind fun t528 => (some (t528, false, false, false, false, false))) else ((bY.f x0 x2 x3).bind fun bt529 => ((aA.f k x0 x1 x13 bt529.2.1 bt529.2.2.1 false).bind fun bt534 => (some (bt534.1, bt534.2.1, bt534.2.2.1, bt534.2.2.2.1, bt534.2.2.2.2.1, bt534.2.2.2.2.2))))
def bJ.f (k : Nat) (a0 a1 : Int) (a2 a3 : Int) : Option (Int × Bool × Bool × Bool × Bool × Bool) := (aN.f k a0 (([a2, a3] : List Int))).bind fun bt509 => (if bt509.2.2.2.2.2.2 = true then (some (bt509.1, bt509.2.1, bt509.2.2.1, bt509.2.2.2.1, bt509.2.2.2.2.1, bt509.2.2.2.2.2.1)) else ((bR.f k a0 a2 a3).bind fun t517 => (if t517 = true then ((dD.f a0).bind fun bt518 => (some (bt518.1, bt518.2.1, bt518.2.2.1, bt518.2.2.2.1, bt518.2.2.2.2.1, bt518.2.2.2.2.2))) else ((bL.f a0 a2).bind fun t524 => ((bL.f a0 a3).bind fun t525 => ((aD.f k a0 a2).bind fun t526 => (if t526 = true then (bJ.j0 k a0 a1 a2 a3 (t524 != t525) true) else ((aD.f k a0 a3).bind fun t527 => (bJ.j0 k a0 a1 a2 a3 (t524 != t525) t527)))))))))
end Go.Proofs.Ytolpdiifmacdbaa.P
