import Derived.Test.YtfapjegkilljnaaQobZ
import Derived.Test.YtfapjegkilljnaaQobM4
import Derived.Test.YtfapjegkilljnaaQobM5
import Derived.Test.YtfapjegkilljnaaQobM6
import Derived.Test.YtfapjegkilljnaaQobProdF
import Derived.Test.YtfapjegkilljnaaQobM7
import Derived.Test.YtfapjegkilljnaaQobPackE
import Derived.Test.YtfapjegkilljnaaQobWMore
import Derived.Test.YtfapjegkilljnaaQobWTab
import Derived.Test.YtfapjegkilljnaaQobWEqStruct
import Derived.ChangeKeysEq
import Derived.LoopN
-- Printed by a program of this session's out of Lean's print of the translation; Lean checks it.
set_option linter.unusedVariables false
set_option linter.unusedSimpArgs false
namespace Go.Proofs.Ytfapjegkilljnaa.P
open Go.RowKit Go.Proofs.YtfapjegkilljnaaW.PrintWords Go.Proofs.YtfapjegkilljnaaW.PrintLast Go.Proofs.YtfapjegkilljnaaW.PrintMore
attribute [local go_sem] max2_int min2_int max_two min_two max_three min_three max_four min_four

-- NEED 2
/-! ### aN: function 61 -/
mutual
def aN.j0 : Nat → Int → Int → Int → Int → Int → Bool → Bool → Bool → Option (Int × Bool × Bool × Bool × Bool × Bool)
 |0, _, _, _, _, _, _, _, _ => none
 |k + 1, x0, x1, x2, x3, x4, x16, x17, x18 => if x17 = true then (aN.j1 k x0 x1 x2 x3 x4 x16 x17 x18 true) else (aN.j1 k x0 x1 x2 x3 x4 x16 x17 x18 x18)
def aN.j1 : Nat → Int → Int → Int → Int → Int → Bool → Bool → Bool → Bool → Option (Int × Bool × Bool × Bool × Bool × Bool)
 |0, _, _, _, _, _, _, _, _, _ => none
 |k + 1, x0, x1, x2, x3, x4, x16, x17, x18, x71 => if x71 = true then ((bG.f x0 x4).bind fun t364 => ((aM.f k x0 x16 t364 x17 x18).bind fun bt365 => (some (bt365.1, bt365.2.1, bt365.2.2.1, bt365.2.2.2.1, bt365.2.2.2.2.1, bt365.2.2.2.2.2)))) else ((cK.f x0 x2 x3).bind fun bt371 => ((dL.f x0 x4).bind fun bt375 => ((aG.f k bt371.1 bt371.2.1 bt371.2.2.1 bt371.2.2.2 bt375.1 bt375.2.1 bt375.2.2.1 bt375.2.2.2).bind fun bt381 => (if bt381.2.2.1 = 0 then (aN.j2 k x0 x1 x16 (!bt381.2.2.2) bt375.1 bt375.2.1 bt375.2.2.1 bt375.2.2.2 bt381.1 bt381.2.1 bt381.2.2.1 bt381.2.2.2) else (aN.j2 k x0 x1 x16 false bt375.1 bt375.2.1 bt375.2.2.1 bt375.2.2.2 bt381.1 bt381.2.1 bt381.2.2.1 bt381.2.2.2)))))
def aN.j2 : Nat → Int → Int → Bool → Bool → Bool → Int → Int → Bool → Bool → Int → Int → Bool → Option (Int × Bool × Bool × Bool × Bool × Bool)
 |0, _, _, _, _, _, _, _, _, _, _, _, _ => none
 |k + 1, x0, x1, x16, x99, x381000, x381001, x381002, x381003, x386000, x386001, x386002, x386003 => if x99 = true then ((dF.f x0 x1 x16 x381000).bind fun t386 => (some (t386, false, false, false, false, false))) else ((aA.f k x0 x1 x386000 x386001 x386002 x386003).bind fun bt387 => (some (bt387.1, bt387.2.1, bt387.2.2.1, bt387.2.2.2.1, bt387.2.2.2.2.1, bt387.2.2.2.2.2)))
end
def aN.f (k : Nat) (a0 a1 : Int) (a2 a3 a4 : Int) : Option (Int × Bool × Bool × Bool × Bool × Bool) := (bV.f k a0 a2 a3).bind fun t340 => ((aQ.f k a0 (([a2, a3, a4] : List Int))).bind fun bt344 => (if bt344.2.2.2.2.2.2 = true then (if bt344.2.1 = true then (some (bt344.1, true, bt344.2.2.1, bt344.2.2.2.1, bt344.2.2.2.2.1, bt344.2.2.2.2.2.1)) else (some (bt344.1, t340, bt344.2.2.1, bt344.2.2.2.1, bt344.2.2.2.2.1, bt344.2.2.2.2.2.1))) else (if t340 = true then ((dJ.f a0).bind fun bt352 => (some (bt352.1, bt352.2.1, bt352.2.2.1, bt352.2.2.2.1, bt352.2.2.2.2.1, bt352.2.2.2.2.2))) else ((bG.f a0 a2).bind fun t358 => ((bG.f a0 a3).bind fun t359 => ((aD.f k a0 a2).bind fun t360 => (if t360 = true then ((aD.f k a0 a4).bind fun t361 => (aN.j0 k a0 a1 a2 a3 a4 (t358 != t359) true t361)) else ((aD.f k a0 a3).bind fun t362 => ((aD.f k a0 a4).bind fun t363 => (aN.j0 k a0 a1 a2 a3 a4 (t358 != t359) t362 t363))))))))))
end Go.Proofs.Ytfapjegkilljnaa.P

/- A product and a number together: the program's, of finite numbers, as plain numbers. -/
namespace Go.Proofs.Ytfapjegkilljnaa.Round
open Go.RowKit Go.Proofs.Ytfapjegkilljnaa.P Go.Proofs.Ytfapjegkilljnaa.Num Go.Proofs.Ytfapjegkilljnaa.BitsF Go.Proofs.Ytfapjegkilljnaa.Fmt Go.Proofs.YtfapjegkilljnaaW.PrintWords Go.Proofs.YtfapjegkilljnaaW.PrintLast Go.Proofs.YtfapjegkilljnaaW.PrintMore

theorem lD (f : Int) (a b c : Nat) (ha : a < 4294967296) (hb : b < 4294967296) (hc : c < 4294967296) : Ev (fun k => aQ.f k f [(a : Int), (b : Int), (c : Int)]) ((nO f : Int), eZ f a || eZ f b || eZ f c, false, false, false, false, dO f a || dO f b || dO f c) := by
 refine Ev.congr (fun k => by unfold aQ.f; rfl) (iF f _ 0 a false false _ (by simp) (by simp) ha rfl (iF f _ 1 b _ _ _ (by simp) (by simp) hb rfl (iF f _ 2 c _ _ _ (by simp) (by simp) hc rfl ?_)))
 rw [Bool.false_or, Bool.false_or]
 exact nY f [(a : Int), (b : Int), (c : Int)] _ _
def uD (f : Int) (a b c : Nat) : Bool × Int × Nat × Bool := kQ (cZ f a != cZ f b) (bF f a + bF f b) (bM f a * bM f b) (cZ f c) (bF f c) (bM f c)
theorem mul_62 (f : Int) (a b : Nat) : bM f a * bM f b < 4611686018427387904 := by
 have wa := jM f a
 have wb := jM f b
 have hbd := dC f
 have hp24 : 2 ^ (fm f + 1) ≤ 16777216 := Nat.pow_le_pow_right (show 0 < 2 by decide) (show fm f + 1 ≤ 24 by omega)
 have := Nat.mul_le_mul (show bM f a ≤ 16777216 by omega) (show bM f b ≤ 16777216 by omega)
 omega
theorem fma_ev (f mode : Int) (a b c : Nat) (ha : a < 4294967296) (hb : b < 4294967296) (hc : c < 4294967296) (ca : bJ f a < 3) (cb : bJ f b < 3) (cc : bJ f c < 3) :
  Ev (fun k => aN.f k f mode (a : Int) (b : Int) (c : Int)) ((fD f mode (cZ f a != cZ f b) (cZ f c) (uD f a b c) : Int), false, false, gF f mode (uD f a b c)) := by
 have ht : mG f a b = false := by unfold mG; exact decide_eq_false (by omega)
 have hto := nS f a b ha hb
 rw [ht] at hto
 have hn := lD f a b c ha hb hc
 have n0 : (dO f a || dO f b || dO f c) = false := by
  unfold dO
  rw [decide_eq_false (show ¬ 4 ≤ bJ f a by omega), decide_eq_false (show ¬ 4 ≤ bJ f b by omega), decide_eq_false (show ¬ 4 ≤ bJ f c by omega)]; rfl
 rw [n0] at hn
 obtain ⟨l1, l2⟩ := dQ f a
 obtain ⟨m1, m2⟩ := dQ f b
 obtain ⟨o1, o2⟩ := dQ f c
 have fa := iN f a ca
 have fb := iN f b cb
 have fc := iN f c cc
 have hx := vN (cZ f a != cZ f b) (bF f a + bF f b) (bM f a * bM f b) (cZ f c) (bF f c) (bM f c) (mul_62 f a b) (kF f c) (by omega) (by omega) (by omega) (by omega)
 obtain ⟨x1, x2, x3⟩ := mO (cZ f a != cZ f b) (bF f a + bF f b) (bM f a * bM f b) (cZ f c) (bF f c) (bM f c) (mul_62 f a b) (kF f c) (by omega) (by omega) (by omega) (by omega)
 refine Ev.congr (fun k => by unfold aN.f; rfl) (Ev.bind hto (Ev.bind hn ?_))
 dsimp only
 refine Ev.congr (fun k => by rw [if_neg (show ¬ false = true by decide), if_neg (show ¬ false = true by decide), mZ f a ha, Option.bind_some, mZ f b hb, Option.bind_some]) (Ev.bind (fH f a ha) ?_)
 refine Ev.congr (fun k => by rw [if_neg (by simp; omega)]) (Ev.bind (fH f b hb) (Ev.bind (fH f c hc) ?_))
 rw [decide_eq_false (show ¬ bJ f b = 3 by omega), decide_eq_false (show ¬ bJ f c = 3 by omega)]
 refine Ev.step (fun k => by rw [aN.j0, if_neg (by decide)]) (Ev.step (fun k => by rw [aN.j1, if_neg (by decide), rR f a b ha hb fa fb, Option.bind_some, of_f f c hc fc, Option.bind_some]) ?_)
 dsimp only
 refine Ev.bind hx ?_
 unfold uD tQ
 generalize kQ (cZ f a != cZ f b) (bF f a + bF f b) (bM f a * bM f b) (cZ f c) (bF f c) (bM f c) = r at *
 obtain ⟨rn, re, rs, rm⟩ := r
 dsimp only at *
 have hp := lH f mode rn re rs rm (by omega)
 rw [jV _ (by omega) (by omega)] at hp
 have pack : ¬ (rs = 0 ∧ rm = false) → Ev (fun k => aN.j2 k f mode (cZ f a != cZ f b) false (cZ f c) (bF f c) (bM f c : Int) false rn re (rs : Int) rm) ((fD f mode (cZ f a != cZ f b) (cZ f c) (rn, re, rs, rm) : Int), false, false, gF f mode (rn, re, rs, rm)) := by
  intro z
  have zz : ¬ (rs, rm) = (0, false) := fun e => z ⟨(Prod.mk.inj e).1, (Prod.mk.inj e).2⟩
  unfold fD gF
  rw [if_neg zz, if_neg zz]
  exact Ev.step (fun k => by rw [aN.j2, if_neg (by decide)]) (Ev.bind hp (Ev.now _))
 by_cases s0 : rs = 0
 ·cases rm
  ·have zz : (rs, false) = (0, false) := by rw [s0]
   refine Ev.congr (fun k => by rw [if_pos (by omega)]) (Ev.step (fun k => by rw [aN.j2, if_pos (by decide), vT]) (Ev.congr (fun k => ?_) (Ev.now _)))
   unfold fD gF
   rw [if_pos zz, if_pos zz]; rfl
  ·exact Ev.congr (fun k => by rw [if_pos (by omega)]; rfl) (pack (by simp))
 ·exact Ev.congr (fun k => by rw [if_neg (by omega)]) (pack (fun h => s0 h.1))
/- Products with a sum, whole: the program's, as plain numbers. -/

def uN (f mode : Int) (a b c : Nat) : Nat :=
 if 4 ≤ bJ f a ∨ 4 ≤ bJ f b ∨ 4 ≤ bJ f c then nO f else if mG f a b = true then nO f
 else if bJ f a = 3 ∨ bJ f b = 3 then (if bJ f c = 3 ∧ cZ f c ≠ (cZ f a != cZ f b) then nO f else nQ f (cZ f a != cZ f b))
 else if bJ f c = 3 then nQ f (cZ f c) else fD f mode (cZ f a != cZ f b) (cZ f c) (uD f a b c)
def fmaX (f mode : Int) (a b c : Nat) : Bool × Bool × Bool × Bool × Bool :=
 if 4 ≤ bJ f a ∨ 4 ≤ bJ f b ∨ 4 ≤ bJ f c then (eZ f a || eZ f b || eZ f c || mG f a b, false, false, false, false) else if mG f a b = true then (true, false, false, false, false)
 else if bJ f a = 3 ∨ bJ f b = 3 then (if bJ f c = 3 ∧ cZ f c ≠ (cZ f a != cZ f b) then (true, false, false, false, false) else (false, false, false, false, false))
 else if bJ f c = 3 then (false, false, false, false, false) else (false, false, gF f mode (uD f a b c))
theorem fma_fin (f mode : Int) (a b c : Nat) (ca : bJ f a < 3) (cb : bJ f b < 3) (cc : bJ f c < 3) : uN f mode a b c = fD f mode (cZ f a != cZ f b) (cZ f c) (uD f a b c) ∧ fmaX f mode a b c = (false, false, gF f mode (uD f a b c)) := by
 have ht : ¬ mG f a b = true := by unfold mG; rw [decide_eq_true_iff]; omega
 unfold uN fmaX
 rw [if_neg (show ¬ (4 ≤ bJ f a ∨ 4 ≤ bJ f b ∨ 4 ≤ bJ f c) by omega), if_neg (show ¬ (4 ≤ bJ f a ∨ 4 ≤ bJ f b ∨ 4 ≤ bJ f c) by omega), if_neg ht, if_neg ht, if_neg (show ¬ (bJ f a = 3 ∨ bJ f b = 3) by omega), if_neg (show ¬ (bJ f a = 3 ∨ bJ f b = 3) by omega), if_neg (show ¬ bJ f c = 3 by omega), if_neg (show ¬ bJ f c = 3 by omega)]
 exact ⟨rfl, rfl⟩
theorem nan3 (f : Int) (a b c : Nat) : (dO f a || dO f b || dO f c) = true ↔ (4 ≤ bJ f a ∨ 4 ≤ bJ f b ∨ 4 ≤ bJ f c) := by
 unfold dO
 rw [Bool.or_eq_true, Bool.or_eq_true, decide_eq_true_iff, decide_eq_true_iff, decide_eq_true_iff, or_assoc]
theorem wQ (f mode : Int) (a b c : Nat) (ha : a < 4294967296) (hb : b < 4294967296) (hc : c < 4294967296) :
  Ev (fun k => aN.f k f mode (a : Int) (b : Int) (c : Int)) ((uN f mode a b c : Int), fmaX f mode a b c) := by
 by_cases n : 4 ≤ bJ f a ∨ 4 ≤ bJ f b ∨ 4 ≤ bJ f c
 ·have e := (nan3 f a b c).mpr n
  unfold uN fmaX
  rw [if_pos n, if_pos n]
  refine Ev.congr (fun k => by unfold aN.f; rfl) (Ev.bind (nS f a b ha hb) (Ev.bind (lD f a b c ha hb hc) (Ev.congr (fun k => ?_) (Ev.now _))))
  dsimp only
  rw [if_pos e]
  cases h : (eZ f a || eZ f b || eZ f c)
  ·rw [if_neg (by decide), Bool.false_or]
  ·rw [if_pos rfl, Bool.true_or]
 ·have e : ¬ (dO f a || dO f b || dO f c) = true := fun h => n ((nan3 f a b c).mp h)
  by_cases t : mG f a b = true
  ·unfold uN fmaX
   rw [if_neg n, if_neg n, if_pos t, if_pos t]
   refine Ev.congr (fun k => by unfold aN.f; rfl) (Ev.bind (nS f a b ha hb) (Ev.bind (lD f a b c ha hb hc) (Ev.congr (fun k => ?_) (Ev.now _))))
   dsimp only
   rw [if_neg e, if_pos t, wV, Option.bind_some]
  ·by_cases i : bJ f a = 3 ∨ bJ f b = 3 ∨ bJ f c = 3
   ·have hin := oD f (cZ f a != cZ f b) (cZ f c) (decide (bJ f a = 3 ∨ bJ f b = 3)) (decide (bJ f c = 3))
    have hj1 : Ev (fun k => aN.j1 k f mode (a : Int) (b : Int) (c : Int) (cZ f a != cZ f b) (decide (bJ f a = 3 ∨ bJ f b = 3)) (decide (bJ f c = 3)) true) ((uN f mode a b c : Int), fmaX f mode a b c) := by
     refine Ev.step (fun k => by rw [aN.j1, if_pos rfl, mZ f c hc, Option.bind_some]) (Ev.bind hin (Ev.congr (fun k => ?_) (Ev.now _)))
     unfold uN fmaX
     rw [if_neg n, if_neg n, if_neg t, if_neg t]
     simp only [decide_eq_true_iff]
     by_cases ab : bJ f a = 3 ∨ bJ f b = 3
     ·by_cases c3 : bJ f c = 3 ∧ cZ f c ≠ (cZ f a != cZ f b)
      ·have h1 : (bJ f a = 3 ∨ bJ f b = 3) ∧ bJ f c = 3 ∧ (cZ f a != cZ f b) ≠ cZ f c := ⟨ab, c3.1, fun h => c3.2 h.symm⟩
       rw [if_pos h1, if_pos ab, if_pos c3, if_pos ab, if_pos c3]
      ·have h1 : ¬ ((bJ f a = 3 ∨ bJ f b = 3) ∧ bJ f c = 3 ∧ (cZ f a != cZ f b) ≠ cZ f c) := fun h => c3 ⟨h.2.1, fun e => h.2.2 e.symm⟩
       rw [if_neg h1, if_pos ab, if_pos ab, if_neg c3, if_pos ab, if_neg c3]
     ·have c3 : bJ f c = 3 := by omega
      have h1 : ¬ ((bJ f a = 3 ∨ bJ f b = 3) ∧ bJ f c = 3 ∧ (cZ f a != cZ f b) ≠ cZ f c) := fun h => ab h.1
      rw [if_neg h1, if_neg ab, if_neg ab, if_pos c3, if_neg ab, if_pos c3]
    have hj : Ev (fun k => aN.j0 k f mode (a : Int) (b : Int) (c : Int) (cZ f a != cZ f b) (decide (bJ f a = 3 ∨ bJ f b = 3)) (decide (bJ f c = 3))) ((uN f mode a b c : Int), fmaX f mode a b c) := by
     by_cases ab : bJ f a = 3 ∨ bJ f b = 3
     ·exact Ev.step (fun k => by rw [aN.j0, if_pos (decide_eq_true ab)]) hj1
     ·have c3 : bJ f c = 3 := by omega
      refine Ev.step (fun k => by rw [aN.j0, if_neg (by rw [decide_eq_true_iff]; exact ab)]) ?_
      exact Ev.congr (fun k => by rw [decide_eq_true c3]) hj1
    refine Ev.congr (fun k => by unfold aN.f; rfl) (Ev.bind (nS f a b ha hb) (Ev.bind (lD f a b c ha hb hc) ?_))
    dsimp only
    refine Ev.congr (fun k => by rw [if_neg e, if_neg t, mZ f a ha, Option.bind_some, mZ f b hb, Option.bind_some]) (Ev.bind (fH f a ha) ?_)
    by_cases a3 : bJ f a = 3
    ·refine Ev.congr (fun k => by rw [if_pos (decide_eq_true a3)]) (Ev.bind (fH f c hc) ?_)
     rw [decide_eq_true (show bJ f a = 3 ∨ bJ f b = 3 from .inl a3)] at hj
     exact hj
    ·refine Ev.congr (fun k => by rw [if_neg (by rw [decide_eq_true_iff]; exact a3)]) (Ev.bind (fH f b hb) (Ev.bind (fH f c hc) ?_))
     rw [show decide (bJ f a = 3 ∨ bJ f b = 3) = decide (bJ f b = 3) from decide_eq_decide.mpr ⟨fun h => h.resolve_left a3, .inr⟩] at hj
     exact hj
   ·have h1 := pI f a
    obtain ⟨e1, e2⟩ := fma_fin f mode a b c (by omega) (by omega) (by omega)
    rw [e1, e2]
    exact fma_ev f mode a b c ha hb hc (by omega) (by omega) (by omega)
/- A rounding depends on the value alone: more bits of the same value make no difference. Quotients and roots to so many bits. Plain numbers alone. -/

end Go.Proofs.Ytfapjegkilljnaa.Round

-- Printed by a program of this session's out of Lean's print of the translation; Lean checks it.
namespace Go.Proofs.Ytfapjegkilljnaa.P
open Go.RowKit Go.Proofs.YtfapjegkilljnaaW.PrintWords Go.Proofs.YtfapjegkilljnaaW.PrintLast Go.Proofs.YtfapjegkilljnaaW.PrintMore
attribute [local go_sem] max2_int min2_int max_two min_two max_three min_three max_four min_four

-- NEED 2
/-! ### aU: function 90 -/
mutual
def aU.j0 : Nat → Int → Int → Int → Int → Bool → Int → Int → Bool → Option (Int × Bool × Bool × Bool × Bool × Bool)
 |0, _, _, _, _, _, _, _, _ => none
 |k + 1, x0, x1, x2, x3, x13, x14, x15, x46 => if x46 = true then ((dJ.f x0).bind fun bt422 => (some (bt422.1, bt422.2.1, bt422.2.2.1, bt422.2.2.2.1, bt422.2.2.2.2.1, bt422.2.2.2.2.2))) else (if x14 = 3 then ((bH.f x0 x13).bind fun t428 => (some (t428, false, false, false, false, false))) else (if x15 = 3 then (aU.j1 k x0 x1 x2 x3 x13 x15 true) else (aU.j1 k x0 x1 x2 x3 x13 x15 (x14 == 0))))
def aU.j1 : Nat → Int → Int → Int → Int → Bool → Int → Bool → Option (Int × Bool × Bool × Bool × Bool × Bool)
 |0, _, _, _, _, _, _, _ => none
 |k + 1, x0, x1, x2, x3, x13, x15, x69 => if x69 = true then ((bR.f x0 x13).bind fun t429 => (some (t429, false, false, false, false, false))) else (if x15 = 0 then ((bH.f x0 x13).bind fun t430 => (some (t430, false, true, false, false, false))) else ((dL.f x0 x2).bind fun bt431 => ((dL.f x0 x3).bind fun bt435 => ((bits_Len.f k bt431.2.2.1).bind fun t441 => ((aH.f k bt431.2.2.1 (wrap64 (-(wrap64 (62 - t441))))).bind fun bt442 => (if bt435.2.2.1 = 0 then (none) else ((aA.f k x0 x1 x13 (wrap64 ((wrap64 (bt431.2.1 - (wrap64 (62 - t441)))) - bt435.2.1)) (IntKind.u64.wrap (Int.tdiv bt442.1 bt435.2.2.1)) ((Int.tmod bt442.1 bt435.2.2.1) != 0)).bind fun bt444 => (some (bt444.1, bt444.2.1, bt444.2.2.1, bt444.2.2.2.1, bt444.2.2.2.2.1, bt444.2.2.2.2.2)))))))))
end
def aU.f (k : Nat) (a0 a1 : Int) (a2 a3 : Int) : Option (Int × Bool × Bool × Bool × Bool × Bool) := (aQ.f k a0 (([a2, a3] : List Int))).bind fun bt410 => (if bt410.2.2.2.2.2.2 = true then (some (bt410.1, bt410.2.1, bt410.2.2.1, bt410.2.2.2.1, bt410.2.2.2.2.1, bt410.2.2.2.2.2.1)) else ((bG.f a0 a2).bind fun t418 => ((bG.f a0 a3).bind fun t419 => ((aI.f k a0 a2).bind fun t420 => ((aI.f k a0 a3).bind fun t421 => (if t420 = t421 then (if t420 = 0 then (aU.j0 k a0 a1 a2 a3 (t418 != t419) t420 t421 true) else (aU.j0 k a0 a1 a2 a3 (t418 != t419) t420 t421 (t420 == 3))) else (aU.j0 k a0 a1 a2 a3 (t418 != t419) t420 t421 false)))))))
end Go.Proofs.Ytfapjegkilljnaa.P

/- Quotients: the program's, as plain numbers. -/
namespace Go.Proofs.Ytfapjegkilljnaa.Round
open Go.RowKit Go.Proofs.Ytfapjegkilljnaa.P Go.Proofs.Ytfapjegkilljnaa.Num Go.Proofs.Ytfapjegkilljnaa.BitsF Go.Proofs.Ytfapjegkilljnaa.Fmt Go.Proofs.YtfapjegkilljnaaW.PrintWords Go.Proofs.YtfapjegkilljnaaW.PrintLast Go.Proofs.YtfapjegkilljnaaW.PrintMore

def dV (f : Int) (v : Nat) : Nat := 62 - iG (bM f v)
def ratioN (f mode : Int) (a b : Nat) : Nat := mW f mode (cZ f a != cZ f b) (bF f a - bF f b - (dV f a : Int)) (bM f a * 2 ^ dV f a / bM f b) (decide (bM f a * 2 ^ dV f a % bM f b ≠ 0))
def ratioX (f mode : Int) (a b : Nat) : Bool × Bool × Bool := excN f mode (cZ f a != cZ f b) (bF f a - bF f b - (dV f a : Int)) (bM f a * 2 ^ dV f a / bM f b) (decide (bM f a * 2 ^ dV f a % bM f b ≠ 0))
def divN (f mode : Int) (a b : Nat) : Nat :=
 if 4 ≤ bJ f a ∨ 4 ≤ bJ f b then nO f else if bJ f a = bJ f b ∧ (bJ f a = 0 ∨ bJ f a = 3) then nO f else if bJ f a = 3 then nQ f (cZ f a != cZ f b)
 else if bJ f b = 3 ∨ bJ f a = 0 then d9 f (cZ f a != cZ f b) else if bJ f b = 0 then nQ f (cZ f a != cZ f b) else ratioN f mode a b
def divX (f mode : Int) (a b : Nat) : Bool × Bool × Bool × Bool × Bool :=
 if 4 ≤ bJ f a ∨ 4 ≤ bJ f b then (eZ f a || eZ f b, false, false, false, false) else if bJ f a = bJ f b ∧ (bJ f a = 0 ∨ bJ f a = 3) then (true, false, false, false, false) else if bJ f a = 3 then (false, false, false, false, false)
 else if bJ f b = 3 ∨ bJ f a = 0 then (false, false, false, false, false) else if bJ f b = 0 then (false, true, false, false, false) else (false, false, ratioX f mode a b)
theorem lJ (f : Int) (v : Nat) (h : bJ f v ≠ 0) (h3 : bJ f v < 3) : bM f v ≠ 0 := by
 have hp := Nat.two_pow_pos (fm f)
 unfold bJ at h h3
 unfold bM
 by_cases c : oW f v = 0
 ·rw [if_pos c] at h ⊢
  intro z; rw [if_pos z] at h; exact h rfl
 ·rw [if_neg c]; omega
theorem jH (f : Int) (v : Nat) (h : bM f v ≠ 0) : 38 ≤ dV f v ∧ dV f v ≤ 61 ∧ iG (bM f v) + dV f v = 62 ∧ 2305843009213693952 ≤ bM f v * 2 ^ dV f v ∧ bM f v * 2 ^ dV f v < 4611686018427387904 := by
 have h1 := gJ _ _ (jM f v)
 have h2 := nM _ h
 have hb := dC f
 have e : iG (bM f v) + dV f v = 62 := by unfold dV; omega
 have hp := Nat.two_pow_pos (dV f v)
 have l1 := Nat.mul_le_mul_right (2 ^ dV f v) (qZ _ h)
 have l2 := Nat.mul_lt_mul_of_pos_right (qC (bM f v)) hp
 rw [← Nat.pow_add, show iG (bM f v) - 1 + dV f v = 61 by omega] at l1
 rw [← Nat.pow_add, e] at l2
 exact ⟨by omega, by omega, e, l1, l2⟩
theorem tdiv_nat (a b : Nat) : Int.tdiv (a : Int) (b : Int) = ((a / b : Nat) : Int) := rfl
theorem tmod_nn (a b : Nat) : Int.tmod (a : Int) (b : Int) = ((a % b : Nat) : Int) := rfl
theorem vH (v n : Nat) (h : v * 2 ^ n < 18446744073709551616) : (jF v (-(n : Int))).1 = v * 2 ^ n := by
 have hp := Nat.two_pow_pos n
 have hv : v < 18446744073709551616 := Nat.lt_of_le_of_lt (Nat.le_mul_of_pos_right v hp) h
 rw [jJ v n hv]
 exact Nat.mod_eq_of_lt h
theorem div_j1 (f mode : Int) (a b : Nat) (ha : a < 4294967296) (hb : b < 4294967296) (ca : bJ f a < 3) (cb : bJ f b ≤ 3) (hz : ¬ (bJ f a = bJ f b ∧ (bJ f a = 0 ∨ bJ f a = 3))) :
  Ev (fun k => aU.j1 k f mode (a : Int) (b : Int) (cZ f a != cZ f b) (bJ f b : Int) (decide (bJ f b = 3 ∨ bJ f a = 0))) ((divN f mode a b : Int), divX f mode a b) := by
 unfold divN divX
 rw [if_neg (show ¬ (4 ≤ bJ f a ∨ 4 ≤ bJ f b) by omega), if_neg (show ¬ (4 ≤ bJ f a ∨ 4 ≤ bJ f b) by omega)]
 by_cases c0 : bJ f b = 3 ∨ bJ f a = 0
 ·rw [decide_eq_true c0]
  rw [if_neg hz, if_neg hz, if_neg (show ¬ bJ f a = 3 by omega), if_neg (show ¬ bJ f a = 3 by omega), if_pos c0, if_pos c0]
  exact Ev.step (fun k => by rw [aU.j1, if_pos rfl, rQ, Option.bind_some]) (Ev.now _)
 ·rw [decide_eq_false c0, if_neg hz, if_neg hz, if_neg (show ¬ bJ f a = 3 by omega), if_neg (show ¬ bJ f a = 3 by omega), if_neg c0, if_neg c0]
  by_cases b0 : bJ f b = 0
  ·rw [if_pos b0, if_pos b0]
   exact Ev.step (fun k => by rw [aU.j1, if_neg (by decide), if_pos (by omega), sV, Option.bind_some]) (Ev.now _)
  ·rw [if_neg b0, if_neg b0]
   have wa := lJ f a (by omega) ca
   have wb := lJ f b b0 (by omega)
   obtain ⟨k1, k2, k3, k4, k5⟩ := jH f a wa
   have hs := qQ f a
   obtain ⟨l1, l2⟩ := dQ f a
   obtain ⟨m1, m2⟩ := dQ f b
   have hw : wrap64 (-(wrap64 (62 - (iG (bM f a) : Int)))) = -(dV f a : Int) := by rw [bT (62 - (iG (bM f a) : Int)) (by omega) (by omega), bT _ (by omega) (by omega)]; omega
   have he : wrap64 ((wrap64 (bF f a - (wrap64 (62 - (iG (bM f a) : Int))))) - bF f b) = bF f a - bF f b - (dV f a : Int) := by
    rw [bT (62 - (iG (bM f a) : Int)) (by omega) (by omega), bT (bF f a - (62 - (iG (bM f a) : Int))) (by omega) (by omega), bT _ (by omega) (by omega)]; omega
   have hsh := nP (bM f a) hs (-(dV f a : Int)) (by omega) (by omega)
   have hq : bM f a * 2 ^ dV f a / bM f b < 18446744073709551616 := Nat.lt_of_le_of_lt (Nat.div_le_self _ _) (by omega)
   have hp := lH f mode (cZ f a != cZ f b) (bF f a - bF f b - (dV f a : Int)) (bM f a * 2 ^ dV f a / bM f b) (decide (bM f a * 2 ^ dV f a % bM f b ≠ 0)) hq
   rw [jV _ (by omega) (by omega)] at hp
   refine Ev.step (fun k => by rw [aU.j1, if_neg (by decide), if_neg (by omega), of_f f a ha (iN f a ca), Option.bind_some, of_f f b hb (iN f b (by omega)), Option.bind_some]) (Ev.bind (pJ _ hs) ?_)
   dsimp only
   rw [hw, he]
   refine Ev.bind hsh ?_
   dsimp only
   rw [vH _ _ (by omega), tdiv_nat, tmod_nn, fB _ hq, show (0 : Int) = ((0 : Nat) : Int) from rfl, bne_cast]
   exact Ev.congr (fun k => by rw [if_neg (by omega)]) (Ev.bind hp (Ev.now _))
theorem div_ev (f mode : Int) (a b : Nat) (ha : a < 4294967296) (hb : b < 4294967296) : Ev (fun k => aU.f k f mode (a : Int) (b : Int)) ((divN f mode a b : Int), divX f mode a b) := by
 refine Ev.congr (fun k => by unfold aU.f; rfl) (Ev.bind (lV f a b ha hb) ?_)
 by_cases n : 4 ≤ bJ f a ∨ 4 ≤ bJ f b
 ·have e : (dO f a || dO f b) = true := by unfold dO; rw [Bool.or_eq_true, decide_eq_true_iff, decide_eq_true_iff]; exact n
  unfold divN divX
  rw [if_pos n, if_pos n]
  exact Ev.congr (fun k => by rw [if_pos e]) (Ev.now _)
 ·have e : ¬ (dO f a || dO f b) = true := by unfold dO; rw [Bool.or_eq_true, decide_eq_true_iff, decide_eq_true_iff]; exact n
  refine Ev.congr (fun k => by rw [if_neg e, mZ f a ha, Option.bind_some, mZ f b hb, Option.bind_some]) (Ev.bind (kK f a ha) (Ev.bind (kK f b hb) ?_))
  have bad : (bJ f a = bJ f b ∧ (bJ f a = 0 ∨ bJ f a = 3)) → Ev (fun k => aU.j0 k f mode (a : Int) (b : Int) (cZ f a != cZ f b) (bJ f a : Int) (bJ f b : Int) true) ((divN f mode a b : Int), divX f mode a b) := by
   intro z
   unfold divN divX
   rw [if_neg n, if_neg n, if_pos z, if_pos z]
   exact Ev.step (fun k => by rw [aU.j0, if_pos rfl, wV]; rfl) (Ev.now _)
  have good : ¬ (bJ f a = bJ f b ∧ (bJ f a = 0 ∨ bJ f a = 3)) → Ev (fun k => aU.j0 k f mode (a : Int) (b : Int) (cZ f a != cZ f b) (bJ f a : Int) (bJ f b : Int) false) ((divN f mode a b : Int), divX f mode a b) := by
   intro z
   by_cases a3 : bJ f a = 3
   ·unfold divN divX
    rw [if_neg n, if_neg n, if_neg z, if_neg z, if_pos a3, if_pos a3]
    exact Ev.step (fun k => by rw [aU.j0, if_neg (by decide), if_pos (by omega), sV]; rfl) (Ev.now _)
   ·have hj := div_j1 f mode a b ha hb (by omega) (by omega) z
    by_cases b3 : bJ f b = 3
    ·rw [decide_eq_true (.inl b3)] at hj
     exact Ev.step (fun k => by rw [aU.j0, if_neg (by decide), if_neg (by omega), if_pos (by omega)]) hj
    ·have e0 : decide (bJ f b = 3 ∨ bJ f a = 0) = ((bJ f a : Int) == 0) := by
      rw [show (0 : Int) = ((0 : Nat) : Int) from rfl, pK]; apply decide_eq_decide.mpr; omega
     rw [e0] at hj
     exact Ev.step (fun k => by rw [aU.j0, if_neg (by decide), if_neg (by omega), if_neg (by omega)]) hj
  by_cases s : bJ f a = bJ f b
  ·by_cases a0 : bJ f a = 0
   ·exact Ev.congr (fun k => by rw [if_pos (by omega), if_pos (by omega)]) (bad ⟨s, .inl a0⟩)
   ·by_cases a3 : bJ f a = 3
    ·have e3 : (((bJ f a : Nat) : Int) == 3) = true := by rw [a3]; rfl
     exact Ev.congr (fun k => by rw [if_pos (by omega), if_neg (by omega), e3]) (bad ⟨s, .inr a3⟩)
    ·have e3 : (((bJ f a : Nat) : Int) == 3) = false := by rw [show (3 : Int) = ((3 : Nat) : Int) from rfl, pK]; exact decide_eq_false a3
     exact Ev.congr (fun k => by rw [if_pos (by omega), if_neg (by omega), e3]) (good (by omega))
  ·exact Ev.congr (fun k => by rw [if_neg (by omega)]) (good (by omega))
end Go.Proofs.Ytfapjegkilljnaa.Round

-- Printed by a program of this session's out of Lean's print of the translation; Lean checks it.
namespace Go.Proofs.Ytfapjegkilljnaa.P
open Go.RowKit Go.Proofs.YtfapjegkilljnaaW.PrintWords Go.Proofs.YtfapjegkilljnaaW.PrintLast Go.Proofs.YtfapjegkilljnaaW.PrintMore
attribute [local go_sem] max2_int min2_int max_two min_two max_three min_three max_four min_four

-- NEED 0
/-! ### annealref1_Shift: function 95 -/
-- NEED 0
/-! ### annealref1_divide: function 67 -/
end Go.Proofs.Ytfapjegkilljnaa.P

/- The reference's loops of layer 1: how many bits, shifts. -/
namespace Go.Proofs.Ytfapjegkilljnaa.BitsF
open Go.RowKit Go.Proofs.Ytfapjegkilljnaa.P Go.Proofs.Ytfapjegkilljnaa.Num Go.Proofs.YtfapjegkilljnaaW.PrintWords Go.Proofs.YtfapjegkilljnaaW.PrintLast Go.Proofs.YtfapjegkilljnaaW.PrintMore

end Go.Proofs.Ytfapjegkilljnaa.BitsF

-- Printed by a program of this session's out of Lean's print of the translation; Lean checks it.
namespace Go.Proofs.Ytfapjegkilljnaa.P
open Go.RowKit Go.Proofs.YtfapjegkilljnaaW.PrintWords Go.Proofs.YtfapjegkilljnaaW.PrintLast Go.Proofs.YtfapjegkilljnaaW.PrintMore
attribute [local go_sem] max2_int min2_int max_two min_two max_three min_three max_four min_four

-- NEED 0
/-! ### annealref1_up: function 68 -/
-- NEED 0
/-! ### annealref1_Greatest: function 96 -/
-- NEED 0
/-! ### annealref1_over: function 69 -/

-- NEED 0
/-! ### annealref1_Pack: function 47 -/
end Go.Proofs.Ytfapjegkilljnaa.P

/- What the reference's rounding computes: the same plain numbers. -/
namespace Go.Proofs.Ytfapjegkilljnaa.Round
open Go.RowKit Go.Proofs.Ytfapjegkilljnaa.P Go.Proofs.Ytfapjegkilljnaa.Num Go.Proofs.Ytfapjegkilljnaa.BitsF Go.Proofs.Ytfapjegkilljnaa.Fmt Go.Proofs.YtfapjegkilljnaaW.PrintWords Go.Proofs.YtfapjegkilljnaaW.PrintLast Go.Proofs.YtfapjegkilljnaaW.PrintMore

/- The reference's rounding computes the same numbers as the program's. -/

end Go.Proofs.Ytfapjegkilljnaa.Round

-- Printed by a program of this session's out of Lean's print of the translation; Lean checks it.
namespace Go.Proofs.Ytfapjegkilljnaa.P
open Go.RowKit Go.Proofs.YtfapjegkilljnaaW.PrintWords Go.Proofs.YtfapjegkilljnaaW.PrintLast Go.Proofs.YtfapjegkilljnaaW.PrintMore
attribute [local go_sem] max2_int min2_int max_two min_two max_three min_three max_four min_four

-- NEED 1
/-! ### annealref1_Mul: function 25 -/
end Go.Proofs.Ytfapjegkilljnaa.P

/- Products: the reference's, of any numbers, as plain numbers. -/
namespace Go.Proofs.Ytfapjegkilljnaa.Round
open Go.RowKit Go.Proofs.Ytfapjegkilljnaa.P Go.Proofs.Ytfapjegkilljnaa.Num Go.Proofs.Ytfapjegkilljnaa.BitsF Go.Proofs.Ytfapjegkilljnaa.Fmt Go.Proofs.YtfapjegkilljnaaW.PrintWords Go.Proofs.YtfapjegkilljnaaW.PrintLast Go.Proofs.YtfapjegkilljnaaW.PrintMore

/- Numbers near one, drawn: plain numbers. -/

def sS (f : Int) : Nat := gW f / 2
theorem kY (f : Int) : fe f = 5 ∧ fm f = 10 ∧ sS f = 15 ∧ dH f = -14 ∧ gW f = 31 ∨ fe f = 8 ∧ fm f = 7 ∧ sS f = 127 ∧ dH f = -126 ∧ gW f = 255 ∨ fe f = 8 ∧ fm f = 23 ∧ sS f = 127 ∧ dH f = -126 ∧ gW f = 255 := by
 unfold sS gW dH
 rcases pU f with ⟨h1, h2⟩ | ⟨h1, h2⟩ | ⟨h1, h2⟩ <;> rw [h1, h2] <;> simp
theorem mild_shl (f : Int) : shl .u32 4 (fm f : Int) = ((4 * 2 ^ fm f : Nat) : Int) ∧ shl .u32 2 (fm f : Int) = ((2 * 2 ^ fm f : Nat) : Int) ∧
  shl .u32 ((((shl .u32 1 (fe f : Int)) - 1) % 4294967296) / 2) (fm f : Int) = ((sS f * 2 ^ fm f : Nat) : Int) := by
 rcases kY f with ⟨h1, h2, h3, _⟩ | ⟨h1, h2, h3, _⟩ | ⟨h1, h2, h3, _⟩ <;> rw [h1, h2, h3] <;> decide
theorem wR (f : Int) : 4 * 2 ^ fm f + sS f * 2 ^ fm f < 2 ^ (fe f + fm f) ∧ 2 * 2 ^ fm f ≤ sS f * 2 ^ fm f := by
 rcases kY f with ⟨h1, h2, h3, _⟩ | ⟨h1, h2, h3, _⟩ | ⟨h1, h2, h3, _⟩ <;> rw [h1, h2, h3] <;> decide
theorem wJ (O P a : Nat) (h : 2 * P ≤ O) (hO : O + 4 * P < 2147483648) (hP : 0 < P) : ((((O : Nat) : Int) - ((2 * P : Nat) : Int)) % 4294967296 + Int.tmod ((a : Int) / 8) ((4 * P : Nat) : Int)) % 4294967296 = ((O - 2 * P + a / 8 % (4 * P) : Nat) : Int) := by
 have e : Int.tmod ((a : Int) / 8) ((4 * P : Nat) : Int) = ((a / 8 % (4 * P) : Nat) : Int) := by
  rw [show (a : Int) / 8 = ((a / 8 : Nat) : Int) from rfl, Int.tmod_eq_emod_of_nonneg (Int.natCast_nonneg _)]; rfl
 have hm := Nat.mod_lt (a / 8) (show 4 * P > 0 by omega)
 rw [e]
 generalize a / 8 % (4 * P) = m at *
 omega
theorem or_sign (f : Int) (m : Nat) (h : m < 2 ^ (fe f + fm f)) : Go.bits .or .u32 (m : Int) (d9 f true : Int) = ((m + d9 f true : Nat) : Int) := by
 have hb := dC f
 have h31 := dM (show fe f + fm f ≤ 31 by omega)
 have hs : d9 f true = 2 ^ (fe f + fm f) := rfl
 rw [zF m _ (by omega) (by omega), Nat.or_comm, pW _ _ (fe f + fm f) (by rw [hs, Nat.mod_self]) h, Nat.add_comm]
theorem mild_f (f : Int) (a : Nat) (ha : a < 4294967296) : ∃ m : Nat, ∃ neg : Bool, dD.f f (a : Int) = some ((m + d9 f neg : Nat) : Int) ∧ (m = 0 ∧ neg = false ∨ (sS f - 2) * 2 ^ fm f ≤ m ∧ m < (sS f + 2) * 2 ^ fm f) := by
 unfold dD.f
 by_cases c : Int.tmod (a : Int) 7 = 0
 ·rw [if_pos c]
  exact ⟨0, false, rfl, .inl ⟨rfl, rfl⟩⟩
 ·rw [if_neg c, iM, Option.bind_some]
  dsimp only
  obtain ⟨s1, s2, s3⟩ := mild_shl f
  obtain ⟨r1, r2⟩ := wR f
  have hb := dC f
  have h31 := dM (show fe f + fm f ≤ 31 by omega)
  have hp := Nat.two_pow_pos (fm f)
  rw [s1, s2, s3, if_pos (Int.natCast_nonneg _), if_pos (Int.natCast_nonneg _), if_neg (by omega), wJ _ _ _ r2 (by omega) hp]
  have hm := Nat.mod_lt (a / 8) (show 4 * 2 ^ fm f > 0 by omega)
  have h2 : (sS f - 2) * 2 ^ fm f = sS f * 2 ^ fm f - 2 * 2 ^ fm f := Nat.sub_mul _ _ _
  have h3 : (sS f + 2) * 2 ^ fm f = sS f * 2 ^ fm f + 2 * 2 ^ fm f := Nat.add_mul _ _ _
  generalize hM : sS f * 2 ^ fm f - 2 * 2 ^ fm f + a / 8 % (4 * 2 ^ fm f) = m at *
  by_cases d : Go.bits .and .u32 (a : Int) 1 = 1
  ·rw [if_pos d, kH, Option.bind_some, or_sign f m (by omega)]
   exact ⟨m, true, rfl, .inr ⟨by omega, by omega⟩⟩
  ·rw [if_neg d]
   exact ⟨m, false, rfl, .inr ⟨by omega, by omega⟩⟩
/- Small whole numbers as numbers: plain numbers alone. -/

theorem zero_all (f : Int) (b : Bool) : bJ f (d9 f b) = 0 ∧ cZ f (d9 f b) = b ∧ d9 f b < 4294967296 := by
 have hb := dC f
 have h31 := dM (show fe f + fm f ≤ 31 by omega)
 have hp := Nat.two_pow_pos (fm f)
 obtain ⟨p1, p2, p3⟩ := kI f 0 b (Nat.two_pow_pos _)
 obtain ⟨q1, q2⟩ := lI f (0 + d9 f b)
 rw [p2] at q1 q2
 rw [Nat.zero_add] at *
 refine ⟨?_, p1, ?_⟩
 ·unfold bJ; rw [← q1, ← q2, Nat.zero_div, Nat.zero_mod]; rfl
 ·unfold d9; split <;> omega
theorem aAg (f : Int) (b : Bool) : bJ f (nQ f b) = 3 ∧ cZ f (nQ f b) = b ∧ nQ f b < 4294967296 := by
 obtain ⟨i1, i2⟩ := infK_lt f
 obtain ⟨p1, p2, p3⟩ := kI f (infK f) b i1
 exact ⟨mag_cls f _ p2, p1, (kP f b).1⟩
/- All results are numbers of 32 bits. -/

theorem iK (f : Int) : nO f < 4294967296 := by
 unfold nO gW
 rcases pU f with ⟨h1, h2⟩ | ⟨h1, h2⟩ | ⟨h1, h2⟩ <;> rw [h1, h2] <;> decide
theorem oM (f mode : Int) (neg : Bool) (x : Int) (a : Nat) (more : Bool) : mW f mode neg x a more < 4294967296 := by
 obtain ⟨_, hi⟩ := kP f false
 have hp := Nat.two_pow_pos (fm f)
 have hb := dC f
 have h32 := kZ (show fe f + fm f + 1 ≤ 32 by omega)
 have hs : 2 ^ (fe f + fm f + 1) = 2 * 2 ^ (fe f + fm f) := by rw [Nat.pow_succ, Nat.mul_comm]
 have hn : d9 f neg ≤ 2 ^ (fe f + fm f) := by unfold d9; split <;> omega
 unfold mW kD
 generalize keyN f mode neg x a more = K at *
 generalize gW f * 2 ^ fm f = T at *
 by_cases c : T ≤ K
 ·cases l7 mode neg <;> simp [c] <;> omega
 ·simp [c]; omega
theorem qF (f : Int) (b : Bool) : d9 f b < 4294967296 := (zero_all f b).2.2
theorem qA (f mode : Int) (a b : Bool) (r : Bool × Int × Nat × Bool) : fD f mode a b r < 4294967296 := by
 unfold fD qU
 split
 ·split <;> exact qF f _
 ·exact oM f mode _ _ _ _
theorem mul_32 (f mode : Int) (a b : Nat) : mulN f mode a b < 4294967296 := by
 unfold mulN
 split
 ·exact iK f
 ·split
  ·exact iK f
  ·split
   ·exact (kP f _).1
   ·exact oM f mode _ _ _ _
theorem xL (f mode : Int) (a b : Nat) : sumN f mode a b < 4294967296 := by
 unfold sumN
 split
 ·exact iK f
 ·split
  ·exact iK f
  ·split
   ·exact (kP f _).1
   ·split
    ·exact (kP f _).1
    ·exact qA f mode _ _ _
theorem sub_32 (f mode : Int) (a b : Nat) : subN f mode a b < 4294967296 := by
 unfold subN
 split
 ·exact iK f
 ·exact xL f mode _ _
theorem yX (f mode : Int) (a b c : Nat) : uN f mode a b c < 4294967296 := by
 unfold uN
 split
 ·exact iK f
 ·split
  ·exact iK f
  ·split
   ·split
    ·exact iK f
    ·exact (kP f _).1
   ·split
    ·exact (kP f _).1
    ·exact qA f mode _ _ _
theorem zO (f mode : Int) (a b : Nat) : divN f mode a b < 4294967296 := by
 unfold divN ratioN
 split
 ·exact iK f
 ·split
  ·exact iK f
  ·split
   ·exact (kP f _).1
   ·split
    ·exact qF f _
    ·split
     ·exact (kP f _).1
     ·exact oM f mode _ _ _ _
end Go.Proofs.Ytfapjegkilljnaa.Round

/- What one side answers the other answers. -/
namespace Go.Proofs.Ytfapjegkilljnaa.P
open Go.RowKit Go.Proofs.YtfapjegkilljnaaW.PrintWords Go.Proofs.YtfapjegkilljnaaW.PrintLast Go.Proofs.YtfapjegkilljnaaW.PrintMore
theorem LeO.iA {α : Type} {c d : Prop} [Decidable c] [Decidable d] (e : c ↔ d) {a a' b b' : Option α} (h : c → LeO a a') (k : ¬ c → LeO b b') : LeO (if c then a else b) (if d then a' else b') := by
 by_cases x : c
 ·rw [if_pos x, if_pos (e.mp x)]; exact h x
 ·rw [if_neg x, if_neg (fun y => x (e.mpr y))]; exact k x
theorem LeO.pos {α : Type} {c : Prop} [Decidable c] (x : c) {a b b' : Option α} (h : LeO a b) : LeO a (if c then b else b') := by rw [if_pos x]; exact h
theorem LeO.neg {α : Type} {c : Prop} [Decidable c] (x : ¬ c) {a b b' : Option α} (h : LeO a b') : LeO a (if c then b else b') := by rw [if_neg x]; exact h
theorem LeO.mV {α : Type} {c : Prop} [Decidable c] (x : c) {a b b' : Option α} (h : LeO b a) : LeO (if c then b else b') a := by rw [if_pos x]; exact h
theorem LeO.nE {α : Type} {c : Prop} [Decidable c] (x : ¬ c) {a b b' : Option α} (h : LeO b' a) : LeO (if c then b else b') a := by rw [if_neg x]; exact h
end Go.Proofs.Ytfapjegkilljnaa.P

/- A reckoner of Go code over numbers, structs, arrays and local variables: it steps through code as the machine does, in plain Lean, so that Lean's kernel can reckon it. -/
namespace Go.Proofs.Ytfapjegkilljnaa.Ek
open Go.RowKit Go.Proofs.YtfapjegkilljnaaW.PrintWords Go.Proofs.YtfapjegkilljnaaW.PrintLast Go.Proofs.YtfapjegkilljnaaW.PrintMore

abbrev cnd {α : Type _} (b : Bool) (t e : α) : α := match b with
 |true => t
 |false => e
inductive IE where
 |l (n : Int)
 |x (n : Int)
def IE.d : IE → Int
 |.l n => n
 |.x n => n
inductive BE where
 |tt | ff
 |q (b : Bool)
 |lt (x y : Int)
 |le (x y : Int)
 |eq (x y : Int)
 |no (b : BE)
def BE.d : BE → Bool
 |.tt => true
 |.ff => false
 |.q b => b
 |.lt x y => decide (x < y)
 |.le x y => decide (x ≤ y)
 |.eq x y => x == y
 |.no b => !b.d
def BE.ite {α : Type _} : BE → α → α → α
 |.tt, t, _ => t
 |.ff, _, e => e
 |.q b, t, e => if b = true then t else e
 |.lt x y, t, e => if x < y then t else e
 |.le x y, t, e => if x ≤ y then t else e
 |.eq x y, t, e => if x = y then t else e
 |.no b, t, e => b.ite e t
def BE.neg : BE → BE
 |.tt => .ff
 |.ff => .tt
 |.no b => b
 |b => .no b
def BE.lit (b : Bool) : BE := cnd (b) (.tt) <| .ff

inductive C where
 |i (k : IntKind) (x : IE)
 |b (x : BE)
 |p (g o : Nat)
 |pd (g o : Nat) (i : Int) (n : Nat)
 |sl (g o n c : Nat)
inductive S where
 |c (c : C)
 |a (k : IntKind) (xs : List Int) (n : Nat)
def S.len : S → Nat
 |.c _ => 1
 |.a _ _ n => n
inductive PV where
 |one (c : C)
 |agg (ss : List S)
inductive SV where
 |pv (v : PV)
 |tup (vs : List PV)
 |und

def look {α : Type _} : List (Nat × α) → Nat → Option α
 |[], _ => none
 |(k, v) :: r, t => cnd (Nat.beq k t) (some v) <| look r t
def upd {α : Type _} : List (Nat × α) → Nat → α → List (Nat × α)
 |[], _, _ => []
 |(k, v) :: r, t, u => cnd (Nat.beq k t) ((k, u) :: r) <| (k, v) :: upd r t u

structure St where
 env : List (Nat × SV)
 heap : List (Nat × Nat × List S)
 next : Nat
abbrev St.put (s : St) (d : Option Nat) (v : SV) : St := match d with
 |some d => ⟨(d, v) :: s.env, s.heap, s.next⟩
 |none => s

def oO : Value → Option S
 |.int k n => some (.c (.i k (.l n)))
 |.bool b => some (.c (.b (.lit b)))
 |_ => none
def iP : List Value → Option (List S)
 |[] => some []
 |v :: r => match oO v, iP r with
  |some c, some cs => some (c :: cs)
  |_, _ => none
def ofV : Value → Option SV
 |.int k n => some (.pv (.one (.i k (.l n))))
 |.bool b => some (.pv (.one (.b (.lit b))))
 |.agg cs => match iP cs.toList with
  |some ss => some (.pv (.agg ss))
  |none => none
 |_ => none
def ev (env : List (Nat × SV)) : Operand → Option SV
 |.tmp t => look env t
 |.const v => ofV v
 |_ => none
def evs (env : List (Nat × SV)) : List Operand → Option (List PV)
 |[] => some []
 |x :: r => match ev env x, evs env r with
  |some (.pv v), some vs => some (v :: vs)
  |_, _ => none

def lK : List S → Nat → Option (List S × List S)
 |[], m => cnd (Nat.beq m 0) (some ([], [])) <| none
 |s :: r, m => cnd (Nat.beq m 0) (some ([], s :: r)) <|     cnd (Nat.ble s.len m) ((match lK r (m - s.len) with
   |some (a, b) => some (s :: a, b)
   |none => none)) <| none
def lX : List S → Nat
 |[] => 0
 |s :: r => s.len + lX r
def sub (ss : List S) (o n : Nat) : Option (List S) := match lK ss o with
 |some (_, r) => match lK r n with
  |some (a, _) => some a
  |none => none
 |none => none
def cellAt : List S → Nat → Option C
 |[], _ => none
 |.c c :: r, o => cnd (Nat.beq o 0) (some c) <| cellAt r (o - 1)
 |.a k xs n :: r, o => cnd (Nat.blt o n) (some (.i k (.x (rd xs (Int.ofNat o))))) <| cellAt r (o - n)
def setAt : List S → Nat → C → Option (List S)
 |[], _, _ => none
 |.c c :: r, o, u => cnd (Nat.beq o 0) (some (.c u :: r)) <| (match setAt r (o - 1) u with
  |some r' => some (.c c :: r')
  |none => none)
 |.a k xs n :: r, o, u => cnd (Nat.blt o n) ((match u with
   |.i k' v => cnd (decide (k' = k)) (some (.a k (xs.set o v.d) n :: r)) <| none
   |_ => none)) <| (match setAt r (o - n) u with
   |some r' => some (.a k xs n :: r')
   |none => none)
def o5 : List S → Nat → Option (IntKind × List Int × Nat)
 |[], _ => none
 |.c _ :: r, o => cnd (Nat.beq o 0) (none) <| o5 r (o - 1)
 |.a k xs n :: r, o => cnd (Nat.beq o 0) (some (k, xs, n)) <| cnd (Nat.ble n o) (o5 r (o - n)) <| none
def iL : List S → Nat → List Int → List S
 |[], _, _ => []
 |.c c :: r, o, ys => .c c :: (cnd (Nat.beq o 0) (r) <| iL r (o - 1) ys)
 |.a k xs n :: r, o, ys => cnd (Nat.beq o 0) (.a k ys n :: r) <| .a k xs n :: iL r (o - n) ys
def uQ (ss : List S) (o : Nat) (new : List S) : Option (List S) := match lK ss o with
 |some (a, r) => match lK r (lX new) with
  |some (_, b) => some (a ++ (new ++ b))
  |none => none
 |none => none

def fP (k : IntKind) (n : Int) : Int := match k with
 |.i64 => wrap64 n
 |.i32 => wrap32 n
 |.u32 => n % 4294967296
 |.u8 => n % 256
 |k => k.wrap n
def IE.mk2 (a b : IE) (n : Int) : IE := match a, b with
 |.l _, .l _ => .l n
 |_, _ => .x n
def IE.cmp (a b : IE) (e : BE) : BE := match a, b with
 |.l _, .l _ => .lit e.d
 |_, _ => e
def IE.nz (a : IE) : BE := match a with
 |.l n => .lit (n == 0)
 |.x n => .eq n 0
def IE.ge0 (a : IE) : BE := match a with
 |.l n => .lit (decide (0 ≤ n))
 |.x n => .le 0 n
def binI {R : Type} (op : BinOp) (k : IntKind) (k' : IntKind) (a b : IE) (K : C → Option R) : Option R := match op with
 |.shl => b.ge0.ite (K (.i k (IE.mk2 a b (shl k a.d b.d)))) none
 |.shr => b.ge0.ite (K (.i k (IE.mk2 a b (shr k a.d b.d)))) none
 |op => cnd (decide (k = k')) ((match op with
  |.add => K (.i k (IE.mk2 a b (fP k (a.d + b.d))))
  |.sub => K (.i k (IE.mk2 a b (fP k (a.d - b.d))))
  |.mul => K (.i k (IE.mk2 a b (fP k (a.d * b.d))))
  |.quo => b.nz.ite none (K (.i k (IE.mk2 a b (fP k (Int.tdiv a.d b.d)))))
  |.rem => b.nz.ite none (K (.i k (IE.mk2 a b (Int.tmod a.d b.d))))
  |.and => K (.i k (IE.mk2 a b (Go.bits .and k a.d b.d)))
  |.or => K (.i k (IE.mk2 a b (Go.bits .or k a.d b.d)))
  |.xor => K (.i k (IE.mk2 a b (Go.bits .xor k a.d b.d)))
  |.andNot => K (.i k (IE.mk2 a b (Go.bits .andNot k a.d b.d)))
  |.eql => K (.b (IE.cmp a b (.eq a.d b.d)))
  |.neq => K (.b (IE.cmp a b (.eq a.d b.d)).neg)
  |.lss => K (.b (IE.cmp a b (.lt a.d b.d)))
  |.leq => K (.b (IE.cmp a b (.le a.d b.d)))
  |.gtr => K (.b (IE.cmp a b (.lt b.d a.d)))
  |.geq => K (.b (IE.cmp a b (.le b.d a.d)))
  |_ => none)) <| none
def eqB (a b : BE) : BE := match a, b with
 |.tt, b => b
 |.ff, b => b.neg
 |a, .tt => a
 |a, .ff => a.neg
 |a, b => .q (a.d == b.d)
def rD (k : IntKind) : List S → Option (List Int)
 |[] => some []
 |.c (.i k' x) :: r => match rD k r with
  |some xs => cnd (decide (k' = k)) (some (x.d :: xs)) <| none
  |none => none
 |.a k' xs _ :: r => match rD k r with
  |some ys => cnd (decide (k' = k)) (some (xs ++ ys)) <| none
  |none => none
 |_ => none

section
variable (P : Program)
def lay : Nat → Nat → Option (List S)
 |0, _ => none
 |d + 1, t => match P.underlying t with
  |some (.int k) => some [.c (.i k (.l 0))]
  |some .bool => some [.c (.b .ff)]
  |some (.struct fs) => fs.toList.foldr (fun f r => match lay d f.type, r with
   |some a, some b => some (a ++ b)
   |_, _ => none) (some [])
  |some (.array n e) => match P.underlying e with
   |some (.int k) => some [.a k (List.replicate n 0) n]
   |_ => none
  |_ => none
def isLit : S → List Value → Option (List Value)
 |.c (.i k (.l n)), .int k' n' :: r => cnd (decide (k = k') && (n == n')) (some r) <| none
 |.c (.b .ff), .bool false :: r => some r
 |.a k xs n, vs => go k xs n vs
 |_, _ => none
 where go (k : IntKind) : List Int → Nat → List Value → Option (List Value)
 |[], 0, vs => some vs
 |x :: xs, n + 1, .int k' y :: vs => cnd (decide (k = k') && (x == y)) (go k xs n vs) <| none
 |_, _, _ => none
def vD : List S → List Value → Bool
 |[], [] => true
 |s :: r, vs => match isLit s vs with
  |some q => vD r q
  |none => false
 |_, _ => false
def jU (t : Nat) : Option (List S) := match P.info? t with
 |some i => match i.zero with
  |some v => match lay P 8 t with
   |some ss => cnd (vD ss v.cells.toList) (some ss) <| none
   |none => none
  |none => none
 |none => none
def fZ (t : Nat) : Option Bool := match P.underlying t with
 |some (.struct _) => some true
 |some (.array _ _) => some true
 |some _ => some false
 |none => none
def fI (t : Nat) : Option Nat := match P.info? t with
 |some i => some i.size
 |none => none
def nD (t : Nat) (ss : List S) (o : Nat) : Option PV := match fZ P t, fI P t with
 |some true, some n => match sub ss o n with
  |some r => some (.agg r)
  |none => none
 |some false, some _ => match cellAt ss o with
  |some c => some (.one c)
  |none => none
 |_, _ => none
def eqF : List Field → Nat → List S → List S → Option Bool
 |[], _, a, b => match a, b with
  |[], [] => some true
  |_, _ => none
 |f :: fs, i, a, b => match a, b with
  |.c (.i k x) :: r, .c (.i k' y) :: q => match P.underlying f.type with
   |some (.int _) => match eqF fs (i + 1) r q with
    |some t => cnd ((f.name != "_") && Nat.beq f.offset i && decide (k = k')) (some ((x.d == y.d) && t)) <| none
    |none => none
   |_ => none
  |.c (.b x) :: r, .c (.b y) :: q => match P.underlying f.type with
   |some .bool => match eqF fs (i + 1) r q with
    |some t => cnd ((f.name != "_") && Nat.beq f.offset i) (some ((x.d == y.d) && t)) <| none
    |none => none
   |_ => none
  |_, _ => none
def eqT (t : Nat) (a b : List S) : Option Bool := match P.underlying t with
 |some (.struct fs) => cnd (!P.stoodInHeld t && !P.eqGuardType P.depth t) (eqF P fs.toList 0 a b) <| none
 |some (.array n e) => match P.underlying e, fI P e with
  |some (.int k), some 1 => cnd (!P.eqGuardType P.depth t) ((match rD k a, rD k b with
   |some xs, some ys => cnd (Nat.beq (lX a) n && Nat.beq (lX b) n) (some (xs == ys)) <| none
   |_, _ => none)) <| none
  |_, _ => none
 |_ => none
def kU (env : List (Nat × SV)) (places : List (Nat × Nat)) : List S → List (Nat × Operand) → Option (List S)
 |ss, [] => some ss
 |ss, (j, x) :: r => match places[j]?, ev env x with
  |some (o, 1), some (.pv (.one c)) => match setAt ss o c with
   |some ss' => kU env places ss' r
   |none => none
  |some (o, n), some (.pv (.agg new)) => cnd (Nat.beq n (lX new)) ((match uQ ss o new with
   |some ss' => kU env places ss' r
   |none => none)) <| none
  |_, _ => none
def mX {R : Type} (op : Op) (env : List (Nat × SV)) (K : SV → Option R) : Option R := match op with
 |.move x => match ev env x with
  |some v => K v
  |none => none
 |.assign x => match ev env x with
  |some v => K v
  |none => none
 |.pick c a b => match ev env c with
  |some (.pv (.one (.b e))) => e.ite (match ev env a with
    |some v => K v
    |none => none) (match ev env b with
    |some v => K v
    |none => none)
  |_ => none
 |.binOp op t x y _ => match ev env x, ev env y with
  |some (.pv (.one (.i k a))), some (.pv (.one (.i k' b))) => binI op k k' a b (fun c => K (.pv (.one c)))
  |some (.pv (.one (.b a))), some (.pv (.one (.b b))) => match P.underlying t with
   |some .bool => match op with
    |.eql => K (.pv (.one (.b (eqB a b))))
    |.neq => K (.pv (.one (.b (eqB a b).neg)))
    |_ => none
   |_ => none
  |some (.pv (.agg a)), some (.pv (.agg b)) => match eqT P t a b with
   |some e => match op with
    |.eql => K (.pv (.one (.b (.q e))))
    |.neq => K (.pv (.one (.b (.no (.q e)))))
    |_ => none
   |none => none
  |_, _ => none
 |.unOp op _ x => match op, ev env x with
  |.neg, some (.pv (.one (.i k a))) => K (.pv (.one (.i k (IE.mk2 a a (fP k (-a.d))))))
  |.xor, some (.pv (.one (.i k a))) => K (.pv (.one (.i k (IE.mk2 a a (Go.bits .xor k (if k.signed then -1 else k.max) a.d)))))
  |.not, some (.pv (.one (.b a))) => K (.pv (.one (.b a.neg)))
  |_, _ => none
 |.convert s t x => match P.underlying s, P.underlying t, ev env x with
  |some _, some (.int k), some (.pv (.one (.i _ a))) => K (.pv (.one (.i k (IE.mk2 a a (fP k a.d)))))
  |_, _, _ => none
 |.fieldAddr t x f => match P.underlying t, ev env x with
  |some (.struct fs), some (.pv (.one (.p g o))) => match fs[f]? with
   |some fd => match fI P fd.type with
    |some (_ + 1) => K (.pv (.one (.p g (o + fd.offset))))
    |_ => none
   |none => none
  |_, _ => none
 |.field t x f => match P.underlying t, ev env x with
  |some (.struct fs), some (.pv (.agg ss)) => match fs[f]? with
   |some fd => match nD P fd.type ss fd.offset with
    |some v => K (.pv v)
    |none => none
   |none => none
  |_, _ => none
 |.indexAddr t x i => match P.underlying t, ev env x, ev env i with
  |some (.array n e), some (.pv (.one (.p g o))), some (.pv (.one (.i _ (.l j)))) => match fI P e with
   |some z => cnd (decide (0 ≤ j) && decide (j < (n : Int))) (K (.pv (.one (.p g (o + j.toNat * z))))) <| none
   |none => none
  |some (.array n e), some (.pv (.one (.p g o))), some (.pv (.one (.i _ (.x j)))) => match fI P e with
   |some 1 => if 0 ≤ j then (if j < (n : Int) then K (.pv (.one (.pd g o j n))) else none) else none
   |_ => none
  |some (.slice e), some (.pv (.one (.sl g o n _))), some (.pv (.one (.i _ j))) => match fI P e with
   |some 1 => if 0 ≤ j.d then (if j.d < (n : Int) then K (.pv (.one (.pd g o j.d n))) else none) else none
   |_ => none
  |_, _, _ => none
 |.index t x i => match P.underlying t, ev env x, ev env i with
  |some (.array n e), some (.pv (.agg ss)), some (.pv (.one (.i _ j))) => match fZ P e, ss with
   |some false, [.a k xs m] => cnd (Nat.beq m n) ((match fI P e with
     |some 1 => if 0 ≤ j.d then (if j.d < (n : Int) then K (.pv (.one (.i k (.x (rd xs j.d))))) else none) else none
     |_ => none)) <| none
   |_, _ => none
  |_, _, _ => none
 |.extract x i => match ev env x with
  |some (.tup vs) => match vs[i]? with
   |some v => K (.pv v)
   |none => none
  |_ => none
 |.nilCheck x => match ev env x with
  |some (.pv (.one (.p g o))) => K (.pv (.one (.p g o)))
  |_ => none
 |.build t ps => match P.underlying t, jU P t with
  |some (.struct fs), some ss => match fs.toList.mapM (fun f => (P.info? f.type).map fun i => (f.offset, i.size)) with
   |some places => match kU env places ss ps.toList with
    |some ss => K (.pv (.agg ss))
    |none => none
   |none => none
  |some (.array n e), some ss => match P.info? e with
   |some ie => match kU env ((List.range n).map fun i => (i * ie.size, ie.size)) ss ps.toList with
    |some ss => K (.pv (.agg ss))
    |none => none
   |none => none
  |_, _ => none
 |.call { callee := .builtin .len, args, argTypes } => match argTypes[0]?, args[0]? with
  |some t, some x => match P.underlying t, ev env x with
   |some (.slice _), some (.pv (.one (.sl _ _ n _))) => K (.pv (.one (.i .i64 (.x (n : Int)))))
   |_, _ => none
  |_, _ => none
 |.call { callee := .builtin .min, args, .. } => match evs env args.toList with
  |some [.one (.i k a), .one (.i k' b)] => cnd (decide (k = k')) (K (.pv (.one (.i k (IE.mk2 a b (mn a.d b.d)))))) <| none
  |_ => none
 |.call { callee := .builtin .max, args, .. } => match evs env args.toList with
  |some [.one (.i k a), .one (.i k' b)] => cnd (decide (k = k')) (K (.pv (.one (.i k (IE.mk2 a b (mx a.d b.d)))))) <| none
  |_ => none
 |_ => none

structure Fc where
 run : (R : Type) → Nat → List (Nat × Nat × List S) → List PV → (SV → Option R) → Option R
abbrev Cls := List (Nat × Fc)

def PV.segs : PV → List S
 |.one c => [.c c]
 |.agg ss => ss
def nA (t : Nat) (heap : List (Nat × Nat × List S)) : C → Option PV
 |.p g o => match look heap g with
  |some (_, ss) => nD P t ss o
  |none => none
 |.pd g o i n => match fZ P t, look heap g with
  |some false, some (_, ss) => match o5 ss o with
   |some (k, xs, m) => cnd (Nat.beq m n) (some (.one (.i k (.x (rd xs i))))) <| none
   |none => none
  |_, _ => none
 |_ => none
def yA (t : Nat) (heap : List (Nat × Nat × List S)) (v : PV) : C → Option (List (Nat × Nat × List S))
 |.p g o => match look heap g, fI P t, v with
  |some (e, ss), some 1, .one c => match setAt ss o c with
   |some ss' => some (upd heap g (e, ss'))
   |none => none
  |some (e, ss), some n, .agg new => cnd (Nat.beq n (lX new)) ((match uQ ss o new with
   |some ss' => some (upd heap g (e, ss'))
   |none => none)) <| none
  |_, _, _ => none
 |.pd g o i n => match look heap g, fI P t, v with
  |some (e, ss), some 1, .one (.i k x) => match o5 ss o with
   |some (k', xs, m) => cnd (Nat.beq m n && decide (k = k')) (some (upd heap g (e, iL ss o (xs.set i.toNat x.d)))) <| none
   |none => none
  |_, _, _ => none
 |_ => none
def ints (k : IntKind) : List PV → Option (List Int)
 |[] => some []
 |.one (.i k' x) :: r => match ints k r with
  |some xs => cnd (decide (k' = k)) (some (x.d :: xs)) <| none
  |none => none
 |_ => none

variable (nt : Nat) (cl : Cls)
def okD (nt : Nat) : Option Nat → Bool
 |some d => Nat.blt d nt
 |none => true
def yU {R : Type} (n : Nat) (o : Oper) (s : St) (K : St → Option R) : Option R := cnd (okD nt o.dst) ((match o.op with
 |.alloc t => match jU P t with
  |some ss => K ⟨match o.dst with
   |some d => (d, .pv (.one (.p s.next 0))) :: s.env
   |none => s.env, (s.next, t, ss) :: s.heap, s.next + 1⟩
  |none => none
 |.box t x => match ev s.env x with
  |some (.pv v) => K ⟨match o.dst with
   |some d => (d, .pv (.one (.p s.next 0))) :: s.env
   |none => s.env, (s.next, t, v.segs) :: s.heap, s.next + 1⟩
  |_ => none
 |.load t x => match ev s.env x with
  |some (.pv (.one c)) => match nA P t s.heap c with
   |some v => K (s.put o.dst (.pv v))
   |none => none
  |_ => none
 |.store t x y => match ev s.env x, ev s.env y with
  |some (.pv (.one c)), some (.pv v) => match yA P t s.heap v c with
   |some h => K ((⟨s.env, h, s.next⟩ : St).put o.dst .und)
   |none => none
  |_, _ => none
 |.buildSlice t len ps => match P.underlying t, evs s.env (ps.toList.map (·.2)) with
  |some (.slice e), some vs => match P.underlying e, jU P e with
   |some (.int k), some [.c (.i k' (.l 0))] => match ints k vs with
    |some xs => cnd (decide (k = k') && (ps.toList.map (·.1) == List.range len) && Nat.ble len 1000 && Nat.blt 0 len && (match fI P e with
      |some 1 => true
      |_ => false)) (K ⟨match o.dst with
      |some d => (d, .pv (.one (.sl s.next 0 len len))) :: s.env
      |none => s.env, (s.next, e, [.a k xs len]) :: s.heap, s.next + 1⟩) <| none
    |none => none
   |_, _ => none
  |_, _ => none
 |.call { callee := .value (.func f), args, .. } => match look cl f, evs s.env args.toList with
  |some c, some vs => c.run R n s.heap vs (fun v => K (s.put o.dst v))
  |_, _ => none
 |op => mX P op s.env (fun v => K (s.put o.dst v)))) <| none
def guarded {R : Type} (ops : Array Oper) (o : Oper) (s : St) (yes : St → Option R) (no : St → Option R) : Option R := match o.guard with
 |none => yes s
 |some (j, want) => match (ops[j]?).bind (·.dst) with
  |none => none
  |some t => match look s.env t with
   |some .und => no s
   |some (.pv (.one (.b e))) => e.ite (cnd (want) (yes ⟨(t, .pv (.one (.b .tt))) :: s.env, s.heap, s.next⟩) <| no ⟨(t, .pv (.one (.b .tt))) :: s.env, s.heap, s.next⟩)
     (cnd (want) (no ⟨(t, .pv (.one (.b .ff))) :: s.env, s.heap, s.next⟩) <| yes ⟨(t, .pv (.one (.b .ff))) :: s.env, s.heap, s.next⟩)
   |_ => none
def fV {R : Type} (o : Oper) (s : St) (K : St → Option R) : Option R := cnd (okD nt o.dst) (K (s.put o.dst .und)) <| none
def nW {R : Type} (n : Nat) (ops : Array Oper) : List Oper → St → (St → Option R) → Option R
 |[], s, K => K s
 |o :: r, s, K => guarded ops o s (fun s => yU P nt cl n o s (fun s => nW n ops r s K)) (fun s => fV nt o s (fun s => nW n ops r s K))

def kN : Op → Bool
 |.move _ | .assign _ | .pick .. | .binOp .. | .unOp .. | .convert .. | .fieldAddr .. | .field .. | .indexAddr .. | .index .. | .extract .. | .nilCheck _ | .build .. => true
 |.call { callee := .builtin .len, .. } => true
 |.call { callee := .builtin .min, .. } => true
 |.call { callee := .builtin .max, .. } => true
 |_ => false
def isLoad : Op → Bool
 |.load .. => true
 |_ => false
def fA : Op → Bool
 |.store .. => true
 |_ => false
def kL (ops : Array Oper) (i : Nat) : Bool := match ops[i]? with
 |some o => kN o.op
 |none => false
def loadAt (ops : Array Oper) (i : Nat) : Bool := match ops[i]? with
 |some o => isLoad o.op
 |none => false
def bI (ops : Array Oper) : List Nat := (List.range ops.size).filter fun i => match ops[i]? with
 |some o => fA o.op
 |none => false
def masks (T : List (List Nat × List Nat)) : List Nat := T.foldl (fun acc r => acc ++ [upM acc acc.length r.1]) []
def fK {R : Type} (n : Nat) (ops : Array Oper) (T : Bool × List (List Nat × List Nat)) (B : List Nat) (ds : List Nat) (heap0 : List (Nat × Nat × List S)) : Nat → List Bool → St → (St → Option R) → Option R
 |0, l, s, K => match readyT T.2 l with
  |[] => K s
  |_ => none
 |f + 1, l, s, K => match readyT T.2 l with
  |[] => K s
  |rs => match rs.find? (fun i => kL ops i && anyT T l (l.set i true) i) with
   |some i => match ops[i]? with
    |some o => guarded ops o s (fun s => cnd (okD nt o.dst) (mX P o.op s.env (fun v => fK n ops T B ds heap0 f (l.set i true) (s.put o.dst v) K)) <| none) (fun s => fV nt o s (fun s => fK n ops T B ds heap0 f (l.set i true) s K))
    |none => none
   |none => match rs.find? (fun i => loadAt ops i && takeW T B ds l (l.set i true) i && ds.all (fun d => !(l.getD d true))) with
    |some i => match ops[i]? with
     |some o => guarded ops o s (fun s => cnd (okD nt o.dst) ((match o.op with
       |.load t x => match ev s.env x with
        |some (.pv (.one c)) => match nA P t heap0 c with
         |some v => fK n ops T B ds heap0 f (l.set i true) (s.put o.dst (.pv v)) K
         |none => none
        |_ => none
       |_ => none)) <| none) (fun s => fV nt o s (fun s => fK n ops T B ds heap0 f (l.set i true) s K))
     |none => none
    |none => match rs with
     |[i] => match ops[i]? with
      |some o => guarded ops o s (fun s => yU P nt cl n o s (fun s => fK n ops T B ds heap0 f (l.set i true) s K)) (fun s => fV nt o s (fun s => fK n ops T B ds heap0 f (l.set i true) s K))
      |none => none
     |_ => none
def tV {R : Type} (n : Nat) (ops : Array Oper) (draw : Bool) (s : St) (K : St → Option R) : Option R := match draw with
 |false => nW P nt cl n ops ops.toList s K
 |true => cnd (P.follows .mixedOrders && waitsOk (rtab .any ops).2 (masks (rtab .any ops).2)) (fK P nt cl n ops (rtab .any ops) (masks (rtab .any ops).2) (bI ops) s.heap ops.size (List.replicate ops.size false) s K) <| none

def bit (t : Nat) : Nat := 2 ^ t
def onB (m t : Nat) : Nat := Nat.lor m (bit t)
def offB (m t : Nat) : Nat := Nat.xor m (Nat.land m (bit t))
def opdsB : List Operand → Nat → Nat
 |[], m => m
 |.tmp t :: r, m => opdsB r (onB m t)
 |_ :: r, m => opdsB r m
def lvOps (ops : Array Oper) : List Oper → Nat → Nat
 |[], m => m
 |o :: r, m =>
  let m := lvOps ops r m
  let m := match o.dst with
   |some d => offB m d
   |none => m
  let m := opdsB o.op.operands.toList m
  match o.guard with
  |some (j, _) => match (ops[j]?).bind (·.dst) with
   |some t => onB m t
   |none => m
  |none => m
def lvC (rm : Nat) : Code → Nat → List (Nat × Nat) → Nat
 |.skip, m, _ => m
 |.region _ ops _, m, _ => lvOps ops ops.toList m
 |.seq a b, m, ex => lvC rm a (lvC rm b m ex) ex
 |.cond c a b, m, ex => opdsB [c] (Nat.lor (lvC rm a m ex) (lvC rm b m ex))
 |.block id c, m, ex => lvC rm c m ((id, m) :: ex)
 |.loop c, _, ex => lvC rm c 0 ex
 |.exit id, _, ex => (look ex id).getD 0
 |.ret, _, _ => rm
 |_, _, _ => 0
def BE.gen (b : BE) : BE := .q b.d
def C.gen : C → C
 |.i k x => .i k (.x x.d)
 |.b x => .b x.gen
 |u => u
def S.gen : S → S
 |.c u => .c u.gen
 |s => s
def PV.gen : PV → PV
 |.one c => .one c.gen
 |.agg ss => .agg (ss.map S.gen)
def SV.gen : SV → SV
 |.pv v => .pv v.gen
 |.tup vs => .tup (vs.map PV.gen)
 |.und => .und
def pO (env : List (Nat × SV)) (m : Nat) : Nat → List (Nat × SV)
 |0 => []
 |t + 1 => cnd (Nat.beq (Nat.land (Nat.shiftRight m t) 1) 1) ((match look env t with
   |some v => (t, v.gen) :: pO env m t
   |none => pO env m t)) <| pO env m t
def idsC : C → Nat
 |.p g _ => bit g
 |.pd g _ _ _ => bit g
 |.sl g _ _ _ => bit g
 |_ => 0
def idsS : List S → Nat
 |[] => 0
 |.c c :: r => Nat.lor (idsC c) (idsS r)
 |_ :: r => idsS r
def idsE : List (Nat × SV) → Nat
 |[] => 0
 |(_, .pv v) :: r => Nat.lor (idsS v.segs) (idsE r)
 |_ :: r => idsE r
def idsH (m : Nat) : List (Nat × Nat × List S) → Nat
 |[] => m
 |(g, _, ss) :: r => cnd (Nat.beq (Nat.land (Nat.shiftRight m g) 1) 1) (Nat.lor (idsS ss) (idsH m r)) <| idsH m r
def mP (m : Nat) : List (Nat × Nat × List S) → List (Nat × Nat × List S)
 |[] => []
 |(g, t, ss) :: r => cnd (Nat.beq (Nat.land (Nat.shiftRight m g) 1) 1) ((g, t, ss.map S.gen) :: mP m r) <| mP m r
def xD (a b : Nat) : Nat := cnd (Nat.ble a b) (b) <| a
def C.top : C → Nat
 |.p g _ => g + 1
 |.pd g _ _ _ => g + 1
 |.sl g _ _ _ => g + 1
 |_ => 0
def tops : List S → Nat
 |[] => 0
 |.c u :: r => xD u.top (tops r)
 |_ :: r => tops r
def topsV : List PV → Nat
 |[] => 0
 |v :: r => xD (tops v.segs) (topsV r)
def SV.top : SV → Nat
 |.pv v => tops v.segs
 |.tup vs => topsV vs
 |.und => 0
def topE : List (Nat × SV) → Nat
 |[] => 0
 |(_, v) :: r => xD v.top (topE r)
def topH : List (Nat × Nat × List S) → Nat
 |[] => 0
 |(g, _, ss) :: r => xD (g + 1) (xD (tops ss) (topH r))
def clean (m : Nat) (s : St) : St :=
 let e := pO s.env m nt
 let h := mP (idsH (idsH (idsE e) s.heap) s.heap) s.heap
 ⟨e, h, xD (topE e) (topH h)⟩

inductive Out where
 |nor | ret
 |ex (id : Nat)
def o8 {R : Type} (f : Nat → St → (Out → St → Option R) → Option R) (m : Nat) : Nat → St → (Out → St → Option R) → Option R
 |0, _, _ => none
 |n + 1, s, K => f n s (fun o s' => match o with
  |.nor => o8 f m n (clean nt m s') K
  |o => K o s')
def evJ {R : Type} (f : St → Option R) (s : St) : Option R := f s
abbrev kseq {R : Type} (g : St → (Out → St → Option R) → Option R) (K : Out → St → Option R) : Out → St → Option R
 |.nor, s => g s K
 |o, s => K o s
abbrev kblk {R : Type} (id : Nat) (K : Out → St → Option R) : Out → St → Option R
 |.ex j, s => cnd (Nat.beq j id) (K .nor s) <| K (.ex j) s
 |o, s => K o s
def zB : Code → Option Nat
 |.region id _ _ => some id
 |.seq a _ => zB a
 |.block _ c => zB c
 |.loop c => zB c
 |.cond _ a _ => zB a
 |_ => none
variable (rm : Nat) (cuts : List Nat)
def cutAt (cuts : List Nat) (b : Code) : Bool := match zB b with
 |some i => cuts.any (Nat.beq i)
 |none => false
def evC {R : Type} : Code → Nat → List (Nat × Nat) → Nat → St → (Out → St → Option R) → Option R
 |.skip, _, _, _, s, K => K .nor s
 |.region _ ops d, _, _, n, s, K => tV P nt cl n ops d s (K .nor)
 |.seq a b, lv, ex, n, s, K => evC a (lvC rm b lv ex) ex n s (kseq (fun s K => cnd (cutAt cuts b) (evJ (fun s => evC b lv ex n s K) (clean nt (lvC rm b lv ex) s)) <| evC b lv ex n s K) K)
 |.cond c a b, lv, ex, n, s, K => match ev s.env c with
  |some (.pv (.one (.b e))) => e.ite (evC a lv ex n s K) (evC b lv ex n s K)
  |_ => none
 |.block id c, lv, ex, n, s, K => evC c lv ((id, lv) :: ex) n s (kblk id K)
 |.loop c, _, ex, n, s, K => o8 nt (fun n s K => evC c (lvC rm c 0 ex) ex n s K) (lvC rm c 0 ex) n (clean nt (lvC rm c 0 ex) s) K
 |.exit id, _, _, _, s, K => K (.ex id) s
 |.ret, _, _, _, s, K => K .ret s
 |_, _, _, _, _, _ => none
end

section
variable (P : Program) (nt : Nat) (cl : Cls) (rm : Nat) (cuts : List Nat)
def evAt {R : Type} : List Nat → Code → Nat → List (Nat × Nat) → List Nat → Nat → St → (Out → St → Option R) → Option R
 |[], c, lv, ex, _, n, s, K => evC P nt cl rm cuts c lv ex n s K
 |0 :: p, .seq a b, lv, ex, m :: fs, n, s, K => evAt p a (lvC rm b lv ex) ex (m :: fs) n s (kseq (fun s K => cnd (cutAt cuts b) (evJ (fun s => evC P nt cl rm cuts b lv ex m s K) (clean nt (lvC rm b lv ex) s)) <| evC P nt cl rm cuts b lv ex m s K) K)
 |_ :: p, .seq _ b, lv, ex, fs, n, s, K => evAt p b lv ex fs n s K
 |0 :: p, .cond _ a _, lv, ex, fs, n, s, K => evAt p a lv ex fs n s K
 |_ :: p, .cond _ _ b, lv, ex, fs, n, s, K => evAt p b lv ex fs n s K
 |_ :: p, .block id c, lv, ex, fs, n, s, K => evAt p c lv ((id, lv) :: ex) fs n s (kblk id K)
 |_ :: p, .loop c, _, ex, _ :: m :: fs, n, s, K => evAt p c (lvC rm c 0 ex) ex (m :: fs) n s (fun o s' => match o with
  |.nor => o8 nt (fun n s K => evC P nt cl rm cuts c (lvC rm c 0 ex) ex n s K) (lvC rm c 0 ex) m (clean nt (lvC rm c 0 ex) s') K
  |o => K o s')
 |_, _, _, _, _, _, _, _ => none
end

def xZ (P : Program) (s : St) : ResultVar → Option PV
 |.tmp t => match look s.env t with
  |some (.pv v) => some v
  |_ => none
 |.cell a t => match look s.env a with
  |some (.pv (.one c)) => nA P t s.heap c
  |_ => none
def kC (P : Program) (s : St) : List ResultVar → Option (List PV)
 |[] => some []
 |r :: rs => match xZ P s r, kC P s rs with
  |some v, some vs => some (v :: vs)
  |_, _ => none
def nU (P : Program) (fn : Func) (s : St) : Option SV := match kC P s fn.results.toList with
 |some [v] => some (.pv v)
 |some vs => some (.tup vs)
 |none => none
def resB (fn : Func) : Nat := fn.results.toList.foldl (fun m r => match r with
 |.tmp t => onB m t
 |.cell a _ => onB m a) 0
def argE : List PV → Nat → List (Nat × SV)
 |[], _ => []
 |v :: r, i => (i, .pv v) :: argE r (i + 1)
def kfin {R : Type} (P : Program) (fn : Func) (K : SV → Option R) : Out → St → Option R
 |.nor, s => (match nU P fn s with
  |some v => K v
  |none => none)
 |.ret, s => (match nU P fn s with
  |some v => K v
  |none => none)
 |_, _ => none
def evF {R : Type} (P : Program) (cl : Cls) (fn : Func) (cuts : List Nat) (n : Nat) (args : List PV) (K : SV → Option R) : Option R := match fn.body with
 |some c => cnd (Nat.beq fn.params.size args.length && Nat.ble args.length fn.ntmps) (evC P fn.ntmps cl (resB fn) cuts c (resB fn) [] n ⟨argE args 0, [], 0⟩ (kfin P fn K)) <| none
 |none => none
def kT {R : Type} (P : Program) (cl : Cls) (fn : Func) (cuts : List Nat) (p fs : List Nat) (n : Nat) (s : St) (K : SV → Option R) : Option R := match fn.body with
 |some c => evJ (fun s => evAt P fn.ntmps cl (resB fn) cuts p c (resB fn) [] fs n s (kfin P fn K)) s
 |none => none
/- The reckoner's values are the machine's; what yields a value yields it whatever the memory. -/

theorem BE.yB {α : Type _} (b : BE) (t e : α) : b.ite t e = if b.d = true then t else e := by
 have dec : ∀ (c : Prop) [Decidable c], (if c then t else e) = if decide c = true then t else e := fun c _ => by by_cases h : c <;> simp [h]
 induction b generalizing t e with
 |tt => rfl
 |ff => rfl
 |q b => rfl
 |lt x y => exact dec (x < y)
 |le x y => exact dec (x ≤ y)
 |eq x y =>
  show (if x = y then t else e) = if (x == y) = true then t else e
  by_cases h : x = y <;> simp [h]
 |no b ih =>
  show b.ite e t = if (!b.d) = true then t else e
  rw [ih e t (fun c _ => by by_cases h : c <;> simp [h])]
  by_cases h : b.d = true <;> simp [h]
theorem BE.o7 (b : BE) : b.neg.d = !b.d := by cases b <;> simp [BE.neg, BE.d]
theorem BE.oZ (b : Bool) : (BE.lit b).d = b := by cases b <;> rfl
theorem IE.pF (a b : IE) (n : Int) : (IE.mk2 a b n).d = n := by cases a <;> cases b <;> rfl
theorem IE.cmp_d (a b : IE) (e : BE) : (IE.cmp a b e).d = e.d := by cases a <;> cases b <;> simp [IE.cmp, BE.oZ]
theorem IE.nz_d (a : IE) : a.nz.d = (a.d == 0) := by cases a <;> simp [IE.nz, IE.d, BE.oZ, BE.d]
theorem IE.ge0_d (a : IE) : a.ge0.d = decide (0 ≤ a.d) := by
 cases a
 ·exact BE.oZ _
 ·rfl
theorem dR (k : IntKind) (n : Int) : fP k n = k.wrap n := by
 cases k <;> first | rfl | exact (i64_w n).symm | exact (i32_w n).symm | exact (IntKind.wrap_u32 n).symm | exact (IntKind.wrap_u8 n).symm
theorem eqB_d (a b : BE) : (eqB a b).d = (a.d == b.d) := by
 have h : ∀ x : Bool, (true == x) = x ∧ (false == x) = !x ∧ (x == true) = x ∧ (x == false) = !x := by decide
 unfold eqB
 split
 ·exact (h _).1.symm
 ·rw [BE.o7]; exact (h _).2.1.symm
 ·exact (h _).2.2.1.symm
 ·rw [BE.o7]; exact (h _).2.2.2.symm
 ·rfl

def C.v (m : Nat → Nat) : C → Value
 |.i k x => .int k x.d
 |.b x => .bool x.d
 |.p g o => .pointer (some ⟨m g, o, none⟩)
 |.pd g o j _ => .pointer (some ⟨m g, o + j.toNat, none⟩)
 |.sl g o n c => .slice (some ⟨m g, o, none⟩) n c
def S.v (m : Nat → Nat) : S → List Value
 |.c u => [u.v m]
 |.a k xs _ => xs.map (Value.int k)
def vals (m : Nat → Nat) : List S → List Value
 |[] => []
 |s :: r => s.v m ++ vals m r
def PV.v (m : Nat → Nat) : PV → Value
 |.one c => c.v m
 |.agg ss => .agg (vals m ss).toArray
def SV.v (m : Nat → Nat) : SV → Value
 |.pv u => u.v m
 |.tup vs => .tuple (vs.map (PV.v m)).toArray
 |.und => undef
def C.ok (N : Nat) : C → Prop
 |.p g _ => g < N
 |.pd g _ j n => g < N ∧ 0 ≤ j ∧ j < n
 |.sl g _ _ _ => g < N
 |_ => True
def S.ok (N : Nat) : S → Prop
 |.c u => u.ok N
 |.a _ xs n => xs.length = n
def oks (N : Nat) : List S → Prop
 |[] => True
 |s :: r => s.ok N ∧ oks N r
def PV.ok (N : Nat) : PV → Prop
 |.one c => c.ok N
 |.agg ss => oks N ss
def SV.ok (N : Nat) : SV → Prop
 |.pv u => u.ok N
 |.tup vs => ∀ v ∈ vs, v.ok N
 |.und => True

theorem C.one (m : Nat → Nat) (c : C) : (c.v m).oneCell' = true := by cases c <;> rfl
theorem C.cells (m : Nat → Nat) (c : C) : (c.v m).cells = #[c.v m] := by cases c <;> rfl
theorem dB (m : Nat → Nat) (a b : List S) : vals m (a ++ b) = vals m a ++ vals m b := by
 induction a with
 |nil => rfl
 |cons s r ih => simp [vals, ih]
theorem gN {N : Nat} {a b : List S} : oks N (a ++ b) ↔ oks N a ∧ oks N b := by
 induction a with
 |nil => simp [oks]
 |cons s r ih => simp [oks, ih, and_assoc]
theorem S.length (m : Nat → Nat) {N : Nat} (s : S) (h : s.ok N) : (s.v m).length = s.len := by
 cases s with
 |c u => rfl
 |a k xs n =>
  show (xs.map (Value.int k)).length = n
  rw [List.length_map]; exact h
theorem bB (m : Nat → Nat) {N : Nat} (ss : List S) (h : oks N ss) : (vals m ss).length = lX ss := by
 induction ss with
 |nil => rfl
 |cons s r ih => simp [vals, lX, S.length m s h.1, ih h.2]
theorem nK (m : Nat → Nat) (ss : List S) : ∀ v ∈ vals m ss, v.oneCell' = true := by
 induction ss with
 |nil => simp [vals]
 |cons s r ih =>
  intro v hv
  rcases List.mem_append.1 hv with h | h
  ·cases s with
   |c u =>
    obtain rfl : v = u.v m := by simpa [S.v] using h
    exact C.one m u
   |a k xs n =>
    obtain ⟨x, _, rfl⟩ : ∃ x ∈ xs, Value.int k x = v := by simpa [S.v] using h
    rfl
  ·exact ih v h

theorem nC {α : Type _} {b : Bool} {x y z : α} (h : (cnd (b) (x) <| y) = z) : (b = true ∧ x = z) ∨ (b = false ∧ y = z) := by
 cases b
 ·exact .inr ⟨rfl, h⟩
 ·exact .inl ⟨rfl, h⟩
theorem dY {α : Type _} {b : Bool} {x : Option α} {r : α} (h : (cnd (b) (x) <| none) = some r) : b = true ∧ x = some r := by
 cases b
 ·cases h
 ·exact ⟨rfl, h⟩

theorem lS {vs : List Value} {ss : List S} (m : Nat → Nat) (N : Nat) (h : iP vs = some ss) : vals m ss = vs ∧ oks N ss := by
 induction vs generalizing ss with
 |nil => cases h; exact ⟨rfl, trivial⟩
 |cons v r ih =>
  unfold iP at h
  split at h
  ·next c cs h1 h2 =>
   cases h
   obtain ⟨e, o⟩ := ih h2
   have : c.v m = [v] ∧ c.ok N := by
    unfold oO at h1
    split at h1
    ·cases h1; exact ⟨rfl, trivial⟩
    ·next b => cases h1; exact ⟨by cases b <;> rfl, trivial⟩
    ·cases h1
   exact ⟨by simp [vals, this.1, e], this.2, o⟩
  ·cases h
theorem ofV_v {c : Value} {v : SV} (m : Nat → Nat) (N : Nat) (h : ofV c = some v) : v.v m = c ∧ v.ok N := by
 unfold ofV at h
 split at h
 ·cases h; exact ⟨rfl, trivial⟩
 ·next b => cases h; exact ⟨by cases b <;> rfl, trivial⟩
 ·next cs =>
  split at h
  ·next ss h1 =>
   cases h
   obtain ⟨e, o⟩ := lS m N h1
   refine ⟨?_, o⟩
   show Value.agg (vals m ss).toArray = _
   rw [e]
  ·cases h
 ·cases h

def Knows (m : Nat → Nat) (N : Nat) (env : List (Nat × SV)) (a : Act) : Prop := ∀ t v, look env t = some v → v.ok N ∧ a.tmps.getD t undef = v.v m
theorem fE {m : Nat → Nat} {N : Nat} {env : List (Nat × SV)} {a : Act} (hk : Knows m N env a) {x : Operand} {v : SV} (h : ev env x = some v) : v.ok N ∧ a.eval x = v.v m := by
 cases x with
 |tmp t => exact hk t v h
 |const c => obtain ⟨e, o⟩ := ofV_v m N h; exact ⟨o, e.symm⟩
 |global g => cases h
 |func f => cases h
theorem pE {m : Nat → Nat} {N : Nat} {env : List (Nat × SV)} {a : Act} (hk : Knows m N env a) {xs : List Operand} {vs : List PV} (h : evs env xs = some vs) : (∀ v ∈ vs, v.ok N) ∧ xs.map a.eval = vs.map (PV.v m) := by
 induction xs generalizing vs with
 |nil => cases h; exact ⟨by simp, rfl⟩
 |cons x r ih =>
  unfold evs at h
  split at h
  ·next v ws h1 h2 =>
   cases h
   obtain ⟨o, e⟩ := fE hk h1
   obtain ⟨o', e'⟩ := ih h2
   refine ⟨fun u hu => ?_, by simp [e, e', SV.v]⟩
   rcases List.mem_cons.1 hu with rfl | hu
   ·exact o
   ·exact o' u hu
  ·cases h

theorem aAl {R : Type} (P : Program) (t : TypeId) {op : BinOp} {k k' : IntKind} {a b : IE} {K : C → Option R} {r : R} (m : Nat → Nat) (N : Nat) (h : binI op k k' a b K = some r) :
  ∃ c, K c = some r ∧ c.ok N ∧ ∀ w, (binOp op t (.int k a.d) (.int k' b.d)).run P w = .ok (c.v m) w := by
 have ite0 : ∀ {z : Option R}, b.ge0.ite z none = some r → 0 ≤ b.d ∧ z = some r := by
  intro z h
  rw [BE.yB, IE.ge0_d] at h
  by_cases c : 0 ≤ b.d
  ·exact ⟨c, by simpa [c] using h⟩
  ·simp [c] at h
 have itz : ∀ {z : Option R}, b.nz.ite none z = some r → b.d ≠ 0 ∧ z = some r := by
  intro z h
  rw [BE.yB, IE.nz_d] at h
  by_cases c : b.d = 0
  ·simp [c] at h
  ·exact ⟨c, by simpa [c] using h⟩
 cases op <;> unfold binI at h <;> simp only [] at h
 case shl =>
  obtain ⟨h0, h1⟩ := ite0 h
  exact ⟨_, h1, trivial, fun w => by simp [binOp, Op.shift, Int.not_lt.mpr h0, C.v, IE.pF, shl]⟩
 case shr =>
  obtain ⟨h0, h1⟩ := ite0 h
  have hp : ∀ n : Nat, (0 : Int) ≤ 2 ^ n := fun n => Int.pow_nonneg (by decide)
  exact ⟨_, h1, trivial, fun w => by simp [binOp, Op.shift, Int.not_lt.mpr h0, C.v, IE.pF, shr, Int.fdiv_eq_ediv_of_nonneg _ (hp _)]⟩
 all_goals (have hb := dY h; clear h; obtain ⟨hk, h⟩ := hb; have he := of_decide_eq_true hk; clear hk; subst he)
 case quo =>
  obtain ⟨h0, h1⟩ := itz h
  exact ⟨_, h1, trivial, fun w => by simp [binOp, Op.intDiv, h0, C.v, IE.pF, dR]⟩
 case rem =>
  obtain ⟨h0, h1⟩ := itz h
  exact ⟨_, h1, trivial, fun w => by simp [binOp, Op.intDiv, h0, C.v, IE.pF]⟩
 all_goals exact ⟨_, h, trivial, fun w => by simp [binOp, Op.intArith, Op.intBits, Op.intCmp, Go.bits, C.v, IE.pF, IE.cmp_d, BE.o7, BE.d, dR, bne, GT.gt, GE.ge]⟩
/- Cells of the reckoner and of the machine. -/

theorem lU {ss : List S} : ∀ {n : Nat} {a b : List S}, lK ss n = some (a, b) → ss = a ++ b ∧ lX a = n := by
 induction ss with
 |nil =>
  intro n a b h
  obtain ⟨h0, h1⟩ := dY h
  cases h1
  exact ⟨rfl, (Nat.eq_of_beq_eq_true h0).symm⟩
 |cons s r ih =>
  intro n a b h
  unfold lK at h
  rcases nC h with ⟨h0, h1⟩ | ⟨_, h1⟩
  ·cases h1
   exact ⟨rfl, (Nat.eq_of_beq_eq_true h0).symm⟩
  ·obtain ⟨h2, h3⟩ := dY h1
   have h2 := Nat.le_of_ble_eq_true h2
   split at h3
   ·next a' b' h4 =>
    cases h3
    obtain ⟨e1, e2⟩ := ih h4
    exact ⟨by rw [e1]; rfl, by show s.len + lX a' = n; omega⟩
   ·cases h3
theorem sub_v (m : Nat → Nat) {N : Nat} {ss a : List S} {o n : Nat} (ho : oks N ss) (h : sub ss o n = some a) : oks N a ∧ lX a = n ∧ vals m a = ((vals m ss).drop o).take n ∧ o + n ≤ (vals m ss).length := by
 unfold sub at h
 split at h
 ·next p r h1 =>
  split at h
  ·next a' q h2 =>
   cases h
   obtain ⟨e1, l1⟩ := lU h1
   obtain ⟨e2, l2⟩ := lU h2
   subst e2
   subst e1
   rw [gN, gN] at ho
   obtain ⟨o1, o2, o3⟩ := ho
   have v1 := bB m p o1
   have v2 := bB m a o2
   refine ⟨o2, l2, ?_, ?_⟩
   ·rw [dB, dB, List.drop_append_of_le_length (by omega), List.drop_eq_nil_of_le (by omega), List.nil_append, List.take_append_of_le_length (by omega), List.take_of_length_le (by omega)]
   ·rw [dB, dB]; simp only [List.length_append]; omega
  ·cases h
 ·cases h
theorem uS (m : Nat → Nat) {N : Nat} {ss : List S} : ∀ {o : Nat} {c : C}, oks N ss → cellAt ss o = some c → c.ok N ∧ (vals m ss)[o]? = some (c.v m) := by
 induction ss with
 |nil => intro o c _ h; cases h
 |cons s r ih =>
  intro o c ho h
  cases s with
  |c u =>
   unfold cellAt at h
   rcases nC h with ⟨h0, h1⟩ | ⟨h0, h1⟩
   ·cases h1
    obtain rfl := Nat.eq_of_beq_eq_true h0
    exact ⟨ho.1, rfl⟩
   ·obtain ⟨p, rfl⟩ : ∃ p, o = p + 1 := ⟨o - 1, by have := Nat.ne_of_beq_eq_false h0; omega⟩
    obtain ⟨a, b⟩ := ih ho.2 h1
    exact ⟨a, by simpa [vals, S.v] using b⟩
  |a k xs n =>
   have hl : xs.length = n := ho.1
   unfold cellAt at h
   rcases nC h with ⟨h0, h1⟩ | ⟨h0, h1⟩
   ·cases h1
    have h0 : o < n := Nat.le_of_ble_eq_true h0
    refine ⟨trivial, ?_⟩
    show (xs.map (Value.int k) ++ vals m r)[o]? = some (.int k (rd xs (Int.ofNat o)))
    rw [List.getElem?_append_left (by rw [List.length_map]; omega), List.getElem?_map, List.getElem?_eq_getElem (by omega)]
    simp [rd, show o < xs.length by omega]
   ·have h0 : ¬ o < n := fun hh => by
     have : Nat.blt o n = true := Nat.ble_eq.mpr hh
     rw [this] at h0; cases h0
    obtain ⟨a, b⟩ := ih ho.2 h1
    refine ⟨a, ?_⟩
    show (xs.map (Value.int k) ++ vals m r)[o]? = some (c.v m)
    rw [List.getElem?_append_right (by rw [List.length_map]; omega), List.length_map, hl]
    exact b
theorem yN (m : Nat → Nat) {N : Nat} {ss : List S} : ∀ {o : Nat} {c : C} {ss' : List S}, oks N ss → c.ok N → setAt ss o c = some ss' → oks N ss' ∧ vals m ss' = (vals m ss).set o (c.v m) ∧ o < (vals m ss).length ∧ lX ss' = lX ss := by
 induction ss with
 |nil => intro o c ss' _ _ h; cases h
 |cons s r ih =>
  intro o c ss' ho hc h
  cases s with
  |c u =>
   unfold setAt at h
   rcases nC h with ⟨h0, h1⟩ | ⟨h0, h1⟩
   ·cases h1
    obtain rfl := Nat.eq_of_beq_eq_true h0
    exact ⟨⟨hc, ho.2⟩, rfl, by simp [vals, S.v], rfl⟩
   ·obtain ⟨p, rfl⟩ : ∃ p, o = p + 1 := ⟨o - 1, by have := Nat.ne_of_beq_eq_false h0; omega⟩
    split at h1
    ·next r' h2 =>
     cases h1
     obtain ⟨a, b, l, e⟩ := ih ho.2 hc h2
     exact ⟨⟨ho.1, a⟩, by simp only [Nat.add_sub_cancel] at b; simp [vals, S.v, b], by simp only [Nat.add_sub_cancel] at l; simp [vals, S.v]; omega, by simp [lX, e]⟩
    ·cases h1
  |a k xs n =>
   have hl : xs.length = n := ho.1
   unfold setAt at h
   rcases nC h with ⟨h0, h1⟩ | ⟨h0, h1⟩
   ·have h0 : o < n := Nat.le_of_ble_eq_true h0
    split at h1
    ·next k' v =>
     obtain ⟨h2, h3⟩ := dY h1
     cases h3
     obtain rfl := of_decide_eq_true h2
     refine ⟨⟨by show (xs.set o v.d).length = n; rw [List.length_set]; exact hl, ho.2⟩, ?_, ?_, rfl⟩
     ·show (xs.set o v.d).map (Value.int k') ++ vals m r = (xs.map (Value.int k') ++ vals m r).set o (.int k' v.d)
      rw [List.set_append_left _ _ (by rw [List.length_map]; omega), List.map_set]
     ·show o < (xs.map (Value.int k') ++ vals m r).length
      rw [List.length_append, List.length_map]; omega
    ·cases h1
   ·have h0 : ¬ o < n := fun hh => by
     have : Nat.blt o n = true := Nat.ble_eq.mpr hh
     rw [this] at h0; cases h0
    split at h1
    ·next r' h2 =>
     cases h1
     obtain ⟨a, b, l, e⟩ := ih ho.2 hc h2
     refine ⟨⟨ho.1, a⟩, ?_, ?_, by simp [lX, e]⟩
     ·show xs.map (Value.int k) ++ vals m r' = (xs.map (Value.int k) ++ vals m r).set o (c.v m)
      rw [List.set_append_right _ _ (by rw [List.length_map]; omega), List.length_map, hl, b]
     ·show o < (xs.map (Value.int k) ++ vals m r).length
      rw [List.length_append, List.length_map]; omega
    ·cases h1
theorem runAt_v (m : Nat → Nat) {N : Nat} {ss : List S} : ∀ {o n : Nat} {k : IntKind} {xs : List Int}, oks N ss → o5 ss o = some (k, xs, n) → xs.length = n ∧ ∃ a b, vals m ss = a ++ (xs.map (Value.int k) ++ b) ∧ a.length = o := by
 induction ss with
 |nil => intro o n k xs _ h; cases h
 |cons s r ih =>
  intro o n k xs ho h
  cases s with
  |c u =>
   unfold o5 at h
   rcases nC h with ⟨h0, h1⟩ | ⟨h0, h1⟩
   ·cases h1
   ·obtain ⟨p, rfl⟩ : ∃ p, o = p + 1 := ⟨o - 1, by have := Nat.ne_of_beq_eq_false h0; omega⟩
    obtain ⟨l, a, b, e, la⟩ := ih ho.2 h1
    exact ⟨l, u.v m :: a, b, by simp [vals, S.v, e], by simpa using la⟩
  |a k' xs' n' =>
   have hl : xs'.length = n' := ho.1
   unfold o5 at h
   rcases nC h with ⟨h0, h1⟩ | ⟨h0, h1⟩
   ·cases h1
    obtain rfl := Nat.eq_of_beq_eq_true h0
    exact ⟨hl, [], vals m r, rfl, rfl⟩
   ·obtain ⟨h2, h3⟩ := dY h1
    have h2 := Nat.le_of_ble_eq_true h2
    obtain ⟨l, a, b, e, la⟩ := ih ho.2 h3
    exact ⟨l, xs'.map (Value.int k') ++ a, b, by simp [vals, S.v, e], by simp [la]; omega⟩
theorem setRun_v (m : Nat → Nat) {N : Nat} {ss : List S} : ∀ {o n i : Nat} {k : IntKind} {xs : List Int} {y : Int}, oks N ss → o5 ss o = some (k, xs, n) → i < n →
  oks N (iL ss o (xs.set i y)) ∧ vals m (iL ss o (xs.set i y)) = (vals m ss).set (o + i) (.int k y) ∧ o + i < (vals m ss).length ∧ lX (iL ss o (xs.set i y)) = lX ss := by
 induction ss with
 |nil => intro o n i k xs y _ h; cases h
 |cons s r ih =>
  intro o n i k xs y ho h hi
  cases s with
  |c u =>
   unfold o5 at h
   rcases nC h with ⟨h0, h1⟩ | ⟨h0, h1⟩
   ·cases h1
   ·obtain ⟨p, rfl⟩ : ∃ p, o = p + 1 := ⟨o - 1, by have := Nat.ne_of_beq_eq_false h0; omega⟩
    obtain ⟨a, b, l, e⟩ := ih (y := y) ho.2 h1 hi
    have hs : iL (.c u :: r) (p + 1) (xs.set i y) = .c u :: iL r p (xs.set i y) := rfl
    simp only [Nat.add_sub_cancel] at a b l e
    rw [hs]
    refine ⟨⟨ho.1, a⟩, ?_, ?_, by simp [lX, e]⟩
    ·show u.v m :: vals m (iL r p (xs.set i y)) = (u.v m :: vals m r).set (p + 1 + i) (.int k y)
     rw [b, show p + 1 + i = (p + i) + 1 by omega, List.set_cons_succ]
    ·show p + 1 + i < (u.v m :: vals m r).length
     rw [List.length_cons]; omega
  |a k' xs' n' =>
   have hl : xs'.length = n' := ho.1
   unfold o5 at h
   rcases nC h with ⟨h0, h1⟩ | ⟨h0, h1⟩
   ·cases h1
    obtain rfl := Nat.eq_of_beq_eq_true h0
    have hs : iL (.a k xs n :: r) 0 (xs.set i y) = .a k (xs.set i y) n :: r := rfl
    rw [hs]
    refine ⟨⟨by show (xs.set i y).length = n; rw [List.length_set]; exact hl, ho.2⟩, ?_, ?_, rfl⟩
    ·show (xs.set i y).map (Value.int k) ++ vals m r = (xs.map (Value.int k) ++ vals m r).set (0 + i) (.int k y)
     rw [Nat.zero_add, List.set_append_left _ _ (by rw [List.length_map]; omega), List.map_set]
    ·show 0 + i < (xs.map (Value.int k) ++ vals m r).length
     rw [List.length_append, List.length_map]; omega
   ·obtain ⟨h2, h3⟩ := dY h1
    have h2 := Nat.le_of_ble_eq_true h2
    obtain ⟨a, b, l, e⟩ := ih (y := y) ho.2 h3 hi
    have hs : iL (.a k' xs' n' :: r) o (xs.set i y) = .a k' xs' n' :: iL r (o - n') (xs.set i y) := by simp [iL, h0]
    rw [hs]
    refine ⟨⟨ho.1, a⟩, ?_, ?_, by simp [lX, e]⟩
    ·show xs'.map (Value.int k') ++ vals m (iL r (o - n') (xs.set i y)) = (xs'.map (Value.int k') ++ vals m r).set (o + i) (.int k y)
     rw [List.set_append_right _ _ (by rw [List.length_map]; omega), List.length_map, b, hl, show o + i - n' = o - n' + i by omega]
    ·show o + i < (xs'.map (Value.int k') ++ vals m r).length
     rw [List.length_append, List.length_map]; omega
theorem uA (a b : List S) : lX (a ++ b) = lX a + lX b := by
 induction a with
 |nil => simp [lX]
 |cons s r ih => simp [lX, ih, Nat.add_assoc]
theorem vC (m : Nat → Nat) {N : Nat} {ss new ss' : List S} {o : Nat} (ho : oks N ss) (hn : oks N new) (h : uQ ss o new = some ss') :
  oks N ss' ∧ vals m ss' = (vals m ss).take o ++ (vals m new ++ (vals m ss).drop (o + lX new)) ∧ o + lX new ≤ (vals m ss).length ∧ lX ss' = lX ss := by
 unfold uQ at h
 split at h
 ·next a r h1 =>
  split at h
  ·next q b h2 =>
   cases h
   obtain ⟨e1, l1⟩ := lU h1
   obtain ⟨e2, l2⟩ := lU h2
   subst e2
   subst e1
   rw [gN, gN] at ho
   obtain ⟨o1, o2, o3⟩ := ho
   have v1 := bB m a o1
   have v2 := bB m q o2
   refine ⟨by rw [gN, gN]; exact ⟨o1, hn, o3⟩, ?_, ?_, by simp only [uA]; omega⟩
   ·have t1 : (vals m a ++ (vals m q ++ vals m b)).take o = vals m a := List.take_left' (by omega)
    have t2 : (vals m a ++ (vals m q ++ vals m b)).drop (o + lX new) = vals m b := by
     rw [← List.append_assoc]; exact List.drop_left' (by rw [List.length_append]; omega)
    rw [dB, dB, dB, dB, t1, t2]
   ·rw [dB, dB]; simp only [List.length_append]; omega
  ·cases h
 ·cases h
theorem isLit_go {k : IntKind} : ∀ {xs : List Int} {n : Nat} {vs q : List Value}, isLit.go k xs n vs = some q → vs = xs.map (Value.int k) ++ q ∧ xs.length = n := by
 intro xs
 induction xs with
 |nil =>
  intro n vs q h
  cases n with
  |zero => cases h; exact ⟨rfl, rfl⟩
  |succ n => cases h
 |cons x xs ih =>
  intro n vs q h
  cases n with
  |zero => cases h
  |succ n =>
   cases vs with
   |nil => cases h
   |cons v vs =>
    cases v with
    |int k' y =>
     unfold isLit.go at h
     obtain ⟨h0, h1⟩ := dY h
     rw [Bool.and_eq_true] at h0
     obtain rfl := of_decide_eq_true h0.1
     obtain rfl := eq_of_beq h0.2
     obtain ⟨e, l⟩ := ih h1
     exact ⟨by rw [e]; rfl, by simp [l]⟩
    |_ => cases h
theorem isLit_v (m : Nat → Nat) (N : Nat) {s : S} {vs q : List Value} (h : isLit s vs = some q) : vs = s.v m ++ q ∧ s.ok N := by
 unfold isLit at h
 split at h
 ·obtain ⟨h0, h1⟩ := dY h
  cases h1
  rw [Bool.and_eq_true] at h0
  obtain rfl := of_decide_eq_true h0.1
  obtain rfl := eq_of_beq h0.2
  exact ⟨rfl, trivial⟩
 ·cases h; exact ⟨rfl, trivial⟩
 ·exact isLit_go h
 ·cases h
theorem vM (m : Nat → Nat) (N : Nat) {ss : List S} : ∀ {vs : List Value}, vD ss vs = true → vals m ss = vs ∧ oks N ss := by
 induction ss with
 |nil =>
  intro vs h
  cases vs with
  |nil => exact ⟨rfl, trivial⟩
  |cons v vs => cases h
 |cons s r ih =>
  intro vs h
  unfold vD at h
  split at h
  ·next q h1 =>
   obtain ⟨e, o⟩ := isLit_v m N h1
   obtain ⟨e', o'⟩ := ih h
   exact ⟨by rw [e, ← e']; rfl, o, o'⟩
  ·cases h

section
variable {P : Program}
theorem zeroS_v (m : Nat → Nat) (N : Nat) {t : Nat} {ss : List S} (h : jU P t = some ss) : oks N ss ∧ ∃ v, v.cells.toList = vals m ss ∧ ∀ w, (zeroValue t).run P w = .ok v w := by
 unfold jU at h
 split at h
 ·next i h1 =>
  split at h
  ·next v h2 =>
   split at h
   ·next ss' _ =>
    obtain ⟨h3, h4⟩ := dY h
    cases h4
    obtain ⟨e, o⟩ := vM m N h3
    exact ⟨o, v, e.symm, fun w => by simp [zeroValue, typeInfo, h1, h2]⟩
   ·cases h
  ·cases h
 ·cases h
theorem eB {t n : Nat} (h : fI P t = some n) (w : World) : (sizeOf t).run P w = .ok n w := by
 unfold fI at h
 split at h
 ·next i h1 => cases h; simp [sizeOf, typeInfo, h1]
 ·cases h
theorem iW {t n : Nat} (h : fI P t = some n) : (P.info? t).map (·.size) = some n := by
 unfold fI at h
 split at h
 ·next i h1 => cases h; rw [h1]; rfl
 ·cases h
theorem fF {t : Nat} {b : Bool} (h : fZ P t = some b) (w : World) : (isAgg t).run P w = .ok b w := by
 unfold fZ at h
 cases hu : P.underlying t with
 |none => rw [hu] at h; cases h
 |some d =>
  rw [hu] at h
  cases d <;> cases h <;> simp [isAgg, underlying, hu]
theorem qG (m : Nat → Nat) {N : Nat} {t o : Nat} {ss : List S} {v : PV} (ho : oks N ss) (h : nD P t ss o = some v) : v.ok N ∧ ∀ w, (part t (vals m ss).toArray o).run P w = .ok (v.v m) w := by
 unfold nD at h
 split at h
 ·next n h1 h2 =>
  split at h
  ·next r h3 =>
   cases h
   obtain ⟨a, b, c, d⟩ := sub_v m ho h3
   refine ⟨a, fun w => ?_⟩
   have h1 := fF h1
   have h2 := eB h2
   simp [part, h1, h2, PV.v]
   exact c.symm
  ·cases h
 ·next n h1 h2 =>
  split at h
  ·next c h3 =>
   cases h
   obtain ⟨a, b⟩ := uS m ho h3
   have h1 := fF h1
   exact ⟨a, fun w => by simp [part, h1, b, PV.v]⟩
  ·cases h
 ·cases h
end
/- What yields a value yields it whatever the memory. -/

section
variable {P : Program}
theorem iC {t o : Nat} {vs : List Value} {v : Value} (ha : fZ P t = some false) (h : vs[o]? = some v) (w : World) : (part t vs.toArray o).run P w = .ok v w := by
 have ha := fF ha
 simp [part, ha, h]
theorem eqF_v (m : Nat → Nat) {d : Nat} {fs : List Field} : ∀ {i : Nat} {a b : List S} {e : Bool} (pa pb : List Value), pa.length = i → pb.length = i → eqF P fs i a b = some e →
  ∀ w, (Op.eqFields (d + 1) (pa ++ vals m a).toArray (pb ++ vals m b).toArray fs).run P w = .ok e w := by
 induction fs with
 |nil =>
  intro i a b e pa pb _ _ h w
  unfold eqF at h
  split at h
  ·cases h
   have : pa ++ vals m [] = pa := by simp [vals]
   exact eqf_nil
  ·cases h
 |cons f fs ih =>
  intro i a b e pa pb la lb h w
  unfold eqF at h
  split at h
  ·next k x r k' y q =>
   split at h
   ·next kk hu =>
    split at h
    ·next t ht =>
     obtain ⟨h4, h5⟩ := dY h
     cases h5
     simp only [Bool.and_eq_true] at h4
     obtain ⟨⟨h6, h7⟩, h8⟩ := h4
     obtain rfl := of_decide_eq_true h8
     have h7 := Nat.eq_of_beq_eq_true h7
     have hag : fZ P f.type = some false := by simp [fZ, hu]
     have e1 : ∀ (p : List Value) (z : IE) (s : List S), p ++ vals m (.c (.i k z) :: s) = (p ++ [Value.int k z.d]) ++ vals m s := fun p z s => by simp [vals, S.v, C.v]
     refine eqf_cons (by simpa using h6) (iC hag (v := .int k x.d) ?_ w) (iC hag (v := .int k y.d) ?_ w) (run_equalIn_int w _ _ _ _ _ _ hu) ?_
     ·rw [h7, e1, List.getElem?_append_left (by simp; omega), List.getElem?_append_right (by omega), la, Nat.sub_self]; rfl
     ·rw [h7, e1, List.getElem?_append_left (by simp; omega), List.getElem?_append_right (by omega), lb, Nat.sub_self]; rfl
     ·rw [e1, e1]
      exact ih (pa ++ [Value.int k x.d]) (pb ++ [Value.int k y.d]) (by simp [la]) (by simp [lb]) ht w
    ·cases h
   ·cases h
  ·next x r y q =>
   split at h
   ·next hu =>
    split at h
    ·next t ht =>
     obtain ⟨h4, h5⟩ := dY h
     cases h5
     simp only [Bool.and_eq_true] at h4
     obtain ⟨h6, h7⟩ := h4
     have h7 := Nat.eq_of_beq_eq_true h7
     have hag : fZ P f.type = some false := by simp [fZ, hu]
     have e1 : ∀ (p : List Value) (z : BE) (s : List S), p ++ vals m (.c (.b z) :: s) = (p ++ [Value.bool z.d]) ++ vals m s := fun p z s => by simp [vals, S.v, C.v]
     refine eqf_cons (by simpa using h6) (iC hag (v := .bool x.d) ?_ w) (iC hag (v := .bool y.d) ?_ w) (run_equalIn_bool' w _ _ _ _ hu) ?_
     ·rw [h7, e1, List.getElem?_append_left (by simp; omega), List.getElem?_append_right (by omega), la, Nat.sub_self]; rfl
     ·rw [h7, e1, List.getElem?_append_left (by simp; omega), List.getElem?_append_right (by omega), lb, Nat.sub_self]; rfl
     ·rw [e1, e1]
      exact ih (pa ++ [Value.bool x.d]) (pb ++ [Value.bool y.d]) (by simp [la]) (by simp [lb]) ht w
    ·cases h
   ·cases h
  ·cases h
theorem oH (m : Nat → Nat) {k : IntKind} {ss : List S} : ∀ {xs : List Int}, rD k ss = some xs → vals m ss = xs.map (Value.int k) := by
 induction ss with
 |nil => intro xs h; cases h; rfl
 |cons s r ih =>
  intro xs h
  cases s with
  |c u =>
   cases u with
   |i k' x =>
    unfold rD at h
    split at h
    ·next ys hy =>
     obtain ⟨h1, h2⟩ := dY h
     cases h2
     obtain rfl := of_decide_eq_true h1
     simp [vals, S.v, C.v, ih hy]
    ·cases h
   |_ => cases h
  |a k' zs n =>
   unfold rD at h
   split at h
   ·next ys hy =>
    obtain ⟨h1, h2⟩ := dY h
    cases h2
    obtain rfl := of_decide_eq_true h1
    simp [vals, S.v, ih hy]
   ·cases h
theorem zX {e : Nat} {k k0 : IntKind} (hu : P.underlying e = some (.int k0)) (xs ys : List Int) {d : Nat} (w : World) : ∀ (n i : Nat), i + n = xs.length → i + n = ys.length →
  (Op.eqItems (d + 1) e 1 (xs.map (Value.int k)).toArray (ys.map (Value.int k)).toArray (List.range' i n)).run P w = .ok (xs.drop i == ys.drop i) w := by
 have hag : fZ P e = some false := by simp [fZ, hu]
 intro n
 induction n with
 |zero =>
  intro i hx hy
  rw [List.drop_eq_nil_of_le (by omega), List.drop_eq_nil_of_le (by omega)]
  simp [Op.eqItems]
 |succ n ih =>
  intro i hx hy
  have hi : i < xs.length := by omega
  have hj : i < ys.length := by omega
  have p1 : (part e (xs.map (Value.int k)).toArray i).run P w = .ok (.int k xs[i]) w := iC hag (by rw [List.getElem?_map, List.getElem?_eq_getElem hi]; rfl) w
  have p2 : (part e (ys.map (Value.int k)).toArray i).run P w = .ok (.int k ys[i]) w := iC hag (by rw [List.getElem?_map, List.getElem?_eq_getElem hj]; rfl) w
  have p3 := run_equalIn_int (P := P) w d e k k0 xs[i] ys[i] hu
  have hr := ih (i + 1) (by omega) (by omega)
  rw [List.range'_succ, List.drop_eq_getElem_cons hi, List.drop_eq_getElem_cons hj]
  simp only [Op.eqItems, Nat.mul_one, Sem.run_bind, p1, p2, p3, Result.andThen_ok]
  generalize xs[i] = x
  generalize ys[i] = y
  generalize xs.drop (i + 1) = A at *
  generalize ys.drop (i + 1) = B at *
  rw [List.cons_beq_cons]
  by_cases c : x = y
  ·simp only [c, beq_self_eq_true, Bool.not_true, Bool.false_eq_true, if_false, Bool.true_and]; exact hr
  ·have : (x == y) = false := by simpa using c
   simp only [this, Bool.not_false, if_true, Bool.false_and]; rfl
theorem eqT_v (m : Nat → Nat) {N t : Nat} {a b : List S} {e : Bool} (oa : oks N a) (ob : oks N b) (h : eqT P t a b = some e) : P.eqGuardType P.depth t = false ∧ ∀ w, (Op.equalIn 10000 t (.agg (vals m a).toArray) (.agg (vals m b).toArray)).run P w = .ok e w := by
 unfold eqT at h
 split at h
 ·next fs hu =>
  obtain ⟨h1, h2⟩ := dY h
  simp only [Bool.and_eq_true, Bool.not_eq_true'] at h1
  refine ⟨h1.2, fun w => eqA_of (d := 9999) hu h1.1 ?_⟩
  exact eqF_v m (d := 9998) [] [] rfl rfl h2 w
 ·next n e' hu =>
  split at h
  ·next k hk hs =>
   obtain ⟨h1, h2⟩ := dY h
   simp only [Bool.not_eq_true'] at h1
   split at h2
   ·next xs ys hx hy =>
    obtain ⟨h3, h4⟩ := dY h2
    cases h4
    rw [Bool.and_eq_true] at h3
    have l1 : xs.length = n := by
     have h5 := bB m a oa
     rw [oH m hx, List.length_map] at h5
     exact h5.trans (Nat.eq_of_beq_eq_true h3.1)
    have l2 : ys.length = n := by
     have h5 := bB m b ob
     rw [oH m hy, List.length_map] at h5
     exact h5.trans (Nat.eq_of_beq_eq_true h3.2)
    refine ⟨h1, fun w => ?_⟩
    rw [oH m hx, oH m hy]
    have hc : P.cellsOf e' = 1 := by
     have := iW hs
     unfold Program.cellsOf
     cases hq : P.info? e' with
     |none => rw [hq] at this; cases this
     |some i => rw [hq] at this; simpa using this
    have hsome : ∃ i, P.info? e' = some i := by
     have := iW hs
     cases hq : P.info? e' with
     |none => rw [hq] at this; cases this
     |some i => exact ⟨i, rfl⟩
    obtain ⟨i, hi⟩ := hsome
    rw [run_equalIn_array w 9999 _ _ hu hi, hc, List.range_eq_range']
    have := zX (k := k) hk xs ys (d := 9998) w n 0 (by omega) (by omega)
    simpa using this
   ·cases h2
  ·cases h
 ·cases h
end
/- What yields a value yields it whatever the memory: each operation. -/

theorem qN (off : Nat) : ∀ (new : List Value) (k : Nat) (cells : Array Value), off + k + new.length ≤ cells.size →
  (new.zipIdx k).foldl (fun cs (x : Value × Nat) => cs.setIfInBounds (off + x.2) x.1) cells = (cells.toList.take (off + k) ++ (new ++ cells.toList.drop (off + k + new.length))).toArray := by
 intro new
 induction new with
 |nil => intro k cells h; simp
 |cons v new ih =>
  intro k cells h
  rw [List.length_cons] at h
  rw [List.zipIdx_cons, List.foldl_cons, ih (k + 1) _ (by rw [Array.size_setIfInBounds]; omega)]
  apply congrArg
  rw [Array.toList_setIfInBounds]
  have hl : off + k < cells.toList.length := by rw [Array.length_toList]; omega
  rw [List.drop_set_of_lt (by omega), show off + (k + 1) = off + k + 1 by omega, List.take_add_one, List.getElem?_set_self hl, List.take_set_of_le (Nat.le_refl _)]
  simp [Nat.add_assoc, Nat.add_comm 1]
theorem j5 {place : Nat → Option (Nat × Nat)} {cells : Array Value} {i off size : Nat} {v : Value} {rest : List (Nat × Value)} (hp : place i = some (off, size)) (h1 : v.cells.size = size) (h2 : off + v.cells.size ≤ cells.size) :
  Instr.fill place cells ((i, v) :: rest) = Instr.fill place ((v.cells.toList.zipIdx 0).foldl (fun cs (x : Value × Nat) => cs.setIfInBounds (off + x.2) x.1) cells) rest := by
 have h3 : ¬ (v.cells.size ≠ size || off + v.cells.size > cells.size) = true := by
  simp only [Bool.or_eq_true, decide_eq_true_eq, not_or, Decidable.not_not]
  exact ⟨h1, by omega⟩
 rw [Instr.fill, hp]
 dsimp only
 rw [if_neg h3, ← Array.foldl_toList]
 simp
section
variable {P : Program}
theorem eQ (m : Nat → Nat) (N : Nat) {t : Nat} {ss : List S} (h : jU P t = some ss) : oks N ss ∧ ∃ i v, P.info? t = some i ∧ i.zero = some v ∧ v.cells = (vals m ss).toArray := by
 unfold jU at h
 split at h
 ·next i h1 =>
  split at h
  ·next v h2 =>
   split at h
   ·next ss' _ =>
    obtain ⟨h3, h4⟩ := dY h
    cases h4
    obtain ⟨e, o⟩ := vM m N h3
    exact ⟨o, i, v, h1, h2, by rw [e]⟩
   ·cases h
  ·cases h
 ·cases h
theorem mH {m : Nat → Nat} {N : Nat} {env : List (Nat × SV)} {a : Act} (hk : Knows m N env a) {places : List (Nat × Nat)} {pl : Nat → Option (Nat × Nat)} (hpl : ∀ j x, places[j]? = some x → pl j = some x) {ps : List (Nat × Operand)} : ∀ {ss ss' : List S}, oks N ss → kU env places ss ps = some ss' →
  oks N ss' ∧ Instr.fill pl (vals m ss).toArray (ps.map fun x => (x.1, a.eval x.2)) = some (vals m ss').toArray := by
 induction ps with
 |nil => intro ss ss' ho h; cases h; exact ⟨ho, rfl⟩
 |cons p r ih =>
  obtain ⟨j, x⟩ := p
  intro ss ss' ho h
  unfold kU at h
  split at h
  ·next o c h1 h2 =>
   split at h
   ·next s1 h3 =>
    obtain ⟨ok, e⟩ := fE hk h2
    obtain ⟨o1, v1, l1, _⟩ := yN m ho ok h3
    obtain ⟨o2, f2⟩ := ih o1 h
    refine ⟨o2, ?_⟩
    have hp : pl j = some (o, 1) := hpl _ _ h1
    have e' : a.eval x = c.v m := e
    rw [List.map_cons, j5 (v := a.eval x) hp (by rw [e', C.cells]; rfl) (by rw [e', C.cells]; simp; omega), e', C.cells, ← f2, v1]
    show Instr.fill _ ((vals m ss).toArray.setIfInBounds (o + 0) (c.v m)) _ = _
    rw [Nat.add_zero, List.setIfInBounds_toArray]
   ·cases h
  ·next _ o n new h1 h2 =>
   obtain ⟨h3, h4⟩ := dY h
   have h3 := Nat.eq_of_beq_eq_true h3
   split at h4
   ·next s1 h5 =>
    obtain ⟨ok, e⟩ := fE hk h2
    obtain ⟨o1, v1, l1, _⟩ := vC m ho ok h5
    obtain ⟨o2, f2⟩ := ih o1 h4
    refine ⟨o2, ?_⟩
    have hp : pl j = some (o, n) := hpl _ _ h1
    have e' : a.eval x = .agg (vals m new).toArray := e
    have hl := bB m new ok
    have h6 : (Value.agg (vals m new).toArray).cells.toList = vals m new := rfl
    have h7 : (Value.agg (vals m new).toArray).cells.size = n := by show (vals m new).toArray.size = n; rw [List.size_toArray]; omega
    rw [List.map_cons, j5 (v := a.eval x) hp (by rw [e']; exact h7) (by rw [e', h7, List.size_toArray]; omega), e', h6, ← f2, v1]
    have := qN o (vals m new) 0 (vals m ss).toArray (by simp; omega)
    simp only [Nat.add_zero] at this
    rw [this, hl]
   ·cases h4
  ·cases h
theorem gH {s : Sem Value} {x : Value} {w w' : World} (h : s.run P w = .ok x w') : (do let y ← s; pure (Next.value y) : Sem Next).run P w = .ok (.value x) w' := by
 simp [h]
theorem oI {R : Type} {o : Oper} {env : List (Nat × SV)} {K : SV → Option R} {r : R} {m : Nat → Nat} {N : Nat} {a : Act} (hk : Knows m N env a) (h : mX P o.op env K = some r) :
  ∃ v, K v = some r ∧ v.ok N ∧ ∀ w, (execOp a.eval o).run P w = .ok (.value (v.v m)) w := by
 obtain ⟨dst, op, ty, pos, after, guard⟩ := o
 simp only at h
 unfold mX at h
 split at h
 ·next x =>
  split at h
  ·next v hv =>
   obtain ⟨ok, e⟩ := fE hk hv
   exact ⟨v, h, ok, fun w => by simp [execOp, e]⟩
  ·cases h
 ·next x =>
  split at h
  ·next v hv =>
   obtain ⟨ok, e⟩ := fE hk hv
   exact ⟨v, h, ok, fun w => by simp [execOp, e]⟩
  ·cases h
 ·next c x y =>
  split at h
  ·next b hb =>
   obtain ⟨_, eb⟩ := fE hk hb
   have eb' : a.eval c = .bool b.d := eb
   rw [BE.yB] at h
   split at h
   ·next hd =>
    split at h
    ·next v hv =>
     obtain ⟨ok, e⟩ := fE hk hv
     exact ⟨v, h, ok, fun w => by simp [execOp, eb', asBool, hd, e]⟩
    ·cases h
   ·next hd =>
    split at h
    ·next v hv =>
     obtain ⟨ok, e⟩ := fE hk hv
     exact ⟨v, h, ok, fun w => by simp [execOp, eb', asBool, hd, e]⟩
    ·cases h
  ·cases h
 ·next bo t x y yt =>
  split at h
  ·next k x1 k' y1 hx hy =>
   obtain ⟨_, ex⟩ := fE hk hx
   obtain ⟨_, ey⟩ := fE hk hy
   have ex' : a.eval x = .int k x1.d := ex
   have ey' : a.eval y = .int k' y1.d := ey
   obtain ⟨c, h1, h2, h3⟩ := aAl P t m N h
   exact ⟨_, h1, h2, fun w => gH (by simp [ex', ey', eqGuard_at_int, h3, SV.v, PV.v])⟩
  ·next x1 y1 hx hy =>
   obtain ⟨_, ex⟩ := fE hk hx
   obtain ⟨_, ey⟩ := fE hk hy
   have ex' : a.eval x = .bool x1.d := ex
   have ey' : a.eval y = .bool y1.d := ey
   split at h
   ·next hu =>
    have hb : ∀ w, (Op.equal t (.bool x1.d) (.bool y1.d)).run P w = .ok (x1.d == y1.d) w := fun w => run_equalIn_bool' w 9999 t _ _ hu
    split at h
    ·exact ⟨_, h, trivial, fun w => gH (by simp [ex', ey', eqGuard_at_bool, binOp, hb, SV.v, PV.v, C.v, eqB_d])⟩
    ·exact ⟨_, h, trivial, fun w => gH (by simp [ex', ey', eqGuard_at_bool, binOp, hb, SV.v, PV.v, C.v, eqB_d, BE.o7])⟩
    ·cases h
   ·cases h
  ·next x1 y1 hx hy =>
   obtain ⟨ox, ex⟩ := fE hk hx
   obtain ⟨oy, ey⟩ := fE hk hy
   have ex' : a.eval x = .agg (vals m x1).toArray := ex
   have ey' : a.eval y = .agg (vals m y1).toArray := ey
   split at h
   ·next e he =>
    obtain ⟨g, hq⟩ := eqT_v m (ox : oks _ x1) (oy : oks _ y1) he
    split at h
    ·exact ⟨_, h, trivial, fun w => gH (by simp only [ex', ey', Sem.run_bind, run_eqGuard_agg w _ t x y _ _ g, Result.andThen_ok, run_eql_struct, hq]; rfl)⟩
    ·exact ⟨_, h, trivial, fun w => gH (by simp only [ex', ey', Sem.run_bind, run_eqGuard_agg w _ t x y _ _ g, Result.andThen_ok, run_neq_struct, hq]; rfl)⟩
    ·cases h
   ·cases h
  ·cases h
 ·next uo ut x =>
  split at h
  ·next k x1 hx =>
   obtain ⟨_, ex⟩ := fE hk hx
   have ex' : a.eval x = .int k x1.d := ex
   exact ⟨_, h, trivial, fun w => gH (by simp [ex', Op.unary, Op.intArith, SV.v, PV.v, C.v, IE.pF, dR])⟩
  ·next k x1 hx =>
   obtain ⟨_, ex⟩ := fE hk hx
   have ex' : a.eval x = .int k x1.d := ex
   exact ⟨_, h, trivial, fun w => gH (by simp [ex', Op.unary, Op.intBits, Go.bits, SV.v, PV.v, C.v, IE.pF])⟩
  ·next x1 hx =>
   obtain ⟨_, ex⟩ := fE hk hx
   have ex' : a.eval x = .bool x1.d := ex
   exact ⟨_, h, trivial, fun w => gH (by simp [ex', Op.unary, SV.v, PV.v, C.v, BE.o7])⟩
  ·cases h
 ·next src dst' x =>
  split at h
  ·next d1 k k1 x1 hs hd hx =>
   obtain ⟨_, ex⟩ := fE hk hx
   have ex' : a.eval x = .int k1 x1.d := ex
   exact ⟨_, h, trivial, fun w => gH (by simp [ex', convert, underlying, hs, hd, Conv.intToInt, SV.v, PV.v, C.v, IE.pF, dR])⟩
  ·cases h
 ·next t x f =>
  split at h
  ·next fs g o hu hx =>
   obtain ⟨ok, ex⟩ := fE hk hx
   have ex' : a.eval x = .pointer (some ⟨m g, o, none⟩) := ex
   split at h
   ·next fd hf =>
    split at h
    ·next z hz =>
     have hz' := eB hz
     refine ⟨_, h, ok, fun w => gH ?_⟩
     have : (⟨m g, o, none⟩ : Addr).add fd.offset = ⟨m g, o + fd.offset, none⟩ := by unfold Addr.add; split <;> simp_all
     simp [ex', Instr.fieldAt, Instr.sureAddr, fieldPlace, underlying, hu, hf, hz', SV.v, PV.v, C.v, this]
    ·cases h
   ·cases h
  ·cases h
 ·next t x f =>
  split at h
  ·next fs ss hu hx =>
   obtain ⟨ok, ex⟩ := fE hk hx
   have ex' : a.eval x = .agg (vals m ss).toArray := ex
   split at h
   ·next fd hf =>
    split at h
    ·next v hv =>
     obtain ⟨o1, e1⟩ := qG m ok hv
     exact ⟨_, h, o1, fun w => gH (by simp [ex', Instr.field, asAgg, underlying, hu, hf, e1, SV.v])⟩
    ·cases h
   ·cases h
  ·cases h
 ·next t x i =>
  split at h
  ·next n e g o k j hu hx hi =>
   obtain ⟨ok, ex⟩ := fE hk hx
   obtain ⟨_, ei⟩ := fE hk hi
   have ex' : a.eval x = .pointer (some ⟨m g, o, none⟩) := ex
   have ei' : a.eval i = .int k j := ei
   split at h
   ·next z hz =>
    obtain ⟨h1, h2⟩ := dY h
    rw [Bool.and_eq_true] at h1
    have g1 := of_decide_eq_true h1.1
    have g2 := of_decide_eq_true h1.2
    have hz' := eB hz
    have : (⟨m g, o, none⟩ : Addr).add (j.toNat * z) = ⟨m g, o + j.toNat * z, none⟩ := by unfold Addr.add; split <;> simp_all
    exact ⟨_, h2, ok, fun w => gH (by simp [ex', ei', Instr.indexAt, Instr.sureAddr, asIntOf, underlying, hu, hz', g1, g2, this, SV.v, PV.v, C.v])⟩
   ·cases h
  ·next n e g o k j hu hx hi =>
   obtain ⟨ok, ex⟩ := fE hk hx
   obtain ⟨_, ei⟩ := fE hk hi
   have ex' : a.eval x = .pointer (some ⟨m g, o, none⟩) := ex
   have ei' : a.eval i = .int k j := ei
   split at h
   ·next hz =>
    split at h
    ·next g1 =>
     split at h
     ·next g2 =>
      have hz' := eB hz
      have : (⟨m g, o, none⟩ : Addr).add j.toNat = ⟨m g, o + j.toNat, none⟩ := by unfold Addr.add; split <;> simp_all
      exact ⟨_, h, ⟨ok, g1, g2⟩, fun w => gH (by simp [ex', ei', Instr.indexAt, Instr.sureAddr, asIntOf, underlying, hu, hz', g1, g2, this, SV.v, PV.v, C.v])⟩
     ·cases h
    ·cases h
   ·cases h
  ·next e g o n c k j hu hx hi =>
   obtain ⟨ok, ex⟩ := fE hk hx
   obtain ⟨_, ei⟩ := fE hk hi
   have ex' : a.eval x = .slice (some ⟨m g, o, none⟩) n c := ex
   have ei' : a.eval i = .int k j.d := ei
   split at h
   ·next hz =>
    split at h
    ·next g1 =>
     split at h
     ·next g2 =>
      have hz' := eB hz
      have : (⟨m g, o, none⟩ : Addr).add j.d.toNat = ⟨m g, o + j.d.toNat, none⟩ := by unfold Addr.add; split <;> simp_all
      exact ⟨_, h, ⟨ok, g1, g2⟩, fun w => gH (by simp [ex', ei', Instr.indexAt, Instr.sureAddr, asIntOf, underlying, hu, hz', g1, g2, this, SV.v, PV.v, C.v])⟩
     ·cases h
    ·cases h
   ·cases h
  ·cases h
 ·next t x i =>
  split at h
  ·next n e ss k j hu hx hi =>
   obtain ⟨ok, ex⟩ := fE hk hx
   obtain ⟨_, ei⟩ := fE hk hi
   have ex' : a.eval x = .agg (vals m ss).toArray := ex
   have ei' : a.eval i = .int k j.d := ei
   split at h
   ·next k1 xs n1 ha =>
    obtain ⟨h0, h1⟩ := dY h
    have h0 := Nat.eq_of_beq_eq_true h0
    split at h1
    ·next hz =>
     split at h1
     ·next g1 =>
      split at h1
      ·next g2 =>
       have hl : xs.length = n1 := ok.1
       have hz' := eB hz
       have hp := iC (P := P) (vs := vals m [.a k1 xs n1]) (v := .int k1 (rd xs j.d)) (o := j.d.toNat) ha (by
        have : j.d.toNat < xs.length := by omega
        show (xs.map (Value.int k1) ++ [])[j.d.toNat]? = some (.int k1 (xs.getD j.d.toNat 0))
        rw [List.append_nil, List.getElem?_map, List.getD_eq_getElem?_getD, List.getElem?_eq_getElem this]; rfl)
       have dx : ∀ n : Int, IE.d (.x n) = n := fun _ => rfl
       exact ⟨_, h1, trivial, fun w => gH (by simp [ex', ei', Instr.index, asIntOf, underlying, hu, hz', g1, g2, hp, SV.v, PV.v, C.v, dx])⟩
      ·cases h1
     ·cases h1
    ·cases h1
   ·cases h
  ·cases h
 ·next x i =>
  split at h
  ·next vs hx =>
   obtain ⟨ok, ex⟩ := fE hk hx
   have ex' : a.eval x = .tuple (vs.map (PV.v m)).toArray := ex
   split at h
   ·next v hv =>
    refine ⟨_, h, ok v (List.mem_of_getElem? hv), fun w => gH ?_⟩
    simp [ex', Instr.extract, hv, SV.v]
   ·cases h
  ·cases h
 ·next x =>
  split at h
  ·next g o hx =>
   obtain ⟨ok, ex⟩ := fE hk hx
   have ex' : a.eval x = .pointer (some ⟨m g, o, none⟩) := ex
   exact ⟨_, h, ok, fun w => by simp [execOp, ex', SV.v, PV.v, C.v]⟩
  ·cases h
 ·next t ps =>
  split at h
  ·next fs ss hu hz =>
   split at h
   ·next places hp =>
    split at h
    ·next ss' hf =>
     obtain ⟨o0, i0, v0, hi, hz0, hc⟩ := eQ m N hz
     obtain ⟨o1, f1⟩ := mH hk (pl := (places.toArray[·]?)) (fun j x hx => by simpa using hx) o0 hf
     refine ⟨_, h, o1, fun w => gH (run_build w t _ _ ?_)⟩
     unfold Program.built
     simp only [hi, hu, hz0, hp]
     rw [hc, ← f1]
     congr 1
     simp
    ·cases h
   ·cases h
  ·next n e ss hu hz =>
   split at h
   ·next ie hie =>
    split at h
    ·next ss' hf =>
     obtain ⟨o0, i0, v0, hi, hz0, hc⟩ := eQ m N hz
     obtain ⟨o1, f1⟩ := mH hk (pl := fun i => some (i * ie.size, ie.size)) (fun j x hx => by
      rw [List.getElem?_map] at hx
      obtain ⟨y, hy, rfl⟩ := Option.map_eq_some_iff.mp hx
      have hj : y = j := by
       obtain ⟨hlt, he⟩ := List.getElem?_eq_some_iff.1 hy
       rw [List.getElem_range] at he; exact he.symm
      subst hj
      rfl) o0 hf
     refine ⟨_, h, o1, fun w => gH (run_build w t _ _ ?_)⟩
     unfold Program.built
     simp only [hi, hu, hz0, hie]
     rw [hc, ← f1]
     congr 1
     simp
    ·cases h
   ·cases h
  ·cases h
 ·next args argTypes =>
  split at h
  ·next t x h1 h2 =>
   split at h
   ·next e g o n c hu hx =>
    obtain ⟨ok, ex⟩ := fE hk hx
    have ex' : a.eval x = .slice (some ⟨m g, o, none⟩) n c := ex
    exact ⟨_, h, trivial, fun w => by simp [execOp, resolve, invoke, builtin, Builtin.len_, h1, h2, ex', underlying, hu, goInt, SV.v, PV.v, C.v, IE.d]⟩
   ·cases h
  ·cases h
 ·next args at' =>
  split at h
  ·next k x1 k' y1 hx =>
   obtain ⟨h1, h2⟩ := dY h
   obtain rfl := of_decide_eq_true h1
   obtain ⟨_, ex⟩ := pE hk hx
   refine ⟨_, h2, trivial, fun w => ?_⟩
   have e2 : args.map a.eval = #[.int k x1.d, .int k y1.d] := by
    apply Array.ext'
    rw [Array.toList_map, ex]; rfl
   simp [execOp, resolve, invoke, builtin, Builtin.min_, Builtin.min2, e2, SV.v, PV.v, C.v, IE.pF, mn]
  ·cases h
 ·next args at' =>
  split at h
  ·next k x1 k' y1 hx =>
   obtain ⟨h1, h2⟩ := dY h
   obtain rfl := of_decide_eq_true h1
   obtain ⟨_, ex⟩ := pE hk hx
   refine ⟨_, h2, trivial, fun w => ?_⟩
   have e2 : args.map a.eval = #[.int k x1.d, .int k y1.d] := by
    apply Array.ext'
    rw [Array.toList_map, ex]; rfl
   simp [execOp, resolve, invoke, builtin, Builtin.max_, Builtin.max2, e2, SV.v, PV.v, C.v, IE.pF, mx]
  ·cases h
 ·cases h
end
/- The reckoner's states stand for the machine's; each operation keeps that. -/

theorem C.dU {N N' : Nat} (h : N ≤ N') {c : C} (k : c.ok N) : c.ok N' := by
 cases c <;> first | exact Nat.lt_of_lt_of_le k h | exact ⟨Nat.lt_of_lt_of_le k.1 h, k.2⟩ | exact k
theorem S.dU {N N' : Nat} (h : N ≤ N') {s : S} (k : s.ok N) : s.ok N' := by
 cases s with
 |c u => exact C.dU h k
 |a => exact k
theorem fJ {N N' : Nat} (h : N ≤ N') {ss : List S} (k : oks N ss) : oks N' ss := by
 induction ss with
 |nil => trivial
 |cons s r ih => exact ⟨S.dU h k.1, ih k.2⟩
theorem PV.dU {N N' : Nat} (h : N ≤ N') {v : PV} (k : v.ok N) : v.ok N' := by
 cases v with
 |one c => exact C.dU h k
 |agg ss => exact fJ h k
theorem SV.dU {N N' : Nat} (h : N ≤ N') {v : SV} (k : v.ok N) : v.ok N' := by
 cases v with
 |pv u => exact PV.dU h k
 |tup vs => exact fun u hu => PV.dU h (k u hu)
 |und => trivial
section
variable {m m' : Nat → Nat} {N : Nat}
theorem C.eF (h : ∀ g, g < N → m' g = m g) {c : C} (k : c.ok N) : c.v m' = c.v m := by
 cases c with
 |p g o => show Value.pointer (some ⟨m' g, o, none⟩) = _; rw [h g k]; rfl
 |pd g o j n => show Value.pointer (some ⟨m' g, o + j.toNat, none⟩) = _; rw [h g k.1]; rfl
 |sl g o n c => show Value.slice (some ⟨m' g, o, none⟩) n c = _; rw [h g k]; rfl
 |_ => rfl
theorem eP (h : ∀ g, g < N → m' g = m g) {ss : List S} (k : oks N ss) : vals m' ss = vals m ss := by
 induction ss with
 |nil => rfl
 |cons s r ih =>
  have e : s.v m' = s.v m := by
   cases s with
   |c u => show [u.v m'] = [u.v m]; rw [C.eF h k.1]
   |a => rfl
  show s.v m' ++ vals m' r = s.v m ++ vals m r
  rw [e, ih k.2]
theorem PV.eF (h : ∀ g, g < N → m' g = m g) {v : PV} (k : v.ok N) : v.v m' = v.v m := by
 cases v with
 |one c => exact C.eF h k
 |agg ss => show Value.agg _ = Value.agg _; rw [eP h k]
theorem SV.eF (h : ∀ g, g < N → m' g = m g) {v : SV} (k : v.ok N) : v.v m' = v.v m := by
 cases v with
 |pv u => exact PV.eF h k
 |tup vs =>
  show Value.tuple _ = Value.tuple _
  congr 2
  exact List.map_congr_left fun u hu => PV.eF h (k u hu)
 |und => rfl
end

structure Rel (w0 : World) (nt : Nat) (m : Nat → Nat) (s : St) (a : Act) (w : World) : Prop where
 size : a.tmps.size = nt
 dfr : a.defers = []
 env : Knows m s.next s.env a
 heap : ∀ g e ss, look s.heap g = some (e, ss) → g < s.next ∧ oks s.next ss ∧ w.heap[m g]? = some (.cells (vals m ss).toArray e (0, 0)) ∧ w0.heap.size ≤ m g
 inj : ∀ g g', (look s.heap g).isSome = true → (look s.heap g').isSome = true → m g = m g' → g = g'
 bel : Below w0.heap.size w0 w

theorem nbeq {a b : Nat} (h : ¬ a = b) : Nat.beq a b = false := by
 cases hh : Nat.beq a b
 ·rfl
 ·exact absurd (Nat.eq_of_beq_eq_true hh) h
theorem dI {α : Type _} (k t : Nat) (v : α) (r : List (Nat × α)) : look ((k, v) :: r) t = if k = t then some v else look r t := by
 by_cases h : k = t
 ·subst h; simp [look]
 ·have : Nat.beq k t = false := nbeq h
  simp [look, this, h]
theorem gT {m : Nat → Nat} {N : Nat} {env : List (Nat × SV)} {a : Act} (hk : Knows m N env a) {d : Nat} (hd : d < a.tmps.size) {v : SV} (hv : v.ok N) : Knows m N ((d, v) :: env) (a.put (some d) (v.v m)) := by
 intro t u h
 rw [dI] at h
 show u.ok N ∧ (a.tmps.setIfInBounds d (v.v m)).getD t undef = u.v m
 by_cases c : d = t
 ·rw [if_pos c] at h
  cases h
  subst c
  exact ⟨hv, by simp [hd]⟩
 ·rw [if_neg c] at h
  obtain ⟨o, e⟩ := hk t u h
  refine ⟨o, ?_⟩
  rw [← e]
  simp [Array.getD_eq_getD_getElem?, Array.getElem?_setIfInBounds_ne c]
theorem okD_lt {nt d : Nat} (h : okD nt (some d) = true) : d < nt := Nat.le_of_ble_eq_true h
theorem Rel.put {w0 : World} {nt : Nat} {m : Nat → Nat} {s : St} {a : Act} {w : World} (h : Rel w0 nt m s a w) {d : Option Nat} (hd : okD nt d = true) {v : SV} (hv : v.ok s.next) : Rel w0 nt m (s.put d v) (a.put d (v.v m)) w := by
 cases d with
 |none => exact h
 |some d =>
  have hl := okD_lt hd
  exact ⟨by show (a.tmps.setIfInBounds d _).size = nt; rw [Array.size_setIfInBounds]; exact h.size, h.dfr, gT h.env (by rw [h.size]; exact hl) hv, h.heap, h.inj, h.bel⟩
theorem Rel.grow {w0 : World} {nt : Nat} {m : Nat → Nat} {s : St} {a : Act} {w w' : World} (h : Rel w0 nt m s a w) (hb : Below w.heap.size w w') : Rel w0 nt m s a w' :=
 ⟨h.size, h.dfr, h.env, fun g e ss hg => by
  obtain ⟨a1, a2, a3, a4⟩ := h.heap g e ss hg
  exact ⟨a1, a2, (hb.block _ (blk_lt a3)).trans a3, a4⟩, h.inj, below_then h.bel h.bel.size hb⟩
theorem Rel.new {w0 : World} {nt : Nat} {m : Nat → Nat} {s : St} {a : Act} {w : World} (h : Rel w0 nt m s a w) {d : Option Nat} (hd : okD nt d = true) {e : Nat} {ss : List S} (ho : oks s.next ss) {v : C}
  (hv : v.ok (s.next + 1)) :
  Rel w0 nt (fun g => if g = s.next then w.heap.size else m g) ⟨match d with
   |some d => (d, .pv (.one v)) :: s.env
   |none => s.env, (s.next, e, ss) :: s.heap, s.next + 1⟩ (a.put d (v.v (fun g => if g = s.next then w.heap.size else m g))) (w.alloc (.cells (vals m ss).toArray e (0, 0))) := by
 have hm : ∀ g, g < s.next → (fun g => if g = s.next then w.heap.size else m g) g = m g := fun g hg => if_neg (Nat.ne_of_lt hg)
 have hk : Knows (fun g => if g = s.next then w.heap.size else m g) (s.next + 1) s.env a := fun t u hu => by
  obtain ⟨o, e⟩ := h.env t u hu
  exact ⟨SV.dU (Nat.le_succ _) o, by rw [e, SV.eF hm o]⟩
 have hlt : ∀ g, (look s.heap g).isSome = true → g < s.next ∧ m g < w.heap.size := fun g hg => by
  obtain ⟨⟨e, ss⟩, he⟩ := Option.isSome_iff_exists.mp hg
  obtain ⟨a1, a2, a3, a4⟩ := h.heap g e ss he
  exact ⟨a1, blk_lt a3⟩
 refine ⟨?_, ?_, ?_, ?_, ?_, below_then h.bel h.bel.size (below_alloc (Below.refl _ _) _)⟩
 ·cases d with
  |none => exact h.size
  |some d => show (a.tmps.setIfInBounds d _).size = nt; rw [Array.size_setIfInBounds]; exact h.size
 ·cases d with
  |none => exact h.dfr
  |some d => exact h.dfr
 ·cases d with
  |none => exact hk
  |some d => exact gT (v := .pv (.one v)) hk (by rw [h.size]; exact okD_lt hd) hv
 ·intro g e' ss' hg
  rw [dI] at hg
  by_cases c : s.next = g
  ·rw [if_pos c] at hg
   cases hg
   subst c
   refine ⟨Nat.lt_succ_self _, fJ (Nat.le_succ _) ho, ?_, ?_⟩
   ·rw [eP hm ho]
    simp only [if_true]
    exact blk_new w _
   ·simp only [if_true]
    exact h.bel.size
  ·rw [if_neg c] at hg
   obtain ⟨a1, a2, a3, a4⟩ := h.heap g e' ss' hg
   refine ⟨Nat.lt_succ_of_lt a1, fJ (Nat.le_succ _) a2, ?_, ?_⟩
   ·rw [eP hm a2]
    simp only [if_neg (Ne.symm c)]
    exact blk_alloc a3 _
   ·simp only [if_neg (Ne.symm c)]
    exact a4
 ·intro g g' h1 h2 h3
  simp only [dI] at h1 h2
  by_cases c : s.next = g
  ·by_cases c' : s.next = g'
   ·omega
   ·rw [if_neg c'] at h2
    have := hlt g' h2
    simp only [if_pos c.symm, if_neg (Ne.symm c')] at h3
    omega
  ·rw [if_neg c] at h1
   by_cases c' : s.next = g'
   ·have := hlt g h1
    simp only [if_neg (Ne.symm c), if_pos c'.symm] at h3
    omega
   ·rw [if_neg c'] at h2
    simp only [if_neg (Ne.symm c), if_neg (Ne.symm c')] at h3
    exact h.inj g g' h1 h2 h3
theorem vX {α : Type _} {l : List (Nat × α)} {g : Nat} {u : α} : ∀ t, look (upd l g u) t = if t = g ∧ (look l g).isSome = true then some u else look l t := by
 induction l with
 |nil => intro t; simp [upd, look]
 |cons p r ih =>
  obtain ⟨k, v⟩ := p
  intro t
  by_cases c : k = g
  ·subst c
   have e : upd ((k, v) :: r) k u = (k, u) :: r := by simp [upd]
   rw [e, dI, dI, dI]
   by_cases c' : k = t
   ·simp [c']
   ·simp [c', Ne.symm c']
  ·have hb : Nat.beq k g = false := nbeq c
   have e : upd ((k, v) :: r) g u = (k, v) :: upd r g u := by simp [upd, hb]
   rw [e, dI, dI, dI, ih t]
   by_cases c' : k = t
   ·subst c'; simp [c]
   ·simp [c', c]
theorem Rel.write {w0 : World} {nt : Nat} {m : Nat → Nat} {s : St} {a : Act} {w w' : World} (h : Rel w0 nt m s a w) {g e : Nat} {ss ss' : List S} (hg : look s.heap g = some (e, ss)) (ho : oks s.next ss')
  (h1 : w'.heap[m g]? = some (.cells (vals m ss').toArray e (0, 0))) (h2 : ∀ k, k ≠ m g → w'.heap[k]? = w.heap[k]?) (h3 : w'.heap.size = w.heap.size) (h4 : w'.os = w.os ∧ w'.tape = w.tape ∧ w'.output = w.output) :
  Rel w0 nt m ⟨s.env, upd s.heap g (e, ss'), s.next⟩ a w' := by
 have hs : ∀ k, (look (upd s.heap g (e, ss')) k).isSome = true → (look s.heap k).isSome = true := fun k hk => by
  rw [vX] at hk
  by_cases c : k = g ∧ (look s.heap g).isSome = true
  ·rw [c.1]; exact c.2
  ·rw [if_neg c] at hk; exact hk
 refine ⟨h.size, h.dfr, h.env, ?_, fun k k' hk hk' he => h.inj k k' (hs k hk) (hs k' hk') he, ?_⟩
 ·intro k e' q hk
  have hk : look (upd s.heap g (e, ss')) k = some (e', q) := hk
  rw [vX] at hk
  obtain ⟨a1, a2, a3, a4⟩ := h.heap g e ss hg
  by_cases c : k = g
  ·subst c
   rw [if_pos ⟨rfl, by rw [hg]; rfl⟩] at hk
   cases hk
   exact ⟨a1, ho, h1, a4⟩
  ·rw [if_neg (fun x => c x.1)] at hk
   obtain ⟨b1, b2, b3, b4⟩ := h.heap k e' q hk
   refine ⟨b1, b2, (h2 _ (fun hh => c ?_)).trans b3, b4⟩
   exact h.inj k g (by rw [hk]; rfl) (by rw [hg]; rfl) hh
 ·obtain ⟨_, _, _, a4⟩ := h.heap g e ss hg
  exact ⟨h4.1.trans h.bel.os, h4.2.1.trans h.bel.tape, h4.2.2.trans h.bel.output, by rw [h3]; exact h.bel.size, fun k hk => (h2 k (by omega)).trans (h.bel.block k hk)⟩
/- One operation of the machine, by the reckoner's. -/

theorem add0 (g o n : Nat) : (⟨g, o, none⟩ : Addr).add n = ⟨g, o + n, none⟩ := by unfold Addr.add; split <;> simp_all
section
variable {P : Program}
theorem kS {m : Nat → Nat} {N t : Nat} {heap : List (Nat × Nat × List S)} {c : C} {v : PV} {w : World} (hc : c.ok N)
  (hh : ∀ g e ss, look heap g = some (e, ss) → oks N ss ∧ w.heap[m g]? = some (.cells (vals m ss).toArray e (0, 0))) (h : nA P t heap c = some v) :
  v.ok N ∧ (Instr.loadAt t (c.v m)).run P w = .ok (v.v m) w := by
 unfold nA at h
 split at h
 ·next g o =>
  split at h
  ·next e ss hg =>
   obtain ⟨ho, hw⟩ := hh g e ss hg
   unfold nD at h
   split at h
   ·next n h1 h2 =>
    split at h
    ·next r h3 =>
     cases h
     obtain ⟨a, b, cc, d⟩ := sub_v m ho h3
     refine ⟨a, ?_⟩
     have h1 := fF h1 w
     have h2 := eB h2 w
     have hl : (vals m r).length = n := by rw [bB m r a]; exact b
     have hload := run_loadCells_list (P := P) (w := w) ⟨m g, o, none⟩ (vals m r) (fun j u hj => by
      rw [add0, cell_of_row w _ _ _ _ _ hw]
      rw [cc] at hj
      rw [List.getElem?_take] at hj
      split at hj
      ·rw [List.getElem?_drop] at hj
       simpa using hj
      ·cases hj)
     rw [hl] at hload
     have e1 : (loadVar t ⟨m g, o, none⟩).run P w = .ok (.agg (vals m r).toArray) w := by
      simp [loadVar, h1, h2, hload]
     simp [Instr.loadAt, Instr.sureAddr, C.v, e1, PV.v]
    ·cases h
   ·next n h1 h2 =>
    split at h
    ·next u h3 =>
     cases h
     obtain ⟨a, b⟩ := uS m ho h3
     refine ⟨a, ?_⟩
     have h1 := fF h1 w
     have hcell : w.cell? ⟨m g, o, none⟩ = some (u.v m) := by
      rw [cell_of_row w _ _ _ _ _ hw]; simpa using b
     simp [Instr.loadAt, Instr.sureAddr, C.v, loadVar, h1, hcell, PV.v]
    ·cases h
   ·cases h
  ·cases h
 ·next g o j n =>
  split at h
  ·next e ss h1 hg =>
   obtain ⟨ho, hw⟩ := hh g e ss hg
   split at h
   ·next k xs n' h3 =>
    obtain ⟨h4, h5⟩ := dY h
    cases h5
    have h4 := Nat.eq_of_beq_eq_true h4
    obtain ⟨hl, p, q, hv, lp⟩ := runAt_v m ho h3
    refine ⟨trivial, ?_⟩
    obtain ⟨_, j0, j1⟩ := hc
    have hj : j.toNat < xs.length := by omega
    have h1 := fF h1 w
    have hcell : w.cell? ⟨m g, o + j.toNat, none⟩ = some (.int k (rd xs j)) := by
     rw [cell_of_row w _ _ _ _ _ hw, hv]
     show (p ++ (xs.map (Value.int k) ++ q)).toArray[o + j.toNat]? = some (.int k (xs.getD j.toNat 0))
     rw [List.getElem?_toArray, List.getElem?_append_right (by omega), lp, show o + j.toNat - o = j.toNat by omega, List.getElem?_append_left (by rw [List.length_map]; exact hj), List.getElem?_map, List.getD_eq_getElem?_getD, List.getElem?_eq_getElem hj]
     rfl
    simp [Instr.loadAt, Instr.sureAddr, C.v, loadVar, h1, hcell, PV.v, IE.d]
   ·cases h
  ·cases h
 ·cases h
theorem gU {g e o : Nat} : ∀ (vs : List Value) (i : Nat) (old : List Value) (w : World), w.heap[g]? = some (.cells old.toArray e (0, 0)) → o + i + vs.length ≤ old.length → (∀ v ∈ vs, v.oneCell' = true) →
  ∃ w', (storeCells ⟨g, o, none⟩ vs i).run P w = .ok () w' ∧ w'.heap[g]? = some (.cells (old.take (o + i) ++ (vs ++ old.drop (o + i + vs.length))).toArray e (0, 0)) ∧ (∀ k, k ≠ g → w'.heap[k]? = w.heap[k]?) ∧ w'.heap.size = w.heap.size ∧ w'.os = w.os ∧ w'.tape = w.tape ∧ w'.output = w.output := by
 intro vs
 induction vs with
 |nil =>
  intro i old w hw _ _
  exact ⟨w, by simp [storeCells], by simpa using hw, fun _ _ => rfl, rfl, rfl, rfl, rfl⟩
 |cons v vs ih =>
  intro i old w hw hl h1
  rw [List.length_cons] at hl
  have hi : o + i < old.length := by omega
  have hcell : w.cell? ⟨g, o + i, none⟩ = some old[o + i] := by
   rw [cell_of_row w _ _ _ _ _ hw]; simp [hi]
  have hfz : w.frozen? ⟨g, o + i, none⟩ = false := blk_frozen hw _
  have hset := blk_set hw (o + i) v
  have hset' : (w.setCell ⟨g, o + i, none⟩ v).heap[g]? = some (.cells (old.set (o + i) v).toArray e (0, 0)) := by rw [hset]; simp
  obtain ⟨w', r1, r2, r3, r4, r5⟩ := ih (i + 1) (old.set (o + i) v) _ hset' (by rw [List.length_set]; omega) (fun u hu => h1 u (List.mem_cons_of_mem _ hu))
  refine ⟨w', ?_, ?_, fun k hk => (r3 k hk).trans (Below.heap_setCell w _ v k (by simpa using hk)), ?_, r5⟩
  ·have hrun := run_store P w ⟨g, o + i, none⟩ v .plain (h1 v (List.mem_cons_self ..))
   rw [hcell] at hrun
   simp only [hfz, Bool.false_eq_true, if_false] at hrun
   simp [storeCells, add0, hrun, r1]
  ·rw [r2]
   congr 3
   rw [show o + (i + 1) = o + i + 1 by omega, List.drop_set_of_lt (by omega), List.take_add_one, List.getElem?_set_self hi, List.take_set_of_le (Nat.le_refl _)]
   simp [Nat.add_assoc, Nat.add_comm 1]
  ·rw [r4]
   simp [World.setCell]
theorem storeS_v {w0 : World} {nt : Nat} {m : Nat → Nat} {s : St} {a : Act} {w : World} {t : Nat} {c : C} {v : PV} {heap' : List (Nat × Nat × List S)} (hr : Rel w0 nt m s a w) (hc : c.ok s.next) (hv : v.ok s.next)
  (h : yA P t s.heap v c = some heap') : ∃ w', (Instr.storeAt t (c.v m) (v.v m)).run P w = .ok () w' ∧ Rel w0 nt m ⟨s.env, heap', s.next⟩ a w' := by
 unfold yA at h
 split at h
 ·next g o =>
  split at h
  ·next e ss u hg hz =>
   split at h
   ·next ss' hs =>
    cases h
    obtain ⟨a1, a2, a3, a4⟩ := hr.heap g e ss hg
    obtain ⟨b1, b2, b3, b4⟩ := yN m a2 hv hs
    have hz' := eB hz w
    obtain ⟨w', r1, r2, r3, r4, r5⟩ := gU (P := P) (o := o) [u.v m] 0 (vals m ss) w a3 (by simp; omega) (by simp [C.one])
    refine ⟨w', ?_, hr.write hg b1 (by
     rw [r2, b2]
     congr 3
     rw [Nat.add_zero, List.set_eq_take_append_cons_drop, if_pos b3]; rfl) r3 r4 r5⟩
    show (Instr.storeAt t (.pointer (some ⟨m g, o, none⟩)) (u.v m)).run P w = _
    simp [Instr.storeAt, Instr.sureAddr, storeVar, C.cells, hz', r1]
   ·cases h
  ·next _ e ss n new hg hz =>
   obtain ⟨h1, h2⟩ := dY h
   have h1 := Nat.eq_of_beq_eq_true h1
   split at h2
   ·next ss' hs =>
    cases h2
    obtain ⟨a1, a2, a3, a4⟩ := hr.heap g e ss hg
    have hv' : oks s.next new := hv
    obtain ⟨b1, b2, b3, b4⟩ := vC m a2 hv' hs
    have hz' := eB hz w
    have hl := bB m new hv'
    obtain ⟨w', r1, r2, r3, r4, r5⟩ := gU (P := P) (o := o) (vals m new) 0 (vals m ss) w a3 (by omega) (nK m new)
    refine ⟨w', ?_, hr.write hg b1 (by rw [r2, b2, Nat.add_zero, hl]) r3 r4 r5⟩
    have hn : (vals m new).length = n := by omega
    simp [Instr.storeAt, Instr.sureAddr, C.v, PV.v, storeVar, Value.cells, hz', hn, r1]
   ·cases h2
  ·cases h
 ·next g o j n =>
  split at h
  ·next e ss k x hg hz =>
   split at h
   ·next k' xs n' h3 =>
    obtain ⟨h4, h5⟩ := dY h
    cases h5
    rw [Bool.and_eq_true] at h4
    have h6 := Nat.eq_of_beq_eq_true h4.1
    obtain rfl := of_decide_eq_true h4.2
    obtain ⟨a1, a2, a3, a4⟩ := hr.heap g e ss hg
    obtain ⟨_, j0, j1⟩ := hc
    have hj : j.toNat < n' := by omega
    obtain ⟨b1, b2, b3, b4⟩ := setRun_v m (y := x.d) a2 h3 hj
    have hz' := eB hz w
    obtain ⟨w', r1, r2, r3, r4, r5⟩ := gU (P := P) (o := o + j.toNat) [Value.int k x.d] 0 (vals m ss) w a3 (by simp; omega) (by simp [Value.oneCell'])
    refine ⟨w', ?_, hr.write hg b1 (by
     rw [r2, b2]
     congr 3
     rw [Nat.add_zero, List.set_eq_take_append_cons_drop, if_pos b3]; rfl) r3 r4 r5⟩
    simp [Instr.storeAt, Instr.sureAddr, C.v, PV.v, storeVar, Value.cells, hz', r1]
   ·cases h
  ·cases h
 ·cases h
theorem ints_v (m : Nat → Nat) {k : IntKind} {vs : List PV} : ∀ {xs : List Int}, ints k vs = some xs → vs.map (PV.v m) = xs.map (Value.int k) := by
 induction vs with
 |nil => intro xs h; cases h; rfl
 |cons v r ih =>
  intro xs h
  cases v with
  |one u =>
   cases u with
   |i k' x =>
    unfold ints at h
    split at h
    ·next ys hy =>
     obtain ⟨h1, h2⟩ := dY h
     cases h2
     obtain rfl := of_decide_eq_true h1
     simp [PV.v, C.v, ih hy]
    ·cases h
   |_ => cases h
  |agg ss => cases h
theorem fill_all : ∀ (vs : List Value) (i : Nat) (cells : List Value), (∀ v ∈ vs, v.cells = #[v]) → cells.length = i + vs.length →
  Instr.fill (fun j => some (j * 1, 1)) cells.toArray ((List.range' i vs.length).zip vs) = some (cells.take i ++ vs).toArray := by
 intro vs
 induction vs with
 |nil => intro i cells _ h; simp [Instr.fill]; rw [List.take_of_length_le (by simp at h; omega)]
 |cons v vs ih =>
  intro i cells h1 hl
  rw [List.length_cons] at hl
  have hc := h1 v (List.mem_cons_self ..)
  have hi : i < cells.length := by omega
  rw [List.length_cons, List.range'_succ, List.zip_cons_cons, j5 (off := i * 1) (size := 1) rfl (by rw [hc]; rfl) (by rw [hc, List.size_toArray, Nat.mul_one]; exact hi), hc]
  show Instr.fill _ (cells.toArray.setIfInBounds (i * 1 + 0) v) _ = _
  rw [Nat.mul_one, Nat.add_zero, List.setIfInBounds_toArray, ih (i + 1) (cells.set i v) (fun u hu => h1 u (List.mem_cons_of_mem _ hu)) (by rw [List.length_set]; omega)]
  congr 2
  rw [List.take_add_one, List.getElem?_set_self hi, List.take_set_of_le (Nat.le_refl _)]
  simp

def aAa (m : Nat → Nat) (h : List (Nat × Nat × List S)) (w : World) : Prop := ∃ N, ∀ g e ss, look h g = some (e, ss) → oks N ss ∧ w.heap[m g]? = some (.cells (vals m ss).toArray e (0, 0))
structure iI (P : Program) (f : FuncId) (c : Fc) : Prop where
 fn : ∃ fn, P.funcs[f]? = some fn ∧ fn.body.isSome = true ∧ (fn.name == "runtime.NumGoroutine") = false
 run : ∀ (R : Type) (n N : Nat) (h : List (Nat × Nat × List S)) (vs : List PV) (K : SV → Option R) (r : R), (∀ v ∈ vs, v.ok N) → c.run R n h vs K = some r → ∃ v, K v = some r ∧ v.ok 0 ∧ ∀ (m : Nat → Nat) (w : World), aAa m h w → Calls P f (vs.map (PV.v m)).toArray w fun e w' => e = .returned (v.v m) ∧ Below w.heap.size w w'
def bW (P : Program) (cl : Cls) : Prop := ∀ f c, look cl f = some c → iI P f c

theorem rW {cl : Cls} (hcl : bW P cl) {R : Type} {w0 : World} {nt n : Nat} {o : Oper} {s : St} {K : St → Option R} {r : R} {m : Nat → Nat} {a : Act} {w : World} (hr : Rel w0 nt m s a w) (h : yU P nt cl n o s K = some r) :
  ∃ s', K s' = some r ∧ ∀ (next : Act → World → Prop) (Q : Exit → Act → World → Prop), (∀ m' a' w', Rel w0 nt m' s' a' w' → (∀ g, g < s.next → m' g = m g) → s.next ≤ s'.next → (fA o.op = false → Below w.heap.size w w') → next a' w') → o.wp P a w next Q := by
 unfold yU at h
 have hb := dY h
 clear h
 obtain ⟨hd, h⟩ := hb
 obtain ⟨dst, op, ty, pos, after, guard⟩ := o
 simp only at h hd
 have hm : ∀ g, g < s.next → (fun g => if g = s.next then w.heap.size else m g) g = m g := fun g hg => if_neg (Nat.ne_of_lt hg)
 split at h
 ·next t =>
  split at h
  ·next ss hz =>
   obtain ⟨ho, v, hv, hrun⟩ := zeroS_v m s.next hz
   refine ⟨_, h, fun next Q hn => ?_⟩
   have hrel := hr.new (d := dst) (v := .p s.next 0) hd (e := t) ho (Nat.lt_succ_self _)
   have hex : (execOp a.eval ⟨dst, .alloc t, ty, pos, after, guard⟩).run P w = .ok (.value (.pointer (some ⟨w.heap.size, 0, none⟩))) (w.alloc (.cells (vals m ss).toArray t (0, 0))) := by
    have e : v.cells = (vals m ss).toArray := by rw [← hv]
    simp [execOp, Instr.alloc, hrun, newVar, newRow, e]
   unfold Oper.wp
   rw [hex]
   refine hn _ _ _ ?_ hm (Nat.le_succ _) (fun _ => below_alloc (Below.refl _ _) _)
   have e3 : (C.p s.next 0).v (fun g => if g = s.next then w.heap.size else m g) = .pointer (some ⟨w.heap.size, 0, none⟩) := by simp [C.v]
   rw [e3] at hrel
   exact hrel
  ·cases h
 ·next t x =>
  split at h
  ·next v hx =>
   obtain ⟨ok, ex⟩ := fE hr.env hx
   refine ⟨_, h, fun next Q hn => ?_⟩
   have ho : oks s.next v.segs := by
    cases v with
    |one c => exact ⟨ok, trivial⟩
    |agg ss => exact ok
   have hrel := hr.new (d := dst) (v := .p s.next 0) hd (e := t) ho (Nat.lt_succ_self _)
   have hc : (a.eval x).cells = (vals m v.segs).toArray := by
    rw [ex]
    cases v with
    |one c => show (c.v m).cells = (c.v m :: []).toArray; rw [C.cells]
    |agg ss => rfl
   have hex : (execOp a.eval ⟨dst, .box t x, ty, pos, after, guard⟩).run P w = .ok (.value (.pointer (some ⟨w.heap.size, 0, none⟩))) (w.alloc (.cells (vals m v.segs).toArray t (0, 0))) := by
    simp [execOp, Instr.box, newVar, newRow, hc]
   unfold Oper.wp
   rw [hex]
   refine hn _ _ _ ?_ hm (Nat.le_succ _) (fun _ => below_alloc (Below.refl _ _) _)
   have e3 : (C.p s.next 0).v (fun g => if g = s.next then w.heap.size else m g) = .pointer (some ⟨w.heap.size, 0, none⟩) := by simp [C.v]
   rw [e3] at hrel
   exact hrel
  ·cases h
 ·next t x =>
  split at h
  ·next c hx =>
   obtain ⟨ok, ex⟩ := fE hr.env hx
   split at h
   ·next v hv =>
    obtain ⟨vo, vr⟩ := kS (w := w) ok (fun g e ss hg => ⟨(hr.heap g e ss hg).2.1, (hr.heap g e ss hg).2.2.1⟩) hv
    refine ⟨_, h, fun next Q hn => ?_⟩
    have ex' : a.eval x = c.v m := ex
    have hex : (execOp a.eval ⟨dst, .load t x, ty, pos, after, guard⟩).run P w = .ok (.value (v.v m)) w := gH (by rw [ex']; exact vr)
    unfold Oper.wp
    rw [hex]
    exact hn _ _ _ (hr.put (v := .pv v) hd vo) (fun _ _ => rfl) (by cases dst <;> exact Nat.le_refl _) (fun _ => Below.refl _ _)
   ·cases h
  ·cases h
 ·next t x y =>
  split at h
  ·next c v hx hy =>
   obtain ⟨ok, ex⟩ := fE hr.env hx
   obtain ⟨oky, ey⟩ := fE hr.env hy
   split at h
   ·next hp hs =>
    obtain ⟨w', r1, r2⟩ := storeS_v hr ok oky hs
    refine ⟨_, h, fun next Q hn => ?_⟩
    have ex' : a.eval x = c.v m := ex
    have ey' : a.eval y = v.v m := ey
    have hex : (execOp a.eval ⟨dst, .store t x y, ty, pos, after, guard⟩).run P w = .ok .skip w' := by
     simp [execOp, ex', ey', r1]
    unfold Oper.wp
    rw [hex]
    exact hn _ _ _ (r2.put (v := .und) hd trivial) (fun _ _ => rfl) (by cases dst <;> exact Nat.le_refl _) (fun hf => by cases hf)
   ·cases h
  ·cases h
 ·next t len ps =>
  split at h
  ·next e vs hu hx =>
   split at h
   ·next k k' hk hz =>
    split at h
    ·next xs hi =>
     obtain ⟨h1, h2⟩ := dY h
     simp only [Bool.and_eq_true] at h1
     obtain ⟨⟨⟨⟨g1, g2⟩, g3⟩, g4⟩, g5⟩ := h1
     obtain rfl := of_decide_eq_true g1
     have g2 := eq_of_beq g2
     have g3 := Nat.le_of_ble_eq_true g3
     have g4 : 0 < len := Nat.le_of_ble_eq_true g4
     have hz1 : fI P e = some 1 := by
      revert g5
      cases hs : fI P e with
      |none => simp
      |some z => match z with
       |0 => simp
       |1 => simp
       |z + 2 => simp
     obtain ⟨_, ex⟩ := pE hr.env hx
     rw [ints_v m hi] at ex
     have hlx : xs.length = len := by
      have := congrArg List.length ex
      simp only [List.length_map] at this
      have h6 := congrArg List.length g2
      simp only [List.length_map, List.length_range] at h6
      omega
     obtain ⟨z0, zi, zv, zi1, zi2, zi3⟩ := eQ m s.next hz
     have hrel := hr.new (d := dst) (v := .sl s.next 0 len len) hd (e := e) (ss := [.a k xs len]) ⟨hlx, trivial⟩ (Nat.lt_succ_self _)
     have hv0 : vals m [.a k xs len] = xs.map (Value.int k) := by simp [vals, S.v]
     have hps : ps.toList.map (fun x => (x.1, a.eval x.2)) = (List.range' 0 (xs.map (Value.int k)).length).zip (xs.map (Value.int k)) := by
      rw [← ex, List.length_map, ← List.range_eq_range']
      have h7 : (List.map (·.2) ps.toList).length = len := by
       have h6 := congrArg List.length g2
       simp only [List.length_map, List.length_range] at h6 ⊢
       omega
      rw [h7, ← g2]
      generalize ps.toList = l
      induction l with
      |nil => rfl
      |cons p l ih => simp [ih]
     refine ⟨_, h2, fun next Q hn => ?_⟩
     have hz' := eB hz1 w
     have hzero : (zeroValue e).run P w = .ok zv w := by simp [zeroValue, typeInfo, zi1, zi2]
     have hf := fill_all (xs.map (Value.int k)) 0 (((Array.range len).map (zv.cells[· % zv.cells.size]!)).toList) (by simp [Value.cells]) (by simp [hlx])
     have hex : (execOp a.eval ⟨dst, .buildSlice t len ps, ty, pos, after, guard⟩).run P w = .ok (.value (.slice (some ⟨w.heap.size, 0, none⟩) len len)) (w.alloc (.cells (vals m [.a k xs len]).toArray e (0, 0))) := by
      show (do let y ← Instr.buildSlice t len (ps.map fun x => (x.1, a.eval x.2)); pure (Next.value y) : Sem Next).run P w = _
      refine gH ?_
      have hps' : (ps.map fun x => (x.1, a.eval x.2)).toList = ps.toList.map (fun x => (x.1, a.eval x.2)) := by simp
      simp only [Array.toArray_toList, List.take_zero, List.nil_append] at hf
      have hne : ¬ len * 1 = 0 := by omega
      have hbig : ¬ len * 1 > 2 ^ 24 := by omega
      simp only [Instr.buildSlice, Sem.run_bind, underlying, run_program, Result.andThen_ok, hu, Sem.run_pure, hz', Sem.run_ite, if_neg hbig, if_neg hne, hzero, Nat.mul_one]
      rw [hps', hps, hv0]
      simp only [Nat.mul_one] at hf
      rw [hf]
      simp [newRow, show ¬ 16777216 < len by omega, show ¬ len = 0 by omega]
     unfold Oper.wp
     rw [hex]
     refine hn _ _ _ ?_ hm (Nat.le_succ _) (fun _ => below_alloc (Below.refl _ _) _)
     have e3 : (C.sl s.next 0 len len).v (fun g => if g = s.next then w.heap.size else m g) = .slice (some ⟨w.heap.size, 0, none⟩) len len := by simp [C.v]
     rw [e3] at hrel
     exact hrel
    ·cases h
   ·cases h
  ·cases h
 ·next f args argTypes =>
  split at h
  ·next c vs hc hv =>
   obtain ⟨⟨fn, f1, f2, f3⟩, hrun⟩ := hcl f c hc
   obtain ⟨hvo, ex⟩ := pE hr.env hv
   obtain ⟨v, hK, vo, hcalls⟩ := hrun _ _ _ _ _ _ _ hvo h
   refine ⟨_, hK, fun next Q hn => ?_⟩
   have hex : (execOp a.eval ⟨dst, .call { callee := .value (.func f), args := args, argTypes := argTypes }, ty, pos, after, guard⟩).run P w = .ok (.enter f (vs.map (PV.v m)).toArray) w := by
    have e2 : args.map a.eval = (vs.map (PV.v m)).toArray := by
     apply Array.ext'
     rw [Array.toList_map, ex]
    have f2' : ¬ fn.body = none := by intro hb; rw [hb] at f2; cases f2
    have f3' : ¬ fn.name = "runtime.NumGoroutine" := by intro hb; rw [hb] at f3; simp at f3
    simp [execOp, resolve, Act.eval, Deferred.ofValue, invoke, callFunc, f1, f3', f2', e2]
   unfold Oper.wp
   rw [hex]
   refine (hcalls m w ⟨_, fun g e ss hg => ⟨(hr.heap g e ss hg).2.1, (hr.heap g e ss hg).2.2.1⟩⟩).mono fun e w' he => ?_
   obtain ⟨rfl, hb⟩ := he
   exact hn _ _ _ ((hr.grow hb).put hd (SV.dU (Nat.zero_le _) vo)) (fun _ _ => rfl) (by cases dst <;> exact Nat.le_refl _) (fun _ => hb)
  ·cases h
 ·obtain ⟨v, h1, h2, h3⟩ := oI (o := ⟨dst, op, ty, pos, after, guard⟩) hr.env h
  refine ⟨_, h1, fun next Q hn => ?_⟩
  unfold Oper.wp
  rw [h3 w]
  exact hn _ _ _ (hr.put hd h2) (fun _ _ => rfl) (by cases dst <;> exact Nat.le_refl _) (fun _ => Below.refl _ _)
end
end Go.Proofs.Ytfapjegkilljnaa.Ek
