/- Products: the program's, as plain numbers. -/
import Derived.Test.YtfapjegkilljnaaQobM7
import Derived.Test.YtfapjegkilljnaaQobPackE
import Derived.Test.YtfapjegkilljnaaQobM4

set_option linter.unusedVariables false
set_option linter.unusedSimpArgs false
namespace Go.Proofs.Ytfapjegkilljnaa.Round
open Go.RowKit Go.Proofs.Ytfapjegkilljnaa.P Go.Proofs.Ytfapjegkilljnaa.Num Go.Proofs.Ytfapjegkilljnaa.BitsF Go.Proofs.Ytfapjegkilljnaa.Fmt Go.Proofs.YtfapjegkilljnaaW.PrintWords Go.Proofs.YtfapjegkilljnaaW.PrintLast Go.Proofs.YtfapjegkilljnaaW.PrintMore

theorem nS (f : Int) (a b : Nat) (ha : a < 4294967296) (hb : b < 4294967296) : Ev (fun k => bV.f k f (a : Int) (b : Int)) (mG f a b) := by
 have tt : mG f a b = decide (bJ f a = 0 ∧ bJ f b = 3 ∨ bJ f a = 3 ∧ bJ f b = 0) := rfl
 refine Ev.congr (fun k => by unfold bV.f; rfl) (Ev.bind (kG f a ha) ?_)
 by_cases a0 : bJ f a = 0
 ·refine Ev.congr (fun k => by rw [if_pos (decide_eq_true a0)]) (Ev.bind (fH f b hb) ?_)
  by_cases b3 : bJ f b = 3
  ·rw [tt, show decide (bJ f a = 0 ∧ bJ f b = 3 ∨ bJ f a = 3 ∧ bJ f b = 0) = true from decide_eq_true (.inl ⟨a0, b3⟩)]
   exact Ev.congr (fun k => by rw [if_pos (decide_eq_true b3)]) (Ev.now _)
  ·refine Ev.congr (fun k => by rw [if_neg (by simp [b3])]) (Ev.bind (fH f a ha) ?_)
   rw [tt, show decide (bJ f a = 0 ∧ bJ f b = 3 ∨ bJ f a = 3 ∧ bJ f b = 0) = false from decide_eq_false (by omega)]
   exact Ev.congr (fun k => by rw [if_neg (by simp; omega)]) (Ev.now _)
 ·refine Ev.congr (fun k => by rw [if_neg (by simp [a0])]) (Ev.bind (fH f a ha) ?_)
  by_cases a3 : bJ f a = 3
  ·refine Ev.congr (fun k => by rw [if_pos (decide_eq_true a3)]) (Ev.bind (kG f b hb) (Ev.congr (fun k => ?_) (Ev.now _)))
   rw [tt, show decide (bJ f a = 0 ∧ bJ f b = 3 ∨ bJ f a = 3 ∧ bJ f b = 0) = decide (bJ f b = 0) from decide_eq_decide.mpr (by omega)]
  ·rw [tt, show decide (bJ f a = 0 ∧ bJ f b = 3 ∨ bJ f a = 3 ∧ bJ f b = 0) = false from decide_eq_false (by omega)]
   exact Ev.congr (fun k => by rw [if_neg (by simp [a3])]) (Ev.now _)
theorem rR (f : Int) (a b : Nat) (ha : a < 4294967296) (hb : b < 4294967296) (fa : oW f a < gW f) (fb : oW f b < gW f) : cK.f f (a : Int) (b : Int) = some ((cZ f a != cZ f b), bF f a + bF f b, ((bM f a * bM f b : Nat) : Int), false) := by
 obtain ⟨l1, l2⟩ := dQ f a
 obtain ⟨m1, m2⟩ := dQ f b
 unfold cK.f
 rw [of_f f a ha fa, Option.bind_some, of_f f b hb fb, Option.bind_some]
 dsimp only
 rw [bT (bF f a + bF f b) (by omega) (by omega), ← Int.natCast_mul, fB _ (rP f a b)]
theorem mul_ev (f mode : Int) (a b : Nat) (ha : a < 4294967296) (hb : b < 4294967296) : Ev (fun k => bO.f k f mode (a : Int) (b : Int)) ((mulN f mode a b : Int), mulX f mode a b) := by
 have hla := pI f a
 have hlb := pI f b
 refine Ev.congr (fun k => by unfold bO.f; rfl) (Ev.bind (lV f a b ha hb) ?_)
 unfold mulN mulX
 by_cases n : 4 ≤ bJ f a ∨ 4 ≤ bJ f b
 ·have e : (dO f a || dO f b) = true := by unfold dO; rw [Bool.or_eq_true, decide_eq_true_iff, decide_eq_true_iff]; exact n
  rw [if_pos n, if_pos n]
  exact Ev.congr (fun k => by rw [if_pos e]) (Ev.now _)
 ·have e : ¬ (dO f a || dO f b) = true := by unfold dO; rw [Bool.or_eq_true, decide_eq_true_iff, decide_eq_true_iff]; exact n
  rw [if_neg n, if_neg n]
  refine Ev.congr (fun k => by rw [if_neg e]) (Ev.bind (nS f a b ha hb) ?_)
  cases ht : mG f a b
  ·rw [if_neg (show ¬ false = true by decide), if_neg (show ¬ false = true by decide)]
   refine Ev.congr (fun k => by rw [if_neg (show ¬ false = true by decide), mZ f a ha, Option.bind_some, mZ f b hb, Option.bind_some]) (Ev.bind (fH f a ha) ?_)
   have inf : (bJ f a = 3 ∨ bJ f b = 3) → Ev (fun k => bO.j0 k f mode (a : Int) (b : Int) (cZ f a != cZ f b) true) (((if bJ f a = 3 ∨ bJ f b = 3 then nQ f (cZ f a != cZ f b) else mW f mode (cZ f a != cZ f b) (bF f a + bF f b) (bM f a * bM f b) false : Nat) : Int),
     if bJ f a = 3 ∨ bJ f b = 3 then (false, false, false, false, false) else (false, false, excN f mode (cZ f a != cZ f b) (bF f a + bF f b) (bM f a * bM f b) false)) := by
    intro i
    rw [if_pos i, if_pos i]
    exact Ev.step (fun k => by rw [bO.j0, if_pos rfl, sV]; rfl) (Ev.now _)
   by_cases a3 : bJ f a = 3
   ·exact Ev.congr (fun k => by rw [if_pos (decide_eq_true a3)]) (inf (.inl a3))
   ·refine Ev.congr (fun k => by rw [if_neg (by simp [a3])]) (Ev.bind (fH f b hb) ?_)
    by_cases b3 : bJ f b = 3
    ·rw [decide_eq_true b3]; exact inf (.inr b3)
    ·rw [decide_eq_false b3, if_neg (show ¬ (bJ f a = 3 ∨ bJ f b = 3) by omega), if_neg (show ¬ (bJ f a = 3 ∨ bJ f b = 3) by omega)]
     obtain ⟨l1, l2⟩ := dQ f a
     obtain ⟨m1, m2⟩ := dQ f b
     have hp := lH f mode (cZ f a != cZ f b) (bF f a + bF f b) (bM f a * bM f b) false (rP f a b)
     rw [jV _ (by omega) (by omega)] at hp
     exact Ev.step (fun k => by rw [bO.j0, if_neg (by decide), rR f a b ha hb (iN f a (by omega)) (iN f b (by omega)), Option.bind_some]) (Ev.bind hp (Ev.now _))
  ·rw [if_pos (show true = true from rfl), if_pos (show true = true from rfl)]
   exact Ev.congr (fun k => by rw [if_pos (show true = true from rfl), wV]; rfl) (Ev.now _)
end Go.Proofs.Ytfapjegkilljnaa.Round
