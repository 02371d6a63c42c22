/- Products: the program's, as plain numbers. -/
import Derived.Test.YtfapjegkilljnaaGreatQotM10
import Derived.Test.YtfapjegkilljnaaGreatQotPackE
import Derived.Test.YtfapjegkilljnaaGreatQotM5

set_option linter.unusedVariables false
set_option linter.unusedSimpArgs false
namespace Go.Proofs.YtfapjegkilljnaaGreat.Round
open Go.RowKit Go.Proofs.YtfapjegkilljnaaGreat.P Go.Proofs.YtfapjegkilljnaaGreat.Num Go.Proofs.YtfapjegkilljnaaGreat.BitsF Go.Proofs.YtfapjegkilljnaaGreat.Fmt Go.Proofs.YtfapjegkilljnaaGreatW.PrintWords Go.Proofs.YtfapjegkilljnaaGreatW.PrintLast Go.Proofs.YtfapjegkilljnaaGreatW.PrintMore

theorem tC (f : Int) (a b : Nat) (ha : a < 4294967296) (hb : b < 4294967296) : Ev (fun k => dR.f k f (a : Int) (b : Int)) (kE f a b) := by
 have tt : kE f a b = decide (bM f a = 0 ∧ bM f b = 3 ∨ bM f a = 3 ∧ bM f b = 0) := rfl
 refine Ev.congr (fun k => by unfold dR.f; rfl) (Ev.bind (rH f a ha) ?_)
 by_cases a0 : bM f a = 0
 ·refine Ev.congr (fun k => by rw [if_pos (decide_eq_true a0)]) (Ev.bind (iX f b hb) ?_)
  by_cases b3 : bM f b = 3
  ·rw [tt, show decide (bM f a = 0 ∧ bM f b = 3 ∨ bM f a = 3 ∧ bM f b = 0) = true from decide_eq_true (.inl ⟨a0, b3⟩)]
   exact Ev.congr (fun k => by rw [if_pos (decide_eq_true b3)]) (Ev.now _)
  ·refine Ev.congr (fun k => by rw [if_neg (by simp [b3])]) (Ev.bind (iX f a ha) ?_)
   rw [tt, show decide (bM f a = 0 ∧ bM f b = 3 ∨ bM f a = 3 ∧ bM f b = 0) = false from decide_eq_false (by omega)]
   exact Ev.congr (fun k => by rw [if_neg (by simp; omega)]) (Ev.now _)
 ·refine Ev.congr (fun k => by rw [if_neg (by simp [a0])]) (Ev.bind (iX f a ha) ?_)
  by_cases a3 : bM f a = 3
  ·refine Ev.congr (fun k => by rw [if_pos (decide_eq_true a3)]) (Ev.bind (rH f b hb) (Ev.congr (fun k => ?_) (Ev.now _)))
   rw [tt, show decide (bM f a = 0 ∧ bM f b = 3 ∨ bM f a = 3 ∧ bM f b = 0) = decide (bM f b = 0) from decide_eq_decide.mpr (by omega)]
  ·rw [tt, show decide (bM f a = 0 ∧ bM f b = 3 ∨ bM f a = 3 ∧ bM f b = 0) = false from decide_eq_false (by omega)]
   exact Ev.congr (fun k => by rw [if_neg (by simp [a3])]) (Ev.now _)
theorem wW (f : Int) (a b : Nat) (ha : a < 4294967296) (hb : b < 4294967296) (fa : mY f a < gY f) (fb : mY f b < gY f) : dZ.f f (a : Int) (b : Int) = some ((dB f a != dB f b), bB f a + bB f b, ((bJ f a * bJ f b : Nat) : Int), false) := by
 obtain ⟨l1, l2⟩ := dV f a
 obtain ⟨m1, m2⟩ := dV f b
 unfold dZ.f
 rw [of_f f a ha fa, Option.bind_some, of_f f b hb fb, Option.bind_some]
 dsimp only
 rw [bW (bB f a + bB f b) (by omega) (by omega), ← Int.natCast_mul, fD _ (pO f a b)]
theorem mul_ev (f mode : Int) (a b : Nat) (ha : a < 4294967296) (hb : b < 4294967296) : Ev (fun k => dH.f k f mode (a : Int) (b : Int)) ((mulN f mode a b : Int), mulX f mode a b) := by
 have hla := nZ f a
 have hlb := nZ f b
 refine Ev.congr (fun k => by unfold dH.f; rfl) (Ev.bind (oP f a b ha hb) ?_)
 unfold mulN mulX
 by_cases n : 4 ≤ bM f a ∨ 4 ≤ bM f b
 ·have e : (dX f a || dX f b) = true := by unfold dX; rw [Bool.or_eq_true, decide_eq_true_iff, decide_eq_true_iff]; exact n
  rw [if_pos n, if_pos n]
  exact Ev.congr (fun k => by rw [if_pos e]) (Ev.now _)
 ·have e : ¬ (dX f a || dX f b) = true := by unfold dX; rw [Bool.or_eq_true, decide_eq_true_iff, decide_eq_true_iff]; exact n
  rw [if_neg n, if_neg n]
  refine Ev.congr (fun k => by rw [if_neg e]) (Ev.bind (tC f a b ha hb) ?_)
  cases ht : kE f a b
  ·rw [if_neg (show ¬ false = true by decide), if_neg (show ¬ false = true by decide)]
   refine Ev.congr (fun k => by rw [if_neg (show ¬ false = true by decide), sQ f a ha, Option.bind_some, sQ f b hb, Option.bind_some]) (Ev.bind (iX f a ha) ?_)
   have inf : (bM f a = 3 ∨ bM f b = 3) → Ev (fun k => dH.j0 k f mode (a : Int) (b : Int) (dB f a != dB f b) true) (((if bM f a = 3 ∨ bM f b = 3 then nG f (dB f a != dB f b) else fI f mode (dB f a != dB f b) (bB f a + bB f b) (bJ f a * bJ f b) false : Nat) : Int),
     if bM f a = 3 ∨ bM f b = 3 then (false, false, false, false, false) else (false, false, kY f mode (dB f a != dB f b) (bB f a + bB f b) (bJ f a * bJ f b) false)) := by
    intro i
    rw [if_pos i, if_pos i]
    exact Ev.step (fun k => by rw [dH.j0, if_pos rfl, yE]; rfl) (Ev.now _)
   by_cases a3 : bM f a = 3
   ·exact Ev.congr (fun k => by rw [if_pos (decide_eq_true a3)]) (inf (.inl a3))
   ·refine Ev.congr (fun k => by rw [if_neg (by simp [a3])]) (Ev.bind (iX f b hb) ?_)
    by_cases b3 : bM f b = 3
    ·rw [decide_eq_true b3]; exact inf (.inr b3)
    ·rw [decide_eq_false b3, if_neg (show ¬ (bM f a = 3 ∨ bM f b = 3) by omega), if_neg (show ¬ (bM f a = 3 ∨ bM f b = 3) by omega)]
     obtain ⟨l1, l2⟩ := dV f a
     obtain ⟨m1, m2⟩ := dV f b
     have hp := pR f mode (dB f a != dB f b) (bB f a + bB f b) (bJ f a * bJ f b) false (pO f a b)
     rw [iF _ (by omega) (by omega)] at hp
     exact Ev.step (fun k => by rw [dH.j0, if_neg (by decide), wW f a b ha hb (gT f a (by omega)) (gT f b (by omega)), Option.bind_some]) (Ev.bind hp (Ev.now _))
  ·rw [if_pos (show true = true from rfl), if_pos (show true = true from rfl)]
   exact Ev.congr (fun k => by rw [if_pos (show true = true from rfl), aAH]; rfl) (Ev.now _)
end Go.Proofs.YtfapjegkilljnaaGreat.Round
