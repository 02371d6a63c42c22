/- Products: the program's, as plain numbers. -/
import Derived.Test.YtolpdiifmacdbaaQcsM7
import Derived.Test.YtolpdiifmacdbaaQcsPackE
import Derived.Test.YtolpdiifmacdbaaQcsM5

set_option linter.unusedVariables false
set_option linter.unusedSimpArgs false
namespace Go.Proofs.Ytolpdiifmacdbaa.Round
open Go.RowKit Go.Proofs.Ytolpdiifmacdbaa.P Go.Proofs.Ytolpdiifmacdbaa.Num Go.Proofs.Ytolpdiifmacdbaa.BitsF Go.Proofs.Ytolpdiifmacdbaa.Fmt Go.Proofs.YtolpdiifmacdbaaW.PrintWords Go.Proofs.YtolpdiifmacdbaaW.PrintLast Go.Proofs.YtolpdiifmacdbaaW.PrintMore

theorem nO (f : Int) (a b : Nat) (ha : a < 4294967296) (hb : b < 4294967296) : Ev (fun k => bR.f k f (a : Int) (b : Int)) (kX f a b) := by
 have tt : kX f a b = decide (bE f a = 0 ∧ bE f b = 3 ∨ bE f a = 3 ∧ bE f b = 0) := rfl
 refine Ev.congr (fun k => by unfold bR.f; rfl) (Ev.bind (mK f a ha) ?_)
 by_cases a0 : bE f a = 0
 ·refine Ev.congr (fun k => by rw [if_pos (decide_eq_true a0)]) (Ev.bind (eU f b hb) ?_)
  by_cases b3 : bE f b = 3
  ·rw [tt, show decide (bE f a = 0 ∧ bE f b = 3 ∨ bE f a = 3 ∧ bE f b = 0) = true from decide_eq_true (.inl ⟨a0, b3⟩)]
   exact Ev.congr (fun k => by rw [if_pos (decide_eq_true b3)]) (Ev.now _)
  ·refine Ev.congr (fun k => by rw [if_neg (by simp [b3])]) (Ev.bind (eU f a ha) ?_)
   rw [tt, show decide (bE f a = 0 ∧ bE f b = 3 ∨ bE f a = 3 ∧ bE f b = 0) = false from decide_eq_false (by omega)]
   exact Ev.congr (fun k => by rw [if_neg (by simp; omega)]) (Ev.now _)
 ·refine Ev.congr (fun k => by rw [if_neg (by simp [a0])]) (Ev.bind (eU f a ha) ?_)
  by_cases a3 : bE f a = 3
  ·refine Ev.congr (fun k => by rw [if_pos (decide_eq_true a3)]) (Ev.bind (mK f b hb) (Ev.congr (fun k => ?_) (Ev.now _)))
   rw [tt, show decide (bE f a = 0 ∧ bE f b = 3 ∨ bE f a = 3 ∧ bE f b = 0) = decide (bE f b = 0) from decide_eq_decide.mpr (by omega)]
  ·rw [tt, show decide (bE f a = 0 ∧ bE f b = 3 ∨ bE f a = 3 ∧ bE f b = 0) = false from decide_eq_false (by omega)]
   exact Ev.congr (fun k => by rw [if_neg (by simp [a3])]) (Ev.now _)
theorem rA (f : Int) (a b : Nat) (ha : a < 4294967296) (hb : b < 4294967296) (fa : lK f a < fC f) (fb : lK f b < fC f) : bY.f f (a : Int) (b : Int) = some ((bZ f a != bZ f b), bC f a + bC f b, ((bG f a * bG f b : Nat) : Int), false) := by
 obtain ⟨l1, l2⟩ := dH f a
 obtain ⟨m1, m2⟩ := dH f b
 unfold bY.f
 rw [of_f f a ha fa, Option.bind_some, of_f f b hb fb, Option.bind_some]
 dsimp only
 rw [bS (bC f a + bC f b) (by omega) (by omega), ← Int.natCast_mul, eG _ (qV f a b)]
theorem mul_ev (f mode : Int) (a b : Nat) (ha : a < 4294967296) (hb : b < 4294967296) : Ev (fun k => bJ.f k f mode (a : Int) (b : Int)) ((mulN f mode a b : Int), mulX f mode a b) := by
 have hla := oV f a
 have hlb := oV f b
 refine Ev.congr (fun k => by unfold bJ.f; rfl) (Ev.bind (nU f a b ha hb) ?_)
 unfold mulN mulX
 by_cases n : 4 ≤ bE f a ∨ 4 ≤ bE f b
 ·have e : (dX f a || dX f b) = true := by unfold dX; rw [Bool.or_eq_true, decide_eq_true_iff, decide_eq_true_iff]; exact n
  rw [if_pos n, if_pos n]
  exact Ev.congr (fun k => by rw [if_pos e]) (Ev.now _)
 ·have e : ¬ (dX f a || dX f b) = true := by unfold dX; rw [Bool.or_eq_true, decide_eq_true_iff, decide_eq_true_iff]; exact n
  rw [if_neg n, if_neg n]
  refine Ev.congr (fun k => by rw [if_neg e]) (Ev.bind (nO f a b ha hb) ?_)
  cases ht : kX f a b
  ·rw [if_neg (show ¬ false = true by decide), if_neg (show ¬ false = true by decide)]
   refine Ev.congr (fun k => by rw [if_neg (show ¬ false = true by decide), nQ f a ha, Option.bind_some, nQ f b hb, Option.bind_some]) (Ev.bind (eU f a ha) ?_)
   have inf : (bE f a = 3 ∨ bE f b = 3) → Ev (fun k => bJ.j0 k f mode (a : Int) (b : Int) (bZ f a != bZ f b) true) (((if bE f a = 3 ∨ bE f b = 3 then mO f (bZ f a != bZ f b) else j4 f mode (bZ f a != bZ f b) (bC f a + bC f b) (bG f a * bG f b) false : Nat) : Int),
     if bE f a = 3 ∨ bE f b = 3 then (false, false, false, false, false) else (false, false, vB f mode (bZ f a != bZ f b) (bC f a + bC f b) (bG f a * bG f b) false)) := by
    intro i
    rw [if_pos i, if_pos i]
    exact Ev.step (fun k => by rw [bJ.j0, if_pos rfl, sJ]; rfl) (Ev.now _)
   by_cases a3 : bE f a = 3
   ·exact Ev.congr (fun k => by rw [if_pos (decide_eq_true a3)]) (inf (.inl a3))
   ·refine Ev.congr (fun k => by rw [if_neg (by simp [a3])]) (Ev.bind (eU f b hb) ?_)
    by_cases b3 : bE f b = 3
    ·rw [decide_eq_true b3]; exact inf (.inr b3)
    ·rw [decide_eq_false b3, if_neg (show ¬ (bE f a = 3 ∨ bE f b = 3) by omega), if_neg (show ¬ (bE f a = 3 ∨ bE f b = 3) by omega)]
     obtain ⟨l1, l2⟩ := dH f a
     obtain ⟨m1, m2⟩ := dH f b
     have hp := kK f mode (bZ f a != bZ f b) (bC f a + bC f b) (bG f a * bG f b) false (qV f a b)
     rw [jE _ (by omega) (by omega)] at hp
     exact Ev.step (fun k => by rw [bJ.j0, if_neg (by decide), rA f a b ha hb (iC f a (by omega)) (iC f b (by omega)), Option.bind_some]) (Ev.bind hp (Ev.now _))
  ·rw [if_pos (show true = true from rfl), if_pos (show true = true from rfl)]
   exact Ev.congr (fun k => by rw [if_pos (show true = true from rfl), vD]; rfl) (Ev.now _)
end Go.Proofs.Ytolpdiifmacdbaa.Round
