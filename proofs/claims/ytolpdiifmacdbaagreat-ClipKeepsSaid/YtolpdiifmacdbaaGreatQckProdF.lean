import Derived.Test.YtolpdiifmacdbaaGreatQckM9
set_option linter.unusedVariables false
set_option linter.unusedSimpArgs false
namespace Go.Proofs.YtolpdiifmacdbaaGreat
noncomputable section
open Go.RowKit YtolpdiifmacdbaaGreatW.PrintWords YtolpdiifmacdbaaGreatW.PrintLast YtolpdiifmacdbaaGreatW.PrintMore
namespace Round
open P Num BitsF Fmt
theorem uL (f : Int) (a b : Nat) (ha : a < 4294967296) (hb : b < 4294967296) : Ev (fun k => dS.f k f (a : Int) (b : Int)) (nS f a b) := by
 have tt : nS f a b = decide (cO f a = 0 ∧ cO f b = 3 ∨ cO f a = 3 ∧ cO f b = 0) := rfl
 refine Ev.congr (fun k => by unfold dS.f; rfl) (Ev.bind (nL f a ha) ?_)
 by_cases a0 : cO f a = 0
 ·refine Ev.congr (fun k => by rw [if_pos (decide_eq_true a0)]) (Ev.bind (iR f b hb) ?_)
  by_cases b3 : cO f b = 3
  ·rw [tt, show decide (cO f a = 0 ∧ cO f b = 3 ∨ cO f a = 3 ∧ cO f b = 0) = true from decide_eq_true (.inl ⟨a0, b3⟩)]
   exact Ev.congr (fun k => by rw [if_pos (decide_eq_true b3)]) (Ev.now _)
  ·refine Ev.congr (fun k => by rw [if_neg (by simp [b3])]) (Ev.bind (iR f a ha) ?_)
   rw [tt, show decide (cO f a = 0 ∧ cO f b = 3 ∨ cO f a = 3 ∧ cO f b = 0) = false from decide_eq_false (by omega)]
   exact Ev.congr (fun k => by rw [if_neg (by simp; omega)]) (Ev.now _)
 ·refine Ev.congr (fun k => by rw [if_neg (by simp [a0])]) (Ev.bind (iR f a ha) ?_)
  by_cases a3 : cO f a = 3
  ·refine Ev.congr (fun k => by rw [if_pos (decide_eq_true a3)]) (Ev.bind (nL f b hb) (Ev.congr (fun k => ?_) (Ev.now _)))
   rw [tt, show decide (cO f a = 0 ∧ cO f b = 3 ∨ cO f a = 3 ∧ cO f b = 0) = decide (cO f b = 0) from decide_eq_decide.mpr (by omega)]
  ·rw [tt, show decide (cO f a = 0 ∧ cO f b = 3 ∨ cO f a = 3 ∧ cO f b = 0) = false from decide_eq_false (by omega)]
   exact Ev.congr (fun k => by rw [if_neg (by simp [a3])]) (Ev.now _)
theorem yI (f : Int) (a b : Nat) (ha : a < 4294967296) (hb : b < 4294967296) (fa : mE f a < gN f) (fb : mE f b < gN f) : cB.f f (a : Int) (b : Int) = some ((dO f a != dO f b), bN f a + bN f b, ((bT f a * bT f b : Nat) : Int), false) := by
 obtain ⟨l1, l2⟩ := fD f a
 obtain ⟨m1, m2⟩ := fD f b
 unfold cB.f
 rw [of_f f a ha fa, Option.bind_some, of_f f b hb fb, Option.bind_some]
 dsimp only
 rw [cZ (bN f a + bN f b) (by omega) (by omega), ← Int.natCast_mul, gL _ (uI f a b)]
theorem mul_ev (f mode : Int) (a b : Nat) (ha : a < 4294967296) (hb : b < 4294967296) : Ev (fun k => dR.f k f mode (a : Int) (b : Int)) ((mulN f mode a b : Int), mulX f mode a b) := by
 have hla := r9 f a
 have hlb := r9 f b
 refine Ev.congr (fun k => by unfold dR.f; rfl) (Ev.bind (uD f a b ha hb) ?_)
 unfold mulN mulX
 by_cases n : 4 ≤ cO f a ∨ 4 ≤ cO f b
 ·have e : (fC f a || fC f b) = true := by unfold fC; rw [Bool.or_eq_true, decide_eq_true_iff, decide_eq_true_iff]; exact n
  rw [if_pos n, if_pos n]
  exact Ev.congr (fun k => by rw [if_pos e]) (Ev.now _)
 ·have e : ¬ (fC f a || fC f b) = true := by unfold fC; rw [Bool.or_eq_true, decide_eq_true_iff, decide_eq_true_iff]; exact n
  rw [if_neg n, if_neg n]
  refine Ev.congr (fun k => by rw [if_neg e]) (Ev.bind (uL f a b ha hb) ?_)
  cases ht : nS f a b
  ·rw [if_neg (show ¬ false = true by decide), if_neg (show ¬ false = true by decide)]
   refine Ev.congr (fun k => by rw [if_neg (show ¬ false = true by decide), sI f a ha, Option.bind_some, sI f b hb, Option.bind_some]) (Ev.bind (iR f a ha) ?_)
   have inf : (cO f a = 3 ∨ cO f b = 3) → Ev (fun k => dR.j0 k f mode (a : Int) (b : Int) (dO f a != dO f b) true) (((if cO f a = 3 ∨ cO f b = 3 then oW f (dO f a != dO f b) else gB f mode (dO f a != dO f b) (bN f a + bN f b) (bT f a * bT f b) false : Nat) : Int),
     if cO f a = 3 ∨ cO f b = 3 then (false, false, false, false, false) else (false, false, lZ f mode (dO f a != dO f b) (bN f a + bN f b) (bT f a * bT f b) false)) := by
    intro i
    rw [if_pos i, if_pos i]
    exact Ev.step (fun k => by rw [dR.j0, if_pos rfl, aAk]; rfl) (Ev.now _)
   by_cases a3 : cO f a = 3
   ·exact Ev.congr (fun k => by rw [if_pos (decide_eq_true a3)]) (inf (.inl a3))
   ·refine Ev.congr (fun k => by rw [if_neg (by simp [a3])]) (Ev.bind (iR f b hb) ?_)
    by_cases b3 : cO f b = 3
    ·rw [decide_eq_true b3]; exact inf (.inr b3)
    ·rw [decide_eq_false b3, if_neg (show ¬ (cO f a = 3 ∨ cO f b = 3) by omega), if_neg (show ¬ (cO f a = 3 ∨ cO f b = 3) by omega)]
     obtain ⟨l1, l2⟩ := fD f a
     obtain ⟨m1, m2⟩ := fD f b
     have hp := oV f mode (dO f a != dO f b) (bN f a + bN f b) (bT f a * bT f b) false (uI f a b)
     rw [iX _ (by omega) (by omega)] at hp
     exact Ev.step (fun k => by rw [dR.j0, if_neg (by decide), yI f a b ha hb (iQ f a (by omega)) (iQ f b (by omega)), Option.bind_some]) (Ev.bind hp (Ev.now _))
  ·rw [if_pos (show true = true from rfl), if_pos (show true = true from rfl)]
   exact Ev.congr (fun k => by rw [if_pos (show true = true from rfl), aBr]; rfl) (Ev.now _)
end Round
end
end Go.Proofs.YtolpdiifmacdbaaGreat
