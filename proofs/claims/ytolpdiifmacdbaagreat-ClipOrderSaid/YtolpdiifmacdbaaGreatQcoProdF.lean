/- Products: the program's, as plain numbers. -/
import Derived.Test.YtolpdiifmacdbaaGreatQcoM10
import Derived.Test.YtolpdiifmacdbaaGreatQcoPackE
import Derived.Test.YtolpdiifmacdbaaGreatQcoM6

set_option linter.unusedVariables false
set_option linter.unusedSimpArgs false
namespace Go.Proofs.YtolpdiifmacdbaaGreat.Round
open Go.RowKit Go.Proofs.YtolpdiifmacdbaaGreat.P Go.Proofs.YtolpdiifmacdbaaGreat.Num Go.Proofs.YtolpdiifmacdbaaGreat.BitsF Go.Proofs.YtolpdiifmacdbaaGreat.Fmt Go.Proofs.YtolpdiifmacdbaaGreatW.PrintWords Go.Proofs.YtolpdiifmacdbaaGreatW.PrintLast Go.Proofs.YtolpdiifmacdbaaGreatW.PrintMore

theorem qW (f : Int) (a b : Nat) (ha : a < 4294967296) (hb : b < 4294967296) : Ev (fun k => dR.f k f (a : Int) (b : Int)) (lL f a b) := by
 have tt : lL f a b = decide (dA f a = 0 ∧ dA f b = 3 ∨ dA f a = 3 ∧ dA f b = 0) := rfl
 refine Ev.congr (fun k => by unfold dR.f; rfl) (Ev.bind (pY f a ha) ?_)
 by_cases a0 : dA f a = 0
 ·refine Ev.congr (fun k => by rw [if_pos (decide_eq_true a0)]) (Ev.bind (iM f b hb) ?_)
  by_cases b3 : dA f b = 3
  ·rw [tt, show decide (dA f a = 0 ∧ dA f b = 3 ∨ dA f a = 3 ∧ dA f b = 0) = true from decide_eq_true (.inl ⟨a0, b3⟩)]
   exact Ev.congr (fun k => by rw [if_pos (decide_eq_true b3)]) (Ev.now _)
  ·refine Ev.congr (fun k => by rw [if_neg (by simp [b3])]) (Ev.bind (iM f a ha) ?_)
   rw [tt, show decide (dA f a = 0 ∧ dA f b = 3 ∨ dA f a = 3 ∧ dA f b = 0) = false from decide_eq_false (by omega)]
   exact Ev.congr (fun k => by rw [if_neg (by simp; omega)]) (Ev.now _)
 ·refine Ev.congr (fun k => by rw [if_neg (by simp [a0])]) (Ev.bind (iM f a ha) ?_)
  by_cases a3 : dA f a = 3
  ·refine Ev.congr (fun k => by rw [if_pos (decide_eq_true a3)]) (Ev.bind (pY f b hb) (Ev.congr (fun k => ?_) (Ev.now _)))
   rw [tt, show decide (dA f a = 0 ∧ dA f b = 3 ∨ dA f a = 3 ∧ dA f b = 0) = decide (dA f b = 0) from decide_eq_decide.mpr (by omega)]
  ·rw [tt, show decide (dA f a = 0 ∧ dA f b = 3 ∨ dA f a = 3 ∧ dA f b = 0) = false from decide_eq_false (by omega)]
   exact Ev.congr (fun k => by rw [if_neg (by simp [a3])]) (Ev.now _)
theorem vH (f : Int) (a b : Nat) (ha : a < 4294967296) (hb : b < 4294967296) (fa : lK f a < gF f) (fb : lK f b < gF f) : dY.f f (a : Int) (b : Int) = some ((dU f a != dU f b), bT f a + bT f b, ((bZ f a * bZ f b : Nat) : Int), false) := by
 obtain ⟨l1, l2⟩ := eZ f a
 obtain ⟨m1, m2⟩ := eZ f b
 unfold dY.f
 rw [of_f f a ha fa, Option.bind_some, of_f f b hb fb, Option.bind_some]
 dsimp only
 rw [bS (bT f a + bT f b) (by omega) (by omega), ← Int.natCast_mul, fH _ (qH f a b)]
theorem mul_ev (f mode : Int) (a b : Nat) (ha : a < 4294967296) (hb : b < 4294967296) : Ev (fun k => dI.f k f mode (a : Int) (b : Int)) ((mulN f mode a b : Int), mulX f mode a b) := by
 have hla := sI f a
 have hlb := sI f b
 refine Ev.congr (fun k => by unfold dI.f; rfl) (Ev.bind (uW f a b ha hb) ?_)
 unfold mulN mulX
 by_cases n : 4 ≤ dA f a ∨ 4 ≤ dA f b
 ·have e : (fE f a || fE f b) = true := by unfold fE; rw [Bool.or_eq_true, decide_eq_true_iff, decide_eq_true_iff]; exact n
  rw [if_pos n, if_pos n]
  exact Ev.congr (fun k => by rw [if_pos e]) (Ev.now _)
 ·have e : ¬ (fE f a || fE f b) = true := by unfold fE; rw [Bool.or_eq_true, decide_eq_true_iff, decide_eq_true_iff]; exact n
  rw [if_neg n, if_neg n]
  refine Ev.congr (fun k => by rw [if_neg e]) (Ev.bind (qW f a b ha hb) ?_)
  cases ht : lL f a b
  ·rw [if_neg (show ¬ false = true by decide), if_neg (show ¬ false = true by decide)]
   refine Ev.congr (fun k => by rw [if_neg (show ¬ false = true by decide), tL f a ha, Option.bind_some, tL f b hb, Option.bind_some]) (Ev.bind (iM f a ha) ?_)
   have inf : (dA f a = 3 ∨ dA f b = 3) → Ev (fun k => dI.j0 k f mode (a : Int) (b : Int) (dU f a != dU f b) true) (((if dA f a = 3 ∨ dA f b = 3 then nD f (dU f a != dU f b) else gD f mode (dU f a != dU f b) (bT f a + bT f b) (bZ f a * bZ f b) false : Nat) : Int),
     if dA f a = 3 ∨ dA f b = 3 then (false, false, false, false, false) else (false, false, kY f mode (dU f a != dU f b) (bT f a + bT f b) (bZ f a * bZ f b) false)) := by
    intro i
    rw [if_pos i, if_pos i]
    exact Ev.step (fun k => by rw [dI.j0, if_pos rfl, wE]; rfl) (Ev.now _)
   by_cases a3 : dA f a = 3
   ·exact Ev.congr (fun k => by rw [if_pos (decide_eq_true a3)]) (inf (.inl a3))
   ·refine Ev.congr (fun k => by rw [if_neg (by simp [a3])]) (Ev.bind (iM f b hb) ?_)
    by_cases b3 : dA f b = 3
    ·rw [decide_eq_true b3]; exact inf (.inr b3)
    ·rw [decide_eq_false b3, if_neg (show ¬ (dA f a = 3 ∨ dA f b = 3) by omega), if_neg (show ¬ (dA f a = 3 ∨ dA f b = 3) by omega)]
     obtain ⟨l1, l2⟩ := eZ f a
     obtain ⟨m1, m2⟩ := eZ f b
     have hp := qE f mode (dU f a != dU f b) (bT f a + bT f b) (bZ f a * bZ f b) false (qH f a b)
     rw [iP _ (by omega) (by omega)] at hp
     exact Ev.step (fun k => by rw [dI.j0, if_neg (by decide), vH f a b ha hb (jK f a (by omega)) (jK f b (by omega)), Option.bind_some]) (Ev.bind hp (Ev.now _))
  ·rw [if_pos (show true = true from rfl), if_pos (show true = true from rfl)]
   exact Ev.congr (fun k => by rw [if_pos (show true = true from rfl), zV]; rfl) (Ev.now _)
end Go.Proofs.YtolpdiifmacdbaaGreat.Round
