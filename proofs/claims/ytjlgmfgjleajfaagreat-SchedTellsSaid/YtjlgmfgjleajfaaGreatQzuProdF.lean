/- Products: the program's, as plain numbers. -/
import Derived.Test.YtjlgmfgjleajfaaGreatQzuM10
import Derived.Test.YtjlgmfgjleajfaaGreatQzuPackE
import Derived.Test.YtjlgmfgjleajfaaGreatQzuM8

set_option linter.unusedVariables false
set_option linter.unusedSimpArgs false
namespace Go.Proofs.YtjlgmfgjleajfaaGreat.Round
open Go.RowKit Go.Proofs.YtjlgmfgjleajfaaGreat.P Go.Proofs.YtjlgmfgjleajfaaGreat.Num Go.Proofs.YtjlgmfgjleajfaaGreat.BitsF Go.Proofs.YtjlgmfgjleajfaaGreat.Fmt Go.Proofs.YtjlgmfgjleajfaaGreatW.PrintWords Go.Proofs.YtjlgmfgjleajfaaGreatW.PrintLast Go.Proofs.YtjlgmfgjleajfaaGreatW.PrintMore

theorem sS (f : Int) (a b : Nat) (ha : a < 4294967296) (hb : b < 4294967296) : Ev (fun k => dK.f k f (a : Int) (b : Int)) (kF f a b) := by
 have tt : kF f a b = decide (bK f a = 0 ∧ bK f b = 3 ∨ bK f a = 3 ∧ bK f b = 0) := rfl
 refine Ev.congr (fun k => by unfold dK.f; rfl) (Ev.bind (aAe f a ha) ?_)
 by_cases a0 : bK f a = 0
 ·refine Ev.congr (fun k => by rw [if_pos (decide_eq_true a0)]) (Ev.bind (jY f b hb) ?_)
  by_cases b3 : bK f b = 3
  ·rw [tt, show decide (bK f a = 0 ∧ bK f b = 3 ∨ bK f a = 3 ∧ bK f b = 0) = true from decide_eq_true (.inl ⟨a0, b3⟩)]
   exact Ev.congr (fun k => by rw [if_pos (decide_eq_true b3)]) (Ev.now _)
  ·refine Ev.congr (fun k => by rw [if_neg (by simp [b3])]) (Ev.bind (jY f a ha) ?_)
   rw [tt, show decide (bK f a = 0 ∧ bK f b = 3 ∨ bK f a = 3 ∧ bK f b = 0) = false from decide_eq_false (by omega)]
   exact Ev.congr (fun k => by rw [if_neg (by simp; omega)]) (Ev.now _)
 ·refine Ev.congr (fun k => by rw [if_neg (by simp [a0])]) (Ev.bind (jY f a ha) ?_)
  by_cases a3 : bK f a = 3
  ·refine Ev.congr (fun k => by rw [if_pos (decide_eq_true a3)]) (Ev.bind (aAe f b hb) (Ev.congr (fun k => ?_) (Ev.now _)))
   rw [tt, show decide (bK f a = 0 ∧ bK f b = 3 ∨ bK f a = 3 ∧ bK f b = 0) = decide (bK f b = 0) from decide_eq_decide.mpr (by omega)]
  ·rw [tt, show decide (bK f a = 0 ∧ bK f b = 3 ∨ bK f a = 3 ∧ bK f b = 0) = false from decide_eq_false (by omega)]
   exact Ev.congr (fun k => by rw [if_neg (by simp [a3])]) (Ev.now _)
theorem xJ (f : Int) (a b : Nat) (ha : a < 4294967296) (hb : b < 4294967296) (fa : mF f a < iT f) (fb : mF f b < iT f) : eQ.f f (a : Int) (b : Int) = some ((dE f a != dE f b), bA f a + bA f b, ((bH f a * bH f b : Nat) : Int), false) := by
 obtain ⟨l1, l2⟩ := fB f a
 obtain ⟨m1, m2⟩ := fB f b
 unfold eQ.f
 rw [of_f f a ha fa, Option.bind_some, of_f f b hb fb, Option.bind_some]
 dsimp only
 rw [cK (bA f a + bA f b) (by omega) (by omega), ← Int.natCast_mul, iD _ (pU f a b)]
theorem mul_ev (f mode : Int) (a b : Nat) (ha : a < 4294967296) (hb : b < 4294967296) : Ev (fun k => cZ.f k f mode (a : Int) (b : Int)) ((mulN f mode a b : Int), mulX f mode a b) := by
 have hla := qZ f a
 have hlb := qZ f b
 refine Ev.congr (fun k => by unfold cZ.f; rfl) (Ev.bind (o7 f a b ha hb) ?_)
 unfold mulN mulX
 by_cases n : 4 ≤ bK f a ∨ 4 ≤ bK f b
 ·have e : (eX f a || eX f b) = true := by unfold eX; rw [Bool.or_eq_true, decide_eq_true_iff, decide_eq_true_iff]; exact n
  rw [if_pos n, if_pos n]
  exact Ev.congr (fun k => by rw [if_pos e]) (Ev.now _)
 ·have e : ¬ (eX f a || eX f b) = true := by unfold eX; rw [Bool.or_eq_true, decide_eq_true_iff, decide_eq_true_iff]; exact n
  rw [if_neg n, if_neg n]
  refine Ev.congr (fun k => by rw [if_neg e]) (Ev.bind (sS f a b ha hb) ?_)
  cases ht : kF f a b
  ·rw [if_neg (show ¬ false = true by decide), if_neg (show ¬ false = true by decide)]
   refine Ev.congr (fun k => by rw [if_neg (show ¬ false = true by decide), tJ f a ha, Option.bind_some, tJ f b hb, Option.bind_some]) (Ev.bind (jY f a ha) ?_)
   have inf : (bK f a = 3 ∨ bK f b = 3) → Ev (fun k => cZ.j0 k f mode (a : Int) (b : Int) (dE f a != dE f b) true) (((if bK f a = 3 ∨ bK f b = 3 then oH f (dE f a != dE f b) else gD f mode (dE f a != dE f b) (bA f a + bA f b) (bH f a * bH f b) false : Nat) : Int),
     if bK f a = 3 ∨ bK f b = 3 then (false, false, false, false, false) else (false, false, lW f mode (dE f a != dE f b) (bA f a + bA f b) (bH f a * bH f b) false)) := by
    intro i
    rw [if_pos i, if_pos i]
    exact Ev.step (fun k => by rw [cZ.j0, if_pos rfl, aAU]; rfl) (Ev.now _)
   by_cases a3 : bK f a = 3
   ·exact Ev.congr (fun k => by rw [if_pos (decide_eq_true a3)]) (inf (.inl a3))
   ·refine Ev.congr (fun k => by rw [if_neg (by simp [a3])]) (Ev.bind (jY f b hb) ?_)
    by_cases b3 : bK f b = 3
    ·rw [decide_eq_true b3]; exact inf (.inr b3)
    ·rw [decide_eq_false b3, if_neg (show ¬ (bK f a = 3 ∨ bK f b = 3) by omega), if_neg (show ¬ (bK f a = 3 ∨ bK f b = 3) by omega)]
     obtain ⟨l1, l2⟩ := fB f a
     obtain ⟨m1, m2⟩ := fB f b
     have hp := pM f mode (dE f a != dE f b) (bA f a + bA f b) (bH f a * bH f b) false (pU f a b)
     rw [iV _ (by omega) (by omega)] at hp
     exact Ev.step (fun k => by rw [cZ.j0, if_neg (by decide), xJ f a b ha hb (iZ f a (by omega)) (iZ f b (by omega)), Option.bind_some]) (Ev.bind hp (Ev.now _))
  ·rw [if_pos (show true = true from rfl), if_pos (show true = true from rfl)]
   exact Ev.congr (fun k => by rw [if_pos (show true = true from rfl), bad_f]; rfl) (Ev.now _)
end Go.Proofs.YtjlgmfgjleajfaaGreat.Round
