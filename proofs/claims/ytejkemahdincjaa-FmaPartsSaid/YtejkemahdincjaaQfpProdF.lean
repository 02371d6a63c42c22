/- Products: the program's, as plain numbers. -/
import Derived.Test.YtejkemahdincjaaQfpM10
import Derived.Test.YtejkemahdincjaaQfpPackE
import Derived.Test.YtejkemahdincjaaQfpM6
import Derived.Test.YtejkemahdincjaaQfpM7

set_option linter.unusedVariables false
set_option linter.unusedSimpArgs false
namespace Go.Proofs.Ytejkemahdincjaa.Round
open Go.RowKit Go.Proofs.Ytejkemahdincjaa.P Go.Proofs.Ytejkemahdincjaa.Num Go.Proofs.Ytejkemahdincjaa.BitsF Go.Proofs.Ytejkemahdincjaa.Fmt Go.Proofs.YtejkemahdincjaaW.PrintWords Go.Proofs.YtejkemahdincjaaW.PrintLast Go.Proofs.YtejkemahdincjaaW.PrintMore

theorem torn_ev (f : Int) (a b : Nat) (ha : a < 4294967296) (hb : b < 4294967296) : Ev (fun k => prod_torn.f k f (a : Int) (b : Int)) (tornN f a b) := by
 have tt : tornN f a b = decide (clsN f a = 0 ∧ clsN f b = 3 ∨ clsN f a = 3 ∧ clsN f b = 0) := rfl
 refine Ev.congr (fun k => by unfold prod_torn.f; rfl) (Ev.bind (pzero_ev f a ha) ?_)
 by_cases a0 : clsN f a = 0
 ·refine Ev.congr (fun k => by rw [if_pos (decide_eq_true a0)]) (Ev.bind (pinf_ev f b hb) ?_)
  by_cases b3 : clsN f b = 3
  ·rw [tt, show decide (clsN f a = 0 ∧ clsN f b = 3 ∨ clsN f a = 3 ∧ clsN f b = 0) = true from decide_eq_true (.inl ⟨a0, b3⟩)]
   exact Ev.congr (fun k => by rw [if_pos (decide_eq_true b3)]) (Ev.now _)
  ·refine Ev.congr (fun k => by rw [if_neg (by simp [b3])]) (Ev.bind (pinf_ev f a ha) ?_)
   rw [tt, show decide (clsN f a = 0 ∧ clsN f b = 3 ∨ clsN f a = 3 ∧ clsN f b = 0) = false from decide_eq_false (by omega)]
   exact Ev.congr (fun k => by rw [if_neg (by simp; omega)]) (Ev.now _)
 ·refine Ev.congr (fun k => by rw [if_neg (by simp [a0])]) (Ev.bind (pinf_ev f a ha) ?_)
  by_cases a3 : clsN f a = 3
  ·refine Ev.congr (fun k => by rw [if_pos (decide_eq_true a3)]) (Ev.bind (pzero_ev f b hb) (Ev.congr (fun k => ?_) (Ev.now _)))
   rw [tt, show decide (clsN f a = 0 ∧ clsN f b = 3 ∨ clsN f a = 3 ∧ clsN f b = 0) = decide (clsN f b = 0) from decide_eq_decide.mpr (by omega)]
  ·rw [tt, show decide (clsN f a = 0 ∧ clsN f b = 3 ∨ clsN f a = 3 ∧ clsN f b = 0) = false from decide_eq_false (by omega)]
   exact Ev.congr (fun k => by rw [if_neg (by simp [a3])]) (Ev.now _)
theorem product_f (f : Int) (a b : Nat) (ha : a < 4294967296) (hb : b < 4294967296) (fa : expN f a < topN f) (fb : expN f b < topN f) : prod_product.f f (a : Int) (b : Int) = some ((negN f a != negN f b), lowestN f a + lowestN f b, ((wholeN f a * wholeN f b : Nat) : Int), false) := by
 obtain ⟨l1, l2⟩ := lowest_near f a
 obtain ⟨m1, m2⟩ := lowest_near f b
 unfold prod_product.f
 rw [of_f f a ha fa, Option.bind_some, of_f f b hb fb, Option.bind_some]
 dsimp only
 rw [w64_id (lowestN f a + lowestN f b) (by omega) (by omega), ← Int.natCast_mul, u64_id _ (mul_small f a b)]
theorem mul_ev (f mode : Int) (a b : Nat) (ha : a < 4294967296) (hb : b < 4294967296) : Ev (fun k => prod_Mul.f k f mode (a : Int) (b : Int)) ((mulN f mode a b : Int), mulX f mode a b) := by
 have hla := cls_le f a
 have hlb := cls_le f b
 refine Ev.congr (fun k => by unfold prod_Mul.f; rfl) (Ev.bind (pnans2_ev f a b ha hb) ?_)
 unfold mulN mulX
 by_cases n : 4 ≤ clsN f a ∨ 4 ≤ clsN f b
 ·have e : (isNan f a || isNan f b) = true := by unfold isNan; rw [Bool.or_eq_true, decide_eq_true_iff, decide_eq_true_iff]; exact n
  rw [if_pos n, if_pos n]
  exact Ev.congr (fun k => by rw [if_pos e]) (Ev.now _)
 ·have e : ¬ (isNan f a || isNan f b) = true := by unfold isNan; rw [Bool.or_eq_true, decide_eq_true_iff, decide_eq_true_iff]; exact n
  rw [if_neg n, if_neg n]
  refine Ev.congr (fun k => by rw [if_neg e]) (Ev.bind (torn_ev f a b ha hb) ?_)
  cases ht : tornN f a b
  ·rw [if_neg (show ¬ false = true by decide), if_neg (show ¬ false = true by decide)]
   refine Ev.congr (fun k => by rw [if_neg (show ¬ false = true by decide), neg_f f a ha, Option.bind_some, neg_f f b hb, Option.bind_some]) (Ev.bind (pinf_ev f a ha) ?_)
   have inf : (clsN f a = 3 ∨ clsN f b = 3) → Ev (fun k => prod_Mul.j0 k f mode (a : Int) (b : Int) (negN f a != negN f b) true) (((if clsN f a = 3 ∨ clsN f b = 3 then infN f (negN f a != negN f b) else packN f mode (negN f a != negN f b) (lowestN f a + lowestN f b) (wholeN f a * wholeN f b) false : Nat) : Int),
     if clsN f a = 3 ∨ clsN f b = 3 then (false, false, false, false, false) else (false, false, excN f mode (negN f a != negN f b) (lowestN f a + lowestN f b) (wholeN f a * wholeN f b) false)) := by
    intro i
    rw [if_pos i, if_pos i]
    exact Ev.step (fun k => by rw [prod_Mul.j0, if_pos rfl, inf_f]; rfl) (Ev.now _)
   by_cases a3 : clsN f a = 3
   ·exact Ev.congr (fun k => by rw [if_pos (decide_eq_true a3)]) (inf (.inl a3))
   ·refine Ev.congr (fun k => by rw [if_neg (by simp [a3])]) (Ev.bind (pinf_ev f b hb) ?_)
    by_cases b3 : clsN f b = 3
    ·rw [decide_eq_true b3]; exact inf (.inr b3)
    ·rw [decide_eq_false b3, if_neg (show ¬ (clsN f a = 3 ∨ clsN f b = 3) by omega), if_neg (show ¬ (clsN f a = 3 ∨ clsN f b = 3) by omega)]
     obtain ⟨l1, l2⟩ := lowest_near f a
     obtain ⟨m1, m2⟩ := lowest_near f b
     have hp := packs_ev f mode (negN f a != negN f b) (lowestN f a + lowestN f b) (wholeN f a * wholeN f b) false (mul_small f a b)
     rw [clampE_id _ (by omega) (by omega)] at hp
     exact Ev.step (fun k => by rw [prod_Mul.j0, if_neg (by decide), product_f f a b ha hb (cls_exp f a (by omega)) (cls_exp f b (by omega)), Option.bind_some]) (Ev.bind hp (Ev.now _))
  ·rw [if_pos (show true = true from rfl), if_pos (show true = true from rfl)]
   exact Ev.congr (fun k => by rw [if_pos (show true = true from rfl), bad_f]; rfl) (Ev.now _)
end Go.Proofs.Ytejkemahdincjaa.Round
