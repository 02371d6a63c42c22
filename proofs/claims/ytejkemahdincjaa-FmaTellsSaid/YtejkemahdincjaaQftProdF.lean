/- Products: the program's, as plain numbers. -/
import Derived.Test.YtejkemahdincjaaQftM9
import Derived.Test.YtejkemahdincjaaQftPackE
import Derived.Test.YtejkemahdincjaaQftM3

set_option linter.unusedVariables false
set_option linter.unusedSimpArgs false
namespace Go.Proofs.Ytejkemahdincjaa.Round
open Go.RowKit Go.Proofs.Ytejkemahdincjaa.P Go.Proofs.Ytejkemahdincjaa.Num Go.Proofs.Ytejkemahdincjaa.BitsF Go.Proofs.Ytejkemahdincjaa.Fmt Go.Proofs.YtejkemahdincjaaW.PrintWords Go.Proofs.YtejkemahdincjaaW.PrintLast Go.Proofs.YtejkemahdincjaaW.PrintMore

theorem torn_ev (f : Int) (a b : Nat) (ha : a < 4294967296) (hb : b < 4294967296) : Ev (fun k => prod_torn.f k f (a : Int) (b : Int)) (tornN f a b) := by
 have tt : tornN f a b = decide (clsN f a = 0 ∧ clsN f b = 3 ∨ clsN f a = 3 ∧ clsN f b = 0) := rfl
 refine Ev.congr (fun k => by unfold prod_torn.f; rfl) (Ev.bind (pzero_ev f a ha) ?_)
 by_cases a0 : clsN f a = 0
 ·refine Ev.congr (fun k => by rw [if_pos (decide_eq_true a0)]) (Ev.bind (pinf_ev f b hb) ?_)
  by_cases b3 : clsN f b = 3
  ·rw [tt, show decide (clsN f a = 0 ∧ clsN f b = 3 ∨ clsN f a = 3 ∧ clsN f b = 0) = true from decide_eq_true (.inl ⟨a0, b3⟩)]
   exact Ev.congr (fun k => by rw [if_pos (decide_eq_true b3)]) (Ev.now _)
  ·refine Ev.congr (fun k => by rw [if_neg (by simp [b3])]) (Ev.bind (pinf_ev f a ha) ?_)
   rw [tt, show decide (clsN f a = 0 ∧ clsN f b = 3 ∨ clsN f a = 3 ∧ clsN f b = 0) = false from decide_eq_false (by omega)]
   exact Ev.congr (fun k => by rw [if_neg (by simp; omega)]) (Ev.now _)
 ·refine Ev.congr (fun k => by rw [if_neg (by simp [a0])]) (Ev.bind (pinf_ev f a ha) ?_)
  by_cases a3 : clsN f a = 3
  ·refine Ev.congr (fun k => by rw [if_pos (decide_eq_true a3)]) (Ev.bind (pzero_ev f b hb) (Ev.congr (fun k => ?_) (Ev.now _)))
   rw [tt, show decide (clsN f a = 0 ∧ clsN f b = 3 ∨ clsN f a = 3 ∧ clsN f b = 0) = decide (clsN f b = 0) from decide_eq_decide.mpr (by omega)]
  ·rw [tt, show decide (clsN f a = 0 ∧ clsN f b = 3 ∨ clsN f a = 3 ∧ clsN f b = 0) = false from decide_eq_false (by omega)]
   exact Ev.congr (fun k => by rw [if_neg (by simp [a3])]) (Ev.now _)
theorem product_f (f : Int) (a b : Nat) (ha : a < 4294967296) (hb : b < 4294967296) (fa : expN f a < topN f) (fb : expN f b < topN f) : prod_product.f f (a : Int) (b : Int) = some ((negN f a != negN f b), lowestN f a + lowestN f b, ((wholeN f a * wholeN f b : Nat) : Int), false) := by
 obtain ⟨l1, l2⟩ := lowest_near f a
 obtain ⟨m1, m2⟩ := lowest_near f b
 unfold prod_product.f
 rw [of_f f a ha fa, Option.bind_some, of_f f b hb fb, Option.bind_some]
 dsimp only
 rw [w64_id (lowestN f a + lowestN f b) (by omega) (by omega), ← Int.natCast_mul, u64_id _ (mul_small f a b)]
end Go.Proofs.Ytejkemahdincjaa.Round
