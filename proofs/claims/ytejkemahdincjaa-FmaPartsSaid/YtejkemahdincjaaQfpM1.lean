/- What one side answers the other answers. -/
import Derived.Test.YtejkemahdincjaaQfpWMore

set_option linter.unusedVariables false
set_option linter.unusedSimpArgs false
namespace Go.Proofs.Ytejkemahdincjaa.P
open Go.RowKit Go.Proofs.YtejkemahdincjaaW.PrintWords Go.Proofs.YtejkemahdincjaaW.PrintLast Go.Proofs.YtejkemahdincjaaW.PrintMore
theorem LeO.ite3 {α : Type} {c d : Prop} [Decidable c] [Decidable d] (e : c ↔ d) {a a' b b' : Option α} (h : c → LeO a a') (k : ¬ c → LeO b b') : LeO (if c then a else b) (if d then a' else b') := by
 by_cases x : c
 ·rw [if_pos x, if_pos (e.mp x)]; exact h x
 ·rw [if_neg x, if_neg (fun y => x (e.mpr y))]; exact k x
theorem LeO.pos {α : Type} {c : Prop} [Decidable c] (x : c) {a b b' : Option α} (h : LeO a b) : LeO a (if c then b else b') := by rw [if_pos x]; exact h
theorem LeO.neg {α : Type} {c : Prop} [Decidable c] (x : ¬ c) {a b b' : Option α} (h : LeO a b') : LeO a (if c then b else b') := by rw [if_neg x]; exact h
theorem LeO.posl {α : Type} {c : Prop} [Decidable c] (x : c) {a b b' : Option α} (h : LeO b a) : LeO (if c then b else b') a := by rw [if_pos x]; exact h
theorem LeO.negl {α : Type} {c : Prop} [Decidable c] (x : ¬ c) {a b b' : Option α} (h : LeO b' a) : LeO (if c then b else b') a := by rw [if_neg x]; exact h
end Go.Proofs.Ytejkemahdincjaa.P
