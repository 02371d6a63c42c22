/- A product and a sum of which one part is plain: plain numbers alone. -/
import Derived.Test.YtejkemahdincjaaQfpM11

set_option linter.unusedVariables false
set_option linter.unusedSimpArgs false
namespace Go.Proofs.Ytejkemahdincjaa.Round
open Go.RowKit Go.Proofs.Ytejkemahdincjaa.P Go.Proofs.Ytejkemahdincjaa.Num Go.Proofs.Ytejkemahdincjaa.BitsF Go.Proofs.Ytejkemahdincjaa.Fmt Go.Proofs.YtejkemahdincjaaW.PrintWords Go.Proofs.YtejkemahdincjaaW.PrintLast Go.Proofs.YtejkemahdincjaaW.PrintMore

theorem fma_nought (f mode : Int) (x y : Nat) : fmaN f mode x y (signN f (negN f x != negN f y)) = mulN f mode x y ∧ fmaX f mode x y (signN f (negN f x != negN f y)) = mulX f mode x y := by
 obtain ⟨z1, z2, z3⟩ := zero_all f (negN f x != negN f y)
 have hz := (none_low f _ z1).2
 have hla := cls_le f x
 unfold fmaN fmaX mulN mulX trioN
 rw [z1, z2, hz]
 generalize hs : (negN f x != negN f y) = s
 by_cases n : 4 ≤ clsN f x ∨ 4 ≤ clsN f y
 ·have n3 : 4 ≤ clsN f x ∨ 4 ≤ clsN f y ∨ 4 ≤ 0 := by omega
  have t : tornN f x y = false := by unfold tornN; exact decide_eq_false (by omega)
  have l : isLoud f (signN f s) = false := by unfold isLoud; rw [← hs, z1]; rfl
  rw [if_pos n3, if_pos n3, if_pos n, if_pos n, t, l, Bool.or_false, Bool.or_false]; exact ⟨rfl, rfl⟩
 ·have n3 : ¬ (4 ≤ clsN f x ∨ 4 ≤ clsN f y ∨ 4 ≤ 0) := by omega
  rw [if_neg n3, if_neg n3, if_neg n, if_neg n]
  by_cases t : tornN f x y = true
  ·rw [if_pos t, if_pos t, if_pos t, if_pos t]; exact ⟨rfl, rfl⟩
  ·rw [if_neg t, if_neg t, if_neg t, if_neg t]
   have z3 : ¬ ((0 : Nat) = 3 ∧ s ≠ s) := fun h => h.2 rfl
   have z4 : ¬ ((0 : Nat) = 3) := by decide
   by_cases i : clsN f x = 3 ∨ clsN f y = 3
   ·rw [if_pos i, if_pos i, if_pos i, if_pos i, if_neg z3, if_neg z3]; exact ⟨rfl, rfl⟩
   ·rw [if_neg i, if_neg i, if_neg i, if_neg i, if_neg z4, if_neg z4]
    unfold exactN
    by_cases w : wholeN f x * wholeN f y = 0
    ·obtain ⟨p1, p2⟩ := pack_none f mode s (lowestN f x + lowestN f y)
     rw [if_pos w, w, p1, p2]
     exact ⟨(if_pos rfl).trans (if_pos rfl), by unfold roundedX; rw [if_pos rfl]⟩
    ·have hne : ¬ (wholeN f x * wholeN f y, false) = (0, false) := fun e => w (Prod.mk.inj e).1
     rw [if_neg w, if_pos rfl]
     unfold roundedN roundedX
     rw [if_neg hne, if_neg hne]; exact ⟨rfl, rfl⟩
theorem fma_one (f mode : Int) (x y : Nat) : fmaN f mode (unoN f) x y = sumN f mode x y ∧ fmaX f mode (unoN f) x y = sumX f mode x y := by
 obtain ⟨u1, u2, u3, u4, u5⟩ := uno_parts f
 have hla := cls_le f x
 have hlb := cls_le f y
 have t : tornN f (unoN f) x = false ∨ clsN f x = 0 := by
  by_cases c : clsN f x = 0
  ·exact .inr c
  ·exact .inl (by unfold tornN; rw [u3]; exact decide_eq_false (by omega))
 have t : tornN f (unoN f) x = false := by unfold tornN; rw [u3]; exact decide_eq_false (by omega)
 have l : isLoud f (unoN f) = false := by unfold isLoud; rw [u3]; rfl
 unfold fmaN fmaX sumN sumX
 rw [u3, t, l, u1, Bool.false_or, Bool.or_false, show (false != negN f x) = negN f x from Bool.false_bne _]
 by_cases n : 4 ≤ clsN f x ∨ 4 ≤ clsN f y
 ·have n3 : 4 ≤ 2 ∨ 4 ≤ clsN f x ∨ 4 ≤ clsN f y := .inr n
  rw [if_pos n3, if_pos n3, if_pos n, if_pos n]; exact ⟨rfl, rfl⟩
 ·have n3 : ¬ (4 ≤ 2 ∨ 4 ≤ clsN f x ∨ 4 ≤ clsN f y) := by omega
  have tt : ¬ false = true := by decide
  rw [if_neg n3, if_neg n3, if_neg n, if_neg n, if_neg tt, if_neg tt]
  by_cases a3 : clsN f x = 3
  ·have i : 2 = 3 ∨ clsN f x = 3 := .inr a3
   have o : clsN f x = 3 ∨ clsN f y = 3 := .inl a3
   rw [if_pos i, if_pos i]
   by_cases e : clsN f y = 3 ∧ negN f y ≠ negN f x
   ·have e2 : clsN f x = 3 ∧ clsN f y = 3 ∧ negN f x ≠ negN f y := ⟨a3, e.1, fun h => e.2 h.symm⟩
    rw [if_pos e, if_pos e, if_pos e2, if_pos e2]; exact ⟨rfl, rfl⟩
   ·have e2 : ¬ (clsN f x = 3 ∧ clsN f y = 3 ∧ negN f x ≠ negN f y) := fun h => e ⟨h.2.1, fun q => h.2.2 q.symm⟩
    rw [if_neg e, if_neg e, if_neg e2, if_neg e2, if_pos a3, if_pos o]; exact ⟨rfl, rfl⟩
  ·have i : ¬ (2 = 3 ∨ clsN f x = 3) := by omega
   have e2 : ¬ (clsN f x = 3 ∧ clsN f y = 3 ∧ negN f x ≠ negN f y) := fun h => a3 h.1
   rw [if_neg i, if_neg i, if_neg e2, if_neg e2, if_neg a3]
   by_cases b3 : clsN f y = 3
   ·have o : clsN f x = 3 ∨ clsN f y = 3 := .inr b3
    rw [if_pos b3, if_pos b3, if_pos b3, if_pos o]; exact ⟨rfl, rfl⟩
   ·have o : ¬ (clsN f x = 3 ∨ clsN f y = 3) := by omega
    rw [if_neg b3, if_neg b3, if_neg b3, if_neg o]
    have hb := fbounds f
    have cx : clsN f x < 3 := by omega
    have cy : clsN f y < 3 := by omega
    have lx := lowest_fin f x cx
    have ly := lowest_fin f y cy
    have m60 := mul_60 f (unoN f) x
    unfold trioN pairN
    rw [u1, show (false != negN f x) = negN f x from Bool.false_bne _]
    rw [u4, u5] at *
    have w1 := exact_wide f mode (negN f x) (-(fm f : Int) + lowestN f x) (2 ^ fm f * wholeN f x) (negN f y) (lowestN f y) (wholeN f y) (by omega) (by omega) m60 (whole_60 f y)
    have w2 := exact_wide f mode (negN f x) (lowestN f x) (wholeN f x) (negN f y) (lowestN f y) (wholeN f y) (by omega) (by omega) (whole_60 f x) (whole_60 f y)
    have e : 2 ^ fm f * wholeN f x * 2 ^ (-(fm f : Int) + lowestN f x + 298).toNat = wholeN f x * 2 ^ (lowestN f x + 298).toNat := by
     rw [Nat.mul_comm (2 ^ fm f), Nat.mul_assoc, ← Nat.pow_add, show fm f + (-(fm f : Int) + lowestN f x + 298).toNat = (lowestN f x + 298).toNat by omega]
    rw [e, ← w2.1, ← w2.2] at w1
    rw [w1.1, w1.2]; exact ⟨rfl, rfl⟩
theorem neg_xor (f : Int) (x y : Nat) : negN f (x ^^^ y) = (negN f x != negN f y) := by
 unfold negN
 rw [← Nat.testBit_eq_decide_div_mod_eq, ← Nat.testBit_eq_decide_div_mod_eq, ← Nat.testBit_eq_decide_div_mod_eq, Nat.testBit_xor]
theorem sign_ne (f : Int) (b : Bool) : (((signN f b : Nat) : Int) != 0) = b := by
 have := Nat.two_pow_pos (fe f + fm f)
 unfold signN
 cases b
 ·rfl
 ·rw [if_pos rfl]
  exact bne_iff_ne.mpr (by omega)
end Go.Proofs.Ytejkemahdincjaa.Round
