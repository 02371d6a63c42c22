import Derived.Test.YtejkemahdincjaaQfpProdF
import Derived.Test.YtejkemahdincjaaQfpM10
import Derived.Test.YtejkemahdincjaaQfpM7
import Derived.Test.YtejkemahdincjaaQfpM9
/- A product and a number together: the program's, of finite numbers, as plain numbers. -/
set_option linter.unusedVariables false
set_option linter.unusedSimpArgs false
namespace Go.Proofs.Ytejkemahdincjaa.Round
open Go.RowKit Go.Proofs.Ytejkemahdincjaa.P Go.Proofs.Ytejkemahdincjaa.Num Go.Proofs.Ytejkemahdincjaa.BitsF Go.Proofs.Ytejkemahdincjaa.Fmt Go.Proofs.YtejkemahdincjaaW.PrintWords Go.Proofs.YtejkemahdincjaaW.PrintLast Go.Proofs.YtejkemahdincjaaW.PrintMore

theorem pnans3_ev (f : Int) (a b c : Nat) (ha : a < 4294967296) (hb : b < 4294967296) (hc : c < 4294967296) : Ev (fun k => sum_Nans.f k f [(a : Int), (b : Int), (c : Int)]) ((nanN f : Int), isLoud f a || isLoud f b || isLoud f c, false, false, false, false, isNan f a || isNan f b || isNan f c) := by
 refine Ev.congr (fun k => by unfold sum_Nans.f; rfl) (pnans_step f _ 0 a false false _ (by simp) (by simp) ha rfl (pnans_step f _ 1 b _ _ _ (by simp) (by simp) hb rfl (pnans_step f _ 2 c _ _ _ (by simp) (by simp) hc rfl ?_)))
 rw [Bool.false_or, Bool.false_or]
 exact pnans_end f [(a : Int), (b : Int), (c : Int)] _ _
def trioN (f : Int) (a b c : Nat) : Bool × Int × Nat × Bool := exactN (negN f a != negN f b) (lowestN f a + lowestN f b) (wholeN f a * wholeN f b) (negN f c) (lowestN f c) (wholeN f c)
theorem mul_62 (f : Int) (a b : Nat) : wholeN f a * wholeN f b < 4611686018427387904 := by
 have wa := whole_lt f a
 have wb := whole_lt f b
 have hbd := fbounds f
 have hp24 : 2 ^ (fm f + 1) ≤ 16777216 := Nat.pow_le_pow_right (show 0 < 2 by decide) (show fm f + 1 ≤ 24 by omega)
 have := Nat.mul_le_mul (show wholeN f a ≤ 16777216 by omega) (show wholeN f b ≤ 16777216 by omega)
 omega
theorem fma_ev (f mode : Int) (a b c : Nat) (ha : a < 4294967296) (hb : b < 4294967296) (hc : c < 4294967296) (ca : clsN f a < 3) (cb : clsN f b < 3) (cc : clsN f c < 3) :
  Ev (fun k => prod_Fma.f k f mode (a : Int) (b : Int) (c : Int)) ((roundedN f mode (negN f a != negN f b) (negN f c) (trioN f a b c) : Int), false, false, roundedX f mode (trioN f a b c)) := by
 have ht : tornN f a b = false := by unfold tornN; exact decide_eq_false (by omega)
 have hto := torn_ev f a b ha hb
 rw [ht] at hto
 have hn := pnans3_ev f a b c ha hb hc
 have n0 : (isNan f a || isNan f b || isNan f c) = false := by
  unfold isNan
  rw [decide_eq_false (show ¬ 4 ≤ clsN f a by omega), decide_eq_false (show ¬ 4 ≤ clsN f b by omega), decide_eq_false (show ¬ 4 ≤ clsN f c by omega)]; rfl
 rw [n0] at hn
 obtain ⟨l1, l2⟩ := lowest_near f a
 obtain ⟨m1, m2⟩ := lowest_near f b
 obtain ⟨o1, o2⟩ := lowest_near f c
 have fa := cls_exp f a ca
 have fb := cls_exp f b cb
 have fc := cls_exp f c cc
 have hx := exact_ev (negN f a != negN f b) (lowestN f a + lowestN f b) (wholeN f a * wholeN f b) (negN f c) (lowestN f c) (wholeN f c) (mul_62 f a b) (whole_62 f c) (by omega) (by omega) (by omega) (by omega)
 obtain ⟨x1, x2, x3⟩ := exact_bounds (negN f a != negN f b) (lowestN f a + lowestN f b) (wholeN f a * wholeN f b) (negN f c) (lowestN f c) (wholeN f c) (mul_62 f a b) (whole_62 f c) (by omega) (by omega) (by omega) (by omega)
 refine Ev.congr (fun k => by unfold prod_Fma.f; rfl) (Ev.bind hto (Ev.bind hn ?_))
 dsimp only
 refine Ev.congr (fun k => by rw [if_neg (show ¬ false = true by decide), if_neg (show ¬ false = true by decide), neg_f f a ha, Option.bind_some, neg_f f b hb, Option.bind_some]) (Ev.bind (pinf_ev f a ha) ?_)
 refine Ev.congr (fun k => by rw [if_neg (by simp; omega)]) (Ev.bind (pinf_ev f b hb) (Ev.bind (pinf_ev f c hc) ?_))
 rw [decide_eq_false (show ¬ clsN f b = 3 by omega), decide_eq_false (show ¬ clsN f c = 3 by omega)]
 refine Ev.step (fun k => by rw [prod_Fma.j0, if_neg (by decide)]) (Ev.step (fun k => by rw [prod_Fma.j1, if_neg (by decide), product_f f a b ha hb fa fb, Option.bind_some, of_f f c hc fc, Option.bind_some]) ?_)
 dsimp only
 refine Ev.bind hx ?_
 unfold trioN castE
 generalize exactN (negN f a != negN f b) (lowestN f a + lowestN f b) (wholeN f a * wholeN f b) (negN f c) (lowestN f c) (wholeN f c) = r at *
 obtain ⟨rn, re, rs, rm⟩ := r
 dsimp only at *
 have hp := packs_ev f mode rn re rs rm (by omega)
 rw [clampE_id _ (by omega) (by omega)] at hp
 have pack : ¬ (rs = 0 ∧ rm = false) → Ev (fun k => prod_Fma.j2 k f mode (negN f a != negN f b) false (negN f c) (lowestN f c) (wholeN f c : Int) false rn re (rs : Int) rm) ((roundedN f mode (negN f a != negN f b) (negN f c) (rn, re, rs, rm) : Int), false, false, roundedX f mode (rn, re, rs, rm)) := by
  intro z
  have zz : ¬ (rs, rm) = (0, false) := fun e => z ⟨(Prod.mk.inj e).1, (Prod.mk.inj e).2⟩
  unfold roundedN roundedX
  rw [if_neg zz, if_neg zz]
  exact Ev.step (fun k => by rw [prod_Fma.j2, if_neg (by decide)]) (Ev.bind hp (Ev.now _))
 by_cases s0 : rs = 0
 ·cases rm
  ·have zz : (rs, false) = (0, false) := by rw [s0]
   refine Ev.congr (fun k => by rw [if_pos (by omega)]) (Ev.step (fun k => by rw [prod_Fma.j2, if_pos (by decide), nought_f]) (Ev.congr (fun k => ?_) (Ev.now _)))
   unfold roundedN roundedX
   rw [if_pos zz, if_pos zz]; rfl
  ·exact Ev.congr (fun k => by rw [if_pos (by omega)]; rfl) (pack (by simp))
 ·exact Ev.congr (fun k => by rw [if_neg (by omega)]) (pack (fun h => s0 h.1))
end Go.Proofs.Ytejkemahdincjaa.Round

/- The reference's differences, products with a sum: as plain numbers. -/
namespace Go.Proofs.Ytejkemahdincjaa.Round
open Go.RowKit Go.Proofs.Ytejkemahdincjaa.P Go.Proofs.Ytejkemahdincjaa.E Go.Proofs.Ytejkemahdincjaa.Num Go.Proofs.Ytejkemahdincjaa.BitsF Go.Proofs.Ytejkemahdincjaa.Fmt Go.Proofs.YtejkemahdincjaaW.PrintWords Go.Proofs.YtejkemahdincjaaW.PrintLast Go.Proofs.YtejkemahdincjaaW.PrintMore

def fmaN (f mode : Int) (a b c : Nat) : Nat :=
  if 4 ≤ clsN f a ∨ 4 ≤ clsN f b ∨ 4 ≤ clsN f c then nanN f else if tornN f a b = true then nanN f
  else if clsN f a = 3 ∨ clsN f b = 3 then (if clsN f c = 3 ∧ negN f c ≠ (negN f a != negN f b) then nanN f else infN f (negN f a != negN f b))
  else if clsN f c = 3 then infN f (negN f c) else roundedN f mode (negN f a != negN f b) (negN f c) (trioN f a b c)
def fmaX (f mode : Int) (a b c : Nat) : Bool × Bool × Bool × Bool × Bool :=
  if 4 ≤ clsN f a ∨ 4 ≤ clsN f b ∨ 4 ≤ clsN f c then (isLoud f a || isLoud f b || isLoud f c || tornN f a b, false, false, false, false) else if tornN f a b = true then (true, false, false, false, false)
  else if clsN f a = 3 ∨ clsN f b = 3 then (if clsN f c = 3 ∧ negN f c ≠ (negN f a != negN f b) then (true, false, false, false, false) else (false, false, false, false, false))
  else if clsN f c = 3 then (false, false, false, false, false) else (false, false, roundedX f mode (trioN f a b c))
theorem fma_fin (f mode : Int) (a b c : Nat) (ca : clsN f a < 3) (cb : clsN f b < 3) (cc : clsN f c < 3) : fmaN f mode a b c = roundedN f mode (negN f a != negN f b) (negN f c) (trioN f a b c) ∧ fmaX f mode a b c = (false, false, roundedX f mode (trioN f a b c)) := by
  have ht : ¬ tornN f a b = true := by unfold tornN; rw [decide_eq_true_iff]; omega
  unfold fmaN fmaX
  rw [if_neg (show ¬ (4 ≤ clsN f a ∨ 4 ≤ clsN f b ∨ 4 ≤ clsN f c) by omega), if_neg (show ¬ (4 ≤ clsN f a ∨ 4 ≤ clsN f b ∨ 4 ≤ clsN f c) by omega), if_neg ht, if_neg ht, if_neg (show ¬ (clsN f a = 3 ∨ clsN f b = 3) by omega), if_neg (show ¬ (clsN f a = 3 ∨ clsN f b = 3) by omega), if_neg (show ¬ clsN f c = 3 by omega), if_neg (show ¬ clsN f c = 3 by omega)]
  exact ⟨rfl, rfl⟩
theorem nan3 (f : Int) (a b c : Nat) : (isNan f a || isNan f b || isNan f c) = true ↔ (4 ≤ clsN f a ∨ 4 ≤ clsN f b ∨ 4 ≤ clsN f c) := by
  unfold isNan
  rw [Bool.or_eq_true, Bool.or_eq_true, decide_eq_true_iff, decide_eq_true_iff, decide_eq_true_iff, or_assoc]
theorem fma_all_ev (f mode : Int) (a b c : Nat) (ha : a < 4294967296) (hb : b < 4294967296) (hc : c < 4294967296) :
    Ev (fun k => prod_Fma.f k f mode (a : Int) (b : Int) (c : Int)) ((fmaN f mode a b c : Int), fmaX f mode a b c) := by
  by_cases n : 4 ≤ clsN f a ∨ 4 ≤ clsN f b ∨ 4 ≤ clsN f c
  · have e := (nan3 f a b c).mpr n
    unfold fmaN fmaX
    rw [if_pos n, if_pos n]
    refine Ev.congr (fun k => by unfold prod_Fma.f; rfl) (Ev.bind (torn_ev f a b ha hb) (Ev.bind (pnans3_ev f a b c ha hb hc) (Ev.congr (fun k => ?_) (Ev.now _))))
    dsimp only
    rw [if_pos e]
    cases h : (isLoud f a || isLoud f b || isLoud f c)
    · rw [if_neg (by decide), Bool.false_or]
    · rw [if_pos rfl, Bool.true_or]
  · have e : ¬ (isNan f a || isNan f b || isNan f c) = true := fun h => n ((nan3 f a b c).mp h)
    by_cases t : tornN f a b = true
    · unfold fmaN fmaX
      rw [if_neg n, if_neg n, if_pos t, if_pos t]
      refine Ev.congr (fun k => by unfold prod_Fma.f; rfl) (Ev.bind (torn_ev f a b ha hb) (Ev.bind (pnans3_ev f a b c ha hb hc) (Ev.congr (fun k => ?_) (Ev.now _))))
      dsimp only
      rw [if_neg e, if_pos t, bad_f, Option.bind_some]
    · by_cases i : clsN f a = 3 ∨ clsN f b = 3 ∨ clsN f c = 3
      · have hin := infinite_ev f (negN f a != negN f b) (negN f c) (decide (clsN f a = 3 ∨ clsN f b = 3)) (decide (clsN f c = 3))
        have hj1 : Ev (fun k => prod_Fma.j1 k f mode (a : Int) (b : Int) (c : Int) (negN f a != negN f b) (decide (clsN f a = 3 ∨ clsN f b = 3)) (decide (clsN f c = 3)) true) ((fmaN f mode a b c : Int), fmaX f mode a b c) := by
          refine Ev.step (fun k => by rw [prod_Fma.j1, if_pos rfl, neg_f f c hc, Option.bind_some]) (Ev.bind hin (Ev.congr (fun k => ?_) (Ev.now _)))
          unfold fmaN fmaX
          rw [if_neg n, if_neg n, if_neg t, if_neg t]
          simp only [decide_eq_true_iff]
          by_cases ab : clsN f a = 3 ∨ clsN f b = 3
          · by_cases c3 : clsN f c = 3 ∧ negN f c ≠ (negN f a != negN f b)
            · have h1 : (clsN f a = 3 ∨ clsN f b = 3) ∧ clsN f c = 3 ∧ (negN f a != negN f b) ≠ negN f c := ⟨ab, c3.1, fun h => c3.2 h.symm⟩
              rw [if_pos h1, if_pos ab, if_pos c3, if_pos ab, if_pos c3]
            · have h1 : ¬ ((clsN f a = 3 ∨ clsN f b = 3) ∧ clsN f c = 3 ∧ (negN f a != negN f b) ≠ negN f c) := fun h => c3 ⟨h.2.1, fun e => h.2.2 e.symm⟩
              rw [if_neg h1, if_pos ab, if_pos ab, if_neg c3, if_pos ab, if_neg c3]
          · have c3 : clsN f c = 3 := by omega
            have h1 : ¬ ((clsN f a = 3 ∨ clsN f b = 3) ∧ clsN f c = 3 ∧ (negN f a != negN f b) ≠ negN f c) := fun h => ab h.1
            rw [if_neg h1, if_neg ab, if_neg ab, if_pos c3, if_neg ab, if_pos c3]
        have hj : Ev (fun k => prod_Fma.j0 k f mode (a : Int) (b : Int) (c : Int) (negN f a != negN f b) (decide (clsN f a = 3 ∨ clsN f b = 3)) (decide (clsN f c = 3))) ((fmaN f mode a b c : Int), fmaX f mode a b c) := by
          by_cases ab : clsN f a = 3 ∨ clsN f b = 3
          · exact Ev.step (fun k => by rw [prod_Fma.j0, if_pos (decide_eq_true ab)]) hj1
          · have c3 : clsN f c = 3 := by omega
            refine Ev.step (fun k => by rw [prod_Fma.j0, if_neg (by rw [decide_eq_true_iff]; exact ab)]) ?_
            exact Ev.congr (fun k => by rw [decide_eq_true c3]) hj1
        refine Ev.congr (fun k => by unfold prod_Fma.f; rfl) (Ev.bind (torn_ev f a b ha hb) (Ev.bind (pnans3_ev f a b c ha hb hc) ?_))
        dsimp only
        refine Ev.congr (fun k => by rw [if_neg e, if_neg t, neg_f f a ha, Option.bind_some, neg_f f b hb, Option.bind_some]) (Ev.bind (pinf_ev f a ha) ?_)
        by_cases a3 : clsN f a = 3
        · refine Ev.congr (fun k => by rw [if_pos (decide_eq_true a3)]) (Ev.bind (pinf_ev f c hc) ?_)
          rw [decide_eq_true (show clsN f a = 3 ∨ clsN f b = 3 from .inl a3)] at hj
          exact hj
        · refine Ev.congr (fun k => by rw [if_neg (by rw [decide_eq_true_iff]; exact a3)]) (Ev.bind (pinf_ev f b hb) (Ev.bind (pinf_ev f c hc) ?_))
          rw [show decide (clsN f a = 3 ∨ clsN f b = 3) = decide (clsN f b = 3) from decide_eq_decide.mpr ⟨fun h => h.resolve_left a3, .inr⟩] at hj
          exact hj
      · have h1 := cls_le f a
        obtain ⟨e1, e2⟩ := fma_fin f mode a b c (by omega) (by omega) (by omega)
        rw [e1, e2]
        exact fma_ev f mode a b c ha hb hc (by omega) (by omega) (by omega)
end Go.Proofs.Ytejkemahdincjaa.Round

/- Products by one and by nought: plain numbers alone. -/
namespace Go.Proofs.Ytejkemahdincjaa.Round
open Go.RowKit Go.Proofs.Ytejkemahdincjaa.P Go.Proofs.Ytejkemahdincjaa.Num Go.Proofs.Ytejkemahdincjaa.BitsF Go.Proofs.Ytejkemahdincjaa.Fmt Go.Proofs.YtejkemahdincjaaW.PrintWords Go.Proofs.YtejkemahdincjaaW.PrintLast Go.Proofs.YtejkemahdincjaaW.PrintMore

def unoN (f : Int) : Nat := oneN f * 2 ^ fm f + 0 + signN f false
theorem uno_parts (f : Int) : negN f (unoN f) = false ∧ unoN f < 4294967296 ∧ clsN f (unoN f) = 2 ∧ wholeN f (unoN f) = 2 ^ fm f ∧ lowestN f (unoN f) = -(fm f : Int) := by
 have hp := Nat.two_pow_pos (fm f)
 have ho : leastN f + (oneN f : Int) = 1 ∧ 1 ≤ oneN f ∧ oneN f < topN f := by
  rcases one_cases f with ⟨c1, c2, c3, c4, c5⟩ | ⟨c1, c2, c3, c4, c5⟩ | ⟨c1, c2, c3, c4, c5⟩ <;> omega
 obtain ⟨b1, b2, b3, b4, b5, b6, b7, b8, b9⟩ := norm_all f false (oneN f) 0 ho.2.1 ho.2.2 hp
 exact ⟨b1, b4, b7, by unfold unoN; rw [b8, Nat.zero_add], by unfold unoN; rw [b9]; omega⟩
end Go.Proofs.Ytejkemahdincjaa.Round
