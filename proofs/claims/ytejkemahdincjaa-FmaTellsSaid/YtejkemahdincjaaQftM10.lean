import Derived.Test.YtejkemahdincjaaQftProdF
import Derived.Test.YtejkemahdincjaaQftM9
import Derived.Test.YtejkemahdincjaaQftM3
import Derived.Test.YtejkemahdincjaaQftM1
import Derived.Test.YtejkemahdincjaaQftM7
import Derived.Test.YtejkemahdincjaaQftM5
import Derived.Test.YtejkemahdincjaaQftM6
/- A product and a number together: the program's, of finite numbers, as plain numbers. -/
set_option linter.unusedVariables false
set_option linter.unusedSimpArgs false
namespace Go.Proofs.Ytejkemahdincjaa.Round
open Go.RowKit Go.Proofs.Ytejkemahdincjaa.P Go.Proofs.Ytejkemahdincjaa.Num Go.Proofs.Ytejkemahdincjaa.BitsF Go.Proofs.Ytejkemahdincjaa.Fmt Go.Proofs.YtejkemahdincjaaW.PrintWords Go.Proofs.YtejkemahdincjaaW.PrintLast Go.Proofs.YtejkemahdincjaaW.PrintMore

theorem pnans3_ev (f : Int) (a b c : Nat) (ha : a < 4294967296) (hb : b < 4294967296) (hc : c < 4294967296) : Ev (fun k => sum_Nans.f k f [(a : Int), (b : Int), (c : Int)]) ((nanN f : Int), isLoud f a || isLoud f b || isLoud f c, false, false, false, false, isNan f a || isNan f b || isNan f c) := by
 refine Ev.congr (fun k => by unfold sum_Nans.f; rfl) (pnans_step f _ 0 a false false _ (by simp) (by simp) ha rfl (pnans_step f _ 1 b _ _ _ (by simp) (by simp) hb rfl (pnans_step f _ 2 c _ _ _ (by simp) (by simp) hc rfl ?_)))
 rw [Bool.false_or, Bool.false_or]
 exact pnans_end f [(a : Int), (b : Int), (c : Int)] _ _
def trioN (f : Int) (a b c : Nat) : Bool × Int × Nat × Bool := exactN (negN f a != negN f b) (lowestN f a + lowestN f b) (wholeN f a * wholeN f b) (negN f c) (lowestN f c) (wholeN f c)
theorem mul_62 (f : Int) (a b : Nat) : wholeN f a * wholeN f b < 4611686018427387904 := by
 have wa := whole_lt f a
 have wb := whole_lt f b
 have hbd := fbounds f
 have hp24 : 2 ^ (fm f + 1) ≤ 16777216 := Nat.pow_le_pow_right (show 0 < 2 by decide) (show fm f + 1 ≤ 24 by omega)
 have := Nat.mul_le_mul (show wholeN f a ≤ 16777216 by omega) (show wholeN f b ≤ 16777216 by omega)
 omega
theorem fma_ev (f mode : Int) (a b c : Nat) (ha : a < 4294967296) (hb : b < 4294967296) (hc : c < 4294967296) (ca : clsN f a < 3) (cb : clsN f b < 3) (cc : clsN f c < 3) :
  Ev (fun k => prod_Fma.f k f mode (a : Int) (b : Int) (c : Int)) ((roundedN f mode (negN f a != negN f b) (negN f c) (trioN f a b c) : Int), false, false, roundedX f mode (trioN f a b c)) := by
 have ht : tornN f a b = false := by unfold tornN; exact decide_eq_false (by omega)
 have hto := torn_ev f a b ha hb
 rw [ht] at hto
 have hn := pnans3_ev f a b c ha hb hc
 have n0 : (isNan f a || isNan f b || isNan f c) = false := by
  unfold isNan
  rw [decide_eq_false (show ¬ 4 ≤ clsN f a by omega), decide_eq_false (show ¬ 4 ≤ clsN f b by omega), decide_eq_false (show ¬ 4 ≤ clsN f c by omega)]; rfl
 rw [n0] at hn
 obtain ⟨l1, l2⟩ := lowest_near f a
 obtain ⟨m1, m2⟩ := lowest_near f b
 obtain ⟨o1, o2⟩ := lowest_near f c
 have fa := cls_exp f a ca
 have fb := cls_exp f b cb
 have fc := cls_exp f c cc
 have hx := exact_ev (negN f a != negN f b) (lowestN f a + lowestN f b) (wholeN f a * wholeN f b) (negN f c) (lowestN f c) (wholeN f c) (mul_62 f a b) (whole_62 f c) (by omega) (by omega) (by omega) (by omega)
 obtain ⟨x1, x2, x3⟩ := exact_bounds (negN f a != negN f b) (lowestN f a + lowestN f b) (wholeN f a * wholeN f b) (negN f c) (lowestN f c) (wholeN f c) (mul_62 f a b) (whole_62 f c) (by omega) (by omega) (by omega) (by omega)
 refine Ev.congr (fun k => by unfold prod_Fma.f; rfl) (Ev.bind hto (Ev.bind hn ?_))
 dsimp only
 refine Ev.congr (fun k => by rw [if_neg (show ¬ false = true by decide), if_neg (show ¬ false = true by decide), neg_f f a ha, Option.bind_some, neg_f f b hb, Option.bind_some]) (Ev.bind (pinf_ev f a ha) ?_)
 refine Ev.congr (fun k => by rw [if_neg (by simp; omega)]) (Ev.bind (pinf_ev f b hb) (Ev.bind (pinf_ev f c hc) ?_))
 rw [decide_eq_false (show ¬ clsN f b = 3 by omega), decide_eq_false (show ¬ clsN f c = 3 by omega)]
 refine Ev.step (fun k => by rw [prod_Fma.j0, if_neg (by decide)]) (Ev.step (fun k => by rw [prod_Fma.j1, if_neg (by decide), product_f f a b ha hb fa fb, Option.bind_some, of_f f c hc fc, Option.bind_some]) ?_)
 dsimp only
 refine Ev.bind hx ?_
 unfold trioN castE
 generalize exactN (negN f a != negN f b) (lowestN f a + lowestN f b) (wholeN f a * wholeN f b) (negN f c) (lowestN f c) (wholeN f c) = r at *
 obtain ⟨rn, re, rs, rm⟩ := r
 dsimp only at *
 have hp := packs_ev f mode rn re rs rm (by omega)
 rw [clampE_id _ (by omega) (by omega)] at hp
 have pack : ¬ (rs = 0 ∧ rm = false) → Ev (fun k => prod_Fma.j2 k f mode (negN f a != negN f b) false (negN f c) (lowestN f c) (wholeN f c : Int) false rn re (rs : Int) rm) ((roundedN f mode (negN f a != negN f b) (negN f c) (rn, re, rs, rm) : Int), false, false, roundedX f mode (rn, re, rs, rm)) := by
  intro z
  have zz : ¬ (rs, rm) = (0, false) := fun e => z ⟨(Prod.mk.inj e).1, (Prod.mk.inj e).2⟩
  unfold roundedN roundedX
  rw [if_neg zz, if_neg zz]
  exact Ev.step (fun k => by rw [prod_Fma.j2, if_neg (by decide)]) (Ev.bind hp (Ev.now _))
 by_cases s0 : rs = 0
 ·cases rm
  ·have zz : (rs, false) = (0, false) := by rw [s0]
   refine Ev.congr (fun k => by rw [if_pos (by omega)]) (Ev.step (fun k => by rw [prod_Fma.j2, if_pos (by decide), nought_f]) (Ev.congr (fun k => ?_) (Ev.now _)))
   unfold roundedN roundedX
   rw [if_pos zz, if_pos zz]; rfl
  ·exact Ev.congr (fun k => by rw [if_pos (by omega)]; rfl) (pack (by simp))
 ·exact Ev.congr (fun k => by rw [if_neg (by omega)]) (pack (fun h => s0 h.1))
end Go.Proofs.Ytejkemahdincjaa.Round

/- The reference's differences, products with a sum: as plain numbers. -/
namespace Go.Proofs.Ytejkemahdincjaa.Round
open Go.RowKit Go.Proofs.Ytejkemahdincjaa.P Go.Proofs.Ytejkemahdincjaa.E Go.Proofs.Ytejkemahdincjaa.Num Go.Proofs.Ytejkemahdincjaa.BitsF Go.Proofs.Ytejkemahdincjaa.Fmt Go.Proofs.YtejkemahdincjaaW.PrintWords Go.Proofs.YtejkemahdincjaaW.PrintLast Go.Proofs.YtejkemahdincjaaW.PrintMore

theorem rminus_ev (f : Int) (v : Nat) (hv : v < 4294967296) : Ev (fun k => P.annealref1_Minus.f k f (v : Int)) ((if 4 ≤ clsN f v then lowN f v else turnN f v : Nat) : Int) := by
  have hb := fbounds f
  have h31 := pow_le31 (show fe f + fm f ≤ 31 by omega)
  have h32 := pow_le32 (show fe f + fm f + 1 ≤ 32 by omega)
  refine Ev.congr (fun k => by unfold P.annealref1_Minus.f; rfl) (Ev.bind (nans1_ev f v hv) ?_)
  by_cases n : 4 ≤ clsN f v
  · rw [if_pos n]
    exact Ev.congr (fun k => by rw [if_pos (show isNan f v = true from decide_eq_true n), ref_mask_f, Option.bind_some, and_mask f v hv]) (Ev.now _)
  · rw [if_neg n]
    refine Ev.congr (fun k => ?_) (Ev.now _)
    have hs : signN f true = 2 ^ (fe f + fm f) := rfl
    have hs0 : signN f false = 0 := rfl
    have hx : (v ^^^ 2 ^ (fe f + fm f)) < 4294967296 := Nat.xor_lt_two_pow (n := 32) hv (by omega)
    have key : lowN f (v ^^^ 2 ^ (fe f + fm f)) = turnN f v := by
      unfold lowN
      rw [Nat.xor_mod_two_pow, Nat.mod_eq_of_lt (show 2 ^ (fe f + fm f) < 2 ^ (fe f + fm f + 1) from Nat.pow_lt_pow_right (by decide) (Nat.lt_succ_self _))]
      have hm := mag_lt f v
      have hvm := low_mag f v
      unfold lowN at hvm
      rw [hvm]
      obtain ⟨x1, x2⟩ := xor_off (magN f v) (fe f + fm f) hm
      unfold turnN
      cases hn : negN f v
      · rw [hs0, Nat.add_zero, Bool.not_false, hs, x1]
      · rw [hs, Bool.not_true, hs0, Nat.add_zero, x2]
    rw [if_neg (show ¬ isNan f v = true by unfold isNan; rw [decide_eq_true_iff]; exact n), ref_sign_f, Option.bind_some, ref_mask_f, Option.bind_some, hs, xor_u32 v _ hv (by omega), and_mask f _ hx, key]
def fmaN (f mode : Int) (a b c : Nat) : Nat :=
  if 4 ≤ clsN f a ∨ 4 ≤ clsN f b ∨ 4 ≤ clsN f c then nanN f else if tornN f a b = true then nanN f
  else if clsN f a = 3 ∨ clsN f b = 3 then (if clsN f c = 3 ∧ negN f c ≠ (negN f a != negN f b) then nanN f else infN f (negN f a != negN f b))
  else if clsN f c = 3 then infN f (negN f c) else roundedN f mode (negN f a != negN f b) (negN f c) (trioN f a b c)
def fmaX (f mode : Int) (a b c : Nat) : Bool × Bool × Bool × Bool × Bool :=
  if 4 ≤ clsN f a ∨ 4 ≤ clsN f b ∨ 4 ≤ clsN f c then (isLoud f a || isLoud f b || isLoud f c || tornN f a b, false, false, false, false) else if tornN f a b = true then (true, false, false, false, false)
  else if clsN f a = 3 ∨ clsN f b = 3 then (if clsN f c = 3 ∧ negN f c ≠ (negN f a != negN f b) then (true, false, false, false, false) else (false, false, false, false, false))
  else if clsN f c = 3 then (false, false, false, false, false) else (false, false, roundedX f mode (trioN f a b c))
theorem fma_fin (f mode : Int) (a b c : Nat) (ca : clsN f a < 3) (cb : clsN f b < 3) (cc : clsN f c < 3) : fmaN f mode a b c = roundedN f mode (negN f a != negN f b) (negN f c) (trioN f a b c) ∧ fmaX f mode a b c = (false, false, roundedX f mode (trioN f a b c)) := by
  have ht : ¬ tornN f a b = true := by unfold tornN; rw [decide_eq_true_iff]; omega
  unfold fmaN fmaX
  rw [if_neg (show ¬ (4 ≤ clsN f a ∨ 4 ≤ clsN f b ∨ 4 ≤ clsN f c) by omega), if_neg (show ¬ (4 ≤ clsN f a ∨ 4 ≤ clsN f b ∨ 4 ≤ clsN f c) by omega), if_neg ht, if_neg ht, if_neg (show ¬ (clsN f a = 3 ∨ clsN f b = 3) by omega), if_neg (show ¬ (clsN f a = 3 ∨ clsN f b = 3) by omega), if_neg (show ¬ clsN f c = 3 by omega), if_neg (show ¬ clsN f c = 3 by omega)]
  exact ⟨rfl, rfl⟩
theorem nan3 (f : Int) (a b c : Nat) : (isNan f a || isNan f b || isNan f c) = true ↔ (4 ≤ clsN f a ∨ 4 ≤ clsN f b ∨ 4 ≤ clsN f c) := by
  unfold isNan
  rw [Bool.or_eq_true, Bool.or_eq_true, decide_eq_true_iff, decide_eq_true_iff, decide_eq_true_iff, or_assoc]
theorem fma_all_ev (f mode : Int) (a b c : Nat) (ha : a < 4294967296) (hb : b < 4294967296) (hc : c < 4294967296) :
    Ev (fun k => prod_Fma.f k f mode (a : Int) (b : Int) (c : Int)) ((fmaN f mode a b c : Int), fmaX f mode a b c) := by
  by_cases n : 4 ≤ clsN f a ∨ 4 ≤ clsN f b ∨ 4 ≤ clsN f c
  · have e := (nan3 f a b c).mpr n
    unfold fmaN fmaX
    rw [if_pos n, if_pos n]
    refine Ev.congr (fun k => by unfold prod_Fma.f; rfl) (Ev.bind (torn_ev f a b ha hb) (Ev.bind (pnans3_ev f a b c ha hb hc) (Ev.congr (fun k => ?_) (Ev.now _))))
    dsimp only
    rw [if_pos e]
    cases h : (isLoud f a || isLoud f b || isLoud f c)
    · rw [if_neg (by decide), Bool.false_or]
    · rw [if_pos rfl, Bool.true_or]
  · have e : ¬ (isNan f a || isNan f b || isNan f c) = true := fun h => n ((nan3 f a b c).mp h)
    by_cases t : tornN f a b = true
    · unfold fmaN fmaX
      rw [if_neg n, if_neg n, if_pos t, if_pos t]
      refine Ev.congr (fun k => by unfold prod_Fma.f; rfl) (Ev.bind (torn_ev f a b ha hb) (Ev.bind (pnans3_ev f a b c ha hb hc) (Ev.congr (fun k => ?_) (Ev.now _))))
      dsimp only
      rw [if_neg e, if_pos t, bad_f, Option.bind_some]
    · by_cases i : clsN f a = 3 ∨ clsN f b = 3 ∨ clsN f c = 3
      · have hin := infinite_ev f (negN f a != negN f b) (negN f c) (decide (clsN f a = 3 ∨ clsN f b = 3)) (decide (clsN f c = 3))
        have hj1 : Ev (fun k => prod_Fma.j1 k f mode (a : Int) (b : Int) (c : Int) (negN f a != negN f b) (decide (clsN f a = 3 ∨ clsN f b = 3)) (decide (clsN f c = 3)) true) ((fmaN f mode a b c : Int), fmaX f mode a b c) := by
          refine Ev.step (fun k => by rw [prod_Fma.j1, if_pos rfl, neg_f f c hc, Option.bind_some]) (Ev.bind hin (Ev.congr (fun k => ?_) (Ev.now _)))
          unfold fmaN fmaX
          rw [if_neg n, if_neg n, if_neg t, if_neg t]
          simp only [decide_eq_true_iff]
          by_cases ab : clsN f a = 3 ∨ clsN f b = 3
          · by_cases c3 : clsN f c = 3 ∧ negN f c ≠ (negN f a != negN f b)
            · have h1 : (clsN f a = 3 ∨ clsN f b = 3) ∧ clsN f c = 3 ∧ (negN f a != negN f b) ≠ negN f c := ⟨ab, c3.1, fun h => c3.2 h.symm⟩
              rw [if_pos h1, if_pos ab, if_pos c3, if_pos ab, if_pos c3]
            · have h1 : ¬ ((clsN f a = 3 ∨ clsN f b = 3) ∧ clsN f c = 3 ∧ (negN f a != negN f b) ≠ negN f c) := fun h => c3 ⟨h.2.1, fun e => h.2.2 e.symm⟩
              rw [if_neg h1, if_pos ab, if_pos ab, if_neg c3, if_pos ab, if_neg c3]
          · have c3 : clsN f c = 3 := by omega
            have h1 : ¬ ((clsN f a = 3 ∨ clsN f b = 3) ∧ clsN f c = 3 ∧ (negN f a != negN f b) ≠ negN f c) := fun h => ab h.1
            rw [if_neg h1, if_neg ab, if_neg ab, if_pos c3, if_neg ab, if_pos c3]
        have hj : Ev (fun k => prod_Fma.j0 k f mode (a : Int) (b : Int) (c : Int) (negN f a != negN f b) (decide (clsN f a = 3 ∨ clsN f b = 3)) (decide (clsN f c = 3))) ((fmaN f mode a b c : Int), fmaX f mode a b c) := by
          by_cases ab : clsN f a = 3 ∨ clsN f b = 3
          · exact Ev.step (fun k => by rw [prod_Fma.j0, if_pos (decide_eq_true ab)]) hj1
          · have c3 : clsN f c = 3 := by omega
            refine Ev.step (fun k => by rw [prod_Fma.j0, if_neg (by rw [decide_eq_true_iff]; exact ab)]) ?_
            exact Ev.congr (fun k => by rw [decide_eq_true c3]) hj1
        refine Ev.congr (fun k => by unfold prod_Fma.f; rfl) (Ev.bind (torn_ev f a b ha hb) (Ev.bind (pnans3_ev f a b c ha hb hc) ?_))
        dsimp only
        refine Ev.congr (fun k => by rw [if_neg e, if_neg t, neg_f f a ha, Option.bind_some, neg_f f b hb, Option.bind_some]) (Ev.bind (pinf_ev f a ha) ?_)
        by_cases a3 : clsN f a = 3
        · refine Ev.congr (fun k => by rw [if_pos (decide_eq_true a3)]) (Ev.bind (pinf_ev f c hc) ?_)
          rw [decide_eq_true (show clsN f a = 3 ∨ clsN f b = 3 from .inl a3)] at hj
          exact hj
        · refine Ev.congr (fun k => by rw [if_neg (by rw [decide_eq_true_iff]; exact a3)]) (Ev.bind (pinf_ev f b hb) (Ev.bind (pinf_ev f c hc) ?_))
          rw [show decide (clsN f a = 3 ∨ clsN f b = 3) = decide (clsN f b = 3) from decide_eq_decide.mpr ⟨fun h => h.resolve_left a3, .inr⟩] at hj
          exact hj
      · have h1 := cls_le f a
        obtain ⟨e1, e2⟩ := fma_fin f mode a b c (by omega) (by omega) (by omega)
        rw [e1, e2]
        exact fma_ev f mode a b c ha hb hc (by omega) (by omega) (by omega)
theorem rnans3_ev (f : Int) (a b c : Nat) (ha : a < 4294967296) (hb : b < 4294967296) (hc : c < 4294967296) : Ev (fun k => annealref1_nans.f k f [(a : Int), (b : Int), (c : Int)]) (isNan f a || isNan f b || isNan f c, isLoud f a || isLoud f b || isLoud f c) := by
  refine Ev.congr (fun k => by unfold annealref1_nans.f; rfl) (nans_step f _ 0 a false false _ (by simp) (by simp) ha rfl (nans_step f _ 1 b _ _ _ (by simp) (by simp) hb rfl (nans_step f _ 2 c _ _ _ (by simp) (by simp) hc rfl ?_)))
  rw [Bool.false_or, Bool.false_or]
  exact nans_end f [(a : Int), (b : Int), (c : Int)] _ _
theorem fma_j14 (f mode : Int) (a b c : Nat) (ha : a < 4294967296) (hb : b < 4294967296) (hc : c < 4294967296) (ca : clsN f a < 3) (cb : clsN f b < 3) (cc : clsN f c < 3) (hne : ¬ ((clsN f a = 0 ∨ clsN f b = 0) ∧ clsN f c = 0 ∧ (negN f a != negN f b) = negN f c)) (c0 c1 c2 c3 c4 : Bool) :
    Ev (fun n => E.annealref1_Fma.j14 n (negN f a != negN f b) (c : Int) (b : Int) (a : Int) mode f c0 c1 c2 c3 c4) ((roundedN f mode (negN f a != negN f b) (negN f c) (trioN f a b c) : Int), false, false, roundedX f mode (trioN f a b c)) := by
  obtain ⟨l1, l2⟩ := lowest_fin f a ca
  obtain ⟨m1, m2⟩ := lowest_fin f b cb
  obtain ⟨o1, o2⟩ := lowest_fin f c cc
  obtain ⟨R, r1, r2, r3⟩ := spread_ev (negN f a != negN f b) (lowestN f a + lowestN f b) (wholeN f a * wholeN f b) (by omega) (by omega) (mul_60 f a b)
  obtain ⟨S, s1, s2, s3⟩ := spread_ev (negN f c) (lowestN f c) (wholeN f c) (by omega) (by omega) (whole_60 f c)
  refine Ev.congr (fun n => annealref1_Fma.j14_eq n _ c b a mode f c0 c1 c2 c3 c4) (Ev.bind (runpack_ev f a ha (cls_exp f a ca)) (Ev.bind (runpack_ev f b hb (cls_exp f b cb)) ?_))
  dsimp only
  rw [w64_id (lowestN f a + lowestN f b) (by omega) (by omega), ← Int.natCast_mul, u64_id _ (mul_small f a b)]
  refine Ev.bind r3 (Ev.bind (runpack_ev f c hc (cls_exp f c cc)) (Ev.bind s3 ?_))
  refine Ev.bind (wide_total f mode _ _ _ _ _ _ (by omega) (by omega) (by omega) (by omega) (mul_60 f a b) (whole_60 f c) (fun e z1 z2 => hne ⟨?_, whole_none f c cc z2, e⟩) r1 s1 r2 s2) (Ev.now _)
  rcases Nat.mul_eq_zero.mp z1 with z | z
  · exact .inl (whole_none f a ca z)
  · exact .inr (whole_none f b cb z)
theorem rounded_none (f mode : Int) (a b c : Nat) (h : clsN f a = 0 ∨ clsN f b = 0) (ca : clsN f a < 3) (cb : clsN f b < 3) (hc : clsN f c = 0) (e : (negN f a != negN f b) = negN f c) :
    roundedN f mode (negN f a != negN f b) (negN f c) (trioN f a b c) = signN f (negN f a != negN f b) ∧ roundedX f mode (trioN f a b c) = (false, false, false) := by
  have l1 := (lowest_fin f a ca).1
  have m1 := (lowest_fin f b cb).1
  have o1 := (lowest_near f c).1
  have w := exact_wide f mode (negN f a != negN f b) (lowestN f a + lowestN f b) (wholeN f a * wholeN f b) (negN f c) (lowestN f c) (wholeN f c) (by omega) (by omega) (mul_60 f a b) (whole_60 f c)
  have z : wholeN f a * wholeN f b = 0 := by
    rcases h with h | h
    · rw [(none_low f a h).2, Nat.zero_mul]
    · rw [(none_low f b h).2, Nat.mul_zero]
  have hw : (wideN (negN f a != negN f b) (wholeN f a * wholeN f b * 2 ^ (lowestN f a + lowestN f b + 298).toNat) (negN f c) (wholeN f c * 2 ^ (lowestN f c + 298).toNat)).2 = 0 := by
    rw [z, (none_low f c hc).2, Nat.zero_mul, Nat.zero_mul]
    unfold wideN; rw [if_pos e]
  unfold trioN
  rw [w.1, w.2, if_pos hw, if_pos hw]
  exact ⟨if_pos e, rfl⟩
theorem fma_j5 (f mode : Int) (a b c : Nat) (ha : a < 4294967296) (hb : b < 4294967296) (hc : c < 4294967296) (n : ¬ (4 ≤ clsN f a ∨ 4 ≤ clsN f b ∨ 4 ≤ clsN f c)) (t : ¬ tornN f a b = true) (c0 c1 c2 c3 c4 : Bool) :
    Ev (fun n => E.annealref1_Fma.j5 n (c : Int) (b : Int) (a : Int) mode f c0 c1 c2 c3 c4) ((fmaN f mode a b c : Int), fmaX f mode a b c) := by
  unfold fmaN fmaX
  rw [if_neg n, if_neg n, if_neg t, if_neg t]
  refine Ev.congr (fun n => by rw [annealref1_Fma.j5_eq n c b a mode f c0 c1 c2 c3 c4, rneg_f f a ha, Option.bind_some, rneg_f f b hb, Option.bind_some]) ?_
  have inf : Ev (fun n => (annealref1_inf.f n f (c : Int)).bind fun t3 => (if t3 = true then ((annealref1_neg.f f (c : Int)).bind fun t4 => (if (t4 == !(negN f a == negN f b)) = true then ((annealref1_Inf.f f (!(negN f a == negN f b))).bind fun t5 => (some ((t5, false, false, false, false, false)))) else ((annealref1_Nan.f f).bind fun t5 => (some ((t5, true, false, false, false, false)))))) else ((annealref1_Inf.f f (!(negN f a == negN f b))).bind fun t4 => (some ((t4, false, false, false, false, false))))))
      (((if clsN f c = 3 ∧ negN f c ≠ (negN f a != negN f b) then nanN f else infN f (negN f a != negN f b) : Nat) : Int), (if clsN f c = 3 ∧ negN f c ≠ (negN f a != negN f b) then (true, false, false, false, false) else (false, false, false, false, false))) := by
    refine Ev.bind (rinf_ev f c hc) ?_
    by_cases k3 : clsN f c = 3
    · refine Ev.congr (fun n => by rw [if_pos (decide_eq_true k3), rneg_f f c hc, Option.bind_some]) ?_
      by_cases e : negN f c = (negN f a != negN f b)
      · have h1 : ¬ (clsN f c = 3 ∧ negN f c ≠ (negN f a != negN f b)) := fun h => h.2 e
        rw [if_neg h1, if_neg h1]
        have e1 : (negN f c == !(negN f a == negN f b)) = true := beq_iff_eq.mpr e
        exact Ev.congr (fun n => by rw [if_pos e1, ref_inf_f, Option.bind_some]; rfl) (Ev.now _)
      · have h1 : clsN f c = 3 ∧ negN f c ≠ (negN f a != negN f b) := ⟨k3, e⟩
        rw [if_pos h1, if_pos h1]
        have e1 : ¬ (negN f c == !(negN f a == negN f b)) = true := fun h => e (beq_iff_eq.mp h)
        exact Ev.congr (fun n => by rw [if_neg e1, ref_nan_f, Option.bind_some]) (Ev.now _)
    · have h1 : ¬ (clsN f c = 3 ∧ negN f c ≠ (negN f a != negN f b)) := fun h => k3 h.1
      rw [if_neg h1, if_neg h1]
      exact Ev.congr (fun n => by rw [if_neg (by rw [decide_eq_true_iff]; exact k3), ref_inf_f, Option.bind_some]; rfl) (Ev.now _)
  refine Ev.bind (rinf_ev f a ha) ?_
  by_cases a3 : clsN f a = 3
  · have ab : clsN f a = 3 ∨ clsN f b = 3 := .inl a3
    rw [if_pos ab, if_pos ab]
    exact Ev.congr (fun n => by rw [if_pos (decide_eq_true a3)]) inf
  · refine Ev.congr (fun n => by rw [if_neg (by rw [decide_eq_true_iff]; exact a3)]) (Ev.bind (rinf_ev f b hb) ?_)
    by_cases b3 : clsN f b = 3
    · have ab : clsN f a = 3 ∨ clsN f b = 3 := .inr b3
      rw [if_pos ab, if_pos ab]
      exact Ev.congr (fun n => by rw [if_pos (decide_eq_true b3)]) inf
    · rw [if_neg (show ¬ (clsN f a = 3 ∨ clsN f b = 3) by omega), if_neg (show ¬ (clsN f a = 3 ∨ clsN f b = 3) by omega)]
      refine Ev.congr (fun n => by rw [if_neg (by rw [decide_eq_true_iff]; exact b3)]) (Ev.bind (rinf_ev f c hc) ?_)
      by_cases k3 : clsN f c = 3
      · rw [if_pos k3, if_pos k3]
        exact Ev.congr (fun n => by rw [if_pos (decide_eq_true k3), ref_mask_f, Option.bind_some, and_mask f c hc, inf_low f c k3]) (Ev.now _)
      · rw [if_neg k3, if_neg k3]
        refine Ev.congr (fun n => by rw [if_neg (by rw [decide_eq_true_iff]; exact k3)]) ?_
        have fin := fma_j14 f mode a b c ha hb hc (by omega) (by omega) (by omega)
        have none : (clsN f a = 0 ∨ clsN f b = 0) → Ev (fun n => (annealref1_zero.f n f (c : Int)).bind fun t6 => (if t6 = true then ((annealref1_neg.f f (c : Int)).bind fun t7 => (if ((!(negN f a == negN f b)) == t7) = true then ((annealref1_Zero.f f (!(negN f a == negN f b))).bind fun t8 => (some ((t8, false, false, false, false, false)))) else (annealref1_Fma.j14 n (!(negN f a == negN f b)) (c : Int) (b : Int) (a : Int) mode f c0 c1 c2 c3 c4))) else (annealref1_Fma.j14 n (!(negN f a == negN f b)) (c : Int) (b : Int) (a : Int) mode f c0 c1 c2 c3 c4)))
            ((roundedN f mode (negN f a != negN f b) (negN f c) (trioN f a b c) : Int), false, false, roundedX f mode (trioN f a b c)) := by
          intro ab
          refine Ev.bind (rzero_ev f c hc) ?_
          by_cases k0 : clsN f c = 0
          · refine Ev.congr (fun n => by rw [if_pos (decide_eq_true k0), rneg_f f c hc, Option.bind_some]) ?_
            by_cases e : (negN f a != negN f b) = negN f c
            · obtain ⟨e1, e2⟩ := rounded_none f mode a b c ab (by omega) (by omega) k0 e
              rw [e1, e2]
              have e3 : ((!(negN f a == negN f b)) == negN f c) = true := beq_iff_eq.mpr e
              exact Ev.congr (fun n => by rw [if_pos e3, ref_zero_f, Option.bind_some]; rfl) (Ev.now _)
            · have e3 : ¬ ((!(negN f a == negN f b)) == negN f c) = true := fun h => e (beq_iff_eq.mp h)
              exact Ev.congr (fun n => by rw [if_neg e3]; rfl) (fin (fun h => e h.2.2) c0 c1 c2 c3 c4)
          · exact Ev.congr (fun n => by rw [if_neg (by rw [decide_eq_true_iff]; exact k0)]; rfl) (fin (fun h => k0 h.2.1) c0 c1 c2 c3 c4)
        refine Ev.bind (rzero_ev f a ha) ?_
        by_cases a0 : clsN f a = 0
        · exact Ev.congr (fun n => by rw [if_pos (decide_eq_true a0)]) (none (.inl a0))
        · refine Ev.congr (fun n => by rw [if_neg (by rw [decide_eq_true_iff]; exact a0)]) (Ev.bind (rzero_ev f b hb) ?_)
          by_cases b0 : clsN f b = 0
          · exact Ev.congr (fun n => by rw [if_pos (decide_eq_true b0)]) (none (.inr b0))
          · exact Ev.congr (fun n => by rw [if_neg (by rw [decide_eq_true_iff]; exact b0)]; rfl) (fin (fun h => h.1.elim a0 b0) c0 c1 c2 c3 c4)
theorem fma_j2 (f mode : Int) (a b c : Nat) (ha : a < 4294967296) (hb : b < 4294967296) (hc : c < 4294967296) (t : Bool) (ht : tornN f a b = t) (c0 c1 c2 c3 c4 : Bool) :
    Ev (fun n => E.annealref1_Fma.j2 n t (c : Int) (b : Int) (a : Int) mode f c0 c1 c2 c3 c4) ((fmaN f mode a b c : Int), fmaX f mode a b c) := by
  subst ht
  refine Ev.congr (fun n => annealref1_Fma.j2_eq n _ c b a mode f c0 c1 c2 c3 c4) (Ev.bind (rnans3_ev f a b c ha hb hc) ?_)
  dsimp only
  by_cases n : 4 ≤ clsN f a ∨ 4 ≤ clsN f b ∨ 4 ≤ clsN f c
  · unfold fmaN fmaX
    rw [if_pos n, if_pos n]
    refine Ev.congr (fun k => ?_) (Ev.now _)
    rw [if_pos ((nan3 f a b c).mpr n), ref_nan_f, Option.bind_some]
    cases h : (isLoud f a || isLoud f b || isLoud f c)
    · rw [if_neg (by decide), Bool.false_or]
    · rw [if_pos rfl, Bool.true_or]
  · have e : ¬ (isNan f a || isNan f b || isNan f c) = true := fun h => n ((nan3 f a b c).mp h)
    by_cases t : tornN f a b = true
    · unfold fmaN fmaX
      rw [if_neg n, if_neg n, if_pos t, if_pos t]
      refine Ev.congr (fun k => ?_) (Ev.now _)
      rw [if_neg e, if_pos t, ref_nan_f, Option.bind_some, t]
      split <;> rfl
    · exact Ev.congr (fun k => by rw [if_neg e, if_neg t]) (fma_j5 f mode a b c ha hb hc n t c0 c1 c2 c3 c4)
theorem ref_fma_ev (f mode : Int) (a b c : Nat) (ha : a < 4294967296) (hb : b < 4294967296) (hc : c < 4294967296) :
    Ev (fun n => E.annealref1_Fma.f n f mode (a : Int) (b : Int) (c : Int)) ((fmaN f mode a b c : Int), fmaX f mode a b c) := by
  have tt : ∀ t : Bool, (t = true ↔ (clsN f a = 0 ∧ clsN f b = 3 ∨ clsN f a = 3 ∧ clsN f b = 0)) → tornN f a b = t := by
    intro t h
    unfold tornN
    cases t
    · exact decide_eq_false (fun x => by have := h.mpr x; cases this)
    · exact decide_eq_true (h.mp rfl)
  have fin := fun (t : Bool) h => fma_j2 f mode a b c ha hb hc t (tt t h) false false false false false
  have rest : clsN f a ≠ 0 ∨ clsN f b ≠ 3 → Ev (fun n => (annealref1_inf.f n f (a : Int)).bind fun t1 => (if t1 = true then ((annealref1_zero.f n f (b : Int)).bind fun t2 => (annealref1_Fma.j2 n (t2) (c : Int) (b : Int) (a : Int) mode f (false) (false) (false) (false) (false))) else (annealref1_Fma.j2 n (false) (c : Int) (b : Int) (a : Int) mode f (false) (false) (false) (false) (false)))) ((fmaN f mode a b c : Int), fmaX f mode a b c) := by
    intro h
    refine Ev.bind (rinf_ev f a ha) ?_
    by_cases a3 : clsN f a = 3
    · refine Ev.congr (fun n => by rw [if_pos (decide_eq_true a3)]) (Ev.bind (rzero_ev f b hb) ?_)
      exact fin _ (by rw [decide_eq_true_iff]; omega)
    · exact Ev.congr (fun n => by rw [if_neg (by rw [decide_eq_true_iff]; exact a3)]) (fin _ ⟨fun x => (by cases x), fun x => (by omega)⟩)
  refine Ev.congr (fun n => annealref1_Fma.eq n f mode a b c) (Ev.bind (rzero_ev f a ha) ?_)
  by_cases a0 : clsN f a = 0
  · refine Ev.congr (fun n => by rw [if_pos (decide_eq_true a0)]) (Ev.bind (rinf_ev f b hb) ?_)
    by_cases b3 : clsN f b = 3
    · exact Ev.congr (fun n => by rw [if_pos (decide_eq_true b3)]) (fin _ ⟨fun _ => .inl ⟨a0, b3⟩, fun _ => rfl⟩)
    · exact Ev.congr (fun n => by rw [if_neg (by rw [decide_eq_true_iff]; exact b3)]) (rest (.inr b3))
  · exact Ev.congr (fun n => by rw [if_neg (by rw [decide_eq_true_iff]; exact a0)]) (rest (.inl a0))
end Go.Proofs.Ytejkemahdincjaa.Round

/- Products: the reference's, of any numbers, as plain numbers. -/
namespace Go.Proofs.Ytejkemahdincjaa.Round
open Go.RowKit Go.Proofs.Ytejkemahdincjaa.P Go.Proofs.Ytejkemahdincjaa.Num Go.Proofs.Ytejkemahdincjaa.BitsF Go.Proofs.Ytejkemahdincjaa.Fmt Go.Proofs.YtejkemahdincjaaW.PrintWords Go.Proofs.YtejkemahdincjaaW.PrintLast Go.Proofs.YtejkemahdincjaaW.PrintMore

theorem ref_mula_ev (f mode : Int) (a b : Nat) (ha : a < 4294967296) (hb : b < 4294967296) : Ev (fun k => annealref1_Mul.f k f mode (a : Int) (b : Int)) ((mulN f mode a b : Int), mulX f mode a b) := by
 have hla := cls_le f a
 have hlb := cls_le f b
 refine Ev.congr (fun k => by unfold annealref1_Mul.f; rfl) (Ev.bind (nans2_ev f a b ha hb) ?_)
 unfold mulN mulX
 by_cases n : 4 ≤ clsN f a ∨ 4 ≤ clsN f b
 ·have e : (isNan f a || isNan f b) = true := by unfold isNan; rw [Bool.or_eq_true, decide_eq_true_iff, decide_eq_true_iff]; exact n
  rw [if_pos n, if_pos n]
  exact Ev.congr (fun k => by rw [if_pos e, ref_nan_f]; rfl) (Ev.now _)
 ·have e : ¬ (isNan f a || isNan f b) = true := by unfold isNan; rw [Bool.or_eq_true, decide_eq_true_iff, decide_eq_true_iff]; exact n
  rw [if_neg n, if_neg n]
  have bad : tornN f a b = true → Ev (fun k => annealref1_Mul.j0 k f mode (a : Int) (b : Int) (negN f a != negN f b) true) (((if tornN f a b = true then nanN f else if clsN f a = 3 ∨ clsN f b = 3 then infN f (negN f a != negN f b) else packN f mode (negN f a != negN f b) (lowestN f a + lowestN f b) (wholeN f a * wholeN f b) false : Nat) : Int),
    if tornN f a b = true then (true, false, false, false, false) else if clsN f a = 3 ∨ clsN f b = 3 then (false, false, false, false, false) else (false, false, excN f mode (negN f a != negN f b) (lowestN f a + lowestN f b) (wholeN f a * wholeN f b) false)) := by
   intro t
   rw [if_pos t, if_pos t]
   exact Ev.step (fun k => by rw [annealref1_Mul.j0, if_pos rfl, ref_nan_f]; rfl) (Ev.now _)
  have good : ¬ tornN f a b = true → Ev (fun k => annealref1_Mul.j0 k f mode (a : Int) (b : Int) (negN f a != negN f b) false) (((if tornN f a b = true then nanN f else if clsN f a = 3 ∨ clsN f b = 3 then infN f (negN f a != negN f b) else packN f mode (negN f a != negN f b) (lowestN f a + lowestN f b) (wholeN f a * wholeN f b) false : Nat) : Int),
    if tornN f a b = true then (true, false, false, false, false) else if clsN f a = 3 ∨ clsN f b = 3 then (false, false, false, false, false) else (false, false, excN f mode (negN f a != negN f b) (lowestN f a + lowestN f b) (wholeN f a * wholeN f b) false)) := by
   intro t
   rw [if_neg t, if_neg t]
   refine Ev.step (fun k => by rw [annealref1_Mul.j0, if_neg (by decide)]) (Ev.bind (rinf_ev f a ha) ?_)
   have inf : (clsN f a = 3 ∨ clsN f b = 3) → Ev (fun k => annealref1_Mul.j1 k f mode (a : Int) (b : Int) (negN f a != negN f b) true) (((if clsN f a = 3 ∨ clsN f b = 3 then infN f (negN f a != negN f b) else packN f mode (negN f a != negN f b) (lowestN f a + lowestN f b) (wholeN f a * wholeN f b) false : Nat) : Int),
     if clsN f a = 3 ∨ clsN f b = 3 then (false, false, false, false, false) else (false, false, excN f mode (negN f a != negN f b) (lowestN f a + lowestN f b) (wholeN f a * wholeN f b) false)) := by
    intro i
    rw [if_pos i, if_pos i]
    exact Ev.step (fun k => by rw [annealref1_Mul.j1, if_pos rfl, ref_inf_f]; rfl) (Ev.now _)
   by_cases a3 : clsN f a = 3
   ·exact Ev.congr (fun k => by rw [if_pos (decide_eq_true a3)]) (inf (.inl a3))
   ·refine Ev.congr (fun k => by rw [if_neg (by simp [a3])]) (Ev.bind (rinf_ev f b hb) ?_)
    by_cases b3 : clsN f b = 3
    ·rw [decide_eq_true b3]; exact inf (.inr b3)
    ·rw [decide_eq_false b3, if_neg (show ¬ (clsN f a = 3 ∨ clsN f b = 3) by omega), if_neg (show ¬ (clsN f a = 3 ∨ clsN f b = 3) by omega)]
     have hprod := mul_small f a b
     obtain ⟨l1, l2⟩ := lowest_near f a
     obtain ⟨m1, m2⟩ := lowest_near f b
     have hp := ref_pack_ev f mode (negN f a != negN f b) (lowestN f a + lowestN f b) (wholeN f a * wholeN f b) false hprod
     rw [clampE_id _ (by omega) (by omega)] at hp
     refine Ev.step (fun k => by rw [annealref1_Mul.j1, if_neg (by decide)]) (Ev.bind (runpack_ev f a ha (cls_exp f a (by omega))) (Ev.bind (runpack_ev f b hb (cls_exp f b (by omega))) ?_))
     dsimp only
     rw [w64_id (lowestN f a + lowestN f b) (by omega) (by omega), ← Int.natCast_mul, u64_id _ hprod]
     exact Ev.bind hp (Ev.now _)
  have tt : tornN f a b = true ↔ (clsN f a = 0 ∧ clsN f b = 3 ∨ clsN f a = 3 ∧ clsN f b = 0) := by unfold tornN; exact decide_eq_true_iff
  refine Ev.congr (fun k => by rw [if_neg e, rneg_f f a ha, Option.bind_some, rneg_f f b hb, Option.bind_some]) (Ev.bind (rzero_ev f a ha) ?_)
  by_cases a0 : clsN f a = 0
  ·refine Ev.congr (fun k => by rw [if_pos (decide_eq_true a0)]) (Ev.bind (rinf_ev f b hb) ?_)
   by_cases b3 : clsN f b = 3
   ·exact Ev.congr (fun k => by rw [if_pos (decide_eq_true b3)]) (bad (tt.mpr (.inl ⟨a0, b3⟩)))
   ·refine Ev.congr (fun k => by rw [if_neg (by simp [b3])]) (Ev.bind (rinf_ev f a ha) ?_)
    exact Ev.congr (fun k => by rw [if_neg (by simp; omega)]) (good (fun h => by have := tt.mp h; omega))
  ·refine Ev.congr (fun k => by rw [if_neg (by simp [a0])]) (Ev.bind (rinf_ev f a ha) ?_)
   by_cases a3 : clsN f a = 3
   ·refine Ev.congr (fun k => by rw [if_pos (decide_eq_true a3)]) (Ev.bind (rzero_ev f b hb) ?_)
    by_cases b0 : clsN f b = 0
    ·rw [decide_eq_true b0]; exact bad (tt.mpr (.inr ⟨a3, b0⟩))
    ·rw [decide_eq_false b0]; exact good (fun h => by have := tt.mp h; omega)
   ·exact Ev.congr (fun k => by rw [if_neg (by simp [a3])]) (good (fun h => by have := tt.mp h; omega))
/- Numbers drawn, of any format: no more bits than the format has. Plain numbers. -/

theorem and_lt (f y : Int) : ∃ m : Nat, Go.bits .and .u32 y (maskN f : Int) = (m : Int) ∧ m < 2 ^ (fe f + fm f + 1) := by
 have hb := fbounds f
 have h32 := pow_le32 (show fe f + fm f + 1 ≤ 32 by omega)
 have hp := Nat.two_pow_pos (fe f + fm f + 1)
 have hm : (BitVec.ofInt 32 y &&& BitVec.ofInt 32 (maskN f : Int)).toNat < 2 ^ (fe f + fm f + 1) := by
  rw [BitVec.toNat_and, BitVec.ofInt_natCast, BitVec.toNat_ofNat]
  have h1 := Nat.and_le_right (n := (BitVec.ofInt 32 y).toNat) (m := maskN f % 2 ^ 32)
  have h2 := Nat.mod_le (maskN f) (2 ^ 32)
  have h3 : maskN f < 2 ^ (fe f + fm f + 1) := by unfold maskN; omega
  omega
 refine ⟨_, ?_, hm⟩
 show IntKind.u32.wrap (((BitVec.ofInt 32 y &&& BitVec.ofInt 32 (maskN f : Int)).toNat : Nat) : Int) = _
 exact wraps_u32 _ (Int.natCast_nonneg _) (by omega)
theorem or_top_lt (f : Int) (m : Nat) (h : m < 2 ^ (fe f + fm f + 1)) : ∃ x : Nat, Go.bits .or .u32 (m : Int) (signN f true : Int) = (x : Int) ∧ x < 2 ^ (fe f + fm f + 1) := by
 have hb := fbounds f
 have h32 := pow_le32 (show fe f + fm f + 1 ≤ 32 by omega)
 have h31 := pow_le31 (show fe f + fm f ≤ 31 by omega)
 have hs : signN f true = 2 ^ (fe f + fm f) := rfl
 refine ⟨m ||| 2 ^ (fe f + fm f), ?_, Nat.or_lt_two_pow h (Nat.pow_lt_pow_right (by decide) (by omega))⟩
 rw [hs, or_u32 m _ (by omega) (by omega)]
theorem num_low (f : Int) (a : Nat) : ∃ x : Nat, annealseat_Num.f f (a : Int) = some (x : Int) ∧ x < 2 ^ (fe f + fm f + 1) ∧ x < 4294967296 := by
 have hb := fbounds f
 have h32 := pow_le32 (show fe f + fm f + 1 ≤ 32 by omega)
 have e := Int.tmod_eq_emod_of_nonneg (b := 15) (Int.natCast_nonneg a)
 have hp : 0 ≤ Int.tmod (a : Int) 15 ∧ Int.tmod (a : Int) 15 < 15 := by rw [e]; omega
 have fin : ∀ y : Int, ∃ x : Nat, (if (a : Int) / 2147483648 = 1 then (some (signN f true : Int)).bind (fun t => some (Go.bits .or .u32 (Go.bits .and .u32 y (maskN f : Int)) t)) else some (Go.bits .and .u32 y (maskN f : Int))) = some (x : Int) ∧ x < 2 ^ (fe f + fm f + 1) ∧ x < 4294967296 := by
  intro y
  obtain ⟨m, h1, h2⟩ := and_lt f y
  rw [h1]
  by_cases c : (a : Int) / 2147483648 = 1
  ·rw [if_pos c, Option.bind_some]
   obtain ⟨x, h3, h4⟩ := or_top_lt f m h2
   exact ⟨x, by rw [h3], h4, by omega⟩
  ·rw [if_neg c]
   exact ⟨m, rfl, h2, by omega⟩
 unfold annealseat_Num.f
 rw [ref_widths_f, Option.bind_some]
 dsimp only
 rcases fcases f with ⟨h1, h2⟩ | ⟨h1, h2⟩ | ⟨h1, h2⟩
 ·rw [h1, h2, if_pos (by decide), if_pos (by decide), if_neg (by decide), if_pos (show (0 : Int) ≤ wrap64 (((10 : Nat) : Int) - 1) by unfold wrap64; omega), if_neg (by decide), Option.bind_some, if_pos hp.1, if_pos (by exact hp.2), ref_mask_f, Option.bind_some, ref_zero_f]
  rw [h1, h2] at fin
  exact fin _
 ·rw [h1, h2, if_pos (by decide), if_pos (by decide), if_neg (by decide), if_pos (show (0 : Int) ≤ wrap64 (((7 : Nat) : Int) - 1) by unfold wrap64; omega), if_neg (by decide), Option.bind_some, if_pos hp.1, if_pos (by exact hp.2), ref_mask_f, Option.bind_some, ref_zero_f]
  rw [h1, h2] at fin
  exact fin _
 ·rw [h1, h2, if_pos (by decide), if_pos (by decide), if_neg (by decide), if_pos (show (0 : Int) ≤ wrap64 (((23 : Nat) : Int) - 1) by unfold wrap64; omega), if_neg (by decide), Option.bind_some, if_pos hp.1, if_pos (by exact hp.2), ref_mask_f, Option.bind_some, ref_zero_f]
  rw [h1, h2] at fin
  exact fin _
end Go.Proofs.Ytejkemahdincjaa.Round

/- FmaTells: each product and sum, rounded once, is as the reference's, for any three numbers of each format, in each mode. -/
namespace Go.Proofs.Ytejkemahdincjaa.Pure
open Go.RowKit Go.Proofs.Ytejkemahdincjaa.P Go.Proofs.Ytejkemahdincjaa.Num Go.Proofs.Ytejkemahdincjaa.BitsF Go.Proofs.Ytejkemahdincjaa.Fmt Go.Proofs.Ytejkemahdincjaa.Round Go.Proofs.YtejkemahdincjaaW.PrintWords Go.Proofs.YtejkemahdincjaaW.PrintLast Go.Proofs.YtejkemahdincjaaW.PrintMore

theorem known5_ev : Ev (fun k => anneallaw5_known.f k) true := Ev.of anneallaw5_known.mono (k := 60) (by kernel_rfl)
theorem form5_some (c : Nat) : ∃ f : Int, anneallaw5_form.f (c : Int) = some f := by
 have e := Int.tmod_eq_emod_of_nonneg (b := 3) (Int.natCast_nonneg c)
 unfold anneallaw5_form.f
 rw [Option.bind_some, e]
 have h : (c : Int) % 3 = 0 ∨ (c : Int) % 3 = 1 ∨ (c : Int) % 3 = 2 := by omega
 rcases h with h | h | h <;> rw [h] <;> exact ⟨_, rfl⟩
theorem rfma_ev (f mode : Int) (a b c : Nat) (ha : a < 4294967296) (hb : b < 4294967296) (hc : c < 4294967296) : Ev (fun k => annealref1_Fma.f k f mode (a : Int) (b : Int) (c : Int)) ((fmaN f mode a b c : Int), fmaX f mode a b c) := ref_fma_ev f mode a b c ha hb hc
theorem tells_step (x0 x1 x4 x5 x6 f mode : Int) (L : List S33) (i u v w : Nat) (hL : L.length = 5) (hi : i < 5) (hu : u < 4294967296) (hv : v < 4294967296) (hw : w < 4294967296) (h0 : (rd_T33 L (i : Int)).f0 = (u : Int)) (h1 : (rd_T33 L (i : Int)).f1 = (v : Int)) (h2 : (rd_T33 L (i : Int)).f2 = (w : Int))
  (h : Ev (fun k => anneallaw5_FmaTells.l0 k x0 x1 x4 x5 x6 f mode L 5 ((i + 1 : Nat) : Int)) true) : Ev (fun k => anneallaw5_FmaTells.l0 k x0 x1 x4 x5 x6 f mode L 5 (i : Int)) true := by
 have hx : wrap64 ((i : Int) + 1) = ((i + 1 : Nat) : Int) := by rw [w64_id _ (by omega) (by omega)]; omega
 refine Ev.step (fun k => by rw [anneallaw5_FmaTells.l0, if_pos (by omega), if_pos (Int.natCast_nonneg _), if_pos (by rw [hL]; omega), h0, h1, h2, hx]) (Ev.bind (fma_all_ev f mode u v w hu hv hw) (Ev.bind (rfma_ev f mode u v w hu hv hw) (Ev.congr (fun k => ?_) h)))
 simp
theorem tells_end (x0 x1 f mode : Int) (a b c : Nat) (L : List S33) (ha : a < 4294967296) (hb : b < 4294967296) (hc : c < 4294967296) : Ev (fun k => anneallaw5_FmaTells.l0 k x0 x1 (a : Int) (b : Int) (c : Int) f mode L 5 ((5 : Nat) : Int)) true := by
 refine Ev.step (fun k => by rw [anneallaw5_FmaTells.l0, if_neg (by decide)]) (Ev.bind (fma_all_ev x0 x1 a b c ha hb hc) (Ev.bind (rfma_ev x0 x1 a b c ha hb hc) (Ev.congr (fun k => ?_) (Ev.now true))))
 simp
theorem nan_32 (f : Int) : nanN f < 4294967296 := by
 unfold nanN topN
 rcases fcases f with ⟨h1, h2⟩ | ⟨h1, h2⟩ | ⟨h1, h2⟩ <;> rw [h1, h2] <;> decide
theorem pack_32 (f mode : Int) (neg : Bool) (x : Int) (a : Nat) (more : Bool) : packN f mode neg x a more < 4294967296 := by
 obtain ⟨_, hi⟩ := inf_lt f false
 have hp := Nat.two_pow_pos (fm f)
 have hb := fbounds f
 have h32 := pow_le32 (show fe f + fm f + 1 ≤ 32 by omega)
 have hs : 2 ^ (fe f + fm f + 1) = 2 * 2 ^ (fe f + fm f) := by rw [Nat.pow_succ, Nat.mul_comm]
 have hn : signN f neg ≤ 2 ^ (fe f + fm f) := by unfold signN; split <;> omega
 unfold packN overN
 generalize keyN f mode neg x a more = K at *
 generalize topN f * 2 ^ fm f = T at *
 by_cases c : T ≤ K
 ·cases endless mode neg <;> simp [c] <;> omega
 ·simp [c]; omega
theorem mul_32 (f mode : Int) (a b : Nat) : mulN f mode a b < 4294967296 := by
 unfold mulN
 split
 ·exact nan_32 f
 ·split
  ·exact nan_32 f
  ·split
   ·exact (inf_lt f _).1
   ·exact pack_32 f mode _ _ _ _
theorem FmaTells : anneallaw5_FmaTells.Pure := by
 intro a0 a1 a2 a3 a4 a5 a6 h0 h1 h2 h3 h4 h5 h6
 obtain ⟨p2, q2⟩ := wf_u8 h2
 obtain ⟨p4, q4⟩ := wf_u32 h4
 obtain ⟨p5, q5⟩ := wf_u32 h5
 obtain ⟨p6, q6⟩ := wf_u32 h6
 obtain ⟨k, rfl⟩ := nat_of p2
 obtain ⟨a, rfl⟩ := nat_of p4
 obtain ⟨b, rfl⟩ := nat_of p5
 obtain ⟨c, rfl⟩ := nat_of p6
 obtain ⟨f, ff⟩ := form5_some k
 obtain ⟨x, hx, _, xv⟩ := num_low f a
 obtain ⟨y, hy, _, yv⟩ := num_low f b
 obtain ⟨z, hz, _, zv⟩ := num_low f c
 have mild : ∀ v : Nat, v < 4294967296 → ∃ w : Nat, w < 4294967296 ∧ annealseat_Mild.f f (v : Int) = some (w : Int) := by
  intro v hv
  obtain ⟨m, s, hm, hmr⟩ := mild_f f v hv
  refine ⟨m + signN f s, ?_, hm⟩
  rcases hmr with ⟨rfl, rfl⟩ | h
  ·exact (show 0 + 0 < 4294967296 by decide)
  ·exact (mild_parts f m s h.1 h.2).2.2.2.1
 obtain ⟨m, mv, hm⟩ := mild a (by omega)
 obtain ⟨n, nv, hn⟩ := mild b (by omega)
 obtain ⟨o, ov, ho⟩ := mild c (by omega)
 have pv := mul_32 f 0 m n
 have qv : (if 4 ≤ clsN f (mulN f 0 m n) then lowN f (mulN f 0 m n) else turnN f (mulN f 0 m n)) < 4294967296 := by
  split
  ·exact low_32 f _
  ·exact (turn_parts f _).2.2.2.2
 apply Ev.rounds
 unfold anneallaw5_FmaTells.f
 refine Ev.bind known5_ev ?_
 refine Ev.congr (fun k => by rw [if_pos rfl, ff, Option.bind_some, hm, Option.bind_some, hn, Option.bind_some]) (Ev.bind (ref_mula_ev f 0 m n mv nv) ?_)
 refine Ev.congr (fun k => by rw [hx, Option.bind_some, hy, Option.bind_some, hz, Option.bind_some, ho, Option.bind_some]) (Ev.bind (rminus_ev f (mulN f 0 m n) pv) ?_)
 refine Ev.congr (fun k => by rw [Option.bind_some, Option.bind_some]) ?_
 generalize wrap64 (Int.tmod a3 5) = mode
 exact tells_step _ _ _ _ _ f mode _ 0 x y z rfl (by decide) xv yv zv rfl rfl rfl (tells_step _ _ _ _ _ f mode _ 1 a b c rfl (by decide) (by omega) (by omega) (by omega) rfl rfl rfl (tells_step _ _ _ _ _ f mode _ 2 m n o rfl (by decide) mv nv ov rfl rfl rfl (tells_step _ _ _ _ _ f mode _ 3 m n _ rfl (by decide) mv nv qv rfl rfl rfl (tells_step _ _ _ _ _ f mode _ 4 m n z rfl (by decide) mv nv zv rfl rfl rfl (tells_end a0 a1 f mode a b c _ (by omega) (by omega) (by omega))))))
end Go.Proofs.Ytejkemahdincjaa.Pure
