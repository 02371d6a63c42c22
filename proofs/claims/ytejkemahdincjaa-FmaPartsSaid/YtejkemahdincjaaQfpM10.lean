import Derived.Test.YtejkemahdincjaaQfpM9
import Derived.Test.YtejkemahdincjaaQfpPackE
import Derived.Test.YtejkemahdincjaaQfpM7
import Derived.Test.YtejkemahdincjaaQfpM5
import Derived.Test.YtejkemahdincjaaQfpM6
import Derived.Test.YtejkemahdincjaaQfpM8
/- Sums and differences: the program's, as plain numbers. -/
set_option linter.unusedVariables false
set_option linter.unusedSimpArgs false
namespace Go.Proofs.Ytejkemahdincjaa.Round
open Go.RowKit Go.Proofs.Ytejkemahdincjaa.P Go.Proofs.Ytejkemahdincjaa.Num Go.Proofs.Ytejkemahdincjaa.BitsF Go.Proofs.Ytejkemahdincjaa.Fmt Go.Proofs.YtejkemahdincjaaW.PrintWords Go.Proofs.YtejkemahdincjaaW.PrintLast Go.Proofs.YtejkemahdincjaaW.PrintMore

theorem nought_f (f mode : Int) (a b : Bool) : sum_Nought.f f mode a b = some (noughtN f mode a b : Int) := by
 unfold sum_Nought.f noughtN
 have e3 : ((mode == 3) : Bool) = decide (mode = 3) := by
  by_cases c : mode = 3
  ·subst c; rfl
  ·rw [decide_eq_false c]; exact beq_eq_false_iff_ne.mpr c
 rw [e3]
 by_cases c : a = b
 ·subst c; rw [if_pos (beq_self_eq_true a), if_pos rfl, zero_f]; rfl
 ·rw [if_neg (show ¬ (a == b) = true by rw [beq_iff_eq]; exact c), if_neg c, zero_f]; rfl
theorem infinite_ev (f : Int) (a b x y : Bool) : Ev (fun k => sum_Infinite.f k f a b x y) (if x = true ∧ y = true ∧ a ≠ b then ((nanN f : Int), true, false, false, false, false) else if x = true then ((infN f a : Int), false, false, false, false, false) else ((infN f b : Int), false, false, false, false, false)) := by
 have bad : Ev (fun k => sum_Infinite.j0 k f a b x true) ((nanN f : Int), true, false, false, false, false) :=
  Ev.step (fun k => by rw [sum_Infinite.j0, if_pos rfl, bad_f]; rfl) (Ev.now _)
 have left : x = true → Ev (fun k => sum_Infinite.j0 k f a b x false) ((infN f a : Int), false, false, false, false, false) := fun h =>
  Ev.step (fun k => by rw [sum_Infinite.j0, if_neg (by decide), if_pos h, inf_f]; rfl) (Ev.now _)
 have right : ¬ x = true → Ev (fun k => sum_Infinite.j0 k f a b x false) ((infN f b : Int), false, false, false, false, false) := fun h =>
  Ev.step (fun k => by rw [sum_Infinite.j0, if_neg (by decide), if_neg h, inf_f]; rfl) (Ev.now _)
 refine Ev.congr (fun k => by unfold sum_Infinite.f; rfl) ?_
 by_cases hx : x = true
 ·by_cases hy : y = true
  ·by_cases n : a = b
   ·rw [if_neg (fun h => h.2.2 n), if_pos hx]
    refine Ev.congr (fun k => ?_) (left hx)
    rw [if_pos hx, if_pos hy, n, bne_self_eq_false]
   ·rw [if_pos ⟨hx, hy, n⟩]
    refine Ev.congr (fun k => ?_) bad
    rw [if_pos hx, if_pos hy, bne_iff_ne.mpr n]
  ·rw [if_neg (fun h => hy h.2.1), if_pos hx]
   exact Ev.congr (fun k => by rw [if_pos hx, if_neg hy]) (left hx)
 ·rw [if_neg (fun h => hx h.1), if_neg hx]
  exact Ev.congr (fun k => by rw [if_neg hx]) (right hx)
theorem whole_62 (f : Int) (v : Nat) : wholeN f v < 4611686018427387904 := by
 have h := fbounds f
 have h1 := whole_lt f v
 have h2 := pow_le31 (show fm f + 1 ≤ 31 by omega)
 omega
/- Differences: the program's, as plain numbers. -/

def turnN (f : Int) (v : Nat) : Nat := magN f v + signN f (!negN f v)
theorem mag_lt (f : Int) (v : Nat) : magN f v < 2 ^ (fe f + fm f) := Nat.mod_lt _ (Nat.two_pow_pos _)
theorem turn_parts (f : Int) (v : Nat) : negN f (turnN f v) = !negN f v ∧ clsN f (turnN f v) = clsN f v ∧ wholeN f (turnN f v) = wholeN f v ∧ lowestN f (turnN f v) = lowestN f v ∧ turnN f v < 4294967296 := by
 have hb := fbounds f
 have h32 := pow_le32 (show fe f + fm f + 1 ≤ 32 by omega)
 obtain ⟨p1, p2, p3⟩ := sign_parts f (magN f v) (!negN f v) (mag_lt f v)
 obtain ⟨m1, m2⟩ := mag_parts f (turnN f v)
 obtain ⟨n1, n2⟩ := mag_parts f v
 have hm : magN f (turnN f v) = magN f v := p2
 rw [hm] at m1 m2
 have he : expN f (turnN f v) = expN f v := by rw [← m1, n1]
 have hf : fracN f (turnN f v) = fracN f v := by rw [← m2, n2]
 refine ⟨p1, ?_, ?_, ?_, by unfold turnN; omega⟩
 ·unfold clsN; rw [he, hf]
 ·unfold wholeN; rw [he, hf]
 ·unfold lowestN; rw [he]
def subN (f mode : Int) (a b : Nat) : Nat := if 4 ≤ clsN f a ∨ 4 ≤ clsN f b then nanN f else sumN f mode a (turnN f b)
def subX (f mode : Int) (a b : Nat) : Bool × Bool × Bool × Bool × Bool := if 4 ≤ clsN f a ∨ 4 ≤ clsN f b then (isLoud f a || isLoud f b, false, false, false, false) else sumX f mode a (turnN f b)
theorem sub_self (f mode : Int) (x : Nat) : (clsN f x < 3 → subN f mode x x = signN f (decide (mode = 3)) ∧ subX f mode x x = (false, false, false, false, false)) ∧ (¬ clsN f x < 3 → subN f mode x x = nanN f) := by
 obtain ⟨t1, t2, t3, t4, t5⟩ := turn_parts f x
 constructor
 ·intro h
  have hx := exact_self (negN f x) (lowestN f x) (wholeN f x)
  unfold subN subX sumN sumX pairN
  rw [t1, t2, t3, t4, if_neg (show ¬ (4 ≤ clsN f x ∨ 4 ≤ clsN f x) by omega), if_neg (show ¬ (4 ≤ clsN f x ∨ 4 ≤ clsN f x) by omega), if_neg (show ¬ (4 ≤ clsN f x ∨ 4 ≤ clsN f x) by omega), if_neg (show ¬ (4 ≤ clsN f x ∨ 4 ≤ clsN f x) by omega), if_neg (show ¬ (clsN f x = 3 ∧ clsN f x = 3 ∧ negN f x ≠ !negN f x) from fun h' => by omega), if_neg (show ¬ (clsN f x = 3 ∧ clsN f x = 3 ∧ negN f x ≠ !negN f x) from fun h' => by omega), if_neg (show ¬ clsN f x = 3 by omega), if_neg (show ¬ clsN f x = 3 by omega), if_neg (show ¬ (clsN f x = 3 ∨ clsN f x = 3) by omega)]
  unfold roundedN roundedX
  rw [if_pos hx, if_pos hx]
  refine ⟨?_, rfl⟩
  unfold noughtN
  rw [if_neg (by cases negN f x <;> decide)]
 ·intro h
  unfold subN sumN
  rw [t1, t2]
  by_cases n : 4 ≤ clsN f x
  ·rw [if_pos (.inl n)]
  ·rw [if_neg (show ¬ (4 ≤ clsN f x ∨ 4 ≤ clsN f x) by omega), if_neg (show ¬ (4 ≤ clsN f x ∨ 4 ≤ clsN f x) by omega), if_pos (show clsN f x = 3 ∧ clsN f x = 3 ∧ negN f x ≠ !negN f x from ⟨by omega, by omega, by cases negN f x <;> decide⟩)]
/- With the other sign: the reference's, as plain numbers. -/

end Go.Proofs.Ytejkemahdincjaa.Round

/- The reference's sums: as plain numbers. -/
namespace Go.Proofs.Ytejkemahdincjaa.Round
open Go.RowKit Go.Proofs.Ytejkemahdincjaa.P Go.Proofs.Ytejkemahdincjaa.E Go.Proofs.Ytejkemahdincjaa.Num Go.Proofs.Ytejkemahdincjaa.BitsF Go.Proofs.Ytejkemahdincjaa.Fmt Go.Proofs.YtejkemahdincjaaW.PrintWords Go.Proofs.YtejkemahdincjaaW.PrintLast Go.Proofs.YtejkemahdincjaaW.PrintMore

theorem rounded_ev (f mode : Int) (neg : Bool) {xs : List Int} (hx : Lims xs) (h : lo xs 10 ≠ 0) : Ev (fun n => E.annealref1_rounded.f n f mode neg xs) ((packN f mode neg (-298) (lo xs 10) false : Int), false, false, excN f mode neg (-298) (lo xs 10) false) :=
  Ev.congr (fun n => annealref1_rounded.eq n f mode neg xs) (rounded_l2 f mode neg false false false false false hx 9 (by decide) h).diag
theorem total_ev (f mode : Int) (xn yn : Bool) {xs ys : List Int} (hx : Lims xs) (hy : Lims ys) (h : lo xs 10 + lo ys 10 < T640) :
    Ev (fun n => E.annealref1_total.f n f mode xn xs yn ys) (((if (wideN xn (lo xs 10) yn (lo ys 10)).2 = 0 then signN f (decide (mode = 3)) else packN f mode (wideN xn (lo xs 10) yn (lo ys 10)).1 (-298) (wideN xn (lo xs 10) yn (lo ys 10)).2 false : Nat) : Int), false, false,
      (if (wideN xn (lo xs 10) yn (lo ys 10)).2 = 0 then (false, false, false) else excN f mode (wideN xn (lo xs 10) yn (lo ys 10)).1 (-298) (wideN xn (lo xs 10) yn (lo ys 10)).2 false)) := by
  obtain ⟨R, r1, r2, r3⟩ := plus_ev xn yn hx hy h
  refine Ev.congr (fun n => annealref1_total.eq n f mode xn xs yn ys) (Ev.bind r3 ?_)
  rw [← r2]
  have hm : ((mode == 3) : Bool) = decide (mode = 3) := by
    by_cases c : mode = 3
    · subst c; rfl
    · rw [decide_eq_false c]; exact beq_eq_false_iff_ne.mpr c
  by_cases z : lo R 10 = 0
  · rw [if_pos z, if_pos z]
    refine Ev.congr (fun n => ?_) (Ev.now _)
    rw [annealref1_nought.eq, Option.bind_some, nought_lims r1, if_pos (decide_eq_true z), ref_zero_f, Option.bind_some, hm]
  · rw [if_neg z, if_neg z]
    refine Ev.congr (fun n => ?_) (Ev.bind (f := fun _ t => some ((Prod.fst t, Prod.fst (Prod.snd t), Prod.fst (Prod.snd (Prod.snd t)), Prod.fst (Prod.snd (Prod.snd (Prod.snd t))), Prod.fst (Prod.snd (Prod.snd (Prod.snd (Prod.snd t)))), Prod.snd (Prod.snd (Prod.snd (Prod.snd (Prod.snd t)))))) ) (rounded_ev f mode (wideN xn (lo xs 10) yn (lo ys 10)).1 r1 z) (Ev.now _))
    rw [annealref1_nought.eq, Option.bind_some, nought_lims r1, if_neg (by rw [decide_eq_true_iff]; exact z)]
theorem lowest_fin (f : Int) (v : Nat) (h : clsN f v < 3) : -149 ≤ lowestN f v ∧ lowestN f v ≤ 120 := by
  have ht := (cls_finite f v).mp h
  unfold lowestN leastN
  unfold topN at ht
  generalize expN f v = e at *
  rcases fcases f with ⟨h1, h2⟩ | ⟨h1, h2⟩ | ⟨h1, h2⟩ <;> rw [h1] at ht <;> rw [h1, h2] <;> simp at ht ⊢ <;> omega
theorem whole_none (f : Int) (v : Nat) (h : clsN f v < 3) (z : wholeN f v = 0) : clsN f v = 0 := by
  have hp := Nat.two_pow_pos (fm f)
  unfold wholeN at z
  unfold clsN at h ⊢
  by_cases e : expN f v = 0
  · rw [if_pos e] at z
    rw [if_pos e, if_pos z]
  · rw [if_neg e] at z; omega
theorem spread_pair (s1 s2 : Nat) (e1 e2 : Int) (h1 : s1 < 1152921504606846976) (h2 : s2 < 1152921504606846976) (u1 : e1 ≤ 250) (u2 : e2 ≤ 250) : s1 * 2 ^ (e1 + 298).toNat + s2 * 2 ^ (e2 + 298).toNat < T640 := by
  obtain ⟨K, hK⟩ : ∃ K : Nat, K = 548 := ⟨_, rfl⟩
  have b : ∀ (s : Nat) (e : Int), s < 1152921504606846976 → e ≤ 250 → s * 2 ^ (e + 298).toNat < 2 ^ (60 + K) := by
    intro s e hs he
    have h1 : (2 : Nat) ^ (e + 298).toNat ≤ 2 ^ K := Nat.pow_le_pow_right (by decide) (by omega)
    have h3 : s * 2 ^ K < 2 ^ 60 * 2 ^ K := Nat.mul_lt_mul_of_pos_right (by rw [show (2 : Nat) ^ 60 = 1152921504606846976 by decide]; exact hs) (Nat.two_pow_pos _)
    rw [← Nat.pow_add] at h3
    exact Nat.lt_of_le_of_lt (Nat.mul_le_mul_left _ h1) h3
  have c : (2 : Nat) ^ (60 + K) + 2 ^ (60 + K) = 2 ^ (60 + K + 1) := by rw [Nat.pow_succ, Nat.mul_two]
  obtain ⟨M, hM⟩ : ∃ M : Nat, M = 64 * 10 := ⟨_, rfl⟩
  have d : (2 : Nat) ^ (60 + K + 1) ≤ 2 ^ M := Nat.pow_le_pow_right (by decide) (by omega)
  rw [← T640_eq, ← hM]
  rw [← c] at d
  exact Nat.lt_of_lt_of_le (Nat.add_lt_add (b s1 e1 h1 u1) (b s2 e2 h2 u2)) d
theorem wide_total (f mode : Int) (n1 : Bool) (e1 : Int) (s1 : Nat) (n2 : Bool) (e2 : Int) (s2 : Nat) (l1 : -298 ≤ e1) (u1 : e1 ≤ 250) (l2 : -298 ≤ e2) (u2 : e2 ≤ 250) (h1 : s1 < 1152921504606846976) (h2 : s2 < 1152921504606846976)
    (hne : n1 = n2 → s1 = 0 → s2 = 0 → False) {xs ys : List Int} (hx : Lims xs) (hy : Lims ys) (vx : lo xs 10 = s1 * 2 ^ (e1 + 298).toNat) (vy : lo ys 10 = s2 * 2 ^ (e2 + 298).toNat) :
    Ev (fun n => E.annealref1_total.f n f mode n1 xs n2 ys) ((roundedN f mode n1 n2 (exactN n1 e1 s1 n2 e2 s2) : Int), false, false, roundedX f mode (exactN n1 e1 s1 n2 e2 s2)) := by
  obtain ⟨w1, w2⟩ := exact_wide f mode n1 e1 s1 n2 e2 s2 l1 l2 h1 h2
  have t := total_ev f mode n1 n2 hx hy (by rw [vx, vy]; exact spread_pair s1 s2 e1 e2 h1 h2 u1 u2)
  rw [vx, vy] at t
  rw [w1, w2]
  by_cases z : (wideN n1 (s1 * 2 ^ (e1 + 298).toNat) n2 (s2 * 2 ^ (e2 + 298).toNat)).2 = 0
  · have hn : n1 ≠ n2 := by
      intro e
      have w : wideN n1 (s1 * 2 ^ (e1 + 298).toNat) n2 (s2 * 2 ^ (e2 + 298).toNat) = (n1, s1 * 2 ^ (e1 + 298).toNat + s2 * 2 ^ (e2 + 298).toNat) := if_pos e
      rw [w] at z
      have z1 := (Nat.add_eq_zero_iff.mp z).1
      have z2 := (Nat.add_eq_zero_iff.mp z).2
      exact hne e ((Nat.mul_eq_zero.mp z1).resolve_right (Nat.ne_of_gt (Nat.two_pow_pos _))) ((Nat.mul_eq_zero.mp z2).resolve_right (Nat.ne_of_gt (Nat.two_pow_pos _)))
    rw [if_pos z, if_pos z] at t
    rw [if_pos z, if_pos z]
    have hno : noughtN f mode n1 n2 = signN f (decide (mode = 3)) := if_neg hn
    rw [hno]; exact t
  · rw [if_neg z, if_neg z] at t
    rw [if_neg z, if_neg z]; exact t
theorem whole_60 (f : Int) (v : Nat) : wholeN f v < 1152921504606846976 := by
  have wa := whole_lt f v
  have hbd := fbounds f
  have hp24 : 2 ^ (fm f + 1) ≤ 16777216 := Nat.pow_le_pow_right (show 0 < 2 by decide) (show fm f + 1 ≤ 24 by omega)
  omega
theorem mul_60 (f : Int) (a b : Nat) : wholeN f a * wholeN f b < 1152921504606846976 := by
  have wa := whole_lt f a
  have wb := whole_lt f b
  have hbd := fbounds f
  have hp24 : 2 ^ (fm f + 1) ≤ 16777216 := Nat.pow_le_pow_right (show 0 < 2 by decide) (show fm f + 1 ≤ 24 by omega)
  have := Nat.mul_le_mul (show wholeN f a ≤ 16777216 by omega) (show wholeN f b ≤ 16777216 by omega)
  omega
theorem add_j12 (f mode : Int) (a b : Nat) (ha : a < 4294967296) (hb : b < 4294967296) (ca : clsN f a < 3) (cb : clsN f b < 3) (hne : ¬ (clsN f a = 0 ∧ clsN f b = 0 ∧ negN f a = negN f b)) (c0 c1 c2 c3 c4 : Bool) :
    Ev (fun n => E.annealref1_Add.j12 n (b : Int) (a : Int) mode f c0 c1 c2 c3 c4) ((roundedN f mode (negN f a) (negN f b) (pairN f a b) : Int), false, false, roundedX f mode (pairN f a b)) := by
  obtain ⟨l1, l2⟩ := lowest_fin f a ca
  obtain ⟨m1, m2⟩ := lowest_fin f b cb
  obtain ⟨R, r1, r2, r3⟩ := spread_ev (negN f a) (lowestN f a) (wholeN f a) (by omega) (by omega) (whole_60 f a)
  obtain ⟨S, s1, s2, s3⟩ := spread_ev (negN f b) (lowestN f b) (wholeN f b) (by omega) (by omega) (whole_60 f b)
  refine Ev.congr (fun n => annealref1_Add.j12_eq n b a mode f c0 c1 c2 c3 c4) (Ev.bind (runpack_ev f a ha (cls_exp f a ca)) (Ev.bind r3 (Ev.bind (runpack_ev f b hb (cls_exp f b cb)) (Ev.bind s3 ?_))))
  exact Ev.bind (wide_total f mode _ _ _ _ _ _ (by omega) (by omega) (by omega) (by omega) (whole_60 f a) (whole_60 f b) (fun e z1 z2 => hne ⟨whole_none f a ca z1, whole_none f b cb z2, e⟩) r1 s1 r2 s2) (Ev.now _)
theorem add_j6 (f mode : Int) (a b : Nat) (ha : a < 4294967296) (hb : b < 4294967296) (na : ¬ 4 ≤ clsN f a) (nb : ¬ 4 ≤ clsN f b) (hne : ¬ (clsN f a = 3 ∧ clsN f b = 3 ∧ negN f a ≠ negN f b)) (c0 c1 c2 c3 c4 : Bool) :
    Ev (fun n => E.annealref1_Add.j6 n (b : Int) (a : Int) mode f c0 c1 c2 c3 c4) ((sumN f mode a b : Int), sumX f mode a b) := by
  have n : ¬ (4 ≤ clsN f a ∨ 4 ≤ clsN f b) := by omega
  unfold sumN sumX
  rw [if_neg n, if_neg n, if_neg hne, if_neg hne]
  refine Ev.congr (fun n => annealref1_Add.j6_eq n b a mode f c0 c1 c2 c3 c4) (Ev.bind (rinf_ev f a ha) ?_)
  by_cases a3 : clsN f a = 3
  · rw [if_pos a3, if_pos (.inl a3)]
    exact Ev.congr (fun n => by rw [if_pos (decide_eq_true a3), ref_mask_f, Option.bind_some, and_mask f a ha, inf_low f a a3]) (Ev.now _)
  · refine Ev.congr (fun n => by rw [if_neg (by rw [decide_eq_true_iff]; exact a3)]) (Ev.bind (rinf_ev f b hb) ?_)
    rw [if_neg a3]
    by_cases b3 : clsN f b = 3
    · rw [if_pos b3, if_pos (.inr b3)]
      exact Ev.congr (fun n => by rw [if_pos (decide_eq_true b3), ref_mask_f, Option.bind_some, and_mask f b hb, inf_low f b b3]) (Ev.now _)
    · rw [if_neg b3, if_neg (show ¬ (clsN f a = 3 ∨ clsN f b = 3) by omega)]
      refine Ev.congr (fun n => by rw [if_neg (by rw [decide_eq_true_iff]; exact b3)]) (Ev.bind (rzero_ev f a ha) ?_)
      have fin := add_j12 f mode a b ha hb (by omega) (by omega)
      by_cases a0 : clsN f a = 0
      · refine Ev.congr (fun n => by rw [if_pos (decide_eq_true a0)]) (Ev.bind (rzero_ev f b hb) ?_)
        by_cases b0 : clsN f b = 0
        · by_cases e : negN f a = negN f b
          · refine Ev.congr (fun n => by rw [if_pos (decide_eq_true b0), rneg_f f a ha, Option.bind_some, rneg_f f b hb, Option.bind_some, if_pos (beq_iff_eq.mpr e), ref_mask_f, Option.bind_some, and_mask f a ha, (none_low f a a0).1]) ?_
            have w := exact_wide f mode (negN f a) (lowestN f a) (wholeN f a) (negN f b) (lowestN f b) (wholeN f b) (by have := (lowest_near f a).1; omega) (by have := (lowest_near f b).1; omega) (whole_60 f a) (whole_60 f b)
            unfold pairN
            rw [w.1, w.2]
            have hw : (wideN (negN f a) (wholeN f a * 2 ^ (lowestN f a + 298).toNat) (negN f b) (wholeN f b * 2 ^ (lowestN f b + 298).toNat)).2 = 0 := by
              rw [(none_low f a a0).2, (none_low f b b0).2, Nat.zero_mul, Nat.zero_mul]
              unfold wideN; rw [if_pos e]
            rw [if_pos hw, if_pos hw]
            have hno : noughtN f mode (negN f a) (negN f b) = signN f (negN f a) := if_pos e
            rw [hno]; exact Ev.now _
          · exact Ev.congr (fun n => by rw [if_pos (decide_eq_true b0), rneg_f f a ha, Option.bind_some, rneg_f f b hb, Option.bind_some, if_neg (by rw [beq_iff_eq]; exact e)]) (fin (fun h => e h.2.2) _ _ _ _ _)
        · exact Ev.congr (fun n => by rw [if_neg (by rw [decide_eq_true_iff]; exact b0)]) (fin (fun h => b0 h.2.1) _ _ _ _ _)
      · exact Ev.congr (fun n => by rw [if_neg (by rw [decide_eq_true_iff]; exact a0)]) (fin (fun h => a0 h.1) _ _ _ _ _)
theorem ref_add_ev (f mode : Int) (a b : Nat) (ha : a < 4294967296) (hb : b < 4294967296) : Ev (fun n => E.annealref1_Add.f n f mode (a : Int) (b : Int)) ((sumN f mode a b : Int), sumX f mode a b) := by
  refine Ev.congr (fun n => annealref1_Add.eq n f mode a b) (Ev.bind (nans2_ev f a b ha hb) ?_)
  by_cases n : 4 ≤ clsN f a ∨ 4 ≤ clsN f b
  · have e : (isNan f a || isNan f b) = true := by unfold isNan; rw [Bool.or_eq_true, decide_eq_true_iff, decide_eq_true_iff]; exact n
    unfold sumN sumX
    rw [if_pos n, if_pos n]
    exact Ev.congr (fun k => by rw [if_pos e, ref_nan_f, Option.bind_some]) (Ev.now _)
  · have e : ¬ (isNan f a || isNan f b) = true := by unfold isNan; rw [Bool.or_eq_true, decide_eq_true_iff, decide_eq_true_iff]; exact n
    have fin := add_j6 f mode a b ha hb (by omega) (by omega)
    refine Ev.congr (fun k => by rw [if_neg e]) (Ev.bind (rinf_ev f a ha) ?_)
    by_cases a3 : clsN f a = 3
    · refine Ev.congr (fun k => by rw [if_pos (decide_eq_true a3)]) (Ev.bind (rinf_ev f b hb) ?_)
      by_cases b3 : clsN f b = 3
      · by_cases s : negN f a = negN f b
        · exact Ev.congr (fun k => by rw [if_pos (decide_eq_true b3), rneg_f f a ha, Option.bind_some, rneg_f f b hb, Option.bind_some, if_pos (beq_iff_eq.mpr s)]) (fin (fun h => h.2.2 s) _ _ _ _ _)
        · have t : clsN f a = 3 ∧ clsN f b = 3 ∧ negN f a ≠ negN f b := ⟨a3, b3, s⟩
          unfold sumN sumX
          rw [if_neg n, if_neg n, if_pos t, if_pos t]
          exact Ev.congr (fun k => by rw [if_pos (decide_eq_true b3), rneg_f f a ha, Option.bind_some, rneg_f f b hb, Option.bind_some, if_neg (by rw [beq_iff_eq]; exact s), ref_nan_f, Option.bind_some]) (Ev.now _)
      · exact Ev.congr (fun k => by rw [if_neg (by rw [decide_eq_true_iff]; exact b3)]) (fin (fun h => b3 h.2.1) _ _ _ _ _)
    · exact Ev.congr (fun k => by rw [if_neg (by rw [decide_eq_true_iff]; exact a3)]) (fin (fun h => a3 h.1) _ _ _ _ _)
end Go.Proofs.Ytejkemahdincjaa.Round

/- Products: as plain numbers. -/
namespace Go.Proofs.Ytejkemahdincjaa.Round
open Go.RowKit Go.Proofs.Ytejkemahdincjaa.P Go.Proofs.Ytejkemahdincjaa.Num Go.Proofs.Ytejkemahdincjaa.BitsF Go.Proofs.Ytejkemahdincjaa.Fmt Go.Proofs.YtejkemahdincjaaW.PrintWords Go.Proofs.YtejkemahdincjaaW.PrintLast Go.Proofs.YtejkemahdincjaaW.PrintMore

def tornN (f : Int) (a b : Nat) : Bool := decide (clsN f a = 0 ∧ clsN f b = 3 ∨ clsN f a = 3 ∧ clsN f b = 0)
def mulN (f mode : Int) (a b : Nat) : Nat :=
 if 4 ≤ clsN f a ∨ 4 ≤ clsN f b then nanN f else if tornN f a b then nanN f else if clsN f a = 3 ∨ clsN f b = 3 then infN f (negN f a != negN f b)
 else packN f mode (negN f a != negN f b) (lowestN f a + lowestN f b) (wholeN f a * wholeN f b) false
def mulX (f mode : Int) (a b : Nat) : Bool × Bool × Bool × Bool × Bool :=
 if 4 ≤ clsN f a ∨ 4 ≤ clsN f b then (isLoud f a || isLoud f b, false, false, false, false) else if tornN f a b then (true, false, false, false, false) else if clsN f a = 3 ∨ clsN f b = 3 then (false, false, false, false, false)
 else (false, false, excN f mode (negN f a != negN f b) (lowestN f a + lowestN f b) (wholeN f a * wholeN f b) false)
theorem mul_small (f : Int) (a b : Nat) : wholeN f a * wholeN f b < 18446744073709551616 := by
 have wa := whole_lt f a
 have wb := whole_lt f b
 have hbd := fbounds f
 have hp24 : 2 ^ (fm f + 1) ≤ 16777216 := Nat.pow_le_pow_right (show 0 < 2 by decide) (show fm f + 1 ≤ 24 by omega)
 have := Nat.mul_le_mul (show wholeN f a ≤ 16777216 by omega) (show wholeN f b ≤ 16777216 by omega)
 omega
end Go.Proofs.Ytejkemahdincjaa.Round
