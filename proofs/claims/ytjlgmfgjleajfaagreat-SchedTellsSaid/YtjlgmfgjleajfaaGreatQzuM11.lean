import Derived.Test.YtjlgmfgjleajfaaGreatQzuZ
import Derived.Test.YtjlgmfgjleajfaaGreatQzuM5
import Derived.Test.YtjlgmfgjleajfaaGreatQzuM8
import Derived.Test.YtjlgmfgjleajfaaGreatQzuProdF
import Derived.Test.YtjlgmfgjleajfaaGreatQzuM10
import Derived.Test.YtjlgmfgjleajfaaGreatQzuM7
import Derived.Test.YtjlgmfgjleajfaaGreatQzuPackE
import Derived.Test.YtjlgmfgjleajfaaGreatQzuM6
import Derived.Test.YtjlgmfgjleajfaaGreatQzuM9
import Derived.Test.YtjlgmfgjleajfaaGreatQzuM4
import Derived.Test.YtjlgmfgjleajfaaGreatProg
-- Printed by a program of this session's out of Lean's print of the translation; Lean checks it.
set_option linter.unusedVariables false
set_option linter.unusedSimpArgs false
set_option maxRecDepth 100000
set_option maxHeartbeats 8000000
namespace Go.Proofs.YtjlgmfgjleajfaaGreat.P
open Go.RowKit Go.Proofs.YtjlgmfgjleajfaaGreatW.PrintWords Go.Proofs.YtjlgmfgjleajfaaGreatW.PrintLast Go.Proofs.YtjlgmfgjleajfaaGreatW.PrintMore
attribute [local go_sem] max2_int min2_int max_two min_two max_three min_three max_four min_four

-- NEED 2
/-! ### aX: function 104 -/
mutual
def aX.j0 : Nat → Int → Int → Int → Int → Int → Bool → Bool → Bool → Option (Int × Bool × Bool × Bool × Bool × Bool)
 |0, _, _, _, _, _, _, _, _ => none
 |k + 1, x0, x1, x2, x3, x4, x16, x17, x18 => if x17 = true then (aX.j1 k x0 x1 x2 x3 x4 x16 x17 x18 true) else (aX.j1 k x0 x1 x2 x3 x4 x16 x17 x18 x18)
def aX.j1 : Nat → Int → Int → Int → Int → Int → Bool → Bool → Bool → Bool → Option (Int × Bool × Bool × Bool × Bool × Bool)
 |0, _, _, _, _, _, _, _, _, _ => none
 |k + 1, x0, x1, x2, x3, x4, x16, x17, x18, x71 => if x71 = true then ((dS.f x0 x4).bind fun t459 => ((aU.f k x0 x16 t459 x17 x18).bind fun bt460 => (some (bt460.1, bt460.2.1, bt460.2.2.1, bt460.2.2.2.1, bt460.2.2.2.2.1, bt460.2.2.2.2.2)))) else ((eQ.f x0 x2 x3).bind fun bt466 => ((gP.f x0 x4).bind fun bt470 => ((aH.f k bt466.1 bt466.2.1 bt466.2.2.1 bt466.2.2.2 bt470.1 bt470.2.1 bt470.2.2.1 bt470.2.2.2).bind fun bt476 => (if bt476.2.2.1 = 0 then (aX.j2 k x0 x1 x16 (!bt476.2.2.2) bt470.1 bt470.2.1 bt470.2.2.1 bt470.2.2.2 bt476.1 bt476.2.1 bt476.2.2.1 bt476.2.2.2) else (aX.j2 k x0 x1 x16 false bt470.1 bt470.2.1 bt470.2.2.1 bt470.2.2.2 bt476.1 bt476.2.1 bt476.2.2.1 bt476.2.2.2)))))
def aX.j2 : Nat → Int → Int → Bool → Bool → Bool → Int → Int → Bool → Bool → Int → Int → Bool → Option (Int × Bool × Bool × Bool × Bool × Bool)
 |0, _, _, _, _, _, _, _, _, _, _, _, _ => none
 |k + 1, x0, x1, x16, x99, x476000, x476001, x476002, x476003, x481000, x481001, x481002, x481003 => if x99 = true then ((fT.f x0 x1 x16 x476000).bind fun t481 => (some (t481, false, false, false, false, false))) else ((aB.f k x0 x1 x481000 x481001 x481002 x481003).bind fun bt482 => (some (bt482.1, bt482.2.1, bt482.2.2.1, bt482.2.2.2.1, bt482.2.2.2.2.1, bt482.2.2.2.2.2)))
end
def aX.f (k : Nat) (a0 a1 : Int) (a2 a3 a4 : Int) : Option (Int × Bool × Bool × Bool × Bool × Bool) := (dK.f k a0 a2 a3).bind fun t435 => ((aY.f k a0 (([a2, a3, a4] : List Int))).bind fun bt439 => (if bt439.2.2.2.2.2.2 = true then (if bt439.2.1 = true then (some (bt439.1, true, bt439.2.2.1, bt439.2.2.2.1, bt439.2.2.2.2.1, bt439.2.2.2.2.2.1)) else (some (bt439.1, t435, bt439.2.2.1, bt439.2.2.2.1, bt439.2.2.2.2.1, bt439.2.2.2.2.2.1))) else (if t435 = true then ((gL.f a0).bind fun bt447 => (some (bt447.1, bt447.2.1, bt447.2.2.1, bt447.2.2.2.1, bt447.2.2.2.2.1, bt447.2.2.2.2.2))) else ((dS.f a0 a2).bind fun t453 => ((dS.f a0 a3).bind fun t454 => ((aJ.f k a0 a2).bind fun t455 => (if t455 = true then ((aJ.f k a0 a4).bind fun t456 => (aX.j0 k a0 a1 a2 a3 a4 (t453 != t454) true t456)) else ((aJ.f k a0 a3).bind fun t457 => ((aJ.f k a0 a4).bind fun t458 => (aX.j0 k a0 a1 a2 a3 a4 (t453 != t454) t457 t458))))))))))
theorem aX.eZ : ∀ k, (∀ y0 y1 y2 y3 y4 y5 y6 y7, LeO (aX.j0 k y0 y1 y2 y3 y4 y5 y6 y7) (aX.j0 (k + 1) y0 y1 y2 y3 y4 y5 y6 y7)) ∧ (∀ y0 y1 y2 y3 y4 y5 y6 y7 y8, LeO (aX.j1 k y0 y1 y2 y3 y4 y5 y6 y7 y8) (aX.j1 (k + 1) y0 y1 y2 y3 y4 y5 y6 y7 y8)) ∧ (∀ y0 y1 y2 y3 y4 y5 y6 y7 y8 y9 y10 y11, LeO (aX.j2 k y0 y1 y2 y3 y4 y5 y6 y7 y8 y9 y10 y11) (aX.j2 (k + 1) y0 y1 y2 y3 y4 y5 y6 y7 y8 y9 y10 y11))
 |0 => ⟨fun _ _ _ _ _ _ _ _ r h => by simp [aX.j0] at h, fun _ _ _ _ _ _ _ _ _ r h => by simp [aX.j1] at h, fun _ _ _ _ _ _ _ _ _ _ _ _ r h => by simp [aX.j2] at h⟩
 |k + 1 => by
  obtain ⟨ih0, ih1, ih2⟩ := aX.eZ k
  refine ⟨?_, ?_, ?_⟩
  ·intro y0 y1 y2 y3 y4 y5 y6 y7
   unfold aX.j0
   repeat' first
   |(with_reducible first|exact ih0 _ _ _ _ _ _ _ _|exact ih1 _ _ _ _ _ _ _ _ _|exact ih2 _ _ _ _ _ _ _ _ _ _ _ _|exact aJ.mono _ _ _|exact dK.mono _ _ _ _|exact aB.mono _ _ _ _ _ _ _|exact aH.mono _ _ _ _ _ _ _ _ _|exact aU.mono _ _ _ _ _ _|exact aY.mono _ _ _|exact LeO.refl _|exact LeO.none _|refine LeO.ite ?_ ?_|refine LeO.bind ?_ (fun _ => ?_))
   |exact ih0 _ _ _ _ _ _ _ _
   |exact ih1 _ _ _ _ _ _ _ _ _
   |exact ih2 _ _ _ _ _ _ _ _ _ _ _ _
   |exact aJ.mono _ _ _
   |exact dK.mono _ _ _ _
   |exact aB.mono _ _ _ _ _ _ _
   |exact aH.mono _ _ _ _ _ _ _ _ _
   |exact aU.mono _ _ _ _ _ _
   |exact aY.mono _ _ _
   |exact LeO.none _
   |refine LeO.ite ?_ ?_
   |refine LeO.bind ?_ (fun _ => ?_)
  ·intro y0 y1 y2 y3 y4 y5 y6 y7 y8
   unfold aX.j1
   repeat' first
   |(with_reducible first|exact ih0 _ _ _ _ _ _ _ _|exact ih1 _ _ _ _ _ _ _ _ _|exact ih2 _ _ _ _ _ _ _ _ _ _ _ _|exact aJ.mono _ _ _|exact dK.mono _ _ _ _|exact aB.mono _ _ _ _ _ _ _|exact aH.mono _ _ _ _ _ _ _ _ _|exact aU.mono _ _ _ _ _ _|exact aY.mono _ _ _|exact LeO.refl _|exact LeO.none _|refine LeO.ite ?_ ?_|refine LeO.bind ?_ (fun _ => ?_))
   |exact ih0 _ _ _ _ _ _ _ _
   |exact ih1 _ _ _ _ _ _ _ _ _
   |exact ih2 _ _ _ _ _ _ _ _ _ _ _ _
   |exact aJ.mono _ _ _
   |exact dK.mono _ _ _ _
   |exact aB.mono _ _ _ _ _ _ _
   |exact aH.mono _ _ _ _ _ _ _ _ _
   |exact aU.mono _ _ _ _ _ _
   |exact aY.mono _ _ _
   |exact LeO.none _
   |refine LeO.ite ?_ ?_
   |refine LeO.bind ?_ (fun _ => ?_)
  ·intro y0 y1 y2 y3 y4 y5 y6 y7 y8 y9 y10 y11
   unfold aX.j2
   repeat' first
   |(with_reducible first|exact ih0 _ _ _ _ _ _ _ _|exact ih1 _ _ _ _ _ _ _ _ _|exact ih2 _ _ _ _ _ _ _ _ _ _ _ _|exact aJ.mono _ _ _|exact dK.mono _ _ _ _|exact aB.mono _ _ _ _ _ _ _|exact aH.mono _ _ _ _ _ _ _ _ _|exact aU.mono _ _ _ _ _ _|exact aY.mono _ _ _|exact LeO.refl _|exact LeO.none _|refine LeO.ite ?_ ?_|refine LeO.bind ?_ (fun _ => ?_))
   |exact ih0 _ _ _ _ _ _ _ _
   |exact ih1 _ _ _ _ _ _ _ _ _
   |exact ih2 _ _ _ _ _ _ _ _ _ _ _ _
   |exact aJ.mono _ _ _
   |exact dK.mono _ _ _ _
   |exact aB.mono _ _ _ _ _ _ _
   |exact aH.mono _ _ _ _ _ _ _ _ _
   |exact aU.mono _ _ _ _ _ _
   |exact aY.mono _ _ _
   |exact LeO.none _
   |refine LeO.ite ?_ ?_
   |refine LeO.bind ?_ (fun _ => ?_)
theorem aX.mono : ∀ a0 a1 a2 a3 a4 k, LeO (aX.f k a0 a1 a2 a3 a4) (aX.f (k + 1) a0 a1 a2 a3 a4) := by
 intro a0 a1 a2 a3 a4 k
 obtain ⟨ih0, ih1, ih2⟩ := aX.eZ k
 unfold aX.f
 repeat' first
   |(with_reducible first|exact ih0 _ _ _ _ _ _ _ _|exact ih1 _ _ _ _ _ _ _ _ _|exact ih2 _ _ _ _ _ _ _ _ _ _ _ _|exact aJ.mono _ _ _|exact dK.mono _ _ _ _|exact aB.mono _ _ _ _ _ _ _|exact aH.mono _ _ _ _ _ _ _ _ _|exact aU.mono _ _ _ _ _ _|exact aY.mono _ _ _|exact LeO.refl _|exact LeO.none _|refine LeO.ite ?_ ?_|refine LeO.bind ?_ (fun _ => ?_))
   |exact ih0 _ _ _ _ _ _ _ _
   |exact ih1 _ _ _ _ _ _ _ _ _
   |exact ih2 _ _ _ _ _ _ _ _ _ _ _ _
   |exact aJ.mono _ _ _
   |exact dK.mono _ _ _ _
   |exact aB.mono _ _ _ _ _ _ _
   |exact aH.mono _ _ _ _ _ _ _ _ _
   |exact aU.mono _ _ _ _ _ _
   |exact aY.mono _ _ _
   |exact LeO.none _
   |refine LeO.ite ?_ ?_
   |refine LeO.bind ?_ (fun _ => ?_)

end Go.Proofs.YtjlgmfgjleajfaaGreat.P

/- A product and a number together: the program's, of finite numbers, as plain numbers. -/
namespace Go.Proofs.YtjlgmfgjleajfaaGreat.Round
open Go.RowKit Go.Proofs.YtjlgmfgjleajfaaGreat.P Go.Proofs.YtjlgmfgjleajfaaGreat.Num Go.Proofs.YtjlgmfgjleajfaaGreat.BitsF Go.Proofs.YtjlgmfgjleajfaaGreat.Fmt Go.Proofs.YtjlgmfgjleajfaaGreatW.PrintWords Go.Proofs.YtjlgmfgjleajfaaGreatW.PrintLast Go.Proofs.YtjlgmfgjleajfaaGreatW.PrintMore

theorem oW (f : Int) (a b c : Nat) (ha : a < 4294967296) (hb : b < 4294967296) (hc : c < 4294967296) : Ev (fun k => aY.f k f [(a : Int), (b : Int), (c : Int)]) ((qU f : Int), gI f a || gI f b || gI f c, false, false, false, false, eX f a || eX f b || eX f c) := by
 refine Ev.congr (fun k => by unfold aY.f; rfl) (mQ f _ 0 a false false _ (by simp) (by simp) ha rfl (mQ f _ 1 b _ _ _ (by simp) (by simp) hb rfl (mQ f _ 2 c _ _ _ (by simp) (by simp) hc rfl ?_)))
 rw [Bool.false_or, Bool.false_or]
 exact wI f [(a : Int), (b : Int), (c : Int)] _ _
def pR (f : Int) (a b c : Nat) : Bool × Int × Nat × Bool := lC (dE f a != dE f b) (bA f a + bA f b) (bH f a * bH f b) (dE f c) (bA f c) (bH f c)
theorem mul_62 (f : Int) (a b : Nat) : bH f a * bH f b < 4611686018427387904 := by
 have wa := kC f a
 have wb := kC f b
 have hbd := dZ f
 have hp24 : 2 ^ (fm f + 1) ≤ 16777216 := Nat.pow_le_pow_right (show 0 < 2 by decide) (show fm f + 1 ≤ 24 by omega)
 have := Nat.mul_le_mul (show bH f a ≤ 16777216 by omega) (show bH f b ≤ 16777216 by omega)
 omega
theorem fma_ev (f mode : Int) (a b c : Nat) (ha : a < 4294967296) (hb : b < 4294967296) (hc : c < 4294967296) (ca : bK f a < 3) (cb : bK f b < 3) (cc : bK f c < 3) :
  Ev (fun k => aX.f k f mode (a : Int) (b : Int) (c : Int)) ((gG f mode (dE f a != dE f b) (dE f c) (pR f a b c) : Int), false, false, gZ f mode (pR f a b c)) := by
 have ht : kF f a b = false := by unfold kF; exact decide_eq_false (by omega)
 have hto := sS f a b ha hb
 rw [ht] at hto
 have hn := oW f a b c ha hb hc
 have n0 : (eX f a || eX f b || eX f c) = false := by
  unfold eX
  rw [decide_eq_false (show ¬ 4 ≤ bK f a by omega), decide_eq_false (show ¬ 4 ≤ bK f b by omega), decide_eq_false (show ¬ 4 ≤ bK f c by omega)]; rfl
 rw [n0] at hn
 obtain ⟨l1, l2⟩ := fB f a
 obtain ⟨m1, m2⟩ := fB f b
 obtain ⟨o1, o2⟩ := fB f c
 have fa := iZ f a ca
 have fb := iZ f b cb
 have fc := iZ f c cc
 have hx := zV (dE f a != dE f b) (bA f a + bA f b) (bH f a * bH f b) (dE f c) (bA f c) (bH f c) (mul_62 f a b) (nX f c) (by omega) (by omega) (by omega) (by omega)
 obtain ⟨x1, x2, x3⟩ := rD (dE f a != dE f b) (bA f a + bA f b) (bH f a * bH f b) (dE f c) (bA f c) (bH f c) (mul_62 f a b) (nX f c) (by omega) (by omega) (by omega) (by omega)
 refine Ev.congr (fun k => by unfold aX.f; rfl) (Ev.bind hto (Ev.bind hn ?_))
 dsimp only
 refine Ev.congr (fun k => by rw [if_neg (show ¬ false = true by decide), if_neg (show ¬ false = true by decide), tJ f a ha, Option.bind_some, tJ f b hb, Option.bind_some]) (Ev.bind (jY f a ha) ?_)
 refine Ev.congr (fun k => by rw [if_neg (by simp; omega)]) (Ev.bind (jY f b hb) (Ev.bind (jY f c hc) ?_))
 rw [decide_eq_false (show ¬ bK f b = 3 by omega), decide_eq_false (show ¬ bK f c = 3 by omega)]
 refine Ev.step (fun k => by rw [aX.j0, if_neg (by decide)]) (Ev.step (fun k => by rw [aX.j1, if_neg (by decide), xJ f a b ha hb fa fb, Option.bind_some, of_f f c hc fc, Option.bind_some]) ?_)
 dsimp only
 refine Ev.bind hx ?_
 unfold pR yF
 generalize lC (dE f a != dE f b) (bA f a + bA f b) (bH f a * bH f b) (dE f c) (bA f c) (bH f c) = r at *
 obtain ⟨rn, re, rs, rm⟩ := r
 dsimp only at *
 have hp := pM f mode rn re rs rm (by omega)
 rw [iV _ (by omega) (by omega)] at hp
 have pack : ¬ (rs = 0 ∧ rm = false) → Ev (fun k => aX.j2 k f mode (dE f a != dE f b) false (dE f c) (bA f c) (bH f c : Int) false rn re (rs : Int) rm) ((gG f mode (dE f a != dE f b) (dE f c) (rn, re, rs, rm) : Int), false, false, gZ f mode (rn, re, rs, rm)) := by
  intro z
  have zz : ¬ (rs, rm) = (0, false) := fun e => z ⟨(Prod.mk.inj e).1, (Prod.mk.inj e).2⟩
  unfold gG gZ
  rw [if_neg zz, if_neg zz]
  exact Ev.step (fun k => by rw [aX.j2, if_neg (by decide)]) (Ev.bind hp (Ev.now _))
 by_cases s0 : rs = 0
 ·cases rm
  ·have zz : (rs, false) = (0, false) := by rw [s0]
   refine Ev.congr (fun k => by rw [if_pos (by omega)]) (Ev.step (fun k => by rw [aX.j2, if_pos (by decide), aAi]) (Ev.congr (fun k => ?_) (Ev.now _)))
   unfold gG gZ
   rw [if_pos zz, if_pos zz]; rfl
  ·exact Ev.congr (fun k => by rw [if_pos (by omega)]; rfl) (pack (by simp))
 ·exact Ev.congr (fun k => by rw [if_neg (by omega)]) (pack (fun h => s0 h.1))
end Go.Proofs.YtjlgmfgjleajfaaGreat.Round

/- The reference's differences, products with a sum: as plain numbers. -/
namespace Go.Proofs.YtjlgmfgjleajfaaGreat.Round
open Go.RowKit Go.Proofs.YtjlgmfgjleajfaaGreat.P Go.Proofs.YtjlgmfgjleajfaaGreat.E Go.Proofs.YtjlgmfgjleajfaaGreat.Num Go.Proofs.YtjlgmfgjleajfaaGreat.BitsF Go.Proofs.YtjlgmfgjleajfaaGreat.Fmt Go.Proofs.YtjlgmfgjleajfaaGreatW.PrintWords Go.Proofs.YtjlgmfgjleajfaaGreatW.PrintLast Go.Proofs.YtjlgmfgjleajfaaGreatW.PrintMore

theorem wL (f : Int) (v : Nat) (hv : v < 4294967296) : Ev (fun k => P.dY.f k f (v : Int)) ((if 4 ≤ bK f v then lG f v else jM f v : Nat) : Int) := by
  have hb := dZ f
  have h31 := eT (show fe f + fm f ≤ 31 by omega)
  have h32 := mY (show fe f + fm f + 1 ≤ 32 by omega)
  refine Ev.congr (fun k => by unfold P.dY.f; rfl) (Ev.bind (nans1_ev f v hv) ?_)
  by_cases n : 4 ≤ bK f v
  · rw [if_pos n]
    exact Ev.congr (fun k => by rw [if_pos (show eX f v = true from decide_eq_true n), kG, Option.bind_some, l7 f v hv]) (Ev.now _)
  · rw [if_neg n]
    refine Ev.congr (fun k => ?_) (Ev.now _)
    have hs : fO f true = 2 ^ (fe f + fm f) := rfl
    have hs0 : fO f false = 0 := rfl
    have hx : (v ^^^ 2 ^ (fe f + fm f)) < 4294967296 := Nat.xor_lt_two_pow (n := 32) hv (by omega)
    have key : lG f (v ^^^ 2 ^ (fe f + fm f)) = jM f v := by
      unfold lG
      rw [Nat.xor_mod_two_pow, Nat.mod_eq_of_lt (show 2 ^ (fe f + fm f) < 2 ^ (fe f + fm f + 1) from Nat.pow_lt_pow_right (by decide) (Nat.lt_succ_self _))]
      have hm := aBR f v
      have hvm := aBP f v
      unfold lG at hvm
      rw [hvm]
      obtain ⟨x1, x2⟩ := aBI (uC f v) (fe f + fm f) hm
      unfold jM
      cases hn : dE f v
      · rw [hs0, Nat.add_zero, Bool.not_false, hs, x1]
      · rw [hs, Bool.not_true, hs0, Nat.add_zero, x2]
    rw [if_neg (show ¬ eX f v = true by unfold eX; rw [decide_eq_true_iff]; exact n), nU, Option.bind_some, kG, Option.bind_some, hs, yN v _ hv (by omega), l7 f _ hx, key]
theorem aAK (f mode : Int) (a b : Nat) (ha : a < 4294967296) (hb : b < 4294967296) : Ev (fun n => E.dD.f n f mode (a : Int) (b : Int)) ((uL f mode a b : Int), subX f mode a b) := by
  refine Ev.congr (fun n => dD.eq n f mode a b) (Ev.bind (wL f b hb) ?_)
  have tp := nZ f b
  by_cases n : 4 ≤ bK f b
  · rw [if_pos n]
    have e : rV f mode a (lG f b) = uL f mode a b ∧ aAX f mode a (lG f b) = subX f mode a b := by
      unfold rV aAX uL subX gI
      rw [aCe, if_pos (.inr n), if_pos (.inr n), if_pos (.inr n), if_pos (.inr n)]; exact ⟨rfl, rfl⟩
    rw [← e.1, ← e.2]
    exact Ev.bind (qP f mode a (lG f b) ha (low_32 f b)) (Ev.now _)
  · rw [if_neg n]
    have e : rV f mode a (jM f b) = uL f mode a b ∧ aAX f mode a (jM f b) = subX f mode a b := by
      unfold uL subX
      by_cases m : 4 ≤ bK f a
      · unfold rV aAX gI
        rw [tp.2.1, if_pos (.inl m), if_pos (.inl m), if_pos (.inl m), if_pos (.inl m)]; exact ⟨rfl, rfl⟩
      · rw [if_neg (show ¬ (4 ≤ bK f a ∨ 4 ≤ bK f b) by omega), if_neg (show ¬ (4 ≤ bK f a ∨ 4 ≤ bK f b) by omega)]; exact ⟨rfl, rfl⟩
    rw [← e.1, ← e.2]
    exact Ev.bind (qP f mode a (jM f b) ha tp.2.2.2.2) (Ev.now _)

def qO (f mode : Int) (a b c : Nat) : Nat :=
  if 4 ≤ bK f a ∨ 4 ≤ bK f b ∨ 4 ≤ bK f c then qU f else if kF f a b = true then qU f
  else if bK f a = 3 ∨ bK f b = 3 then (if bK f c = 3 ∧ dE f c ≠ (dE f a != dE f b) then qU f else oH f (dE f a != dE f b))
  else if bK f c = 3 then oH f (dE f c) else gG f mode (dE f a != dE f b) (dE f c) (pR f a b c)
def zG (f mode : Int) (a b c : Nat) : Bool × Bool × Bool × Bool × Bool :=
  if 4 ≤ bK f a ∨ 4 ≤ bK f b ∨ 4 ≤ bK f c then (gI f a || gI f b || gI f c || kF f a b, false, false, false, false) else if kF f a b = true then (true, false, false, false, false)
  else if bK f a = 3 ∨ bK f b = 3 then (if bK f c = 3 ∧ dE f c ≠ (dE f a != dE f b) then (true, false, false, false, false) else (false, false, false, false, false))
  else if bK f c = 3 then (false, false, false, false, false) else (false, false, gZ f mode (pR f a b c))
theorem aBa (f mode : Int) (a b c : Nat) (ca : bK f a < 3) (cb : bK f b < 3) (cc : bK f c < 3) : qO f mode a b c = gG f mode (dE f a != dE f b) (dE f c) (pR f a b c) ∧ zG f mode a b c = (false, false, gZ f mode (pR f a b c)) := by
  have ht : ¬ kF f a b = true := by unfold kF; rw [decide_eq_true_iff]; omega
  unfold qO zG
  rw [if_neg (show ¬ (4 ≤ bK f a ∨ 4 ≤ bK f b ∨ 4 ≤ bK f c) by omega), if_neg (show ¬ (4 ≤ bK f a ∨ 4 ≤ bK f b ∨ 4 ≤ bK f c) by omega), if_neg ht, if_neg ht, if_neg (show ¬ (bK f a = 3 ∨ bK f b = 3) by omega), if_neg (show ¬ (bK f a = 3 ∨ bK f b = 3) by omega), if_neg (show ¬ bK f c = 3 by omega), if_neg (show ¬ bK f c = 3 by omega)]
  exact ⟨rfl, rfl⟩
theorem nan3 (f : Int) (a b c : Nat) : (eX f a || eX f b || eX f c) = true ↔ (4 ≤ bK f a ∨ 4 ≤ bK f b ∨ 4 ≤ bK f c) := by
  unfold eX
  rw [Bool.or_eq_true, Bool.or_eq_true, decide_eq_true_iff, decide_eq_true_iff, decide_eq_true_iff, or_assoc]
theorem aAN (f mode : Int) (a b c : Nat) (ha : a < 4294967296) (hb : b < 4294967296) (hc : c < 4294967296) :
    Ev (fun k => aX.f k f mode (a : Int) (b : Int) (c : Int)) ((qO f mode a b c : Int), zG f mode a b c) := by
  by_cases n : 4 ≤ bK f a ∨ 4 ≤ bK f b ∨ 4 ≤ bK f c
  · have e := (nan3 f a b c).mpr n
    unfold qO zG
    rw [if_pos n, if_pos n]
    refine Ev.congr (fun k => by unfold aX.f; rfl) (Ev.bind (sS f a b ha hb) (Ev.bind (oW f a b c ha hb hc) (Ev.congr (fun k => ?_) (Ev.now _))))
    dsimp only
    rw [if_pos e]
    cases h : (gI f a || gI f b || gI f c)
    · rw [if_neg (by decide), Bool.false_or]
    · rw [if_pos rfl, Bool.true_or]
  · have e : ¬ (eX f a || eX f b || eX f c) = true := fun h => n ((nan3 f a b c).mp h)
    by_cases t : kF f a b = true
    · unfold qO zG
      rw [if_neg n, if_neg n, if_pos t, if_pos t]
      refine Ev.congr (fun k => by unfold aX.f; rfl) (Ev.bind (sS f a b ha hb) (Ev.bind (oW f a b c ha hb hc) (Ev.congr (fun k => ?_) (Ev.now _))))
      dsimp only
      rw [if_neg e, if_pos t, bad_f, Option.bind_some]
    · by_cases i : bK f a = 3 ∨ bK f b = 3 ∨ bK f c = 3
      · have hin := sO f (dE f a != dE f b) (dE f c) (decide (bK f a = 3 ∨ bK f b = 3)) (decide (bK f c = 3))
        have hj1 : Ev (fun k => aX.j1 k f mode (a : Int) (b : Int) (c : Int) (dE f a != dE f b) (decide (bK f a = 3 ∨ bK f b = 3)) (decide (bK f c = 3)) true) ((qO f mode a b c : Int), zG f mode a b c) := by
          refine Ev.step (fun k => by rw [aX.j1, if_pos rfl, tJ f c hc, Option.bind_some]) (Ev.bind hin (Ev.congr (fun k => ?_) (Ev.now _)))
          unfold qO zG
          rw [if_neg n, if_neg n, if_neg t, if_neg t]
          simp only [decide_eq_true_iff]
          by_cases ab : bK f a = 3 ∨ bK f b = 3
          · by_cases c3 : bK f c = 3 ∧ dE f c ≠ (dE f a != dE f b)
            · have h1 : (bK f a = 3 ∨ bK f b = 3) ∧ bK f c = 3 ∧ (dE f a != dE f b) ≠ dE f c := ⟨ab, c3.1, fun h => c3.2 h.symm⟩
              rw [if_pos h1, if_pos ab, if_pos c3, if_pos ab, if_pos c3]
            · have h1 : ¬ ((bK f a = 3 ∨ bK f b = 3) ∧ bK f c = 3 ∧ (dE f a != dE f b) ≠ dE f c) := fun h => c3 ⟨h.2.1, fun e => h.2.2 e.symm⟩
              rw [if_neg h1, if_pos ab, if_pos ab, if_neg c3, if_pos ab, if_neg c3]
          · have c3 : bK f c = 3 := by omega
            have h1 : ¬ ((bK f a = 3 ∨ bK f b = 3) ∧ bK f c = 3 ∧ (dE f a != dE f b) ≠ dE f c) := fun h => ab h.1
            rw [if_neg h1, if_neg ab, if_neg ab, if_pos c3, if_neg ab, if_pos c3]
        have hj : Ev (fun k => aX.j0 k f mode (a : Int) (b : Int) (c : Int) (dE f a != dE f b) (decide (bK f a = 3 ∨ bK f b = 3)) (decide (bK f c = 3))) ((qO f mode a b c : Int), zG f mode a b c) := by
          by_cases ab : bK f a = 3 ∨ bK f b = 3
          · exact Ev.step (fun k => by rw [aX.j0, if_pos (decide_eq_true ab)]) hj1
          · have c3 : bK f c = 3 := by omega
            refine Ev.step (fun k => by rw [aX.j0, if_neg (by rw [decide_eq_true_iff]; exact ab)]) ?_
            exact Ev.congr (fun k => by rw [decide_eq_true c3]) hj1
        refine Ev.congr (fun k => by unfold aX.f; rfl) (Ev.bind (sS f a b ha hb) (Ev.bind (oW f a b c ha hb hc) ?_))
        dsimp only
        refine Ev.congr (fun k => by rw [if_neg e, if_neg t, tJ f a ha, Option.bind_some, tJ f b hb, Option.bind_some]) (Ev.bind (jY f a ha) ?_)
        by_cases a3 : bK f a = 3
        · refine Ev.congr (fun k => by rw [if_pos (decide_eq_true a3)]) (Ev.bind (jY f c hc) ?_)
          rw [decide_eq_true (show bK f a = 3 ∨ bK f b = 3 from .inl a3)] at hj
          exact hj
        · refine Ev.congr (fun k => by rw [if_neg (by rw [decide_eq_true_iff]; exact a3)]) (Ev.bind (jY f b hb) (Ev.bind (jY f c hc) ?_))
          rw [show decide (bK f a = 3 ∨ bK f b = 3) = decide (bK f b = 3) from decide_eq_decide.mpr ⟨fun h => h.resolve_left a3, .inr⟩] at hj
          exact hj
      · have h1 := qZ f a
        obtain ⟨e1, e2⟩ := aBa f mode a b c (by omega) (by omega) (by omega)
        rw [e1, e2]
        exact fma_ev f mode a b c ha hb hc (by omega) (by omega) (by omega)
theorem aCi (f : Int) (a b c : Nat) (ha : a < 4294967296) (hb : b < 4294967296) (hc : c < 4294967296) : Ev (fun k => aD.f k f [(a : Int), (b : Int), (c : Int)]) (eX f a || eX f b || eX f c, gI f a || gI f b || gI f c) := by
  refine Ev.congr (fun k => by unfold aD.f; rfl) (mK f _ 0 a false false _ (by simp) (by simp) ha rfl (mK f _ 1 b _ _ _ (by simp) (by simp) hb rfl (mK f _ 2 c _ _ _ (by simp) (by simp) hc rfl ?_)))
  rw [Bool.false_or, Bool.false_or]
  exact vT f [(a : Int), (b : Int), (c : Int)] _ _
theorem fma_j14 (f mode : Int) (a b c : Nat) (ha : a < 4294967296) (hb : b < 4294967296) (hc : c < 4294967296) (ca : bK f a < 3) (cb : bK f b < 3) (cc : bK f c < 3) (hne : ¬ ((bK f a = 0 ∨ bK f b = 0) ∧ bK f c = 0 ∧ (dE f a != dE f b) = dE f c)) (c0 c1 c2 c3 c4 : Bool) :
    Ev (fun n => E.aS.j14 n (dE f a != dE f b) (c : Int) (b : Int) (a : Int) mode f c0 c1 c2 c3 c4) ((gG f mode (dE f a != dE f b) (dE f c) (pR f a b c) : Int), false, false, gZ f mode (pR f a b c)) := by
  obtain ⟨l1, l2⟩ := fM f a ca
  obtain ⟨m1, m2⟩ := fM f b cb
  obtain ⟨o1, o2⟩ := fM f c cc
  obtain ⟨R, r1, r2, r3⟩ := pW (dE f a != dE f b) (bA f a + bA f b) (bH f a * bH f b) (by omega) (by omega) (zN f a b)
  obtain ⟨S, s1, s2, s3⟩ := pW (dE f c) (bA f c) (bH f c) (by omega) (by omega) (jN f c)
  refine Ev.congr (fun n => aS.aBK n _ c b a mode f c0 c1 c2 c3 c4) (Ev.bind (jI f a ha (iZ f a ca)) (Ev.bind (jI f b hb (iZ f b cb)) ?_))
  dsimp only
  rw [cK (bA f a + bA f b) (by omega) (by omega), ← Int.natCast_mul, iD _ (pU f a b)]
  refine Ev.bind r3 (Ev.bind (jI f c hc (iZ f c cc)) (Ev.bind s3 ?_))
  refine Ev.bind (uJ f mode _ _ _ _ _ _ (by omega) (by omega) (by omega) (by omega) (zN f a b) (jN f c) (fun e z1 z2 => hne ⟨?_, mI f c cc z2, e⟩) r1 s1 r2 s2) (Ev.now _)
  rcases Nat.mul_eq_zero.mp z1 with z | z
  · exact .inl (mI f a ca z)
  · exact .inr (mI f b cb z)
theorem xA (f mode : Int) (a b c : Nat) (h : bK f a = 0 ∨ bK f b = 0) (ca : bK f a < 3) (cb : bK f b < 3) (hc : bK f c = 0) (e : (dE f a != dE f b) = dE f c) :
    gG f mode (dE f a != dE f b) (dE f c) (pR f a b c) = fO f (dE f a != dE f b) ∧ gZ f mode (pR f a b c) = (false, false, false) := by
  have l1 := (fM f a ca).1
  have m1 := (fM f b cb).1
  have o1 := (fB f c).1
  have w := oF f mode (dE f a != dE f b) (bA f a + bA f b) (bH f a * bH f b) (dE f c) (bA f c) (bH f c) (by omega) (by omega) (zN f a b) (jN f c)
  have z : bH f a * bH f b = 0 := by
    rcases h with h | h
    · rw [(l6 f a h).2, Nat.zero_mul]
    · rw [(l6 f b h).2, Nat.mul_zero]
  have hw : (jD (dE f a != dE f b) (bH f a * bH f b * 2 ^ (bA f a + bA f b + 298).toNat) (dE f c) (bH f c * 2 ^ (bA f c + 298).toNat)).2 = 0 := by
    rw [z, (l6 f c hc).2, Nat.zero_mul, Nat.zero_mul]
    unfold jD; rw [if_pos e]
  unfold pR
  rw [w.1, w.2, if_pos hw, if_pos hw]
  exact ⟨if_pos e, rfl⟩
theorem fma_j5 (f mode : Int) (a b c : Nat) (ha : a < 4294967296) (hb : b < 4294967296) (hc : c < 4294967296) (n : ¬ (4 ≤ bK f a ∨ 4 ≤ bK f b ∨ 4 ≤ bK f c)) (t : ¬ kF f a b = true) (c0 c1 c2 c3 c4 : Bool) :
    Ev (fun n => E.aS.j5 n (c : Int) (b : Int) (a : Int) mode f c0 c1 c2 c3 c4) ((qO f mode a b c : Int), zG f mode a b c) := by
  unfold qO zG
  rw [if_neg n, if_neg n, if_neg t, if_neg t]
  refine Ev.congr (fun n => by rw [aS.j5_eq n c b a mode f c0 c1 c2 c3 c4, kY f a ha, Option.bind_some, kY f b hb, Option.bind_some]) ?_
  have inf : Ev (fun n => (aI.f n f (c : Int)).bind fun t3 => (if t3 = true then ((bG.f f (c : Int)).bind fun t4 => (if (t4 == !(dE f a == dE f b)) = true then ((bD.f f (!(dE f a == dE f b))).bind fun t5 => (some ((t5, false, false, false, false, false)))) else ((bN.f f).bind fun t5 => (some ((t5, true, false, false, false, false)))))) else ((bD.f f (!(dE f a == dE f b))).bind fun t4 => (some ((t4, false, false, false, false, false))))))
      (((if bK f c = 3 ∧ dE f c ≠ (dE f a != dE f b) then qU f else oH f (dE f a != dE f b) : Nat) : Int), (if bK f c = 3 ∧ dE f c ≠ (dE f a != dE f b) then (true, false, false, false, false) else (false, false, false, false, false))) := by
    refine Ev.bind (iK f c hc) ?_
    by_cases k3 : bK f c = 3
    · refine Ev.congr (fun n => by rw [if_pos (decide_eq_true k3), kY f c hc, Option.bind_some]) ?_
      by_cases e : dE f c = (dE f a != dE f b)
      · have h1 : ¬ (bK f c = 3 ∧ dE f c ≠ (dE f a != dE f b)) := fun h => h.2 e
        rw [if_neg h1, if_neg h1]
        have e1 : (dE f c == !(dE f a == dE f b)) = true := beq_iff_eq.mpr e
        exact Ev.congr (fun n => by rw [if_pos e1, kN, Option.bind_some]; rfl) (Ev.now _)
      · have h1 : bK f c = 3 ∧ dE f c ≠ (dE f a != dE f b) := ⟨k3, e⟩
        rw [if_pos h1, if_pos h1]
        have e1 : ¬ (dE f c == !(dE f a == dE f b)) = true := fun h => e (beq_iff_eq.mp h)
        exact Ev.congr (fun n => by rw [if_neg e1, jZ, Option.bind_some]) (Ev.now _)
    · have h1 : ¬ (bK f c = 3 ∧ dE f c ≠ (dE f a != dE f b)) := fun h => k3 h.1
      rw [if_neg h1, if_neg h1]
      exact Ev.congr (fun n => by rw [if_neg (by rw [decide_eq_true_iff]; exact k3), kN, Option.bind_some]; rfl) (Ev.now _)
  refine Ev.bind (iK f a ha) ?_
  by_cases a3 : bK f a = 3
  · have ab : bK f a = 3 ∨ bK f b = 3 := .inl a3
    rw [if_pos ab, if_pos ab]
    exact Ev.congr (fun n => by rw [if_pos (decide_eq_true a3)]) inf
  · refine Ev.congr (fun n => by rw [if_neg (by rw [decide_eq_true_iff]; exact a3)]) (Ev.bind (iK f b hb) ?_)
    by_cases b3 : bK f b = 3
    · have ab : bK f a = 3 ∨ bK f b = 3 := .inr b3
      rw [if_pos ab, if_pos ab]
      exact Ev.congr (fun n => by rw [if_pos (decide_eq_true b3)]) inf
    · rw [if_neg (show ¬ (bK f a = 3 ∨ bK f b = 3) by omega), if_neg (show ¬ (bK f a = 3 ∨ bK f b = 3) by omega)]
      refine Ev.congr (fun n => by rw [if_neg (by rw [decide_eq_true_iff]; exact b3)]) (Ev.bind (iK f c hc) ?_)
      by_cases k3 : bK f c = 3
      · rw [if_pos k3, if_pos k3]
        exact Ev.congr (fun n => by rw [if_pos (decide_eq_true k3), kG, Option.bind_some, l7 f c hc, yU f c k3]) (Ev.now _)
      · rw [if_neg k3, if_neg k3]
        refine Ev.congr (fun n => by rw [if_neg (by rw [decide_eq_true_iff]; exact k3)]) ?_
        have fin := fma_j14 f mode a b c ha hb hc (by omega) (by omega) (by omega)
        have none : (bK f a = 0 ∨ bK f b = 0) → Ev (fun n => (aM.f n f (c : Int)).bind fun t6 => (if t6 = true then ((bG.f f (c : Int)).bind fun t7 => (if ((!(dE f a == dE f b)) == t7) = true then ((bV.f f (!(dE f a == dE f b))).bind fun t8 => (some ((t8, false, false, false, false, false)))) else (aS.j14 n (!(dE f a == dE f b)) (c : Int) (b : Int) (a : Int) mode f c0 c1 c2 c3 c4))) else (aS.j14 n (!(dE f a == dE f b)) (c : Int) (b : Int) (a : Int) mode f c0 c1 c2 c3 c4)))
            ((gG f mode (dE f a != dE f b) (dE f c) (pR f a b c) : Int), false, false, gZ f mode (pR f a b c)) := by
          intro ab
          refine Ev.bind (jB f c hc) ?_
          by_cases k0 : bK f c = 0
          · refine Ev.congr (fun n => by rw [if_pos (decide_eq_true k0), kY f c hc, Option.bind_some]) ?_
            by_cases e : (dE f a != dE f b) = dE f c
            · obtain ⟨e1, e2⟩ := xA f mode a b c ab (by omega) (by omega) k0 e
              rw [e1, e2]
              have e3 : ((!(dE f a == dE f b)) == dE f c) = true := beq_iff_eq.mpr e
              exact Ev.congr (fun n => by rw [if_pos e3, oD, Option.bind_some]; rfl) (Ev.now _)
            · have e3 : ¬ ((!(dE f a == dE f b)) == dE f c) = true := fun h => e (beq_iff_eq.mp h)
              exact Ev.congr (fun n => by rw [if_neg e3]; rfl) (fin (fun h => e h.2.2) c0 c1 c2 c3 c4)
          · exact Ev.congr (fun n => by rw [if_neg (by rw [decide_eq_true_iff]; exact k0)]; rfl) (fin (fun h => k0 h.2.1) c0 c1 c2 c3 c4)
        refine Ev.bind (jB f a ha) ?_
        by_cases a0 : bK f a = 0
        · exact Ev.congr (fun n => by rw [if_pos (decide_eq_true a0)]) (none (.inl a0))
        · refine Ev.congr (fun n => by rw [if_neg (by rw [decide_eq_true_iff]; exact a0)]) (Ev.bind (jB f b hb) ?_)
          by_cases b0 : bK f b = 0
          · exact Ev.congr (fun n => by rw [if_pos (decide_eq_true b0)]) (none (.inr b0))
          · exact Ev.congr (fun n => by rw [if_neg (by rw [decide_eq_true_iff]; exact b0)]; rfl) (fin (fun h => h.1.elim a0 b0) c0 c1 c2 c3 c4)
theorem fma_j2 (f mode : Int) (a b c : Nat) (ha : a < 4294967296) (hb : b < 4294967296) (hc : c < 4294967296) (t : Bool) (ht : kF f a b = t) (c0 c1 c2 c3 c4 : Bool) :
    Ev (fun n => E.aS.j2 n t (c : Int) (b : Int) (a : Int) mode f c0 c1 c2 c3 c4) ((qO f mode a b c : Int), zG f mode a b c) := by
  subst ht
  refine Ev.congr (fun n => aS.j2_eq n _ c b a mode f c0 c1 c2 c3 c4) (Ev.bind (aCi f a b c ha hb hc) ?_)
  dsimp only
  by_cases n : 4 ≤ bK f a ∨ 4 ≤ bK f b ∨ 4 ≤ bK f c
  · unfold qO zG
    rw [if_pos n, if_pos n]
    refine Ev.congr (fun k => ?_) (Ev.now _)
    rw [if_pos ((nan3 f a b c).mpr n), jZ, Option.bind_some]
    cases h : (gI f a || gI f b || gI f c)
    · rw [if_neg (by decide), Bool.false_or]
    · rw [if_pos rfl, Bool.true_or]
  · have e : ¬ (eX f a || eX f b || eX f c) = true := fun h => n ((nan3 f a b c).mp h)
    by_cases t : kF f a b = true
    · unfold qO zG
      rw [if_neg n, if_neg n, if_pos t, if_pos t]
      refine Ev.congr (fun k => ?_) (Ev.now _)
      rw [if_neg e, if_pos t, jZ, Option.bind_some, t]
      split <;> rfl
    · exact Ev.congr (fun k => by rw [if_neg e, if_neg t]) (fma_j5 f mode a b c ha hb hc n t c0 c1 c2 c3 c4)
theorem aAA (f mode : Int) (a b c : Nat) (ha : a < 4294967296) (hb : b < 4294967296) (hc : c < 4294967296) :
    Ev (fun n => E.aS.f n f mode (a : Int) (b : Int) (c : Int)) ((qO f mode a b c : Int), zG f mode a b c) := by
  have tt : ∀ t : Bool, (t = true ↔ (bK f a = 0 ∧ bK f b = 3 ∨ bK f a = 3 ∧ bK f b = 0)) → kF f a b = t := by
    intro t h
    unfold kF
    cases t
    · exact decide_eq_false (fun x => by have := h.mpr x; cases this)
    · exact decide_eq_true (h.mp rfl)
  have fin := fun (t : Bool) h => fma_j2 f mode a b c ha hb hc t (tt t h) false false false false false
  have rest : bK f a ≠ 0 ∨ bK f b ≠ 3 → Ev (fun n => (aI.f n f (a : Int)).bind fun t1 => (if t1 = true then ((aM.f n f (b : Int)).bind fun t2 => (aS.j2 n (t2) (c : Int) (b : Int) (a : Int) mode f (false) (false) (false) (false) (false))) else (aS.j2 n (false) (c : Int) (b : Int) (a : Int) mode f (false) (false) (false) (false) (false)))) ((qO f mode a b c : Int), zG f mode a b c) := by
    intro h
    refine Ev.bind (iK f a ha) ?_
    by_cases a3 : bK f a = 3
    · refine Ev.congr (fun n => by rw [if_pos (decide_eq_true a3)]) (Ev.bind (jB f b hb) ?_)
      exact fin _ (by rw [decide_eq_true_iff]; omega)
    · exact Ev.congr (fun n => by rw [if_neg (by rw [decide_eq_true_iff]; exact a3)]) (fin _ ⟨fun x => (by cases x), fun x => (by omega)⟩)
  refine Ev.congr (fun n => aS.eq n f mode a b c) (Ev.bind (jB f a ha) ?_)
  by_cases a0 : bK f a = 0
  · refine Ev.congr (fun n => by rw [if_pos (decide_eq_true a0)]) (Ev.bind (iK f b hb) ?_)
    by_cases b3 : bK f b = 3
    · exact Ev.congr (fun n => by rw [if_pos (decide_eq_true b3)]) (fin _ ⟨fun _ => .inl ⟨a0, b3⟩, fun _ => rfl⟩)
    · exact Ev.congr (fun n => by rw [if_neg (by rw [decide_eq_true_iff]; exact b3)]) (rest (.inr b3))
  · exact Ev.congr (fun n => by rw [if_neg (by rw [decide_eq_true_iff]; exact a0)]) (rest (.inl a0))
end Go.Proofs.YtjlgmfgjleajfaaGreat.Round

-- Printed by a program of this session's out of Lean's print of the translation; Lean checks it.
namespace Go.Proofs.YtjlgmfgjleajfaaGreat.P
open Go.RowKit Go.Proofs.YtjlgmfgjleajfaaGreatW.PrintWords Go.Proofs.YtjlgmfgjleajfaaGreatW.PrintLast Go.Proofs.YtjlgmfgjleajfaaGreatW.PrintMore
attribute [local go_sem] max2_int min2_int max_two min_two max_three min_three max_four min_four

-- NEED 2
/-! ### bE: function 19 -/
mutual
def bE.j0 : Nat → Int → Int → Int → Int → Bool → Int → Int → Bool → Option (Int × Bool × Bool × Bool × Bool × Bool)
 |0, _, _, _, _, _, _, _, _ => none
 |k + 1, x0, x1, x2, x3, x13, x14, x15, x46 => if x46 = true then ((gL.f x0).bind fun bt208 => (some (bt208.1, bt208.2.1, bt208.2.2.1, bt208.2.2.2.1, bt208.2.2.2.2.1, bt208.2.2.2.2.2))) else (if x14 = 3 then ((dR.f x0 x13).bind fun t214 => (some (t214, false, false, false, false, false))) else (if x15 = 3 then (bE.j1 k x0 x1 x2 x3 x13 x15 true) else (bE.j1 k x0 x1 x2 x3 x13 x15 (x14 == 0))))
def bE.j1 : Nat → Int → Int → Int → Int → Bool → Int → Bool → Option (Int × Bool × Bool × Bool × Bool × Bool)
 |0, _, _, _, _, _, _, _ => none
 |k + 1, x0, x1, x2, x3, x13, x15, x69 => if x69 = true then ((eF.f x0 x13).bind fun t215 => (some (t215, false, false, false, false, false))) else (if x15 = 0 then ((dR.f x0 x13).bind fun t216 => (some (t216, false, true, false, false, false))) else ((gP.f x0 x2).bind fun bt217 => ((gP.f x0 x3).bind fun bt221 => ((bits_Len.f k bt217.2.2.1).bind fun t227 => ((aV.f k bt217.2.2.1 (wrap64 (-(wrap64 (62 - t227))))).bind fun bt228 => (if bt221.2.2.1 = 0 then (none) else ((aB.f k x0 x1 x13 (wrap64 ((wrap64 (bt217.2.1 - (wrap64 (62 - t227)))) - bt221.2.1)) (IntKind.u64.wrap (Int.tdiv bt228.1 bt221.2.2.1)) ((Int.tmod bt228.1 bt221.2.2.1) != 0)).bind fun bt230 => (some (bt230.1, bt230.2.1, bt230.2.2.1, bt230.2.2.2.1, bt230.2.2.2.2.1, bt230.2.2.2.2.2)))))))))
end
def bE.f (k : Nat) (a0 a1 : Int) (a2 a3 : Int) : Option (Int × Bool × Bool × Bool × Bool × Bool) := (aY.f k a0 (([a2, a3] : List Int))).bind fun bt196 => (if bt196.2.2.2.2.2.2 = true then (some (bt196.1, bt196.2.1, bt196.2.2.1, bt196.2.2.2.1, bt196.2.2.2.2.1, bt196.2.2.2.2.2.1)) else ((dS.f a0 a2).bind fun t204 => ((dS.f a0 a3).bind fun t205 => ((aT.f k a0 a2).bind fun t206 => ((aT.f k a0 a3).bind fun t207 => (if t206 = t207 then (if t206 = 0 then (bE.j0 k a0 a1 a2 a3 (t204 != t205) t206 t207 true) else (bE.j0 k a0 a1 a2 a3 (t204 != t205) t206 t207 (t206 == 3))) else (bE.j0 k a0 a1 a2 a3 (t204 != t205) t206 t207 false)))))))
theorem bE.eZ : ∀ k, (∀ y0 y1 y2 y3 y4 y5 y6 y7, LeO (bE.j0 k y0 y1 y2 y3 y4 y5 y6 y7) (bE.j0 (k + 1) y0 y1 y2 y3 y4 y5 y6 y7)) ∧ (∀ y0 y1 y2 y3 y4 y5 y6, LeO (bE.j1 k y0 y1 y2 y3 y4 y5 y6) (bE.j1 (k + 1) y0 y1 y2 y3 y4 y5 y6))
 |0 => ⟨fun _ _ _ _ _ _ _ _ r h => by simp [bE.j0] at h, fun _ _ _ _ _ _ _ r h => by simp [bE.j1] at h⟩
 |k + 1 => by
  obtain ⟨ih0, ih1⟩ := bE.eZ k
  refine ⟨?_, ?_⟩
  ·intro y0 y1 y2 y3 y4 y5 y6 y7
   unfold bE.j0
   repeat' first
   |(with_reducible first|exact ih0 _ _ _ _ _ _ _ _|exact ih1 _ _ _ _ _ _ _|exact bits_Len.mono _ _|exact aV.mono _ _ _|exact aT.mono _ _ _|exact aB.mono _ _ _ _ _ _ _|exact aY.mono _ _ _|exact LeO.refl _|exact LeO.none _|refine LeO.ite ?_ ?_|refine LeO.bind ?_ (fun _ => ?_))
   |exact ih0 _ _ _ _ _ _ _ _
   |exact ih1 _ _ _ _ _ _ _
   |exact bits_Len.mono _ _
   |exact aV.mono _ _ _
   |exact aT.mono _ _ _
   |exact aB.mono _ _ _ _ _ _ _
   |exact aY.mono _ _ _
   |exact LeO.none _
   |refine LeO.ite ?_ ?_
   |refine LeO.bind ?_ (fun _ => ?_)
  ·intro y0 y1 y2 y3 y4 y5 y6
   unfold bE.j1
   repeat' first
   |(with_reducible first|exact ih0 _ _ _ _ _ _ _ _|exact ih1 _ _ _ _ _ _ _|exact bits_Len.mono _ _|exact aV.mono _ _ _|exact aT.mono _ _ _|exact aB.mono _ _ _ _ _ _ _|exact aY.mono _ _ _|exact LeO.refl _|exact LeO.none _|refine LeO.ite ?_ ?_|refine LeO.bind ?_ (fun _ => ?_))
   |exact ih0 _ _ _ _ _ _ _ _
   |exact ih1 _ _ _ _ _ _ _
   |exact bits_Len.mono _ _
   |exact aV.mono _ _ _
   |exact aT.mono _ _ _
   |exact aB.mono _ _ _ _ _ _ _
   |exact aY.mono _ _ _
   |exact LeO.none _
   |refine LeO.ite ?_ ?_
   |refine LeO.bind ?_ (fun _ => ?_)
theorem bE.mono : ∀ a0 a1 a2 a3 k, LeO (bE.f k a0 a1 a2 a3) (bE.f (k + 1) a0 a1 a2 a3) := by
 intro a0 a1 a2 a3 k
 obtain ⟨ih0, ih1⟩ := bE.eZ k
 unfold bE.f
 repeat' first
   |(with_reducible first|exact ih0 _ _ _ _ _ _ _ _|exact ih1 _ _ _ _ _ _ _|exact bits_Len.mono _ _|exact aV.mono _ _ _|exact aT.mono _ _ _|exact aB.mono _ _ _ _ _ _ _|exact aY.mono _ _ _|exact LeO.refl _|exact LeO.none _|refine LeO.ite ?_ ?_|refine LeO.bind ?_ (fun _ => ?_))
   |exact ih0 _ _ _ _ _ _ _ _
   |exact ih1 _ _ _ _ _ _ _
   |exact bits_Len.mono _ _
   |exact aV.mono _ _ _
   |exact aT.mono _ _ _
   |exact aB.mono _ _ _ _ _ _ _
   |exact aY.mono _ _ _
   |exact LeO.none _
   |refine LeO.ite ?_ ?_
   |refine LeO.bind ?_ (fun _ => ?_)

end Go.Proofs.YtjlgmfgjleajfaaGreat.P

/- Quotients: the program's, as plain numbers. -/
namespace Go.Proofs.YtjlgmfgjleajfaaGreat.Round
open Go.RowKit Go.Proofs.YtjlgmfgjleajfaaGreat.P Go.Proofs.YtjlgmfgjleajfaaGreat.Num Go.Proofs.YtjlgmfgjleajfaaGreat.BitsF Go.Proofs.YtjlgmfgjleajfaaGreat.Fmt Go.Proofs.YtjlgmfgjleajfaaGreatW.PrintWords Go.Proofs.YtjlgmfgjleajfaaGreatW.PrintLast Go.Proofs.YtjlgmfgjleajfaaGreatW.PrintMore

def kW (f : Int) (v : Nat) : Nat := 62 - gT (bH f v)
def xB (f mode : Int) (a b : Nat) : Nat := gD f mode (dE f a != dE f b) (bA f a - bA f b - (kW f a : Int)) (bH f a * 2 ^ kW f a / bH f b) (decide (bH f a * 2 ^ kW f a % bH f b ≠ 0))
def ratioX (f mode : Int) (a b : Nat) : Bool × Bool × Bool := lW f mode (dE f a != dE f b) (bA f a - bA f b - (kW f a : Int)) (bH f a * 2 ^ kW f a / bH f b) (decide (bH f a * 2 ^ kW f a % bH f b ≠ 0))
def divN (f mode : Int) (a b : Nat) : Nat :=
 if 4 ≤ bK f a ∨ 4 ≤ bK f b then qU f else if bK f a = bK f b ∧ (bK f a = 0 ∨ bK f a = 3) then qU f else if bK f a = 3 then oH f (dE f a != dE f b)
 else if bK f b = 3 ∨ bK f a = 0 then fO f (dE f a != dE f b) else if bK f b = 0 then oH f (dE f a != dE f b) else xB f mode a b
def xR (f mode : Int) (a b : Nat) : Bool × Bool × Bool × Bool × Bool :=
 if 4 ≤ bK f a ∨ 4 ≤ bK f b then (gI f a || gI f b, false, false, false, false) else if bK f a = bK f b ∧ (bK f a = 0 ∨ bK f a = 3) then (true, false, false, false, false) else if bK f a = 3 then (false, false, false, false, false)
 else if bK f b = 3 ∨ bK f a = 0 then (false, false, false, false, false) else if bK f b = 0 then (false, true, false, false, false) else (false, false, ratioX f mode a b)
theorem mJ (f : Int) (v : Nat) (h : bK f v ≠ 0) (h3 : bK f v < 3) : bH f v ≠ 0 := by
 have hp := Nat.two_pow_pos (fm f)
 unfold bK at h h3
 unfold bH
 by_cases c : mF f v = 0
 ·rw [if_pos c] at h ⊢
  intro z; rw [if_pos z] at h; exact h rfl
 ·rw [if_neg c]; omega
theorem vZ (f : Int) (v : Nat) : bH f v < 16777216 := by
 have h := kC f v
 have := dZ f
 have := Nat.pow_le_pow_right (show 0 < 2 by decide) (show fm f + 1 ≤ 24 by omega)
 omega
theorem oQ (f : Int) (v : Nat) (h : bH f v ≠ 0) : 38 ≤ kW f v ∧ kW f v ≤ 61 ∧ gT (bH f v) + kW f v = 62 ∧ 2305843009213693952 ≤ bH f v * 2 ^ kW f v ∧ bH f v * 2 ^ kW f v < 4611686018427387904 := by
 have h1 := gH _ _ (kC f v)
 have h2 := kM _ h
 have hb := dZ f
 have e : gT (bH f v) + kW f v = 62 := by unfold kW; omega
 have hp := Nat.two_pow_pos (kW f v)
 have l1 := Nat.mul_le_mul_right (2 ^ kW f v) (qA _ h)
 have l2 := Nat.mul_lt_mul_of_pos_right (lH (bH f v)) hp
 rw [← Nat.pow_add, show gT (bH f v) - 1 + kW f v = 61 by omega] at l1
 rw [← Nat.pow_add, e] at l2
 exact ⟨by omega, by omega, e, l1, l2⟩
theorem zW (a b : Nat) : Int.tdiv (a : Int) (b : Int) = ((a / b : Nat) : Int) := rfl
theorem aCw (a b : Nat) : Int.tmod (a : Int) (b : Int) = ((a % b : Nat) : Int) := rfl
theorem shift_up (v n : Nat) (h : v * 2 ^ n < 18446744073709551616) : (lK v (-(n : Int))).1 = v * 2 ^ n := by
 have hp := Nat.two_pow_pos n
 have hv : v < 18446744073709551616 := Nat.lt_of_le_of_lt (Nat.le_mul_of_pos_right v hp) h
 rw [lJ v n hv]
 exact Nat.mod_eq_of_lt h
theorem div_j1 (f mode : Int) (a b : Nat) (ha : a < 4294967296) (hb : b < 4294967296) (ca : bK f a < 3) (cb : bK f b ≤ 3) (hz : ¬ (bK f a = bK f b ∧ (bK f a = 0 ∨ bK f a = 3))) :
  Ev (fun k => bE.j1 k f mode (a : Int) (b : Int) (dE f a != dE f b) (bK f b : Int) (decide (bK f b = 3 ∨ bK f a = 0))) ((divN f mode a b : Int), xR f mode a b) := by
 unfold divN xR
 rw [if_neg (show ¬ (4 ≤ bK f a ∨ 4 ≤ bK f b) by omega), if_neg (show ¬ (4 ≤ bK f a ∨ 4 ≤ bK f b) by omega)]
 by_cases c0 : bK f b = 3 ∨ bK f a = 0
 ·rw [decide_eq_true c0]
  rw [if_neg hz, if_neg hz, if_neg (show ¬ bK f a = 3 by omega), if_neg (show ¬ bK f a = 3 by omega), if_pos c0, if_pos c0]
  exact Ev.step (fun k => by rw [bE.j1, if_pos rfl, wU, Option.bind_some]) (Ev.now _)
 ·rw [decide_eq_false c0, if_neg hz, if_neg hz, if_neg (show ¬ bK f a = 3 by omega), if_neg (show ¬ bK f a = 3 by omega), if_neg c0, if_neg c0]
  by_cases b0 : bK f b = 0
  ·rw [if_pos b0, if_pos b0]
   exact Ev.step (fun k => by rw [bE.j1, if_neg (by decide), if_pos (by omega), aAU, Option.bind_some]) (Ev.now _)
  ·rw [if_neg b0, if_neg b0]
   have wa := mJ f a (by omega) ca
   have wb := mJ f b b0 (by omega)
   obtain ⟨k1, k2, k3, k4, k5⟩ := oQ f a wa
   have hs := whole_64 f a
   obtain ⟨l1, l2⟩ := fB f a
   obtain ⟨m1, m2⟩ := fB f b
   have hw : wrap64 (-(wrap64 (62 - (gT (bH f a) : Int)))) = -(kW f a : Int) := by rw [cK (62 - (gT (bH f a) : Int)) (by omega) (by omega), cK _ (by omega) (by omega)]; omega
   have he : wrap64 ((wrap64 (bA f a - (wrap64 (62 - (gT (bH f a) : Int))))) - bA f b) = bA f a - bA f b - (kW f a : Int) := by
    rw [cK (62 - (gT (bH f a) : Int)) (by omega) (by omega), cK (bA f a - (62 - (gT (bH f a) : Int))) (by omega) (by omega), cK _ (by omega) (by omega)]; omega
   have hsh := vF (bH f a) hs (-(kW f a : Int)) (by omega) (by omega)
   have hq : bH f a * 2 ^ kW f a / bH f b < 18446744073709551616 := Nat.lt_of_le_of_lt (Nat.div_le_self _ _) (by omega)
   have hp := pM f mode (dE f a != dE f b) (bA f a - bA f b - (kW f a : Int)) (bH f a * 2 ^ kW f a / bH f b) (decide (bH f a * 2 ^ kW f a % bH f b ≠ 0)) hq
   rw [iV _ (by omega) (by omega)] at hp
   refine Ev.step (fun k => by rw [bE.j1, if_neg (by decide), if_neg (by omega), of_f f a ha (iZ f a ca), Option.bind_some, of_f f b hb (iZ f b (by omega)), Option.bind_some]) (Ev.bind (len_ev _ hs) ?_)
   dsimp only
   rw [hw, he]
   refine Ev.bind hsh ?_
   dsimp only
   rw [shift_up _ _ (by omega), zW, aCw, iD _ hq, show (0 : Int) = ((0 : Nat) : Int) from rfl, bne_cast]
   exact Ev.congr (fun k => by rw [if_neg (by omega)]) (Ev.bind hp (Ev.now _))
theorem div_ev (f mode : Int) (a b : Nat) (ha : a < 4294967296) (hb : b < 4294967296) : Ev (fun k => bE.f k f mode (a : Int) (b : Int)) ((divN f mode a b : Int), xR f mode a b) := by
 refine Ev.congr (fun k => by unfold bE.f; rfl) (Ev.bind (o7 f a b ha hb) ?_)
 by_cases n : 4 ≤ bK f a ∨ 4 ≤ bK f b
 ·have e : (eX f a || eX f b) = true := by unfold eX; rw [Bool.or_eq_true, decide_eq_true_iff, decide_eq_true_iff]; exact n
  unfold divN xR
  rw [if_pos n, if_pos n]
  exact Ev.congr (fun k => by rw [if_pos e]) (Ev.now _)
 ·have e : ¬ (eX f a || eX f b) = true := by unfold eX; rw [Bool.or_eq_true, decide_eq_true_iff, decide_eq_true_iff]; exact n
  refine Ev.congr (fun k => by rw [if_neg e, tJ f a ha, Option.bind_some, tJ f b hb, Option.bind_some]) (Ev.bind (nV f a ha) (Ev.bind (nV f b hb) ?_))
  have bad : (bK f a = bK f b ∧ (bK f a = 0 ∨ bK f a = 3)) → Ev (fun k => bE.j0 k f mode (a : Int) (b : Int) (dE f a != dE f b) (bK f a : Int) (bK f b : Int) true) ((divN f mode a b : Int), xR f mode a b) := by
   intro z
   unfold divN xR
   rw [if_neg n, if_neg n, if_pos z, if_pos z]
   exact Ev.step (fun k => by rw [bE.j0, if_pos rfl, bad_f]; rfl) (Ev.now _)
  have good : ¬ (bK f a = bK f b ∧ (bK f a = 0 ∨ bK f a = 3)) → Ev (fun k => bE.j0 k f mode (a : Int) (b : Int) (dE f a != dE f b) (bK f a : Int) (bK f b : Int) false) ((divN f mode a b : Int), xR f mode a b) := by
   intro z
   by_cases a3 : bK f a = 3
   ·unfold divN xR
    rw [if_neg n, if_neg n, if_neg z, if_neg z, if_pos a3, if_pos a3]
    exact Ev.step (fun k => by rw [bE.j0, if_neg (by decide), if_pos (by omega), aAU]; rfl) (Ev.now _)
   ·have hj := div_j1 f mode a b ha hb (by omega) (by omega) z
    by_cases b3 : bK f b = 3
    ·rw [decide_eq_true (.inl b3)] at hj
     exact Ev.step (fun k => by rw [bE.j0, if_neg (by decide), if_neg (by omega), if_pos (by omega)]) hj
    ·have e0 : decide (bK f b = 3 ∨ bK f a = 0) = ((bK f a : Int) == 0) := by
      rw [show (0 : Int) = ((0 : Nat) : Int) from rfl, nN]; apply decide_eq_decide.mpr; omega
     rw [e0] at hj
     exact Ev.step (fun k => by rw [bE.j0, if_neg (by decide), if_neg (by omega), if_neg (by omega)]) hj
  by_cases s : bK f a = bK f b
  ·by_cases a0 : bK f a = 0
   ·exact Ev.congr (fun k => by rw [if_pos (by omega), if_pos (by omega)]) (bad ⟨s, .inl a0⟩)
   ·by_cases a3 : bK f a = 3
    ·have e3 : (((bK f a : Nat) : Int) == 3) = true := by rw [a3]; rfl
     exact Ev.congr (fun k => by rw [if_pos (by omega), if_neg (by omega), e3]) (bad ⟨s, .inr a3⟩)
    ·have e3 : (((bK f a : Nat) : Int) == 3) = false := by rw [show (3 : Int) = ((3 : Nat) : Int) from rfl, nN]; exact decide_eq_false a3
     exact Ev.congr (fun k => by rw [if_pos (by omega), if_neg (by omega), e3]) (good (by omega))
  ·exact Ev.congr (fun k => by rw [if_neg (by omega)]) (good (by omega))
end Go.Proofs.YtjlgmfgjleajfaaGreat.Round

-- Printed by a program of this session's out of Lean's print of the translation; Lean checks it.
namespace Go.Proofs.YtjlgmfgjleajfaaGreat.P
open Go.RowKit Go.Proofs.YtjlgmfgjleajfaaGreatW.PrintWords Go.Proofs.YtjlgmfgjleajfaaGreatW.PrintLast Go.Proofs.YtjlgmfgjleajfaaGreatW.PrintMore
attribute [local go_sem] max2_int min2_int max_two min_two max_three min_three max_four min_four

-- NEED 1
/-! ### aC: function 23 -/
mutual
def aC.j0 : Nat → Int → Int → Int → Int → Bool → Bool → Option (Int × Bool × Bool × Bool × Bool × Bool)
 |0, _, _, _, _, _, _ => none
 |k + 1, x0, x1, x2, x3, x12, x39 => if x39 = true then ((bN.f x0).bind fun t658 => (some (t658, true, false, false, false, false))) else ((aI.f k x0 x2).bind fun t659 => (if t659 = true then ((bD.f x0 x12).bind fun t660 => (some (t660, false, false, false, false, false))) else ((aI.f k x0 x3).bind fun t661 => (if t661 = true then (aC.j1 k x0 x1 x2 x3 x12 true) else ((aM.f k x0 x2).bind fun t662 => (aC.j1 k x0 x1 x2 x3 x12 t662))))))
def aC.j1 : Nat → Int → Int → Int → Int → Bool → Bool → Option (Int × Bool × Bool × Bool × Bool × Bool)
 |0, _, _, _, _, _, _ => none
 |k + 1, x0, x1, x2, x3, x12, x69 => if x69 = true then ((bV.f x0 x12).bind fun t663 => (some (t663, false, false, false, false, false))) else ((aM.f k x0 x3).bind fun t664 => (if t664 = true then ((bD.f x0 x12).bind fun t665 => (some (t665, false, true, false, false, false))) else ((aN.f k x0 x2).bind fun bt666 => ((aN.f k x0 x3).bind fun bt669 => (aC.l0 k x0 x1 x12 bt666.2.1 bt666.2.2 bt669.2.1 bt669.2.2)))))
def aC.l0 : Nat → Int → Int → Bool → Int → Int → Int → Int → Option (Int × Bool × Bool × Bool × Bool × Bool)
 |0, _, _, _, _, _, _, _ => none
 |k + 1, x0, x1, x12, x14, x15, x17, x18 => if x15 < 8388608 then (aC.l0 k x0 x1 x12 (wrap64 (x14 - 1)) (IntKind.u64.wrap (x15 * 2)) x17 x18) else (aC.l1 k x0 x1 x12 x14 x15 x17 x18)
def aC.l1 : Nat → Int → Int → Bool → Int → Int → Int → Int → Option (Int × Bool × Bool × Bool × Bool × Bool)
 |0, _, _, _, _, _, _, _ => none
 |k + 1, x0, x1, x12, x14, x15, x17, x18 => if x18 < 8388608 then (aC.l1 k x0 x1 x12 x14 x15 (wrap64 (x17 - 1)) (IntKind.u64.wrap (x18 * 2))) else (if x18 = 0 then (none) else ((aA.f k x0 x1 x12 (wrap64 ((wrap64 (x14 - x17)) - 40)) (IntKind.u64.wrap (Int.tdiv (IntKind.u64.wrap (x15 * 1099511627776)) x18)) ((Int.tmod (IntKind.u64.wrap (x15 * 1099511627776)) x18) != 0)).bind fun bt672 => (some (bt672.1, bt672.2.1, bt672.2.2.1, bt672.2.2.2.1, bt672.2.2.2.2.1, bt672.2.2.2.2.2))))
end
def aC.f (k : Nat) (a0 a1 : Int) (a2 a3 : Int) : Option (Int × Bool × Bool × Bool × Bool × Bool) := (aD.f k a0 (([a2, a3] : List Int))).bind fun bt647 => (if bt647.1 = true then ((bN.f a0).bind fun t649 => (some (t649, bt647.2, false, false, false, false))) else ((bG.f a0 a2).bind fun t650 => ((bG.f a0 a3).bind fun t651 => ((aM.f k a0 a2).bind fun t652 => (if t652 = true then ((aM.f k a0 a3).bind fun t653 => (if t653 = true then (aC.j0 k a0 a1 a2 a3 (t650 != t651) true) else ((aI.f k a0 a2).bind fun t654 => (if t654 = true then ((aI.f k a0 a3).bind fun t655 => (aC.j0 k a0 a1 a2 a3 (t650 != t651) t655)) else (aC.j0 k a0 a1 a2 a3 (t650 != t651) false))))) else ((aI.f k a0 a2).bind fun t656 => (if t656 = true then ((aI.f k a0 a3).bind fun t657 => (aC.j0 k a0 a1 a2 a3 (t650 != t651) t657)) else (aC.j0 k a0 a1 a2 a3 (t650 != t651) false))))))))
end Go.Proofs.YtjlgmfgjleajfaaGreat.P

/- Quotients: the reference's, as the program's plain numbers. -/
namespace Go.Proofs.YtjlgmfgjleajfaaGreat.Round
open Go.RowKit Go.Proofs.YtjlgmfgjleajfaaGreat.P Go.Proofs.YtjlgmfgjleajfaaGreat.Num Go.Proofs.YtjlgmfgjleajfaaGreat.BitsF Go.Proofs.YtjlgmfgjleajfaaGreat.Fmt Go.Proofs.YtjlgmfgjleajfaaGreatW.PrintWords Go.Proofs.YtjlgmfgjleajfaaGreatW.PrintLast Go.Proofs.YtjlgmfgjleajfaaGreatW.PrintMore

theorem aAO (f mode : Int) (s : Bool) (x : Int) (m : Nat) (r : Int × Bool × Bool × Bool × Bool × Bool) (i : Nat) : ∀ (y : Int) (n : Nat), n ≠ 0 → gT n + i = 24 → -100000 ≤ y - i → y ≤ 100000 →
  Ev (fun k => aC.l1 k f mode s x (m : Int) (y - (i : Int)) ((n * 2 ^ i : Nat) : Int)) r → Ev (fun k => aC.l1 k f mode s x (m : Int) y (n : Int)) r := by
 induction i with
 |zero => intro y n _ _ _ _ h; simpa using h
 |succ i ih =>
  intro y n h0 hl h1 h2 h
  have hn := Nat.lt_of_lt_of_le (lH n) (Nat.pow_le_pow_right (show 0 < 2 by decide) (show gT n ≤ 23 by omega))
  have hl2 := pJ n 1 h0
  rw [Nat.pow_one] at hl2
  have hw : IntKind.u64.wrap ((n : Int) * 2) = ((n * 2 : Nat) : Int) := by rw [show (n : Int) * 2 = ((n * 2 : Nat) : Int) by omega, iD _ (by omega)]
  refine Ev.step (fun k => by rw [aC.l1, if_pos (by omega), hw, cK (y - 1) (by omega) (by omega)]) (ih (y - 1) (n * 2) (by omega) (by omega) (by omega) (by omega) ?_)
  rw [show y - 1 - (i : Int) = y - ((i + 1 : Nat) : Int) by omega, Nat.mul_assoc, ← Nat.pow_succ']
  exact h
theorem aAl (f mode : Int) (s : Bool) (y : Int) (n : Nat) (r : Int × Bool × Bool × Bool × Bool × Bool) (i : Nat) : ∀ (x : Int) (m : Nat), m ≠ 0 → gT m + i = 24 → -100000 ≤ x - i → x ≤ 100000 →
  Ev (fun k => aC.l0 k f mode s (x - (i : Int)) ((m * 2 ^ i : Nat) : Int) y (n : Int)) r → Ev (fun k => aC.l0 k f mode s x (m : Int) y (n : Int)) r := by
 induction i with
 |zero => intro y n _ _ _ _ h; simpa using h
 |succ i ih =>
  intro x m h0 hl h1 h2 h
  have hn := Nat.lt_of_lt_of_le (lH m) (Nat.pow_le_pow_right (show 0 < 2 by decide) (show gT m ≤ 23 by omega))
  have hl2 := pJ m 1 h0
  rw [Nat.pow_one] at hl2
  have hw : IntKind.u64.wrap ((m : Int) * 2) = ((m * 2 : Nat) : Int) := by rw [show (m : Int) * 2 = ((m * 2 : Nat) : Int) by omega, iD _ (by omega)]
  refine Ev.step (fun k => by rw [aC.l0, if_pos (by omega), hw, cK (x - 1) (by omega) (by omega)]) (ih (x - 1) (m * 2) (by omega) (by omega) (by omega) (by omega) ?_)
  rw [show x - 1 - (i : Int) = x - ((i + 1 : Nat) : Int) by omega, Nat.mul_assoc, ← Nat.pow_succ']
  exact h
theorem nL (n i L : Nat) (h0 : n ≠ 0) (h : gT n + i = L + 1) : 2 ^ L ≤ n * 2 ^ i ∧ n * 2 ^ i < 2 ^ (L + 1) := by
 have hp := Nat.two_pow_pos i
 have h1 := kM n h0
 have l1 := Nat.mul_le_mul_right (2 ^ i) (qA n h0)
 have l2 := Nat.mul_lt_mul_of_pos_right (lH n) hp
 rw [← Nat.pow_add, show gT n - 1 + i = L by omega] at l1
 rw [← Nat.pow_add, h] at l2
 exact ⟨l1, l2⟩
theorem aAB (f mode : Int) (s : Bool) (e : Int) (A B i j c : Nat) (hA : A ≠ 0) (hB : B ≠ 0) (hi : gT A + i = 24) (hj : gT B + j = 24) (hc : gT A + c = 62) :
  gD f mode s (e - (i : Int) + (j : Int) - 40) (A * 2 ^ i * 1099511627776 / (B * 2 ^ j)) (decide (A * 2 ^ i * 1099511627776 % (B * 2 ^ j) ≠ 0)) = gD f mode s (e - c) (A * 2 ^ c / B) (decide (A * 2 ^ c % B ≠ 0)) ∧
  lW f mode s (e - (i : Int) + (j : Int) - 40) (A * 2 ^ i * 1099511627776 / (B * 2 ^ j)) (decide (A * 2 ^ i * 1099511627776 % (B * 2 ^ j) ≠ 0)) = lW f mode s (e - c) (A * 2 ^ c / B) (decide (A * 2 ^ c % B ≠ 0)) := by
 obtain ⟨a1, a2⟩ := nL A i 23 hA hi
 obtain ⟨b1, b2⟩ := nL B j 23 hB hj
 obtain ⟨c1, c2⟩ := nL A c 61 hA hc
 have hpj := Nat.two_pow_pos j
 have hla := kM A hA
 have hlb := kM B hB
 have hb := dZ f
 have hf : 2 ^ (fm f + 1) ≤ 16777216 := Nat.pow_le_pow_right (show 0 < 2 by decide) (show fm f + 1 ≤ 24 by omega)
 have hBl : B < 16777216 := Nat.lt_of_lt_of_le (lH B) (Nat.pow_le_pow_right (show 0 < 2 by decide) (show gT B ≤ 24 by omega))
 obtain ⟨d, hd⟩ : ∃ d, i + 40 = d + j := ⟨i + 40 - j, by omega⟩
 have e1 : A * 2 ^ i * 1099511627776 = A * 2 ^ d * 2 ^ j := by
  rw [show 1099511627776 = 2 ^ 40 from rfl, Nat.mul_assoc, ← Nat.pow_add, hd, Nat.pow_add, ← Nat.mul_assoc]
 have q1 : 2 ^ (fm f + 1) ≤ A * 2 ^ d / B := by
  rw [Nat.le_div_iff_mul_le (by omega)]
  refine Nat.le_of_mul_le_mul_right ?_ hpj
  rw [← e1, Nat.mul_assoc]
  have h1 := Nat.mul_le_mul hf (Nat.le_of_lt b2)
  have h2 := Nat.mul_le_mul_right 1099511627776 a1
  refine Nat.le_trans h1 (Nat.le_trans ?_ h2)
  decide
 have q2 : 2 ^ (fm f + 1) ≤ A * 2 ^ c / B := by
  rw [Nat.le_div_iff_mul_le (by omega)]
  refine Nat.le_trans (Nat.mul_le_mul hf (Nat.le_of_lt hBl)) (Nat.le_trans ?_ c1)
  decide
 have hm : decide (A * 2 ^ d * 2 ^ j % (B * 2 ^ j) ≠ 0) = decide (A * 2 ^ d % B ≠ 0) := by
  rw [Nat.mul_mod_mul_right]
  apply decide_eq_decide.mpr
  rw [Nat.mul_ne_zero_iff]
  exact ⟨fun h => h.1, fun h => ⟨h, by omega⟩⟩
 rw [e1, Nat.mul_div_mul_right _ _ hpj, hm, show e - (i : Int) + (j : Int) - 40 = e - (d : Int) by omega]
 exact quo_same f mode s e A B d c (by omega) q1 q2
theorem wE (f mode : Int) (a b : Nat) (ha : a < 4294967296) (hb : b < 4294967296) (ca : bK f a < 3) (cb : bK f b < 3) (a0 : bK f a ≠ 0) (b0 : bK f b ≠ 0) :
  Ev (fun k => aC.l0 k f mode (dE f a != dE f b) (bA f a) (bH f a : Int) (bA f b) (bH f b : Int)) ((xB f mode a b : Int), false, false, ratioX f mode a b) := by
 have wa := mJ f a a0 ca
 have wb := mJ f b b0 cb
 have ha24 := gH _ 24 (vZ f a)
 have hb24 := gH _ 24 (vZ f b)
 obtain ⟨i, hi⟩ : ∃ i, gT (bH f a) + i = 24 := ⟨24 - gT (bH f a), by omega⟩
 obtain ⟨j, hj⟩ : ∃ j, gT (bH f b) + j = 24 := ⟨24 - gT (bH f b), by omega⟩
 obtain ⟨l1, l2⟩ := fB f a
 obtain ⟨m1, m2⟩ := fB f b
 obtain ⟨_, _, k3, _⟩ := oQ f a wa
 obtain ⟨a1, a2⟩ := nL _ i 23 wa hi
 obtain ⟨b1, b2⟩ := nL _ j 23 wb hj
 obtain ⟨r1, r2⟩ := aAB f mode (dE f a != dE f b) (bA f a - bA f b) (bH f a) (bH f b) i j (kW f a) wa wb hi hj k3
 refine aAl f mode _ _ _ _ i _ _ wa hi (by omega) (by omega) ?_
 refine Ev.step (fun k => by rw [aC.l0, if_neg (by omega)]) (aAO f mode _ _ _ _ j _ _ wb hj (by omega) (by omega) ?_)
 have hs : bH f a * 2 ^ i * 1099511627776 / (bH f b * 2 ^ j) < 18446744073709551616 := Nat.lt_of_le_of_lt (Nat.div_le_self _ _) (by omega)
 have hp := lT f mode (dE f a != dE f b) (bA f a - bA f b - (i : Int) + (j : Int) - 40) (bH f a * 2 ^ i * 1099511627776 / (bH f b * 2 ^ j)) (decide (bH f a * 2 ^ i * 1099511627776 % (bH f b * 2 ^ j) ≠ 0)) hs
 rw [iV _ (by omega) (by omega), r1, r2] at hp
 have he : wrap64 ((wrap64 (bA f a - (i : Int) - (bA f b - (j : Int)))) - 40) = bA f a - bA f b - (i : Int) + (j : Int) - 40 := by
  rw [cK (bA f a - (i : Int) - (bA f b - (j : Int))) (by omega) (by omega), cK _ (by omega) (by omega)]; omega
 have hm : IntKind.u64.wrap (((bH f a * 2 ^ i : Nat) : Int) * 1099511627776) = ((bH f a * 2 ^ i * 1099511627776 : Nat) : Int) := by
  rw [show ((bH f a * 2 ^ i : Nat) : Int) * 1099511627776 = ((bH f a * 2 ^ i * 1099511627776 : Nat) : Int) by omega, iD _ (by omega)]
 refine Ev.step (fun k => by rw [aC.l1, if_neg (by omega), if_neg (by omega), he, hm, zW, aCw, iD _ hs, show (0 : Int) = ((0 : Nat) : Int) from rfl, bne_cast]) (Ev.bind hp ?_)
 exact Ev.now _
theorem aAH (f mode : Int) (a b : Nat) (ha : a < 4294967296) (hb : b < 4294967296) (ca : bK f a < 3) (cb : bK f b ≤ 3) (hz : ¬ (bK f a = bK f b ∧ (bK f a = 0 ∨ bK f a = 3))) :
  Ev (fun k => aC.j1 k f mode (a : Int) (b : Int) (dE f a != dE f b) (decide (bK f b = 3 ∨ bK f a = 0))) ((divN f mode a b : Int), xR f mode a b) := by
 unfold divN xR
 rw [if_neg (show ¬ (4 ≤ bK f a ∨ 4 ≤ bK f b) by omega), if_neg (show ¬ (4 ≤ bK f a ∨ 4 ≤ bK f b) by omega)]
 by_cases c0 : bK f b = 3 ∨ bK f a = 0
 ·rw [decide_eq_true c0]
  rw [if_neg hz, if_neg hz, if_neg (show ¬ bK f a = 3 by omega), if_neg (show ¬ bK f a = 3 by omega), if_pos c0, if_pos c0]
  exact Ev.step (fun k => by rw [aC.j1, if_pos rfl, oD, Option.bind_some]) (Ev.now _)
 ·rw [decide_eq_false c0, if_neg hz, if_neg hz, if_neg (show ¬ bK f a = 3 by omega), if_neg (show ¬ bK f a = 3 by omega), if_neg c0, if_neg c0]
  by_cases b0 : bK f b = 0
  ·rw [if_pos b0, if_pos b0]
   refine Ev.step (fun k => by rw [aC.j1, if_neg (by decide)]) (Ev.bind (jB f b hb) ?_)
   exact Ev.congr (fun k => by rw [if_pos (decide_eq_true b0), kN]; rfl) (Ev.now _)
  ·rw [if_neg b0, if_neg b0]
   refine Ev.step (fun k => by rw [aC.j1, if_neg (by decide)]) (Ev.bind (jB f b hb) ?_)
   refine Ev.congr (fun k => by rw [if_neg (by simp [b0])]) (Ev.bind (jI f a ha (iZ f a ca)) (Ev.bind (jI f b hb (iZ f b (by omega))) ?_))
   exact wE f mode a b ha hb ca (by omega) (by omega) b0
theorem aAR (f mode : Int) (a b : Nat) (ha : a < 4294967296) (hb : b < 4294967296) : Ev (fun k => aC.f k f mode (a : Int) (b : Int)) ((divN f mode a b : Int), xR f mode a b) := by
 refine Ev.congr (fun k => by unfold aC.f; rfl) (Ev.bind (vN f a b ha hb) ?_)
 by_cases n : 4 ≤ bK f a ∨ 4 ≤ bK f b
 ·have e : (eX f a || eX f b) = true := by unfold eX; rw [Bool.or_eq_true, decide_eq_true_iff, decide_eq_true_iff]; exact n
  unfold divN xR
  rw [if_pos n, if_pos n]
  exact Ev.congr (fun k => by rw [if_pos e, jZ]; rfl) (Ev.now _)
 ·have e : ¬ (eX f a || eX f b) = true := by unfold eX; rw [Bool.or_eq_true, decide_eq_true_iff, decide_eq_true_iff]; exact n
  refine Ev.congr (fun k => by rw [if_neg e, kY f a ha, Option.bind_some, kY f b hb, Option.bind_some]) (Ev.bind (jB f a ha) ?_)
  have bad : (bK f a = bK f b ∧ (bK f a = 0 ∨ bK f a = 3)) → Ev (fun k => aC.j0 k f mode (a : Int) (b : Int) (dE f a != dE f b) true) ((divN f mode a b : Int), xR f mode a b) := by
   intro z
   unfold divN xR
   rw [if_neg n, if_neg n, if_pos z, if_pos z]
   exact Ev.step (fun k => by rw [aC.j0, if_pos rfl, jZ]; rfl) (Ev.now _)
  have good : ¬ (bK f a = bK f b ∧ (bK f a = 0 ∨ bK f a = 3)) → Ev (fun k => aC.j0 k f mode (a : Int) (b : Int) (dE f a != dE f b) false) ((divN f mode a b : Int), xR f mode a b) := by
   intro z
   refine Ev.step (fun k => by rw [aC.j0, if_neg (by decide)]) (Ev.bind (iK f a ha) ?_)
   by_cases a3 : bK f a = 3
   ·unfold divN xR
    rw [if_neg n, if_neg n, if_neg z, if_neg z, if_pos a3, if_pos a3]
    exact Ev.congr (fun k => by rw [if_pos (decide_eq_true a3), kN]; rfl) (Ev.now _)
   ·have hj := aAH f mode a b ha hb (by omega) (by omega) z
    refine Ev.congr (fun k => by rw [if_neg (by simp [a3])]) (Ev.bind (iK f b hb) ?_)
    by_cases b3 : bK f b = 3
    ·rw [decide_eq_true (.inl b3)] at hj
     exact Ev.congr (fun k => by rw [if_pos (decide_eq_true b3)]) hj
    ·rw [show decide (bK f b = 3 ∨ bK f a = 0) = decide (bK f a = 0) from decide_eq_decide.mpr (by omega)] at hj
     exact Ev.congr (fun k => by rw [if_neg (by simp [b3])]) (Ev.bind (jB f a ha) hj)
  by_cases a0 : bK f a = 0
  ·refine Ev.congr (fun k => by rw [if_pos (decide_eq_true a0)]) (Ev.bind (jB f b hb) ?_)
   by_cases b0 : bK f b = 0
   ·exact Ev.congr (fun k => by rw [if_pos (decide_eq_true b0)]) (bad (by omega))
   ·refine Ev.congr (fun k => by rw [if_neg (by simp [b0])]) (Ev.bind (iK f a ha) ?_)
    exact Ev.congr (fun k => by rw [if_neg (by simp [a0])]) (good (by omega))
  ·refine Ev.congr (fun k => by rw [if_neg (by simp [a0])]) (Ev.bind (iK f a ha) ?_)
   by_cases a3 : bK f a = 3
   ·refine Ev.congr (fun k => by rw [if_pos (decide_eq_true a3)]) (Ev.bind (iK f b hb) ?_)
    by_cases b3 : bK f b = 3
    ·rw [decide_eq_true b3]; exact bad (by omega)
    ·rw [decide_eq_false b3]; exact good (by omega)
   ·exact Ev.congr (fun k => by rw [if_neg (by simp [a3])]) (good (by omega))
/- Numbers times powers of two: the program's, as plain numbers. -/

/- Numbers made whole: the program's, as plain numbers. -/

theorem w32_id (n : Int) (h : -2147483648 ≤ n) (h' : n ≤ 2147483647) : wrap32 n = n := by unfold wrap32; omega
theorem w32_in (n : Int) : -2147483648 ≤ wrap32 n ∧ wrap32 n ≤ 2147483647 := by unfold wrap32; omega
theorem fits (V : Int) (h1 : -1099511627776 ≤ V) (h2 : V ≤ 1099511627776) (x : Bool) : (if V = wrap64 (wrap32 V) then some (wrap32 V, false, false, false, false, x) else some (-2147483648, true, false, false, false, false)) =
    some (if -2147483648 ≤ V ∧ V ≤ 2147483647 then (V, false, false, false, false, x) else (-2147483648, true, false, false, false, false)) := by
  obtain ⟨w1, w2⟩ := w32_in V
  rw [cK (wrap32 V) (by omega) (by omega)]
  by_cases c : -2147483648 ≤ V ∧ V ≤ 2147483647
  · rw [w32_id V c.1 c.2, if_pos rfl, if_pos c]
  · rw [if_neg (by omega), if_neg c]
end Go.Proofs.YtjlgmfgjleajfaaGreat.Round

-- Printed by a program of this session's out of Lean's print of the translation; Lean checks it.
namespace Go.Proofs.YtjlgmfgjleajfaaGreat.P
open Go.RowKit Go.Proofs.YtjlgmfgjleajfaaGreatW.PrintWords Go.Proofs.YtjlgmfgjleajfaaGreatW.PrintLast Go.Proofs.YtjlgmfgjleajfaaGreatW.PrintMore
attribute [local go_sem] max2_int min2_int max_two min_two max_three min_three max_four min_four

-- NEED 0
/-! ### iL: function 42 -/
def iL.f (a0 : Int) : Option (Int) := if a0 < 0 then (some (IntKind.u64.wrap (-(IntKind.u64.wrap (a0))))) else (some (IntKind.u64.wrap (a0)))
theorem iL.calls (a0 r : Int) (w : World) (h : iL.f a0 = some r) :
  Calls Tryz.prog 42 #[.int .i64 a0] w fun e w' => e = .returned (.int .u64 r) ∧ Drawn0 w w' := by
 have H : (if a0 < 0 then (some (IntKind.u64.wrap (-(IntKind.u64.wrap (a0))))) else (some (IntKind.u64.wrap (a0)))) = some r := h
 clear h
 by_cases c2 : a0 < 0
 ·rw [if_pos c2] at H
  have c2b0 : decide (a0 < 0) = true := decide_eq_true c2
  clear c2
  obtain rfl := Option.some.inj H
  go_enter Tryz.func42, Tryz.ntmps42
  go_wp2
  go_ret
  exact ⟨gr_, gd_⟩
 ·rw [if_neg c2] at H
  have c2b0 : decide (a0 < 0) = false := decide_eq_false c2
  clear c2
  obtain rfl := Option.some.inj H
  go_enter Tryz.func42, Tryz.ntmps42
  go_wp2
  go_ret
  exact ⟨gr_, gd_⟩

end Go.Proofs.YtjlgmfgjleajfaaGreat.P

/- Entries of functions. -/
namespace Go.Proofs.YtjlgmfgjleajfaaGreat.L
open Go.RowKit Go.Proofs.YtjlgmfgjleajfaaGreat.P Go.Proofs.YtjlgmfgjleajfaaGreat.Ek Go.Proofs.YtjlgmfgjleajfaaGreatW.PrintWords Go.Proofs.YtjlgmfgjleajfaaGreatW.PrintLast Go.Proofs.YtjlgmfgjleajfaaGreatW.PrintMore
noncomputable def eF.c : Fc := jC [hI .i64, hB] [hI .u32] (T := Int) (fun y => ((y, ()), ())) fun n x => eF.f x.1.1 x.2.1.1
theorem eF.ok : iP Tryz.prog 37 eF.c := fF Tryz.func37 (by kernel_rfl) (by kernel_rfl) (by decide) (fun _ => dP (by decide) _) fun n x y h m w => (eF.calls x.1.1 x.2.1.1 y w h).mono fun e w' he => ⟨he.1, he.2.below⟩
noncomputable def bC.c : Fc := jC [hI .i64] [hI .i64, hI .i64] (T := Int × Int) (fun y => ((y.1, ()), (y.2, ()), ())) fun n x => bC.f x.1.1
theorem bC.ok : iP Tryz.prog 70 bC.c := fF Tryz.func70 (by kernel_rfl) (by kernel_rfl) (by decide) (fun _ => dP (by decide) _) fun n x y h m w => (bC.calls x.1.1 y.1 y.2 w h).mono fun e w' he => ⟨he.1, he.2.below⟩
noncomputable def dN.c : Fc := jC [hI .i64, hI .i64, hI .u64] [hI .i64] (T := Int) (fun y => ((y, ()), ())) fun n x => dN.f n x.1.1 x.2.1.1 x.2.2.1.1
theorem dN.ok : iP Tryz.prog 75 dN.c := fF Tryz.func75 (by kernel_rfl) (by kernel_rfl) (by decide) (fun _ => dP (by decide) _) fun n x y h m w => (dN.calls n x.1.1 x.2.1.1 x.2.2.1.1 y w h).mono fun e w' he => ⟨he.1, he.2⟩
noncomputable def dC.c : Fc := jC [hI .u64, hI .i64, hB] [hI .u64, hI .i64] (T := Int × Int) (fun y => ((y.1, ()), (y.2, ()), ())) fun n x => dC.f n x.1.1 x.2.1.1 x.2.2.1.1
theorem dC.ok : iP Tryz.prog 76 dC.c := fF Tryz.func76 (by kernel_rfl) (by kernel_rfl) (by decide) (fun _ => dP (by decide) _) fun n x y h m w => (dC.calls n x.1.1 x.2.1.1 x.2.2.1.1 y.1 y.2 w h).mono fun e w' he => ⟨he.1, he.2.below⟩
noncomputable def jA.c : Fc := jC [hI .i64, hB, hI .u64, hI .i64] [hB] (T := Bool) (fun y => ((y, ()), ())) fun n x => jA.f x.1.1 x.2.1.1 x.2.2.1.1 x.2.2.2.1.1
theorem jA.ok : iP Tryz.prog 77 jA.c := fF Tryz.func77 (by kernel_rfl) (by kernel_rfl) (by decide) (fun _ => dP (by decide) _) fun n x y h m w => (jA.calls x.1.1 x.2.1.1 x.2.2.1.1 x.2.2.2.1.1 y w h).mono fun e w' he => ⟨he.1, he.2.below⟩
noncomputable def dG.c : Fc := jC [hI .i64] [hI .i64] (T := Int) (fun y => ((y, ()), ())) fun n x => dG.f x.1.1
theorem dG.ok : iP Tryz.prog 78 dG.c := fF Tryz.func78 (by kernel_rfl) (by kernel_rfl) (by decide) (fun _ => dP (by decide) _) fun n x y h m w => (dG.calls x.1.1 y w h).mono fun e w' he => ⟨he.1, he.2.below⟩
noncomputable def dO.c : Fc := jC [hI .i64] [hI .i64] (T := Int) (fun y => ((y, ()), ())) fun n x => dO.f x.1.1
theorem dO.ok : iP Tryz.prog 71 dO.c := fF Tryz.func71 (by kernel_rfl) (by kernel_rfl) (by decide) (fun _ => dP (by decide) _) fun n x y h m w => (dO.calls x.1.1 y w h).mono fun e w' he => ⟨he.1, he.2.below⟩
noncomputable def bits_Len.c : Fc := jC [hI .u64] [hI .i64] (T := Int) (fun y => ((y, ()), ())) fun n x => bits_Len.f n x.1.1
theorem bits_Len.ok : iP Tryz.prog 39 bits_Len.c := fF Tryz.func39 (by kernel_rfl) (by kernel_rfl) (by decide) (fun _ => dP (by decide) _) fun n x y h m w => (bits_Len.calls n x.1.1 y w h).mono fun e w' he => ⟨he.1, he.2.below⟩
noncomputable def gU.c : Fc := jC [hI .u64, hI .i64] [hI .u64] (T := Int) (fun y => ((y, ()), ())) fun n x => gU.f x.1.1 x.2.1.1
theorem gU.ok : iP Tryz.prog 80 gU.c := fF Tryz.func80 (by kernel_rfl) (by kernel_rfl) (by decide) (fun _ => dP (by decide) _) fun n x y h m w => (gU.calls x.1.1 x.2.1.1 y w h).mono fun e w' he => ⟨he.1, he.2.below⟩
noncomputable def cO.c : Fc := jC [hI .i64, hB, hI .i64, hI .u32] [hI .u32] (T := Int) (fun y => ((y, ()), ())) fun n x => cO.f x.1.1 x.2.1.1 x.2.2.1.1 x.2.2.2.1.1
theorem cO.ok : iP Tryz.prog 72 cO.c := fF Tryz.func72 (by kernel_rfl) (by kernel_rfl) (by decide) (fun _ => dP (by decide) _) fun n x y h m w => (cO.calls x.1.1 x.2.1.1 x.2.2.1.1 x.2.2.2.1.1 y w h).mono fun e w' he => ⟨he.1, he.2.below⟩
noncomputable def aB.cls : Cls := [(37, eF.c), (70, bC.c), (75, dN.c), (76, dC.c), (77, jA.c), (78, dG.c), (71, dO.c), (79, bZ.c), (39, bits_Len.c), (80, gU.c), (72, cO.c)]
theorem aB.iI : dB Tryz.prog aB.cls := dB.cons eF.ok (dB.cons bC.ok (dB.cons dN.ok (dB.cons dC.ok (dB.cons jA.ok (dB.cons dG.ok (dB.cons dO.ok (dB.cons bZ.ok (dB.cons bits_Len.ok (dB.cons gU.ok (dB.cons cO.ok (dB.nil)))))))))))
noncomputable def aB.K (v : SV) : Option (Int × Bool × Bool × Bool × Bool × Bool) := (lI [hI .u32, .agg [.b, .b, .b, .b, .b]] v).map (fun z => (z.1.1, z.2.1.1, z.2.1.2.1, z.2.1.2.2.1, z.2.1.2.2.2.1, z.2.1.2.2.2.2.1))
noncomputable def aB.cuts : List Nat := [3, 9, 11, 14]
noncomputable def aB.f (k : Nat) (a0 a1 : Int) (a2 : Bool) (a3 a4 : Int) (a5 : Bool) : Option (Int × Bool × Bool × Bool × Bool × Bool) := evF Tryz.prog aB.cls Tryz.f41 aB.cuts k [.one (.i .i64 (.x a0)), .one (.i .i64 (.x a1)), .one (.b (.q a2)), .one (.i .i64 (.x a3)), .one (.i .u64 (.x a4)), .one (.b (.q a5))] aB.K
noncomputable def aB.c : Fc := jC [hI .i64, hI .i64, hB, hI .i64, hI .u64, hB] [hI .u32, .agg [.b, .b, .b, .b, .b]] (T := Int × Bool × Bool × Bool × Bool × Bool) (fun y => ((y.1, ()), (y.2.1, y.2.2.1, y.2.2.2.1, y.2.2.2.2.1, y.2.2.2.2.2, ()), ())) fun n x => aB.f n x.1.1 x.2.1.1 x.2.2.1.1 x.2.2.2.1.1 x.2.2.2.2.1.1 x.2.2.2.2.2.1.1
theorem aB.ok : iP Tryz.prog 41 aB.c := uD aB.iI Tryz.func41 (by kernel_rfl) (by kernel_rfl) (by decide) (fun _ => rfl) (fun _ _ => rfl)
noncomputable def aD.c : Fc := mkFcA [.s (hI .i64), .sl .u32] [hB, hB] (T := Bool × Bool) (fun y => ((y.1, ()), (y.2, ()), ())) fun n x => aD.f n x.1.1 x.2.1
theorem aD.ok : iP Tryz.prog 49 aD.c := yS Tryz.func49 (by kernel_rfl) (by kernel_rfl) (by decide) (fun _ => dP (by decide) _) fun n x y h m w vs ha => by obtain ⟨q0, e0, ha⟩ := ha; subst e0; obtain ⟨A1, c1, q1, e1, R1, D1, ha⟩ := ha; subst e1; subst ha; exact (aD.calls n x.1.1 A1 c1 x.2.1 y.1 y.2 w R1 D1 h).mono fun e w' he => ⟨he.1, he.2.below⟩
noncomputable def bN.c : Fc := jC [hI .i64] [hI .u32] (T := Int) (fun y => ((y, ()), ())) fun n x => bN.f x.1.1
theorem bN.ok : iP Tryz.prog 50 bN.c := fF Tryz.func50 (by kernel_rfl) (by kernel_rfl) (by decide) (fun _ => dP (by decide) _) fun n x y h m w => (bN.calls x.1.1 y w h).mono fun e w' he => ⟨he.1, he.2.below⟩
noncomputable def bG.c : Fc := jC [hI .i64, hI .u32] [hB] (T := Bool) (fun y => ((y, ()), ())) fun n x => bG.f x.1.1 x.2.1.1
theorem bG.ok : iP Tryz.prog 51 bG.c := fF Tryz.func51 (by kernel_rfl) (by kernel_rfl) (by decide) (fun _ => dP (by decide) _) fun n x y h m w => (bG.calls x.1.1 x.2.1.1 y w h).mono fun e w' he => ⟨he.1, he.2.below⟩
noncomputable def aM.c : Fc := jC [hI .i64, hI .u32] [hB] (T := Bool) (fun y => ((y, ()), ())) fun n x => aM.f n x.1.1 x.2.1.1
theorem aM.ok : iP Tryz.prog 52 aM.c := fF Tryz.func52 (by kernel_rfl) (by kernel_rfl) (by decide) (fun _ => dP (by decide) _) fun n x y h m w => (aM.calls n x.1.1 x.2.1.1 y w h).mono fun e w' he => ⟨he.1, he.2.below⟩
noncomputable def aI.c : Fc := jC [hI .i64, hI .u32] [hB] (T := Bool) (fun y => ((y, ()), ())) fun n x => aI.f n x.1.1 x.2.1.1
theorem aI.ok : iP Tryz.prog 53 aI.c := fF Tryz.func53 (by kernel_rfl) (by kernel_rfl) (by decide) (fun _ => dP (by decide) _) fun n x y h m w => (aI.calls n x.1.1 x.2.1.1 y w h).mono fun e w' he => ⟨he.1, he.2.below⟩
noncomputable def bD.c : Fc := jC [hI .i64, hB] [hI .u32] (T := Int) (fun y => ((y, ()), ())) fun n x => bD.f x.1.1 x.2.1.1
theorem bD.ok : iP Tryz.prog 54 bD.c := fF Tryz.func54 (by kernel_rfl) (by kernel_rfl) (by decide) (fun _ => dP (by decide) _) fun n x y h m w => (bD.calls x.1.1 x.2.1.1 y w h).mono fun e w' he => ⟨he.1, he.2.below⟩
noncomputable def aN.c : Fc := jC [hI .i64, hI .u32] [hB, hI .i64, hI .u64] (T := Bool × Int × Int) (fun y => ((y.1, ()), (y.2.1, ()), (y.2.2, ()), ())) fun n x => aN.f n x.1.1 x.2.1.1
theorem aN.ok : iP Tryz.prog 56 aN.c := fF Tryz.func56 (by kernel_rfl) (by kernel_rfl) (by decide) (fun _ => dP (by decide) _) fun n x y h m w => (aN.calls n x.1.1 x.2.1.1 y.1 y.2.1 y.2.2 w h).mono fun e w' he => ⟨he.1, he.2.below⟩
noncomputable def aC.cls : Cls := [(49, aD.c), (50, bN.c), (51, bG.c), (52, aM.c), (53, aI.c), (54, bD.c), (55, bV.c), (56, aN.c), (57, aA.c)]
theorem aC.iI : dB Tryz.prog aC.cls := dB.cons aD.ok (dB.cons bN.ok (dB.cons bG.ok (dB.cons aM.ok (dB.cons aI.ok (dB.cons bD.ok (dB.cons bV.ok (dB.cons aN.ok (dB.cons aA.ok (dB.nil)))))))))
noncomputable def aC.K (v : SV) : Option (Int × Bool × Bool × Bool × Bool × Bool) := (lI [hI .u32, .agg [.b, .b, .b, .b, .b]] v).map (fun z => (z.1.1, z.2.1.1, z.2.1.2.1, z.2.1.2.2.1, z.2.1.2.2.2.1, z.2.1.2.2.2.2.1))
noncomputable def aC.cuts : List Nat := [6, 10]
noncomputable def aC.f (k : Nat) (a0 a1 : Int) (a2 a3 : Int) : Option (Int × Bool × Bool × Bool × Bool × Bool) := evF Tryz.prog aC.cls Tryz.f23 aC.cuts k [.one (.i .i64 (.x a0)), .one (.i .i64 (.x a1)), .one (.i .u32 (.x a2)), .one (.i .u32 (.x a3))] aC.K
noncomputable def aC.c : Fc := jC [hI .i64, hI .i64, hI .u32, hI .u32] [hI .u32, .agg [.b, .b, .b, .b, .b]] (T := Int × Bool × Bool × Bool × Bool × Bool) (fun y => ((y.1, ()), (y.2.1, y.2.2.1, y.2.2.2.1, y.2.2.2.2.1, y.2.2.2.2.2, ()), ())) fun n x => aC.f n x.1.1 x.2.1.1 x.2.2.1.1 x.2.2.2.1.1
theorem aC.ok : iP Tryz.prog 23 aC.c := uD aC.iI Tryz.func23 (by kernel_rfl) (by kernel_rfl) (by decide) (fun _ => rfl) (fun _ _ => rfl)
noncomputable def aG.cls : Cls := [(49, aD.c), (50, bN.c), (51, bG.c), (52, aM.c), (53, aI.c), (54, bD.c), (56, aN.c), (57, aA.c)]
theorem aG.iI : dB Tryz.prog aG.cls := dB.cons aD.ok (dB.cons bN.ok (dB.cons bG.ok (dB.cons aM.ok (dB.cons aI.ok (dB.cons bD.ok (dB.cons aN.ok (dB.cons aA.ok (dB.nil))))))))
noncomputable def aG.K (v : SV) : Option (Int × Bool × Bool × Bool × Bool × Bool) := (lI [hI .u32, .agg [.b, .b, .b, .b, .b]] v).map (fun z => (z.1.1, z.2.1.1, z.2.1.2.1, z.2.1.2.2.1, z.2.1.2.2.2.1, z.2.1.2.2.2.2.1))
noncomputable def aG.cuts : List Nat := [6, 8]
noncomputable def aG.f (k : Nat) (a0 a1 : Int) (a2 a3 : Int) : Option (Int × Bool × Bool × Bool × Bool × Bool) := evF Tryz.prog aG.cls Tryz.f25 aG.cuts k [.one (.i .i64 (.x a0)), .one (.i .i64 (.x a1)), .one (.i .u32 (.x a2)), .one (.i .u32 (.x a3))] aG.K
noncomputable def aG.c : Fc := jC [hI .i64, hI .i64, hI .u32, hI .u32] [hI .u32, .agg [.b, .b, .b, .b, .b]] (T := Int × Bool × Bool × Bool × Bool × Bool) (fun y => ((y.1, ()), (y.2.1, y.2.2.1, y.2.2.2.1, y.2.2.2.2.1, y.2.2.2.2.2, ()), ())) fun n x => aG.f n x.1.1 x.2.1.1 x.2.2.1.1 x.2.2.2.1.1
theorem aG.ok : iP Tryz.prog 25 aG.c := uD aG.iI Tryz.func25 (by kernel_rfl) (by kernel_rfl) (by decide) (fun _ => rfl) (fun _ _ => rfl)
/- Functions' trees, printed by a tool of mine out of the reckoner; Lean's kernel checks each. -/
set_option maxRecDepth 100000
noncomputable def aB.j3 (n0 : Nat) (x0 x1 : Bool) (x2 x3 : Int) (x4 : Bool) (x5 x6 : Int) (x7 x8 : Bool) (x9 x10 x11 : Bool) := jV Tryz.prog aB.cls Tryz.f41 aB.cuts [1, 1, 0, 1] [n0] n0 ⟨[(29, (.pv (.one (.b (.q x0))))), (13, (.pv (.one (.p 0 0)))), (5, (.pv (.one (.b (.q x1))))), (4, (.pv (.one (.i .u64 (.x x2))))), (3, (.pv (.one (.i .i64 (.x x3))))), (2, (.pv (.one (.b (.q x4))))), (1, (.pv (.one (.i .i64 (.x x5))))), (0, (.pv (.one (.i .i64 (.x x6)))))], [(0, (42, [(.c (.b (.q x7))), (.c (.b (.q x8))), (.c (.b (.q x9))), (.c (.b (.q x10))), (.c (.b (.q x11)))]))], 1⟩ aB.K
noncomputable def aB.j9 (n0 : Nat) (x0 x1 : Int) (x2 x3 : Int) (x4 x5 : Int) (x6 : Bool) (x7 x8 : Int) (x9 x10 : Bool) (x11 x12 x13 : Bool) := jV Tryz.prog aB.cls Tryz.f41 aB.cuts [1, 1, 1, 1, 1, 1, 1] [n0] n0 ⟨[(18, (.pv (.one (.i .i64 (.x x0))))), (17, (.pv (.one (.i .u64 (.x x1))))), (16, (.pv (.one (.i .i64 (.x x2))))), (15, (.pv (.one (.i .i64 (.x x3))))), (13, (.pv (.one (.p 0 0)))), (4, (.pv (.one (.i .u64 (.x x4))))), (3, (.pv (.one (.i .i64 (.x x5))))), (2, (.pv (.one (.b (.q x6))))), (1, (.pv (.one (.i .i64 (.x x7))))), (0, (.pv (.one (.i .i64 (.x x8)))))], [(0, (42, [(.c (.b (.q x9))), (.c (.b (.q x10))), (.c (.b (.q x11))), (.c (.b (.q x12))), (.c (.b (.q x13)))]))], 1⟩ aB.K
noncomputable def aB.j11 (n0 : Nat) (x0 x1 : Int) (x2 x3 : Int) (x4 x5 : Int) (x6 : Bool) (x7 x8 : Int) (x9 x10 : Bool) (x11 x12 x13 : Bool) := jV Tryz.prog aB.cls Tryz.f41 aB.cuts [1, 1, 1, 1, 1, 1, 1, 1] [n0] n0 ⟨[(18, (.pv (.one (.i .i64 (.x x0))))), (17, (.pv (.one (.i .u64 (.x x1))))), (16, (.pv (.one (.i .i64 (.x x2))))), (15, (.pv (.one (.i .i64 (.x x3))))), (13, (.pv (.one (.p 0 0)))), (4, (.pv (.one (.i .u64 (.x x4))))), (3, (.pv (.one (.i .i64 (.x x5))))), (2, (.pv (.one (.b (.q x6))))), (1, (.pv (.one (.i .i64 (.x x7))))), (0, (.pv (.one (.i .i64 (.x x8)))))], [(0, (42, [(.c (.b (.q x9))), (.c (.b (.q x10))), (.c (.b (.q x11))), (.c (.b (.q x12))), (.c (.b (.q x13)))]))], 1⟩ aB.K
noncomputable def aB.j14 (n0 : Nat) (x0 x1 : Int) (x2 x3 : Int) (x4 x5 : Int) (x6 : Bool) (x7 x8 : Int) (x9 x10 : Bool) (x11 x12 x13 : Bool) := jV Tryz.prog aB.cls Tryz.f41 aB.cuts [1, 1, 1, 1, 1, 1, 1, 1, 1, 1] [n0] n0 ⟨[(19, (.pv (.one (.i .i64 (.x x0))))), (18, (.pv (.one (.i .i64 (.x x1))))), (17, (.pv (.one (.i .u64 (.x x2))))), (15, (.pv (.one (.i .i64 (.x x3))))), (13, (.pv (.one (.p 0 0)))), (4, (.pv (.one (.i .u64 (.x x4))))), (3, (.pv (.one (.i .i64 (.x x5))))), (2, (.pv (.one (.b (.q x6))))), (1, (.pv (.one (.i .i64 (.x x7))))), (0, (.pv (.one (.i .i64 (.x x8)))))], [(0, (42, [(.c (.b (.q x9))), (.c (.b (.q x10))), (.c (.b (.q x11))), (.c (.b (.q x12))), (.c (.b (.q x13)))]))], 1⟩ aB.K
theorem aB.eq (n0 : Nat) (a0 a1 : Int) (a2 : Bool) (a3 a4 : Int) (a5 : Bool) : aB.f n0 a0 a1 a2 a3 a4 a5 = (if a4 = 0 then (aB.j3 n0 (!(a5)) (a5) (a4) (mn (mx a3 (-10000)) 10000) (a2) (a1) (a0) (false) (false) (false) (false) (false)) else (aB.j3 n0 (false) (a5) (a4) (mn (mx a3 (-10000)) 10000) (a2) (a1) (a0) (false) (false) (false) (false) (false))) := by kernel_rfl
theorem aB.j3_eq (n0 : Nat) (x0 x1 : Bool) (x2 x3 : Int) (x4 : Bool) (x5 x6 : Int) (x7 x8 : Bool) (x9 x10 x11 : Bool) : aB.j3 n0 x0 x1 x2 x3 x4 x5 x6 x7 x8 x9 x10 x11 = (if x0 = true then ((eF.f x6 x4).bind fun t0 => (some ((t0, false, false, false, false, false)))) else ((bC.f x6).bind fun t0 => ((dN.f n0 x6 x3 x2).bind fun t1 => ((dC.f n0 x2 (wrap64 (t1 - x3)) x1).bind fun t2 => ((jA.f x5 x4 t2.1 t2.2).bind fun t3 => (if t3 = true then (aB.j9 n0 t2.2 (IntKind.wrap IntKind.u64 (t2.1 + 1)) (t1) t0.2 (x2) (x3) (x4) (x5) (x6) (x7) (x8) (x9) (x10) (x11)) else (aB.j9 n0 t2.2 t2.1 (t1) t0.2 (x2) (x3) (x4) (x5) (x6) (x7) (x8) (x9) (x10) (x11)))))))) := by kernel_rfl
theorem aB.j9_eq (n0 : Nat) (x0 x1 : Int) (x2 x3 : Int) (x4 x5 : Int) (x6 : Bool) (x7 x8 : Int) (x9 x10 : Bool) (x11 x12 x13 : Bool) : aB.j9 n0 x0 x1 x2 x3 x4 x5 x6 x7 x8 x9 x10 x11 x12 x13 = (if 0 ≤ IntKind.wrap IntKind.u64 (wrap64 (x3 + 1)) then (if shr IntKind.u64 x1 (IntKind.wrap IntKind.u64 (wrap64 (x3 + 1))) = 0 then (aB.j11 n0 (x0) (x1) (x2) (x3) (x4) (x5) (x6) (x7) (x8) (x9) (x10) (x11) (x12) (x13)) else (aB.j11 n0 (x0) (shr IntKind.u64 x1 1) (wrap64 (x2 + 1)) (x3) (x4) (x5) (x6) (x7) (x8) (x9) (x10) (x11) (x12) (x13))) else none) := by kernel_rfl
theorem aB.wM (n0 : Nat) (x0 x1 : Int) (x2 x3 : Int) (x4 x5 : Int) (x6 : Bool) (x7 x8 : Int) (x9 x10 : Bool) (x11 x12 x13 : Bool) : aB.j11 n0 x0 x1 x2 x3 x4 x5 x6 x7 x8 x9 x10 x11 x12 x13 = ((dG.f x8).bind fun t0 => (if 0 ≤ IntKind.wrap IntKind.u64 x3 then (if shr IntKind.u64 x1 (IntKind.wrap IntKind.u64 x3) = 0 then (aB.j14 n0 (Int.ofNat 0) (x0) (x1) (x3) (x4) (x5) (x6) (x7) (x8) (x9) (x10) (x11) (x12) (x13)) else (aB.j14 n0 (wrap64 (wrap64 (wrap64 (x2 + x3) - t0) + 1)) (x0) (x1) (x3) (x4) (x5) (x6) (x7) (x8) (x9) (x10) (x11) (x12) (x13))) else none)) := by kernel_rfl
theorem aB.aBK (n0 : Nat) (x0 x1 : Int) (x2 x3 : Int) (x4 x5 : Int) (x6 : Bool) (x7 x8 : Int) (x9 x10 : Bool) (x11 x12 x13 : Bool) : aB.j14 n0 x0 x1 x2 x3 x4 x5 x6 x7 x8 x9 x10 x11 x12 x13 = ((dO.f x8).bind fun t0 => (if t0 ≤ x0 then ((YtjlgmfgjleajfaaGreat.L.bZ.f n0 x8 x7 x6).bind fun t1 => (some ((t1.1, t1.2.1, t1.2.2.1, t1.2.2.2.1, t1.2.2.2.2.1, t1.2.2.2.2.2)))) else (if x1 = 0 then ((gU.f x2 x3).bind fun t1 => ((cO.f x8 x6 x0 (t1 % 4294967296)).bind fun t2 => (some ((t2, false, false, false, false, !x1 == 0))))) else (if x4 = 0 then ((gU.f x2 x3).bind fun t1 => ((cO.f x8 x6 x0 (t1 % 4294967296)).bind fun t2 => (some ((t2, false, false, false, true, !x1 == 0))))) else ((bits_Len.f n0 x4).bind fun t1 => ((dG.f x8).bind fun t2 => ((gU.f x2 x3).bind fun t3 => ((cO.f x8 x6 x0 (t3 % 4294967296)).bind fun t4 => (some ((t4, false, false, false, decide (wrap64 (wrap64 (x5 + t1) - 1) < t2), !x1 == 0))))))))))) := by kernel_rfl
noncomputable def aC.j6 (n0 : Nat) (x0 x1 : Bool) (x2 x3 : Int) (x4 x5 : Int) (x6 x7 : Bool) (x8 x9 x10 : Bool) := jV Tryz.prog aC.cls Tryz.f23 aC.cuts [1, 1, 1, 0, 0, 1] [n0] n0 ⟨[(39, (.pv (.one (.b (.q x0))))), (12, (.pv (.one (.b (.q x1))))), (9, (.pv (.one (.p 0 0)))), (3, (.pv (.one (.i .u32 (.x x2))))), (2, (.pv (.one (.i .u32 (.x x3))))), (1, (.pv (.one (.i .i64 (.x x4))))), (0, (.pv (.one (.i .i64 (.x x5)))))], [(0, (42, [(.c (.b (.q x6))), (.c (.b (.q x7))), (.c (.b (.q x8))), (.c (.b (.q x9))), (.c (.b (.q x10)))]))], 1⟩ aC.K
noncomputable def aC.j10 (n0 : Nat) (x0 x1 : Bool) (x2 x3 : Int) (x4 x5 : Int) (x6 x7 : Bool) (x8 x9 x10 : Bool) := jV Tryz.prog aC.cls Tryz.f23 aC.cuts [1, 1, 1, 0, 0, 1, 1, 1, 1, 1] [n0] n0 ⟨[(69, (.pv (.one (.b (.q x0))))), (12, (.pv (.one (.b (.q x1))))), (9, (.pv (.one (.p 0 0)))), (3, (.pv (.one (.i .u32 (.x x2))))), (2, (.pv (.one (.i .u32 (.x x3))))), (1, (.pv (.one (.i .i64 (.x x4))))), (0, (.pv (.one (.i .i64 (.x x5)))))], [(0, (42, [(.c (.b (.q x6))), (.c (.b (.q x7))), (.c (.b (.q x8))), (.c (.b (.q x9))), (.c (.b (.q x10)))]))], 1⟩ aC.K
noncomputable def aC.l15 (k n0 : Nat) (x0 x1 : Int) (x2 x3 : Int) (x4 : Bool) (x5 x6 : Int) (x7 x8 : Bool) (x9 x10 x11 : Bool) := evIn Tryz.prog aC.cls Tryz.f23 aC.cuts [1, 1, 1, 1, 1, 1, 0, 0] [n0] k ⟨[(18, (.pv (.one (.i .u64 (.x x0))))), (17, (.pv (.one (.i .i64 (.x x1))))), (15, (.pv (.one (.i .u64 (.x x2))))), (14, (.pv (.one (.i .i64 (.x x3))))), (12, (.pv (.one (.b (.q x4))))), (9, (.pv (.one (.p 0 0)))), (1, (.pv (.one (.i .i64 (.x x5))))), (0, (.pv (.one (.i .i64 (.x x6)))))], [(0, (42, [(.c (.b (.q x7))), (.c (.b (.q x8))), (.c (.b (.q x9))), (.c (.b (.q x10))), (.c (.b (.q x11)))]))], 1⟩ aC.K
noncomputable def aC.l17 (k n0 : Nat) (x0 x1 : Int) (x2 x3 : Int) (x4 : Bool) (x5 x6 : Int) (x7 x8 : Bool) (x9 x10 x11 : Bool) := evIn Tryz.prog aC.cls Tryz.f23 aC.cuts [1, 1, 1, 1, 1, 1, 1, 0, 0] [n0] k ⟨[(18, (.pv (.one (.i .u64 (.x x0))))), (17, (.pv (.one (.i .i64 (.x x1))))), (15, (.pv (.one (.i .u64 (.x x2))))), (14, (.pv (.one (.i .i64 (.x x3))))), (12, (.pv (.one (.b (.q x4))))), (9, (.pv (.one (.p 0 0)))), (1, (.pv (.one (.i .i64 (.x x5))))), (0, (.pv (.one (.i .i64 (.x x6)))))], [(0, (42, [(.c (.b (.q x7))), (.c (.b (.q x8))), (.c (.b (.q x9))), (.c (.b (.q x10))), (.c (.b (.q x11)))]))], 1⟩ aC.K
theorem aC.eq (n0 : Nat) (a0 a1 : Int) (a2 a3 : Int) : aC.f n0 a0 a1 a2 a3 = ((aD.f n0 a0 [a2, a3]).bind fun t0 => (if t0.1 = true then ((bN.f a0).bind fun t1 => (some ((t1, t0.2, false, false, false, false)))) else ((bG.f a0 a2).bind fun t1 => ((bG.f a0 a3).bind fun t2 => ((aM.f n0 a0 a2).bind fun t3 => (if t3 = true then ((aM.f n0 a0 a3).bind fun t4 => (if t4 = true then (aC.j6 n0 (true) (!(t1 == t2)) (a3) (a2) (a1) (a0) (false) (false) (false) (false) (false)) else ((aI.f n0 a0 a2).bind fun t5 => (if t5 = true then ((aI.f n0 a0 a3).bind fun t6 => (aC.j6 n0 (t6) (!(t1 == t2)) (a3) (a2) (a1) (a0) (false) (false) (false) (false) (false))) else (aC.j6 n0 (false) (!(t1 == t2)) (a3) (a2) (a1) (a0) (false) (false) (false) (false) (false)))))) else ((aI.f n0 a0 a2).bind fun t4 => (if t4 = true then ((aI.f n0 a0 a3).bind fun t5 => (aC.j6 n0 (t5) (!(t1 == t2)) (a3) (a2) (a1) (a0) (false) (false) (false) (false) (false))) else (aC.j6 n0 (false) (!(t1 == t2)) (a3) (a2) (a1) (a0) (false) (false) (false) (false) (false)))))))))) := by kernel_rfl
theorem aC.yC (n0 : Nat) (x0 x1 : Bool) (x2 x3 : Int) (x4 x5 : Int) (x6 x7 : Bool) (x8 x9 x10 : Bool) : aC.j6 n0 x0 x1 x2 x3 x4 x5 x6 x7 x8 x9 x10 = (if x0 = true then ((bN.f x5).bind fun t0 => (some ((t0, true, false, false, false, false)))) else ((aI.f n0 x5 x3).bind fun t0 => (if t0 = true then ((bD.f x5 x1).bind fun t1 => (some ((t1, false, false, false, false, false)))) else ((aI.f n0 x5 x2).bind fun t1 => (if t1 = true then (aC.j10 n0 (true) (x1) (x2) (x3) (x4) (x5) (x6) (x7) (x8) (x9) (x10)) else ((aM.f n0 x5 x3).bind fun t2 => (aC.j10 n0 (t2) (x1) (x2) (x3) (x4) (x5) (x6) (x7) (x8) (x9) (x10)))))))) := by kernel_rfl
theorem aC.wX (n0 : Nat) (x0 x1 : Bool) (x2 x3 : Int) (x4 x5 : Int) (x6 x7 : Bool) (x8 x9 x10 : Bool) : aC.j10 n0 x0 x1 x2 x3 x4 x5 x6 x7 x8 x9 x10 = (if x0 = true then ((bV.f x5 x1).bind fun t0 => (some ((t0, false, false, false, false, false)))) else ((aM.f n0 x5 x2).bind fun t0 => (if t0 = true then ((bD.f x5 x1).bind fun t1 => (some ((t1, false, true, false, false, false)))) else ((aN.f n0 x5 x3).bind fun t1 => ((aN.f n0 x5 x2).bind fun t2 => (aC.l15 n0 n0 t2.2.2 t2.2.1 t1.2.2 t1.2.1 (x1) (x4) (x5) (x6) (x7) (x8) (x9) (x10))))))) := by kernel_rfl
theorem aC.l15_eq (k n0 : Nat) (x0 x1 : Int) (x2 x3 : Int) (x4 : Bool) (x5 x6 : Int) (x7 x8 : Bool) (x9 x10 x11 : Bool) : aC.l15 (k + 1) n0 x0 x1 x2 x3 x4 x5 x6 x7 x8 x9 x10 x11 = (if x2 < 8388608 then (aC.l15 k n0 (x0) (x1) (shl IntKind.u64 x2 1) (wrap64 (x3 - 1)) (x4) (x5) (x6) (x7) (x8) (x9) (x10) (x11)) else (aC.l17 n0 n0 (x0) (x1) (x2) (x3) (x4) (x5) (x6) (x7) (x8) (x9) (x10) (x11))) := by kernel_rfl
theorem aC.l17_eq (k n0 : Nat) (x0 x1 : Int) (x2 x3 : Int) (x4 : Bool) (x5 x6 : Int) (x7 x8 : Bool) (x9 x10 x11 : Bool) : aC.l17 (k + 1) n0 x0 x1 x2 x3 x4 x5 x6 x7 x8 x9 x10 x11 = (if x0 < 8388608 then (aC.l17 k n0 (shl IntKind.u64 x0 1) (wrap64 (x1 - 1)) (x2) (x3) (x4) (x5) (x6) (x7) (x8) (x9) (x10) (x11)) else (if x0 = 0 then none else (if x0 = 0 then none else ((aA.f n0 x6 x5 x4 (wrap64 (wrap64 (x3 - x1) - 40)) (IntKind.wrap IntKind.u64 (Int.tdiv (shl IntKind.u64 x2 40) x0)) !Int.tmod (shl IntKind.u64 x2 40) x0 == 0).bind fun t0 => (some ((t0.1, t0.2.1, t0.2.2.1, t0.2.2.2.1, t0.2.2.2.2.1, t0.2.2.2.2.2))))))) := by kernel_rfl
noncomputable def aG.j6 (n0 : Nat) (x0 x1 : Bool) (x2 x3 : Int) (x4 x5 : Int) (x6 x7 : Bool) (x8 x9 x10 : Bool) := jV Tryz.prog aG.cls Tryz.f25 aG.cuts [1, 1, 1, 0, 1] [n0] n0 ⟨[(56, (.pv (.one (.b (.q x0))))), (12, (.pv (.one (.b (.q x1))))), (9, (.pv (.one (.p 0 0)))), (3, (.pv (.one (.i .u32 (.x x2))))), (2, (.pv (.one (.i .u32 (.x x3))))), (1, (.pv (.one (.i .i64 (.x x4))))), (0, (.pv (.one (.i .i64 (.x x5)))))], [(0, (42, [(.c (.b (.q x6))), (.c (.b (.q x7))), (.c (.b (.q x8))), (.c (.b (.q x9))), (.c (.b (.q x10)))]))], 1⟩ aG.K
noncomputable def aG.j8 (n0 : Nat) (x0 x1 : Bool) (x2 x3 : Int) (x4 x5 : Int) (x6 x7 : Bool) (x8 x9 x10 : Bool) := jV Tryz.prog aG.cls Tryz.f25 aG.cuts [1, 1, 1, 1, 0, 1] [n0] n0 ⟨[(67, (.pv (.one (.b (.q x0))))), (12, (.pv (.one (.b (.q x1))))), (9, (.pv (.one (.p 0 0)))), (3, (.pv (.one (.i .u32 (.x x2))))), (2, (.pv (.one (.i .u32 (.x x3))))), (1, (.pv (.one (.i .i64 (.x x4))))), (0, (.pv (.one (.i .i64 (.x x5)))))], [(0, (42, [(.c (.b (.q x6))), (.c (.b (.q x7))), (.c (.b (.q x8))), (.c (.b (.q x9))), (.c (.b (.q x10)))]))], 1⟩ aG.K
theorem aG.eq (n0 : Nat) (a0 a1 : Int) (a2 a3 : Int) : aG.f n0 a0 a1 a2 a3 = ((aD.f n0 a0 [a2, a3]).bind fun t0 => (if t0.1 = true then ((bN.f a0).bind fun t1 => (some ((t1, t0.2, false, false, false, false)))) else ((bG.f a0 a2).bind fun t1 => ((bG.f a0 a3).bind fun t2 => ((aM.f n0 a0 a2).bind fun t3 => (if t3 = true then ((aI.f n0 a0 a3).bind fun t4 => (if t4 = true then (aG.j6 n0 (true) (!(t1 == t2)) (a3) (a2) (a1) (a0) (false) (false) (false) (false) (false)) else ((aI.f n0 a0 a2).bind fun t5 => (if t5 = true then ((aM.f n0 a0 a3).bind fun t6 => (aG.j6 n0 (t6) (!(t1 == t2)) (a3) (a2) (a1) (a0) (false) (false) (false) (false) (false))) else (aG.j6 n0 (false) (!(t1 == t2)) (a3) (a2) (a1) (a0) (false) (false) (false) (false) (false)))))) else ((aI.f n0 a0 a2).bind fun t4 => (if t4 = true then ((aM.f n0 a0 a3).bind fun t5 => (aG.j6 n0 (t5) (!(t1 == t2)) (a3) (a2) (a1) (a0) (false) (false) (false) (false) (false))) else (aG.j6 n0 (false) (!(t1 == t2)) (a3) (a2) (a1) (a0) (false) (false) (false) (false) (false)))))))))) := by kernel_rfl
theorem aG.yC (n0 : Nat) (x0 x1 : Bool) (x2 x3 : Int) (x4 x5 : Int) (x6 x7 : Bool) (x8 x9 x10 : Bool) : aG.j6 n0 x0 x1 x2 x3 x4 x5 x6 x7 x8 x9 x10 = (if x0 = true then ((bN.f x5).bind fun t0 => (some ((t0, true, false, false, false, false)))) else ((aI.f n0 x5 x3).bind fun t0 => (if t0 = true then (aG.j8 n0 (true) (x1) (x2) (x3) (x4) (x5) (x6) (x7) (x8) (x9) (x10)) else ((aI.f n0 x5 x2).bind fun t1 => (aG.j8 n0 (t1) (x1) (x2) (x3) (x4) (x5) (x6) (x7) (x8) (x9) (x10)))))) := by kernel_rfl
theorem aG.aCg (n0 : Nat) (x0 x1 : Bool) (x2 x3 : Int) (x4 x5 : Int) (x6 x7 : Bool) (x8 x9 x10 : Bool) : aG.j8 n0 x0 x1 x2 x3 x4 x5 x6 x7 x8 x9 x10 = (if x0 = true then ((bD.f x5 x1).bind fun t0 => (some ((t0, false, false, false, false, false)))) else ((aN.f n0 x5 x3).bind fun t0 => ((aN.f n0 x5 x2).bind fun t1 => ((aA.f n0 x5 x4 x1 (wrap64 (t0.2.1 + t1.2.1)) (IntKind.wrap IntKind.u64 (t0.2.2 * t1.2.2)) false).bind fun t2 => (some ((t2.1, t2.2.1, t2.2.2.1, t2.2.2.2.1, t2.2.2.2.2.1, t2.2.2.2.2.2))))))) := by kernel_rfl
end Go.Proofs.YtjlgmfgjleajfaaGreat.L

-- Printed by a program of this session's out of Lean's print of the translation; Lean checks it.
namespace Go.Proofs.YtjlgmfgjleajfaaGreat.P
open Go.RowKit Go.Proofs.YtjlgmfgjleajfaaGreatW.PrintWords Go.Proofs.YtjlgmfgjleajfaaGreatW.PrintLast Go.Proofs.YtjlgmfgjleajfaaGreatW.PrintMore
attribute [local go_sem] max2_int min2_int max_two min_two max_three min_three max_four min_four

-- NEED 1
/-! ### gB: function 24 -/
def gB.f (k : Nat) (a0 a1 a2 : Int) : Option (Int × Bool × Bool × Bool × Bool × Bool) := if a2 < 0 then ((aA.f k a0 a1 true 0 (IntKind.u64.wrap (-(IntKind.u64.wrap (a2)))) false).bind fun bt686 => (some (bt686.1, bt686.2.1, bt686.2.2.1, bt686.2.2.2.1, bt686.2.2.2.2.1, bt686.2.2.2.2.2))) else ((aA.f k a0 a1 false 0 (IntKind.u64.wrap (a2)) false).bind fun bt692 => (some (bt692.1, bt692.2.1, bt692.2.2.1, bt692.2.2.2.1, bt692.2.2.2.2.1, bt692.2.2.2.2.2)))
theorem gB.calls (k : Nat) (a0 a1 : Int) (a2 r1 : Int) (r2 r3 : Bool) (r4 r5 r6 : Bool) (w : World) (h : gB.f k a0 a1 a2 = some (r1, r2, r3, r4, r5, r6)) :
  Calls Tryz.prog 24 #[.int .i64 a0, .int .i64 a1, .int .i64 a2] w fun e w' => e = .returned (.tuple #[.int .u32 r1, .agg #[.bool r2, .bool r3, .bool r4, .bool r5, .bool r6]]) ∧ Below w.heap.size w w' := by
 have hu42 := Tryz.underlying42
 have HB := Aside0.mk (Below.refl w.heap.size w)
 have H : (if a2 < 0 then ((aA.f k a0 a1 true 0 (IntKind.u64.wrap (-(IntKind.u64.wrap (a2)))) false).bind fun bt686 => (some (bt686.1, bt686.2.1, bt686.2.2.1, bt686.2.2.2.1, bt686.2.2.2.2.1, bt686.2.2.2.2.2))) else ((aA.f k a0 a1 false 0 (IntKind.u64.wrap (a2)) false).bind fun bt692 => (some (bt692.1, bt692.2.1, bt692.2.2.1, bt692.2.2.2.1, bt692.2.2.2.2.1, bt692.2.2.2.2.2)))) = some (r1, r2, r3, r4, r5, r6) := h
 clear h
 by_cases c4 : a2 < 0
 ·rw [if_pos c4] at H
  have c4b0 : decide (a2 < 0) = true := decide_eq_true c4
  clear c4
  replace H := bq_ H
  obtain ⟨⟨t686, t687, t688, t689, t690, t691⟩, A50, H⟩ := H
  replace H : (some (t686, t687, t688, t689, t690, t691)) = some (r1, r2, r3, r4, r5, r6) := H
  have A5 := Aside0.mk A50
  clear A50
  simp only [Option.some.injEq, Prod.mk.injEq] at H
  obtain ⟨rfl, rfl, rfl, rfl, rfl, rfl⟩ := H
  go_enter Tryz.func24, Tryz.ntmps24
  go_wp2_with (first | ((with_reducible refine gate_dst (N := 7) rfl ?_); refine box_event ?hg (N := 7) ?hd (cs := F5) (t := 42) ?hr ?_; (case hd => rfl); (case hg => rfl); (case hr => first | (go_simp; done) | (go_simp; rfl)); intro gb685 hg w6 hbox hb; have n0_ := Aside0.mk (below_step (bl0 HB.out) hb); have n1_ := Aside0.mk (hbox); have n2_ := Aside0.mk ((by rw [hg]; exact (below_size (bl0 HB.out)) : w.heap.size ≤ gb685)); have n3_ := n2_; clear HB; have HB := n0_; have BK685 := n1_; have GW685 := n2_; have GE685 := n3_; clear n0_ n1_ n2_ n3_; clear hb hbox hg) | ((with_reducible refine gate_callee (f := 57) rfl ?_); refine goesL_ (some 15) rfl rfl Tryz.func57 (by kernel_rfl) rfl #[.int .i64 a0, .int .i64 a1, .bool true, .int .i64 0, .int .u64 (IntKind.u64.wrap (-(IntKind.u64.wrap (a2)))), .bool false] rfl gl ?_; (with_reducible refine (aA.calls k a0 a1 true 0 (IntKind.u64.wrap (-(IntKind.u64.wrap (a2)))) false t686 t687 t688 t689 t690 t691 _ A5.out).mono ?_); rintro e w7 ⟨rfl, hb⟩; refine ⟨_, rfl, ?_⟩; have n0_ := Aside0.mk (blk_below (g := gb685) (o := o5_ false false false false false 42) (bv BK685.out) hb); have n1_ := Aside0.mk (below_step (bl1 HB.out GE685.out) hb); clear BK685; clear HB; have BK685 := n0_; have HB := n1_; clear n0_ n1_; obtain ⟨hcz8_0, hcz8_1, hcz8_2, hcz8_3, hcz8_4⟩ := bc5 BK685.out; obtain ⟨hfz8_0, hfz8_1, hfz8_2, hfz8_3, hfz8_4⟩ := bf5 BK685.out))
  refine bodyPost_ret (results_tc rfl _ _ gb685 42 #[.bool t687, .bool t688, .bool t689, .bool t690, .bool t691] (0, 0) _ rfl (by (with_reducible repeat first | apply bd | apply be | apply ba); refine blk_put (cs := q5_ t687 t688 t689 t690 false) ?_ 4 _ rfl; (with_reducible repeat first | apply bd | apply be | apply ba); refine blk_put (cs := q5_ t687 t688 t689 false false) ?_ 3 _ rfl; (with_reducible repeat first | apply bd | apply be | apply ba); refine blk_put (cs := q5_ t687 t688 false false false) ?_ 2 _ rfl; (with_reducible repeat first | apply bd | apply be | apply ba); refine blk_put (cs := q5_ t687 false false false false) ?_ 1 _ rfl; (with_reducible repeat first | apply bd | apply be | apply ba); refine blk_put (cs := F5) ?_ 0 _ rfl; (with_reducible repeat first | apply bd | apply be | apply ba); exact BK685.out) Tryz.underlying42 rfl (by kernel_rfl)) rfl ?_
  exact ⟨by first | rfl | (simp [aP, aQ] <;> rfl) | (simp [*, aP, aQ] <;> rfl), bl1 HB.out GE685.out⟩
 ·rw [if_neg c4] at H
  have c4b0 : decide (a2 < 0) = false := decide_eq_false c4
  clear c4
  replace H := bq_ H
  obtain ⟨⟨t692, t693, t694, t695, t696, t697⟩, A90, H⟩ := H
  replace H : (some (t692, t693, t694, t695, t696, t697)) = some (r1, r2, r3, r4, r5, r6) := H
  have A9 := Aside0.mk A90
  clear A90
  simp only [Option.some.injEq, Prod.mk.injEq] at H
  obtain ⟨rfl, rfl, rfl, rfl, rfl, rfl⟩ := H
  go_enter Tryz.func24, Tryz.ntmps24
  go_wp2_with (first | ((with_reducible refine gate_dst (N := 7) rfl ?_); refine box_event ?hg (N := 7) ?hd (cs := F5) (t := 42) ?hr ?_; (case hd => rfl); (case hg => rfl); (case hr => first | (go_simp; done) | (go_simp; rfl)); intro gb685 hg w10 hbox hb; have n0_ := Aside0.mk (below_step (bl0 HB.out) hb); have n1_ := Aside0.mk (hbox); have n2_ := Aside0.mk ((by rw [hg]; exact (below_size (bl0 HB.out)) : w.heap.size ≤ gb685)); have n3_ := n2_; clear HB; have HB := n0_; have BK685 := n1_; have GW685 := n2_; have GE685 := n3_; clear n0_ n1_ n2_ n3_; clear hb hbox hg) | ((with_reducible refine gate_callee (f := 57) rfl ?_); refine goesL_ (some 22) rfl rfl Tryz.func57 (by kernel_rfl) rfl #[.int .i64 a0, .int .i64 a1, .bool false, .int .i64 0, .int .u64 (IntKind.u64.wrap (a2)), .bool false] rfl gl ?_; (with_reducible refine (aA.calls k a0 a1 false 0 (IntKind.u64.wrap (a2)) false t692 t693 t694 t695 t696 t697 _ A9.out).mono ?_); rintro e w11 ⟨rfl, hb⟩; refine ⟨_, rfl, ?_⟩; have n0_ := Aside0.mk (blk_below (g := gb685) (o := o5_ false false false false false 42) (bv BK685.out) hb); have n1_ := Aside0.mk (below_step (bl1 HB.out GE685.out) hb); clear BK685; clear HB; have BK685 := n0_; have HB := n1_; clear n0_ n1_; obtain ⟨hcz12_0, hcz12_1, hcz12_2, hcz12_3, hcz12_4⟩ := bc5 BK685.out; obtain ⟨hfz12_0, hfz12_1, hfz12_2, hfz12_3, hfz12_4⟩ := bf5 BK685.out))
  refine bodyPost_ret (results_tc rfl _ _ gb685 42 #[.bool t693, .bool t694, .bool t695, .bool t696, .bool t697] (0, 0) _ rfl (by (with_reducible repeat first | apply bd | apply be | apply ba); refine blk_put (cs := q5_ t693 t694 t695 t696 false) ?_ 4 _ rfl; (with_reducible repeat first | apply bd | apply be | apply ba); refine blk_put (cs := q5_ t693 t694 t695 false false) ?_ 3 _ rfl; (with_reducible repeat first | apply bd | apply be | apply ba); refine blk_put (cs := q5_ t693 t694 false false false) ?_ 2 _ rfl; (with_reducible repeat first | apply bd | apply be | apply ba); refine blk_put (cs := q5_ t693 false false false false) ?_ 1 _ rfl; (with_reducible repeat first | apply bd | apply be | apply ba); refine blk_put (cs := F5) ?_ 0 _ rfl; (with_reducible repeat first | apply bd | apply be | apply ba); exact BK685.out) Tryz.underlying42 rfl (by kernel_rfl)) rfl ?_
  exact ⟨by first | rfl | (simp [aP, aQ] <;> rfl) | (simp [*, aP, aQ] <;> rfl), bl1 HB.out GE685.out⟩

-- NEED 1
/-! ### bQ: function 14 -/
def bQ.f (k : Nat) (a0 : Int) : Option (Int) := (gB.f k 2 0 a0).bind fun bt698 => (some bt698.1)
theorem bQ.calls (k : Nat) (a0 r : Int) (w : World) (h : bQ.f k a0 = some r) :
  Calls Tryz.prog 14 #[.int .i64 a0] w fun e w' => e = .returned (.int .u32 r) ∧ Below w.heap.size w w' := by
 have hu42 := Tryz.underlying42
 have HB := Aside0.mk (Below.refl w.heap.size w)
 have H : ((gB.f k 2 0 a0).bind fun bt698 => (some bt698.1)) = some r := h
 clear h
 replace H := bq_ H
 obtain ⟨⟨t698, t699, t700, t701, t702, t703⟩, A20, H⟩ := H
 replace H : (some t698) = some r := H
 have A2 := Aside0.mk A20
 clear A20
 obtain rfl := Option.some.inj H
 go_enter Tryz.func14, Tryz.ntmps14
 go_wp2_with (first | ((with_reducible refine gate_callee (f := 24) rfl ?_); refine goesL_ (some 7) rfl rfl Tryz.func24 (by kernel_rfl) rfl #[.int .i64 2, .int .i64 0, .int .i64 a0] rfl gl ?_; (with_reducible refine (gB.calls k 2 0 a0 t698 t699 t700 t701 t702 t703 _ A2.out).mono ?_); rintro e w3 ⟨rfl, hb⟩; refine ⟨_, rfl, ?_⟩; have n0_ := Aside0.mk (below_step (bl0 HB.out) hb); clear HB; have HB := n0_; clear n0_) | ((with_reducible refine gate_dst (N := 4) rfl ?_); refine box_event ?hg (N := 4) ?hd (cs := F5) (t := 42) ?hr ?_; (case hd => rfl); (case hg => rfl); (case hr => first | (go_simp; done) | (go_simp; rfl)); intro gb704 hg w4 hbox hb; have n0_ := Aside0.mk (below_step (bl0 HB.out) hb); have n1_ := Aside0.mk (hbox); have n2_ := Aside0.mk ((by rw [hg]; exact (below_size (bl0 HB.out)) : w.heap.size ≤ gb704)); have n3_ := n2_; clear HB; have HB := n0_; have BK704 := n1_; have GW704 := n2_; have GE704 := n3_; clear n0_ n1_ n2_ n3_; clear hb hbox hg; obtain ⟨hcz5_0, hcz5_1, hcz5_2, hcz5_3, hcz5_4⟩ := bc5 BK704.out; obtain ⟨hfz5_0, hfz5_1, hfz5_2, hfz5_3, hfz5_4⟩ := bf5 BK704.out))
 go_ret
 exact ⟨by first | rfl | (simp [aP, aQ] <;> rfl) | (simp [*, aP, aQ] <;> rfl), bl1 HB.out GE704.out⟩

-- NEED 1
/-! ### aG: function 25 -/
mutual
def aG.j0 : Nat → Int → Int → Int → Int → Bool → Bool → Option (Int × Bool × Bool × Bool × Bool × Bool)
 |0, _, _, _, _, _, _ => none
 |k + 1, x0, x1, x2, x3, x12, x56 => if x56 = true then ((bN.f x0).bind fun t720 => (some (t720, true, false, false, false, false))) else ((aI.f k x0 x2).bind fun t721 => (if t721 = true then (aG.j1 k x0 x1 x2 x3 x12 true) else ((aI.f k x0 x3).bind fun t722 => (aG.j1 k x0 x1 x2 x3 x12 t722))))
def aG.j1 : Nat → Int → Int → Int → Int → Bool → Bool → Option (Int × Bool × Bool × Bool × Bool × Bool)
 |0, _, _, _, _, _, _ => none
 |k + 1, x0, x1, x2, x3, x12, x67 => if x67 = true then ((bD.f x0 x12).bind fun t723 => (some (t723, false, false, false, false, false))) else ((aN.f k x0 x2).bind fun bt724 => ((aN.f k x0 x3).bind fun bt727 => ((aA.f k x0 x1 x12 (wrap64 (bt724.2.1 + bt727.2.1)) (IntKind.u64.wrap (bt724.2.2 * bt727.2.2)) false).bind fun bt730 => (some (bt730.1, bt730.2.1, bt730.2.2.1, bt730.2.2.2.1, bt730.2.2.2.2.1, bt730.2.2.2.2.2)))))
end
def aG.f (k : Nat) (a0 a1 : Int) (a2 a3 : Int) : Option (Int × Bool × Bool × Bool × Bool × Bool) := (aD.f k a0 (([a2, a3] : List Int))).bind fun bt709 => (if bt709.1 = true then ((bN.f a0).bind fun t711 => (some (t711, bt709.2, false, false, false, false))) else ((bG.f a0 a2).bind fun t712 => ((bG.f a0 a3).bind fun t713 => ((aM.f k a0 a2).bind fun t714 => (if t714 = true then ((aI.f k a0 a3).bind fun t715 => (if t715 = true then (aG.j0 k a0 a1 a2 a3 (t712 != t713) true) else ((aI.f k a0 a2).bind fun t716 => (if t716 = true then ((aM.f k a0 a3).bind fun t717 => (aG.j0 k a0 a1 a2 a3 (t712 != t713) t717)) else (aG.j0 k a0 a1 a2 a3 (t712 != t713) false))))) else ((aI.f k a0 a2).bind fun t718 => (if t718 = true then ((aM.f k a0 a3).bind fun t719 => (aG.j0 k a0 a1 a2 a3 (t712 != t713) t719)) else (aG.j0 k a0 a1 a2 a3 (t712 != t713) false))))))))
/- What the reckoner tells of printed functions. -/
set_option maxRecDepth 100000
theorem aB.nS {k n : Nat} (hk : k ≤ n) {x0 x1 : Int} {x2 : Bool} {x3 x4 : Int} {x15 x17 : Int} {x18 x19 : Int} {ex9 ex10 : Bool} {ex11 ex12 ex13 : Bool} : LeO (aB.j3 k x0 x1 x2 x3 x4 x15 x17 x18 x19) (L.aB.j14 n x19 x18 x17 x15 x4 x3 x2 x1 x0 ex9 ex10 ex11 ex12 ex13) := by
 cases k with
 |zero => rw [aB.j3]; exact LeO.none _
 |succ k =>
 replace hk := Nat.le_of_succ_le hk
 rw [aB.j3, L.aB.aBK]
 repeat' first
  |(with_reducible exact LeO.refl _)
  |exact LeO.none _
  |(with_reducible first|exact fun r h => at_rounds (dN.mono _ _ _) hk h|exact fun r h => at_rounds (dC.mono _ _ _) hk h|exact bZ.le hk|exact fun r h => at_rounds (bits_Len.mono _) hk h|refine LeO.bind ?_ (fun _ => ?_)|refine LeO.iU Iff.rfl (fun _ => ?_) (fun _ => ?_))
  |exact fun r h => at_rounds (dN.mono _ _ _) hk h
  |exact fun r h => at_rounds (dC.mono _ _ _) hk h
  |exact bZ.le hk
  |exact fun r h => at_rounds (bits_Len.mono _) hk h
  |exact LeO.refl _
  |(with_reducible first|refine LeO.pos (by assumption) ?_|refine LeO.neg (by assumption) ?_|refine LeO.mX (by assumption) ?_|refine LeO.mZ (by assumption) ?_|refine LeO.iU (by omega) (fun _ => ?_) (fun _ => ?_))
theorem aB.kI {k n : Nat} (hk : k ≤ n) {x0 x1 : Int} {x2 : Bool} {x3 x4 : Int} {x15 x16 : Int} {x17 x18 : Int} {ex9 ex10 : Bool} {ex11 ex12 ex13 : Bool} : LeO (aB.j2 k x0 x1 x2 x3 x4 x15 x16 x17 x18) (L.aB.j11 n x18 x17 x16 x15 x4 x3 x2 x1 x0 ex9 ex10 ex11 ex12 ex13) := by
 cases k with
 |zero => rw [aB.j2]; exact LeO.none _
 |succ k =>
 replace hk := Nat.le_of_succ_le hk
 rw [aB.j2, L.aB.wM]
 repeat' first
  |(with_reducible exact LeO.refl _)
  |exact LeO.none _
  |(with_reducible first|exact aB.nS hk|exact fun r h => at_rounds (dN.mono _ _ _) hk h|exact fun r h => at_rounds (dC.mono _ _ _) hk h|exact bZ.le hk|exact fun r h => at_rounds (bits_Len.mono _) hk h|refine LeO.bind ?_ (fun _ => ?_)|refine LeO.iU Iff.rfl (fun _ => ?_) (fun _ => ?_))
  |exact aB.nS hk
  |exact fun r h => at_rounds (dN.mono _ _ _) hk h
  |exact fun r h => at_rounds (dC.mono _ _ _) hk h
  |exact bZ.le hk
  |exact fun r h => at_rounds (bits_Len.mono _) hk h
  |exact LeO.refl _
  |(with_reducible first|refine LeO.pos (by assumption) ?_|refine LeO.neg (by assumption) ?_|refine LeO.mX (by assumption) ?_|refine LeO.mZ (by assumption) ?_|refine LeO.iU (by omega) (fun _ => ?_) (fun _ => ?_))
theorem aB.iM {k n : Nat} (hk : k ≤ n) {x0 x1 : Int} {x2 : Bool} {x3 x4 : Int} {x15 x16 : Int} {x17 x18 : Int} {ex9 ex10 : Bool} {ex11 ex12 ex13 : Bool} : LeO (aB.j1 k x0 x1 x2 x3 x4 x15 x16 x17 x18) (L.aB.j9 n x18 x17 x16 x15 x4 x3 x2 x1 x0 ex9 ex10 ex11 ex12 ex13) := by
 cases k with
 |zero => rw [aB.j1]; exact LeO.none _
 |succ k =>
 replace hk := Nat.le_of_succ_le hk
 rw [aB.j1, L.aB.j9_eq]
 repeat' first
  |(with_reducible exact LeO.refl _)
  |exact LeO.none _
  |(with_reducible first|exact aB.nS hk|exact aB.kI hk|exact fun r h => at_rounds (dN.mono _ _ _) hk h|exact fun r h => at_rounds (dC.mono _ _ _) hk h|exact bZ.le hk|exact fun r h => at_rounds (bits_Len.mono _) hk h|refine LeO.bind ?_ (fun _ => ?_)|refine LeO.iU Iff.rfl (fun _ => ?_) (fun _ => ?_))
  |exact aB.nS hk
  |exact aB.kI hk
  |exact fun r h => at_rounds (dN.mono _ _ _) hk h
  |exact fun r h => at_rounds (dC.mono _ _ _) hk h
  |exact bZ.le hk
  |exact fun r h => at_rounds (bits_Len.mono _) hk h
  |exact LeO.refl _
  |(with_reducible first|refine LeO.pos (by assumption) ?_|refine LeO.neg (by assumption) ?_|refine LeO.mX (by assumption) ?_|refine LeO.mZ (by assumption) ?_|refine LeO.iU (by omega) (fun _ => ?_) (fun _ => ?_))
theorem aB.kT {k n : Nat} (hk : k ≤ n) {x0 x1 : Int} {x2 : Bool} {x3 x4 : Int} {x5 x29 : Bool} {ex7 ex8 : Bool} {ex9 ex10 ex11 : Bool} : LeO (aB.j0 k x0 x1 x2 x3 x4 x5 x29) (L.aB.j3 n x29 x5 x4 x3 x2 x1 x0 ex7 ex8 ex9 ex10 ex11) := by
 cases k with
 |zero => rw [aB.j0]; exact LeO.none _
 |succ k =>
 replace hk := Nat.le_of_succ_le hk
 rw [aB.j0, L.aB.j3_eq]
 repeat' first
  |(with_reducible exact LeO.refl _)
  |exact LeO.none _
  |(with_reducible first|exact aB.nS hk|exact aB.kI hk|exact aB.iM hk|exact fun r h => at_rounds (dN.mono _ _ _) hk h|exact fun r h => at_rounds (dC.mono _ _ _) hk h|exact bZ.le hk|exact fun r h => at_rounds (bits_Len.mono _) hk h|refine LeO.bind ?_ (fun _ => ?_)|refine LeO.iU Iff.rfl (fun _ => ?_) (fun _ => ?_))
  |exact aB.nS hk
  |exact aB.kI hk
  |exact aB.iM hk
  |exact fun r h => at_rounds (dN.mono _ _ _) hk h
  |exact fun r h => at_rounds (dC.mono _ _ _) hk h
  |exact bZ.le hk
  |exact fun r h => at_rounds (bits_Len.mono _) hk h
  |exact LeO.refl _
  |(with_reducible first|refine LeO.pos (by assumption) ?_|refine LeO.neg (by assumption) ?_|refine LeO.mX (by assumption) ?_|refine LeO.mZ (by assumption) ?_|refine LeO.iU (by omega) (fun _ => ?_) (fun _ => ?_))
set_option maxHeartbeats 4000000 in
theorem aB.le {k n : Nat} (hk : k ≤ n) {a0 a1 : Int} {a2 : Bool} {a3 a4 : Int} {a5 : Bool} : LeO (aB.f k a0 a1 a2 a3 a4 a5) (L.aB.f n a0 a1 a2 a3 a4 a5) := by
 unfold aB.f
 rw [L.aB.eq]
 try simp only [Bool.and_true]
 repeat' first
  |(with_reducible exact LeO.refl _)
  |exact LeO.none _
  |(with_reducible first|exact aB.nS hk|exact aB.kI hk|exact aB.iM hk|exact aB.kT hk|exact fun r h => at_rounds (dN.mono _ _ _) hk h|exact fun r h => at_rounds (dC.mono _ _ _) hk h|exact bZ.le hk|exact fun r h => at_rounds (bits_Len.mono _) hk h|refine LeO.bind ?_ (fun _ => ?_)|refine LeO.iU Iff.rfl (fun _ => ?_) (fun _ => ?_))
  |exact aB.nS hk
  |exact aB.kI hk
  |exact aB.iM hk
  |exact aB.kT hk
  |exact fun r h => at_rounds (dN.mono _ _ _) hk h
  |exact fun r h => at_rounds (dC.mono _ _ _) hk h
  |exact bZ.le hk
  |exact fun r h => at_rounds (bits_Len.mono _) hk h
  |exact LeO.refl _
  |(with_reducible first|refine LeO.pos (by assumption) ?_|refine LeO.neg (by assumption) ?_|refine LeO.mX (by assumption) ?_|refine LeO.mZ (by assumption) ?_|refine LeO.iU (by omega) (fun _ => ?_) (fun _ => ?_))
theorem aB.calls (k : Nat) (a0 a1 : Int) (a2 : Bool) (a3 a4 : Int) (a5 : Bool) (r1 : Int) (r2 r3 : Bool) (r4 r5 r6 : Bool) (w : World) (h : aB.f k a0 a1 a2 a3 a4 a5 = some (r1, r2, r3, r4, r5, r6)) :
  Calls Tryz.prog 41 #[.int .i64 a0, .int .i64 a1, .bool a2, .int .i64 a3, .int .u64 a4, .bool a5] w fun e w' => e = .returned (.tuple #[.int .u32 r1, .agg #[.bool r2, .bool r3, .bool r4, .bool r5, .bool r6]]) ∧ Below w.heap.size w w' :=
 Go.Proofs.YtjlgmfgjleajfaaGreat.Ek.jQ L.aB.ok k ((a0, ()), (a1, ()), (a2, ()), (a3, ()), (a4, ()), (a5, ()), ()) (r1, r2, r3, r4, r5, r6) rfl (aB.le (Nat.le_refl _) _ h) w
theorem aC.wF {k m n : Nat} (hm : k ≤ m) (hk : k ≤ n) {x0 x1 : Int} {x12 : Bool} {x14 x15 : Int} {x17 x18 : Int} {ex7 ex8 : Bool} {ex9 ex10 ex11 : Bool} : LeO (aC.l1 k x0 x1 x12 x14 x15 x17 x18) (L.aC.l17 m n x18 x17 x15 x14 x12 x1 x0 ex7 ex8 ex9 ex10 ex11) := by
 induction k generalizing m x0 x1 x12 x14 x15 x17 x18 with
 |zero => rw [aC.l1]; exact LeO.none _
 |succ k ih =>
 obtain ⟨m, rfl⟩ : ∃ q, m = q + 1 := ⟨m - 1, by omega⟩
 replace hm := Nat.le_of_succ_le_succ hm
 replace hk := Nat.le_of_succ_le hk
 rw [aC.l1, L.aC.l17_eq]
 repeat' first
  |(with_reducible exact LeO.refl _)
  |exact LeO.none _
  |(with_reducible first|exact ih hm hk|exact fun r h => at_rounds (aD.mono _ _) hk h|exact fun r h => at_rounds (aM.mono _ _) hk h|exact fun r h => at_rounds (aI.mono _ _) hk h|exact fun r h => at_rounds (aN.mono _ _) hk h|exact aA.le hk|refine LeO.bind ?_ (fun _ => ?_)|refine LeO.iU Iff.rfl (fun _ => ?_) (fun _ => ?_))
  |exact ih hm hk
  |exact fun r h => at_rounds (aD.mono _ _) hk h
  |exact fun r h => at_rounds (aM.mono _ _) hk h
  |exact fun r h => at_rounds (aI.mono _ _) hk h
  |exact fun r h => at_rounds (aN.mono _ _) hk h
  |exact aA.le hk
  |exact LeO.refl _
  |(with_reducible first|refine LeO.pos (by assumption) ?_|refine LeO.neg (by assumption) ?_|refine LeO.mX (by assumption) ?_|refine LeO.mZ (by assumption) ?_|refine LeO.iU (by omega) (fun _ => ?_) (fun _ => ?_))
theorem aC.aAS {k m n : Nat} (hm : k ≤ m) (hk : k ≤ n) {x0 x1 : Int} {x12 : Bool} {x14 x15 : Int} {x17 x18 : Int} {ex7 ex8 : Bool} {ex9 ex10 ex11 : Bool} : LeO (aC.l0 k x0 x1 x12 x14 x15 x17 x18) (L.aC.l15 m n x18 x17 x15 x14 x12 x1 x0 ex7 ex8 ex9 ex10 ex11) := by
 induction k generalizing m x0 x1 x12 x14 x15 x17 x18 with
 |zero => rw [aC.l0]; exact LeO.none _
 |succ k ih =>
 obtain ⟨m, rfl⟩ : ∃ q, m = q + 1 := ⟨m - 1, by omega⟩
 replace hm := Nat.le_of_succ_le_succ hm
 replace hk := Nat.le_of_succ_le hk
 rw [aC.l0, L.aC.l15_eq]
 repeat' first
  |(with_reducible exact LeO.refl _)
  |exact LeO.none _
  |(with_reducible first|exact ih hm hk|exact aC.wF hk hk|exact fun r h => at_rounds (aD.mono _ _) hk h|exact fun r h => at_rounds (aM.mono _ _) hk h|exact fun r h => at_rounds (aI.mono _ _) hk h|exact fun r h => at_rounds (aN.mono _ _) hk h|exact aA.le hk|refine LeO.bind ?_ (fun _ => ?_)|refine LeO.iU Iff.rfl (fun _ => ?_) (fun _ => ?_))
  |exact ih hm hk
  |exact aC.wF hk hk
  |exact fun r h => at_rounds (aD.mono _ _) hk h
  |exact fun r h => at_rounds (aM.mono _ _) hk h
  |exact fun r h => at_rounds (aI.mono _ _) hk h
  |exact fun r h => at_rounds (aN.mono _ _) hk h
  |exact aA.le hk
  |exact LeO.refl _
  |(with_reducible first|refine LeO.pos (by assumption) ?_|refine LeO.neg (by assumption) ?_|refine LeO.mX (by assumption) ?_|refine LeO.mZ (by assumption) ?_|refine LeO.iU (by omega) (fun _ => ?_) (fun _ => ?_))
theorem aC.iM {k n : Nat} (hk : k ≤ n) {x0 x1 : Int} {x2 x3 : Int} {x12 x69 : Bool} {ex6 ex7 : Bool} {ex8 ex9 ex10 : Bool} : LeO (aC.j1 k x0 x1 x2 x3 x12 x69) (L.aC.j10 n x69 x12 x3 x2 x1 x0 ex6 ex7 ex8 ex9 ex10) := by
 cases k with
 |zero => rw [aC.j1]; exact LeO.none _
 |succ k =>
 replace hk := Nat.le_of_succ_le hk
 rw [aC.j1, L.aC.wX]
 repeat' first
  |(with_reducible exact LeO.refl _)
  |exact LeO.none _
  |(with_reducible first|exact aC.wF hk hk|exact aC.aAS hk hk|exact fun r h => at_rounds (aD.mono _ _) hk h|exact fun r h => at_rounds (aM.mono _ _) hk h|exact fun r h => at_rounds (aI.mono _ _) hk h|exact fun r h => at_rounds (aN.mono _ _) hk h|exact aA.le hk|refine LeO.bind ?_ (fun _ => ?_)|refine LeO.iU Iff.rfl (fun _ => ?_) (fun _ => ?_))
  |exact aC.wF hk hk
  |exact aC.aAS hk hk
  |exact fun r h => at_rounds (aD.mono _ _) hk h
  |exact fun r h => at_rounds (aM.mono _ _) hk h
  |exact fun r h => at_rounds (aI.mono _ _) hk h
  |exact fun r h => at_rounds (aN.mono _ _) hk h
  |exact aA.le hk
  |exact LeO.refl _
  |(with_reducible first|refine LeO.pos (by assumption) ?_|refine LeO.neg (by assumption) ?_|refine LeO.mX (by assumption) ?_|refine LeO.mZ (by assumption) ?_|refine LeO.iU (by omega) (fun _ => ?_) (fun _ => ?_))
theorem aC.kT {k n : Nat} (hk : k ≤ n) {x0 x1 : Int} {x2 x3 : Int} {x12 x39 : Bool} {ex6 ex7 : Bool} {ex8 ex9 ex10 : Bool} : LeO (aC.j0 k x0 x1 x2 x3 x12 x39) (L.aC.j6 n x39 x12 x3 x2 x1 x0 ex6 ex7 ex8 ex9 ex10) := by
 cases k with
 |zero => rw [aC.j0]; exact LeO.none _
 |succ k =>
 replace hk := Nat.le_of_succ_le hk
 rw [aC.j0, L.aC.yC]
 repeat' first
  |(with_reducible exact LeO.refl _)
  |exact LeO.none _
  |(with_reducible first|exact aC.wF hk hk|exact aC.aAS hk hk|exact aC.iM hk|exact fun r h => at_rounds (aD.mono _ _) hk h|exact fun r h => at_rounds (aM.mono _ _) hk h|exact fun r h => at_rounds (aI.mono _ _) hk h|exact fun r h => at_rounds (aN.mono _ _) hk h|exact aA.le hk|refine LeO.bind ?_ (fun _ => ?_)|refine LeO.iU Iff.rfl (fun _ => ?_) (fun _ => ?_))
  |exact aC.wF hk hk
  |exact aC.aAS hk hk
  |exact aC.iM hk
  |exact fun r h => at_rounds (aD.mono _ _) hk h
  |exact fun r h => at_rounds (aM.mono _ _) hk h
  |exact fun r h => at_rounds (aI.mono _ _) hk h
  |exact fun r h => at_rounds (aN.mono _ _) hk h
  |exact aA.le hk
  |exact LeO.refl _
  |(with_reducible first|refine LeO.pos (by assumption) ?_|refine LeO.neg (by assumption) ?_|refine LeO.mX (by assumption) ?_|refine LeO.mZ (by assumption) ?_|refine LeO.iU (by omega) (fun _ => ?_) (fun _ => ?_))
set_option maxHeartbeats 4000000 in
theorem aC.le {k n : Nat} (hk : k ≤ n) {a0 a1 : Int} {a2 a3 : Int} : LeO (aC.f k a0 a1 a2 a3) (L.aC.f n a0 a1 a2 a3) := by
 unfold aC.f
 rw [L.aC.eq]
 try simp only [Bool.and_true]
 repeat' first
  |(with_reducible exact LeO.refl _)
  |exact LeO.none _
  |(with_reducible first|exact aC.wF hk hk|exact aC.aAS hk hk|exact aC.iM hk|exact aC.kT hk|exact fun r h => at_rounds (aD.mono _ _) hk h|exact fun r h => at_rounds (aM.mono _ _) hk h|exact fun r h => at_rounds (aI.mono _ _) hk h|exact fun r h => at_rounds (aN.mono _ _) hk h|exact aA.le hk|refine LeO.bind ?_ (fun _ => ?_)|refine LeO.iU Iff.rfl (fun _ => ?_) (fun _ => ?_))
  |exact aC.wF hk hk
  |exact aC.aAS hk hk
  |exact aC.iM hk
  |exact aC.kT hk
  |exact fun r h => at_rounds (aD.mono _ _) hk h
  |exact fun r h => at_rounds (aM.mono _ _) hk h
  |exact fun r h => at_rounds (aI.mono _ _) hk h
  |exact fun r h => at_rounds (aN.mono _ _) hk h
  |exact aA.le hk
  |exact LeO.refl _
  |(with_reducible first|refine LeO.pos (by assumption) ?_|refine LeO.neg (by assumption) ?_|refine LeO.mX (by assumption) ?_|refine LeO.mZ (by assumption) ?_|refine LeO.iU (by omega) (fun _ => ?_) (fun _ => ?_))
theorem aC.calls (k : Nat) (a0 a1 : Int) (a2 a3 r1 : Int) (r2 r3 : Bool) (r4 r5 r6 : Bool) (w : World) (h : aC.f k a0 a1 a2 a3 = some (r1, r2, r3, r4, r5, r6)) :
  Calls Tryz.prog 23 #[.int .i64 a0, .int .i64 a1, .int .u32 a2, .int .u32 a3] w fun e w' => e = .returned (.tuple #[.int .u32 r1, .agg #[.bool r2, .bool r3, .bool r4, .bool r5, .bool r6]]) ∧ Below w.heap.size w w' :=
 Go.Proofs.YtjlgmfgjleajfaaGreat.Ek.jQ L.aC.ok k ((a0, ()), (a1, ()), (a2, ()), (a3, ()), ()) (r1, r2, r3, r4, r5, r6) rfl (aC.le (Nat.le_refl _) _ h) w
theorem aG.iM {k n : Nat} (hk : k ≤ n) {x0 x1 : Int} {x2 x3 : Int} {x12 x67 : Bool} {ex6 ex7 : Bool} {ex8 ex9 ex10 : Bool} : LeO (aG.j1 k x0 x1 x2 x3 x12 x67) (L.aG.j8 n x67 x12 x3 x2 x1 x0 ex6 ex7 ex8 ex9 ex10) := by
 cases k with
 |zero => rw [aG.j1]; exact LeO.none _
 |succ k =>
 replace hk := Nat.le_of_succ_le hk
 rw [aG.j1, L.aG.aCg]
 repeat' first
  |(with_reducible exact LeO.refl _)
  |exact LeO.none _
  |(with_reducible first|exact fun r h => at_rounds (aD.mono _ _) hk h|exact fun r h => at_rounds (aM.mono _ _) hk h|exact fun r h => at_rounds (aI.mono _ _) hk h|exact fun r h => at_rounds (aN.mono _ _) hk h|exact aA.le hk|refine LeO.bind ?_ (fun _ => ?_)|refine LeO.iU Iff.rfl (fun _ => ?_) (fun _ => ?_))
  |exact fun r h => at_rounds (aD.mono _ _) hk h
  |exact fun r h => at_rounds (aM.mono _ _) hk h
  |exact fun r h => at_rounds (aI.mono _ _) hk h
  |exact fun r h => at_rounds (aN.mono _ _) hk h
  |exact aA.le hk
  |exact LeO.refl _
  |(with_reducible first|refine LeO.pos (by assumption) ?_|refine LeO.neg (by assumption) ?_|refine LeO.mX (by assumption) ?_|refine LeO.mZ (by assumption) ?_|refine LeO.iU (by omega) (fun _ => ?_) (fun _ => ?_))
theorem aG.kT {k n : Nat} (hk : k ≤ n) {x0 x1 : Int} {x2 x3 : Int} {x12 x56 : Bool} {ex6 ex7 : Bool} {ex8 ex9 ex10 : Bool} : LeO (aG.j0 k x0 x1 x2 x3 x12 x56) (L.aG.j6 n x56 x12 x3 x2 x1 x0 ex6 ex7 ex8 ex9 ex10) := by
 cases k with
 |zero => rw [aG.j0]; exact LeO.none _
 |succ k =>
 replace hk := Nat.le_of_succ_le hk
 rw [aG.j0, L.aG.yC]
 repeat' first
  |(with_reducible exact LeO.refl _)
  |exact LeO.none _
  |(with_reducible first|exact aG.iM hk|exact fun r h => at_rounds (aD.mono _ _) hk h|exact fun r h => at_rounds (aM.mono _ _) hk h|exact fun r h => at_rounds (aI.mono _ _) hk h|exact fun r h => at_rounds (aN.mono _ _) hk h|exact aA.le hk|refine LeO.bind ?_ (fun _ => ?_)|refine LeO.iU Iff.rfl (fun _ => ?_) (fun _ => ?_))
  |exact aG.iM hk
  |exact fun r h => at_rounds (aD.mono _ _) hk h
  |exact fun r h => at_rounds (aM.mono _ _) hk h
  |exact fun r h => at_rounds (aI.mono _ _) hk h
  |exact fun r h => at_rounds (aN.mono _ _) hk h
  |exact aA.le hk
  |exact LeO.refl _
  |(with_reducible first|refine LeO.pos (by assumption) ?_|refine LeO.neg (by assumption) ?_|refine LeO.mX (by assumption) ?_|refine LeO.mZ (by assumption) ?_|refine LeO.iU (by omega) (fun _ => ?_) (fun _ => ?_))
set_option maxHeartbeats 4000000 in
theorem aG.le {k n : Nat} (hk : k ≤ n) {a0 a1 : Int} {a2 a3 : Int} : LeO (aG.f k a0 a1 a2 a3) (L.aG.f n a0 a1 a2 a3) := by
 unfold aG.f
 rw [L.aG.eq]
 try simp only [Bool.and_true]
 repeat' first
  |(with_reducible exact LeO.refl _)
  |exact LeO.none _
  |(with_reducible first|exact aG.iM hk|exact aG.kT hk|exact fun r h => at_rounds (aD.mono _ _) hk h|exact fun r h => at_rounds (aM.mono _ _) hk h|exact fun r h => at_rounds (aI.mono _ _) hk h|exact fun r h => at_rounds (aN.mono _ _) hk h|exact aA.le hk|refine LeO.bind ?_ (fun _ => ?_)|refine LeO.iU Iff.rfl (fun _ => ?_) (fun _ => ?_))
  |exact aG.iM hk
  |exact aG.kT hk
  |exact fun r h => at_rounds (aD.mono _ _) hk h
  |exact fun r h => at_rounds (aM.mono _ _) hk h
  |exact fun r h => at_rounds (aI.mono _ _) hk h
  |exact fun r h => at_rounds (aN.mono _ _) hk h
  |exact aA.le hk
  |exact LeO.refl _
  |(with_reducible first|refine LeO.pos (by assumption) ?_|refine LeO.neg (by assumption) ?_|refine LeO.mX (by assumption) ?_|refine LeO.mZ (by assumption) ?_|refine LeO.iU (by omega) (fun _ => ?_) (fun _ => ?_))
theorem aG.calls (k : Nat) (a0 a1 : Int) (a2 a3 r1 : Int) (r2 r3 : Bool) (r4 r5 r6 : Bool) (w : World) (h : aG.f k a0 a1 a2 a3 = some (r1, r2, r3, r4, r5, r6)) :
  Calls Tryz.prog 25 #[.int .i64 a0, .int .i64 a1, .int .u32 a2, .int .u32 a3] w fun e w' => e = .returned (.tuple #[.int .u32 r1, .agg #[.bool r2, .bool r3, .bool r4, .bool r5, .bool r6]]) ∧ Below w.heap.size w w' :=
 Go.Proofs.YtjlgmfgjleajfaaGreat.Ek.jQ L.aG.ok k ((a0, ()), (a1, ()), (a2, ()), (a3, ()), ()) (r1, r2, r3, r4, r5, r6) rfl (aG.le (Nat.le_refl _) _ h) w

-- NEED 2
/-! ### fE: function 20 -/
def fE.f (k : Nat) (a0 a1 a2 : Int) : Option (Int × Bool × Bool × Bool × Bool × Bool) := (iL.f a2).bind fun t244 => ((aB.f k a0 a1 (decide (a2 < 0)) 0 t244 false).bind fun bt245 => (some (bt245.1, bt245.2.1, bt245.2.2.1, bt245.2.2.2.1, bt245.2.2.2.2.1, bt245.2.2.2.2.2)))
theorem fE.mono : ∀ a0 a1 a2 k, LeO (fE.f k a0 a1 a2) (fE.f (k + 1) a0 a1 a2) := by
 intro a0 a1 a2 k
 unfold fE.f
 repeat' first
   |(with_reducible first|exact aB.mono _ _ _ _ _ _ _|exact LeO.refl _|exact LeO.none _|refine LeO.ite ?_ ?_|refine LeO.bind ?_ (fun _ => ?_))
   |exact aB.mono _ _ _ _ _ _ _
   |exact LeO.none _
   |refine LeO.ite ?_ ?_
   |refine LeO.bind ?_ (fun _ => ?_)
theorem fE.calls (k : Nat) (a0 a1 : Int) (a2 r1 : Int) (r2 r3 : Bool) (r4 r5 r6 : Bool) (w : World) (h : fE.f k a0 a1 a2 = some (r1, r2, r3, r4, r5, r6)) :
  Calls Tryz.prog 20 #[.int .i64 a0, .int .i64 a1, .int .i64 a2] w fun e w' => e = .returned (.tuple #[.int .u32 r1, .agg #[.bool r2, .bool r3, .bool r4, .bool r5, .bool r6]]) ∧ Below w.heap.size w w' := by
 have hu42 := Tryz.underlying42
 have HB := Aside0.mk (Below.refl w.heap.size w)
 have H : ((iL.f a2).bind fun t244 => ((aB.f k a0 a1 (decide (a2 < 0)) 0 t244 false).bind fun bt245 => (some (bt245.1, bt245.2.1, bt245.2.2.1, bt245.2.2.2.1, bt245.2.2.2.2.1, bt245.2.2.2.2.2)))) = some (r1, r2, r3, r4, r5, r6) := h
 clear h
 replace H := bq_ H
 obtain ⟨t244, A40, H⟩ := H
 replace H : ((aB.f k a0 a1 (decide (a2 < 0)) 0 t244 false).bind fun bt245 => (some (bt245.1, bt245.2.1, bt245.2.2.1, bt245.2.2.2.1, bt245.2.2.2.2.1, bt245.2.2.2.2.2))) = some (r1, r2, r3, r4, r5, r6) := H
 have A4 := Aside0.mk A40
 clear A40
 replace H := bq_ H
 obtain ⟨⟨t245, t246, t247, t248, t249, t250⟩, A50, H⟩ := H
 replace H : (some (t245, t246, t247, t248, t249, t250)) = some (r1, r2, r3, r4, r5, r6) := H
 have A5 := Aside0.mk A50
 clear A50
 simp only [Option.some.injEq, Prod.mk.injEq] at H
 obtain ⟨rfl, rfl, rfl, rfl, rfl, rfl⟩ := H
 go_enter Tryz.func20, Tryz.ntmps20
 go_wp2_with (first | ((with_reducible refine gate_dst (N := 7) rfl ?_); refine box_event ?hg (N := 7) ?hd (cs := F5) (t := 42) ?hr ?_; (case hd => rfl); (case hg => rfl); (case hr => first | (go_simp; done) | (go_simp; rfl)); intro gb243 hg w6 hbox hb; have n0_ := Aside0.mk (below_step (bl0 HB.out) hb); have n1_ := Aside0.mk (hbox); have n2_ := Aside0.mk ((by rw [hg]; exact (below_size (bl0 HB.out)) : w.heap.size ≤ gb243)); have n3_ := n2_; clear HB; have HB := n0_; have BK243 := n1_; have GW243 := n2_; have GE243 := n3_; clear n0_ n1_ n2_ n3_; clear hb hbox hg) | ((with_reducible refine gate_callee (f := 42) rfl ?_); refine goesL_ (some 13) rfl rfl Tryz.func42 (by kernel_rfl) rfl #[.int .i64 a2] rfl gl ?_; (with_reducible refine (iL.calls a2 t244 _ A4.out).mono ?_); rintro e w' ⟨rfl, ⟨nd, rfl⟩⟩; refine ⟨_, rfl, ?_⟩; (try (rw [drewN_self w6]; generalize hq_ : World.drewN w6 _ = w6; have n0_ : Aside0 (w6.heap[gb243]? = some (o5_ false false false false false 42)) := ⟨by rw [← hq_]; exact (bv BK243.out)⟩; have n1_ : Aside0 (Below w.heap.size w w6) := ⟨by rw [← hq_]; exact (bl1 HB.out GE243.out)⟩; clear BK243 HB hq_; have BK243 := n0_; have HB := n1_; clear n0_ n1_))) | ((with_reducible refine gate_callee (f := 41) rfl ?_); refine goesL_ (some 14) rfl rfl Tryz.func41 (by kernel_rfl) rfl #[.int .i64 a0, .int .i64 a1, .bool (decide (a2 < 0)), .int .i64 0, .int .u64 t244, .bool false] rfl gl ?_; (with_reducible refine (aB.calls k a0 a1 (decide (a2 < 0)) 0 t244 false t245 t246 t247 t248 t249 t250 _ A5.out).mono ?_); rintro e w7 ⟨rfl, hb⟩; refine ⟨_, rfl, ?_⟩; have n0_ := Aside0.mk (blk_below (g := gb243) (o := o5_ false false false false false 42) (bv BK243.out) hb); have n1_ := Aside0.mk (below_step (bl1 HB.out GE243.out) hb); clear BK243; clear HB; have BK243 := n0_; have HB := n1_; clear n0_ n1_; obtain ⟨hcz8_0, hcz8_1, hcz8_2, hcz8_3, hcz8_4⟩ := bc5 BK243.out; obtain ⟨hfz8_0, hfz8_1, hfz8_2, hfz8_3, hfz8_4⟩ := bf5 BK243.out))
 refine bodyPost_ret (results_tc rfl _ _ gb243 42 #[.bool t246, .bool t247, .bool t248, .bool t249, .bool t250] (0, 0) _ rfl (by (with_reducible repeat first | apply bd | apply be | apply ba); refine blk_put (cs := q5_ t246 t247 t248 t249 false) ?_ 4 _ rfl; (with_reducible repeat first | apply bd | apply be | apply ba); refine blk_put (cs := q5_ t246 t247 t248 false false) ?_ 3 _ rfl; (with_reducible repeat first | apply bd | apply be | apply ba); refine blk_put (cs := q5_ t246 t247 false false false) ?_ 2 _ rfl; (with_reducible repeat first | apply bd | apply be | apply ba); refine blk_put (cs := q5_ t246 false false false false) ?_ 1 _ rfl; (with_reducible repeat first | apply bd | apply be | apply ba); refine blk_put (cs := F5) ?_ 0 _ rfl; (with_reducible repeat first | apply bd | apply be | apply ba); exact BK243.out) Tryz.underlying42 rfl (by kernel_rfl)) rfl ?_
 exact ⟨by first | rfl | (simp [aP, aQ] <;> rfl) | (simp [*, aP, aQ] <;> rfl), bl1 HB.out GE243.out⟩

-- NEED 2
/-! ### eD: function 11 -/
def eD.f (k : Nat) (a0 : Int) : Option (Int) := (fE.f k 2 0 a0).bind fun bt251 => (some bt251.1)
theorem eD.mono : ∀ a0 k, LeO (eD.f k a0) (eD.f (k + 1) a0) := by
 intro a0 k
 unfold eD.f
 repeat' first
   |(with_reducible first|exact fE.mono _ _ _ _|exact LeO.refl _|exact LeO.none _|refine LeO.ite ?_ ?_|refine LeO.bind ?_ (fun _ => ?_))
   |exact fE.mono _ _ _ _
   |exact LeO.none _
   |refine LeO.ite ?_ ?_
   |refine LeO.bind ?_ (fun _ => ?_)
theorem eD.calls (k : Nat) (a0 r : Int) (w : World) (h : eD.f k a0 = some r) :
  Calls Tryz.prog 11 #[.int .i64 a0] w fun e w' => e = .returned (.int .u32 r) ∧ Below w.heap.size w w' := by
 have hu42 := Tryz.underlying42
 have HB := Aside0.mk (Below.refl w.heap.size w)
 have H : ((fE.f k 2 0 a0).bind fun bt251 => (some bt251.1)) = some r := h
 clear h
 replace H := bq_ H
 obtain ⟨⟨t251, t252, t253, t254, t255, t256⟩, A20, H⟩ := H
 replace H : (some t251) = some r := H
 have A2 := Aside0.mk A20
 clear A20
 obtain rfl := Option.some.inj H
 go_enter Tryz.func11, Tryz.ntmps11
 go_wp2_with (first | ((with_reducible refine gate_callee (f := 20) rfl ?_); refine goesL_ (some 7) rfl rfl Tryz.func20 (by kernel_rfl) rfl #[.int .i64 2, .int .i64 0, .int .i64 a0] rfl gl ?_; (with_reducible refine (fE.calls k 2 0 a0 t251 t252 t253 t254 t255 t256 _ A2.out).mono ?_); rintro e w3 ⟨rfl, hb⟩; refine ⟨_, rfl, ?_⟩; have n0_ := Aside0.mk (below_step (bl0 HB.out) hb); clear HB; have HB := n0_; clear n0_) | ((with_reducible refine gate_dst (N := 4) rfl ?_); refine box_event ?hg (N := 4) ?hd (cs := F5) (t := 42) ?hr ?_; (case hd => rfl); (case hg => rfl); (case hr => first | (go_simp; done) | (go_simp; rfl)); intro gb257 hg w4 hbox hb; have n0_ := Aside0.mk (below_step (bl0 HB.out) hb); have n1_ := Aside0.mk (hbox); have n2_ := Aside0.mk ((by rw [hg]; exact (below_size (bl0 HB.out)) : w.heap.size ≤ gb257)); have n3_ := n2_; clear HB; have HB := n0_; have BK257 := n1_; have GW257 := n2_; have GE257 := n3_; clear n0_ n1_ n2_ n3_; clear hb hbox hg; obtain ⟨hcz5_0, hcz5_1, hcz5_2, hcz5_3, hcz5_4⟩ := bc5 BK257.out; obtain ⟨hfz5_0, hfz5_1, hfz5_2, hfz5_3, hfz5_4⟩ := bf5 BK257.out))
 go_ret
 exact ⟨by first | rfl | (simp [aP, aQ] <;> rfl) | (simp [*, aP, aQ] <;> rfl), bl1 HB.out GE257.out⟩

end Go.Proofs.YtjlgmfgjleajfaaGreat.P

/- Whole numbers as numbers, and numbers made whole that stay numbers: the program's, as plain numbers. -/
namespace Go.Proofs.YtjlgmfgjleajfaaGreat.Round
open Go.RowKit Go.Proofs.YtjlgmfgjleajfaaGreat.P Go.Proofs.YtjlgmfgjleajfaaGreat.Num Go.Proofs.YtjlgmfgjleajfaaGreat.BitsF Go.Proofs.YtjlgmfgjleajfaaGreat.Fmt Go.Proofs.YtjlgmfgjleajfaaGreatW.PrintWords Go.Proofs.YtjlgmfgjleajfaaGreatW.PrintLast Go.Proofs.YtjlgmfgjleajfaaGreatW.PrintMore

theorem amount_f (v : Int) (h1 : -9223372036854775808 ≤ v) (h2 : v ≤ 9223372036854775807) : iL.f v = some (v.natAbs : Int) := by
  unfold iL.f
  by_cases c : v < 0
  · rw [if_pos c, iH, iH]; congr 1; omega
  · rw [if_neg c, iH]; congr 1; omega
theorem aAq (f mode v : Int) (h1 : -9223372036854775808 ≤ v) (h2 : v ≤ 9223372036854775807) :
    Ev (fun k => fE.f k f mode v) ((gD f mode (decide (v < 0)) 0 v.natAbs false : Int), false, false, lW f mode (decide (v < 0)) 0 v.natAbs false) := by
  have hp := pM f mode (decide (v < 0)) 0 v.natAbs false (by omega)
  rw [iV _ (by decide) (by decide)] at hp
  exact Ev.congr (fun k => by unfold fE.f; rw [amount_f v h1 h2, Option.bind_some]) (Ev.bind hp (Ev.now _))
end Go.Proofs.YtjlgmfgjleajfaaGreat.Round
