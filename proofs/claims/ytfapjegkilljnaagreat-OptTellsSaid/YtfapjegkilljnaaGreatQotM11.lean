import Derived.Test.YtfapjegkilljnaaGreatQotZ
import Derived.Test.YtfapjegkilljnaaGreatQotM5
import Derived.Test.YtfapjegkilljnaaGreatQotM8
import Derived.Test.YtfapjegkilljnaaGreatQotM6
import Derived.Test.YtfapjegkilljnaaGreatQotM7
import Derived.Test.YtfapjegkilljnaaGreatQotProdF
import Derived.Test.YtfapjegkilljnaaGreatQotM10
import Derived.Test.YtfapjegkilljnaaGreatQotM9
import Derived.Test.YtfapjegkilljnaaGreatQotPackE
-- Printed by a program of this session's out of Lean's print of the translation; Lean checks it.
set_option linter.unusedVariables false
set_option linter.unusedSimpArgs false
namespace Go.Proofs.YtfapjegkilljnaaGreat.P
open Go.RowKit Go.Proofs.YtfapjegkilljnaaGreatW.PrintWords Go.Proofs.YtfapjegkilljnaaGreatW.PrintLast Go.Proofs.YtfapjegkilljnaaGreatW.PrintMore
attribute [local go_sem] max2_int min2_int max_two min_two max_three min_three max_four min_four

-- NEED 2
/-! ### aZ: function 31 -/
mutual
def aZ.j0 : Nat → Int → Int → Int → Int → Int → Bool → Bool → Bool → Option (Int × Bool × Bool × Bool × Bool × Bool)
 |0, _, _, _, _, _, _, _, _ => none
 |k + 1, x0, x1, x2, x3, x4, x16, x17, x18 => if x17 = true then (aZ.j1 k x0 x1 x2 x3 x4 x16 x17 x18 true) else (aZ.j1 k x0 x1 x2 x3 x4 x16 x17 x18 x18)
def aZ.j1 : Nat → Int → Int → Int → Int → Int → Bool → Bool → Bool → Bool → Option (Int × Bool × Bool × Bool × Bool × Bool)
 |0, _, _, _, _, _, _, _, _, _ => none
 |k + 1, x0, x1, x2, x3, x4, x16, x17, x18, x71 => if x71 = true then ((dJ.f x0 x4).bind fun t366 => ((aX.f k x0 x16 t366 x17 x18).bind fun bt367 => (some (bt367.1, bt367.2.1, bt367.2.2.1, bt367.2.2.2.1, bt367.2.2.2.2.1, bt367.2.2.2.2.2)))) else ((dZ.f x0 x2 x3).bind fun bt373 => ((eZ.f x0 x4).bind fun bt377 => ((aQ.f k bt373.1 bt373.2.1 bt373.2.2.1 bt373.2.2.2 bt377.1 bt377.2.1 bt377.2.2.1 bt377.2.2.2).bind fun bt383 => (if bt383.2.2.1 = 0 then (aZ.j2 k x0 x1 x16 (!bt383.2.2.2) bt377.1 bt377.2.1 bt377.2.2.1 bt377.2.2.2 bt383.1 bt383.2.1 bt383.2.2.1 bt383.2.2.2) else (aZ.j2 k x0 x1 x16 false bt377.1 bt377.2.1 bt377.2.2.1 bt377.2.2.2 bt383.1 bt383.2.1 bt383.2.2.1 bt383.2.2.2)))))
def aZ.j2 : Nat → Int → Int → Bool → Bool → Bool → Int → Int → Bool → Bool → Int → Int → Bool → Option (Int × Bool × Bool × Bool × Bool × Bool)
 |0, _, _, _, _, _, _, _, _, _, _, _, _ => none
 |k + 1, x0, x1, x16, x99, x383000, x383001, x383002, x383003, x388000, x388001, x388002, x388003 => if x99 = true then ((eQ.f x0 x1 x16 x383000).bind fun t388 => (some (t388, false, false, false, false, false))) else ((aC.f k x0 x1 x388000 x388001 x388002 x388003).bind fun bt389 => (some (bt389.1, bt389.2.1, bt389.2.2.1, bt389.2.2.2.1, bt389.2.2.2.2.1, bt389.2.2.2.2.2)))
end
def aZ.f (k : Nat) (a0 a1 : Int) (a2 a3 a4 : Int) : Option (Int × Bool × Bool × Bool × Bool × Bool) := (dR.f k a0 a2 a3).bind fun t342 => ((bC.f k a0 (([a2, a3, a4] : List Int))).bind fun bt346 => (if bt346.2.2.2.2.2.2 = true then (if bt346.2.1 = true then (some (bt346.1, true, bt346.2.2.1, bt346.2.2.2.1, bt346.2.2.2.2.1, bt346.2.2.2.2.2.1)) else (some (bt346.1, t342, bt346.2.2.1, bt346.2.2.2.1, bt346.2.2.2.2.1, bt346.2.2.2.2.2.1))) else (if t342 = true then ((eY.f a0).bind fun bt354 => (some (bt354.1, bt354.2.1, bt354.2.2.1, bt354.2.2.2.1, bt354.2.2.2.2.1, bt354.2.2.2.2.2))) else ((dJ.f a0 a2).bind fun t360 => ((dJ.f a0 a3).bind fun t361 => ((aO.f k a0 a2).bind fun t362 => (if t362 = true then ((aO.f k a0 a4).bind fun t363 => (aZ.j0 k a0 a1 a2 a3 a4 (t360 != t361) true t363)) else ((aO.f k a0 a3).bind fun t364 => ((aO.f k a0 a4).bind fun t365 => (aZ.j0 k a0 a1 a2 a3 a4 (t360 != t361) t364 t365))))))))))
end Go.Proofs.YtfapjegkilljnaaGreat.P

/- A product and a number together: the program's, of finite numbers, as plain numbers. -/
namespace Go.Proofs.YtfapjegkilljnaaGreat.Round
open Go.RowKit Go.Proofs.YtfapjegkilljnaaGreat.P Go.Proofs.YtfapjegkilljnaaGreat.Num Go.Proofs.YtfapjegkilljnaaGreat.BitsF Go.Proofs.YtfapjegkilljnaaGreat.Fmt Go.Proofs.YtfapjegkilljnaaGreatW.PrintWords Go.Proofs.YtfapjegkilljnaaGreatW.PrintLast Go.Proofs.YtfapjegkilljnaaGreatW.PrintMore

theorem oU (f : Int) (a b c : Nat) (ha : a < 4294967296) (hb : b < 4294967296) (hc : c < 4294967296) : Ev (fun k => bC.f k f [(a : Int), (b : Int), (c : Int)]) ((pQ f : Int), fC f a || fC f b || fC f c, false, false, false, false, dX f a || dX f b || dX f c) := by
 refine Ev.congr (fun k => by unfold bC.f; rfl) (kW f _ 0 a false false _ (by simp) (by simp) ha rfl (kW f _ 1 b _ _ _ (by simp) (by simp) hb rfl (kW f _ 2 c _ _ _ (by simp) (by simp) hc rfl ?_)))
 rw [Bool.false_or, Bool.false_or]
 exact sP f [(a : Int), (b : Int), (c : Int)] _ _
def oL (f : Int) (a b c : Nat) : Bool × Int × Nat × Bool := lL (dB f a != dB f b) (bB f a + bB f b) (bJ f a * bJ f b) (dB f c) (bB f c) (bJ f c)
theorem mul_62 (f : Int) (a b : Nat) : bJ f a * bJ f b < 4611686018427387904 := by
 have wa := jL f a
 have wb := jL f b
 have hbd := dN f
 have hp24 : 2 ^ (fm f + 1) ≤ 16777216 := Nat.pow_le_pow_right (show 0 < 2 by decide) (show fm f + 1 ≤ 24 by omega)
 have := Nat.mul_le_mul (show bJ f a ≤ 16777216 by omega) (show bJ f b ≤ 16777216 by omega)
 omega
theorem fma_ev (f mode : Int) (a b c : Nat) (ha : a < 4294967296) (hb : b < 4294967296) (hc : c < 4294967296) (ca : bM f a < 3) (cb : bM f b < 3) (cc : bM f c < 3) :
  Ev (fun k => aZ.f k f mode (a : Int) (b : Int) (c : Int)) ((fG f mode (dB f a != dB f b) (dB f c) (oL f a b c) : Int), false, false, fV f mode (oL f a b c)) := by
 have ht : kE f a b = false := by unfold kE; exact decide_eq_false (by omega)
 have hto := tC f a b ha hb
 rw [ht] at hto
 have hn := oU f a b c ha hb hc
 have n0 : (dX f a || dX f b || dX f c) = false := by
  unfold dX
  rw [decide_eq_false (show ¬ 4 ≤ bM f a by omega), decide_eq_false (show ¬ 4 ≤ bM f b by omega), decide_eq_false (show ¬ 4 ≤ bM f c by omega)]; rfl
 rw [n0] at hn
 obtain ⟨l1, l2⟩ := dV f a
 obtain ⟨m1, m2⟩ := dV f b
 obtain ⟨o1, o2⟩ := dV f c
 have fa := gT f a ca
 have fb := gT f b cb
 have fc := gT f c cc
 have hx := zW (dB f a != dB f b) (bB f a + bB f b) (bJ f a * bJ f b) (dB f c) (bB f c) (bJ f c) (mul_62 f a b) (nX f c) (by omega) (by omega) (by omega) (by omega)
 obtain ⟨x1, x2, x3⟩ := qO (dB f a != dB f b) (bB f a + bB f b) (bJ f a * bJ f b) (dB f c) (bB f c) (bJ f c) (mul_62 f a b) (nX f c) (by omega) (by omega) (by omega) (by omega)
 refine Ev.congr (fun k => by unfold aZ.f; rfl) (Ev.bind hto (Ev.bind hn ?_))
 dsimp only
 refine Ev.congr (fun k => by rw [if_neg (show ¬ false = true by decide), if_neg (show ¬ false = true by decide), sQ f a ha, Option.bind_some, sQ f b hb, Option.bind_some]) (Ev.bind (iX f a ha) ?_)
 refine Ev.congr (fun k => by rw [if_neg (by simp; omega)]) (Ev.bind (iX f b hb) (Ev.bind (iX f c hc) ?_))
 rw [decide_eq_false (show ¬ bM f b = 3 by omega), decide_eq_false (show ¬ bM f c = 3 by omega)]
 refine Ev.step (fun k => by rw [aZ.j0, if_neg (by decide)]) (Ev.step (fun k => by rw [aZ.j1, if_neg (by decide), wW f a b ha hb fa fb, Option.bind_some, of_f f c hc fc, Option.bind_some]) ?_)
 dsimp only
 refine Ev.bind hx ?_
 unfold oL xP
 generalize lL (dB f a != dB f b) (bB f a + bB f b) (bJ f a * bJ f b) (dB f c) (bB f c) (bJ f c) = r at *
 obtain ⟨rn, re, rs, rm⟩ := r
 dsimp only at *
 have hp := pR f mode rn re rs rm (by omega)
 rw [iF _ (by omega) (by omega)] at hp
 have pack : ¬ (rs = 0 ∧ rm = false) → Ev (fun k => aZ.j2 k f mode (dB f a != dB f b) false (dB f c) (bB f c) (bJ f c : Int) false rn re (rs : Int) rm) ((fG f mode (dB f a != dB f b) (dB f c) (rn, re, rs, rm) : Int), false, false, fV f mode (rn, re, rs, rm)) := by
  intro z
  have zz : ¬ (rs, rm) = (0, false) := fun e => z ⟨(Prod.mk.inj e).1, (Prod.mk.inj e).2⟩
  unfold fG fV
  rw [if_neg zz, if_neg zz]
  exact Ev.step (fun k => by rw [aZ.j2, if_neg (by decide)]) (Ev.bind hp (Ev.now _))
 by_cases s0 : rs = 0
 ·cases rm
  ·have zz : (rs, false) = (0, false) := by rw [s0]
   refine Ev.congr (fun k => by rw [if_pos (by omega)]) (Ev.step (fun k => by rw [aZ.j2, if_pos (by decide), zY]) (Ev.congr (fun k => ?_) (Ev.now _)))
   unfold fG fV
   rw [if_pos zz, if_pos zz]; rfl
  ·exact Ev.congr (fun k => by rw [if_pos (by omega)]; rfl) (pack (by simp))
 ·exact Ev.congr (fun k => by rw [if_neg (by omega)]) (pack (fun h => s0 h.1))
end Go.Proofs.YtfapjegkilljnaaGreat.Round

/- The reference's differences, products with a sum: as plain numbers. -/
namespace Go.Proofs.YtfapjegkilljnaaGreat.Round
open Go.RowKit Go.Proofs.YtfapjegkilljnaaGreat.P Go.Proofs.YtfapjegkilljnaaGreat.E Go.Proofs.YtfapjegkilljnaaGreat.Num Go.Proofs.YtfapjegkilljnaaGreat.BitsF Go.Proofs.YtfapjegkilljnaaGreat.Fmt Go.Proofs.YtfapjegkilljnaaGreatW.PrintWords Go.Proofs.YtfapjegkilljnaaGreatW.PrintLast Go.Proofs.YtfapjegkilljnaaGreatW.PrintMore

theorem wS (f : Int) (v : Nat) (hv : v < 4294967296) : Ev (fun k => P.dQ.f k f (v : Int)) ((if 4 ≤ bM f v then lC f v else jJ f v : Nat) : Int) := by
  have hb := dN f
  have h31 := dU (show fe f + fm f ≤ 31 by omega)
  have h32 := mP (show fe f + fm f + 1 ≤ 32 by omega)
  refine Ev.congr (fun k => by unfold P.dQ.f; rfl) (Ev.bind (zZ f v hv) ?_)
  by_cases n : 4 ≤ bM f v
  · rw [if_pos n]
    exact Ev.congr (fun k => by rw [if_pos (show dX f v = true from decide_eq_true n), gF, Option.bind_some, jY f v hv]) (Ev.now _)
  · rw [if_neg n]
    refine Ev.congr (fun k => ?_) (Ev.now _)
    have hs : eP f true = 2 ^ (fe f + fm f) := rfl
    have hs0 : eP f false = 0 := rfl
    have hx : (v ^^^ 2 ^ (fe f + fm f)) < 4294967296 := Nat.xor_lt_two_pow (n := 32) hv (by omega)
    have key : lC f (v ^^^ 2 ^ (fe f + fm f)) = jJ f v := by
      unfold lC
      rw [Nat.xor_mod_two_pow, Nat.mod_eq_of_lt (show 2 ^ (fe f + fm f) < 2 ^ (fe f + fm f + 1) from Nat.pow_lt_pow_right (by decide) (Nat.lt_succ_self _))]
      have hm := aAX f v
      have hvm := aBz f v
      unfold lC at hvm
      rw [hvm]
      obtain ⟨x1, x2⟩ := aA2 (vX f v) (fe f + fm f) hm
      unfold jJ
      cases hn : dB f v
      · rw [hs0, Nat.add_zero, Bool.not_false, hs, x1]
      · rw [hs, Bool.not_true, hs0, Nat.add_zero, x2]
    rw [if_neg (show ¬ dX f v = true by unfold dX; rw [decide_eq_true_iff]; exact n), nV, Option.bind_some, gF, Option.bind_some, hs, xS v _ hv (by omega), jY f _ hx, key]
theorem aAO (f mode : Int) (a b : Nat) (ha : a < 4294967296) (hb : b < 4294967296) : Ev (fun n => E.dA.f n f mode (a : Int) (b : Int)) ((zH f mode a b : Int), subX f mode a b) := by
  refine Ev.congr (fun n => dA.eq n f mode a b) (Ev.bind (wS f b hb) ?_)
  have tp := nU f b
  by_cases n : 4 ≤ bM f b
  · rw [if_pos n]
    have e : vP f mode a (lC f b) = zH f mode a b ∧ aAU f mode a (lC f b) = subX f mode a b := by
      unfold vP aAU zH subX fC
      rw [zC, if_pos (.inr n), if_pos (.inr n), if_pos (.inr n), if_pos (.inr n)]; exact ⟨rfl, rfl⟩
    rw [← e.1, ← e.2]
    exact Ev.bind (qJ f mode a (lC f b) ha (aCg f b)) (Ev.now _)
  · rw [if_neg n]
    have e : vP f mode a (jJ f b) = zH f mode a b ∧ aAU f mode a (jJ f b) = subX f mode a b := by
      unfold zH subX
      by_cases m : 4 ≤ bM f a
      · unfold vP aAU fC
        rw [tp.2.1, if_pos (.inl m), if_pos (.inl m), if_pos (.inl m), if_pos (.inl m)]; exact ⟨rfl, rfl⟩
      · rw [if_neg (show ¬ (4 ≤ bM f a ∨ 4 ≤ bM f b) by omega), if_neg (show ¬ (4 ≤ bM f a ∨ 4 ≤ bM f b) by omega)]; exact ⟨rfl, rfl⟩
    rw [← e.1, ← e.2]
    exact Ev.bind (qJ f mode a (jJ f b) ha tp.2.2.2.2) (Ev.now _)

def pV (f mode : Int) (a b c : Nat) : Nat :=
  if 4 ≤ bM f a ∨ 4 ≤ bM f b ∨ 4 ≤ bM f c then pQ f else if kE f a b = true then pQ f
  else if bM f a = 3 ∨ bM f b = 3 then (if bM f c = 3 ∧ dB f c ≠ (dB f a != dB f b) then pQ f else nG f (dB f a != dB f b))
  else if bM f c = 3 then nG f (dB f c) else fG f mode (dB f a != dB f b) (dB f c) (oL f a b c)
def yD (f mode : Int) (a b c : Nat) : Bool × Bool × Bool × Bool × Bool :=
  if 4 ≤ bM f a ∨ 4 ≤ bM f b ∨ 4 ≤ bM f c then (fC f a || fC f b || fC f c || kE f a b, false, false, false, false) else if kE f a b = true then (true, false, false, false, false)
  else if bM f a = 3 ∨ bM f b = 3 then (if bM f c = 3 ∧ dB f c ≠ (dB f a != dB f b) then (true, false, false, false, false) else (false, false, false, false, false))
  else if bM f c = 3 then (false, false, false, false, false) else (false, false, fV f mode (oL f a b c))
theorem fma_fin (f mode : Int) (a b c : Nat) (ca : bM f a < 3) (cb : bM f b < 3) (cc : bM f c < 3) : pV f mode a b c = fG f mode (dB f a != dB f b) (dB f c) (oL f a b c) ∧ yD f mode a b c = (false, false, fV f mode (oL f a b c)) := by
  have ht : ¬ kE f a b = true := by unfold kE; rw [decide_eq_true_iff]; omega
  unfold pV yD
  rw [if_neg (show ¬ (4 ≤ bM f a ∨ 4 ≤ bM f b ∨ 4 ≤ bM f c) by omega), if_neg (show ¬ (4 ≤ bM f a ∨ 4 ≤ bM f b ∨ 4 ≤ bM f c) by omega), if_neg ht, if_neg ht, if_neg (show ¬ (bM f a = 3 ∨ bM f b = 3) by omega), if_neg (show ¬ (bM f a = 3 ∨ bM f b = 3) by omega), if_neg (show ¬ bM f c = 3 by omega), if_neg (show ¬ bM f c = 3 by omega)]
  exact ⟨rfl, rfl⟩
theorem nan3 (f : Int) (a b c : Nat) : (dX f a || dX f b || dX f c) = true ↔ (4 ≤ bM f a ∨ 4 ≤ bM f b ∨ 4 ≤ bM f c) := by
  unfold dX
  rw [Bool.or_eq_true, Bool.or_eq_true, decide_eq_true_iff, decide_eq_true_iff, decide_eq_true_iff, or_assoc]
theorem aAt (f mode : Int) (a b c : Nat) (ha : a < 4294967296) (hb : b < 4294967296) (hc : c < 4294967296) :
    Ev (fun k => aZ.f k f mode (a : Int) (b : Int) (c : Int)) ((pV f mode a b c : Int), yD f mode a b c) := by
  by_cases n : 4 ≤ bM f a ∨ 4 ≤ bM f b ∨ 4 ≤ bM f c
  · have e := (nan3 f a b c).mpr n
    unfold pV yD
    rw [if_pos n, if_pos n]
    refine Ev.congr (fun k => by unfold aZ.f; rfl) (Ev.bind (tC f a b ha hb) (Ev.bind (oU f a b c ha hb hc) (Ev.congr (fun k => ?_) (Ev.now _))))
    dsimp only
    rw [if_pos e]
    cases h : (fC f a || fC f b || fC f c)
    · rw [if_neg (by decide), Bool.false_or]
    · rw [if_pos rfl, Bool.true_or]
  · have e : ¬ (dX f a || dX f b || dX f c) = true := fun h => n ((nan3 f a b c).mp h)
    by_cases t : kE f a b = true
    · unfold pV yD
      rw [if_neg n, if_neg n, if_pos t, if_pos t]
      refine Ev.congr (fun k => by unfold aZ.f; rfl) (Ev.bind (tC f a b ha hb) (Ev.bind (oU f a b c ha hb hc) (Ev.congr (fun k => ?_) (Ev.now _))))
      dsimp only
      rw [if_neg e, if_pos t, aAH, Option.bind_some]
    · by_cases i : bM f a = 3 ∨ bM f b = 3 ∨ bM f c = 3
      · have hin := sI f (dB f a != dB f b) (dB f c) (decide (bM f a = 3 ∨ bM f b = 3)) (decide (bM f c = 3))
        have hj1 : Ev (fun k => aZ.j1 k f mode (a : Int) (b : Int) (c : Int) (dB f a != dB f b) (decide (bM f a = 3 ∨ bM f b = 3)) (decide (bM f c = 3)) true) ((pV f mode a b c : Int), yD f mode a b c) := by
          refine Ev.step (fun k => by rw [aZ.j1, if_pos rfl, sQ f c hc, Option.bind_some]) (Ev.bind hin (Ev.congr (fun k => ?_) (Ev.now _)))
          unfold pV yD
          rw [if_neg n, if_neg n, if_neg t, if_neg t]
          simp only [decide_eq_true_iff]
          by_cases ab : bM f a = 3 ∨ bM f b = 3
          · by_cases c3 : bM f c = 3 ∧ dB f c ≠ (dB f a != dB f b)
            · have h1 : (bM f a = 3 ∨ bM f b = 3) ∧ bM f c = 3 ∧ (dB f a != dB f b) ≠ dB f c := ⟨ab, c3.1, fun h => c3.2 h.symm⟩
              rw [if_pos h1, if_pos ab, if_pos c3, if_pos ab, if_pos c3]
            · have h1 : ¬ ((bM f a = 3 ∨ bM f b = 3) ∧ bM f c = 3 ∧ (dB f a != dB f b) ≠ dB f c) := fun h => c3 ⟨h.2.1, fun e => h.2.2 e.symm⟩
              rw [if_neg h1, if_pos ab, if_pos ab, if_neg c3, if_pos ab, if_neg c3]
          · have c3 : bM f c = 3 := by omega
            have h1 : ¬ ((bM f a = 3 ∨ bM f b = 3) ∧ bM f c = 3 ∧ (dB f a != dB f b) ≠ dB f c) := fun h => ab h.1
            rw [if_neg h1, if_neg ab, if_neg ab, if_pos c3, if_neg ab, if_pos c3]
        have hj : Ev (fun k => aZ.j0 k f mode (a : Int) (b : Int) (c : Int) (dB f a != dB f b) (decide (bM f a = 3 ∨ bM f b = 3)) (decide (bM f c = 3))) ((pV f mode a b c : Int), yD f mode a b c) := by
          by_cases ab : bM f a = 3 ∨ bM f b = 3
          · exact Ev.step (fun k => by rw [aZ.j0, if_pos (decide_eq_true ab)]) hj1
          · have c3 : bM f c = 3 := by omega
            refine Ev.step (fun k => by rw [aZ.j0, if_neg (by rw [decide_eq_true_iff]; exact ab)]) ?_
            exact Ev.congr (fun k => by rw [decide_eq_true c3]) hj1
        refine Ev.congr (fun k => by unfold aZ.f; rfl) (Ev.bind (tC f a b ha hb) (Ev.bind (oU f a b c ha hb hc) ?_))
        dsimp only
        refine Ev.congr (fun k => by rw [if_neg e, if_neg t, sQ f a ha, Option.bind_some, sQ f b hb, Option.bind_some]) (Ev.bind (iX f a ha) ?_)
        by_cases a3 : bM f a = 3
        · refine Ev.congr (fun k => by rw [if_pos (decide_eq_true a3)]) (Ev.bind (iX f c hc) ?_)
          rw [decide_eq_true (show bM f a = 3 ∨ bM f b = 3 from .inl a3)] at hj
          exact hj
        · refine Ev.congr (fun k => by rw [if_neg (by rw [decide_eq_true_iff]; exact a3)]) (Ev.bind (iX f b hb) (Ev.bind (iX f c hc) ?_))
          rw [show decide (bM f a = 3 ∨ bM f b = 3) = decide (bM f b = 3) from decide_eq_decide.mpr ⟨fun h => h.resolve_left a3, .inr⟩] at hj
          exact hj
      · have h1 := nZ f a
        obtain ⟨e1, e2⟩ := fma_fin f mode a b c (by omega) (by omega) (by omega)
        rw [e1, e2]
        exact fma_ev f mode a b c ha hb hc (by omega) (by omega) (by omega)
theorem aBW (f : Int) (a b c : Nat) (ha : a < 4294967296) (hb : b < 4294967296) (hc : c < 4294967296) : Ev (fun k => aD.f k f [(a : Int), (b : Int), (c : Int)]) (dX f a || dX f b || dX f c, fC f a || fC f b || fC f c) := by
  refine Ev.congr (fun k => by unfold aD.f; rfl) (mK f _ 0 a false false _ (by simp) (by simp) ha rfl (mK f _ 1 b _ _ _ (by simp) (by simp) hb rfl (mK f _ 2 c _ _ _ (by simp) (by simp) hc rfl ?_)))
  rw [Bool.false_or, Bool.false_or]
  exact vU f [(a : Int), (b : Int), (c : Int)] _ _
theorem fma_j14 (f mode : Int) (a b c : Nat) (ha : a < 4294967296) (hb : b < 4294967296) (hc : c < 4294967296) (ca : bM f a < 3) (cb : bM f b < 3) (cc : bM f c < 3) (hne : ¬ ((bM f a = 0 ∨ bM f b = 0) ∧ bM f c = 0 ∧ (dB f a != dB f b) = dB f c)) (c0 c1 c2 c3 c4 : Bool) :
    Ev (fun n => E.aP.j14 n (dB f a != dB f b) (c : Int) (b : Int) (a : Int) mode f c0 c1 c2 c3 c4) ((fG f mode (dB f a != dB f b) (dB f c) (oL f a b c) : Int), false, false, fV f mode (oL f a b c)) := by
  obtain ⟨l1, l2⟩ := jS f a ca
  obtain ⟨m1, m2⟩ := jS f b cb
  obtain ⟨o1, o2⟩ := jS f c cc
  obtain ⟨R, r1, r2, r3⟩ := oM (dB f a != dB f b) (bB f a + bB f b) (bJ f a * bJ f b) (by omega) (by omega) (aBs f a b)
  obtain ⟨S, s1, s2, s3⟩ := oM (dB f c) (bB f c) (bJ f c) (by omega) (by omega) (kT f c)
  refine Ev.congr (fun n => aP.aBu n _ c b a mode f c0 c1 c2 c3 c4) (Ev.bind (iJ f a ha (gT f a ca)) (Ev.bind (iJ f b hb (gT f b cb)) ?_))
  dsimp only
  rw [bW (bB f a + bB f b) (by omega) (by omega), ← Int.natCast_mul, fD _ (pO f a b)]
  refine Ev.bind r3 (Ev.bind (iJ f c hc (gT f c cc)) (Ev.bind s3 ?_))
  refine Ev.bind (uS f mode _ _ _ _ _ _ (by omega) (by omega) (by omega) (by omega) (aBs f a b) (kT f c) (fun e z1 z2 => hne ⟨?_, mE f c cc z2, e⟩) r1 s1 r2 s2) (Ev.now _)
  rcases Nat.mul_eq_zero.mp z1 with z | z
  · exact .inl (mE f a ca z)
  · exact .inr (mE f b cb z)
theorem wJ (f mode : Int) (a b c : Nat) (h : bM f a = 0 ∨ bM f b = 0) (ca : bM f a < 3) (cb : bM f b < 3) (hc : bM f c = 0) (e : (dB f a != dB f b) = dB f c) :
    fG f mode (dB f a != dB f b) (dB f c) (oL f a b c) = eP f (dB f a != dB f b) ∧ fV f mode (oL f a b c) = (false, false, false) := by
  have l1 := (jS f a ca).1
  have m1 := (jS f b cb).1
  have o1 := (dV f c).1
  have w := pX f mode (dB f a != dB f b) (bB f a + bB f b) (bJ f a * bJ f b) (dB f c) (bB f c) (bJ f c) (by omega) (by omega) (aBs f a b) (kT f c)
  have z : bJ f a * bJ f b = 0 := by
    rcases h with h | h
    · rw [(mQ f a h).2, Nat.zero_mul]
    · rw [(mQ f b h).2, Nat.mul_zero]
  have hw : (iV (dB f a != dB f b) (bJ f a * bJ f b * 2 ^ (bB f a + bB f b + 298).toNat) (dB f c) (bJ f c * 2 ^ (bB f c + 298).toNat)).2 = 0 := by
    rw [z, (mQ f c hc).2, Nat.zero_mul, Nat.zero_mul]
    unfold iV; rw [if_pos e]
  unfold oL
  rw [w.1, w.2, if_pos hw, if_pos hw]
  exact ⟨if_pos e, rfl⟩
theorem fma_j5 (f mode : Int) (a b c : Nat) (ha : a < 4294967296) (hb : b < 4294967296) (hc : c < 4294967296) (n : ¬ (4 ≤ bM f a ∨ 4 ≤ bM f b ∨ 4 ≤ bM f c)) (t : ¬ kE f a b = true) (c0 c1 c2 c3 c4 : Bool) :
    Ev (fun n => E.aP.j5 n (c : Int) (b : Int) (a : Int) mode f c0 c1 c2 c3 c4) ((pV f mode a b c : Int), yD f mode a b c) := by
  unfold pV yD
  rw [if_neg n, if_neg n, if_neg t, if_neg t]
  refine Ev.congr (fun n => by rw [aP.j5_eq n c b a mode f c0 c1 c2 c3 c4, kF f a ha, Option.bind_some, kF f b hb, Option.bind_some]) ?_
  have inf : Ev (fun n => (aG.f n f (c : Int)).bind fun t3 => (if t3 = true then ((bA.f f (c : Int)).bind fun t4 => (if (t4 == !(dB f a == dB f b)) = true then ((bF.f f (!(dB f a == dB f b))).bind fun t5 => (some ((t5, false, false, false, false, false)))) else ((bH.f f).bind fun t5 => (some ((t5, true, false, false, false, false)))))) else ((bF.f f (!(dB f a == dB f b))).bind fun t4 => (some ((t4, false, false, false, false, false))))))
      (((if bM f c = 3 ∧ dB f c ≠ (dB f a != dB f b) then pQ f else nG f (dB f a != dB f b) : Nat) : Int), (if bM f c = 3 ∧ dB f c ≠ (dB f a != dB f b) then (true, false, false, false, false) else (false, false, false, false, false))) := by
    refine Ev.bind (gG f c hc) ?_
    by_cases k3 : bM f c = 3
    · refine Ev.congr (fun n => by rw [if_pos (decide_eq_true k3), kF f c hc, Option.bind_some]) ?_
      by_cases e : dB f c = (dB f a != dB f b)
      · have h1 : ¬ (bM f c = 3 ∧ dB f c ≠ (dB f a != dB f b)) := fun h => h.2 e
        rw [if_neg h1, if_neg h1]
        have e1 : (dB f c == !(dB f a == dB f b)) = true := beq_iff_eq.mpr e
        exact Ev.congr (fun n => by rw [if_pos e1, kD, Option.bind_some]; rfl) (Ev.now _)
      · have h1 : bM f c = 3 ∧ dB f c ≠ (dB f a != dB f b) := ⟨k3, e⟩
        rw [if_pos h1, if_pos h1]
        have e1 : ¬ (dB f c == !(dB f a == dB f b)) = true := fun h => e (beq_iff_eq.mp h)
        exact Ev.congr (fun n => by rw [if_neg e1, iN, Option.bind_some]) (Ev.now _)
    · have h1 : ¬ (bM f c = 3 ∧ dB f c ≠ (dB f a != dB f b)) := fun h => k3 h.1
      rw [if_neg h1, if_neg h1]
      exact Ev.congr (fun n => by rw [if_neg (by rw [decide_eq_true_iff]; exact k3), kD, Option.bind_some]; rfl) (Ev.now _)
  refine Ev.bind (gG f a ha) ?_
  by_cases a3 : bM f a = 3
  · have ab : bM f a = 3 ∨ bM f b = 3 := .inl a3
    rw [if_pos ab, if_pos ab]
    exact Ev.congr (fun n => by rw [if_pos (decide_eq_true a3)]) inf
  · refine Ev.congr (fun n => by rw [if_neg (by rw [decide_eq_true_iff]; exact a3)]) (Ev.bind (gG f b hb) ?_)
    by_cases b3 : bM f b = 3
    · have ab : bM f a = 3 ∨ bM f b = 3 := .inr b3
      rw [if_pos ab, if_pos ab]
      exact Ev.congr (fun n => by rw [if_pos (decide_eq_true b3)]) inf
    · rw [if_neg (show ¬ (bM f a = 3 ∨ bM f b = 3) by omega), if_neg (show ¬ (bM f a = 3 ∨ bM f b = 3) by omega)]
      refine Ev.congr (fun n => by rw [if_neg (by rw [decide_eq_true_iff]; exact b3)]) (Ev.bind (gG f c hc) ?_)
      by_cases k3 : bM f c = 3
      · rw [if_pos k3, if_pos k3]
        exact Ev.congr (fun n => by rw [if_pos (decide_eq_true k3), gF, Option.bind_some, jY f c hc, vT f c k3]) (Ev.now _)
      · rw [if_neg k3, if_neg k3]
        refine Ev.congr (fun n => by rw [if_neg (by rw [decide_eq_true_iff]; exact k3)]) ?_
        have fin := fma_j14 f mode a b c ha hb hc (by omega) (by omega) (by omega)
        have none : (bM f a = 0 ∨ bM f b = 0) → Ev (fun n => (aK.f n f (c : Int)).bind fun t6 => (if t6 = true then ((bA.f f (c : Int)).bind fun t7 => (if ((!(dB f a == dB f b)) == t7) = true then ((aW.f f (!(dB f a == dB f b))).bind fun t8 => (some ((t8, false, false, false, false, false)))) else (aP.j14 n (!(dB f a == dB f b)) (c : Int) (b : Int) (a : Int) mode f c0 c1 c2 c3 c4))) else (aP.j14 n (!(dB f a == dB f b)) (c : Int) (b : Int) (a : Int) mode f c0 c1 c2 c3 c4)))
            ((fG f mode (dB f a != dB f b) (dB f c) (oL f a b c) : Int), false, false, fV f mode (oL f a b c)) := by
          intro ab
          refine Ev.bind (iB f c hc) ?_
          by_cases k0 : bM f c = 0
          · refine Ev.congr (fun n => by rw [if_pos (decide_eq_true k0), kF f c hc, Option.bind_some]) ?_
            by_cases e : (dB f a != dB f b) = dB f c
            · obtain ⟨e1, e2⟩ := wJ f mode a b c ab (by omega) (by omega) k0 e
              rw [e1, e2]
              have e3 : ((!(dB f a == dB f b)) == dB f c) = true := beq_iff_eq.mpr e
              exact Ev.congr (fun n => by rw [if_pos e3, jE, Option.bind_some]; rfl) (Ev.now _)
            · have e3 : ¬ ((!(dB f a == dB f b)) == dB f c) = true := fun h => e (beq_iff_eq.mp h)
              exact Ev.congr (fun n => by rw [if_neg e3]; rfl) (fin (fun h => e h.2.2) c0 c1 c2 c3 c4)
          · exact Ev.congr (fun n => by rw [if_neg (by rw [decide_eq_true_iff]; exact k0)]; rfl) (fin (fun h => k0 h.2.1) c0 c1 c2 c3 c4)
        refine Ev.bind (iB f a ha) ?_
        by_cases a0 : bM f a = 0
        · exact Ev.congr (fun n => by rw [if_pos (decide_eq_true a0)]) (none (.inl a0))
        · refine Ev.congr (fun n => by rw [if_neg (by rw [decide_eq_true_iff]; exact a0)]) (Ev.bind (iB f b hb) ?_)
          by_cases b0 : bM f b = 0
          · exact Ev.congr (fun n => by rw [if_pos (decide_eq_true b0)]) (none (.inr b0))
          · exact Ev.congr (fun n => by rw [if_neg (by rw [decide_eq_true_iff]; exact b0)]; rfl) (fin (fun h => h.1.elim a0 b0) c0 c1 c2 c3 c4)
theorem fma_j2 (f mode : Int) (a b c : Nat) (ha : a < 4294967296) (hb : b < 4294967296) (hc : c < 4294967296) (t : Bool) (ht : kE f a b = t) (c0 c1 c2 c3 c4 : Bool) :
    Ev (fun n => E.aP.j2 n t (c : Int) (b : Int) (a : Int) mode f c0 c1 c2 c3 c4) ((pV f mode a b c : Int), yD f mode a b c) := by
  subst ht
  refine Ev.congr (fun n => aP.j2_eq n _ c b a mode f c0 c1 c2 c3 c4) (Ev.bind (aBW f a b c ha hb hc) ?_)
  dsimp only
  by_cases n : 4 ≤ bM f a ∨ 4 ≤ bM f b ∨ 4 ≤ bM f c
  · unfold pV yD
    rw [if_pos n, if_pos n]
    refine Ev.congr (fun k => ?_) (Ev.now _)
    rw [if_pos ((nan3 f a b c).mpr n), iN, Option.bind_some]
    cases h : (fC f a || fC f b || fC f c)
    · rw [if_neg (by decide), Bool.false_or]
    · rw [if_pos rfl, Bool.true_or]
  · have e : ¬ (dX f a || dX f b || dX f c) = true := fun h => n ((nan3 f a b c).mp h)
    by_cases t : kE f a b = true
    · unfold pV yD
      rw [if_neg n, if_neg n, if_pos t, if_pos t]
      refine Ev.congr (fun k => ?_) (Ev.now _)
      rw [if_neg e, if_pos t, iN, Option.bind_some, t]
      split <;> rfl
    · exact Ev.congr (fun k => by rw [if_neg e, if_neg t]) (fma_j5 f mode a b c ha hb hc n t c0 c1 c2 c3 c4)
theorem aAw (f mode : Int) (a b c : Nat) (ha : a < 4294967296) (hb : b < 4294967296) (hc : c < 4294967296) :
    Ev (fun n => E.aP.f n f mode (a : Int) (b : Int) (c : Int)) ((pV f mode a b c : Int), yD f mode a b c) := by
  have tt : ∀ t : Bool, (t = true ↔ (bM f a = 0 ∧ bM f b = 3 ∨ bM f a = 3 ∧ bM f b = 0)) → kE f a b = t := by
    intro t h
    unfold kE
    cases t
    · exact decide_eq_false (fun x => by have := h.mpr x; cases this)
    · exact decide_eq_true (h.mp rfl)
  have fin := fun (t : Bool) h => fma_j2 f mode a b c ha hb hc t (tt t h) false false false false false
  have rest : bM f a ≠ 0 ∨ bM f b ≠ 3 → Ev (fun n => (aG.f n f (a : Int)).bind fun t1 => (if t1 = true then ((aK.f n f (b : Int)).bind fun t2 => (aP.j2 n (t2) (c : Int) (b : Int) (a : Int) mode f (false) (false) (false) (false) (false))) else (aP.j2 n (false) (c : Int) (b : Int) (a : Int) mode f (false) (false) (false) (false) (false)))) ((pV f mode a b c : Int), yD f mode a b c) := by
    intro h
    refine Ev.bind (gG f a ha) ?_
    by_cases a3 : bM f a = 3
    · refine Ev.congr (fun n => by rw [if_pos (decide_eq_true a3)]) (Ev.bind (iB f b hb) ?_)
      exact fin _ (by rw [decide_eq_true_iff]; omega)
    · exact Ev.congr (fun n => by rw [if_neg (by rw [decide_eq_true_iff]; exact a3)]) (fin _ ⟨fun x => (by cases x), fun x => (by omega)⟩)
  refine Ev.congr (fun n => aP.eq n f mode a b c) (Ev.bind (iB f a ha) ?_)
  by_cases a0 : bM f a = 0
  · refine Ev.congr (fun n => by rw [if_pos (decide_eq_true a0)]) (Ev.bind (gG f b hb) ?_)
    by_cases b3 : bM f b = 3
    · exact Ev.congr (fun n => by rw [if_pos (decide_eq_true b3)]) (fin _ ⟨fun _ => .inl ⟨a0, b3⟩, fun _ => rfl⟩)
    · exact Ev.congr (fun n => by rw [if_neg (by rw [decide_eq_true_iff]; exact b3)]) (rest (.inr b3))
  · exact Ev.congr (fun n => by rw [if_neg (by rw [decide_eq_true_iff]; exact a0)]) (rest (.inl a0))
end Go.Proofs.YtfapjegkilljnaaGreat.Round

-- Printed by a program of this session's out of Lean's print of the translation; Lean checks it.
namespace Go.Proofs.YtfapjegkilljnaaGreat.P
open Go.RowKit Go.Proofs.YtfapjegkilljnaaGreatW.PrintWords Go.Proofs.YtfapjegkilljnaaGreatW.PrintLast Go.Proofs.YtfapjegkilljnaaGreatW.PrintMore
attribute [local go_sem] max2_int min2_int max_two min_two max_three min_three max_four min_four

-- NEED 2
/-! ### bO: function 65 -/
mutual
def bO.j0 : Nat → Int → Int → Int → Int → Bool → Int → Int → Bool → Option (Int × Bool × Bool × Bool × Bool × Bool)
 |0, _, _, _, _, _, _, _, _ => none
 |k + 1, x0, x1, x2, x3, x13, x14, x15, x46 => if x46 = true then ((eY.f x0).bind fun bt488 => (some (bt488.1, bt488.2.1, bt488.2.2.1, bt488.2.2.2.1, bt488.2.2.2.2.1, bt488.2.2.2.2.2))) else (if x14 = 3 then ((dE.f x0 x13).bind fun t494 => (some (t494, false, false, false, false, false))) else (if x15 = 3 then (bO.j1 k x0 x1 x2 x3 x13 x15 true) else (bO.j1 k x0 x1 x2 x3 x13 x15 (x14 == 0))))
def bO.j1 : Nat → Int → Int → Int → Int → Bool → Int → Bool → Option (Int × Bool × Bool × Bool × Bool × Bool)
 |0, _, _, _, _, _, _, _ => none
 |k + 1, x0, x1, x2, x3, x13, x15, x69 => if x69 = true then ((dM.f x0 x13).bind fun t495 => (some (t495, false, false, false, false, false))) else (if x15 = 0 then ((dE.f x0 x13).bind fun t496 => (some (t496, false, true, false, false, false))) else ((eZ.f x0 x2).bind fun bt497 => ((eZ.f x0 x3).bind fun bt501 => ((bits_Len.f k bt497.2.2.1).bind fun t507 => ((aT.f k bt497.2.2.1 (wrap64 (-(wrap64 (62 - t507))))).bind fun bt508 => (if bt501.2.2.1 = 0 then (none) else ((aC.f k x0 x1 x13 (wrap64 ((wrap64 (bt497.2.1 - (wrap64 (62 - t507)))) - bt501.2.1)) (IntKind.u64.wrap (Int.tdiv bt508.1 bt501.2.2.1)) ((Int.tmod bt508.1 bt501.2.2.1) != 0)).bind fun bt510 => (some (bt510.1, bt510.2.1, bt510.2.2.1, bt510.2.2.2.1, bt510.2.2.2.2.1, bt510.2.2.2.2.2)))))))))
end
def bO.f (k : Nat) (a0 a1 : Int) (a2 a3 : Int) : Option (Int × Bool × Bool × Bool × Bool × Bool) := (bC.f k a0 (([a2, a3] : List Int))).bind fun bt476 => (if bt476.2.2.2.2.2.2 = true then (some (bt476.1, bt476.2.1, bt476.2.2.1, bt476.2.2.2.1, bt476.2.2.2.2.1, bt476.2.2.2.2.2.1)) else ((dJ.f a0 a2).bind fun t484 => ((dJ.f a0 a3).bind fun t485 => ((aV.f k a0 a2).bind fun t486 => ((aV.f k a0 a3).bind fun t487 => (if t486 = t487 then (if t486 = 0 then (bO.j0 k a0 a1 a2 a3 (t484 != t485) t486 t487 true) else (bO.j0 k a0 a1 a2 a3 (t484 != t485) t486 t487 (t486 == 3))) else (bO.j0 k a0 a1 a2 a3 (t484 != t485) t486 t487 false)))))))
end Go.Proofs.YtfapjegkilljnaaGreat.P

/- Quotients: the program's, as plain numbers. -/
namespace Go.Proofs.YtfapjegkilljnaaGreat.Round
open Go.RowKit Go.Proofs.YtfapjegkilljnaaGreat.P Go.Proofs.YtfapjegkilljnaaGreat.Num Go.Proofs.YtfapjegkilljnaaGreat.BitsF Go.Proofs.YtfapjegkilljnaaGreat.Fmt Go.Proofs.YtfapjegkilljnaaGreatW.PrintWords Go.Proofs.YtfapjegkilljnaaGreatW.PrintLast Go.Proofs.YtfapjegkilljnaaGreatW.PrintMore

def eU (f : Int) (v : Nat) : Nat := 62 - fK (bJ f v)
def aB2 (f mode : Int) (a b : Nat) : Nat := fI f mode (dB f a != dB f b) (bB f a - bB f b - (eU f a : Int)) (bJ f a * 2 ^ eU f a / bJ f b) (decide (bJ f a * 2 ^ eU f a % bJ f b ≠ 0))
def ratioX (f mode : Int) (a b : Nat) : Bool × Bool × Bool := kY f mode (dB f a != dB f b) (bB f a - bB f b - (eU f a : Int)) (bJ f a * 2 ^ eU f a / bJ f b) (decide (bJ f a * 2 ^ eU f a % bJ f b ≠ 0))
def divN (f mode : Int) (a b : Nat) : Nat :=
 if 4 ≤ bM f a ∨ 4 ≤ bM f b then pQ f else if bM f a = bM f b ∧ (bM f a = 0 ∨ bM f a = 3) then pQ f else if bM f a = 3 then nG f (dB f a != dB f b)
 else if bM f b = 3 ∨ bM f a = 0 then eP f (dB f a != dB f b) else if bM f b = 0 then nG f (dB f a != dB f b) else aB2 f mode a b
def xH (f mode : Int) (a b : Nat) : Bool × Bool × Bool × Bool × Bool :=
 if 4 ≤ bM f a ∨ 4 ≤ bM f b then (fC f a || fC f b, false, false, false, false) else if bM f a = bM f b ∧ (bM f a = 0 ∨ bM f a = 3) then (true, false, false, false, false) else if bM f a = 3 then (false, false, false, false, false)
 else if bM f b = 3 ∨ bM f a = 0 then (false, false, false, false, false) else if bM f b = 0 then (false, true, false, false, false) else (false, false, ratioX f mode a b)
theorem lJ (f : Int) (v : Nat) (h : bM f v ≠ 0) (h3 : bM f v < 3) : bJ f v ≠ 0 := by
 have hp := Nat.two_pow_pos (fm f)
 unfold bM at h h3
 unfold bJ
 by_cases c : mY f v = 0
 ·rw [if_pos c] at h ⊢
  intro z; rw [if_pos z] at h; exact h rfl
 ·rw [if_neg c]; omega
theorem zQ (f : Int) (v : Nat) : bJ f v < 16777216 := by
 have h := jL f v
 have := dN f
 have := Nat.pow_le_pow_right (show 0 < 2 by decide) (show fm f + 1 ≤ 24 by omega)
 omega
theorem jV (f : Int) (v : Nat) (h : bJ f v ≠ 0) : 38 ≤ eU f v ∧ eU f v ≤ 61 ∧ fK (bJ f v) + eU f v = 62 ∧ 2305843009213693952 ≤ bJ f v * 2 ^ eU f v ∧ bJ f v * 2 ^ eU f v < 4611686018427387904 := by
 have h1 := fO _ _ (jL f v)
 have h2 := kS _ h
 have hb := dN f
 have e : fK (bJ f v) + eU f v = 62 := by unfold eU; omega
 have hp := Nat.two_pow_pos (eU f v)
 have l1 := Nat.mul_le_mul_right (2 ^ eU f v) (qI _ h)
 have l2 := Nat.mul_lt_mul_of_pos_right (lF (bJ f v)) hp
 rw [← Nat.pow_add, show fK (bJ f v) - 1 + eU f v = 61 by omega] at l1
 rw [← Nat.pow_add, e] at l2
 exact ⟨by omega, by omega, e, l1, l2⟩
theorem zO (a b : Nat) : Int.tdiv (a : Int) (b : Int) = ((a / b : Nat) : Int) := rfl
theorem aBJ (a b : Nat) : Int.tmod (a : Int) (b : Int) = ((a % b : Nat) : Int) := rfl
theorem zT (v n : Nat) (h : v * 2 ^ n < 18446744073709551616) : (lN v (-(n : Int))).1 = v * 2 ^ n := by
 have hp := Nat.two_pow_pos n
 have hv : v < 18446744073709551616 := Nat.lt_of_le_of_lt (Nat.le_mul_of_pos_right v hp) h
 rw [lI v n hv]
 exact Nat.mod_eq_of_lt h
theorem div_j1 (f mode : Int) (a b : Nat) (ha : a < 4294967296) (hb : b < 4294967296) (ca : bM f a < 3) (cb : bM f b ≤ 3) (hz : ¬ (bM f a = bM f b ∧ (bM f a = 0 ∨ bM f a = 3))) :
  Ev (fun k => bO.j1 k f mode (a : Int) (b : Int) (dB f a != dB f b) (bM f b : Int) (decide (bM f b = 3 ∨ bM f a = 0))) ((divN f mode a b : Int), xH f mode a b) := by
 unfold divN xH
 rw [if_neg (show ¬ (4 ≤ bM f a ∨ 4 ≤ bM f b) by omega), if_neg (show ¬ (4 ≤ bM f a ∨ 4 ≤ bM f b) by omega)]
 by_cases c0 : bM f b = 3 ∨ bM f a = 0
 ·rw [decide_eq_true c0]
  rw [if_neg hz, if_neg hz, if_neg (show ¬ bM f a = 3 by omega), if_neg (show ¬ bM f a = 3 by omega), if_pos c0, if_pos c0]
  exact Ev.step (fun k => by rw [bO.j1, if_pos rfl, uL, Option.bind_some]) (Ev.now _)
 ·rw [decide_eq_false c0, if_neg hz, if_neg hz, if_neg (show ¬ bM f a = 3 by omega), if_neg (show ¬ bM f a = 3 by omega), if_neg c0, if_neg c0]
  by_cases b0 : bM f b = 0
  ·rw [if_pos b0, if_pos b0]
   exact Ev.step (fun k => by rw [bO.j1, if_neg (by decide), if_pos (by omega), yE, Option.bind_some]) (Ev.now _)
  ·rw [if_neg b0, if_neg b0]
   have wa := lJ f a (by omega) ca
   have wb := lJ f b b0 (by omega)
   obtain ⟨k1, k2, k3, k4, k5⟩ := jV f a wa
   have hs := vE f a
   obtain ⟨l1, l2⟩ := dV f a
   obtain ⟨m1, m2⟩ := dV f b
   have hw : wrap64 (-(wrap64 (62 - (fK (bJ f a) : Int)))) = -(eU f a : Int) := by rw [bW (62 - (fK (bJ f a) : Int)) (by omega) (by omega), bW _ (by omega) (by omega)]; omega
   have he : wrap64 ((wrap64 (bB f a - (wrap64 (62 - (fK (bJ f a) : Int))))) - bB f b) = bB f a - bB f b - (eU f a : Int) := by
    rw [bW (62 - (fK (bJ f a) : Int)) (by omega) (by omega), bW (bB f a - (62 - (fK (bJ f a) : Int))) (by omega) (by omega), bW _ (by omega) (by omega)]; omega
   have hsh := rO (bJ f a) hs (-(eU f a : Int)) (by omega) (by omega)
   have hq : bJ f a * 2 ^ eU f a / bJ f b < 18446744073709551616 := Nat.lt_of_le_of_lt (Nat.div_le_self _ _) (by omega)
   have hp := pR f mode (dB f a != dB f b) (bB f a - bB f b - (eU f a : Int)) (bJ f a * 2 ^ eU f a / bJ f b) (decide (bJ f a * 2 ^ eU f a % bJ f b ≠ 0)) hq
   rw [iF _ (by omega) (by omega)] at hp
   refine Ev.step (fun k => by rw [bO.j1, if_neg (by decide), if_neg (by omega), of_f f a ha (gT f a ca), Option.bind_some, of_f f b hb (gT f b (by omega)), Option.bind_some]) (Ev.bind (aCf _ hs) ?_)
   dsimp only
   rw [hw, he]
   refine Ev.bind hsh ?_
   dsimp only
   rw [zT _ _ (by omega), zO, aBJ, fD _ hq, show (0 : Int) = ((0 : Nat) : Int) from rfl, bne_cast]
   exact Ev.congr (fun k => by rw [if_neg (by omega)]) (Ev.bind hp (Ev.now _))
theorem div_ev (f mode : Int) (a b : Nat) (ha : a < 4294967296) (hb : b < 4294967296) : Ev (fun k => bO.f k f mode (a : Int) (b : Int)) ((divN f mode a b : Int), xH f mode a b) := by
 refine Ev.congr (fun k => by unfold bO.f; rfl) (Ev.bind (oP f a b ha hb) ?_)
 by_cases n : 4 ≤ bM f a ∨ 4 ≤ bM f b
 ·have e : (dX f a || dX f b) = true := by unfold dX; rw [Bool.or_eq_true, decide_eq_true_iff, decide_eq_true_iff]; exact n
  unfold divN xH
  rw [if_pos n, if_pos n]
  exact Ev.congr (fun k => by rw [if_pos e]) (Ev.now _)
 ·have e : ¬ (dX f a || dX f b) = true := by unfold dX; rw [Bool.or_eq_true, decide_eq_true_iff, decide_eq_true_iff]; exact n
  refine Ev.congr (fun k => by rw [if_neg e, sQ f a ha, Option.bind_some, sQ f b hb, Option.bind_some]) (Ev.bind (pE f a ha) (Ev.bind (pE f b hb) ?_))
  have bad : (bM f a = bM f b ∧ (bM f a = 0 ∨ bM f a = 3)) → Ev (fun k => bO.j0 k f mode (a : Int) (b : Int) (dB f a != dB f b) (bM f a : Int) (bM f b : Int) true) ((divN f mode a b : Int), xH f mode a b) := by
   intro z
   unfold divN xH
   rw [if_neg n, if_neg n, if_pos z, if_pos z]
   exact Ev.step (fun k => by rw [bO.j0, if_pos rfl, aAH]; rfl) (Ev.now _)
  have good : ¬ (bM f a = bM f b ∧ (bM f a = 0 ∨ bM f a = 3)) → Ev (fun k => bO.j0 k f mode (a : Int) (b : Int) (dB f a != dB f b) (bM f a : Int) (bM f b : Int) false) ((divN f mode a b : Int), xH f mode a b) := by
   intro z
   by_cases a3 : bM f a = 3
   ·unfold divN xH
    rw [if_neg n, if_neg n, if_neg z, if_neg z, if_pos a3, if_pos a3]
    exact Ev.step (fun k => by rw [bO.j0, if_neg (by decide), if_pos (by omega), yE]; rfl) (Ev.now _)
   ·have hj := div_j1 f mode a b ha hb (by omega) (by omega) z
    by_cases b3 : bM f b = 3
    ·rw [decide_eq_true (.inl b3)] at hj
     exact Ev.step (fun k => by rw [bO.j0, if_neg (by decide), if_neg (by omega), if_pos (by omega)]) hj
    ·have e0 : decide (bM f b = 3 ∨ bM f a = 0) = ((bM f a : Int) == 0) := by
      rw [show (0 : Int) = ((0 : Nat) : Int) from rfl, nI]; apply decide_eq_decide.mpr; omega
     rw [e0] at hj
     exact Ev.step (fun k => by rw [bO.j0, if_neg (by decide), if_neg (by omega), if_neg (by omega)]) hj
  by_cases s : bM f a = bM f b
  ·by_cases a0 : bM f a = 0
   ·exact Ev.congr (fun k => by rw [if_pos (by omega), if_pos (by omega)]) (bad ⟨s, .inl a0⟩)
   ·by_cases a3 : bM f a = 3
    ·have e3 : (((bM f a : Nat) : Int) == 3) = true := by rw [a3]; rfl
     exact Ev.congr (fun k => by rw [if_pos (by omega), if_neg (by omega), e3]) (bad ⟨s, .inr a3⟩)
    ·have e3 : (((bM f a : Nat) : Int) == 3) = false := by rw [show (3 : Int) = ((3 : Nat) : Int) from rfl, nI]; exact decide_eq_false a3
     exact Ev.congr (fun k => by rw [if_pos (by omega), if_neg (by omega), e3]) (good (by omega))
  ·exact Ev.congr (fun k => by rw [if_neg (by omega)]) (good (by omega))
end Go.Proofs.YtfapjegkilljnaaGreat.Round

-- Printed by a program of this session's out of Lean's print of the translation; Lean checks it.
namespace Go.Proofs.YtfapjegkilljnaaGreat.P
open Go.RowKit Go.Proofs.YtfapjegkilljnaaGreatW.PrintWords Go.Proofs.YtfapjegkilljnaaGreatW.PrintLast Go.Proofs.YtfapjegkilljnaaGreatW.PrintMore
attribute [local go_sem] max2_int min2_int max_two min_two max_three min_three max_four min_four

-- NEED 1
/-! ### aB: function 40 -/
mutual
def aB.j0 : Nat → Int → Int → Int → Int → Bool → Bool → Option (Int × Bool × Bool × Bool × Bool × Bool)
 |0, _, _, _, _, _, _ => none
 |k + 1, x0, x1, x2, x3, x12, x39 => if x39 = true then ((bH.f x0).bind fun t958 => (some (t958, true, false, false, false, false))) else ((aG.f k x0 x2).bind fun t959 => (if t959 = true then ((bF.f x0 x12).bind fun t960 => (some (t960, false, false, false, false, false))) else ((aG.f k x0 x3).bind fun t961 => (if t961 = true then (aB.j1 k x0 x1 x2 x3 x12 true) else ((aK.f k x0 x2).bind fun t962 => (aB.j1 k x0 x1 x2 x3 x12 t962))))))
def aB.j1 : Nat → Int → Int → Int → Int → Bool → Bool → Option (Int × Bool × Bool × Bool × Bool × Bool)
 |0, _, _, _, _, _, _ => none
 |k + 1, x0, x1, x2, x3, x12, x69 => if x69 = true then ((aW.f x0 x12).bind fun t963 => (some (t963, false, false, false, false, false))) else ((aK.f k x0 x3).bind fun t964 => (if t964 = true then ((bF.f x0 x12).bind fun t965 => (some (t965, false, true, false, false, false))) else ((aH.f k x0 x2).bind fun bt966 => ((aH.f k x0 x3).bind fun bt969 => (aB.l0 k x0 x1 x12 bt966.2.1 bt966.2.2 bt969.2.1 bt969.2.2)))))
def aB.l0 : Nat → Int → Int → Bool → Int → Int → Int → Int → Option (Int × Bool × Bool × Bool × Bool × Bool)
 |0, _, _, _, _, _, _, _ => none
 |k + 1, x0, x1, x12, x14, x15, x17, x18 => if x15 < 8388608 then (aB.l0 k x0 x1 x12 (wrap64 (x14 - 1)) (IntKind.u64.wrap (x15 * 2)) x17 x18) else (aB.l1 k x0 x1 x12 x14 x15 x17 x18)
def aB.l1 : Nat → Int → Int → Bool → Int → Int → Int → Int → Option (Int × Bool × Bool × Bool × Bool × Bool)
 |0, _, _, _, _, _, _, _ => none
 |k + 1, x0, x1, x12, x14, x15, x17, x18 => if x18 < 8388608 then (aB.l1 k x0 x1 x12 x14 x15 (wrap64 (x17 - 1)) (IntKind.u64.wrap (x18 * 2))) else (if x18 = 0 then (none) else ((aA.f k x0 x1 x12 (wrap64 ((wrap64 (x14 - x17)) - 40)) (IntKind.u64.wrap (Int.tdiv (IntKind.u64.wrap (x15 * 1099511627776)) x18)) ((Int.tmod (IntKind.u64.wrap (x15 * 1099511627776)) x18) != 0)).bind fun bt972 => (some (bt972.1, bt972.2.1, bt972.2.2.1, bt972.2.2.2.1, bt972.2.2.2.2.1, bt972.2.2.2.2.2))))
end
def aB.f (k : Nat) (a0 a1 : Int) (a2 a3 : Int) : Option (Int × Bool × Bool × Bool × Bool × Bool) := (aD.f k a0 (([a2, a3] : List Int))).bind fun bt947 => (if bt947.1 = true then ((bH.f a0).bind fun t949 => (some (t949, bt947.2, false, false, false, false))) else ((bA.f a0 a2).bind fun t950 => ((bA.f a0 a3).bind fun t951 => ((aK.f k a0 a2).bind fun t952 => (if t952 = true then ((aK.f k a0 a3).bind fun t953 => (if t953 = true then (aB.j0 k a0 a1 a2 a3 (t950 != t951) true) else ((aG.f k a0 a2).bind fun t954 => (if t954 = true then ((aG.f k a0 a3).bind fun t955 => (aB.j0 k a0 a1 a2 a3 (t950 != t951) t955)) else (aB.j0 k a0 a1 a2 a3 (t950 != t951) false))))) else ((aG.f k a0 a2).bind fun t956 => (if t956 = true then ((aG.f k a0 a3).bind fun t957 => (aB.j0 k a0 a1 a2 a3 (t950 != t951) t957)) else (aB.j0 k a0 a1 a2 a3 (t950 != t951) false))))))))
end Go.Proofs.YtfapjegkilljnaaGreat.P

/- Quotients: the reference's, as the program's plain numbers. -/
namespace Go.Proofs.YtfapjegkilljnaaGreat.Round
open Go.RowKit Go.Proofs.YtfapjegkilljnaaGreat.P Go.Proofs.YtfapjegkilljnaaGreat.Num Go.Proofs.YtfapjegkilljnaaGreat.BitsF Go.Proofs.YtfapjegkilljnaaGreat.Fmt Go.Proofs.YtfapjegkilljnaaGreatW.PrintWords Go.Proofs.YtfapjegkilljnaaGreatW.PrintLast Go.Proofs.YtfapjegkilljnaaGreatW.PrintMore

theorem aAv (f mode : Int) (s : Bool) (x : Int) (m : Nat) (r : Int × Bool × Bool × Bool × Bool × Bool) (i : Nat) : ∀ (y : Int) (n : Nat), n ≠ 0 → fK n + i = 24 → -100000 ≤ y - i → y ≤ 100000 →
  Ev (fun k => aB.l1 k f mode s x (m : Int) (y - (i : Int)) ((n * 2 ^ i : Nat) : Int)) r → Ev (fun k => aB.l1 k f mode s x (m : Int) y (n : Int)) r := by
 induction i with
 |zero => intro y n _ _ _ _ h; simpa using h
 |succ i ih =>
  intro y n h0 hl h1 h2 h
  have hn := Nat.lt_of_lt_of_le (lF n) (Nat.pow_le_pow_right (show 0 < 2 by decide) (show fK n ≤ 23 by omega))
  have hl2 := oW n 1 h0
  rw [Nat.pow_one] at hl2
  have hw : IntKind.u64.wrap ((n : Int) * 2) = ((n * 2 : Nat) : Int) := by rw [show (n : Int) * 2 = ((n * 2 : Nat) : Int) by omega, fD _ (by omega)]
  refine Ev.step (fun k => by rw [aB.l1, if_pos (by omega), hw, bW (y - 1) (by omega) (by omega)]) (ih (y - 1) (n * 2) (by omega) (by omega) (by omega) (by omega) ?_)
  rw [show y - 1 - (i : Int) = y - ((i + 1 : Nat) : Int) by omega, Nat.mul_assoc, ← Nat.pow_succ']
  exact h
theorem aAL (f mode : Int) (s : Bool) (y : Int) (n : Nat) (r : Int × Bool × Bool × Bool × Bool × Bool) (i : Nat) : ∀ (x : Int) (m : Nat), m ≠ 0 → fK m + i = 24 → -100000 ≤ x - i → x ≤ 100000 →
  Ev (fun k => aB.l0 k f mode s (x - (i : Int)) ((m * 2 ^ i : Nat) : Int) y (n : Int)) r → Ev (fun k => aB.l0 k f mode s x (m : Int) y (n : Int)) r := by
 induction i with
 |zero => intro y n _ _ _ _ h; simpa using h
 |succ i ih =>
  intro x m h0 hl h1 h2 h
  have hn := Nat.lt_of_lt_of_le (lF m) (Nat.pow_le_pow_right (show 0 < 2 by decide) (show fK m ≤ 23 by omega))
  have hl2 := oW m 1 h0
  rw [Nat.pow_one] at hl2
  have hw : IntKind.u64.wrap ((m : Int) * 2) = ((m * 2 : Nat) : Int) := by rw [show (m : Int) * 2 = ((m * 2 : Nat) : Int) by omega, fD _ (by omega)]
  refine Ev.step (fun k => by rw [aB.l0, if_pos (by omega), hw, bW (x - 1) (by omega) (by omega)]) (ih (x - 1) (m * 2) (by omega) (by omega) (by omega) (by omega) ?_)
  rw [show x - 1 - (i : Int) = x - ((i + 1 : Nat) : Int) by omega, Nat.mul_assoc, ← Nat.pow_succ']
  exact h
theorem nO (n i L : Nat) (h0 : n ≠ 0) (h : fK n + i = L + 1) : 2 ^ L ≤ n * 2 ^ i ∧ n * 2 ^ i < 2 ^ (L + 1) := by
 have hp := Nat.two_pow_pos i
 have h1 := kS n h0
 have l1 := Nat.mul_le_mul_right (2 ^ i) (qI n h0)
 have l2 := Nat.mul_lt_mul_of_pos_right (lF n) hp
 rw [← Nat.pow_add, show fK n - 1 + i = L by omega] at l1
 rw [← Nat.pow_add, h] at l2
 exact ⟨l1, l2⟩
theorem aAG (f mode : Int) (s : Bool) (e : Int) (A B i j c : Nat) (hA : A ≠ 0) (hB : B ≠ 0) (hi : fK A + i = 24) (hj : fK B + j = 24) (hc : fK A + c = 62) :
  fI f mode s (e - (i : Int) + (j : Int) - 40) (A * 2 ^ i * 1099511627776 / (B * 2 ^ j)) (decide (A * 2 ^ i * 1099511627776 % (B * 2 ^ j) ≠ 0)) = fI f mode s (e - c) (A * 2 ^ c / B) (decide (A * 2 ^ c % B ≠ 0)) ∧
  kY f mode s (e - (i : Int) + (j : Int) - 40) (A * 2 ^ i * 1099511627776 / (B * 2 ^ j)) (decide (A * 2 ^ i * 1099511627776 % (B * 2 ^ j) ≠ 0)) = kY f mode s (e - c) (A * 2 ^ c / B) (decide (A * 2 ^ c % B ≠ 0)) := by
 obtain ⟨a1, a2⟩ := nO A i 23 hA hi
 obtain ⟨b1, b2⟩ := nO B j 23 hB hj
 obtain ⟨c1, c2⟩ := nO A c 61 hA hc
 have hpj := Nat.two_pow_pos j
 have hla := kS A hA
 have hlb := kS B hB
 have hb := dN f
 have hf : 2 ^ (fm f + 1) ≤ 16777216 := Nat.pow_le_pow_right (show 0 < 2 by decide) (show fm f + 1 ≤ 24 by omega)
 have hBl : B < 16777216 := Nat.lt_of_lt_of_le (lF B) (Nat.pow_le_pow_right (show 0 < 2 by decide) (show fK B ≤ 24 by omega))
 obtain ⟨d, hd⟩ : ∃ d, i + 40 = d + j := ⟨i + 40 - j, by omega⟩
 have e1 : A * 2 ^ i * 1099511627776 = A * 2 ^ d * 2 ^ j := by
  rw [show 1099511627776 = 2 ^ 40 from rfl, Nat.mul_assoc, ← Nat.pow_add, hd, Nat.pow_add, ← Nat.mul_assoc]
 have q1 : 2 ^ (fm f + 1) ≤ A * 2 ^ d / B := by
  rw [Nat.le_div_iff_mul_le (by omega)]
  refine Nat.le_of_mul_le_mul_right ?_ hpj
  rw [← e1, Nat.mul_assoc]
  have h1 := Nat.mul_le_mul hf (Nat.le_of_lt b2)
  have h2 := Nat.mul_le_mul_right 1099511627776 a1
  refine Nat.le_trans h1 (Nat.le_trans ?_ h2)
  decide
 have q2 : 2 ^ (fm f + 1) ≤ A * 2 ^ c / B := by
  rw [Nat.le_div_iff_mul_le (by omega)]
  refine Nat.le_trans (Nat.mul_le_mul hf (Nat.le_of_lt hBl)) (Nat.le_trans ?_ c1)
  decide
 have hm : decide (A * 2 ^ d * 2 ^ j % (B * 2 ^ j) ≠ 0) = decide (A * 2 ^ d % B ≠ 0) := by
  rw [Nat.mul_mod_mul_right]
  apply decide_eq_decide.mpr
  rw [Nat.mul_ne_zero_iff]
  exact ⟨fun h => h.1, fun h => ⟨h, by omega⟩⟩
 rw [e1, Nat.mul_div_mul_right _ _ hpj, hm, show e - (i : Int) + (j : Int) - 40 = e - (d : Int) by omega]
 exact quo_same f mode s e A B d c (by omega) q1 q2
theorem wK (f mode : Int) (a b : Nat) (ha : a < 4294967296) (hb : b < 4294967296) (ca : bM f a < 3) (cb : bM f b < 3) (a0 : bM f a ≠ 0) (b0 : bM f b ≠ 0) :
  Ev (fun k => aB.l0 k f mode (dB f a != dB f b) (bB f a) (bJ f a : Int) (bB f b) (bJ f b : Int)) ((aB2 f mode a b : Int), false, false, ratioX f mode a b) := by
 have wa := lJ f a a0 ca
 have wb := lJ f b b0 cb
 have ha24 := fO _ 24 (zQ f a)
 have hb24 := fO _ 24 (zQ f b)
 obtain ⟨i, hi⟩ : ∃ i, fK (bJ f a) + i = 24 := ⟨24 - fK (bJ f a), by omega⟩
 obtain ⟨j, hj⟩ : ∃ j, fK (bJ f b) + j = 24 := ⟨24 - fK (bJ f b), by omega⟩
 obtain ⟨l1, l2⟩ := dV f a
 obtain ⟨m1, m2⟩ := dV f b
 obtain ⟨_, _, k3, _⟩ := jV f a wa
 obtain ⟨a1, a2⟩ := nO _ i 23 wa hi
 obtain ⟨b1, b2⟩ := nO _ j 23 wb hj
 obtain ⟨r1, r2⟩ := aAG f mode (dB f a != dB f b) (bB f a - bB f b) (bJ f a) (bJ f b) i j (eU f a) wa wb hi hj k3
 refine aAL f mode _ _ _ _ i _ _ wa hi (by omega) (by omega) ?_
 refine Ev.step (fun k => by rw [aB.l0, if_neg (by omega)]) (aAv f mode _ _ _ _ j _ _ wb hj (by omega) (by omega) ?_)
 have hs : bJ f a * 2 ^ i * 1099511627776 / (bJ f b * 2 ^ j) < 18446744073709551616 := Nat.lt_of_le_of_lt (Nat.div_le_self _ _) (by omega)
 have hp := lM f mode (dB f a != dB f b) (bB f a - bB f b - (i : Int) + (j : Int) - 40) (bJ f a * 2 ^ i * 1099511627776 / (bJ f b * 2 ^ j)) (decide (bJ f a * 2 ^ i * 1099511627776 % (bJ f b * 2 ^ j) ≠ 0)) hs
 rw [iF _ (by omega) (by omega), r1, r2] at hp
 have he : wrap64 ((wrap64 (bB f a - (i : Int) - (bB f b - (j : Int)))) - 40) = bB f a - bB f b - (i : Int) + (j : Int) - 40 := by
  rw [bW (bB f a - (i : Int) - (bB f b - (j : Int))) (by omega) (by omega), bW _ (by omega) (by omega)]; omega
 have hm : IntKind.u64.wrap (((bJ f a * 2 ^ i : Nat) : Int) * 1099511627776) = ((bJ f a * 2 ^ i * 1099511627776 : Nat) : Int) := by
  rw [show ((bJ f a * 2 ^ i : Nat) : Int) * 1099511627776 = ((bJ f a * 2 ^ i * 1099511627776 : Nat) : Int) by omega, fD _ (by omega)]
 refine Ev.step (fun k => by rw [aB.l1, if_neg (by omega), if_neg (by omega), he, hm, zO, aBJ, fD _ hs, show (0 : Int) = ((0 : Nat) : Int) from rfl, bne_cast]) (Ev.bind hp ?_)
 exact Ev.now _
theorem aAN (f mode : Int) (a b : Nat) (ha : a < 4294967296) (hb : b < 4294967296) (ca : bM f a < 3) (cb : bM f b ≤ 3) (hz : ¬ (bM f a = bM f b ∧ (bM f a = 0 ∨ bM f a = 3))) :
  Ev (fun k => aB.j1 k f mode (a : Int) (b : Int) (dB f a != dB f b) (decide (bM f b = 3 ∨ bM f a = 0))) ((divN f mode a b : Int), xH f mode a b) := by
 unfold divN xH
 rw [if_neg (show ¬ (4 ≤ bM f a ∨ 4 ≤ bM f b) by omega), if_neg (show ¬ (4 ≤ bM f a ∨ 4 ≤ bM f b) by omega)]
 by_cases c0 : bM f b = 3 ∨ bM f a = 0
 ·rw [decide_eq_true c0]
  rw [if_neg hz, if_neg hz, if_neg (show ¬ bM f a = 3 by omega), if_neg (show ¬ bM f a = 3 by omega), if_pos c0, if_pos c0]
  exact Ev.step (fun k => by rw [aB.j1, if_pos rfl, jE, Option.bind_some]) (Ev.now _)
 ·rw [decide_eq_false c0, if_neg hz, if_neg hz, if_neg (show ¬ bM f a = 3 by omega), if_neg (show ¬ bM f a = 3 by omega), if_neg c0, if_neg c0]
  by_cases b0 : bM f b = 0
  ·rw [if_pos b0, if_pos b0]
   refine Ev.step (fun k => by rw [aB.j1, if_neg (by decide)]) (Ev.bind (iB f b hb) ?_)
   exact Ev.congr (fun k => by rw [if_pos (decide_eq_true b0), kD]; rfl) (Ev.now _)
  ·rw [if_neg b0, if_neg b0]
   refine Ev.step (fun k => by rw [aB.j1, if_neg (by decide)]) (Ev.bind (iB f b hb) ?_)
   refine Ev.congr (fun k => by rw [if_neg (by simp [b0])]) (Ev.bind (iJ f a ha (gT f a ca)) (Ev.bind (iJ f b hb (gT f b (by omega))) ?_))
   exact wK f mode a b ha hb ca (by omega) (by omega) b0
theorem aAy (f mode : Int) (a b : Nat) (ha : a < 4294967296) (hb : b < 4294967296) : Ev (fun k => aB.f k f mode (a : Int) (b : Int)) ((divN f mode a b : Int), xH f mode a b) := by
 refine Ev.congr (fun k => by unfold aB.f; rfl) (Ev.bind (vG f a b ha hb) ?_)
 by_cases n : 4 ≤ bM f a ∨ 4 ≤ bM f b
 ·have e : (dX f a || dX f b) = true := by unfold dX; rw [Bool.or_eq_true, decide_eq_true_iff, decide_eq_true_iff]; exact n
  unfold divN xH
  rw [if_pos n, if_pos n]
  exact Ev.congr (fun k => by rw [if_pos e, iN]; rfl) (Ev.now _)
 ·have e : ¬ (dX f a || dX f b) = true := by unfold dX; rw [Bool.or_eq_true, decide_eq_true_iff, decide_eq_true_iff]; exact n
  refine Ev.congr (fun k => by rw [if_neg e, kF f a ha, Option.bind_some, kF f b hb, Option.bind_some]) (Ev.bind (iB f a ha) ?_)
  have bad : (bM f a = bM f b ∧ (bM f a = 0 ∨ bM f a = 3)) → Ev (fun k => aB.j0 k f mode (a : Int) (b : Int) (dB f a != dB f b) true) ((divN f mode a b : Int), xH f mode a b) := by
   intro z
   unfold divN xH
   rw [if_neg n, if_neg n, if_pos z, if_pos z]
   exact Ev.step (fun k => by rw [aB.j0, if_pos rfl, iN]; rfl) (Ev.now _)
  have good : ¬ (bM f a = bM f b ∧ (bM f a = 0 ∨ bM f a = 3)) → Ev (fun k => aB.j0 k f mode (a : Int) (b : Int) (dB f a != dB f b) false) ((divN f mode a b : Int), xH f mode a b) := by
   intro z
   refine Ev.step (fun k => by rw [aB.j0, if_neg (by decide)]) (Ev.bind (gG f a ha) ?_)
   by_cases a3 : bM f a = 3
   ·unfold divN xH
    rw [if_neg n, if_neg n, if_neg z, if_neg z, if_pos a3, if_pos a3]
    exact Ev.congr (fun k => by rw [if_pos (decide_eq_true a3), kD]; rfl) (Ev.now _)
   ·have hj := aAN f mode a b ha hb (by omega) (by omega) z
    refine Ev.congr (fun k => by rw [if_neg (by simp [a3])]) (Ev.bind (gG f b hb) ?_)
    by_cases b3 : bM f b = 3
    ·rw [decide_eq_true (.inl b3)] at hj
     exact Ev.congr (fun k => by rw [if_pos (decide_eq_true b3)]) hj
    ·rw [show decide (bM f b = 3 ∨ bM f a = 0) = decide (bM f a = 0) from decide_eq_decide.mpr (by omega)] at hj
     exact Ev.congr (fun k => by rw [if_neg (by simp [b3])]) (Ev.bind (iB f a ha) hj)
  by_cases a0 : bM f a = 0
  ·refine Ev.congr (fun k => by rw [if_pos (decide_eq_true a0)]) (Ev.bind (iB f b hb) ?_)
   by_cases b0 : bM f b = 0
   ·exact Ev.congr (fun k => by rw [if_pos (decide_eq_true b0)]) (bad (by omega))
   ·refine Ev.congr (fun k => by rw [if_neg (by simp [b0])]) (Ev.bind (gG f a ha) ?_)
    exact Ev.congr (fun k => by rw [if_neg (by simp [a0])]) (good (by omega))
  ·refine Ev.congr (fun k => by rw [if_neg (by simp [a0])]) (Ev.bind (gG f a ha) ?_)
   by_cases a3 : bM f a = 3
   ·refine Ev.congr (fun k => by rw [if_pos (decide_eq_true a3)]) (Ev.bind (gG f b hb) ?_)
    by_cases b3 : bM f b = 3
    ·rw [decide_eq_true b3]; exact bad (by omega)
    ·rw [decide_eq_false b3]; exact good (by omega)
   ·exact Ev.congr (fun k => by rw [if_neg (by simp [a3])]) (good (by omega))
/- Numbers times powers of two: the program's, as plain numbers. -/

/- Numbers made whole: the program's, as plain numbers. -/

theorem w32_id (n : Int) (h : -2147483648 ≤ n) (h' : n ≤ 2147483647) : wrap32 n = n := by unfold wrap32; omega
theorem w32_in (n : Int) : -2147483648 ≤ wrap32 n ∧ wrap32 n ≤ 2147483647 := by unfold wrap32; omega
theorem fits (V : Int) (h1 : -1099511627776 ≤ V) (h2 : V ≤ 1099511627776) (x : Bool) : (if V = wrap64 (wrap32 V) then some (wrap32 V, false, false, false, false, x) else some (-2147483648, true, false, false, false, false)) =
    some (if -2147483648 ≤ V ∧ V ≤ 2147483647 then (V, false, false, false, false, x) else (-2147483648, true, false, false, false, false)) := by
  obtain ⟨w1, w2⟩ := w32_in V
  rw [bW (wrap32 V) (by omega) (by omega)]
  by_cases c : -2147483648 ≤ V ∧ V ≤ 2147483647
  · rw [w32_id V c.1 c.2, if_pos rfl, if_pos c]
  · rw [if_neg (by omega), if_neg c]
/- Whole numbers as numbers, and numbers made whole that stay numbers: the program's, as plain numbers. -/

end Go.Proofs.YtfapjegkilljnaaGreat.Round

-- Printed by a program of this session's out of Lean's print of the translation; Lean checks it.
namespace Go.Proofs.YtfapjegkilljnaaGreat.P
open Go.RowKit Go.Proofs.YtfapjegkilljnaaGreatW.PrintWords Go.Proofs.YtfapjegkilljnaaGreatW.PrintLast Go.Proofs.YtfapjegkilljnaaGreatW.PrintMore
attribute [local go_sem] max2_int min2_int max_two min_two max_three min_three max_four min_four

-- NEED 1
/-! ### aJ: function 38 -/
mutual
def aJ.j0 : Nat → Int → Int → Int → Int → Bool → Bool → Option (Int × Bool × Bool × Bool × Bool × Bool)
 |0, _, _, _, _, _, _ => none
 |k + 1, x0, x1, x2, x3, x12, x56 => if x56 = true then ((bH.f x0).bind fun t913 => (some (t913, true, false, false, false, false))) else ((aG.f k x0 x2).bind fun t914 => (if t914 = true then (aJ.j1 k x0 x1 x2 x3 x12 true) else ((aG.f k x0 x3).bind fun t915 => (aJ.j1 k x0 x1 x2 x3 x12 t915))))
def aJ.j1 : Nat → Int → Int → Int → Int → Bool → Bool → Option (Int × Bool × Bool × Bool × Bool × Bool)
 |0, _, _, _, _, _, _ => none
 |k + 1, x0, x1, x2, x3, x12, x67 => if x67 = true then ((bF.f x0 x12).bind fun t916 => (some (t916, false, false, false, false, false))) else ((aH.f k x0 x2).bind fun bt917 => ((aH.f k x0 x3).bind fun bt920 => ((aA.f k x0 x1 x12 (wrap64 (bt917.2.1 + bt920.2.1)) (IntKind.u64.wrap (bt917.2.2 * bt920.2.2)) false).bind fun bt923 => (some (bt923.1, bt923.2.1, bt923.2.2.1, bt923.2.2.2.1, bt923.2.2.2.2.1, bt923.2.2.2.2.2)))))
end
def aJ.f (k : Nat) (a0 a1 : Int) (a2 a3 : Int) : Option (Int × Bool × Bool × Bool × Bool × Bool) := (aD.f k a0 (([a2, a3] : List Int))).bind fun bt902 => (if bt902.1 = true then ((bH.f a0).bind fun t904 => (some (t904, bt902.2, false, false, false, false))) else ((bA.f a0 a2).bind fun t905 => ((bA.f a0 a3).bind fun t906 => ((aK.f k a0 a2).bind fun t907 => (if t907 = true then ((aG.f k a0 a3).bind fun t908 => (if t908 = true then (aJ.j0 k a0 a1 a2 a3 (t905 != t906) true) else ((aG.f k a0 a2).bind fun t909 => (if t909 = true then ((aK.f k a0 a3).bind fun t910 => (aJ.j0 k a0 a1 a2 a3 (t905 != t906) t910)) else (aJ.j0 k a0 a1 a2 a3 (t905 != t906) false))))) else ((aG.f k a0 a2).bind fun t911 => (if t911 = true then ((aK.f k a0 a3).bind fun t912 => (aJ.j0 k a0 a1 a2 a3 (t905 != t906) t912)) else (aJ.j0 k a0 a1 a2 a3 (t905 != t906) false))))))))
end Go.Proofs.YtfapjegkilljnaaGreat.P

/- Products: the reference's, of any numbers, as plain numbers. -/
namespace Go.Proofs.YtfapjegkilljnaaGreat.Round
open Go.RowKit Go.Proofs.YtfapjegkilljnaaGreat.P Go.Proofs.YtfapjegkilljnaaGreat.Num Go.Proofs.YtfapjegkilljnaaGreat.BitsF Go.Proofs.YtfapjegkilljnaaGreat.Fmt Go.Proofs.YtfapjegkilljnaaGreatW.PrintWords Go.Proofs.YtfapjegkilljnaaGreatW.PrintLast Go.Proofs.YtfapjegkilljnaaGreatW.PrintMore

theorem yC (f mode : Int) (a b : Nat) (ha : a < 4294967296) (hb : b < 4294967296) : Ev (fun k => aJ.f k f mode (a : Int) (b : Int)) ((mulN f mode a b : Int), mulX f mode a b) := by
 have hla := nZ f a
 have hlb := nZ f b
 refine Ev.congr (fun k => by unfold aJ.f; rfl) (Ev.bind (vG f a b ha hb) ?_)
 unfold mulN mulX
 by_cases n : 4 ≤ bM f a ∨ 4 ≤ bM f b
 ·have e : (dX f a || dX f b) = true := by unfold dX; rw [Bool.or_eq_true, decide_eq_true_iff, decide_eq_true_iff]; exact n
  rw [if_pos n, if_pos n]
  exact Ev.congr (fun k => by rw [if_pos e, iN]; rfl) (Ev.now _)
 ·have e : ¬ (dX f a || dX f b) = true := by unfold dX; rw [Bool.or_eq_true, decide_eq_true_iff, decide_eq_true_iff]; exact n
  rw [if_neg n, if_neg n]
  have bad : kE f a b = true → Ev (fun k => aJ.j0 k f mode (a : Int) (b : Int) (dB f a != dB f b) true) (((if kE f a b = true then pQ f else if bM f a = 3 ∨ bM f b = 3 then nG f (dB f a != dB f b) else fI f mode (dB f a != dB f b) (bB f a + bB f b) (bJ f a * bJ f b) false : Nat) : Int),
    if kE f a b = true then (true, false, false, false, false) else if bM f a = 3 ∨ bM f b = 3 then (false, false, false, false, false) else (false, false, kY f mode (dB f a != dB f b) (bB f a + bB f b) (bJ f a * bJ f b) false)) := by
   intro t
   rw [if_pos t, if_pos t]
   exact Ev.step (fun k => by rw [aJ.j0, if_pos rfl, iN]; rfl) (Ev.now _)
  have good : ¬ kE f a b = true → Ev (fun k => aJ.j0 k f mode (a : Int) (b : Int) (dB f a != dB f b) false) (((if kE f a b = true then pQ f else if bM f a = 3 ∨ bM f b = 3 then nG f (dB f a != dB f b) else fI f mode (dB f a != dB f b) (bB f a + bB f b) (bJ f a * bJ f b) false : Nat) : Int),
    if kE f a b = true then (true, false, false, false, false) else if bM f a = 3 ∨ bM f b = 3 then (false, false, false, false, false) else (false, false, kY f mode (dB f a != dB f b) (bB f a + bB f b) (bJ f a * bJ f b) false)) := by
   intro t
   rw [if_neg t, if_neg t]
   refine Ev.step (fun k => by rw [aJ.j0, if_neg (by decide)]) (Ev.bind (gG f a ha) ?_)
   have inf : (bM f a = 3 ∨ bM f b = 3) → Ev (fun k => aJ.j1 k f mode (a : Int) (b : Int) (dB f a != dB f b) true) (((if bM f a = 3 ∨ bM f b = 3 then nG f (dB f a != dB f b) else fI f mode (dB f a != dB f b) (bB f a + bB f b) (bJ f a * bJ f b) false : Nat) : Int),
     if bM f a = 3 ∨ bM f b = 3 then (false, false, false, false, false) else (false, false, kY f mode (dB f a != dB f b) (bB f a + bB f b) (bJ f a * bJ f b) false)) := by
    intro i
    rw [if_pos i, if_pos i]
    exact Ev.step (fun k => by rw [aJ.j1, if_pos rfl, kD]; rfl) (Ev.now _)
   by_cases a3 : bM f a = 3
   ·exact Ev.congr (fun k => by rw [if_pos (decide_eq_true a3)]) (inf (.inl a3))
   ·refine Ev.congr (fun k => by rw [if_neg (by simp [a3])]) (Ev.bind (gG f b hb) ?_)
    by_cases b3 : bM f b = 3
    ·rw [decide_eq_true b3]; exact inf (.inr b3)
    ·rw [decide_eq_false b3, if_neg (show ¬ (bM f a = 3 ∨ bM f b = 3) by omega), if_neg (show ¬ (bM f a = 3 ∨ bM f b = 3) by omega)]
     have hprod := pO f a b
     obtain ⟨l1, l2⟩ := dV f a
     obtain ⟨m1, m2⟩ := dV f b
     have hp := lM f mode (dB f a != dB f b) (bB f a + bB f b) (bJ f a * bJ f b) false hprod
     rw [iF _ (by omega) (by omega)] at hp
     refine Ev.step (fun k => by rw [aJ.j1, if_neg (by decide)]) (Ev.bind (iJ f a ha (gT f a (by omega))) (Ev.bind (iJ f b hb (gT f b (by omega))) ?_))
     dsimp only
     rw [bW (bB f a + bB f b) (by omega) (by omega), ← Int.natCast_mul, fD _ hprod]
     exact Ev.bind hp (Ev.now _)
  have tt : kE f a b = true ↔ (bM f a = 0 ∧ bM f b = 3 ∨ bM f a = 3 ∧ bM f b = 0) := by unfold kE; exact decide_eq_true_iff
  refine Ev.congr (fun k => by rw [if_neg e, kF f a ha, Option.bind_some, kF f b hb, Option.bind_some]) (Ev.bind (iB f a ha) ?_)
  by_cases a0 : bM f a = 0
  ·refine Ev.congr (fun k => by rw [if_pos (decide_eq_true a0)]) (Ev.bind (gG f b hb) ?_)
   by_cases b3 : bM f b = 3
   ·exact Ev.congr (fun k => by rw [if_pos (decide_eq_true b3)]) (bad (tt.mpr (.inl ⟨a0, b3⟩)))
   ·refine Ev.congr (fun k => by rw [if_neg (by simp [b3])]) (Ev.bind (gG f a ha) ?_)
    exact Ev.congr (fun k => by rw [if_neg (by simp; omega)]) (good (fun h => by have := tt.mp h; omega))
  ·refine Ev.congr (fun k => by rw [if_neg (by simp [a0])]) (Ev.bind (gG f a ha) ?_)
   by_cases a3 : bM f a = 3
   ·refine Ev.congr (fun k => by rw [if_pos (decide_eq_true a3)]) (Ev.bind (iB f b hb) ?_)
    by_cases b0 : bM f b = 0
    ·rw [decide_eq_true b0]; exact bad (tt.mpr (.inr ⟨a3, b0⟩))
    ·rw [decide_eq_false b0]; exact good (fun h => by have := tt.mp h; omega)
   ·exact Ev.congr (fun k => by rw [if_neg (by simp [a3])]) (good (fun h => by have := tt.mp h; omega))
/- All results are numbers of 32 bits. -/

theorem nC (f : Int) : pQ f < 4294967296 := by
 unfold pQ gY
 rcases rX f with ⟨h1, h2⟩ | ⟨h1, h2⟩ | ⟨h1, h2⟩ <;> rw [h1, h2] <;> decide
theorem vF (f mode : Int) (neg : Bool) (x : Int) (a : Nat) (more : Bool) : fI f mode neg x a more < 4294967296 := by
 obtain ⟨_, hi⟩ := lV f false
 have hp := Nat.two_pow_pos (fm f)
 have hb := dN f
 have h32 := mP (show fe f + fm f + 1 ≤ 32 by omega)
 have hs : 2 ^ (fe f + fm f + 1) = 2 * 2 ^ (fe f + fm f) := by rw [Nat.pow_succ, Nat.mul_comm]
 have hn : eP f neg ≤ 2 ^ (fe f + fm f) := by unfold eP; split <;> omega
 unfold fI jM
 generalize uM f mode neg x a more = K at *
 generalize gY f * 2 ^ fm f = T at *
 by_cases c : T ≤ K
 ·cases jU mode neg <;> simp [c] <;> omega
 ·simp [c]; omega
theorem yJ (f : Int) (b : Bool) : eP f b < 4294967296 := (zero_all f b).2.2
theorem uG (f mode : Int) (a b : Bool) (r : Bool × Int × Nat × Bool) : fG f mode a b r < 4294967296 := by
 unfold fG mU
 split
 ·split <;> exact yJ f _
 ·exact vF f mode _ _ _ _
theorem aB5 (f mode : Int) (a b : Nat) : mulN f mode a b < 4294967296 := by
 unfold mulN
 split
 ·exact nC f
 ·split
  ·exact nC f
  ·split
   ·exact (lV f _).1
   ·exact vF f mode _ _ _ _
theorem aAh (f mode : Int) (a b : Nat) : vP f mode a b < 4294967296 := by
 unfold vP
 split
 ·exact nC f
 ·split
  ·exact nC f
  ·split
   ·exact (lV f _).1
   ·split
    ·exact (lV f _).1
    ·exact uG f mode _ _ _
theorem aCm (f mode : Int) (a b : Nat) : zH f mode a b < 4294967296 := by
 unfold zH
 split
 ·exact nC f
 ·exact aAh f mode _ _
theorem aBm (f mode : Int) (a b c : Nat) : pV f mode a b c < 4294967296 := by
 unfold pV
 split
 ·exact nC f
 ·split
  ·exact nC f
  ·split
   ·split
    ·exact nC f
    ·exact (lV f _).1
   ·split
    ·exact (lV f _).1
    ·exact uG f mode _ _ _
theorem aBY (f mode : Int) (a b : Nat) : divN f mode a b < 4294967296 := by
 unfold divN aB2
 split
 ·exact nC f
 ·split
  ·exact nC f
  ·split
   ·exact (lV f _).1
   ·split
    ·exact yJ f _
    ·split
     ·exact (lV f _).1
     ·exact vF f mode _ _ _ _
/- Products by one and by nought: plain numbers alone. -/

end Go.Proofs.YtfapjegkilljnaaGreat.Round
