import Derived.Test.YtjlgmfgjleajfaaGreatQzuZ
import Derived.Test.YtjlgmfgjleajfaaGreatQzuM5
import Derived.Test.YtjlgmfgjleajfaaGreatQzuM8
import Derived.Test.YtjlgmfgjleajfaaGreatQzuM9
import Derived.Test.YtjlgmfgjleajfaaGreatQzuPackE
import Derived.Test.YtjlgmfgjleajfaaGreatQzuM7
-- Printed by a program of this session's out of Lean's print of the translation; Lean checks it.
set_option linter.unusedVariables false
set_option linter.unusedSimpArgs false
namespace Go.Proofs.YtjlgmfgjleajfaaGreat.P
open Go.RowKit Go.Proofs.YtjlgmfgjleajfaaGreatW.PrintWords Go.Proofs.YtjlgmfgjleajfaaGreatW.PrintLast Go.Proofs.YtjlgmfgjleajfaaGreatW.PrintMore
attribute [local go_sem] max2_int min2_int max_two min_two max_three min_three max_four min_four

-- NEED 2
/-! ### bP: function 43 -/
mutual
def bP.j0 : Nat → Int → Int → Int → Int → Bool → Bool → Bool → Option (Int × Bool × Bool × Bool × Bool × Bool)
 |0, _, _, _, _, _, _, _ => none
 |k + 1, x0, x1, x2, x3, x13, x14, x39 => if x39 = true then ((dS.f x0 x2).bind fun t362 => ((dS.f x0 x3).bind fun t363 => ((aU.f k x0 t362 t363 x13 x14).bind fun bt364 => (some (bt364.1, bt364.2.1, bt364.2.2.1, bt364.2.2.2.1, bt364.2.2.2.2.1, bt364.2.2.2.2.2))))) else ((gP.f x0 x2).bind fun bt370 => ((gP.f x0 x3).bind fun bt374 => ((aH.f k bt370.1 bt370.2.1 bt370.2.2.1 bt370.2.2.2 bt374.1 bt374.2.1 bt374.2.2.1 bt374.2.2.2).bind fun bt380 => (if bt380.2.2.1 = 0 then (bP.j1 k x0 x1 (!bt380.2.2.2) bt370.1 bt370.2.1 bt370.2.2.1 bt370.2.2.2 bt374.1 bt374.2.1 bt374.2.2.1 bt374.2.2.2 bt380.1 bt380.2.1 bt380.2.2.1 bt380.2.2.2) else (bP.j1 k x0 x1 false bt370.1 bt370.2.1 bt370.2.2.1 bt370.2.2.2 bt374.1 bt374.2.1 bt374.2.2.1 bt374.2.2.2 bt380.1 bt380.2.1 bt380.2.2.1 bt380.2.2.2)))))
def bP.j1 : Nat → Int → Int → Bool → Bool → Int → Int → Bool → Bool → Int → Int → Bool → Bool → Int → Int → Bool → Option (Int × Bool × Bool × Bool × Bool × Bool)
 |0, _, _, _, _, _, _, _, _, _, _, _, _, _, _, _ => none
 |k + 1, x0, x1, x68, x379000, x379001, x379002, x379003, x380000, x380001, x380002, x380003, x385000, x385001, x385002, x385003 => if x68 = true then ((fT.f x0 x1 x379000 x380000).bind fun t385 => (some (t385, false, false, false, false, false))) else ((aB.f k x0 x1 x385000 x385001 x385002 x385003).bind fun bt386 => (some (bt386.1, bt386.2.1, bt386.2.2.1, bt386.2.2.2.1, bt386.2.2.2.2.1, bt386.2.2.2.2.2)))
end
def bP.f (k : Nat) (a0 a1 : Int) (a2 a3 : Int) : Option (Int × Bool × Bool × Bool × Bool × Bool) := (aY.f k a0 (([a2, a3] : List Int))).bind fun bt352 => (if bt352.2.2.2.2.2.2 = true then (some (bt352.1, bt352.2.1, bt352.2.2.1, bt352.2.2.2.1, bt352.2.2.2.2.1, bt352.2.2.2.2.2.1)) else ((aJ.f k a0 a2).bind fun t360 => ((aJ.f k a0 a3).bind fun t361 => (if t360 = true then (bP.j0 k a0 a1 a2 a3 t360 t361 true) else (bP.j0 k a0 a1 a2 a3 t360 t361 t361)))))
theorem bP.eZ : ∀ k, (∀ y0 y1 y2 y3 y4 y5 y6, LeO (bP.j0 k y0 y1 y2 y3 y4 y5 y6) (bP.j0 (k + 1) y0 y1 y2 y3 y4 y5 y6)) ∧ (∀ y0 y1 y2 y3 y4 y5 y6 y7 y8 y9 y10 y11 y12 y13 y14, LeO (bP.j1 k y0 y1 y2 y3 y4 y5 y6 y7 y8 y9 y10 y11 y12 y13 y14) (bP.j1 (k + 1) y0 y1 y2 y3 y4 y5 y6 y7 y8 y9 y10 y11 y12 y13 y14))
 |0 => ⟨fun _ _ _ _ _ _ _ r h => by simp [bP.j0] at h, fun _ _ _ _ _ _ _ _ _ _ _ _ _ _ _ r h => by simp [bP.j1] at h⟩
 |k + 1 => by
  obtain ⟨ih0, ih1⟩ := bP.eZ k
  refine ⟨?_, ?_⟩
  ·intro y0 y1 y2 y3 y4 y5 y6
   unfold bP.j0
   repeat' first
   |(with_reducible first|exact ih0 _ _ _ _ _ _ _|exact ih1 _ _ _ _ _ _ _ _ _ _ _ _ _ _ _|exact aJ.mono _ _ _|exact aB.mono _ _ _ _ _ _ _|exact aH.mono _ _ _ _ _ _ _ _ _|exact aU.mono _ _ _ _ _ _|exact aY.mono _ _ _|exact LeO.refl _|exact LeO.none _|refine LeO.ite ?_ ?_|refine LeO.bind ?_ (fun _ => ?_))
   |exact ih0 _ _ _ _ _ _ _
   |exact ih1 _ _ _ _ _ _ _ _ _ _ _ _ _ _ _
   |exact aJ.mono _ _ _
   |exact aB.mono _ _ _ _ _ _ _
   |exact aH.mono _ _ _ _ _ _ _ _ _
   |exact aU.mono _ _ _ _ _ _
   |exact aY.mono _ _ _
   |exact LeO.none _
   |refine LeO.ite ?_ ?_
   |refine LeO.bind ?_ (fun _ => ?_)
  ·intro y0 y1 y2 y3 y4 y5 y6 y7 y8 y9 y10 y11 y12 y13 y14
   unfold bP.j1
   repeat' first
   |(with_reducible first|exact ih0 _ _ _ _ _ _ _|exact ih1 _ _ _ _ _ _ _ _ _ _ _ _ _ _ _|exact aJ.mono _ _ _|exact aB.mono _ _ _ _ _ _ _|exact aH.mono _ _ _ _ _ _ _ _ _|exact aU.mono _ _ _ _ _ _|exact aY.mono _ _ _|exact LeO.refl _|exact LeO.none _|refine LeO.ite ?_ ?_|refine LeO.bind ?_ (fun _ => ?_))
   |exact ih0 _ _ _ _ _ _ _
   |exact ih1 _ _ _ _ _ _ _ _ _ _ _ _ _ _ _
   |exact aJ.mono _ _ _
   |exact aB.mono _ _ _ _ _ _ _
   |exact aH.mono _ _ _ _ _ _ _ _ _
   |exact aU.mono _ _ _ _ _ _
   |exact aY.mono _ _ _
   |exact LeO.none _
   |refine LeO.ite ?_ ?_
   |refine LeO.bind ?_ (fun _ => ?_)
theorem bP.mono : ∀ a0 a1 a2 a3 k, LeO (bP.f k a0 a1 a2 a3) (bP.f (k + 1) a0 a1 a2 a3) := by
 intro a0 a1 a2 a3 k
 obtain ⟨ih0, ih1⟩ := bP.eZ k
 unfold bP.f
 repeat' first
   |(with_reducible first|exact ih0 _ _ _ _ _ _ _|exact ih1 _ _ _ _ _ _ _ _ _ _ _ _ _ _ _|exact aJ.mono _ _ _|exact aB.mono _ _ _ _ _ _ _|exact aH.mono _ _ _ _ _ _ _ _ _|exact aU.mono _ _ _ _ _ _|exact aY.mono _ _ _|exact LeO.refl _|exact LeO.none _|refine LeO.ite ?_ ?_|refine LeO.bind ?_ (fun _ => ?_))
   |exact ih0 _ _ _ _ _ _ _
   |exact ih1 _ _ _ _ _ _ _ _ _ _ _ _ _ _ _
   |exact aJ.mono _ _ _
   |exact aB.mono _ _ _ _ _ _ _
   |exact aH.mono _ _ _ _ _ _ _ _ _
   |exact aU.mono _ _ _ _ _ _
   |exact aY.mono _ _ _
   |exact LeO.none _
   |refine LeO.ite ?_ ?_
   |refine LeO.bind ?_ (fun _ => ?_)

end Go.Proofs.YtjlgmfgjleajfaaGreat.P

/- Sums and differences: the program's, as plain numbers. -/
namespace Go.Proofs.YtjlgmfgjleajfaaGreat.Round
open Go.RowKit Go.Proofs.YtjlgmfgjleajfaaGreat.P Go.Proofs.YtjlgmfgjleajfaaGreat.Num Go.Proofs.YtjlgmfgjleajfaaGreat.BitsF Go.Proofs.YtjlgmfgjleajfaaGreat.Fmt Go.Proofs.YtjlgmfgjleajfaaGreatW.PrintWords Go.Proofs.YtjlgmfgjleajfaaGreatW.PrintLast Go.Proofs.YtjlgmfgjleajfaaGreatW.PrintMore

theorem aAi (f mode : Int) (a b : Bool) : fT.f f mode a b = some (l9 f mode a b : Int) := by
 unfold fT.f l9
 have e3 : ((mode == 3) : Bool) = decide (mode = 3) := by
  by_cases c : mode = 3
  ·subst c; rfl
  ·rw [decide_eq_false c]; exact beq_eq_false_iff_ne.mpr c
 rw [e3]
 by_cases c : a = b
 ·subst c; rw [if_pos (beq_self_eq_true a), if_pos rfl, wU]; rfl
 ·rw [if_neg (show ¬ (a == b) = true by rw [beq_iff_eq]; exact c), if_neg c, wU]; rfl
theorem sO (f : Int) (a b x y : Bool) : Ev (fun k => aU.f k f a b x y) (if x = true ∧ y = true ∧ a ≠ b then ((qU f : Int), true, false, false, false, false) else if x = true then ((oH f a : Int), false, false, false, false, false) else ((oH f b : Int), false, false, false, false, false)) := by
 have bad : Ev (fun k => aU.j0 k f a b x true) ((qU f : Int), true, false, false, false, false) :=
  Ev.step (fun k => by rw [aU.j0, if_pos rfl, bad_f]; rfl) (Ev.now _)
 have left : x = true → Ev (fun k => aU.j0 k f a b x false) ((oH f a : Int), false, false, false, false, false) := fun h =>
  Ev.step (fun k => by rw [aU.j0, if_neg (by decide), if_pos h, aAU]; rfl) (Ev.now _)
 have right : ¬ x = true → Ev (fun k => aU.j0 k f a b x false) ((oH f b : Int), false, false, false, false, false) := fun h =>
  Ev.step (fun k => by rw [aU.j0, if_neg (by decide), if_neg h, aAU]; rfl) (Ev.now _)
 refine Ev.congr (fun k => by unfold aU.f; rfl) ?_
 by_cases hx : x = true
 ·by_cases hy : y = true
  ·by_cases n : a = b
   ·rw [if_neg (fun h => h.2.2 n), if_pos hx]
    refine Ev.congr (fun k => ?_) (left hx)
    rw [if_pos hx, if_pos hy, n, bne_self_eq_false]
   ·rw [if_pos ⟨hx, hy, n⟩]
    refine Ev.congr (fun k => ?_) bad
    rw [if_pos hx, if_pos hy, bne_iff_ne.mpr n]
  ·rw [if_neg (fun h => hy h.2.1), if_pos hx]
   exact Ev.congr (fun k => by rw [if_pos hx, if_neg hy]) (left hx)
 ·rw [if_neg (fun h => hx h.1), if_neg hx]
  exact Ev.congr (fun k => by rw [if_neg hx]) (right hx)
theorem nX (f : Int) (v : Nat) : bH f v < 4611686018427387904 := by
 have h := dZ f
 have h1 := kC f v
 have h2 := eT (show fm f + 1 ≤ 31 by omega)
 omega
theorem add_ev (f mode : Int) (a b : Nat) (ha : a < 4294967296) (hb : b < 4294967296) : Ev (fun k => bP.f k f mode (a : Int) (b : Int)) ((rV f mode a b : Int), aAX f mode a b) := by
 have hla := qZ f a
 have hlb := qZ f b
 refine Ev.congr (fun k => by unfold bP.f; rfl) (Ev.bind (o7 f a b ha hb) ?_)
 unfold rV aAX
 by_cases n : 4 ≤ bK f a ∨ 4 ≤ bK f b
 ·have e : (eX f a || eX f b) = true := by unfold eX; rw [Bool.or_eq_true, decide_eq_true_iff, decide_eq_true_iff]; exact n
  rw [if_pos n, if_pos n]
  exact Ev.congr (fun k => by rw [if_pos e]) (Ev.now _)
 ·have e : ¬ (eX f a || eX f b) = true := by unfold eX; rw [Bool.or_eq_true, decide_eq_true_iff, decide_eq_true_iff]; exact n
  rw [if_neg n, if_neg n]
  refine Ev.congr (fun k => by rw [if_neg e]) (Ev.bind (jY f a ha) (Ev.bind (jY f b hb) ?_))
  by_cases i : bK f a = 3 ∨ bK f b = 3
  ·have hj : Ev (fun k => bP.j0 k f mode (a : Int) (b : Int) (decide (bK f a = 3)) (decide (bK f b = 3)) true)
     ((((if bK f a = 3 ∧ bK f b = 3 ∧ dE f a ≠ dE f b then qU f else if bK f a = 3 then oH f (dE f a) else if bK f b = 3 then oH f (dE f b) else gG f mode (dE f a) (dE f b) (vW f a b) : Nat) : Int)),
      if bK f a = 3 ∧ bK f b = 3 ∧ dE f a ≠ dE f b then (true, false, false, false, false) else if bK f a = 3 ∨ bK f b = 3 then (false, false, false, false, false) else (false, false, gZ f mode (vW f a b))) := by
    have hin := sO f (dE f a) (dE f b) (decide (bK f a = 3)) (decide (bK f b = 3))
    simp only [decide_eq_true_iff] at hin
    refine Ev.step (fun k => by rw [bP.j0, if_pos rfl, tJ f a ha, Option.bind_some, tJ f b hb, Option.bind_some]) (Ev.bind hin (Ev.congr (fun k => ?_) (Ev.now _)))
    by_cases t : bK f a = 3 ∧ bK f b = 3 ∧ dE f a ≠ dE f b
    ·rw [if_pos t, if_pos t, if_pos t]
    ·rw [if_neg t, if_neg t, if_neg t, if_pos i]
     by_cases a3 : bK f a = 3
     ·rw [if_pos a3, if_pos a3]
     ·rw [if_neg a3, if_neg a3, if_pos (i.resolve_left a3)]
   by_cases a3 : bK f a = 3
   ·exact Ev.congr (fun k => by rw [if_pos (decide_eq_true a3)]) hj
   ·refine Ev.congr (fun k => by rw [if_neg (by simp [a3])]) ?_
    rw [show decide (bK f b = 3) = true from decide_eq_true (i.resolve_left a3)] at hj ⊢
    exact hj
  ·have a3 : ¬ bK f a = 3 := fun h => i (.inl h)
   have b3 : ¬ bK f b = 3 := fun h => i (.inr h)
   rw [if_neg (fun h => a3 h.1), if_neg a3, if_neg b3, if_neg (fun h => a3 h.1), if_neg i]
   obtain ⟨l1, l2⟩ := fB f a
   obtain ⟨m1, m2⟩ := fB f b
   have hx := zV (dE f a) (bA f a) (bH f a) (dE f b) (bA f b) (bH f b) (nX f a) (nX f b) (by omega) (by omega) (by omega) (by omega)
   obtain ⟨x1, x2, x3⟩ := rD (dE f a) (bA f a) (bH f a) (dE f b) (bA f b) (bH f b) (nX f a) (nX f b) (by omega) (by omega) (by omega) (by omega)
   rw [decide_eq_false a3, decide_eq_false b3]
   refine Ev.congr (fun k => by rw [if_neg (by decide)]) (Ev.step (fun k => by rw [bP.j0, if_neg (by decide), of_f f a ha (iZ f a (by omega)), Option.bind_some, of_f f b hb (iZ f b (by omega)), Option.bind_some]) ?_)
   dsimp only
   refine Ev.bind hx ?_
   unfold vW yF
   generalize lC (dE f a) (bA f a) (bH f a) (dE f b) (bA f b) (bH f b) = r at *
   obtain ⟨rn, re, rs, rm⟩ := r
   dsimp only at *
   have hp := pM f mode rn re rs rm (by omega)
   rw [iV _ (by omega) (by omega)] at hp
   have pack : ¬ (rs = 0 ∧ rm = false) → Ev (fun k => bP.j1 k f mode false (dE f a) (bA f a) (bH f a : Int) false (dE f b) (bA f b) (bH f b : Int) false rn re (rs : Int) rm) ((gG f mode (dE f a) (dE f b) (rn, re, rs, rm) : Int), false, false, gZ f mode (rn, re, rs, rm)) := by
    intro z
    have zz : ¬ (rs, rm) = (0, false) := fun e => z ⟨(Prod.mk.inj e).1, (Prod.mk.inj e).2⟩
    unfold gG gZ
    rw [if_neg zz, if_neg zz]
    exact Ev.step (fun k => by rw [bP.j1, if_neg (by decide)]) (Ev.bind hp (Ev.now _))
   by_cases s0 : rs = 0
   ·cases rm
    ·have zz : (rs, false) = (0, false) := by rw [s0]
     refine Ev.congr (fun k => by rw [if_pos (by omega)]) (Ev.step (fun k => by rw [bP.j1, if_pos (by decide), aAi]) (Ev.congr (fun k => ?_) (Ev.now _)))
     unfold gG gZ
     rw [if_pos zz, if_pos zz]; rfl
    ·exact Ev.congr (fun k => by rw [if_pos (by omega)]; rfl) (pack (by simp))
   ·exact Ev.congr (fun k => by rw [if_neg (by omega)]) (pack (fun h => s0 h.1))
end Go.Proofs.YtjlgmfgjleajfaaGreat.Round

-- Printed by a program of this session's out of Lean's print of the translation; Lean checks it.
namespace Go.Proofs.YtjlgmfgjleajfaaGreat.P
open Go.RowKit Go.Proofs.YtjlgmfgjleajfaaGreatW.PrintWords Go.Proofs.YtjlgmfgjleajfaaGreatW.PrintLast Go.Proofs.YtjlgmfgjleajfaaGreatW.PrintMore
attribute [local go_sem] max2_int min2_int max_two min_two max_three min_three max_four min_four

-- NEED 3
/-! ### fA: function 85 -/
def fA.f (k : Nat) (a0 a1 : Int) (a2 a3 : Int) : Option (Int × Bool × Bool × Bool × Bool × Bool) := (aY.f k a0 (([a2, a3] : List Int))).bind fun bt411 => (if bt411.2.2.2.2.2.2 = true then (some (bt411.1, bt411.2.1, bt411.2.2.1, bt411.2.2.2.1, bt411.2.2.2.2.1, bt411.2.2.2.2.2.1)) else ((fK.f a0 a3).bind fun t419 => ((bP.f k a0 a1 a2 t419).bind fun bt420 => (some (bt420.1, bt420.2.1, bt420.2.2.1, bt420.2.2.2.1, bt420.2.2.2.2.1, bt420.2.2.2.2.2)))))
theorem fA.mono : ∀ a0 a1 a2 a3 k, LeO (fA.f k a0 a1 a2 a3) (fA.f (k + 1) a0 a1 a2 a3) := by
 intro a0 a1 a2 a3 k
 unfold fA.f
 repeat' first
   |(with_reducible first|exact bP.mono _ _ _ _ _|exact aY.mono _ _ _|exact LeO.refl _|exact LeO.none _|refine LeO.ite ?_ ?_|refine LeO.bind ?_ (fun _ => ?_))
   |exact bP.mono _ _ _ _ _
   |exact aY.mono _ _ _
   |exact LeO.none _
   |refine LeO.ite ?_ ?_
   |refine LeO.bind ?_ (fun _ => ?_)

end Go.Proofs.YtjlgmfgjleajfaaGreat.P

/- Differences: the program's, as plain numbers. -/
namespace Go.Proofs.YtjlgmfgjleajfaaGreat.Round
open Go.RowKit Go.Proofs.YtjlgmfgjleajfaaGreat.P Go.Proofs.YtjlgmfgjleajfaaGreat.Num Go.Proofs.YtjlgmfgjleajfaaGreat.BitsF Go.Proofs.YtjlgmfgjleajfaaGreat.Fmt Go.Proofs.YtjlgmfgjleajfaaGreatW.PrintWords Go.Proofs.YtjlgmfgjleajfaaGreatW.PrintLast Go.Proofs.YtjlgmfgjleajfaaGreatW.PrintMore

def jM (f : Int) (v : Nat) : Nat := uC f v + fO f (!dE f v)
theorem aBI (m n : Nat) (h : m < 2 ^ n) : m ^^^ 2 ^ n = m + 2 ^ n ∧ (m + 2 ^ n) ^^^ 2 ^ n = m := by
 have ho : m + 2 ^ n = 2 ^ n ||| m := by rw [o6 (2 ^ n) m n (Nat.mod_self _) h, Nat.add_comm]
 have hn : m.testBit n = false := Nat.testBit_lt_two_pow h
 rw [ho]
 constructor
 ·apply Nat.eq_of_testBit_eq
  intro i
  rw [Nat.testBit_xor, Nat.testBit_or, Nat.testBit_two_pow]
  by_cases e : n = i
  ·subst e; rw [hn]; simp
  ·rw [decide_eq_false e]; simp
 ·apply Nat.eq_of_testBit_eq
  intro i
  rw [Nat.testBit_xor, Nat.testBit_or, Nat.testBit_two_pow]
  by_cases e : n = i
  ·subst e; rw [hn]; simp
  ·rw [decide_eq_false e]; simp
theorem aBR (f : Int) (v : Nat) : uC f v < 2 ^ (fe f + fm f) := Nat.mod_lt _ (Nat.two_pow_pos _)
theorem aBP (f : Int) (v : Nat) : lG f v = uC f v + fO f (dE f v) := by
 have h := mag_sign f (lG f v) (zY f v)
 have e : uC f (lG f v) = uC f v := by
  unfold uC lG
  exact Nat.mod_mod_of_dvd _ (Nat.pow_dvd_pow 2 (by omega))
 rw [tN, e] at h
 exact h
theorem turn_f (f : Int) (v : Nat) (hv : v < 4294967296) : fK.f f (v : Int) = some (jM f v : Int) := by
 have hb := dZ f
 have h31 := eT (show fe f + fm f ≤ 31 by omega)
 have hm := aBR f v
 have hs : fO f true = 2 ^ (fe f + fm f) := rfl
 have hs0 : fO f false = 0 := rfl
 obtain ⟨x1, x2⟩ := aBI (uC f v) (fe f + fm f) hm
 unfold fK.f jM
 rw [jO, Option.bind_some, pmask_f, Option.bind_some]
 dsimp only
 rw [sum_w, if_pos (Int.natCast_nonneg _), l7 f v hv, nG _ (by omega), aBP]
 cases dE f v
 ·rw [hs0, Nat.add_zero, yN _ _ (by omega) (by omega), x1]; rfl
 ·rw [hs, yN _ _ (by omega) (by omega), x2, Bool.not_true, hs0, Nat.add_zero]
theorem nZ (f : Int) (v : Nat) : dE f (jM f v) = !dE f v ∧ bK f (jM f v) = bK f v ∧ bH f (jM f v) = bH f v ∧ bA f (jM f v) = bA f v ∧ jM f v < 4294967296 := by
 have hb := dZ f
 have h32 := mY (show fe f + fm f + 1 ≤ 32 by omega)
 obtain ⟨p1, p2, p3⟩ := qL f (uC f v) (!dE f v) (aBR f v)
 obtain ⟨m1, m2⟩ := nK f (jM f v)
 obtain ⟨n1, n2⟩ := nK f v
 have hm : uC f (jM f v) = uC f v := p2
 rw [hm] at m1 m2
 have he : mF f (jM f v) = mF f v := by rw [← m1, n1]
 have hf : kS f (jM f v) = kS f v := by rw [← m2, n2]
 refine ⟨p1, ?_, ?_, ?_, by unfold jM; omega⟩
 ·unfold bK; rw [he, hf]
 ·unfold bH; rw [he, hf]
 ·unfold bA; rw [he]
def uL (f mode : Int) (a b : Nat) : Nat := if 4 ≤ bK f a ∨ 4 ≤ bK f b then qU f else rV f mode a (jM f b)
def subX (f mode : Int) (a b : Nat) : Bool × Bool × Bool × Bool × Bool := if 4 ≤ bK f a ∨ 4 ≤ bK f b then (gI f a || gI f b, false, false, false, false) else aAX f mode a (jM f b)
theorem sub_ev (f mode : Int) (a b : Nat) (ha : a < 4294967296) (hb : b < 4294967296) : Ev (fun k => fA.f k f mode (a : Int) (b : Int)) ((uL f mode a b : Int), subX f mode a b) := by
 refine Ev.congr (fun k => by unfold fA.f; rfl) (Ev.bind (o7 f a b ha hb) ?_)
 unfold uL subX
 by_cases n : 4 ≤ bK f a ∨ 4 ≤ bK f b
 ·have e : (eX f a || eX f b) = true := by unfold eX; rw [Bool.or_eq_true, decide_eq_true_iff, decide_eq_true_iff]; exact n
  rw [if_pos n, if_pos n]
  exact Ev.congr (fun k => by rw [if_pos e]) (Ev.now _)
 ·have e : ¬ (eX f a || eX f b) = true := by unfold eX; rw [Bool.or_eq_true, decide_eq_true_iff, decide_eq_true_iff]; exact n
  rw [if_neg n, if_neg n]
  exact Ev.congr (fun k => by rw [if_neg e, turn_f f b hb, Option.bind_some]) (Ev.bind (add_ev f mode a _ ha (nZ f b).2.2.2.2) (Ev.now _))
/- With the other sign: the reference's, as plain numbers. -/

end Go.Proofs.YtjlgmfgjleajfaaGreat.Round

/- The reference's sums: as plain numbers. -/
namespace Go.Proofs.YtjlgmfgjleajfaaGreat.Round
open Go.RowKit Go.Proofs.YtjlgmfgjleajfaaGreat.P Go.Proofs.YtjlgmfgjleajfaaGreat.E Go.Proofs.YtjlgmfgjleajfaaGreat.Num Go.Proofs.YtjlgmfgjleajfaaGreat.BitsF Go.Proofs.YtjlgmfgjleajfaaGreat.Fmt Go.Proofs.YtjlgmfgjleajfaaGreatW.PrintWords Go.Proofs.YtjlgmfgjleajfaaGreatW.PrintLast Go.Proofs.YtjlgmfgjleajfaaGreatW.PrintMore

theorem aAL (f mode : Int) (neg : Bool) {xs : List Int} (hx : lU xs) (h : lo xs 10 ≠ 0) : Ev (fun n => E.aO.f n f mode neg xs) ((gD f mode neg (-298) (lo xs 10) false : Int), false, false, lW f mode neg (-298) (lo xs 10) false) :=
  Ev.congr (fun n => aO.eq n f mode neg xs) (aAD f mode neg false false false false false hx 9 (by decide) h).diag
theorem total_ev (f mode : Int) (xn yn : Bool) {xs ys : List Int} (hx : lU xs) (hy : lU ys) (h : lo xs 10 + lo ys 10 < T640) :
    Ev (fun n => E.dA.f n f mode xn xs yn ys) (((if (jD xn (lo xs 10) yn (lo ys 10)).2 = 0 then fO f (decide (mode = 3)) else gD f mode (jD xn (lo xs 10) yn (lo ys 10)).1 (-298) (jD xn (lo xs 10) yn (lo ys 10)).2 false : Nat) : Int), false, false,
      (if (jD xn (lo xs 10) yn (lo ys 10)).2 = 0 then (false, false, false) else lW f mode (jD xn (lo xs 10) yn (lo ys 10)).1 (-298) (jD xn (lo xs 10) yn (lo ys 10)).2 false)) := by
  obtain ⟨R, r1, r2, r3⟩ := plus_ev xn yn hx hy h
  refine Ev.congr (fun n => dA.eq n f mode xn xs yn ys) (Ev.bind r3 ?_)
  rw [← r2]
  have hm : ((mode == 3) : Bool) = decide (mode = 3) := by
    by_cases c : mode = 3
    · subst c; rfl
    · rw [decide_eq_false c]; exact beq_eq_false_iff_ne.mpr c
  by_cases z : lo R 10 = 0
  · rw [if_pos z, if_pos z]
    refine Ev.congr (fun n => ?_) (Ev.now _)
    rw [dH.eq, Option.bind_some, tH r1, if_pos (decide_eq_true z), oD, Option.bind_some, hm]
  · rw [if_neg z, if_neg z]
    refine Ev.congr (fun n => ?_) (Ev.bind (f := fun _ t => some ((t.1, t.2.1, t.2.2.1, t.2.2.2.1, t.2.2.2.2.1, t.2.2.2.2.2)) ) (aAL f mode (jD xn (lo xs 10) yn (lo ys 10)).1 r1 z) (Ev.now _))
    rw [dH.eq, Option.bind_some, tH r1, if_neg (by rw [decide_eq_true_iff]; exact z)]
theorem fM (f : Int) (v : Nat) (h : bK f v < 3) : -149 ≤ bA f v ∧ bA f v ≤ 120 := by
  have ht := (qN f v).mp h
  unfold bA dQ
  unfold iT at ht
  generalize mF f v = e at *
  rcases xG f with ⟨h1, h2⟩ | ⟨h1, h2⟩ | ⟨h1, h2⟩ <;> rw [h1] at ht <;> rw [h1, h2] <;> simp at ht ⊢ <;> omega
theorem mI (f : Int) (v : Nat) (h : bK f v < 3) (z : bH f v = 0) : bK f v = 0 := by
  have hp := Nat.two_pow_pos (fm f)
  unfold bH at z
  unfold bK at h ⊢
  by_cases e : mF f v = 0
  · rw [if_pos e] at z
    rw [if_pos e, if_pos z]
  · rw [if_neg e] at z; omega
theorem yE (s1 s2 : Nat) (e1 e2 : Int) (h1 : s1 < 1152921504606846976) (h2 : s2 < 1152921504606846976) (u1 : e1 ≤ 250) (u2 : e2 ≤ 250) : s1 * 2 ^ (e1 + 298).toNat + s2 * 2 ^ (e2 + 298).toNat < T640 := by
  obtain ⟨K, hK⟩ : ∃ K : Nat, K = 548 := ⟨_, rfl⟩
  have b : ∀ (s : Nat) (e : Int), s < 1152921504606846976 → e ≤ 250 → s * 2 ^ (e + 298).toNat < 2 ^ (60 + K) := by
    intro s e hs he
    have h1 : (2 : Nat) ^ (e + 298).toNat ≤ 2 ^ K := Nat.pow_le_pow_right (by decide) (by omega)
    have h3 : s * 2 ^ K < 2 ^ 60 * 2 ^ K := Nat.mul_lt_mul_of_pos_right (by rw [show (2 : Nat) ^ 60 = 1152921504606846976 by decide]; exact hs) (Nat.two_pow_pos _)
    rw [← Nat.pow_add] at h3
    exact Nat.lt_of_le_of_lt (Nat.mul_le_mul_left _ h1) h3
  have c : (2 : Nat) ^ (60 + K) + 2 ^ (60 + K) = 2 ^ (60 + K + 1) := by rw [Nat.pow_succ, Nat.mul_two]
  obtain ⟨M, hM⟩ : ∃ M : Nat, M = 64 * 10 := ⟨_, rfl⟩
  have d : (2 : Nat) ^ (60 + K + 1) ≤ 2 ^ M := Nat.pow_le_pow_right (by decide) (by omega)
  rw [← vE, ← hM]
  rw [← c] at d
  exact Nat.lt_of_lt_of_le (Nat.add_lt_add (b s1 e1 h1 u1) (b s2 e2 h2 u2)) d
theorem uJ (f mode : Int) (n1 : Bool) (e1 : Int) (s1 : Nat) (n2 : Bool) (e2 : Int) (s2 : Nat) (l1 : -298 ≤ e1) (u1 : e1 ≤ 250) (l2 : -298 ≤ e2) (u2 : e2 ≤ 250) (h1 : s1 < 1152921504606846976) (h2 : s2 < 1152921504606846976)
    (hne : n1 = n2 → s1 = 0 → s2 = 0 → False) {xs ys : List Int} (hx : lU xs) (hy : lU ys) (vx : lo xs 10 = s1 * 2 ^ (e1 + 298).toNat) (vy : lo ys 10 = s2 * 2 ^ (e2 + 298).toNat) :
    Ev (fun n => E.dA.f n f mode n1 xs n2 ys) ((gG f mode n1 n2 (lC n1 e1 s1 n2 e2 s2) : Int), false, false, gZ f mode (lC n1 e1 s1 n2 e2 s2)) := by
  obtain ⟨w1, w2⟩ := oF f mode n1 e1 s1 n2 e2 s2 l1 l2 h1 h2
  have t := total_ev f mode n1 n2 hx hy (by rw [vx, vy]; exact yE s1 s2 e1 e2 h1 h2 u1 u2)
  rw [vx, vy] at t
  rw [w1, w2]
  by_cases z : (jD n1 (s1 * 2 ^ (e1 + 298).toNat) n2 (s2 * 2 ^ (e2 + 298).toNat)).2 = 0
  · have hn : n1 ≠ n2 := by
      intro e
      have w : jD n1 (s1 * 2 ^ (e1 + 298).toNat) n2 (s2 * 2 ^ (e2 + 298).toNat) = (n1, s1 * 2 ^ (e1 + 298).toNat + s2 * 2 ^ (e2 + 298).toNat) := if_pos e
      rw [w] at z
      have z1 := (Nat.add_eq_zero_iff.mp z).1
      have z2 := (Nat.add_eq_zero_iff.mp z).2
      exact hne e ((Nat.mul_eq_zero.mp z1).resolve_right (Nat.ne_of_gt (Nat.two_pow_pos _))) ((Nat.mul_eq_zero.mp z2).resolve_right (Nat.ne_of_gt (Nat.two_pow_pos _)))
    rw [if_pos z, if_pos z] at t
    rw [if_pos z, if_pos z]
    have hno : l9 f mode n1 n2 = fO f (decide (mode = 3)) := if_neg hn
    rw [hno]; exact t
  · rw [if_neg z, if_neg z] at t
    rw [if_neg z, if_neg z]; exact t
theorem jN (f : Int) (v : Nat) : bH f v < 1152921504606846976 := by
  have wa := kC f v
  have hbd := dZ f
  have hp24 : 2 ^ (fm f + 1) ≤ 16777216 := Nat.pow_le_pow_right (show 0 < 2 by decide) (show fm f + 1 ≤ 24 by omega)
  omega
theorem zN (f : Int) (a b : Nat) : bH f a * bH f b < 1152921504606846976 := by
  have wa := kC f a
  have wb := kC f b
  have hbd := dZ f
  have hp24 : 2 ^ (fm f + 1) ≤ 16777216 := Nat.pow_le_pow_right (show 0 < 2 by decide) (show fm f + 1 ≤ 24 by omega)
  have := Nat.mul_le_mul (show bH f a ≤ 16777216 by omega) (show bH f b ≤ 16777216 by omega)
  omega
theorem add_j12 (f mode : Int) (a b : Nat) (ha : a < 4294967296) (hb : b < 4294967296) (ca : bK f a < 3) (cb : bK f b < 3) (hne : ¬ (bK f a = 0 ∧ bK f b = 0 ∧ dE f a = dE f b)) (c0 c1 c2 c3 c4 : Bool) :
    Ev (fun n => E.aZ.j12 n (b : Int) (a : Int) mode f c0 c1 c2 c3 c4) ((gG f mode (dE f a) (dE f b) (vW f a b) : Int), false, false, gZ f mode (vW f a b)) := by
  obtain ⟨l1, l2⟩ := fM f a ca
  obtain ⟨m1, m2⟩ := fM f b cb
  obtain ⟨R, r1, r2, r3⟩ := pW (dE f a) (bA f a) (bH f a) (by omega) (by omega) (jN f a)
  obtain ⟨S, s1, s2, s3⟩ := pW (dE f b) (bA f b) (bH f b) (by omega) (by omega) (jN f b)
  refine Ev.congr (fun n => aZ.aA4 n b a mode f c0 c1 c2 c3 c4) (Ev.bind (jI f a ha (iZ f a ca)) (Ev.bind r3 (Ev.bind (jI f b hb (iZ f b cb)) (Ev.bind s3 ?_))))
  exact Ev.bind (uJ f mode _ _ _ _ _ _ (by omega) (by omega) (by omega) (by omega) (jN f a) (jN f b) (fun e z1 z2 => hne ⟨mI f a ca z1, mI f b cb z2, e⟩) r1 s1 r2 s2) (Ev.now _)
theorem add_j6 (f mode : Int) (a b : Nat) (ha : a < 4294967296) (hb : b < 4294967296) (na : ¬ 4 ≤ bK f a) (nb : ¬ 4 ≤ bK f b) (hne : ¬ (bK f a = 3 ∧ bK f b = 3 ∧ dE f a ≠ dE f b)) (c0 c1 c2 c3 c4 : Bool) :
    Ev (fun n => E.aZ.j6 n (b : Int) (a : Int) mode f c0 c1 c2 c3 c4) ((rV f mode a b : Int), aAX f mode a b) := by
  have n : ¬ (4 ≤ bK f a ∨ 4 ≤ bK f b) := by omega
  unfold rV aAX
  rw [if_neg n, if_neg n, if_neg hne, if_neg hne]
  refine Ev.congr (fun n => aZ.yC n b a mode f c0 c1 c2 c3 c4) (Ev.bind (iK f a ha) ?_)
  by_cases a3 : bK f a = 3
  · rw [if_pos a3, if_pos (.inl a3)]
    exact Ev.congr (fun n => by rw [if_pos (decide_eq_true a3), kG, Option.bind_some, l7 f a ha, yU f a a3]) (Ev.now _)
  · refine Ev.congr (fun n => by rw [if_neg (by rw [decide_eq_true_iff]; exact a3)]) (Ev.bind (iK f b hb) ?_)
    rw [if_neg a3]
    by_cases b3 : bK f b = 3
    · rw [if_pos b3, if_pos (.inr b3)]
      exact Ev.congr (fun n => by rw [if_pos (decide_eq_true b3), kG, Option.bind_some, l7 f b hb, yU f b b3]) (Ev.now _)
    · rw [if_neg b3, if_neg (show ¬ (bK f a = 3 ∨ bK f b = 3) by omega)]
      refine Ev.congr (fun n => by rw [if_neg (by rw [decide_eq_true_iff]; exact b3)]) (Ev.bind (jB f a ha) ?_)
      have fin := add_j12 f mode a b ha hb (by omega) (by omega)
      by_cases a0 : bK f a = 0
      · refine Ev.congr (fun n => by rw [if_pos (decide_eq_true a0)]) (Ev.bind (jB f b hb) ?_)
        by_cases b0 : bK f b = 0
        · by_cases e : dE f a = dE f b
          · refine Ev.congr (fun n => by rw [if_pos (decide_eq_true b0), kY f a ha, Option.bind_some, kY f b hb, Option.bind_some, if_pos (beq_iff_eq.mpr e), kG, Option.bind_some, l7 f a ha, (l6 f a a0).1]) ?_
            have w := oF f mode (dE f a) (bA f a) (bH f a) (dE f b) (bA f b) (bH f b) (by have := (fB f a).1; omega) (by have := (fB f b).1; omega) (jN f a) (jN f b)
            unfold vW
            rw [w.1, w.2]
            have hw : (jD (dE f a) (bH f a * 2 ^ (bA f a + 298).toNat) (dE f b) (bH f b * 2 ^ (bA f b + 298).toNat)).2 = 0 := by
              rw [(l6 f a a0).2, (l6 f b b0).2, Nat.zero_mul, Nat.zero_mul]
              unfold jD; rw [if_pos e]
            rw [if_pos hw, if_pos hw]
            have hno : l9 f mode (dE f a) (dE f b) = fO f (dE f a) := if_pos e
            rw [hno]; exact Ev.now _
          · exact Ev.congr (fun n => by rw [if_pos (decide_eq_true b0), kY f a ha, Option.bind_some, kY f b hb, Option.bind_some, if_neg (by rw [beq_iff_eq]; exact e)]) (fin (fun h => e h.2.2) _ _ _ _ _)
        · exact Ev.congr (fun n => by rw [if_neg (by rw [decide_eq_true_iff]; exact b0)]) (fin (fun h => b0 h.2.1) _ _ _ _ _)
      · exact Ev.congr (fun n => by rw [if_neg (by rw [decide_eq_true_iff]; exact a0)]) (fin (fun h => a0 h.1) _ _ _ _ _)
theorem qP (f mode : Int) (a b : Nat) (ha : a < 4294967296) (hb : b < 4294967296) : Ev (fun n => E.aZ.f n f mode (a : Int) (b : Int)) ((rV f mode a b : Int), aAX f mode a b) := by
  refine Ev.congr (fun n => aZ.eq n f mode a b) (Ev.bind (vN f a b ha hb) ?_)
  by_cases n : 4 ≤ bK f a ∨ 4 ≤ bK f b
  · have e : (eX f a || eX f b) = true := by unfold eX; rw [Bool.or_eq_true, decide_eq_true_iff, decide_eq_true_iff]; exact n
    unfold rV aAX
    rw [if_pos n, if_pos n]
    exact Ev.congr (fun k => by rw [if_pos e, jZ, Option.bind_some]) (Ev.now _)
  · have e : ¬ (eX f a || eX f b) = true := by unfold eX; rw [Bool.or_eq_true, decide_eq_true_iff, decide_eq_true_iff]; exact n
    have fin := add_j6 f mode a b ha hb (by omega) (by omega)
    refine Ev.congr (fun k => by rw [if_neg e]) (Ev.bind (iK f a ha) ?_)
    by_cases a3 : bK f a = 3
    · refine Ev.congr (fun k => by rw [if_pos (decide_eq_true a3)]) (Ev.bind (iK f b hb) ?_)
      by_cases b3 : bK f b = 3
      · by_cases s : dE f a = dE f b
        · exact Ev.congr (fun k => by rw [if_pos (decide_eq_true b3), kY f a ha, Option.bind_some, kY f b hb, Option.bind_some, if_pos (beq_iff_eq.mpr s)]) (fin (fun h => h.2.2 s) _ _ _ _ _)
        · have t : bK f a = 3 ∧ bK f b = 3 ∧ dE f a ≠ dE f b := ⟨a3, b3, s⟩
          unfold rV aAX
          rw [if_neg n, if_neg n, if_pos t, if_pos t]
          exact Ev.congr (fun k => by rw [if_pos (decide_eq_true b3), kY f a ha, Option.bind_some, kY f b hb, Option.bind_some, if_neg (by rw [beq_iff_eq]; exact s), jZ, Option.bind_some]) (Ev.now _)
      · exact Ev.congr (fun k => by rw [if_neg (by rw [decide_eq_true_iff]; exact b3)]) (fin (fun h => b3 h.2.1) _ _ _ _ _)
    · exact Ev.congr (fun k => by rw [if_neg (by rw [decide_eq_true_iff]; exact a3)]) (fin (fun h => a3 h.1) _ _ _ _ _)
end Go.Proofs.YtjlgmfgjleajfaaGreat.Round

/- Products: as plain numbers. -/
namespace Go.Proofs.YtjlgmfgjleajfaaGreat.Round
open Go.RowKit Go.Proofs.YtjlgmfgjleajfaaGreat.P Go.Proofs.YtjlgmfgjleajfaaGreat.Num Go.Proofs.YtjlgmfgjleajfaaGreat.BitsF Go.Proofs.YtjlgmfgjleajfaaGreat.Fmt Go.Proofs.YtjlgmfgjleajfaaGreatW.PrintWords Go.Proofs.YtjlgmfgjleajfaaGreatW.PrintLast Go.Proofs.YtjlgmfgjleajfaaGreatW.PrintMore

def kF (f : Int) (a b : Nat) : Bool := decide (bK f a = 0 ∧ bK f b = 3 ∨ bK f a = 3 ∧ bK f b = 0)
def mulN (f mode : Int) (a b : Nat) : Nat :=
 if 4 ≤ bK f a ∨ 4 ≤ bK f b then qU f else if kF f a b then qU f else if bK f a = 3 ∨ bK f b = 3 then oH f (dE f a != dE f b)
 else gD f mode (dE f a != dE f b) (bA f a + bA f b) (bH f a * bH f b) false
def mulX (f mode : Int) (a b : Nat) : Bool × Bool × Bool × Bool × Bool :=
 if 4 ≤ bK f a ∨ 4 ≤ bK f b then (gI f a || gI f b, false, false, false, false) else if kF f a b then (true, false, false, false, false) else if bK f a = 3 ∨ bK f b = 3 then (false, false, false, false, false)
 else (false, false, lW f mode (dE f a != dE f b) (bA f a + bA f b) (bH f a * bH f b) false)
theorem pU (f : Int) (a b : Nat) : bH f a * bH f b < 18446744073709551616 := by
 have wa := kC f a
 have wb := kC f b
 have hbd := dZ f
 have hp24 : 2 ^ (fm f + 1) ≤ 16777216 := Nat.pow_le_pow_right (show 0 < 2 by decide) (show fm f + 1 ≤ 24 by omega)
 have := Nat.mul_le_mul (show bH f a ≤ 16777216 by omega) (show bH f b ≤ 16777216 by omega)
 omega
end Go.Proofs.YtjlgmfgjleajfaaGreat.Round

-- Printed by a program of this session's out of Lean's print of the translation; Lean checks it.
namespace Go.Proofs.YtjlgmfgjleajfaaGreat.P
open Go.RowKit Go.Proofs.YtjlgmfgjleajfaaGreatW.PrintWords Go.Proofs.YtjlgmfgjleajfaaGreatW.PrintLast Go.Proofs.YtjlgmfgjleajfaaGreatW.PrintMore
attribute [local go_sem] max2_int min2_int max_two min_two max_three min_three max_four min_four

-- NEED 2
/-! ### cZ: function 31 -/
def cZ.j0 : Nat → Int → Int → Int → Int → Bool → Bool → Option (Int × Bool × Bool × Bool × Bool × Bool)
 |0, _, _, _, _, _, _ => none
 |k + 1, x0, x1, x2, x3, x13, x49 => if x49 = true then ((dR.f x0 x13).bind fun t300 => (some (t300, false, false, false, false, false))) else ((eQ.f x0 x2 x3).bind fun bt301 => ((aB.f k x0 x1 x13 bt301.2.1 bt301.2.2.1 false).bind fun bt306 => (some (bt306.1, bt306.2.1, bt306.2.2.1, bt306.2.2.2.1, bt306.2.2.2.2.1, bt306.2.2.2.2.2))))
def cZ.f (k : Nat) (a0 a1 : Int) (a2 a3 : Int) : Option (Int × Bool × Bool × Bool × Bool × Bool) := (aY.f k a0 (([a2, a3] : List Int))).bind fun bt281 => (if bt281.2.2.2.2.2.2 = true then (some (bt281.1, bt281.2.1, bt281.2.2.1, bt281.2.2.2.1, bt281.2.2.2.2.1, bt281.2.2.2.2.2.1)) else ((dK.f k a0 a2 a3).bind fun t289 => (if t289 = true then ((gL.f a0).bind fun bt290 => (some (bt290.1, bt290.2.1, bt290.2.2.1, bt290.2.2.2.1, bt290.2.2.2.2.1, bt290.2.2.2.2.2))) else ((dS.f a0 a2).bind fun t296 => ((dS.f a0 a3).bind fun t297 => ((aJ.f k a0 a2).bind fun t298 => (if t298 = true then (cZ.j0 k a0 a1 a2 a3 (t296 != t297) true) else ((aJ.f k a0 a3).bind fun t299 => (cZ.j0 k a0 a1 a2 a3 (t296 != t297) t299)))))))))
theorem cZ.eZ : ∀ k, (∀ y0 y1 y2 y3 y4 y5, LeO (cZ.j0 k y0 y1 y2 y3 y4 y5) (cZ.j0 (k + 1) y0 y1 y2 y3 y4 y5))
 |0 => fun _ _ _ _ _ _ r h => by simp [cZ.j0] at h
 |k + 1 => by
  have ih0 := cZ.eZ k
  ·intro y0 y1 y2 y3 y4 y5
   unfold cZ.j0
   repeat' first
   |(with_reducible first|exact ih0 _ _ _ _ _ _|exact aJ.mono _ _ _|exact dK.mono _ _ _ _|exact aB.mono _ _ _ _ _ _ _|exact aY.mono _ _ _|exact LeO.refl _|exact LeO.none _|refine LeO.ite ?_ ?_|refine LeO.bind ?_ (fun _ => ?_))
   |exact ih0 _ _ _ _ _ _
   |exact aJ.mono _ _ _
   |exact dK.mono _ _ _ _
   |exact aB.mono _ _ _ _ _ _ _
   |exact aY.mono _ _ _
   |exact LeO.none _
   |refine LeO.ite ?_ ?_
   |refine LeO.bind ?_ (fun _ => ?_)
theorem cZ.mono : ∀ a0 a1 a2 a3 k, LeO (cZ.f k a0 a1 a2 a3) (cZ.f (k + 1) a0 a1 a2 a3) := by
 intro a0 a1 a2 a3 k
 have ih0 := cZ.eZ k
 unfold cZ.f
 repeat' first
   |(with_reducible first|exact ih0 _ _ _ _ _ _|exact aJ.mono _ _ _|exact dK.mono _ _ _ _|exact aB.mono _ _ _ _ _ _ _|exact aY.mono _ _ _|exact LeO.refl _|exact LeO.none _|refine LeO.ite ?_ ?_|refine LeO.bind ?_ (fun _ => ?_))
   |exact ih0 _ _ _ _ _ _
   |exact aJ.mono _ _ _
   |exact dK.mono _ _ _ _
   |exact aB.mono _ _ _ _ _ _ _
   |exact aY.mono _ _ _
   |exact LeO.none _
   |refine LeO.ite ?_ ?_
   |refine LeO.bind ?_ (fun _ => ?_)

end Go.Proofs.YtjlgmfgjleajfaaGreat.P
