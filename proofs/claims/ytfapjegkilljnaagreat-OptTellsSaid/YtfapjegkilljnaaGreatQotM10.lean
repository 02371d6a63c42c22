import Derived.Test.YtfapjegkilljnaaGreatQotZ
import Derived.Test.YtfapjegkilljnaaGreatQotM5
import Derived.Test.YtfapjegkilljnaaGreatQotM8
import Derived.Test.YtfapjegkilljnaaGreatQotM6
import Derived.Test.YtfapjegkilljnaaGreatQotM7
import Derived.Test.YtfapjegkilljnaaGreatQotM9
import Derived.Test.YtfapjegkilljnaaGreatQotPackE
-- Printed by a program of this session's out of Lean's print of the translation; Lean checks it.
set_option linter.unusedVariables false
set_option linter.unusedSimpArgs false
namespace Go.Proofs.YtfapjegkilljnaaGreat.P
open Go.RowKit Go.Proofs.YtfapjegkilljnaaGreatW.PrintWords Go.Proofs.YtfapjegkilljnaaGreatW.PrintLast Go.Proofs.YtfapjegkilljnaaGreatW.PrintMore
attribute [local go_sem] max2_int min2_int max_two min_two max_three min_three max_four min_four

-- NEED 2
/-! ### cK: function 66 -/
mutual
def cK.j0 : Nat → Int → Int → Int → Int → Bool → Bool → Bool → Option (Int × Bool × Bool × Bool × Bool × Bool)
 |0, _, _, _, _, _, _, _ => none
 |k + 1, x0, x1, x2, x3, x13, x14, x39 => if x39 = true then ((dJ.f x0 x2).bind fun t416 => ((dJ.f x0 x3).bind fun t417 => ((aX.f k x0 t416 t417 x13 x14).bind fun bt418 => (some (bt418.1, bt418.2.1, bt418.2.2.1, bt418.2.2.2.1, bt418.2.2.2.2.1, bt418.2.2.2.2.2))))) else ((eZ.f x0 x2).bind fun bt424 => ((eZ.f x0 x3).bind fun bt428 => ((aQ.f k bt424.1 bt424.2.1 bt424.2.2.1 bt424.2.2.2 bt428.1 bt428.2.1 bt428.2.2.1 bt428.2.2.2).bind fun bt434 => (if bt434.2.2.1 = 0 then (cK.j1 k x0 x1 (!bt434.2.2.2) bt424.1 bt424.2.1 bt424.2.2.1 bt424.2.2.2 bt428.1 bt428.2.1 bt428.2.2.1 bt428.2.2.2 bt434.1 bt434.2.1 bt434.2.2.1 bt434.2.2.2) else (cK.j1 k x0 x1 false bt424.1 bt424.2.1 bt424.2.2.1 bt424.2.2.2 bt428.1 bt428.2.1 bt428.2.2.1 bt428.2.2.2 bt434.1 bt434.2.1 bt434.2.2.1 bt434.2.2.2)))))
def cK.j1 : Nat → Int → Int → Bool → Bool → Int → Int → Bool → Bool → Int → Int → Bool → Bool → Int → Int → Bool → Option (Int × Bool × Bool × Bool × Bool × Bool)
 |0, _, _, _, _, _, _, _, _, _, _, _, _, _, _, _ => none
 |k + 1, x0, x1, x68, x433000, x433001, x433002, x433003, x434000, x434001, x434002, x434003, x439000, x439001, x439002, x439003 => if x68 = true then ((eQ.f x0 x1 x433000 x434000).bind fun t439 => (some (t439, false, false, false, false, false))) else ((aC.f k x0 x1 x439000 x439001 x439002 x439003).bind fun bt440 => (some (bt440.1, bt440.2.1, bt440.2.2.1, bt440.2.2.2.1, bt440.2.2.2.2.1, bt440.2.2.2.2.2)))
end
def cK.f (k : Nat) (a0 a1 : Int) (a2 a3 : Int) : Option (Int × Bool × Bool × Bool × Bool × Bool) := (bC.f k a0 (([a2, a3] : List Int))).bind fun bt406 => (if bt406.2.2.2.2.2.2 = true then (some (bt406.1, bt406.2.1, bt406.2.2.1, bt406.2.2.2.1, bt406.2.2.2.2.1, bt406.2.2.2.2.2.1)) else ((aO.f k a0 a2).bind fun t414 => ((aO.f k a0 a3).bind fun t415 => (if t414 = true then (cK.j0 k a0 a1 a2 a3 t414 t415 true) else (cK.j0 k a0 a1 a2 a3 t414 t415 t415)))))
end Go.Proofs.YtfapjegkilljnaaGreat.P

/- Sums and differences: the program's, as plain numbers. -/
namespace Go.Proofs.YtfapjegkilljnaaGreat.Round
open Go.RowKit Go.Proofs.YtfapjegkilljnaaGreat.P Go.Proofs.YtfapjegkilljnaaGreat.Num Go.Proofs.YtfapjegkilljnaaGreat.BitsF Go.Proofs.YtfapjegkilljnaaGreat.Fmt Go.Proofs.YtfapjegkilljnaaGreatW.PrintWords Go.Proofs.YtfapjegkilljnaaGreatW.PrintLast Go.Proofs.YtfapjegkilljnaaGreatW.PrintMore

theorem zY (f mode : Int) (a b : Bool) : eQ.f f mode a b = some (mU f mode a b : Int) := by
 unfold eQ.f mU
 have e3 : ((mode == 3) : Bool) = decide (mode = 3) := by
  by_cases c : mode = 3
  ·subst c; rfl
  ·rw [decide_eq_false c]; exact beq_eq_false_iff_ne.mpr c
 rw [e3]
 by_cases c : a = b
 ·subst c; rw [if_pos (beq_self_eq_true a), if_pos rfl, uL]; rfl
 ·rw [if_neg (show ¬ (a == b) = true by rw [beq_iff_eq]; exact c), if_neg c, uL]; rfl
theorem sI (f : Int) (a b x y : Bool) : Ev (fun k => aX.f k f a b x y) (if x = true ∧ y = true ∧ a ≠ b then ((pQ f : Int), true, false, false, false, false) else if x = true then ((nG f a : Int), false, false, false, false, false) else ((nG f b : Int), false, false, false, false, false)) := by
 have bad : Ev (fun k => aX.j0 k f a b x true) ((pQ f : Int), true, false, false, false, false) :=
  Ev.step (fun k => by rw [aX.j0, if_pos rfl, aAH]; rfl) (Ev.now _)
 have left : x = true → Ev (fun k => aX.j0 k f a b x false) ((nG f a : Int), false, false, false, false, false) := fun h =>
  Ev.step (fun k => by rw [aX.j0, if_neg (by decide), if_pos h, yE]; rfl) (Ev.now _)
 have right : ¬ x = true → Ev (fun k => aX.j0 k f a b x false) ((nG f b : Int), false, false, false, false, false) := fun h =>
  Ev.step (fun k => by rw [aX.j0, if_neg (by decide), if_neg h, yE]; rfl) (Ev.now _)
 refine Ev.congr (fun k => by unfold aX.f; rfl) ?_
 by_cases hx : x = true
 ·by_cases hy : y = true
  ·by_cases n : a = b
   ·rw [if_neg (fun h => h.2.2 n), if_pos hx]
    refine Ev.congr (fun k => ?_) (left hx)
    rw [if_pos hx, if_pos hy, n, bne_self_eq_false]
   ·rw [if_pos ⟨hx, hy, n⟩]
    refine Ev.congr (fun k => ?_) bad
    rw [if_pos hx, if_pos hy, bne_iff_ne.mpr n]
  ·rw [if_neg (fun h => hy h.2.1), if_pos hx]
   exact Ev.congr (fun k => by rw [if_pos hx, if_neg hy]) (left hx)
 ·rw [if_neg (fun h => hx h.1), if_neg hx]
  exact Ev.congr (fun k => by rw [if_neg hx]) (right hx)
theorem nX (f : Int) (v : Nat) : bJ f v < 4611686018427387904 := by
 have h := dN f
 have h1 := jL f v
 have h2 := dU (show fm f + 1 ≤ 31 by omega)
 omega
theorem add_ev (f mode : Int) (a b : Nat) (ha : a < 4294967296) (hb : b < 4294967296) : Ev (fun k => cK.f k f mode (a : Int) (b : Int)) ((vP f mode a b : Int), aAU f mode a b) := by
 have hla := nZ f a
 have hlb := nZ f b
 refine Ev.congr (fun k => by unfold cK.f; rfl) (Ev.bind (oP f a b ha hb) ?_)
 unfold vP aAU
 by_cases n : 4 ≤ bM f a ∨ 4 ≤ bM f b
 ·have e : (dX f a || dX f b) = true := by unfold dX; rw [Bool.or_eq_true, decide_eq_true_iff, decide_eq_true_iff]; exact n
  rw [if_pos n, if_pos n]
  exact Ev.congr (fun k => by rw [if_pos e]) (Ev.now _)
 ·have e : ¬ (dX f a || dX f b) = true := by unfold dX; rw [Bool.or_eq_true, decide_eq_true_iff, decide_eq_true_iff]; exact n
  rw [if_neg n, if_neg n]
  refine Ev.congr (fun k => by rw [if_neg e]) (Ev.bind (iX f a ha) (Ev.bind (iX f b hb) ?_))
  by_cases i : bM f a = 3 ∨ bM f b = 3
  ·have hj : Ev (fun k => cK.j0 k f mode (a : Int) (b : Int) (decide (bM f a = 3)) (decide (bM f b = 3)) true)
     ((((if bM f a = 3 ∧ bM f b = 3 ∧ dB f a ≠ dB f b then pQ f else if bM f a = 3 then nG f (dB f a) else if bM f b = 3 then nG f (dB f b) else fG f mode (dB f a) (dB f b) (wX f a b) : Nat) : Int)),
      if bM f a = 3 ∧ bM f b = 3 ∧ dB f a ≠ dB f b then (true, false, false, false, false) else if bM f a = 3 ∨ bM f b = 3 then (false, false, false, false, false) else (false, false, fV f mode (wX f a b))) := by
    have hin := sI f (dB f a) (dB f b) (decide (bM f a = 3)) (decide (bM f b = 3))
    simp only [decide_eq_true_iff] at hin
    refine Ev.step (fun k => by rw [cK.j0, if_pos rfl, sQ f a ha, Option.bind_some, sQ f b hb, Option.bind_some]) (Ev.bind hin (Ev.congr (fun k => ?_) (Ev.now _)))
    by_cases t : bM f a = 3 ∧ bM f b = 3 ∧ dB f a ≠ dB f b
    ·rw [if_pos t, if_pos t, if_pos t]
    ·rw [if_neg t, if_neg t, if_neg t, if_pos i]
     by_cases a3 : bM f a = 3
     ·rw [if_pos a3, if_pos a3]
     ·rw [if_neg a3, if_neg a3, if_pos (i.resolve_left a3)]
   by_cases a3 : bM f a = 3
   ·exact Ev.congr (fun k => by rw [if_pos (decide_eq_true a3)]) hj
   ·refine Ev.congr (fun k => by rw [if_neg (by simp [a3])]) ?_
    rw [show decide (bM f b = 3) = true from decide_eq_true (i.resolve_left a3)] at hj ⊢
    exact hj
  ·have a3 : ¬ bM f a = 3 := fun h => i (.inl h)
   have b3 : ¬ bM f b = 3 := fun h => i (.inr h)
   rw [if_neg (fun h => a3 h.1), if_neg a3, if_neg b3, if_neg (fun h => a3 h.1), if_neg i]
   obtain ⟨l1, l2⟩ := dV f a
   obtain ⟨m1, m2⟩ := dV f b
   have hx := zW (dB f a) (bB f a) (bJ f a) (dB f b) (bB f b) (bJ f b) (nX f a) (nX f b) (by omega) (by omega) (by omega) (by omega)
   obtain ⟨x1, x2, x3⟩ := qO (dB f a) (bB f a) (bJ f a) (dB f b) (bB f b) (bJ f b) (nX f a) (nX f b) (by omega) (by omega) (by omega) (by omega)
   rw [decide_eq_false a3, decide_eq_false b3]
   refine Ev.congr (fun k => by rw [if_neg (by decide)]) (Ev.step (fun k => by rw [cK.j0, if_neg (by decide), of_f f a ha (gT f a (by omega)), Option.bind_some, of_f f b hb (gT f b (by omega)), Option.bind_some]) ?_)
   dsimp only
   refine Ev.bind hx ?_
   unfold wX xP
   generalize lL (dB f a) (bB f a) (bJ f a) (dB f b) (bB f b) (bJ f b) = r at *
   obtain ⟨rn, re, rs, rm⟩ := r
   dsimp only at *
   have hp := pR f mode rn re rs rm (by omega)
   rw [iF _ (by omega) (by omega)] at hp
   have pack : ¬ (rs = 0 ∧ rm = false) → Ev (fun k => cK.j1 k f mode false (dB f a) (bB f a) (bJ f a : Int) false (dB f b) (bB f b) (bJ f b : Int) false rn re (rs : Int) rm) ((fG f mode (dB f a) (dB f b) (rn, re, rs, rm) : Int), false, false, fV f mode (rn, re, rs, rm)) := by
    intro z
    have zz : ¬ (rs, rm) = (0, false) := fun e => z ⟨(Prod.mk.inj e).1, (Prod.mk.inj e).2⟩
    unfold fG fV
    rw [if_neg zz, if_neg zz]
    exact Ev.step (fun k => by rw [cK.j1, if_neg (by decide)]) (Ev.bind hp (Ev.now _))
   by_cases s0 : rs = 0
   ·cases rm
    ·have zz : (rs, false) = (0, false) := by rw [s0]
     refine Ev.congr (fun k => by rw [if_pos (by omega)]) (Ev.step (fun k => by rw [cK.j1, if_pos (by decide), zY]) (Ev.congr (fun k => ?_) (Ev.now _)))
     unfold fG fV
     rw [if_pos zz, if_pos zz]; rfl
    ·exact Ev.congr (fun k => by rw [if_pos (by omega)]; rfl) (pack (by simp))
   ·exact Ev.congr (fun k => by rw [if_neg (by omega)]) (pack (fun h => s0 h.1))
end Go.Proofs.YtfapjegkilljnaaGreat.Round

-- Printed by a program of this session's out of Lean's print of the translation; Lean checks it.
namespace Go.Proofs.YtfapjegkilljnaaGreat.P
open Go.RowKit Go.Proofs.YtfapjegkilljnaaGreatW.PrintWords Go.Proofs.YtfapjegkilljnaaGreatW.PrintLast Go.Proofs.YtfapjegkilljnaaGreatW.PrintMore
attribute [local go_sem] max2_int min2_int max_two min_two max_three min_three max_four min_four

-- NEED 3
/-! ### eT: function 64 -/
def eT.f (k : Nat) (a0 a1 : Int) (a2 a3 : Int) : Option (Int × Bool × Bool × Bool × Bool × Bool) := (bC.f k a0 (([a2, a3] : List Int))).bind fun bt450 => (if bt450.2.2.2.2.2.2 = true then (some (bt450.1, bt450.2.1, bt450.2.2.1, bt450.2.2.2.1, bt450.2.2.2.2.1, bt450.2.2.2.2.2.1)) else ((eO.f a0 a3).bind fun t458 => ((cK.f k a0 a1 a2 t458).bind fun bt459 => (some (bt459.1, bt459.2.1, bt459.2.2.1, bt459.2.2.2.1, bt459.2.2.2.2.1, bt459.2.2.2.2.2)))))
end Go.Proofs.YtfapjegkilljnaaGreat.P

/- Differences: the program's, as plain numbers. -/
namespace Go.Proofs.YtfapjegkilljnaaGreat.Round
open Go.RowKit Go.Proofs.YtfapjegkilljnaaGreat.P Go.Proofs.YtfapjegkilljnaaGreat.Num Go.Proofs.YtfapjegkilljnaaGreat.BitsF Go.Proofs.YtfapjegkilljnaaGreat.Fmt Go.Proofs.YtfapjegkilljnaaGreatW.PrintWords Go.Proofs.YtfapjegkilljnaaGreatW.PrintLast Go.Proofs.YtfapjegkilljnaaGreatW.PrintMore

def jJ (f : Int) (v : Nat) : Nat := vX f v + eP f (!dB f v)
theorem aA2 (m n : Nat) (h : m < 2 ^ n) : m ^^^ 2 ^ n = m + 2 ^ n ∧ (m + 2 ^ n) ^^^ 2 ^ n = m := by
 have ho : m + 2 ^ n = 2 ^ n ||| m := by rw [nD (2 ^ n) m n (Nat.mod_self _) h, Nat.add_comm]
 have hn : m.testBit n = false := Nat.testBit_lt_two_pow h
 rw [ho]
 constructor
 ·apply Nat.eq_of_testBit_eq
  intro i
  rw [Nat.testBit_xor, Nat.testBit_or, Nat.testBit_two_pow]
  by_cases e : n = i
  ·subst e; rw [hn]; simp
  ·rw [decide_eq_false e]; simp
 ·apply Nat.eq_of_testBit_eq
  intro i
  rw [Nat.testBit_xor, Nat.testBit_or, Nat.testBit_two_pow]
  by_cases e : n = i
  ·subst e; rw [hn]; simp
  ·rw [decide_eq_false e]; simp
theorem aAX (f : Int) (v : Nat) : vX f v < 2 ^ (fe f + fm f) := Nat.mod_lt _ (Nat.two_pow_pos _)
theorem aBz (f : Int) (v : Nat) : lC f v = vX f v + eP f (dB f v) := by
 have h := mag_sign f (lC f v) (aAj f v)
 have e : vX f (lC f v) = vX f v := by
  unfold vX lC
  exact Nat.mod_mod_of_dvd _ (Nat.pow_dvd_pow 2 (by omega))
 rw [tK, e] at h
 exact h
theorem turn_f (f : Int) (v : Nat) (hv : v < 4294967296) : eO.f f (v : Int) = some (jJ f v : Int) := by
 have hb := dN f
 have h31 := dU (show fe f + fm f ≤ 31 by omega)
 have hm := aAX f v
 have hs : eP f true = 2 ^ (fe f + fm f) := rfl
 have hs0 : eP f false = 0 := rfl
 obtain ⟨x1, x2⟩ := aA2 (vX f v) (fe f + fm f) hm
 unfold eO.f jJ
 rw [iT, Option.bind_some, pmask_f, Option.bind_some]
 dsimp only
 rw [sum_w, if_pos (Int.natCast_nonneg _), jY f v hv, nJ _ (by omega), aBz]
 cases dB f v
 ·rw [hs0, Nat.add_zero, xS _ _ (by omega) (by omega), x1]; rfl
 ·rw [hs, xS _ _ (by omega) (by omega), x2, Bool.not_true, hs0, Nat.add_zero]
theorem nU (f : Int) (v : Nat) : dB f (jJ f v) = !dB f v ∧ bM f (jJ f v) = bM f v ∧ bJ f (jJ f v) = bJ f v ∧ bB f (jJ f v) = bB f v ∧ jJ f v < 4294967296 := by
 have hb := dN f
 have h32 := mP (show fe f + fm f + 1 ≤ 32 by omega)
 obtain ⟨p1, p2, p3⟩ := qB f (vX f v) (!dB f v) (aAX f v)
 obtain ⟨m1, m2⟩ := oZ f (jJ f v)
 obtain ⟨n1, n2⟩ := oZ f v
 have hm : vX f (jJ f v) = vX f v := p2
 rw [hm] at m1 m2
 have he : mY f (jJ f v) = mY f v := by rw [← m1, n1]
 have hf : kK f (jJ f v) = kK f v := by rw [← m2, n2]
 refine ⟨p1, ?_, ?_, ?_, by unfold jJ; omega⟩
 ·unfold bM; rw [he, hf]
 ·unfold bJ; rw [he, hf]
 ·unfold bB; rw [he]
def zH (f mode : Int) (a b : Nat) : Nat := if 4 ≤ bM f a ∨ 4 ≤ bM f b then pQ f else vP f mode a (jJ f b)
def subX (f mode : Int) (a b : Nat) : Bool × Bool × Bool × Bool × Bool := if 4 ≤ bM f a ∨ 4 ≤ bM f b then (fC f a || fC f b, false, false, false, false) else aAU f mode a (jJ f b)
theorem sub_ev (f mode : Int) (a b : Nat) (ha : a < 4294967296) (hb : b < 4294967296) : Ev (fun k => eT.f k f mode (a : Int) (b : Int)) ((zH f mode a b : Int), subX f mode a b) := by
 refine Ev.congr (fun k => by unfold eT.f; rfl) (Ev.bind (oP f a b ha hb) ?_)
 unfold zH subX
 by_cases n : 4 ≤ bM f a ∨ 4 ≤ bM f b
 ·have e : (dX f a || dX f b) = true := by unfold dX; rw [Bool.or_eq_true, decide_eq_true_iff, decide_eq_true_iff]; exact n
  rw [if_pos n, if_pos n]
  exact Ev.congr (fun k => by rw [if_pos e]) (Ev.now _)
 ·have e : ¬ (dX f a || dX f b) = true := by unfold dX; rw [Bool.or_eq_true, decide_eq_true_iff, decide_eq_true_iff]; exact n
  rw [if_neg n, if_neg n]
  exact Ev.congr (fun k => by rw [if_neg e, turn_f f b hb, Option.bind_some]) (Ev.bind (add_ev f mode a _ ha (nU f b).2.2.2.2) (Ev.now _))
/- With the other sign: the reference's, as plain numbers. -/

end Go.Proofs.YtfapjegkilljnaaGreat.Round

/- The reference's sums: as plain numbers. -/
namespace Go.Proofs.YtfapjegkilljnaaGreat.Round
open Go.RowKit Go.Proofs.YtfapjegkilljnaaGreat.P Go.Proofs.YtfapjegkilljnaaGreat.E Go.Proofs.YtfapjegkilljnaaGreat.Num Go.Proofs.YtfapjegkilljnaaGreat.BitsF Go.Proofs.YtfapjegkilljnaaGreat.Fmt Go.Proofs.YtfapjegkilljnaaGreatW.PrintWords Go.Proofs.YtfapjegkilljnaaGreatW.PrintLast Go.Proofs.YtfapjegkilljnaaGreatW.PrintMore

theorem aAM (f mode : Int) (neg : Bool) {xs : List Int} (hx : lQ xs) (h : lo xs 10 ≠ 0) : Ev (fun n => E.aM.f n f mode neg xs) ((fI f mode neg (-298) (lo xs 10) false : Int), false, false, kY f mode neg (-298) (lo xs 10) false) :=
  Ev.congr (fun n => aM.eq n f mode neg xs) (aAz f mode neg false false false false false hx 9 (by decide) h).diag
theorem total_ev (f mode : Int) (xn yn : Bool) {xs ys : List Int} (hx : lQ xs) (hy : lQ ys) (h : lo xs 10 + lo ys 10 < T640) :
    Ev (fun n => E.bZ.f n f mode xn xs yn ys) (((if (iV xn (lo xs 10) yn (lo ys 10)).2 = 0 then eP f (decide (mode = 3)) else fI f mode (iV xn (lo xs 10) yn (lo ys 10)).1 (-298) (iV xn (lo xs 10) yn (lo ys 10)).2 false : Nat) : Int), false, false,
      (if (iV xn (lo xs 10) yn (lo ys 10)).2 = 0 then (false, false, false) else kY f mode (iV xn (lo xs 10) yn (lo ys 10)).1 (-298) (iV xn (lo xs 10) yn (lo ys 10)).2 false)) := by
  obtain ⟨R, r1, r2, r3⟩ := plus_ev xn yn hx hy h
  refine Ev.congr (fun n => bZ.eq n f mode xn xs yn ys) (Ev.bind r3 ?_)
  rw [← r2]
  have hm : ((mode == 3) : Bool) = decide (mode = 3) := by
    by_cases c : mode = 3
    · subst c; rfl
    · rw [decide_eq_false c]; exact beq_eq_false_iff_ne.mpr c
  by_cases z : lo R 10 = 0
  · rw [if_pos z, if_pos z]
    refine Ev.congr (fun n => ?_) (Ev.now _)
    rw [cO.eq, Option.bind_some, sG r1, if_pos (decide_eq_true z), jE, Option.bind_some, hm]
  · rw [if_neg z, if_neg z]
    refine Ev.congr (fun n => ?_) (Ev.bind (f := fun _ t => some ((t.1, t.2.1, t.2.2.1, t.2.2.2.1, t.2.2.2.2.1, t.2.2.2.2.2)) ) (aAM f mode (iV xn (lo xs 10) yn (lo ys 10)).1 r1 z) (Ev.now _))
    rw [cO.eq, Option.bind_some, sG r1, if_neg (by rw [decide_eq_true_iff]; exact z)]
theorem jS (f : Int) (v : Nat) (h : bM f v < 3) : -149 ≤ bB f v ∧ bB f v ≤ 120 := by
  have ht := (qF f v).mp h
  unfold bB dL
  unfold gY at ht
  generalize mY f v = e at *
  rcases rX f with ⟨h1, h2⟩ | ⟨h1, h2⟩ | ⟨h1, h2⟩ <;> rw [h1] at ht <;> rw [h1, h2] <;> simp at ht ⊢ <;> omega
theorem mE (f : Int) (v : Nat) (h : bM f v < 3) (z : bJ f v = 0) : bM f v = 0 := by
  have hp := Nat.two_pow_pos (fm f)
  unfold bJ at z
  unfold bM at h ⊢
  by_cases e : mY f v = 0
  · rw [if_pos e] at z
    rw [if_pos e, if_pos z]
  · rw [if_neg e] at z; omega
theorem xY (s1 s2 : Nat) (e1 e2 : Int) (h1 : s1 < 1152921504606846976) (h2 : s2 < 1152921504606846976) (u1 : e1 ≤ 250) (u2 : e2 ≤ 250) : s1 * 2 ^ (e1 + 298).toNat + s2 * 2 ^ (e2 + 298).toNat < T640 := by
  obtain ⟨K, hK⟩ : ∃ K : Nat, K = 548 := ⟨_, rfl⟩
  have b : ∀ (s : Nat) (e : Int), s < 1152921504606846976 → e ≤ 250 → s * 2 ^ (e + 298).toNat < 2 ^ (60 + K) := by
    intro s e hs he
    have h1 : (2 : Nat) ^ (e + 298).toNat ≤ 2 ^ K := Nat.pow_le_pow_right (by decide) (by omega)
    have h3 : s * 2 ^ K < 2 ^ 60 * 2 ^ K := Nat.mul_lt_mul_of_pos_right (by rw [show (2 : Nat) ^ 60 = 1152921504606846976 by decide]; exact hs) (Nat.two_pow_pos _)
    rw [← Nat.pow_add] at h3
    exact Nat.lt_of_le_of_lt (Nat.mul_le_mul_left _ h1) h3
  have c : (2 : Nat) ^ (60 + K) + 2 ^ (60 + K) = 2 ^ (60 + K + 1) := by rw [Nat.pow_succ, Nat.mul_two]
  obtain ⟨M, hM⟩ : ∃ M : Nat, M = 64 * 10 := ⟨_, rfl⟩
  have d : (2 : Nat) ^ (60 + K + 1) ≤ 2 ^ M := Nat.pow_le_pow_right (by decide) (by omega)
  rw [← vL, ← hM]
  rw [← c] at d
  exact Nat.lt_of_lt_of_le (Nat.add_lt_add (b s1 e1 h1 u1) (b s2 e2 h2 u2)) d
theorem uS (f mode : Int) (n1 : Bool) (e1 : Int) (s1 : Nat) (n2 : Bool) (e2 : Int) (s2 : Nat) (l1 : -298 ≤ e1) (u1 : e1 ≤ 250) (l2 : -298 ≤ e2) (u2 : e2 ≤ 250) (h1 : s1 < 1152921504606846976) (h2 : s2 < 1152921504606846976)
    (hne : n1 = n2 → s1 = 0 → s2 = 0 → False) {xs ys : List Int} (hx : lQ xs) (hy : lQ ys) (vx : lo xs 10 = s1 * 2 ^ (e1 + 298).toNat) (vy : lo ys 10 = s2 * 2 ^ (e2 + 298).toNat) :
    Ev (fun n => E.bZ.f n f mode n1 xs n2 ys) ((fG f mode n1 n2 (lL n1 e1 s1 n2 e2 s2) : Int), false, false, fV f mode (lL n1 e1 s1 n2 e2 s2)) := by
  obtain ⟨w1, w2⟩ := pX f mode n1 e1 s1 n2 e2 s2 l1 l2 h1 h2
  have t := total_ev f mode n1 n2 hx hy (by rw [vx, vy]; exact xY s1 s2 e1 e2 h1 h2 u1 u2)
  rw [vx, vy] at t
  rw [w1, w2]
  by_cases z : (iV n1 (s1 * 2 ^ (e1 + 298).toNat) n2 (s2 * 2 ^ (e2 + 298).toNat)).2 = 0
  · have hn : n1 ≠ n2 := by
      intro e
      have w : iV n1 (s1 * 2 ^ (e1 + 298).toNat) n2 (s2 * 2 ^ (e2 + 298).toNat) = (n1, s1 * 2 ^ (e1 + 298).toNat + s2 * 2 ^ (e2 + 298).toNat) := if_pos e
      rw [w] at z
      have z1 := (Nat.add_eq_zero_iff.mp z).1
      have z2 := (Nat.add_eq_zero_iff.mp z).2
      exact hne e ((Nat.mul_eq_zero.mp z1).resolve_right (Nat.ne_of_gt (Nat.two_pow_pos _))) ((Nat.mul_eq_zero.mp z2).resolve_right (Nat.ne_of_gt (Nat.two_pow_pos _)))
    rw [if_pos z, if_pos z] at t
    rw [if_pos z, if_pos z]
    have hno : mU f mode n1 n2 = eP f (decide (mode = 3)) := if_neg hn
    rw [hno]; exact t
  · rw [if_neg z, if_neg z] at t
    rw [if_neg z, if_neg z]; exact t
theorem kT (f : Int) (v : Nat) : bJ f v < 1152921504606846976 := by
  have wa := jL f v
  have hbd := dN f
  have hp24 : 2 ^ (fm f + 1) ≤ 16777216 := Nat.pow_le_pow_right (show 0 < 2 by decide) (show fm f + 1 ≤ 24 by omega)
  omega
theorem aBs (f : Int) (a b : Nat) : bJ f a * bJ f b < 1152921504606846976 := by
  have wa := jL f a
  have wb := jL f b
  have hbd := dN f
  have hp24 : 2 ^ (fm f + 1) ≤ 16777216 := Nat.pow_le_pow_right (show 0 < 2 by decide) (show fm f + 1 ≤ 24 by omega)
  have := Nat.mul_le_mul (show bJ f a ≤ 16777216 by omega) (show bJ f b ≤ 16777216 by omega)
  omega
theorem add_j12 (f mode : Int) (a b : Nat) (ha : a < 4294967296) (hb : b < 4294967296) (ca : bM f a < 3) (cb : bM f b < 3) (hne : ¬ (bM f a = 0 ∧ bM f b = 0 ∧ dB f a = dB f b)) (c0 c1 c2 c3 c4 : Bool) :
    Ev (fun n => E.aY.j12 n (b : Int) (a : Int) mode f c0 c1 c2 c3 c4) ((fG f mode (dB f a) (dB f b) (wX f a b) : Int), false, false, fV f mode (wX f a b)) := by
  obtain ⟨l1, l2⟩ := jS f a ca
  obtain ⟨m1, m2⟩ := jS f b cb
  obtain ⟨R, r1, r2, r3⟩ := oM (dB f a) (bB f a) (bJ f a) (by omega) (by omega) (kT f a)
  obtain ⟨S, s1, s2, s3⟩ := oM (dB f b) (bB f b) (bJ f b) (by omega) (by omega) (kT f b)
  refine Ev.congr (fun n => aY.aCi n b a mode f c0 c1 c2 c3 c4) (Ev.bind (iJ f a ha (gT f a ca)) (Ev.bind r3 (Ev.bind (iJ f b hb (gT f b cb)) (Ev.bind s3 ?_))))
  exact Ev.bind (uS f mode _ _ _ _ _ _ (by omega) (by omega) (by omega) (by omega) (kT f a) (kT f b) (fun e z1 z2 => hne ⟨mE f a ca z1, mE f b cb z2, e⟩) r1 s1 r2 s2) (Ev.now _)
theorem add_j6 (f mode : Int) (a b : Nat) (ha : a < 4294967296) (hb : b < 4294967296) (na : ¬ 4 ≤ bM f a) (nb : ¬ 4 ≤ bM f b) (hne : ¬ (bM f a = 3 ∧ bM f b = 3 ∧ dB f a ≠ dB f b)) (c0 c1 c2 c3 c4 : Bool) :
    Ev (fun n => E.aY.j6 n (b : Int) (a : Int) mode f c0 c1 c2 c3 c4) ((vP f mode a b : Int), aAU f mode a b) := by
  have n : ¬ (4 ≤ bM f a ∨ 4 ≤ bM f b) := by omega
  unfold vP aAU
  rw [if_neg n, if_neg n, if_neg hne, if_neg hne]
  refine Ev.congr (fun n => aY.xW n b a mode f c0 c1 c2 c3 c4) (Ev.bind (gG f a ha) ?_)
  by_cases a3 : bM f a = 3
  · rw [if_pos a3, if_pos (.inl a3)]
    exact Ev.congr (fun n => by rw [if_pos (decide_eq_true a3), gF, Option.bind_some, jY f a ha, vT f a a3]) (Ev.now _)
  · refine Ev.congr (fun n => by rw [if_neg (by rw [decide_eq_true_iff]; exact a3)]) (Ev.bind (gG f b hb) ?_)
    rw [if_neg a3]
    by_cases b3 : bM f b = 3
    · rw [if_pos b3, if_pos (.inr b3)]
      exact Ev.congr (fun n => by rw [if_pos (decide_eq_true b3), gF, Option.bind_some, jY f b hb, vT f b b3]) (Ev.now _)
    · rw [if_neg b3, if_neg (show ¬ (bM f a = 3 ∨ bM f b = 3) by omega)]
      refine Ev.congr (fun n => by rw [if_neg (by rw [decide_eq_true_iff]; exact b3)]) (Ev.bind (iB f a ha) ?_)
      have fin := add_j12 f mode a b ha hb (by omega) (by omega)
      by_cases a0 : bM f a = 0
      · refine Ev.congr (fun n => by rw [if_pos (decide_eq_true a0)]) (Ev.bind (iB f b hb) ?_)
        by_cases b0 : bM f b = 0
        · by_cases e : dB f a = dB f b
          · refine Ev.congr (fun n => by rw [if_pos (decide_eq_true b0), kF f a ha, Option.bind_some, kF f b hb, Option.bind_some, if_pos (beq_iff_eq.mpr e), gF, Option.bind_some, jY f a ha, (mQ f a a0).1]) ?_
            have w := pX f mode (dB f a) (bB f a) (bJ f a) (dB f b) (bB f b) (bJ f b) (by have := (dV f a).1; omega) (by have := (dV f b).1; omega) (kT f a) (kT f b)
            unfold wX
            rw [w.1, w.2]
            have hw : (iV (dB f a) (bJ f a * 2 ^ (bB f a + 298).toNat) (dB f b) (bJ f b * 2 ^ (bB f b + 298).toNat)).2 = 0 := by
              rw [(mQ f a a0).2, (mQ f b b0).2, Nat.zero_mul, Nat.zero_mul]
              unfold iV; rw [if_pos e]
            rw [if_pos hw, if_pos hw]
            have hno : mU f mode (dB f a) (dB f b) = eP f (dB f a) := if_pos e
            rw [hno]; exact Ev.now _
          · exact Ev.congr (fun n => by rw [if_pos (decide_eq_true b0), kF f a ha, Option.bind_some, kF f b hb, Option.bind_some, if_neg (by rw [beq_iff_eq]; exact e)]) (fin (fun h => e h.2.2) _ _ _ _ _)
        · exact Ev.congr (fun n => by rw [if_neg (by rw [decide_eq_true_iff]; exact b0)]) (fin (fun h => b0 h.2.1) _ _ _ _ _)
      · exact Ev.congr (fun n => by rw [if_neg (by rw [decide_eq_true_iff]; exact a0)]) (fin (fun h => a0 h.1) _ _ _ _ _)
theorem qJ (f mode : Int) (a b : Nat) (ha : a < 4294967296) (hb : b < 4294967296) : Ev (fun n => E.aY.f n f mode (a : Int) (b : Int)) ((vP f mode a b : Int), aAU f mode a b) := by
  refine Ev.congr (fun n => aY.eq n f mode a b) (Ev.bind (vG f a b ha hb) ?_)
  by_cases n : 4 ≤ bM f a ∨ 4 ≤ bM f b
  · have e : (dX f a || dX f b) = true := by unfold dX; rw [Bool.or_eq_true, decide_eq_true_iff, decide_eq_true_iff]; exact n
    unfold vP aAU
    rw [if_pos n, if_pos n]
    exact Ev.congr (fun k => by rw [if_pos e, iN, Option.bind_some]) (Ev.now _)
  · have e : ¬ (dX f a || dX f b) = true := by unfold dX; rw [Bool.or_eq_true, decide_eq_true_iff, decide_eq_true_iff]; exact n
    have fin := add_j6 f mode a b ha hb (by omega) (by omega)
    refine Ev.congr (fun k => by rw [if_neg e]) (Ev.bind (gG f a ha) ?_)
    by_cases a3 : bM f a = 3
    · refine Ev.congr (fun k => by rw [if_pos (decide_eq_true a3)]) (Ev.bind (gG f b hb) ?_)
      by_cases b3 : bM f b = 3
      · by_cases s : dB f a = dB f b
        · exact Ev.congr (fun k => by rw [if_pos (decide_eq_true b3), kF f a ha, Option.bind_some, kF f b hb, Option.bind_some, if_pos (beq_iff_eq.mpr s)]) (fin (fun h => h.2.2 s) _ _ _ _ _)
        · have t : bM f a = 3 ∧ bM f b = 3 ∧ dB f a ≠ dB f b := ⟨a3, b3, s⟩
          unfold vP aAU
          rw [if_neg n, if_neg n, if_pos t, if_pos t]
          exact Ev.congr (fun k => by rw [if_pos (decide_eq_true b3), kF f a ha, Option.bind_some, kF f b hb, Option.bind_some, if_neg (by rw [beq_iff_eq]; exact s), iN, Option.bind_some]) (Ev.now _)
      · exact Ev.congr (fun k => by rw [if_neg (by rw [decide_eq_true_iff]; exact b3)]) (fin (fun h => b3 h.2.1) _ _ _ _ _)
    · exact Ev.congr (fun k => by rw [if_neg (by rw [decide_eq_true_iff]; exact a3)]) (fin (fun h => a3 h.1) _ _ _ _ _)
end Go.Proofs.YtfapjegkilljnaaGreat.Round

/- Products: as plain numbers. -/
namespace Go.Proofs.YtfapjegkilljnaaGreat.Round
open Go.RowKit Go.Proofs.YtfapjegkilljnaaGreat.P Go.Proofs.YtfapjegkilljnaaGreat.Num Go.Proofs.YtfapjegkilljnaaGreat.BitsF Go.Proofs.YtfapjegkilljnaaGreat.Fmt Go.Proofs.YtfapjegkilljnaaGreatW.PrintWords Go.Proofs.YtfapjegkilljnaaGreatW.PrintLast Go.Proofs.YtfapjegkilljnaaGreatW.PrintMore

def kE (f : Int) (a b : Nat) : Bool := decide (bM f a = 0 ∧ bM f b = 3 ∨ bM f a = 3 ∧ bM f b = 0)
def mulN (f mode : Int) (a b : Nat) : Nat :=
 if 4 ≤ bM f a ∨ 4 ≤ bM f b then pQ f else if kE f a b then pQ f else if bM f a = 3 ∨ bM f b = 3 then nG f (dB f a != dB f b)
 else fI f mode (dB f a != dB f b) (bB f a + bB f b) (bJ f a * bJ f b) false
def mulX (f mode : Int) (a b : Nat) : Bool × Bool × Bool × Bool × Bool :=
 if 4 ≤ bM f a ∨ 4 ≤ bM f b then (fC f a || fC f b, false, false, false, false) else if kE f a b then (true, false, false, false, false) else if bM f a = 3 ∨ bM f b = 3 then (false, false, false, false, false)
 else (false, false, kY f mode (dB f a != dB f b) (bB f a + bB f b) (bJ f a * bJ f b) false)
theorem pO (f : Int) (a b : Nat) : bJ f a * bJ f b < 18446744073709551616 := by
 have wa := jL f a
 have wb := jL f b
 have hbd := dN f
 have hp24 : 2 ^ (fm f + 1) ≤ 16777216 := Nat.pow_le_pow_right (show 0 < 2 by decide) (show fm f + 1 ≤ 24 by omega)
 have := Nat.mul_le_mul (show bJ f a ≤ 16777216 by omega) (show bJ f b ≤ 16777216 by omega)
 omega
end Go.Proofs.YtfapjegkilljnaaGreat.Round

-- Printed by a program of this session's out of Lean's print of the translation; Lean checks it.
namespace Go.Proofs.YtfapjegkilljnaaGreat.P
open Go.RowKit Go.Proofs.YtfapjegkilljnaaGreatW.PrintWords Go.Proofs.YtfapjegkilljnaaGreatW.PrintLast Go.Proofs.YtfapjegkilljnaaGreatW.PrintMore
attribute [local go_sem] max2_int min2_int max_two min_two max_three min_three max_four min_four

-- NEED 2
/-! ### dH: function 48 -/
def dH.j0 : Nat → Int → Int → Int → Int → Bool → Bool → Option (Int × Bool × Bool × Bool × Bool × Bool)
 |0, _, _, _, _, _, _ => none
 |k + 1, x0, x1, x2, x3, x13, x49 => if x49 = true then ((dE.f x0 x13).bind fun t287 => (some (t287, false, false, false, false, false))) else ((dZ.f x0 x2 x3).bind fun bt288 => ((aC.f k x0 x1 x13 bt288.2.1 bt288.2.2.1 false).bind fun bt293 => (some (bt293.1, bt293.2.1, bt293.2.2.1, bt293.2.2.2.1, bt293.2.2.2.2.1, bt293.2.2.2.2.2))))
def dH.f (k : Nat) (a0 a1 : Int) (a2 a3 : Int) : Option (Int × Bool × Bool × Bool × Bool × Bool) := (bC.f k a0 (([a2, a3] : List Int))).bind fun bt268 => (if bt268.2.2.2.2.2.2 = true then (some (bt268.1, bt268.2.1, bt268.2.2.1, bt268.2.2.2.1, bt268.2.2.2.2.1, bt268.2.2.2.2.2.1)) else ((dR.f k a0 a2 a3).bind fun t276 => (if t276 = true then ((eY.f a0).bind fun bt277 => (some (bt277.1, bt277.2.1, bt277.2.2.1, bt277.2.2.2.1, bt277.2.2.2.2.1, bt277.2.2.2.2.2))) else ((dJ.f a0 a2).bind fun t283 => ((dJ.f a0 a3).bind fun t284 => ((aO.f k a0 a2).bind fun t285 => (if t285 = true then (dH.j0 k a0 a1 a2 a3 (t283 != t284) true) else ((aO.f k a0 a3).bind fun t286 => (dH.j0 k a0 a1 a2 a3 (t283 != t284) t286)))))))))
end Go.Proofs.YtfapjegkilljnaaGreat.P
