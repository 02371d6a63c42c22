import Derived.Test.YtolpdiifmacdbaaGreatQcoZ
import Derived.Test.YtolpdiifmacdbaaGreatQcoM5
import Derived.Test.YtolpdiifmacdbaaGreatQcoM8
import Derived.Test.YtolpdiifmacdbaaGreatQcoM6
import Derived.Test.YtolpdiifmacdbaaGreatQcoM7
import Derived.Test.YtolpdiifmacdbaaGreatQcoProdF
import Derived.Test.YtolpdiifmacdbaaGreatQcoM10
import Derived.Test.YtolpdiifmacdbaaGreatQcoPackE
import Derived.Test.YtolpdiifmacdbaaGreatQcoM9
import Derived.Test.YtolpdiifmacdbaaGreatQcoM4
import Derived.Test.YtolpdiifmacdbaaGreatProg
-- Printed by a program of this session's out of Lean's print of the translation; Lean checks it.
set_option linter.unusedVariables false
set_option linter.unusedSimpArgs false
namespace Go.Proofs.YtolpdiifmacdbaaGreat.P
open Go.RowKit Go.Proofs.YtolpdiifmacdbaaGreatW.PrintWords Go.Proofs.YtolpdiifmacdbaaGreatW.PrintLast Go.Proofs.YtolpdiifmacdbaaGreatW.PrintMore
attribute [local go_sem] max2_int min2_int max_two min_two max_three min_three max_four min_four

-- NEED 2
/-! ### aY: function 131 -/
mutual
def aY.j0 : Nat → Int → Int → Int → Int → Int → Bool → Bool → Bool → Option (Int × Bool × Bool × Bool × Bool × Bool)
 |0, _, _, _, _, _, _, _, _ => none
 |k + 1, x0, x1, x2, x3, x4, x16, x17, x18 => if x17 = true then (aY.j1 k x0 x1 x2 x3 x4 x16 x17 x18 true) else (aY.j1 k x0 x1 x2 x3 x4 x16 x17 x18 x18)
def aY.j1 : Nat → Int → Int → Int → Int → Int → Bool → Bool → Bool → Bool → Option (Int × Bool × Bool × Bool × Bool × Bool)
 |0, _, _, _, _, _, _, _, _, _ => none
 |k + 1, x0, x1, x2, x3, x4, x16, x17, x18, x71 => if x71 = true then ((dQ.f x0 x4).bind fun t320 => ((bC.f k x0 x16 t320 x17 x18).bind fun bt321 => (some (bt321.1, bt321.2.1, bt321.2.2.1, bt321.2.2.2.1, bt321.2.2.2.2.1, bt321.2.2.2.2.2)))) else ((dY.f x0 x2 x3).bind fun bt327 => ((fD.f x0 x4).bind fun bt331 => ((aT.f k bt327.1 bt327.2.1 bt327.2.2.1 bt327.2.2.2 bt331.1 bt331.2.1 bt331.2.2.1 bt331.2.2.2).bind fun bt337 => (if bt337.2.2.1 = 0 then (aY.j2 k x0 x1 x16 (!bt337.2.2.2) bt331.1 bt331.2.1 bt331.2.2.1 bt331.2.2.2 bt337.1 bt337.2.1 bt337.2.2.1 bt337.2.2.2) else (aY.j2 k x0 x1 x16 false bt331.1 bt331.2.1 bt331.2.2.1 bt331.2.2.2 bt337.1 bt337.2.1 bt337.2.2.1 bt337.2.2.2)))))
def aY.j2 : Nat → Int → Int → Bool → Bool → Bool → Int → Int → Bool → Bool → Int → Int → Bool → Option (Int × Bool × Bool × Bool × Bool × Bool)
 |0, _, _, _, _, _, _, _, _, _, _, _, _ => none
 |k + 1, x0, x1, x16, x99, x337000, x337001, x337002, x337003, x342000, x342001, x342002, x342003 => if x99 = true then ((fB.f x0 x1 x16 x337000).bind fun t342 => (some (t342, false, false, false, false, false))) else ((aC.f k x0 x1 x342000 x342001 x342002 x342003).bind fun bt343 => (some (bt343.1, bt343.2.1, bt343.2.2.1, bt343.2.2.2.1, bt343.2.2.2.2.1, bt343.2.2.2.2.2)))
end
def aY.f (k : Nat) (a0 a1 : Int) (a2 a3 a4 : Int) : Option (Int × Bool × Bool × Bool × Bool × Bool) := (dR.f k a0 a2 a3).bind fun t296 => ((bJ.f k a0 (([a2, a3, a4] : List Int))).bind fun bt300 => (if bt300.2.2.2.2.2.2 = true then (if bt300.2.1 = true then (some (bt300.1, true, bt300.2.2.1, bt300.2.2.2.1, bt300.2.2.2.2.1, bt300.2.2.2.2.2.1)) else (some (bt300.1, t296, bt300.2.2.1, bt300.2.2.2.1, bt300.2.2.2.2.1, bt300.2.2.2.2.2.1))) else (if t296 = true then ((eT.f a0).bind fun bt308 => (some (bt308.1, bt308.2.1, bt308.2.2.1, bt308.2.2.2.1, bt308.2.2.2.2.1, bt308.2.2.2.2.2))) else ((dQ.f a0 a2).bind fun t314 => ((dQ.f a0 a3).bind fun t315 => ((aV.f k a0 a2).bind fun t316 => (if t316 = true then ((aV.f k a0 a4).bind fun t317 => (aY.j0 k a0 a1 a2 a3 a4 (t314 != t315) true t317)) else ((aV.f k a0 a3).bind fun t318 => ((aV.f k a0 a4).bind fun t319 => (aY.j0 k a0 a1 a2 a3 a4 (t314 != t315) t318 t319))))))))))
end Go.Proofs.YtolpdiifmacdbaaGreat.P

/- A product and a number together: the program's, of finite numbers, as plain numbers. -/
namespace Go.Proofs.YtolpdiifmacdbaaGreat.Round
open Go.RowKit Go.Proofs.YtolpdiifmacdbaaGreat.P Go.Proofs.YtolpdiifmacdbaaGreat.Num Go.Proofs.YtolpdiifmacdbaaGreat.BitsF Go.Proofs.YtolpdiifmacdbaaGreat.Fmt Go.Proofs.YtolpdiifmacdbaaGreatW.PrintWords Go.Proofs.YtolpdiifmacdbaaGreatW.PrintLast Go.Proofs.YtolpdiifmacdbaaGreatW.PrintMore

theorem nL (f : Int) (a b c : Nat) (ha : a < 4294967296) (hb : b < 4294967296) (hc : c < 4294967296) : Ev (fun k => bJ.f k f [(a : Int), (b : Int), (c : Int)]) ((rO f : Int), fM f a || fM f b || fM f c, false, false, false, false, fE f a || fE f b || fE f c) := by
 refine Ev.congr (fun k => by unfold bJ.f; rfl) (jS f _ 0 a false false _ (by simp) (by simp) ha rfl (jS f _ 1 b _ _ _ (by simp) (by simp) hb rfl (jS f _ 2 c _ _ _ (by simp) (by simp) hc rfl ?_)))
 rw [Bool.false_or, Bool.false_or]
 exact qY f [(a : Int), (b : Int), (c : Int)] _ _
def nE (f : Int) (a b c : Nat) : Bool × Int × Nat × Bool := kV (dU f a != dU f b) (bT f a + bT f b) (bZ f a * bZ f b) (dU f c) (bT f c) (bZ f c)
theorem mul_62 (f : Int) (a b : Nat) : bZ f a * bZ f b < 4611686018427387904 := by
 have wa := jE f a
 have wb := jE f b
 have hbd := dS f
 have hp24 : 2 ^ (fm f + 1) ≤ 16777216 := Nat.pow_le_pow_right (show 0 < 2 by decide) (show fm f + 1 ≤ 24 by omega)
 have := Nat.mul_le_mul (show bZ f a ≤ 16777216 by omega) (show bZ f b ≤ 16777216 by omega)
 omega
theorem fma_ev (f mode : Int) (a b c : Nat) (ha : a < 4294967296) (hb : b < 4294967296) (hc : c < 4294967296) (ca : dA f a < 3) (cb : dA f b < 3) (cc : dA f c < 3) :
  Ev (fun k => aY.f k f mode (a : Int) (b : Int) (c : Int)) ((gN f mode (dU f a != dU f b) (dU f c) (nE f a b c) : Int), false, false, iE f mode (nE f a b c)) := by
 have ht : lL f a b = false := by unfold lL; exact decide_eq_false (by omega)
 have hto := qW f a b ha hb
 rw [ht] at hto
 have hn := nL f a b c ha hb hc
 have n0 : (fE f a || fE f b || fE f c) = false := by
  unfold fE
  rw [decide_eq_false (show ¬ 4 ≤ dA f a by omega), decide_eq_false (show ¬ 4 ≤ dA f b by omega), decide_eq_false (show ¬ 4 ≤ dA f c by omega)]; rfl
 rw [n0] at hn
 obtain ⟨l1, l2⟩ := eZ f a
 obtain ⟨m1, m2⟩ := eZ f b
 obtain ⟨o1, o2⟩ := eZ f c
 have fa := jK f a ca
 have fb := jK f b cb
 have fc := jK f c cc
 have hx := exact_ev (dU f a != dU f b) (bT f a + bT f b) (bZ f a * bZ f b) (dU f c) (bT f c) (bZ f c) (mul_62 f a b) (yF f c) (by omega) (by omega) (by omega) (by omega)
 obtain ⟨x1, x2, x3⟩ := vJ (dU f a != dU f b) (bT f a + bT f b) (bZ f a * bZ f b) (dU f c) (bT f c) (bZ f c) (mul_62 f a b) (yF f c) (by omega) (by omega) (by omega) (by omega)
 refine Ev.congr (fun k => by unfold aY.f; rfl) (Ev.bind hto (Ev.bind hn ?_))
 dsimp only
 refine Ev.congr (fun k => by rw [if_neg (show ¬ false = true by decide), if_neg (show ¬ false = true by decide), tL f a ha, Option.bind_some, tL f b hb, Option.bind_some]) (Ev.bind (iM f a ha) ?_)
 refine Ev.congr (fun k => by rw [if_neg (by simp; omega)]) (Ev.bind (iM f b hb) (Ev.bind (iM f c hc) ?_))
 rw [decide_eq_false (show ¬ dA f b = 3 by omega), decide_eq_false (show ¬ dA f c = 3 by omega)]
 refine Ev.step (fun k => by rw [aY.j0, if_neg (by decide)]) (Ev.step (fun k => by rw [aY.j1, if_neg (by decide), vH f a b ha hb fa fb, Option.bind_some, of_f f c hc fc, Option.bind_some]) ?_)
 dsimp only
 refine Ev.bind hx ?_
 unfold nE zN
 generalize kV (dU f a != dU f b) (bT f a + bT f b) (bZ f a * bZ f b) (dU f c) (bT f c) (bZ f c) = r at *
 obtain ⟨rn, re, rs, rm⟩ := r
 dsimp only at *
 have hp := qE f mode rn re rs rm (by omega)
 rw [iP _ (by omega) (by omega)] at hp
 have pack : ¬ (rs = 0 ∧ rm = false) → Ev (fun k => aY.j2 k f mode (dU f a != dU f b) false (dU f c) (bT f c) (bZ f c : Int) false rn re (rs : Int) rm) ((gN f mode (dU f a != dU f b) (dU f c) (rn, re, rs, rm) : Int), false, false, iE f mode (rn, re, rs, rm)) := by
  intro z
  have zz : ¬ (rs, rm) = (0, false) := fun e => z ⟨(Prod.mk.inj e).1, (Prod.mk.inj e).2⟩
  unfold gN iE
  rw [if_neg zz, if_neg zz]
  exact Ev.step (fun k => by rw [aY.j2, if_neg (by decide)]) (Ev.bind hp (Ev.now _))
 by_cases s0 : rs = 0
 ·cases rm
  ·have zz : (rs, false) = (0, false) := by rw [s0]
   refine Ev.congr (fun k => by rw [if_pos (by omega)]) (Ev.step (fun k => by rw [aY.j2, if_pos (by decide), nought_f]) (Ev.congr (fun k => ?_) (Ev.now _)))
   unfold gN iE
   rw [if_pos zz, if_pos zz]; rfl
  ·exact Ev.congr (fun k => by rw [if_pos (by omega)]; rfl) (pack (by simp))
 ·exact Ev.congr (fun k => by rw [if_neg (by omega)]) (pack (fun h => s0 h.1))
end Go.Proofs.YtolpdiifmacdbaaGreat.Round

/- The reference's differences, products with a sum: as plain numbers. -/
namespace Go.Proofs.YtolpdiifmacdbaaGreat.Round
open Go.RowKit Go.Proofs.YtolpdiifmacdbaaGreat.P Go.Proofs.YtolpdiifmacdbaaGreat.E Go.Proofs.YtolpdiifmacdbaaGreat.Num Go.Proofs.YtolpdiifmacdbaaGreat.BitsF Go.Proofs.YtolpdiifmacdbaaGreat.Fmt Go.Proofs.YtolpdiifmacdbaaGreatW.PrintWords Go.Proofs.YtolpdiifmacdbaaGreatW.PrintLast Go.Proofs.YtolpdiifmacdbaaGreatW.PrintMore

def rP (f mode : Int) (a b c : Nat) : Nat :=
  if 4 ≤ dA f a ∨ 4 ≤ dA f b ∨ 4 ≤ dA f c then rO f else if lL f a b = true then rO f
  else if dA f a = 3 ∨ dA f b = 3 then (if dA f c = 3 ∧ dU f c ≠ (dU f a != dU f b) then rO f else nD f (dU f a != dU f b))
  else if dA f c = 3 then nD f (dU f c) else gN f mode (dU f a != dU f b) (dU f c) (nE f a b c)
def wN (f mode : Int) (a b c : Nat) : Bool × Bool × Bool × Bool × Bool :=
  if 4 ≤ dA f a ∨ 4 ≤ dA f b ∨ 4 ≤ dA f c then (fM f a || fM f b || fM f c || lL f a b, false, false, false, false) else if lL f a b = true then (true, false, false, false, false)
  else if dA f a = 3 ∨ dA f b = 3 then (if dA f c = 3 ∧ dU f c ≠ (dU f a != dU f b) then (true, false, false, false, false) else (false, false, false, false, false))
  else if dA f c = 3 then (false, false, false, false, false) else (false, false, iE f mode (nE f a b c))
theorem fma_fin (f mode : Int) (a b c : Nat) (ca : dA f a < 3) (cb : dA f b < 3) (cc : dA f c < 3) : rP f mode a b c = gN f mode (dU f a != dU f b) (dU f c) (nE f a b c) ∧ wN f mode a b c = (false, false, iE f mode (nE f a b c)) := by
  have ht : ¬ lL f a b = true := by unfold lL; rw [decide_eq_true_iff]; omega
  unfold rP wN
  rw [if_neg (show ¬ (4 ≤ dA f a ∨ 4 ≤ dA f b ∨ 4 ≤ dA f c) by omega), if_neg (show ¬ (4 ≤ dA f a ∨ 4 ≤ dA f b ∨ 4 ≤ dA f c) by omega), if_neg ht, if_neg ht, if_neg (show ¬ (dA f a = 3 ∨ dA f b = 3) by omega), if_neg (show ¬ (dA f a = 3 ∨ dA f b = 3) by omega), if_neg (show ¬ dA f c = 3 by omega), if_neg (show ¬ dA f c = 3 by omega)]
  exact ⟨rfl, rfl⟩
theorem nan3 (f : Int) (a b c : Nat) : (fE f a || fE f b || fE f c) = true ↔ (4 ≤ dA f a ∨ 4 ≤ dA f b ∨ 4 ≤ dA f c) := by
  unfold fE
  rw [Bool.or_eq_true, Bool.or_eq_true, decide_eq_true_iff, decide_eq_true_iff, decide_eq_true_iff, or_assoc]
theorem aAc (f mode : Int) (a b c : Nat) (ha : a < 4294967296) (hb : b < 4294967296) (hc : c < 4294967296) :
    Ev (fun k => aY.f k f mode (a : Int) (b : Int) (c : Int)) ((rP f mode a b c : Int), wN f mode a b c) := by
  by_cases n : 4 ≤ dA f a ∨ 4 ≤ dA f b ∨ 4 ≤ dA f c
  · have e := (nan3 f a b c).mpr n
    unfold rP wN
    rw [if_pos n, if_pos n]
    refine Ev.congr (fun k => by unfold aY.f; rfl) (Ev.bind (qW f a b ha hb) (Ev.bind (nL f a b c ha hb hc) (Ev.congr (fun k => ?_) (Ev.now _))))
    dsimp only
    rw [if_pos e]
    cases h : (fM f a || fM f b || fM f c)
    · rw [if_neg (by decide), Bool.false_or]
    · rw [if_pos rfl, Bool.true_or]
  · have e : ¬ (fE f a || fE f b || fE f c) = true := fun h => n ((nan3 f a b c).mp h)
    by_cases t : lL f a b = true
    · unfold rP wN
      rw [if_neg n, if_neg n, if_pos t, if_pos t]
      refine Ev.congr (fun k => by unfold aY.f; rfl) (Ev.bind (qW f a b ha hb) (Ev.bind (nL f a b c ha hb hc) (Ev.congr (fun k => ?_) (Ev.now _))))
      dsimp only
      rw [if_neg e, if_pos t, zV, Option.bind_some]
    · by_cases i : dA f a = 3 ∨ dA f b = 3 ∨ dA f c = 3
      · have hin := wM f (dU f a != dU f b) (dU f c) (decide (dA f a = 3 ∨ dA f b = 3)) (decide (dA f c = 3))
        have hj1 : Ev (fun k => aY.j1 k f mode (a : Int) (b : Int) (c : Int) (dU f a != dU f b) (decide (dA f a = 3 ∨ dA f b = 3)) (decide (dA f c = 3)) true) ((rP f mode a b c : Int), wN f mode a b c) := by
          refine Ev.step (fun k => by rw [aY.j1, if_pos rfl, tL f c hc, Option.bind_some]) (Ev.bind hin (Ev.congr (fun k => ?_) (Ev.now _)))
          unfold rP wN
          rw [if_neg n, if_neg n, if_neg t, if_neg t]
          simp only [decide_eq_true_iff]
          by_cases ab : dA f a = 3 ∨ dA f b = 3
          · by_cases c3 : dA f c = 3 ∧ dU f c ≠ (dU f a != dU f b)
            · have h1 : (dA f a = 3 ∨ dA f b = 3) ∧ dA f c = 3 ∧ (dU f a != dU f b) ≠ dU f c := ⟨ab, c3.1, fun h => c3.2 h.symm⟩
              rw [if_pos h1, if_pos ab, if_pos c3, if_pos ab, if_pos c3]
            · have h1 : ¬ ((dA f a = 3 ∨ dA f b = 3) ∧ dA f c = 3 ∧ (dU f a != dU f b) ≠ dU f c) := fun h => c3 ⟨h.2.1, fun e => h.2.2 e.symm⟩
              rw [if_neg h1, if_pos ab, if_pos ab, if_neg c3, if_pos ab, if_neg c3]
          · have c3 : dA f c = 3 := by omega
            have h1 : ¬ ((dA f a = 3 ∨ dA f b = 3) ∧ dA f c = 3 ∧ (dU f a != dU f b) ≠ dU f c) := fun h => ab h.1
            rw [if_neg h1, if_neg ab, if_neg ab, if_pos c3, if_neg ab, if_pos c3]
        have hj : Ev (fun k => aY.j0 k f mode (a : Int) (b : Int) (c : Int) (dU f a != dU f b) (decide (dA f a = 3 ∨ dA f b = 3)) (decide (dA f c = 3))) ((rP f mode a b c : Int), wN f mode a b c) := by
          by_cases ab : dA f a = 3 ∨ dA f b = 3
          · exact Ev.step (fun k => by rw [aY.j0, if_pos (decide_eq_true ab)]) hj1
          · have c3 : dA f c = 3 := by omega
            refine Ev.step (fun k => by rw [aY.j0, if_neg (by rw [decide_eq_true_iff]; exact ab)]) ?_
            exact Ev.congr (fun k => by rw [decide_eq_true c3]) hj1
        refine Ev.congr (fun k => by unfold aY.f; rfl) (Ev.bind (qW f a b ha hb) (Ev.bind (nL f a b c ha hb hc) ?_))
        dsimp only
        refine Ev.congr (fun k => by rw [if_neg e, if_neg t, tL f a ha, Option.bind_some, tL f b hb, Option.bind_some]) (Ev.bind (iM f a ha) ?_)
        by_cases a3 : dA f a = 3
        · refine Ev.congr (fun k => by rw [if_pos (decide_eq_true a3)]) (Ev.bind (iM f c hc) ?_)
          rw [decide_eq_true (show dA f a = 3 ∨ dA f b = 3 from .inl a3)] at hj
          exact hj
        · refine Ev.congr (fun k => by rw [if_neg (by rw [decide_eq_true_iff]; exact a3)]) (Ev.bind (iM f b hb) (Ev.bind (iM f c hc) ?_))
          rw [show decide (dA f a = 3 ∨ dA f b = 3) = decide (dA f b = 3) from decide_eq_decide.mpr ⟨fun h => h.resolve_left a3, .inr⟩] at hj
          exact hj
      · have h1 := sI f a
        obtain ⟨e1, e2⟩ := fma_fin f mode a b c (by omega) (by omega) (by omega)
        rw [e1, e2]
        exact fma_ev f mode a b c ha hb hc (by omega) (by omega) (by omega)
theorem aA3 (f : Int) (a b c : Nat) (ha : a < 4294967296) (hb : b < 4294967296) (hc : c < 4294967296) : Ev (fun k => aI.f k f [(a : Int), (b : Int), (c : Int)]) (fE f a || fE f b || fE f c, fM f a || fM f b || fM f c) := by
  refine Ev.congr (fun k => by unfold aI.f; rfl) (nY f _ 0 a false false _ (by simp) (by simp) ha rfl (nY f _ 1 b _ _ _ (by simp) (by simp) hb rfl (nY f _ 2 c _ _ _ (by simp) (by simp) hc rfl ?_)))
  rw [Bool.false_or, Bool.false_or]
  exact yV f [(a : Int), (b : Int), (c : Int)] _ _
theorem fma_j14 (f mode : Int) (a b c : Nat) (ha : a < 4294967296) (hb : b < 4294967296) (hc : c < 4294967296) (ca : dA f a < 3) (cb : dA f b < 3) (cc : dA f c < 3) (hne : ¬ ((dA f a = 0 ∨ dA f b = 0) ∧ dA f c = 0 ∧ (dU f a != dU f b) = dU f c)) (c0 c1 c2 c3 c4 : Bool) :
    Ev (fun n => E.aN.j14 n (dU f a != dU f b) (c : Int) (b : Int) (a : Int) mode f c0 c1 c2 c3 c4) ((gN f mode (dU f a != dU f b) (dU f c) (nE f a b c) : Int), false, false, iE f mode (nE f a b c)) := by
  obtain ⟨l1, l2⟩ := kS f a ca
  obtain ⟨m1, m2⟩ := kS f b cb
  obtain ⟨o1, o2⟩ := kS f c cc
  obtain ⟨R, r1, r2, r3⟩ := vU (dU f a != dU f b) (bT f a + bT f b) (bZ f a * bZ f b) (by omega) (by omega) (aBH f a b)
  obtain ⟨S, s1, s2, s3⟩ := vU (dU f c) (bT f c) (bZ f c) (by omega) (by omega) (tH f c)
  refine Ev.congr (fun n => aN.aAK n _ c b a mode f c0 c1 c2 c3 c4) (Ev.bind (mK f a ha (jK f a ca)) (Ev.bind (mK f b hb (jK f b cb)) ?_))
  dsimp only
  rw [bS (bT f a + bT f b) (by omega) (by omega), ← Int.natCast_mul, fH _ (qH f a b)]
  refine Ev.bind r3 (Ev.bind (mK f c hc (jK f c cc)) (Ev.bind s3 ?_))
  refine Ev.bind (zT f mode _ _ _ _ _ _ (by omega) (by omega) (by omega) (by omega) (aBH f a b) (tH f c) (fun e z1 z2 => hne ⟨?_, oP f c cc z2, e⟩) r1 s1 r2 s2) (Ev.now _)
  rcases Nat.mul_eq_zero.mp z1 with z | z
  · exact .inl (oP f a ca z)
  · exact .inr (oP f b cb z)
theorem vG (f mode : Int) (a b c : Nat) (h : dA f a = 0 ∨ dA f b = 0) (ca : dA f a < 3) (cb : dA f b < 3) (hc : dA f c = 0) (e : (dU f a != dU f b) = dU f c) :
    gN f mode (dU f a != dU f b) (dU f c) (nE f a b c) = eQ f (dU f a != dU f b) ∧ iE f mode (nE f a b c) = (false, false, false) := by
  have l1 := (kS f a ca).1
  have m1 := (kS f b cb).1
  have o1 := (eZ f c).1
  have w := sS f mode (dU f a != dU f b) (bT f a + bT f b) (bZ f a * bZ f b) (dU f c) (bT f c) (bZ f c) (by omega) (by omega) (aBH f a b) (tH f c)
  have z : bZ f a * bZ f b = 0 := by
    rcases h with h | h
    · rw [(p8 f a h).2, Nat.zero_mul]
    · rw [(p8 f b h).2, Nat.mul_zero]
  have hw : (iB (dU f a != dU f b) (bZ f a * bZ f b * 2 ^ (bT f a + bT f b + 298).toNat) (dU f c) (bZ f c * 2 ^ (bT f c + 298).toNat)).2 = 0 := by
    rw [z, (p8 f c hc).2, Nat.zero_mul, Nat.zero_mul]
    unfold iB; rw [if_pos e]
  unfold nE
  rw [w.1, w.2, if_pos hw, if_pos hw]
  exact ⟨if_pos e, rfl⟩
theorem fma_j5 (f mode : Int) (a b c : Nat) (ha : a < 4294967296) (hb : b < 4294967296) (hc : c < 4294967296) (n : ¬ (4 ≤ dA f a ∨ 4 ≤ dA f b ∨ 4 ≤ dA f c)) (t : ¬ lL f a b = true) (c0 c1 c2 c3 c4 : Bool) :
    Ev (fun n => E.aN.j5 n (c : Int) (b : Int) (a : Int) mode f c0 c1 c2 c3 c4) ((rP f mode a b c : Int), wN f mode a b c) := by
  unfold rP wN
  rw [if_neg n, if_neg n, if_neg t, if_neg t]
  refine Ev.congr (fun n => by rw [aN.j5_eq n c b a mode f c0 c1 c2 c3 c4, vP f a ha, Option.bind_some, vP f b hb, Option.bind_some]) ?_
  have inf : Ev (fun n => (bL.f n f (c : Int)).bind fun t3 => (if t3 = true then ((bU.f f (c : Int)).bind fun t4 => (if (t4 == !(dU f a == dU f b)) = true then ((bV.f f (!(dU f a == dU f b))).bind fun t5 => (some ((t5, false, false, false, false, false)))) else ((cK.f f).bind fun t5 => (some ((t5, true, false, false, false, false)))))) else ((bV.f f (!(dU f a == dU f b))).bind fun t4 => (some ((t4, false, false, false, false, false))))))
      (((if dA f c = 3 ∧ dU f c ≠ (dU f a != dU f b) then rO f else nD f (dU f a != dU f b) : Nat) : Int), (if dA f c = 3 ∧ dU f c ≠ (dU f a != dU f b) then (true, false, false, false, false) else (false, false, false, false, false))) := by
    refine Ev.bind (mO f c hc) ?_
    by_cases k3 : dA f c = 3
    · refine Ev.congr (fun n => by rw [if_pos (decide_eq_true k3), vP f c hc, Option.bind_some]) ?_
      by_cases e : dU f c = (dU f a != dU f b)
      · have h1 : ¬ (dA f c = 3 ∧ dU f c ≠ (dU f a != dU f b)) := fun h => h.2 e
        rw [if_neg h1, if_neg h1]
        have e1 : (dU f c == !(dU f a == dU f b)) = true := beq_iff_eq.mpr e
        exact Ev.congr (fun n => by rw [if_pos e1, lN, Option.bind_some]; rfl) (Ev.now _)
      · have h1 : dA f c = 3 ∧ dU f c ≠ (dU f a != dU f b) := ⟨k3, e⟩
        rw [if_pos h1, if_pos h1]
        have e1 : ¬ (dU f c == !(dU f a == dU f b)) = true := fun h => e (beq_iff_eq.mp h)
        exact Ev.congr (fun n => by rw [if_neg e1, lU, Option.bind_some]) (Ev.now _)
    · have h1 : ¬ (dA f c = 3 ∧ dU f c ≠ (dU f a != dU f b)) := fun h => k3 h.1
      rw [if_neg h1, if_neg h1]
      exact Ev.congr (fun n => by rw [if_neg (by rw [decide_eq_true_iff]; exact k3), lN, Option.bind_some]; rfl) (Ev.now _)
  refine Ev.bind (mO f a ha) ?_
  by_cases a3 : dA f a = 3
  · have ab : dA f a = 3 ∨ dA f b = 3 := .inl a3
    rw [if_pos ab, if_pos ab]
    exact Ev.congr (fun n => by rw [if_pos (decide_eq_true a3)]) inf
  · refine Ev.congr (fun n => by rw [if_neg (by rw [decide_eq_true_iff]; exact a3)]) (Ev.bind (mO f b hb) ?_)
    by_cases b3 : dA f b = 3
    · have ab : dA f a = 3 ∨ dA f b = 3 := .inr b3
      rw [if_pos ab, if_pos ab]
      exact Ev.congr (fun n => by rw [if_pos (decide_eq_true b3)]) inf
    · rw [if_neg (show ¬ (dA f a = 3 ∨ dA f b = 3) by omega), if_neg (show ¬ (dA f a = 3 ∨ dA f b = 3) by omega)]
      refine Ev.congr (fun n => by rw [if_neg (by rw [decide_eq_true_iff]; exact b3)]) (Ev.bind (mO f c hc) ?_)
      by_cases k3 : dA f c = 3
      · rw [if_pos k3, if_pos k3]
        exact Ev.congr (fun n => by rw [if_pos (decide_eq_true k3), iZ, Option.bind_some, pU f c hc, aAr f c k3]) (Ev.now _)
      · rw [if_neg k3, if_neg k3]
        refine Ev.congr (fun n => by rw [if_neg (by rw [decide_eq_true_iff]; exact k3)]) ?_
        have fin := fma_j14 f mode a b c ha hb hc (by omega) (by omega) (by omega)
        have none : (dA f a = 0 ∨ dA f b = 0) → Ev (fun n => (bG.f n f (c : Int)).bind fun t6 => (if t6 = true then ((bU.f f (c : Int)).bind fun t7 => (if ((!(dU f a == dU f b)) == t7) = true then ((aZ.f f (!(dU f a == dU f b))).bind fun t8 => (some ((t8, false, false, false, false, false)))) else (aN.j14 n (!(dU f a == dU f b)) (c : Int) (b : Int) (a : Int) mode f c0 c1 c2 c3 c4))) else (aN.j14 n (!(dU f a == dU f b)) (c : Int) (b : Int) (a : Int) mode f c0 c1 c2 c3 c4)))
            ((gN f mode (dU f a != dU f b) (dU f c) (nE f a b c) : Int), false, false, iE f mode (nE f a b c)) := by
          intro ab
          refine Ev.bind (mI f c hc) ?_
          by_cases k0 : dA f c = 0
          · refine Ev.congr (fun n => by rw [if_pos (decide_eq_true k0), vP f c hc, Option.bind_some]) ?_
            by_cases e : (dU f a != dU f b) = dU f c
            · obtain ⟨e1, e2⟩ := vG f mode a b c ab (by omega) (by omega) k0 e
              rw [e1, e2]
              have e3 : ((!(dU f a == dU f b)) == dU f c) = true := beq_iff_eq.mpr e
              exact Ev.congr (fun n => by rw [if_pos e3, jA, Option.bind_some]; rfl) (Ev.now _)
            · have e3 : ¬ ((!(dU f a == dU f b)) == dU f c) = true := fun h => e (beq_iff_eq.mp h)
              exact Ev.congr (fun n => by rw [if_neg e3]; rfl) (fin (fun h => e h.2.2) c0 c1 c2 c3 c4)
          · exact Ev.congr (fun n => by rw [if_neg (by rw [decide_eq_true_iff]; exact k0)]; rfl) (fin (fun h => k0 h.2.1) c0 c1 c2 c3 c4)
        refine Ev.bind (mI f a ha) ?_
        by_cases a0 : dA f a = 0
        · exact Ev.congr (fun n => by rw [if_pos (decide_eq_true a0)]) (none (.inl a0))
        · refine Ev.congr (fun n => by rw [if_neg (by rw [decide_eq_true_iff]; exact a0)]) (Ev.bind (mI f b hb) ?_)
          by_cases b0 : dA f b = 0
          · exact Ev.congr (fun n => by rw [if_pos (decide_eq_true b0)]) (none (.inr b0))
          · exact Ev.congr (fun n => by rw [if_neg (by rw [decide_eq_true_iff]; exact b0)]; rfl) (fin (fun h => h.1.elim a0 b0) c0 c1 c2 c3 c4)
theorem fma_j2 (f mode : Int) (a b c : Nat) (ha : a < 4294967296) (hb : b < 4294967296) (hc : c < 4294967296) (t : Bool) (ht : lL f a b = t) (c0 c1 c2 c3 c4 : Bool) :
    Ev (fun n => E.aN.j2 n t (c : Int) (b : Int) (a : Int) mode f c0 c1 c2 c3 c4) ((rP f mode a b c : Int), wN f mode a b c) := by
  subst ht
  refine Ev.congr (fun n => aN.j2_eq n _ c b a mode f c0 c1 c2 c3 c4) (Ev.bind (aA3 f a b c ha hb hc) ?_)
  dsimp only
  by_cases n : 4 ≤ dA f a ∨ 4 ≤ dA f b ∨ 4 ≤ dA f c
  · unfold rP wN
    rw [if_pos n, if_pos n]
    refine Ev.congr (fun k => ?_) (Ev.now _)
    rw [if_pos ((nan3 f a b c).mpr n), lU, Option.bind_some]
    cases h : (fM f a || fM f b || fM f c)
    · rw [if_neg (by decide), Bool.false_or]
    · rw [if_pos rfl, Bool.true_or]
  · have e : ¬ (fE f a || fE f b || fE f c) = true := fun h => n ((nan3 f a b c).mp h)
    by_cases t : lL f a b = true
    · unfold rP wN
      rw [if_neg n, if_neg n, if_pos t, if_pos t]
      refine Ev.congr (fun k => ?_) (Ev.now _)
      rw [if_neg e, if_pos t, lU, Option.bind_some, t]
      split <;> rfl
    · exact Ev.congr (fun k => by rw [if_neg e, if_neg t]) (fma_j5 f mode a b c ha hb hc n t c0 c1 c2 c3 c4)
theorem zW (f mode : Int) (a b c : Nat) (ha : a < 4294967296) (hb : b < 4294967296) (hc : c < 4294967296) :
    Ev (fun n => E.aN.f n f mode (a : Int) (b : Int) (c : Int)) ((rP f mode a b c : Int), wN f mode a b c) := by
  have tt : ∀ t : Bool, (t = true ↔ (dA f a = 0 ∧ dA f b = 3 ∨ dA f a = 3 ∧ dA f b = 0)) → lL f a b = t := by
    intro t h
    unfold lL
    cases t
    · exact decide_eq_false (fun x => by have := h.mpr x; cases this)
    · exact decide_eq_true (h.mp rfl)
  have fin := fun (t : Bool) h => fma_j2 f mode a b c ha hb hc t (tt t h) false false false false false
  have rest : dA f a ≠ 0 ∨ dA f b ≠ 3 → Ev (fun n => (bL.f n f (a : Int)).bind fun t1 => (if t1 = true then ((bG.f n f (b : Int)).bind fun t2 => (aN.j2 n (t2) (c : Int) (b : Int) (a : Int) mode f (false) (false) (false) (false) (false))) else (aN.j2 n (false) (c : Int) (b : Int) (a : Int) mode f (false) (false) (false) (false) (false)))) ((rP f mode a b c : Int), wN f mode a b c) := by
    intro h
    refine Ev.bind (mO f a ha) ?_
    by_cases a3 : dA f a = 3
    · refine Ev.congr (fun n => by rw [if_pos (decide_eq_true a3)]) (Ev.bind (mI f b hb) ?_)
      exact fin _ (by rw [decide_eq_true_iff]; omega)
    · exact Ev.congr (fun n => by rw [if_neg (by rw [decide_eq_true_iff]; exact a3)]) (fin _ ⟨fun x => (by cases x), fun x => (by omega)⟩)
  refine Ev.congr (fun n => aN.eq n f mode a b c) (Ev.bind (mI f a ha) ?_)
  by_cases a0 : dA f a = 0
  · refine Ev.congr (fun n => by rw [if_pos (decide_eq_true a0)]) (Ev.bind (mO f b hb) ?_)
    by_cases b3 : dA f b = 3
    · exact Ev.congr (fun n => by rw [if_pos (decide_eq_true b3)]) (fin _ ⟨fun _ => .inl ⟨a0, b3⟩, fun _ => rfl⟩)
    · exact Ev.congr (fun n => by rw [if_neg (by rw [decide_eq_true_iff]; exact b3)]) (rest (.inr b3))
  · exact Ev.congr (fun n => by rw [if_neg (by rw [decide_eq_true_iff]; exact a0)]) (rest (.inl a0))
end Go.Proofs.YtolpdiifmacdbaaGreat.Round

-- Printed by a program of this session's out of Lean's print of the translation; Lean checks it.
namespace Go.Proofs.YtolpdiifmacdbaaGreat.P
open Go.RowKit Go.Proofs.YtolpdiifmacdbaaGreatW.PrintWords Go.Proofs.YtolpdiifmacdbaaGreatW.PrintLast Go.Proofs.YtolpdiifmacdbaaGreatW.PrintMore
attribute [local go_sem] max2_int min2_int max_two min_two max_three min_three max_four min_four

-- NEED 2
/-! ### bN: function 102 -/
mutual
def bN.j0 : Nat → Int → Int → Int → Int → Bool → Int → Int → Bool → Option (Int × Bool × Bool × Bool × Bool × Bool)
 |0, _, _, _, _, _, _, _, _ => none
 |k + 1, x0, x1, x2, x3, x13, x14, x15, x46 => if x46 = true then ((eT.f x0).bind fun bt385 => (some (bt385.1, bt385.2.1, bt385.2.2.1, bt385.2.2.2.1, bt385.2.2.2.2.1, bt385.2.2.2.2.2))) else (if x14 = 3 then ((dF.f x0 x13).bind fun t391 => (some (t391, false, false, false, false, false))) else (if x15 = 3 then (bN.j1 k x0 x1 x2 x3 x13 x15 true) else (bN.j1 k x0 x1 x2 x3 x13 x15 (x14 == 0))))
def bN.j1 : Nat → Int → Int → Int → Int → Bool → Int → Bool → Option (Int × Bool × Bool × Bool × Bool × Bool)
 |0, _, _, _, _, _, _, _ => none
 |k + 1, x0, x1, x2, x3, x13, x15, x69 => if x69 = true then ((dN.f x0 x13).bind fun t392 => (some (t392, false, false, false, false, false))) else (if x15 = 0 then ((dF.f x0 x13).bind fun t393 => (some (t393, false, true, false, false, false))) else ((fD.f x0 x2).bind fun bt394 => ((fD.f x0 x3).bind fun bt398 => ((bits_Len.f k bt394.2.2.1).bind fun t404 => ((aU.f k bt394.2.2.1 (wrap64 (-(wrap64 (62 - t404))))).bind fun bt405 => (if bt398.2.2.1 = 0 then (none) else ((aC.f k x0 x1 x13 (wrap64 ((wrap64 (bt394.2.1 - (wrap64 (62 - t404)))) - bt398.2.1)) (IntKind.u64.wrap (Int.tdiv bt405.1 bt398.2.2.1)) ((Int.tmod bt405.1 bt398.2.2.1) != 0)).bind fun bt407 => (some (bt407.1, bt407.2.1, bt407.2.2.1, bt407.2.2.2.1, bt407.2.2.2.2.1, bt407.2.2.2.2.2)))))))))
end
def bN.f (k : Nat) (a0 a1 : Int) (a2 a3 : Int) : Option (Int × Bool × Bool × Bool × Bool × Bool) := (bJ.f k a0 (([a2, a3] : List Int))).bind fun bt373 => (if bt373.2.2.2.2.2.2 = true then (some (bt373.1, bt373.2.1, bt373.2.2.1, bt373.2.2.2.1, bt373.2.2.2.2.1, bt373.2.2.2.2.2.1)) else ((dQ.f a0 a2).bind fun t381 => ((dQ.f a0 a3).bind fun t382 => ((aW.f k a0 a2).bind fun t383 => ((aW.f k a0 a3).bind fun t384 => (if t383 = t384 then (if t383 = 0 then (bN.j0 k a0 a1 a2 a3 (t381 != t382) t383 t384 true) else (bN.j0 k a0 a1 a2 a3 (t381 != t382) t383 t384 (t383 == 3))) else (bN.j0 k a0 a1 a2 a3 (t381 != t382) t383 t384 false)))))))
end Go.Proofs.YtolpdiifmacdbaaGreat.P

/- Quotients: the program's, as plain numbers. -/
namespace Go.Proofs.YtolpdiifmacdbaaGreat.Round
open Go.RowKit Go.Proofs.YtolpdiifmacdbaaGreat.P Go.Proofs.YtolpdiifmacdbaaGreat.Num Go.Proofs.YtolpdiifmacdbaaGreat.BitsF Go.Proofs.YtolpdiifmacdbaaGreat.Fmt Go.Proofs.YtolpdiifmacdbaaGreatW.PrintWords Go.Proofs.YtolpdiifmacdbaaGreatW.PrintLast Go.Proofs.YtolpdiifmacdbaaGreatW.PrintMore

def eO (f : Int) (v : Nat) : Nat := 62 - fT (bZ f v)
def ratioN (f mode : Int) (a b : Nat) : Nat := gD f mode (dU f a != dU f b) (bT f a - bT f b - (eO f a : Int)) (bZ f a * 2 ^ eO f a / bZ f b) (decide (bZ f a * 2 ^ eO f a % bZ f b ≠ 0))
def ratioX (f mode : Int) (a b : Nat) : Bool × Bool × Bool := kY f mode (dU f a != dU f b) (bT f a - bT f b - (eO f a : Int)) (bZ f a * 2 ^ eO f a / bZ f b) (decide (bZ f a * 2 ^ eO f a % bZ f b ≠ 0))
def divN (f mode : Int) (a b : Nat) : Nat :=
 if 4 ≤ dA f a ∨ 4 ≤ dA f b then rO f else if dA f a = dA f b ∧ (dA f a = 0 ∨ dA f a = 3) then rO f else if dA f a = 3 then nD f (dU f a != dU f b)
 else if dA f b = 3 ∨ dA f a = 0 then eQ f (dU f a != dU f b) else if dA f b = 0 then nD f (dU f a != dU f b) else ratioN f mode a b
def divX (f mode : Int) (a b : Nat) : Bool × Bool × Bool × Bool × Bool :=
 if 4 ≤ dA f a ∨ 4 ≤ dA f b then (fM f a || fM f b, false, false, false, false) else if dA f a = dA f b ∧ (dA f a = 0 ∨ dA f a = 3) then (true, false, false, false, false) else if dA f a = 3 then (false, false, false, false, false)
 else if dA f b = 3 ∨ dA f a = 0 then (false, false, false, false, false) else if dA f b = 0 then (false, true, false, false, false) else (false, false, ratioX f mode a b)
theorem lZ (f : Int) (v : Nat) (h : dA f v ≠ 0) (h3 : dA f v < 3) : bZ f v ≠ 0 := by
 have hp := Nat.two_pow_pos (fm f)
 unfold dA at h h3
 unfold bZ
 by_cases c : lK f v = 0
 ·rw [if_pos c] at h ⊢
  intro z; rw [if_pos z] at h; exact h rfl
 ·rw [if_neg c]; omega
theorem jZ (f : Int) (v : Nat) (h : bZ f v ≠ 0) : 38 ≤ eO f v ∧ eO f v ≤ 61 ∧ fT (bZ f v) + eO f v = 62 ∧ 2305843009213693952 ≤ bZ f v * 2 ^ eO f v ∧ bZ f v * 2 ^ eO f v < 4611686018427387904 := by
 have h1 := fZ _ _ (jE f v)
 have h2 := mH _ h
 have hb := dS f
 have e : fT (bZ f v) + eO f v = 62 := by unfold eO; omega
 have hp := Nat.two_pow_pos (eO f v)
 have l1 := Nat.mul_le_mul_right (2 ^ eO f v) (qZ _ h)
 have l2 := Nat.mul_lt_mul_of_pos_right (nA (bZ f v)) hp
 rw [← Nat.pow_add, show fT (bZ f v) - 1 + eO f v = 61 by omega] at l1
 rw [← Nat.pow_add, e] at l2
 exact ⟨by omega, by omega, e, l1, l2⟩
theorem tdiv_nat (a b : Nat) : Int.tdiv (a : Int) (b : Int) = ((a / b : Nat) : Int) := rfl
theorem tmod_nn (a b : Nat) : Int.tmod (a : Int) (b : Int) = ((a % b : Nat) : Int) := rfl
theorem yH (v n : Nat) (h : v * 2 ^ n < 18446744073709551616) : (jY v (-(n : Int))).1 = v * 2 ^ n := by
 have hp := Nat.two_pow_pos n
 have hv : v < 18446744073709551616 := Nat.lt_of_le_of_lt (Nat.le_mul_of_pos_right v hp) h
 rw [jV v n hv]
 exact Nat.mod_eq_of_lt h
theorem div_j1 (f mode : Int) (a b : Nat) (ha : a < 4294967296) (hb : b < 4294967296) (ca : dA f a < 3) (cb : dA f b ≤ 3) (hz : ¬ (dA f a = dA f b ∧ (dA f a = 0 ∨ dA f a = 3))) :
  Ev (fun k => bN.j1 k f mode (a : Int) (b : Int) (dU f a != dU f b) (dA f b : Int) (decide (dA f b = 3 ∨ dA f a = 0))) ((divN f mode a b : Int), divX f mode a b) := by
 unfold divN divX
 rw [if_neg (show ¬ (4 ≤ dA f a ∨ 4 ≤ dA f b) by omega), if_neg (show ¬ (4 ≤ dA f a ∨ 4 ≤ dA f b) by omega)]
 by_cases c0 : dA f b = 3 ∨ dA f a = 0
 ·rw [decide_eq_true c0]
  rw [if_neg hz, if_neg hz, if_neg (show ¬ dA f a = 3 by omega), if_neg (show ¬ dA f a = 3 by omega), if_pos c0, if_pos c0]
  exact Ev.step (fun k => by rw [bN.j1, if_pos rfl, sV, Option.bind_some]) (Ev.now _)
 ·rw [decide_eq_false c0, if_neg hz, if_neg hz, if_neg (show ¬ dA f a = 3 by omega), if_neg (show ¬ dA f a = 3 by omega), if_neg c0, if_neg c0]
  by_cases b0 : dA f b = 0
  ·rw [if_pos b0, if_pos b0]
   exact Ev.step (fun k => by rw [bN.j1, if_neg (by decide), if_pos (by omega), wE, Option.bind_some]) (Ev.now _)
  ·rw [if_neg b0, if_neg b0]
   have wa := lZ f a (by omega) ca
   have wb := lZ f b b0 (by omega)
   obtain ⟨k1, k2, k3, k4, k5⟩ := jZ f a wa
   have hs := uH f a
   obtain ⟨l1, l2⟩ := eZ f a
   obtain ⟨m1, m2⟩ := eZ f b
   have hw : wrap64 (-(wrap64 (62 - (fT (bZ f a) : Int)))) = -(eO f a : Int) := by rw [bS (62 - (fT (bZ f a) : Int)) (by omega) (by omega), bS _ (by omega) (by omega)]; omega
   have he : wrap64 ((wrap64 (bT f a - (wrap64 (62 - (fT (bZ f a) : Int))))) - bT f b) = bT f a - bT f b - (eO f a : Int) := by
    rw [bS (62 - (fT (bZ f a) : Int)) (by omega) (by omega), bS (bT f a - (62 - (fT (bZ f a) : Int))) (by omega) (by omega), bS _ (by omega) (by omega)]; omega
   have hsh := qB (bZ f a) hs (-(eO f a : Int)) (by omega) (by omega)
   have hq : bZ f a * 2 ^ eO f a / bZ f b < 18446744073709551616 := Nat.lt_of_le_of_lt (Nat.div_le_self _ _) (by omega)
   have hp := qE f mode (dU f a != dU f b) (bT f a - bT f b - (eO f a : Int)) (bZ f a * 2 ^ eO f a / bZ f b) (decide (bZ f a * 2 ^ eO f a % bZ f b ≠ 0)) hq
   rw [iP _ (by omega) (by omega)] at hp
   refine Ev.step (fun k => by rw [bN.j1, if_neg (by decide), if_neg (by omega), of_f f a ha (jK f a ca), Option.bind_some, of_f f b hb (jK f b (by omega)), Option.bind_some]) (Ev.bind (aA5 _ hs) ?_)
   dsimp only
   rw [hw, he]
   refine Ev.bind hsh ?_
   dsimp only
   rw [yH _ _ (by omega), tdiv_nat, tmod_nn, fH _ hq, show (0 : Int) = ((0 : Nat) : Int) from rfl, bne_cast]
   exact Ev.congr (fun k => by rw [if_neg (by omega)]) (Ev.bind hp (Ev.now _))
theorem div_ev (f mode : Int) (a b : Nat) (ha : a < 4294967296) (hb : b < 4294967296) : Ev (fun k => bN.f k f mode (a : Int) (b : Int)) ((divN f mode a b : Int), divX f mode a b) := by
 refine Ev.congr (fun k => by unfold bN.f; rfl) (Ev.bind (uW f a b ha hb) ?_)
 by_cases n : 4 ≤ dA f a ∨ 4 ≤ dA f b
 ·have e : (fE f a || fE f b) = true := by unfold fE; rw [Bool.or_eq_true, decide_eq_true_iff, decide_eq_true_iff]; exact n
  unfold divN divX
  rw [if_pos n, if_pos n]
  exact Ev.congr (fun k => by rw [if_pos e]) (Ev.now _)
 ·have e : ¬ (fE f a || fE f b) = true := by unfold fE; rw [Bool.or_eq_true, decide_eq_true_iff, decide_eq_true_iff]; exact n
  refine Ev.congr (fun k => by rw [if_neg e, tL f a ha, Option.bind_some, tL f b hb, Option.bind_some]) (Ev.bind (nH f a ha) (Ev.bind (nH f b hb) ?_))
  have bad : (dA f a = dA f b ∧ (dA f a = 0 ∨ dA f a = 3)) → Ev (fun k => bN.j0 k f mode (a : Int) (b : Int) (dU f a != dU f b) (dA f a : Int) (dA f b : Int) true) ((divN f mode a b : Int), divX f mode a b) := by
   intro z
   unfold divN divX
   rw [if_neg n, if_neg n, if_pos z, if_pos z]
   exact Ev.step (fun k => by rw [bN.j0, if_pos rfl, zV]; rfl) (Ev.now _)
  have good : ¬ (dA f a = dA f b ∧ (dA f a = 0 ∨ dA f a = 3)) → Ev (fun k => bN.j0 k f mode (a : Int) (b : Int) (dU f a != dU f b) (dA f a : Int) (dA f b : Int) false) ((divN f mode a b : Int), divX f mode a b) := by
   intro z
   by_cases a3 : dA f a = 3
   ·unfold divN divX
    rw [if_neg n, if_neg n, if_neg z, if_neg z, if_pos a3, if_pos a3]
    exact Ev.step (fun k => by rw [bN.j0, if_neg (by decide), if_pos (by omega), wE]; rfl) (Ev.now _)
   ·have hj := div_j1 f mode a b ha hb (by omega) (by omega) z
    by_cases b3 : dA f b = 3
    ·rw [decide_eq_true (.inl b3)] at hj
     exact Ev.step (fun k => by rw [bN.j0, if_neg (by decide), if_neg (by omega), if_pos (by omega)]) hj
    ·have e0 : decide (dA f b = 3 ∨ dA f a = 0) = ((dA f a : Int) == 0) := by
      rw [show (0 : Int) = ((0 : Nat) : Int) from rfl, l9]; apply decide_eq_decide.mpr; omega
     rw [e0] at hj
     exact Ev.step (fun k => by rw [bN.j0, if_neg (by decide), if_neg (by omega), if_neg (by omega)]) hj
  by_cases s : dA f a = dA f b
  ·by_cases a0 : dA f a = 0
   ·exact Ev.congr (fun k => by rw [if_pos (by omega), if_pos (by omega)]) (bad ⟨s, .inl a0⟩)
   ·by_cases a3 : dA f a = 3
    ·have e3 : (((dA f a : Nat) : Int) == 3) = true := by rw [a3]; rfl
     exact Ev.congr (fun k => by rw [if_pos (by omega), if_neg (by omega), e3]) (bad ⟨s, .inr a3⟩)
    ·have e3 : (((dA f a : Nat) : Int) == 3) = false := by rw [show (3 : Int) = ((3 : Nat) : Int) from rfl, l9]; exact decide_eq_false a3
     exact Ev.congr (fun k => by rw [if_pos (by omega), if_neg (by omega), e3]) (good (by omega))
  ·exact Ev.congr (fun k => by rw [if_neg (by omega)]) (good (by omega))
/- Quotients: the reference's, as the program's plain numbers. -/

end Go.Proofs.YtolpdiifmacdbaaGreat.Round

-- Printed by a program of this session's out of Lean's print of the translation; Lean checks it.
namespace Go.Proofs.YtolpdiifmacdbaaGreat.P
open Go.RowKit Go.Proofs.YtolpdiifmacdbaaGreatW.PrintWords Go.Proofs.YtolpdiifmacdbaaGreatW.PrintLast Go.Proofs.YtolpdiifmacdbaaGreatW.PrintMore
attribute [local go_sem] max2_int min2_int max_two min_two max_three min_three max_four min_four

-- NEED 0
/-! ### whole_apart: function 166 -/

-- NEED 0
/-! ### bA: function 96 -/
def bA.l0 : Nat → Int → Int → Int → Option (Int × Bool)
 |0, _, _, _ => none
 |k + 1, x0, x4, x5 => if x5 ≥ 0 then (if 0 ≤ x5 then (if (IntKind.u64.wrap ((Go.bits .or .u64 x4 (shl .u64 1 x5)) * (Go.bits .or .u64 x4 (shl .u64 1 x5)))) ≤ x0 then (bA.l0 k x0 (Go.bits .or .u64 x4 (shl .u64 1 x5)) (wrap64 (x5 - 1))) else (bA.l0 k x0 x4 (wrap64 (x5 - 1)))) else (none)) else (some ((x4) % 4294967296, ((IntKind.u64.wrap (x4 * x4)) == x0)))
def bA.f (k : Nat) (a0 : Int) : Option (Int × Bool) := bA.l0 k a0 0 31
theorem bA.eX : ∀ k, (∀ y0 y1 y2, LeO (bA.l0 k y0 y1 y2) (bA.l0 (k + 1) y0 y1 y2))
 |0 => fun _ _ _ r h => by simp [bA.l0] at h
 |k + 1 => by
  have ih0 := bA.eX k
  ·intro y0 y1 y2
   unfold bA.l0
   repeat' first
   |(with_reducible first|exact ih0 _ _ _|exact LeO.refl _|exact LeO.none _|refine LeO.ite ?_ ?_|refine LeO.bind ?_ (fun _ => ?_))
   |exact ih0 _ _ _
   |exact LeO.none _
   |refine LeO.ite ?_ ?_
   |refine LeO.bind ?_ (fun _ => ?_)
theorem bA.mono : ∀ a0 k, LeO (bA.f k a0) (bA.f (k + 1) a0) := by
 intro a0 k
 have ih0 := bA.eX k
 unfold bA.f
 repeat' first
   |(with_reducible first|exact ih0 _ _ _|exact LeO.refl _|exact LeO.none _|refine LeO.ite ?_ ?_|refine LeO.bind ?_ (fun _ => ?_))
   |exact ih0 _ _ _
   |exact LeO.none _
   |refine LeO.ite ?_ ?_
   |refine LeO.bind ?_ (fun _ => ?_)
set_option maxHeartbeats 8000000 in
set_option maxRecDepth 100000 in
theorem bA.calls (k : Nat) (a0 r1 : Int) (r2 : Bool) (w : World) (h : bA.f k a0 = some (r1, r2)) :
  Calls Tryz.prog 96 #[.int .u64 a0] w fun e w' => e = .returned (.tuple #[.int .u32 r1, .bool r2]) ∧ Drawn0 w w' := by
 have H : (bA.l0 k a0 0 31) = some (r1, r2) := h
 clear h
 have H' := Aside0.mk H
 clear H
 go_enter Tryz.func96, Tryz.ntmps96
 go_wp2
 go_loopg [4, 5] k (fun kq v4 v5 w' => ∃ (x4_1 : Int) (x5_1 : Int), v4 = .int .u64 x4_1 ∧ v5 = .int .i64 x5_1 ∧ Aside0 (bA.l0 kq a0 x4_1 x5_1 = some (r1, r2)) ∧ Aside0 (kq ≤ k) ∧ Drawn0 w w')
 case atStart => exact ⟨(0), (31), (gr_), (gr_), H', ⟨Nat.le_refl _⟩, gd_⟩
 case round =>
  clear H'
  obtain ⟨x4_1, x5_1, rfl, rfl, HA, HK1, ⟨m1, rfl⟩⟩ := hrel
  cases gk with
  |zero => exact absurd HA.out (by simp [bA.l0])
  |succ k1 =>
   have H := HA.out
   clear HA
   simp only [bA.l0] at H
   by_cases c2 : x5_1 ≥ 0
   ·rw [if_pos c2] at H
    have c2b0 : decide (0 ≤ x5_1) = true := decide_eq_true c2
    clear c2
    by_cases c3 : 0 ≤ x5_1
    ·rw [if_pos c3] at H
     have c3b0 := eq_true c3
     have c3b1 : decide (0 ≤ x5_1) = true := decide_eq_true c3
     clear c3
     obtain ⟨ji4, hji4⟩ : ∃ j_ : Int, (shl .u64 1 x5_1) = j_ := ⟨_, rfl⟩
     replace H : (if (IntKind.u64.wrap ((Go.bits .or .u64 x4_1 (ji4)) * (Go.bits .or .u64 x4_1 (ji4)))) ≤ a0 then (bA.l0 k1 a0 (Go.bits .or .u64 x4_1 (ji4)) (wrap64 (x5_1 - 1))) else (bA.l0 k1 a0 x4_1 (wrap64 (x5_1 - 1)))) = some (r1, r2) := by first | (rw [hji4] at H; exact H) | (simp only [hji4] at H ⊢; exact H)
     have hji4_ : (IntKind.u64.wrap (1 * 2 ^ min x5_1.toNat 64)) = ji4 := hji4
     have hji4z : x5_1 ≤ 64 → (IntKind.u64.wrap (1 * 2 ^ x5_1.toNat)) = ji4 := shl_small hji4
     have hji4u : (IntKind.u64.wrap (2 ^ min x5_1.toNat 64)) = ji4 := by have h_ := hji4_; rw [Int.one_mul] at h_; exact h_
     have hji4v : x5_1 ≤ 64 → (IntKind.u64.wrap (2 ^ x5_1.toNat)) = ji4 := fun hle_ => by have h_ := hji4z hle_; rw [Int.one_mul] at h_; exact h_
     by_cases c5 : (IntKind.u64.wrap ((Go.bits .or .u64 x4_1 (ji4)) * (Go.bits .or .u64 x4_1 (ji4)))) ≤ a0
     ·rw [if_pos c5] at H
      have c5b0 : decide ((IntKind.u64.wrap ((Go.bits .or .u64 x4_1 (ji4)) * (Go.bits .or .u64 x4_1 (ji4)))) ≤ a0) = true := decide_eq_true c5
      clear c5
      have H' := Aside0.mk H
      clear H
      go_wp2
      go_roundg k1
      case measure => have := HK1.out; omega
      case rel => exact ⟨(Go.bits .or .u64 x4_1 (ji4)), (wrap64 (x5_1 - 1)), (by first | rfl | (simp; done) | (simp only [← hji4] <;> (first | rfl | (simp; done))) | (simp [*]; done) | (congr 1; (try unfold wrap64); omega) | (congr 1; rw [IntKind.wrap_u64]; omega)), (gr_), H', ⟨by have := HK1.out; omega⟩, gd_⟩
     ·rw [if_neg c5] at H
      have c5b0 : decide ((IntKind.u64.wrap ((Go.bits .or .u64 x4_1 (ji4)) * (Go.bits .or .u64 x4_1 (ji4)))) ≤ a0) = false := decide_eq_false c5
      clear c5
      have H' := Aside0.mk H
      clear H
      go_wp2
      (try subst hji4)
      go_roundg k1
      case measure => have := HK1.out; omega
      case rel => exact ⟨(x4_1), (wrap64 (x5_1 - 1)), (gr_), (gr_), H', ⟨by have := HK1.out; omega⟩, gd_⟩
    ·rw [if_neg c3] at H
     exact absurd H (by simp)
   ·rw [if_neg c2] at H
    have c2b0 : decide (0 ≤ x5_1) = false := decide_eq_false c2
    clear c2
    simp only [Option.some.injEq, Prod.mk.injEq] at H
    obtain ⟨rfl, rfl⟩ := H
    go_wp2
    go_ret2
    exact ⟨gr_, gd_⟩

end Go.Proofs.YtolpdiifmacdbaaGreat.P

/- Entries of functions. -/
namespace Go.Proofs.YtolpdiifmacdbaaGreat.L
open Go.RowKit Go.Proofs.YtolpdiifmacdbaaGreat.P Go.Proofs.YtolpdiifmacdbaaGreat.Ek Go.Proofs.YtolpdiifmacdbaaGreatW.PrintWords Go.Proofs.YtolpdiifmacdbaaGreatW.PrintLast Go.Proofs.YtolpdiifmacdbaaGreatW.PrintMore
noncomputable def dN.c : Fc := gT [hI .i64, hB] [hI .u32] (T := Int) (fun y => ((y, ()), ())) fun n x => dN.f x.1.1 x.2.1.1
theorem dN.ok : gI Tryz.prog 139 dN.c := d9 Tryz.func139 (by kernel_rfl) (by kernel_rfl) (by decide) (fun _ => dJ (by decide) _) fun n x y h m w => (dN.calls x.1.1 x.2.1.1 y w h).mono fun e w' he => ⟨he.1, he.2.below⟩
noncomputable def bI.c : Fc := gT [hI .i64] [hI .i64, hI .i64] (T := Int × Int) (fun y => ((y.1, ()), (y.2, ()), ())) fun n x => bI.f x.1.1
theorem bI.ok : gI Tryz.prog 149 bI.c := d9 Tryz.func149 (by kernel_rfl) (by kernel_rfl) (by decide) (fun _ => dJ (by decide) _) fun n x y h m w => (bI.calls x.1.1 y.1 y.2 w h).mono fun e w' he => ⟨he.1, he.2.below⟩
noncomputable def dH.c : Fc := gT [hI .i64, hI .i64, hI .u64] [hI .i64] (T := Int) (fun y => ((y, ()), ())) fun n x => dH.f n x.1.1 x.2.1.1 x.2.2.1.1
theorem dH.ok : gI Tryz.prog 150 dH.c := d9 Tryz.func150 (by kernel_rfl) (by kernel_rfl) (by decide) (fun _ => dJ (by decide) _) fun n x y h m w => (dH.calls n x.1.1 x.2.1.1 x.2.2.1.1 y w h).mono fun e w' he => ⟨he.1, he.2⟩
noncomputable def cO.c : Fc := gT [hI .u64, hI .i64, hB] [hI .u64, hI .i64] (T := Int × Int) (fun y => ((y.1, ()), (y.2, ()), ())) fun n x => cO.f n x.1.1 x.2.1.1 x.2.2.1.1
theorem cO.ok : gI Tryz.prog 151 cO.c := d9 Tryz.func151 (by kernel_rfl) (by kernel_rfl) (by decide) (fun _ => dJ (by decide) _) fun n x y h m w => (cO.calls n x.1.1 x.2.1.1 x.2.2.1.1 y.1 y.2 w h).mono fun e w' he => ⟨he.1, he.2.below⟩
noncomputable def gP.c : Fc := gT [hI .i64, hB, hI .u64, hI .i64] [hB] (T := Bool) (fun y => ((y, ()), ())) fun n x => gP.f x.1.1 x.2.1.1 x.2.2.1.1 x.2.2.2.1.1
theorem gP.ok : gI Tryz.prog 152 gP.c := d9 Tryz.func152 (by kernel_rfl) (by kernel_rfl) (by decide) (fun _ => dJ (by decide) _) fun n x y h m w => (gP.calls x.1.1 x.2.1.1 x.2.2.1.1 x.2.2.2.1.1 y w h).mono fun e w' he => ⟨he.1, he.2.below⟩
noncomputable def dC.c : Fc := gT [hI .i64] [hI .i64] (T := Int) (fun y => ((y, ()), ())) fun n x => dC.f x.1.1
theorem dC.ok : gI Tryz.prog 153 dC.c := d9 Tryz.func153 (by kernel_rfl) (by kernel_rfl) (by decide) (fun _ => dJ (by decide) _) fun n x y h m w => (dC.calls x.1.1 y w h).mono fun e w' he => ⟨he.1, he.2.below⟩
noncomputable def dK.c : Fc := gT [hI .i64] [hI .i64] (T := Int) (fun y => ((y, ()), ())) fun n x => dK.f x.1.1
theorem dK.ok : gI Tryz.prog 116 dK.c := d9 Tryz.func116 (by kernel_rfl) (by kernel_rfl) (by decide) (fun _ => dJ (by decide) _) fun n x y h m w => (dK.calls x.1.1 y w h).mono fun e w' he => ⟨he.1, he.2.below⟩
noncomputable def bits_Len.c : Fc := gT [hI .u64] [hI .i64] (T := Int) (fun y => ((y, ()), ())) fun n x => bits_Len.f n x.1.1
theorem bits_Len.ok : gI Tryz.prog 143 bits_Len.c := d9 Tryz.func143 (by kernel_rfl) (by kernel_rfl) (by decide) (fun _ => dJ (by decide) _) fun n x y h m w => (bits_Len.calls n x.1.1 y w h).mono fun e w' he => ⟨he.1, he.2.below⟩
noncomputable def fG.c : Fc := gT [hI .u64, hI .i64] [hI .u64] (T := Int) (fun y => ((y, ()), ())) fun n x => fG.f x.1.1 x.2.1.1
theorem fG.ok : gI Tryz.prog 156 fG.c := d9 Tryz.func156 (by kernel_rfl) (by kernel_rfl) (by decide) (fun _ => dJ (by decide) _) fun n x y h m w => (fG.calls x.1.1 x.2.1.1 y w h).mono fun e w' he => ⟨he.1, he.2.below⟩
noncomputable def bX.c : Fc := gT [hI .i64, hB, hI .i64, hI .u32] [hI .u32] (T := Int) (fun y => ((y, ()), ())) fun n x => bX.f x.1.1 x.2.1.1 x.2.2.1.1 x.2.2.2.1.1
theorem bX.ok : gI Tryz.prog 155 bX.c := d9 Tryz.func155 (by kernel_rfl) (by kernel_rfl) (by decide) (fun _ => dJ (by decide) _) fun n x y h m w => (bX.calls x.1.1 x.2.1.1 x.2.2.1.1 x.2.2.2.1.1 y w h).mono fun e w' he => ⟨he.1, he.2.below⟩
noncomputable def aC.cls : Cls := [(139, dN.c), (149, bI.c), (150, dH.c), (151, cO.c), (152, gP.c), (153, dC.c), (116, dK.c), (154, bR.c), (143, bits_Len.c), (156, fG.c), (155, bX.c)]
theorem aC.gU : dG Tryz.prog aC.cls := dG.cons dN.ok (dG.cons bI.ok (dG.cons dH.ok (dG.cons cO.ok (dG.cons gP.ok (dG.cons dC.ok (dG.cons dK.ok (dG.cons bR.ok (dG.cons bits_Len.ok (dG.cons fG.ok (dG.cons bX.ok (dG.nil)))))))))))
noncomputable def aC.K (v : SV) : Option (Int × Bool × Bool × Bool × Bool × Bool) := (kT [hI .u32, .agg [.b, .b, .b, .b, .b]] v).map (fun z => (z.1.1, z.2.1.1, z.2.1.2.1, z.2.1.2.2.1, z.2.1.2.2.2.1, z.2.1.2.2.2.2.1))
noncomputable def aC.cuts : List Nat := [3, 9, 11, 14]
noncomputable def aC.f (k : Nat) (a0 a1 : Int) (a2 : Bool) (a3 a4 : Int) (a5 : Bool) : Option (Int × Bool × Bool × Bool × Bool × Bool) := evF Tryz.prog aC.cls Tryz.f104 aC.cuts k [.one (.i .i64 (.x a0)), .one (.i .i64 (.x a1)), .one (.b (.q a2)), .one (.i .i64 (.x a3)), .one (.i .u64 (.x a4)), .one (.b (.q a5))] aC.K
noncomputable def aC.c : Fc := gT [hI .i64, hI .i64, hB, hI .i64, hI .u64, hB] [hI .u32, .agg [.b, .b, .b, .b, .b]] (T := Int × Bool × Bool × Bool × Bool × Bool) (fun y => ((y.1, ()), (y.2.1, y.2.2.1, y.2.2.2.1, y.2.2.2.2.1, y.2.2.2.2.2, ()), ())) fun n x => aC.f n x.1.1 x.2.1.1 x.2.2.1.1 x.2.2.2.1.1 x.2.2.2.2.1.1 x.2.2.2.2.2.1.1
theorem aC.ok : gI Tryz.prog 104 aC.c := uT aC.gU Tryz.func104 (by kernel_rfl) (by kernel_rfl) (by decide) (fun _ => rfl) (fun _ _ => rfl)
noncomputable def aI.c : Fc := mkFcA [.s (hI .i64), .sl .u32] [hB, hB] (T := Bool × Bool) (fun y => ((y.1, ()), (y.2, ()), ())) fun n x => aI.f n x.1.1 x.2.1
theorem aI.ok : gI Tryz.prog 77 aI.c := xU Tryz.func77 (by kernel_rfl) (by kernel_rfl) (by decide) (fun _ => dJ (by decide) _) fun n x y h m w vs ha => by obtain ⟨q0, e0, ha⟩ := ha; subst e0; obtain ⟨A1, c1, q1, e1, R1, D1, ha⟩ := ha; subst e1; subst ha; exact (aI.calls n x.1.1 A1 c1 x.2.1 y.1 y.2 w R1 D1 h).mono fun e w' he => ⟨he.1, he.2.below⟩
noncomputable def cK.c : Fc := gT [hI .i64] [hI .u32] (T := Int) (fun y => ((y, ()), ())) fun n x => cK.f x.1.1
theorem cK.ok : gI Tryz.prog 87 cK.c := d9 Tryz.func87 (by kernel_rfl) (by kernel_rfl) (by decide) (fun _ => dJ (by decide) _) fun n x y h m w => (cK.calls x.1.1 y w h).mono fun e w' he => ⟨he.1, he.2.below⟩
noncomputable def bG.c : Fc := gT [hI .i64, hI .u32] [hB] (T := Bool) (fun y => ((y, ()), ())) fun n x => bG.f n x.1.1 x.2.1.1
theorem bG.ok : gI Tryz.prog 78 bG.c := d9 Tryz.func78 (by kernel_rfl) (by kernel_rfl) (by decide) (fun _ => dJ (by decide) _) fun n x y h m w => (bG.calls n x.1.1 x.2.1.1 y w h).mono fun e w' he => ⟨he.1, he.2.below⟩
noncomputable def bU.c : Fc := gT [hI .i64, hI .u32] [hB] (T := Bool) (fun y => ((y, ()), ())) fun n x => bU.f x.1.1 x.2.1.1
theorem bU.ok : gI Tryz.prog 88 bU.c := d9 Tryz.func88 (by kernel_rfl) (by kernel_rfl) (by decide) (fun _ => dJ (by decide) _) fun n x y h m w => (bU.calls x.1.1 x.2.1.1 y w h).mono fun e w' he => ⟨he.1, he.2.below⟩
noncomputable def bL.c : Fc := gT [hI .i64, hI .u32] [hB] (T := Bool) (fun y => ((y, ()), ())) fun n x => bL.f n x.1.1 x.2.1.1
theorem bL.ok : gI Tryz.prog 86 bL.c := d9 Tryz.func86 (by kernel_rfl) (by kernel_rfl) (by decide) (fun _ => dJ (by decide) _) fun n x y h m w => (bL.calls n x.1.1 x.2.1.1 y w h).mono fun e w' he => ⟨he.1, he.2.below⟩
noncomputable def bE.c : Fc := gT [hI .i64, hI .u32] [hB, hI .i64, hI .u64] (T := Bool × Int × Int) (fun y => ((y.1, ()), (y.2.1, ()), (y.2.2, ()), ())) fun n x => bE.f n x.1.1 x.2.1.1
theorem bE.ok : gI Tryz.prog 92 bE.c := d9 Tryz.func92 (by kernel_rfl) (by kernel_rfl) (by decide) (fun _ => dJ (by decide) _) fun n x y h m w => (bE.calls n x.1.1 x.2.1.1 y.1 y.2.1 y.2.2 w h).mono fun e w' he => ⟨he.1, he.2.below⟩
noncomputable def bA.c : Fc := gT [hI .u64] [hI .u32, hB] (T := Int × Bool) (fun y => ((y.1, ()), (y.2, ()), ())) fun n x => bA.f n x.1.1
theorem bA.ok : gI Tryz.prog 96 bA.c := d9 Tryz.func96 (by kernel_rfl) (by kernel_rfl) (by decide) (fun _ => dJ (by decide) _) fun n x y h m w => (bA.calls n x.1.1 y.1 y.2 w h).mono fun e w' he => ⟨he.1, he.2.below⟩
noncomputable def aQ.cls : Cls := [(77, aI.c), (87, cK.c), (78, bG.c), (90, bM.c), (88, bU.c), (86, bL.c), (92, bE.c), (96, bA.c), (97, aA.c)]
theorem aQ.gU : dG Tryz.prog aQ.cls := dG.cons aI.ok (dG.cons cK.ok (dG.cons bG.ok (dG.cons bM.ok (dG.cons bU.ok (dG.cons bL.ok (dG.cons bE.ok (dG.cons bA.ok (dG.cons aA.ok (dG.nil)))))))))
noncomputable def aQ.K (v : SV) : Option (Int × Bool × Bool × Bool × Bool × Bool) := (kT [hI .u32, .agg [.b, .b, .b, .b, .b]] v).map (fun z => (z.1.1, z.2.1.1, z.2.1.2.1, z.2.1.2.2.1, z.2.1.2.2.2.1, z.2.1.2.2.2.2.1))
noncomputable def aQ.cuts : List Nat := []
noncomputable def aQ.f (k : Nat) (a0 a1 a2 : Int) : Option (Int × Bool × Bool × Bool × Bool × Bool) := evF Tryz.prog aQ.cls Tryz.f36 aQ.cuts k [.one (.i .i64 (.x a0)), .one (.i .i64 (.x a1)), .one (.i .u32 (.x a2))] aQ.K
noncomputable def aQ.c : Fc := gT [hI .i64, hI .i64, hI .u32] [hI .u32, .agg [.b, .b, .b, .b, .b]] (T := Int × Bool × Bool × Bool × Bool × Bool) (fun y => ((y.1, ()), (y.2.1, y.2.2.1, y.2.2.2.1, y.2.2.2.2.1, y.2.2.2.2.2, ()), ())) fun n x => aQ.f n x.1.1 x.2.1.1 x.2.2.1.1
theorem aQ.ok : gI Tryz.prog 36 aQ.c := uT aQ.gU Tryz.func36 (by kernel_rfl) (by kernel_rfl) (by decide) (fun _ => rfl) (fun _ _ => rfl)
/- Functions' trees, printed by a tool of mine out of the reckoner; Lean's kernel checks each. -/
set_option maxRecDepth 100000
noncomputable def aC.j3 (n0 : Nat) (x0 x1 : Bool) (x2 x3 : Int) (x4 : Bool) (x5 x6 : Int) (x7 x8 : Bool) (x9 x10 x11 : Bool) := kE Tryz.prog aC.cls Tryz.f104 aC.cuts [1, 1, 0, 1] [n0] n0 ⟨[(29, (.pv (.one (.b (.q x0))))), (13, (.pv (.one (.p 0 0)))), (5, (.pv (.one (.b (.q x1))))), (4, (.pv (.one (.i .u64 (.x x2))))), (3, (.pv (.one (.i .i64 (.x x3))))), (2, (.pv (.one (.b (.q x4))))), (1, (.pv (.one (.i .i64 (.x x5))))), (0, (.pv (.one (.i .i64 (.x x6)))))], [(0, (62, [(.c (.b (.q x7))), (.c (.b (.q x8))), (.c (.b (.q x9))), (.c (.b (.q x10))), (.c (.b (.q x11)))]))], 1⟩ aC.K
noncomputable def aC.j9 (n0 : Nat) (x0 x1 : Int) (x2 x3 : Int) (x4 x5 : Int) (x6 : Bool) (x7 x8 : Int) (x9 x10 : Bool) (x11 x12 x13 : Bool) := kE Tryz.prog aC.cls Tryz.f104 aC.cuts [1, 1, 1, 1, 1, 1, 1] [n0] n0 ⟨[(18, (.pv (.one (.i .i64 (.x x0))))), (17, (.pv (.one (.i .u64 (.x x1))))), (16, (.pv (.one (.i .i64 (.x x2))))), (15, (.pv (.one (.i .i64 (.x x3))))), (13, (.pv (.one (.p 0 0)))), (4, (.pv (.one (.i .u64 (.x x4))))), (3, (.pv (.one (.i .i64 (.x x5))))), (2, (.pv (.one (.b (.q x6))))), (1, (.pv (.one (.i .i64 (.x x7))))), (0, (.pv (.one (.i .i64 (.x x8)))))], [(0, (62, [(.c (.b (.q x9))), (.c (.b (.q x10))), (.c (.b (.q x11))), (.c (.b (.q x12))), (.c (.b (.q x13)))]))], 1⟩ aC.K
noncomputable def aC.j11 (n0 : Nat) (x0 x1 : Int) (x2 x3 : Int) (x4 x5 : Int) (x6 : Bool) (x7 x8 : Int) (x9 x10 : Bool) (x11 x12 x13 : Bool) := kE Tryz.prog aC.cls Tryz.f104 aC.cuts [1, 1, 1, 1, 1, 1, 1, 1] [n0] n0 ⟨[(18, (.pv (.one (.i .i64 (.x x0))))), (17, (.pv (.one (.i .u64 (.x x1))))), (16, (.pv (.one (.i .i64 (.x x2))))), (15, (.pv (.one (.i .i64 (.x x3))))), (13, (.pv (.one (.p 0 0)))), (4, (.pv (.one (.i .u64 (.x x4))))), (3, (.pv (.one (.i .i64 (.x x5))))), (2, (.pv (.one (.b (.q x6))))), (1, (.pv (.one (.i .i64 (.x x7))))), (0, (.pv (.one (.i .i64 (.x x8)))))], [(0, (62, [(.c (.b (.q x9))), (.c (.b (.q x10))), (.c (.b (.q x11))), (.c (.b (.q x12))), (.c (.b (.q x13)))]))], 1⟩ aC.K
noncomputable def aC.j14 (n0 : Nat) (x0 x1 : Int) (x2 x3 : Int) (x4 x5 : Int) (x6 : Bool) (x7 x8 : Int) (x9 x10 : Bool) (x11 x12 x13 : Bool) := kE Tryz.prog aC.cls Tryz.f104 aC.cuts [1, 1, 1, 1, 1, 1, 1, 1, 1, 1] [n0] n0 ⟨[(19, (.pv (.one (.i .i64 (.x x0))))), (18, (.pv (.one (.i .i64 (.x x1))))), (17, (.pv (.one (.i .u64 (.x x2))))), (15, (.pv (.one (.i .i64 (.x x3))))), (13, (.pv (.one (.p 0 0)))), (4, (.pv (.one (.i .u64 (.x x4))))), (3, (.pv (.one (.i .i64 (.x x5))))), (2, (.pv (.one (.b (.q x6))))), (1, (.pv (.one (.i .i64 (.x x7))))), (0, (.pv (.one (.i .i64 (.x x8)))))], [(0, (62, [(.c (.b (.q x9))), (.c (.b (.q x10))), (.c (.b (.q x11))), (.c (.b (.q x12))), (.c (.b (.q x13)))]))], 1⟩ aC.K
theorem aC.eq (n0 : Nat) (a0 a1 : Int) (a2 : Bool) (a3 a4 : Int) (a5 : Bool) : aC.f n0 a0 a1 a2 a3 a4 a5 = (if a4 = 0 then (aC.j3 n0 (!(a5)) (a5) (a4) (mn (mx a3 (-10000)) 10000) (a2) (a1) (a0) (false) (false) (false) (false) (false)) else (aC.j3 n0 (false) (a5) (a4) (mn (mx a3 (-10000)) 10000) (a2) (a1) (a0) (false) (false) (false) (false) (false))) := by kernel_rfl
theorem aC.j3_eq (n0 : Nat) (x0 x1 : Bool) (x2 x3 : Int) (x4 : Bool) (x5 x6 : Int) (x7 x8 : Bool) (x9 x10 x11 : Bool) : aC.j3 n0 x0 x1 x2 x3 x4 x5 x6 x7 x8 x9 x10 x11 = (if x0 = true then ((dN.f x6 x4).bind fun t0 => (some ((t0, false, false, false, false, false)))) else ((bI.f x6).bind fun t0 => ((dH.f n0 x6 x3 x2).bind fun t1 => ((cO.f n0 x2 (wrap64 (t1 - x3)) x1).bind fun t2 => ((gP.f x5 x4 t2.1 t2.2).bind fun t3 => (if t3 = true then (aC.j9 n0 t2.2 (IntKind.wrap IntKind.u64 (t2.1 + 1)) (t1) t0.2 (x2) (x3) (x4) (x5) (x6) (x7) (x8) (x9) (x10) (x11)) else (aC.j9 n0 t2.2 t2.1 (t1) t0.2 (x2) (x3) (x4) (x5) (x6) (x7) (x8) (x9) (x10) (x11)))))))) := by kernel_rfl
theorem aC.j9_eq (n0 : Nat) (x0 x1 : Int) (x2 x3 : Int) (x4 x5 : Int) (x6 : Bool) (x7 x8 : Int) (x9 x10 : Bool) (x11 x12 x13 : Bool) : aC.j9 n0 x0 x1 x2 x3 x4 x5 x6 x7 x8 x9 x10 x11 x12 x13 = (if 0 ≤ IntKind.wrap IntKind.u64 (wrap64 (x3 + 1)) then (if shr IntKind.u64 x1 (IntKind.wrap IntKind.u64 (wrap64 (x3 + 1))) = 0 then (aC.j11 n0 (x0) (x1) (x2) (x3) (x4) (x5) (x6) (x7) (x8) (x9) (x10) (x11) (x12) (x13)) else (aC.j11 n0 (x0) (shr IntKind.u64 x1 1) (wrap64 (x2 + 1)) (x3) (x4) (x5) (x6) (x7) (x8) (x9) (x10) (x11) (x12) (x13))) else none) := by kernel_rfl
theorem aC.vF (n0 : Nat) (x0 x1 : Int) (x2 x3 : Int) (x4 x5 : Int) (x6 : Bool) (x7 x8 : Int) (x9 x10 : Bool) (x11 x12 x13 : Bool) : aC.j11 n0 x0 x1 x2 x3 x4 x5 x6 x7 x8 x9 x10 x11 x12 x13 = ((dC.f x8).bind fun t0 => (if 0 ≤ IntKind.wrap IntKind.u64 x3 then (if shr IntKind.u64 x1 (IntKind.wrap IntKind.u64 x3) = 0 then (aC.j14 n0 (Int.ofNat 0) (x0) (x1) (x3) (x4) (x5) (x6) (x7) (x8) (x9) (x10) (x11) (x12) (x13)) else (aC.j14 n0 (wrap64 (wrap64 (wrap64 (x2 + x3) - t0) + 1)) (x0) (x1) (x3) (x4) (x5) (x6) (x7) (x8) (x9) (x10) (x11) (x12) (x13))) else none)) := by kernel_rfl
theorem aC.aAK (n0 : Nat) (x0 x1 : Int) (x2 x3 : Int) (x4 x5 : Int) (x6 : Bool) (x7 x8 : Int) (x9 x10 : Bool) (x11 x12 x13 : Bool) : aC.j14 n0 x0 x1 x2 x3 x4 x5 x6 x7 x8 x9 x10 x11 x12 x13 = ((dK.f x8).bind fun t0 => (if t0 ≤ x0 then ((YtolpdiifmacdbaaGreat.L.bR.f n0 x8 x7 x6).bind fun t1 => (some ((t1.1, t1.2.1, t1.2.2.1, t1.2.2.2.1, t1.2.2.2.2.1, t1.2.2.2.2.2)))) else (if x1 = 0 then ((fG.f x2 x3).bind fun t1 => ((bX.f x8 x6 x0 (t1 % 4294967296)).bind fun t2 => (some ((t2, false, false, false, false, !x1 == 0))))) else (if x4 = 0 then ((fG.f x2 x3).bind fun t1 => ((bX.f x8 x6 x0 (t1 % 4294967296)).bind fun t2 => (some ((t2, false, false, false, true, !x1 == 0))))) else ((bits_Len.f n0 x4).bind fun t1 => ((dC.f x8).bind fun t2 => ((fG.f x2 x3).bind fun t3 => ((bX.f x8 x6 x0 (t3 % 4294967296)).bind fun t4 => (some ((t4, false, false, false, decide (wrap64 (wrap64 (x5 + t1) - 1) < t2), !x1 == 0))))))))))) := by kernel_rfl
noncomputable def aQ.l11 (k n0 : Nat) (x0 x1 : Int) (x2 x3 : Int) (x4 x5 : Bool) (x6 x7 x8 : Bool) := evIn Tryz.prog aQ.cls Tryz.f36 aQ.cuts [1, 1, 1, 1, 1, 1, 0, 0] [n0] k ⟨[(12, (.pv (.one (.i .u64 (.x x0))))), (11, (.pv (.one (.i .i64 (.x x1))))), (7, (.pv (.one (.p 0 0)))), (1, (.pv (.one (.i .i64 (.x x2))))), (0, (.pv (.one (.i .i64 (.x x3)))))], [(0, (62, [(.c (.b (.q x4))), (.c (.b (.q x5))), (.c (.b (.q x6))), (.c (.b (.q x7))), (.c (.b (.q x8)))]))], 1⟩ aQ.K
theorem aQ.eq (n0 : Nat) (a0 a1 a2 : Int) : aQ.f n0 a0 a1 a2 = ((aI.f n0 a0 [a2]).bind fun t0 => (if t0.1 = true then ((cK.f a0).bind fun t1 => (some ((t1, t0.2, false, false, false, false)))) else ((bG.f n0 a0 a2).bind fun t1 => (if t1 = true then ((bM.f a0).bind fun t2 => (some ((bits BinOp.and IntKind.u32 a2 t2, false, false, false, false, false)))) else ((bU.f a0 a2).bind fun t2 => (if t2 = true then ((cK.f a0).bind fun t3 => (some ((t3, true, false, false, false, false)))) else ((bL.f n0 a0 a2).bind fun t3 => (if t3 = true then ((bM.f a0).bind fun t4 => (some ((bits BinOp.and IntKind.u32 a2 t4, false, false, false, false, false)))) else ((bE.f n0 a0 a2).bind fun t4 => (aQ.l11 n0 n0 t4.2.2 t4.2.1 (a1) (a0) (false) (false) (false) (false) (false))))))))))) := by kernel_rfl
theorem aQ.l11_eq (k n0 : Nat) (x0 x1 : Int) (x2 x3 : Int) (x4 x5 : Bool) (x6 x7 x8 : Bool) : aQ.l11 (k + 1) n0 x0 x1 x2 x3 x4 x5 x6 x7 x8 = (if x0 < 2305843009213693952 then (aQ.l11 k n0 (shl IntKind.u64 x0 1) (wrap64 (x1 - 1)) (x2) (x3) (x4) (x5) (x6) (x7) (x8)) else (if Int.tmod x1 2 = 0 then ((bA.f n0 x0).bind fun t0 => ((aA.f n0 x3 x2 false (wrap64 (Int.tdiv x1 2)) (IntKind.wrap IntKind.u64 t0.1) !t0.2).bind fun t1 => (some ((t1.1, t1.2.1, t1.2.2.1, t1.2.2.2.1, t1.2.2.2.2.1, t1.2.2.2.2.2))))) else (aQ.l11 k n0 (shl IntKind.u64 x0 1) (wrap64 (x1 - 1)) (x2) (x3) (x4) (x5) (x6) (x7) (x8)))) := by kernel_rfl
end Go.Proofs.YtolpdiifmacdbaaGreat.L

-- Printed by a program of this session's out of Lean's print of the translation; Lean checks it.
namespace Go.Proofs.YtolpdiifmacdbaaGreat.P
open Go.RowKit Go.Proofs.YtolpdiifmacdbaaGreatW.PrintWords Go.Proofs.YtolpdiifmacdbaaGreatW.PrintLast Go.Proofs.YtolpdiifmacdbaaGreatW.PrintMore
attribute [local go_sem] max2_int min2_int max_two min_two max_three min_three max_four min_four

-- NEED 1
/-! ### aQ: function 36 -/
def aQ.l0 : Nat → Int → Int → Int → Int → Option (Int × Bool × Bool × Bool × Bool × Bool)
 |0, _, _, _, _ => none
 |k + 1, x0, x1, x11, x12 => if x12 < 2305843009213693952 then (aQ.l0 k x0 x1 (wrap64 (x11 - 1)) (IntKind.u64.wrap (x12 * 2))) else (if (Int.tmod x11 2) = 0 then ((bA.f k x12).bind fun bt714 => ((aA.f k x0 x1 false (wrap64 (Int.tdiv x11 2)) (IntKind.u64.wrap (bt714.1)) (!bt714.2)).bind fun bt716 => (some (bt716.1, bt716.2.1, bt716.2.2.1, bt716.2.2.2.1, bt716.2.2.2.2.1, bt716.2.2.2.2.2)))) else (aQ.l0 k x0 x1 (wrap64 (x11 - 1)) (IntKind.u64.wrap (x12 * 2))))
def aQ.f (k : Nat) (a0 a1 a2 : Int) : Option (Int × Bool × Bool × Bool × Bool × Bool) := (aI.f k a0 (([a2] : List Int))).bind fun bt702 => (if bt702.1 = true then ((cK.f a0).bind fun t704 => (some (t704, bt702.2, false, false, false, false))) else ((bG.f k a0 a2).bind fun t705 => (if t705 = true then ((bM.f a0).bind fun t706 => (some (Go.bits .and .u32 a2 t706, false, false, false, false, false))) else ((bU.f a0 a2).bind fun t707 => (if t707 = true then ((cK.f a0).bind fun t708 => (some (t708, true, false, false, false, false))) else ((bL.f k a0 a2).bind fun t709 => (if t709 = true then ((bM.f a0).bind fun t710 => (some (Go.bits .and .u32 a2 t710, false, false, false, false, false))) else ((bE.f k a0 a2).bind fun bt711 => (aQ.l0 k a0 a1 bt711.2.1 bt711.2.2)))))))))
/- What the reckoner tells of printed functions. -/
set_option maxRecDepth 100000
theorem aC.mD {k n : Nat} (hk : k ≤ n) {x0 x1 : Int} {x2 : Bool} {x3 x4 : Int} {x15 x17 : Int} {x18 x19 : Int} {ex9 ex10 : Bool} {ex11 ex12 ex13 : Bool} : LeO (aC.j3 k x0 x1 x2 x3 x4 x15 x17 x18 x19) (L.aC.j14 n x19 x18 x17 x15 x4 x3 x2 x1 x0 ex9 ex10 ex11 ex12 ex13) := by
 cases k with
 |zero => rw [aC.j3]; exact LeO.none _
 |succ k =>
 replace hk := Nat.le_of_succ_le hk
 rw [aC.j3, L.aC.aAK]
 repeat' first
  |(with_reducible exact LeO.refl _)
  |exact LeO.none _
  |(with_reducible first|exact fun r h => at_rounds (dH.mono _ _ _) hk h|exact fun r h => at_rounds (cO.mono _ _ _) hk h|exact bR.le hk|exact fun r h => at_rounds (bits_Len.mono _) hk h|refine LeO.bind ?_ (fun _ => ?_)|refine LeO.iI Iff.rfl (fun _ => ?_) (fun _ => ?_))
  |exact fun r h => at_rounds (dH.mono _ _ _) hk h
  |exact fun r h => at_rounds (cO.mono _ _ _) hk h
  |exact bR.le hk
  |exact fun r h => at_rounds (bits_Len.mono _) hk h
  |exact LeO.refl _
  |(with_reducible first|refine LeO.pos (by assumption) ?_|refine LeO.neg (by assumption) ?_|refine LeO.mY (by assumption) ?_|refine LeO.mZ (by assumption) ?_|refine LeO.iI (by omega) (fun _ => ?_) (fun _ => ?_))
theorem aC.iV {k n : Nat} (hk : k ≤ n) {x0 x1 : Int} {x2 : Bool} {x3 x4 : Int} {x15 x16 : Int} {x17 x18 : Int} {ex9 ex10 : Bool} {ex11 ex12 ex13 : Bool} : LeO (aC.j2 k x0 x1 x2 x3 x4 x15 x16 x17 x18) (L.aC.j11 n x18 x17 x16 x15 x4 x3 x2 x1 x0 ex9 ex10 ex11 ex12 ex13) := by
 cases k with
 |zero => rw [aC.j2]; exact LeO.none _
 |succ k =>
 replace hk := Nat.le_of_succ_le hk
 rw [aC.j2, L.aC.vF]
 repeat' first
  |(with_reducible exact LeO.refl _)
  |exact LeO.none _
  |(with_reducible first|exact aC.mD hk|exact fun r h => at_rounds (dH.mono _ _ _) hk h|exact fun r h => at_rounds (cO.mono _ _ _) hk h|exact bR.le hk|exact fun r h => at_rounds (bits_Len.mono _) hk h|refine LeO.bind ?_ (fun _ => ?_)|refine LeO.iI Iff.rfl (fun _ => ?_) (fun _ => ?_))
  |exact aC.mD hk
  |exact fun r h => at_rounds (dH.mono _ _ _) hk h
  |exact fun r h => at_rounds (cO.mono _ _ _) hk h
  |exact bR.le hk
  |exact fun r h => at_rounds (bits_Len.mono _) hk h
  |exact LeO.refl _
  |(with_reducible first|refine LeO.pos (by assumption) ?_|refine LeO.neg (by assumption) ?_|refine LeO.mY (by assumption) ?_|refine LeO.mZ (by assumption) ?_|refine LeO.iI (by omega) (fun _ => ?_) (fun _ => ?_))
theorem aC.jR {k n : Nat} (hk : k ≤ n) {x0 x1 : Int} {x2 : Bool} {x3 x4 : Int} {x15 x16 : Int} {x17 x18 : Int} {ex9 ex10 : Bool} {ex11 ex12 ex13 : Bool} : LeO (aC.j1 k x0 x1 x2 x3 x4 x15 x16 x17 x18) (L.aC.j9 n x18 x17 x16 x15 x4 x3 x2 x1 x0 ex9 ex10 ex11 ex12 ex13) := by
 cases k with
 |zero => rw [aC.j1]; exact LeO.none _
 |succ k =>
 replace hk := Nat.le_of_succ_le hk
 rw [aC.j1, L.aC.j9_eq]
 repeat' first
  |(with_reducible exact LeO.refl _)
  |exact LeO.none _
  |(with_reducible first|exact aC.mD hk|exact aC.iV hk|exact fun r h => at_rounds (dH.mono _ _ _) hk h|exact fun r h => at_rounds (cO.mono _ _ _) hk h|exact bR.le hk|exact fun r h => at_rounds (bits_Len.mono _) hk h|refine LeO.bind ?_ (fun _ => ?_)|refine LeO.iI Iff.rfl (fun _ => ?_) (fun _ => ?_))
  |exact aC.mD hk
  |exact aC.iV hk
  |exact fun r h => at_rounds (dH.mono _ _ _) hk h
  |exact fun r h => at_rounds (cO.mono _ _ _) hk h
  |exact bR.le hk
  |exact fun r h => at_rounds (bits_Len.mono _) hk h
  |exact LeO.refl _
  |(with_reducible first|refine LeO.pos (by assumption) ?_|refine LeO.neg (by assumption) ?_|refine LeO.mY (by assumption) ?_|refine LeO.mZ (by assumption) ?_|refine LeO.iI (by omega) (fun _ => ?_) (fun _ => ?_))
theorem aC.mF {k n : Nat} (hk : k ≤ n) {x0 x1 : Int} {x2 : Bool} {x3 x4 : Int} {x5 x29 : Bool} {ex7 ex8 : Bool} {ex9 ex10 ex11 : Bool} : LeO (aC.j0 k x0 x1 x2 x3 x4 x5 x29) (L.aC.j3 n x29 x5 x4 x3 x2 x1 x0 ex7 ex8 ex9 ex10 ex11) := by
 cases k with
 |zero => rw [aC.j0]; exact LeO.none _
 |succ k =>
 replace hk := Nat.le_of_succ_le hk
 rw [aC.j0, L.aC.j3_eq]
 repeat' first
  |(with_reducible exact LeO.refl _)
  |exact LeO.none _
  |(with_reducible first|exact aC.mD hk|exact aC.iV hk|exact aC.jR hk|exact fun r h => at_rounds (dH.mono _ _ _) hk h|exact fun r h => at_rounds (cO.mono _ _ _) hk h|exact bR.le hk|exact fun r h => at_rounds (bits_Len.mono _) hk h|refine LeO.bind ?_ (fun _ => ?_)|refine LeO.iI Iff.rfl (fun _ => ?_) (fun _ => ?_))
  |exact aC.mD hk
  |exact aC.iV hk
  |exact aC.jR hk
  |exact fun r h => at_rounds (dH.mono _ _ _) hk h
  |exact fun r h => at_rounds (cO.mono _ _ _) hk h
  |exact bR.le hk
  |exact fun r h => at_rounds (bits_Len.mono _) hk h
  |exact LeO.refl _
  |(with_reducible first|refine LeO.pos (by assumption) ?_|refine LeO.neg (by assumption) ?_|refine LeO.mY (by assumption) ?_|refine LeO.mZ (by assumption) ?_|refine LeO.iI (by omega) (fun _ => ?_) (fun _ => ?_))
set_option maxHeartbeats 4000000 in
theorem aC.le {k n : Nat} (hk : k ≤ n) {a0 a1 : Int} {a2 : Bool} {a3 a4 : Int} {a5 : Bool} : LeO (aC.f k a0 a1 a2 a3 a4 a5) (L.aC.f n a0 a1 a2 a3 a4 a5) := by
 unfold aC.f
 rw [L.aC.eq]
 try simp only [Bool.and_true]
 repeat' first
  |(with_reducible exact LeO.refl _)
  |exact LeO.none _
  |(with_reducible first|exact aC.mD hk|exact aC.iV hk|exact aC.jR hk|exact aC.mF hk|exact fun r h => at_rounds (dH.mono _ _ _) hk h|exact fun r h => at_rounds (cO.mono _ _ _) hk h|exact bR.le hk|exact fun r h => at_rounds (bits_Len.mono _) hk h|refine LeO.bind ?_ (fun _ => ?_)|refine LeO.iI Iff.rfl (fun _ => ?_) (fun _ => ?_))
  |exact aC.mD hk
  |exact aC.iV hk
  |exact aC.jR hk
  |exact aC.mF hk
  |exact fun r h => at_rounds (dH.mono _ _ _) hk h
  |exact fun r h => at_rounds (cO.mono _ _ _) hk h
  |exact bR.le hk
  |exact fun r h => at_rounds (bits_Len.mono _) hk h
  |exact LeO.refl _
  |(with_reducible first|refine LeO.pos (by assumption) ?_|refine LeO.neg (by assumption) ?_|refine LeO.mY (by assumption) ?_|refine LeO.mZ (by assumption) ?_|refine LeO.iI (by omega) (fun _ => ?_) (fun _ => ?_))
theorem aQ.l0_le {k m n : Nat} (hm : k ≤ m) (hk : k ≤ n) {x0 x1 : Int} {x11 x12 : Int} {ex4 ex5 : Bool} {ex6 ex7 ex8 : Bool} : LeO (aQ.l0 k x0 x1 x11 x12) (L.aQ.l11 m n x12 x11 x1 x0 ex4 ex5 ex6 ex7 ex8) := by
 induction k generalizing m x0 x1 x11 x12 with
 |zero => rw [aQ.l0]; exact LeO.none _
 |succ k ih =>
 obtain ⟨m, rfl⟩ : ∃ q, m = q + 1 := ⟨m - 1, by omega⟩
 replace hm := Nat.le_of_succ_le_succ hm
 replace hk := Nat.le_of_succ_le hk
 rw [aQ.l0, L.aQ.l11_eq]
 repeat' first
  |(with_reducible exact LeO.refl _)
  |exact LeO.none _
  |(with_reducible first|exact ih hm hk|exact fun r h => at_rounds (aI.mono _ _) hk h|exact fun r h => at_rounds (bG.mono _ _) hk h|exact fun r h => at_rounds (bL.mono _ _) hk h|exact fun r h => at_rounds (bE.mono _ _) hk h|exact fun r h => at_rounds (bA.mono _) hk h|exact aA.le hk|refine LeO.bind ?_ (fun _ => ?_)|refine LeO.iI Iff.rfl (fun _ => ?_) (fun _ => ?_))
  |exact ih hm hk
  |exact fun r h => at_rounds (aI.mono _ _) hk h
  |exact fun r h => at_rounds (bG.mono _ _) hk h
  |exact fun r h => at_rounds (bL.mono _ _) hk h
  |exact fun r h => at_rounds (bE.mono _ _) hk h
  |exact fun r h => at_rounds (bA.mono _) hk h
  |exact aA.le hk
  |exact LeO.refl _
  |(with_reducible first|refine LeO.pos (by assumption) ?_|refine LeO.neg (by assumption) ?_|refine LeO.mY (by assumption) ?_|refine LeO.mZ (by assumption) ?_|refine LeO.iI (by omega) (fun _ => ?_) (fun _ => ?_))
set_option maxHeartbeats 4000000 in
theorem aQ.le {k n : Nat} (hk : k ≤ n) {a0 a1 a2 : Int} : LeO (aQ.f k a0 a1 a2) (L.aQ.f n a0 a1 a2) := by
 unfold aQ.f
 rw [L.aQ.eq]
 try simp only [Bool.and_true]
 repeat' first
  |(with_reducible exact LeO.refl _)
  |exact LeO.none _
  |(with_reducible first|exact aQ.l0_le hk hk|exact fun r h => at_rounds (aI.mono _ _) hk h|exact fun r h => at_rounds (bG.mono _ _) hk h|exact fun r h => at_rounds (bL.mono _ _) hk h|exact fun r h => at_rounds (bE.mono _ _) hk h|exact fun r h => at_rounds (bA.mono _) hk h|exact aA.le hk|refine LeO.bind ?_ (fun _ => ?_)|refine LeO.iI Iff.rfl (fun _ => ?_) (fun _ => ?_))
  |exact aQ.l0_le hk hk
  |exact fun r h => at_rounds (aI.mono _ _) hk h
  |exact fun r h => at_rounds (bG.mono _ _) hk h
  |exact fun r h => at_rounds (bL.mono _ _) hk h
  |exact fun r h => at_rounds (bE.mono _ _) hk h
  |exact fun r h => at_rounds (bA.mono _) hk h
  |exact aA.le hk
  |exact LeO.refl _
  |(with_reducible first|refine LeO.pos (by assumption) ?_|refine LeO.neg (by assumption) ?_|refine LeO.mY (by assumption) ?_|refine LeO.mZ (by assumption) ?_|refine LeO.iI (by omega) (fun _ => ?_) (fun _ => ?_))
theorem aQ.calls (k : Nat) (a0 a1 : Int) (a2 r1 : Int) (r2 r3 : Bool) (r4 r5 r6 : Bool) (w : World) (h : aQ.f k a0 a1 a2 = some (r1, r2, r3, r4, r5, r6)) :
  Calls Tryz.prog 36 #[.int .i64 a0, .int .i64 a1, .int .u32 a2] w fun e w' => e = .returned (.tuple #[.int .u32 r1, .agg #[.bool r2, .bool r3, .bool r4, .bool r5, .bool r6]]) ∧ Below w.heap.size w w' :=
 Go.Proofs.YtolpdiifmacdbaaGreat.Ek.kI L.aQ.ok k ((a0, ()), (a1, ()), (a2, ()), ()) (r1, r2, r3, r4, r5, r6) rfl (aQ.le (Nat.le_refl _) _ h) w

-- NEED 2
/-! ### whole_Scale: function 118 -/
-- NEED 2
/-! ### funcs_Scale: function 73 -/
end Go.Proofs.YtolpdiifmacdbaaGreat.P

/- Numbers times powers of two: the program's, as plain numbers. -/
namespace Go.Proofs.YtolpdiifmacdbaaGreat.Round
open Go.RowKit Go.Proofs.YtolpdiifmacdbaaGreat.P Go.Proofs.YtolpdiifmacdbaaGreat.Num Go.Proofs.YtolpdiifmacdbaaGreat.BitsF Go.Proofs.YtolpdiifmacdbaaGreat.Fmt Go.Proofs.YtolpdiifmacdbaaGreatW.PrintWords Go.Proofs.YtolpdiifmacdbaaGreatW.PrintLast Go.Proofs.YtolpdiifmacdbaaGreatW.PrintMore

end Go.Proofs.YtolpdiifmacdbaaGreat.Round

-- Printed by a program of this session's out of Lean's print of the translation; Lean checks it.
namespace Go.Proofs.YtolpdiifmacdbaaGreat.P
open Go.RowKit Go.Proofs.YtolpdiifmacdbaaGreatW.PrintWords Go.Proofs.YtolpdiifmacdbaaGreatW.PrintLast Go.Proofs.YtolpdiifmacdbaaGreatW.PrintMore
attribute [local go_sem] max2_int min2_int max_two min_two max_three min_three max_four min_four

-- NEED 0
/-! ### order_Compare: function 165 -/
-- NEED 0
/-! ### order_Less: function 114 -/
-- NEED 0
/-! ### funcs_Above: function 67 -/
-- NEED 0
/-! ### format_Finite: function 68 -/
-- NOT PRINTED: function 99 (slices_Clone_uint32_uint32)

-- NOT PRINTED: function 117 (clip_mapped_1)

-- NOT PRINTED: function 69 (clip_mapped)

end Go.Proofs.YtolpdiifmacdbaaGreat.P

/- Numbers made whole: the program's, as plain numbers. -/
namespace Go.Proofs.YtolpdiifmacdbaaGreat.Round
open Go.RowKit Go.Proofs.YtolpdiifmacdbaaGreat.P Go.Proofs.YtolpdiifmacdbaaGreat.Num Go.Proofs.YtolpdiifmacdbaaGreat.BitsF Go.Proofs.YtolpdiifmacdbaaGreat.Fmt Go.Proofs.YtolpdiifmacdbaaGreatW.PrintWords Go.Proofs.YtolpdiifmacdbaaGreatW.PrintLast Go.Proofs.YtolpdiifmacdbaaGreatW.PrintMore

theorem w32_id (n : Int) (h : -2147483648 ≤ n) (h' : n ≤ 2147483647) : wrap32 n = n := by unfold wrap32; omega
theorem w32_in (n : Int) : -2147483648 ≤ wrap32 n ∧ wrap32 n ≤ 2147483647 := by unfold wrap32; omega
theorem fits (V : Int) (h1 : -1099511627776 ≤ V) (h2 : V ≤ 1099511627776) (x : Bool) : (if V = wrap64 (wrap32 V) then some (wrap32 V, false, false, false, false, x) else some (-2147483648, true, false, false, false, false)) =
    some (if -2147483648 ≤ V ∧ V ≤ 2147483647 then (V, false, false, false, false, x) else (-2147483648, true, false, false, false, false)) := by
  obtain ⟨w1, w2⟩ := w32_in V
  rw [bS (wrap32 V) (by omega) (by omega)]
  by_cases c : -2147483648 ≤ V ∧ V ≤ 2147483647
  · rw [w32_id V c.1 c.2, if_pos rfl, if_pos c]
  · rw [if_neg (by omega), if_neg c]
end Go.Proofs.YtolpdiifmacdbaaGreat.Round

-- Printed by a program of this session's out of Lean's print of the translation; Lean checks it.
namespace Go.Proofs.YtolpdiifmacdbaaGreat.P
open Go.RowKit Go.Proofs.YtolpdiifmacdbaaGreatW.PrintWords Go.Proofs.YtolpdiifmacdbaaGreatW.PrintLast Go.Proofs.YtolpdiifmacdbaaGreatW.PrintMore
attribute [local go_sem] max2_int min2_int max_two min_two max_three min_three max_four min_four

-- NEED 0
/-! ### whole_amount: function 148 -/

-- NEED 2
/-! ### whole_FromInt: function 103 -/
-- NEED 2
/-! ### funcs_Int: function 42 -/
end Go.Proofs.YtolpdiifmacdbaaGreat.P

/- Whole numbers as numbers, and numbers made whole that stay numbers: the program's, as plain numbers. -/
namespace Go.Proofs.YtolpdiifmacdbaaGreat.Round
open Go.RowKit Go.Proofs.YtolpdiifmacdbaaGreat.P Go.Proofs.YtolpdiifmacdbaaGreat.Num Go.Proofs.YtolpdiifmacdbaaGreat.BitsF Go.Proofs.YtolpdiifmacdbaaGreat.Fmt Go.Proofs.YtolpdiifmacdbaaGreatW.PrintWords Go.Proofs.YtolpdiifmacdbaaGreatW.PrintLast Go.Proofs.YtolpdiifmacdbaaGreatW.PrintMore

/- Products: the reference's, of any numbers, as plain numbers. -/

/- All results are numbers of 32 bits. -/

theorem oC (f : Int) : rO f < 4294967296 := by
 unfold rO gF
 rcases qK f with ⟨h1, h2⟩ | ⟨h1, h2⟩ | ⟨h1, h2⟩ <;> rw [h1, h2] <;> decide
theorem tO (f mode : Int) (neg : Bool) (x : Int) (a : Nat) (more : Bool) : gD f mode neg x a more < 4294967296 := by
 obtain ⟨_, hi⟩ := lI f false
 have hp := Nat.two_pow_pos (fm f)
 have hb := dS f
 have h32 := pQ (show fe f + fm f + 1 ≤ 32 by omega)
 have hs : 2 ^ (fe f + fm f + 1) = 2 * 2 ^ (fe f + fm f) := by rw [Nat.pow_succ, Nat.mul_comm]
 have hn : eQ f neg ≤ 2 ^ (fe f + fm f) := by unfold eQ; split <;> omega
 unfold gD iQ
 generalize sZ f mode neg x a more = K at *
 generalize gF f * 2 ^ fm f = T at *
 by_cases c : T ≤ K
 ·cases iX mode neg <;> simp [c] <;> omega
 ·simp [c]; omega
theorem xJ (f : Int) (b : Bool) : eQ f b < 4294967296 := (zero_all f b).2.2
theorem zQ (f mode : Int) (a b : Bool) (r : Bool × Int × Nat × Bool) : gN f mode a b r < 4294967296 := by
 unfold gN lW
 split
 ·split <;> exact xJ f _
 ·exact tO f mode _ _ _ _
theorem mul_32 (f mode : Int) (a b : Nat) : mulN f mode a b < 4294967296 := by
 unfold mulN
 split
 ·exact oC f
 ·split
  ·exact oC f
  ·split
   ·exact (lI f _).1
   ·exact tO f mode _ _ _ _
theorem aBB (f mode : Int) (a b c : Nat) : rP f mode a b c < 4294967296 := by
 unfold rP
 split
 ·exact oC f
 ·split
  ·exact oC f
  ·split
   ·split
    ·exact oC f
    ·exact (lI f _).1
   ·split
    ·exact (lI f _).1
    ·exact zQ f mode _ _ _
theorem div_32 (f mode : Int) (a b : Nat) : divN f mode a b < 4294967296 := by
 unfold divN ratioN
 split
 ·exact oC f
 ·split
  ·exact oC f
  ·split
   ·exact (lI f _).1
   ·split
    ·exact xJ f _
    ·split
     ·exact (lI f _).1
     ·exact tO f mode _ _ _ _
/- Products by one and by nought: plain numbers alone. -/

end Go.Proofs.YtolpdiifmacdbaaGreat.Round
