import Derived.Test.YtolpdiifmacdbaaGreatQckProdF
set_option linter.unusedVariables false
set_option linter.unusedSimpArgs false
namespace Go.Proofs.YtolpdiifmacdbaaGreat
noncomputable section
open Go.RowKit YtolpdiifmacdbaaGreatW.PrintWords YtolpdiifmacdbaaGreatW.PrintLast YtolpdiifmacdbaaGreatW.PrintMore
namespace P
attribute [local go_sem] max2_int min2_int max_two min_two max_three min_three max_four min_four
mutual
def bF.j0 : Nat → Int → Int → Int → Int → Int → Bool → Bool → Bool → Option (Int × Bool × Bool × Bool × Bool × Bool)
 |0, _, _, _, _, _, _, _, _ => none
 |k + 1, x0, x1, x2, x3, x4, x16, x17, x18 => if x17 = true then (bF.j1 k x0 x1 x2 x3 x4 x16 x17 x18 true) else (bF.j1 k x0 x1 x2 x3 x4 x16 x17 x18 x18)
def bF.j1 : Nat → Int → Int → Int → Int → Int → Bool → Bool → Bool → Bool → Option (Int × Bool × Bool × Bool × Bool × Bool)
 |0, _, _, _, _, _, _, _, _, _ => none
 |k + 1, x0, x1, x2, x3, x4, x16, x17, x18, x71 => if x71 = true then ((dL.f x0 x4).bind fun t320 => ((aZ.f k x0 x16 t320 x17 x18).bind fun bt321 => (some (bt321.1, bt321.2.1, bt321.2.2.1, bt321.2.2.2.1, bt321.2.2.2.2.1, bt321.2.2.2.2.2)))) else ((cB.f x0 x2 x3).bind fun bt327 => ((fJ.f x0 x4).bind fun bt331 => ((aU.f k bt327.1 bt327.2.1 bt327.2.2.1 bt327.2.2.2 bt331.1 bt331.2.1 bt331.2.2.1 bt331.2.2.2).bind fun bt337 => (if bt337.2.2.1 = 0 then (bF.j2 k x0 x1 x16 (!bt337.2.2.2) bt331.1 bt331.2.1 bt331.2.2.1 bt331.2.2.2 bt337.1 bt337.2.1 bt337.2.2.1 bt337.2.2.2) else (bF.j2 k x0 x1 x16 false bt331.1 bt331.2.1 bt331.2.2.1 bt331.2.2.2 bt337.1 bt337.2.1 bt337.2.2.1 bt337.2.2.2)))))
def bF.j2 : Nat → Int → Int → Bool → Bool → Bool → Int → Int → Bool → Bool → Int → Int → Bool → Option (Int × Bool × Bool × Bool × Bool × Bool)
 |0, _, _, _, _, _, _, _, _, _, _, _, _ => none
 |k + 1, x0, x1, x16, x99, x337000, x337001, x337002, x337003, x342000, x342001, x342002, x342003 => if x99 = true then ((fI.f x0 x1 x16 x337000).bind fun t342 => (some (t342, false, false, false, false, false))) else ((aC.f k x0 x1 x342000 x342001 x342002 x342003).bind fun bt343 => (some (bt343.1, bt343.2.1, bt343.2.2.1, bt343.2.2.2.1, bt343.2.2.2.2.1, bt343.2.2.2.2.2)))
end
def bF.f (k : Nat) (a0 a1 : Int) (a2 a3 a4 : Int) : Option (Int × Bool × Bool × Bool × Bool × Bool) := (dS.f k a0 a2 a3).bind fun t296 => ((bH.f k a0 (([a2, a3, a4] : List Int))).bind fun bt300 => (if bt300.2.2.2.2.2.2 = true then (if bt300.2.1 = true then (some (bt300.1, true, bt300.2.2.1, bt300.2.2.2.1, bt300.2.2.2.2.1, bt300.2.2.2.2.2.1)) else (some (bt300.1, t296, bt300.2.2.1, bt300.2.2.2.1, bt300.2.2.2.2.1, bt300.2.2.2.2.2.1))) else (if t296 = true then ((fM.f a0).bind fun bt308 => (some (bt308.1, bt308.2.1, bt308.2.2.1, bt308.2.2.2.1, bt308.2.2.2.2.1, bt308.2.2.2.2.2))) else ((dL.f a0 a2).bind fun t314 => ((dL.f a0 a3).bind fun t315 => ((aW.f k a0 a2).bind fun t316 => (if t316 = true then ((aW.f k a0 a4).bind fun t317 => (bF.j0 k a0 a1 a2 a3 a4 (t314 != t315) true t317)) else ((aW.f k a0 a3).bind fun t318 => ((aW.f k a0 a4).bind fun t319 => (bF.j0 k a0 a1 a2 a3 a4 (t314 != t315) t318 t319))))))))))
end P
namespace Round
open P Num BitsF Fmt
theorem qO (f : Int) (a b c : Nat) (ha : a < 4294967296) (hb : b < 4294967296) (hc : c < 4294967296) : Ev (fun k => bH.f k f [(a : Int), (b : Int), (c : Int)]) ((pU f : Int), fV f a || fV f b || fV f c, false, false, false, false, fC f a || fC f b || fC f c) := by
 refine Ev.congr (fun k => by unfold bH.f; rfl) (lM f _ 0 a false false _ (by simp) (by simp) ha rfl (lM f _ 1 b _ _ _ (by simp) (by simp) hb rfl (lM f _ 2 c _ _ _ (by simp) (by simp) hc rfl ?_)))
 rw [Bool.false_or, Bool.false_or]
 exact uP f [(a : Int), (b : Int), (c : Int)] _ _
def qK (f : Int) (a b c : Nat) : Bool × Int × Nat × Bool := kT (dO f a != dO f b) (bN f a + bN f b) (bT f a * bT f b) (dO f c) (bN f c) (bT f c)
theorem mul_62 (f : Int) (a b : Nat) : bT f a * bT f b < 4611686018427387904 := by
 have wa := kM f a
 have wb := kM f b
 have hbd := eP f
 have hp24 : 2 ^ (fm f + 1) ≤ 16777216 := Nat.pow_le_pow_right (show 0 < 2 by decide) (show fm f + 1 ≤ 24 by omega)
 have := Nat.mul_le_mul (show bT f a ≤ 16777216 by omega) (show bT f b ≤ 16777216 by omega)
 omega
theorem fma_ev (f mode : Int) (a b c : Nat) (ha : a < 4294967296) (hb : b < 4294967296) (hc : c < 4294967296) (ca : cO f a < 3) (cb : cO f b < 3) (cc : cO f c < 3) :
  Ev (fun k => bF.f k f mode (a : Int) (b : Int) (c : Int)) ((fP f mode (dO f a != dO f b) (dO f c) (qK f a b c) : Int), false, false, gK f mode (qK f a b c)) := by
 have ht : nS f a b = false := by unfold nS; exact decide_eq_false (by omega)
 have hto := uL f a b ha hb
 rw [ht] at hto
 have hn := qO f a b c ha hb hc
 have n0 : (fC f a || fC f b || fC f c) = false := by
  unfold fC
  rw [decide_eq_false (show ¬ 4 ≤ cO f a by omega), decide_eq_false (show ¬ 4 ≤ cO f b by omega), decide_eq_false (show ¬ 4 ≤ cO f c by omega)]; rfl
 rw [n0] at hn
 obtain ⟨l1, l2⟩ := fD f a
 obtain ⟨m1, m2⟩ := fD f b
 obtain ⟨o1, o2⟩ := fD f c
 have fa := iQ f a ca
 have fb := iQ f b cb
 have fc := iQ f c cc
 have hx := aAK (dO f a != dO f b) (bN f a + bN f b) (bT f a * bT f b) (dO f c) (bN f c) (bT f c) (mul_62 f a b) (o5 f c) (by omega) (by omega) (by omega) (by omega)
 obtain ⟨x1, x2, x3⟩ := rZ (dO f a != dO f b) (bN f a + bN f b) (bT f a * bT f b) (dO f c) (bN f c) (bT f c) (mul_62 f a b) (o5 f c) (by omega) (by omega) (by omega) (by omega)
 refine Ev.congr (fun k => by unfold bF.f; rfl) (Ev.bind hto (Ev.bind hn ?_))
 dsimp only
 refine Ev.congr (fun k => by rw [if_neg (show ¬ false = true by decide), if_neg (show ¬ false = true by decide), sI f a ha, Option.bind_some, sI f b hb, Option.bind_some]) (Ev.bind (iR f a ha) ?_)
 refine Ev.congr (fun k => by rw [if_neg (by simp; omega)]) (Ev.bind (iR f b hb) (Ev.bind (iR f c hc) ?_))
 rw [decide_eq_false (show ¬ cO f b = 3 by omega), decide_eq_false (show ¬ cO f c = 3 by omega)]
 refine Ev.step (fun k => by rw [bF.j0, if_neg (by decide)]) (Ev.step (fun k => by rw [bF.j1, if_neg (by decide), yI f a b ha hb fa fb, Option.bind_some, of_f f c hc fc, Option.bind_some]) ?_)
 dsimp only
 refine Ev.bind hx ?_
 unfold qK zX
 generalize kT (dO f a != dO f b) (bN f a + bN f b) (bT f a * bT f b) (dO f c) (bN f c) (bT f c) = r at *
 obtain ⟨rn, re, rs, rm⟩ := r
 dsimp only at *
 have hp := oV f mode rn re rs rm (by omega)
 rw [iX _ (by omega) (by omega)] at hp
 have pack : ¬ (rs = 0 ∧ rm = false) → Ev (fun k => bF.j2 k f mode (dO f a != dO f b) false (dO f c) (bN f c) (bT f c : Int) false rn re (rs : Int) rm) ((fP f mode (dO f a != dO f b) (dO f c) (rn, re, rs, rm) : Int), false, false, gK f mode (rn, re, rs, rm)) := by
  intro z
  have zz : ¬ (rs, rm) = (0, false) := fun e => z ⟨(Prod.mk.inj e).1, (Prod.mk.inj e).2⟩
  unfold fP gK
  rw [if_neg zz, if_neg zz]
  exact Ev.step (fun k => by rw [bF.j2, if_neg (by decide)]) (Ev.bind hp (Ev.now _))
 by_cases s0 : rs = 0
 ·cases rm
  ·have zz : (rs, false) = (0, false) := by rw [s0]
   refine Ev.congr (fun k => by rw [if_pos (by omega)]) (Ev.step (fun k => by rw [bF.j2, if_pos (by decide), aAv]) (Ev.congr (fun k => ?_) (Ev.now _)))
   unfold fP gK
   rw [if_pos zz, if_pos zz]; rfl
  ·exact Ev.congr (fun k => by rw [if_pos (by omega)]; rfl) (pack (by simp))
 ·exact Ev.congr (fun k => by rw [if_neg (by omega)]) (pack (fun h => s0 h.1))
def uK (f mode : Int) (a b c : Nat) : Nat :=
 if 4 ≤ cO f a ∨ 4 ≤ cO f b ∨ 4 ≤ cO f c then pU f else if nS f a b = true then pU f
 else if cO f a = 3 ∨ cO f b = 3 then (if cO f c = 3 ∧ dO f c ≠ (dO f a != dO f b) then pU f else oW f (dO f a != dO f b))
 else if cO f c = 3 then oW f (dO f c) else fP f mode (dO f a != dO f b) (dO f c) (qK f a b c)
def aAf (f mode : Int) (a b c : Nat) : Bool × Bool × Bool × Bool × Bool :=
 if 4 ≤ cO f a ∨ 4 ≤ cO f b ∨ 4 ≤ cO f c then (fV f a || fV f b || fV f c || nS f a b, false, false, false, false) else if nS f a b = true then (true, false, false, false, false)
 else if cO f a = 3 ∨ cO f b = 3 then (if cO f c = 3 ∧ dO f c ≠ (dO f a != dO f b) then (true, false, false, false, false) else (false, false, false, false, false))
 else if cO f c = 3 then (false, false, false, false, false) else (false, false, gK f mode (qK f a b c))
theorem fma_fin (f mode : Int) (a b c : Nat) (ca : cO f a < 3) (cb : cO f b < 3) (cc : cO f c < 3) : uK f mode a b c = fP f mode (dO f a != dO f b) (dO f c) (qK f a b c) ∧ aAf f mode a b c = (false, false, gK f mode (qK f a b c)) := by
 have ht : ¬ nS f a b = true := by unfold nS; rw [decide_eq_true_iff]; omega
 unfold uK aAf
 rw [if_neg (show ¬ (4 ≤ cO f a ∨ 4 ≤ cO f b ∨ 4 ≤ cO f c) by omega), if_neg (show ¬ (4 ≤ cO f a ∨ 4 ≤ cO f b ∨ 4 ≤ cO f c) by omega), if_neg ht, if_neg ht, if_neg (show ¬ (cO f a = 3 ∨ cO f b = 3) by omega), if_neg (show ¬ (cO f a = 3 ∨ cO f b = 3) by omega), if_neg (show ¬ cO f c = 3 by omega), if_neg (show ¬ cO f c = 3 by omega)]
 exact ⟨rfl, rfl⟩
theorem nan3 (f : Int) (a b c : Nat) : (fC f a || fC f b || fC f c) = true ↔ (4 ≤ cO f a ∨ 4 ≤ cO f b ∨ 4 ≤ cO f c) := by
 unfold fC
 rw [Bool.or_eq_true, Bool.or_eq_true, decide_eq_true_iff, decide_eq_true_iff, decide_eq_true_iff, or_assoc]
theorem aBm (f mode : Int) (a b c : Nat) (ha : a < 4294967296) (hb : b < 4294967296) (hc : c < 4294967296) :
  Ev (fun k => bF.f k f mode (a : Int) (b : Int) (c : Int)) ((uK f mode a b c : Int), aAf f mode a b c) := by
 by_cases n : 4 ≤ cO f a ∨ 4 ≤ cO f b ∨ 4 ≤ cO f c
 ·have e := (nan3 f a b c).mpr n
  unfold uK aAf
  rw [if_pos n, if_pos n]
  refine Ev.congr (fun k => by unfold bF.f; rfl) (Ev.bind (uL f a b ha hb) (Ev.bind (qO f a b c ha hb hc) (Ev.congr (fun k => ?_) (Ev.now _))))
  dsimp only
  rw [if_pos e]
  cases h : (fV f a || fV f b || fV f c)
  ·rw [if_neg (by decide), Bool.false_or]
  ·rw [if_pos rfl, Bool.true_or]
 ·have e : ¬ (fC f a || fC f b || fC f c) = true := fun h => n ((nan3 f a b c).mp h)
  by_cases t : nS f a b = true
  ·unfold uK aAf
   rw [if_neg n, if_neg n, if_pos t, if_pos t]
   refine Ev.congr (fun k => by unfold bF.f; rfl) (Ev.bind (uL f a b ha hb) (Ev.bind (qO f a b c ha hb hc) (Ev.congr (fun k => ?_) (Ev.now _))))
   dsimp only
   rw [if_neg e, if_pos t, aBr, Option.bind_some]
  ·by_cases i : cO f a = 3 ∨ cO f b = 3 ∨ cO f c = 3
   ·have hin := tN f (dO f a != dO f b) (dO f c) (decide (cO f a = 3 ∨ cO f b = 3)) (decide (cO f c = 3))
    have hj1 : Ev (fun k => bF.j1 k f mode (a : Int) (b : Int) (c : Int) (dO f a != dO f b) (decide (cO f a = 3 ∨ cO f b = 3)) (decide (cO f c = 3)) true) ((uK f mode a b c : Int), aAf f mode a b c) := by
     refine Ev.step (fun k => by rw [bF.j1, if_pos rfl, sI f c hc, Option.bind_some]) (Ev.bind hin (Ev.congr (fun k => ?_) (Ev.now _)))
     unfold uK aAf
     rw [if_neg n, if_neg n, if_neg t, if_neg t]
     simp only [decide_eq_true_iff]
     by_cases ab : cO f a = 3 ∨ cO f b = 3
     ·by_cases c3 : cO f c = 3 ∧ dO f c ≠ (dO f a != dO f b)
      ·have h1 : (cO f a = 3 ∨ cO f b = 3) ∧ cO f c = 3 ∧ (dO f a != dO f b) ≠ dO f c := ⟨ab, c3.1, fun h => c3.2 h.symm⟩
       rw [if_pos h1, if_pos ab, if_pos c3, if_pos ab, if_pos c3]
      ·have h1 : ¬ ((cO f a = 3 ∨ cO f b = 3) ∧ cO f c = 3 ∧ (dO f a != dO f b) ≠ dO f c) := fun h => c3 ⟨h.2.1, fun e => h.2.2 e.symm⟩
       rw [if_neg h1, if_pos ab, if_pos ab, if_neg c3, if_pos ab, if_neg c3]
     ·have c3 : cO f c = 3 := by omega
      have h1 : ¬ ((cO f a = 3 ∨ cO f b = 3) ∧ cO f c = 3 ∧ (dO f a != dO f b) ≠ dO f c) := fun h => ab h.1
      rw [if_neg h1, if_neg ab, if_neg ab, if_pos c3, if_neg ab, if_pos c3]
    have hj : Ev (fun k => bF.j0 k f mode (a : Int) (b : Int) (c : Int) (dO f a != dO f b) (decide (cO f a = 3 ∨ cO f b = 3)) (decide (cO f c = 3))) ((uK f mode a b c : Int), aAf f mode a b c) := by
     by_cases ab : cO f a = 3 ∨ cO f b = 3
     ·exact Ev.step (fun k => by rw [bF.j0, if_pos (decide_eq_true ab)]) hj1
     ·have c3 : cO f c = 3 := by omega
      refine Ev.step (fun k => by rw [bF.j0, if_neg (by rw [decide_eq_true_iff]; exact ab)]) ?_
      exact Ev.congr (fun k => by rw [decide_eq_true c3]) hj1
    refine Ev.congr (fun k => by unfold bF.f; rfl) (Ev.bind (uL f a b ha hb) (Ev.bind (qO f a b c ha hb hc) ?_))
    dsimp only
    refine Ev.congr (fun k => by rw [if_neg e, if_neg t, sI f a ha, Option.bind_some, sI f b hb, Option.bind_some]) (Ev.bind (iR f a ha) ?_)
    by_cases a3 : cO f a = 3
    ·refine Ev.congr (fun k => by rw [if_pos (decide_eq_true a3)]) (Ev.bind (iR f c hc) ?_)
     rw [decide_eq_true (show cO f a = 3 ∨ cO f b = 3 from .inl a3)] at hj
     exact hj
    ·refine Ev.congr (fun k => by rw [if_neg (by rw [decide_eq_true_iff]; exact a3)]) (Ev.bind (iR f b hb) (Ev.bind (iR f c hc) ?_))
     rw [show decide (cO f a = 3 ∨ cO f b = 3) = decide (cO f b = 3) from decide_eq_decide.mpr ⟨fun h => h.resolve_left a3, .inr⟩] at hj
     exact hj
   ·have h1 := r9 f a
    obtain ⟨e1, e2⟩ := fma_fin f mode a b c (by omega) (by omega) (by omega)
    rw [e1, e2]
    exact fma_ev f mode a b c ha hb hc (by omega) (by omega) (by omega)
theorem aAl (r h t P : Nat) (m : Bool) (ht : t < P) : sM (r * P + t) (h * P) m = sM r h (m || decide (t ≠ 0)) := by
 have h1 : r * P + t < h * P ↔ r < h := by
  constructor
  ·intro c; exact Nat.lt_of_mul_lt_mul_right (Nat.lt_of_le_of_lt (Nat.le_add_right _ _) c)
  ·intro c
   have := Nat.mul_le_mul_right P (show r + 1 ≤ h from c)
   rw [Nat.add_mul] at this; omega
 have h2 : r * P + t = h * P ↔ r = h ∧ t = 0 := by
  constructor
  ·intro c
   have a : ¬ r < h := fun l => by have := h1.mpr l; omega
   have b : ¬ h < r := fun l => by
    have := Nat.mul_le_mul_right P (show h + 1 ≤ r from l)
    rw [Nat.add_mul] at this; omega
   have e : r = h := by omega
   subst e; exact ⟨rfl, by omega⟩
  ·rintro ⟨rfl, rfl⟩; rfl
 have h3 : r * P + t = 0 ↔ r = 0 ∧ t = 0 := by
  constructor
  ·intro c
   have : r * P = 0 := by omega
   rw [Nat.mul_eq_zero] at this; omega
  ·rintro ⟨rfl, rfl⟩; simp
 unfold sM
 simp only [h1, h2, h3]
 by_cases c : t = 0
 ·subst c; simp
 ·simp [c]
theorem vZ (s t j : Nat) (ht : t < 2 ^ j) (hs : s ≠ 0) : iA (s * 2 ^ j + t) = iA s + j := by
 have hp := Nat.two_pow_pos j
 have h1 : 2 ^ j ≤ s * 2 ^ j := Nat.le_mul_of_pos_left _ (by omega)
 have := nN (s * 2 ^ j + t) j (by omega)
 rw [Nat.mul_comm, Nat.mul_add_div hp, Nat.div_eq_of_lt ht, Nat.add_zero] at this
 rw [Nat.mul_comm s]; omega
theorem tY (s t j : Nat) (hs : s ≠ 0) : s * 2 ^ j + t ≠ 0 := by
 have h1 : 2 ^ j ≤ s * 2 ^ j := Nat.le_mul_of_pos_left _ (by omega)
 have hp := Nat.two_pow_pos j
 omega
theorem uX (f x : Int) (s t j : Nat) (ht : t < 2 ^ j) (hs : s ≠ 0) : gV f x (s * 2 ^ j + t) = gV f (x + j) s := by
 unfold gV
 rw [if_neg (tY s t j hs), if_neg hs, vZ s t j ht hs]
 congr 1; omega
theorem yY (f x : Int) (s t j : Nat) (ht : t < 2 ^ j) (hs : s ≠ 0) : dU f x (s * 2 ^ j + t) = dU f (x + j) s := by
 unfold dU; rw [uX f x s t j ht hs]
theorem vN (f x : Int) (s : Nat) (hs : 2 ^ (fm f + 1) ≤ s) : 1 ≤ dU f x s - x ∧ s ≠ 0 := by
 have hl := aCf s (fm f + 1) hs
 have hp := Nat.two_pow_pos (fm f + 1)
 have h0 : s ≠ 0 := by omega
 refine ⟨?_, h0⟩
 unfold dU gV
 rw [if_neg h0]; omega
theorem zV (f x : Int) (s t j : Nat) (m : Bool) (ht : t < 2 ^ j) (hs : 2 ^ (fm f + 1) ≤ s) :
  iM (s * 2 ^ j + t) (dU f x (s * 2 ^ j + t) - x) = iM s (dU f (x + j) s - (x + j)) ∧
  gD (s * 2 ^ j + t) (dU f x (s * 2 ^ j + t) - x) m = gD s (dU f (x + j) s - (x + j)) (m || decide (t ≠ 0)) := by
 obtain ⟨hd, h0⟩ := vN f (x + j) s hs
 rw [yY f x s t j ht h0]
 generalize dU f (x + j) s = U at *
 obtain ⟨d, e⟩ := mG (show 0 ≤ U - (x + j) by omega)
 rw [e] at hd ⊢
 rw [show U - x = ((d + j : Nat) : Int) by omega]
 have hp := Nat.two_pow_pos j
 have hq : (s * 2 ^ j + t) / 2 ^ j = s := by rw [Nat.mul_comm, Nat.mul_add_div hp, Nat.div_eq_of_lt ht, Nat.add_zero]
 constructor
 ·unfold iM
  rw [if_neg (by omega), if_neg (by omega), Int.toNat_natCast, Int.toNat_natCast, Nat.add_comm d j, Nat.pow_add, ← Nat.div_div_eq_div_mul, hq]
 ·rw [mV _ _ _ (show ¬ ((d + j : Nat) : Int) ≤ 0 by omega), mV _ _ _ (show ¬ (d : Int) ≤ 0 by omega), Int.toNat_natCast, Int.toNat_natCast]
  have h1 : (s * 2 ^ j + t) % 2 ^ (d + j) = s % 2 ^ d * 2 ^ j + t := by
   rw [Nat.add_comm d j, Nat.pow_add, Nat.mod_mul, hq, Nat.mul_comm s, Nat.mul_add_mod, Nat.mod_eq_of_lt ht]
   rw [Nat.add_comm, Nat.mul_comm (2 ^ j)]
  have h2 : 2 ^ (d + j - 1) = 2 ^ (d - 1) * 2 ^ j := by rw [← Nat.pow_add]; congr 1; omega
  rw [h1, h2, aAl _ _ _ _ _ ht]
theorem nH (f mode : Int) (neg : Bool) (x : Int) (s t j : Nat) (m : Bool) (ht : t < 2 ^ j) (hs : 2 ^ (fm f + 1) ≤ s) :
  gB f mode neg x (s * 2 ^ j + t) m = gB f mode neg (x + j) s (m || decide (t ≠ 0)) ∧ lZ f mode neg x (s * 2 ^ j + t) m = lZ f mode neg (x + j) s (m || decide (t ≠ 0)) := by
 obtain ⟨h1, h2⟩ := zV f x s t j m ht hs
 have h0 := (vN f x s hs).2
 have h3 := uX f x s t j ht h0
 have hk : pO f mode neg x (s * 2 ^ j + t) m = pO f mode neg (x + j) s (m || decide (t ≠ 0)) := by unfold pO; rw [h1, h2, h3]
 have hi : kY f x (s * 2 ^ j + t) m = kY f (x + j) s (m || decide (t ≠ 0)) := by unfold kY; rw [h2]
 have hu : mD f x (s * 2 ^ j + t) m = mD f (x + j) s (m || decide (t ≠ 0)) := by
  unfold mD
  rw [hi, vZ s t j ht h0, decide_eq_false (tY s t j h0), decide_eq_false h0]
  congr 2; apply decide_eq_decide.mpr; omega
 unfold gB lZ
 rw [hk, hi, hu]; exact ⟨rfl, rfl⟩
end Round
namespace P
attribute [local go_sem] max2_int min2_int max_two min_two max_three min_three max_four min_four
mutual
def bW.j0 : Nat → Int → Int → Int → Int → Bool → Int → Int → Bool → Option (Int × Bool × Bool × Bool × Bool × Bool)
 |0, _, _, _, _, _, _, _, _ => none
 |k + 1, x0, x1, x2, x3, x13, x14, x15, x46 => if x46 = true then ((fM.f x0).bind fun bt385 => (some (bt385.1, bt385.2.1, bt385.2.2.1, bt385.2.2.2.1, bt385.2.2.2.2.1, bt385.2.2.2.2.2))) else (if x14 = 3 then ((dQ.f x0 x13).bind fun t391 => (some (t391, false, false, false, false, false))) else (if x15 = 3 then (bW.j1 k x0 x1 x2 x3 x13 x15 true) else (bW.j1 k x0 x1 x2 x3 x13 x15 (x14 == 0))))
def bW.j1 : Nat → Int → Int → Int → Int → Bool → Int → Bool → Option (Int × Bool × Bool × Bool × Bool × Bool)
 |0, _, _, _, _, _, _, _ => none
 |k + 1, x0, x1, x2, x3, x13, x15, x69 => if x69 = true then ((eF.f x0 x13).bind fun t392 => (some (t392, false, false, false, false, false))) else (if x15 = 0 then ((dQ.f x0 x13).bind fun t393 => (some (t393, false, true, false, false, false))) else ((fJ.f x0 x2).bind fun bt394 => ((fJ.f x0 x3).bind fun bt398 => ((bits_Len.f k bt394.2.2.1).bind fun t404 => ((aR.f k bt394.2.2.1 (wrap64 (-(wrap64 (62 - t404))))).bind fun bt405 => (if bt398.2.2.1 = 0 then (none) else ((aC.f k x0 x1 x13 (wrap64 ((wrap64 (bt394.2.1 - (wrap64 (62 - t404)))) - bt398.2.1)) (IntKind.u64.wrap (Int.tdiv bt405.1 bt398.2.2.1)) ((Int.tmod bt405.1 bt398.2.2.1) != 0)).bind fun bt407 => (some (bt407.1, bt407.2.1, bt407.2.2.1, bt407.2.2.2.1, bt407.2.2.2.2.1, bt407.2.2.2.2.2)))))))))
end
def bW.f (k : Nat) (a0 a1 : Int) (a2 a3 : Int) : Option (Int × Bool × Bool × Bool × Bool × Bool) := (bH.f k a0 (([a2, a3] : List Int))).bind fun bt373 => (if bt373.2.2.2.2.2.2 = true then (some (bt373.1, bt373.2.1, bt373.2.2.1, bt373.2.2.2.1, bt373.2.2.2.2.1, bt373.2.2.2.2.2.1)) else ((dL.f a0 a2).bind fun t381 => ((dL.f a0 a3).bind fun t382 => ((aY.f k a0 a2).bind fun t383 => ((aY.f k a0 a3).bind fun t384 => (if t383 = t384 then (if t383 = 0 then (bW.j0 k a0 a1 a2 a3 (t381 != t382) t383 t384 true) else (bW.j0 k a0 a1 a2 a3 (t381 != t382) t383 t384 (t383 == 3))) else (bW.j0 k a0 a1 a2 a3 (t381 != t382) t383 t384 false)))))))
end P
namespace Round
open P Num BitsF Fmt
def fK (f : Int) (v : Nat) : Nat := 62 - iA (bT f v)
def ratioN (f mode : Int) (a b : Nat) : Nat := gB f mode (dO f a != dO f b) (bN f a - bN f b - (fK f a : Int)) (bT f a * 2 ^ fK f a / bT f b) (decide (bT f a * 2 ^ fK f a % bT f b ≠ 0))
def ratioX (f mode : Int) (a b : Nat) : Bool × Bool × Bool := lZ f mode (dO f a != dO f b) (bN f a - bN f b - (fK f a : Int)) (bT f a * 2 ^ fK f a / bT f b) (decide (bT f a * 2 ^ fK f a % bT f b ≠ 0))
def divN (f mode : Int) (a b : Nat) : Nat :=
 if 4 ≤ cO f a ∨ 4 ≤ cO f b then pU f else if cO f a = cO f b ∧ (cO f a = 0 ∨ cO f a = 3) then pU f else if cO f a = 3 then oW f (dO f a != dO f b)
 else if cO f b = 3 ∨ cO f a = 0 then eQ f (dO f a != dO f b) else if cO f b = 0 then oW f (dO f a != dO f b) else ratioN f mode a b
def divX (f mode : Int) (a b : Nat) : Bool × Bool × Bool × Bool × Bool :=
 if 4 ≤ cO f a ∨ 4 ≤ cO f b then (fV f a || fV f b, false, false, false, false) else if cO f a = cO f b ∧ (cO f a = 0 ∨ cO f a = 3) then (true, false, false, false, false) else if cO f a = 3 then (false, false, false, false, false)
 else if cO f b = 3 ∨ cO f a = 0 then (false, false, false, false, false) else if cO f b = 0 then (false, true, false, false, false) else (false, false, ratioX f mode a b)
theorem oM (f : Int) (v : Nat) (h : cO f v ≠ 0) (h3 : cO f v < 3) : bT f v ≠ 0 := by
 have hp := Nat.two_pow_pos (fm f)
 unfold cO at h h3
 unfold bT
 by_cases c : mE f v = 0
 ·rw [if_pos c] at h ⊢
  intro z; rw [if_pos z] at h; exact h rfl
 ·rw [if_neg c]; omega
theorem lS (f : Int) (v : Nat) (h : bT f v ≠ 0) : 38 ≤ fK f v ∧ fK f v ≤ 61 ∧ iA (bT f v) + fK f v = 62 ∧ 2305843009213693952 ≤ bT f v * 2 ^ fK f v ∧ bT f v * 2 ^ fK f v < 4611686018427387904 := by
 have h1 := gP _ _ (kM f v)
 have h2 := nG _ h
 have hb := eP f
 have e : iA (bT f v) + fK f v = 62 := by unfold fK; omega
 have hp := Nat.two_pow_pos (fK f v)
 have l1 := Nat.mul_le_mul_right (2 ^ fK f v) (uR _ h)
 have l2 := Nat.mul_lt_mul_of_pos_right (nV (bT f v)) hp
 rw [← Nat.pow_add, show iA (bT f v) - 1 + fK f v = 61 by omega] at l1
 rw [← Nat.pow_add, e] at l2
 exact ⟨by omega, by omega, e, l1, l2⟩
theorem tdiv_nat (a b : Nat) : Int.tdiv (a : Int) (b : Int) = ((a / b : Nat) : Int) := rfl
theorem tmod_nn (a b : Nat) : Int.tmod (a : Int) (b : Int) = ((a % b : Nat) : Int) := rfl
theorem aAR (v n : Nat) (h : v * 2 ^ n < 18446744073709551616) : (lN v (-(n : Int))).1 = v * 2 ^ n := by
 have hp := Nat.two_pow_pos n
 have hv : v < 18446744073709551616 := Nat.lt_of_le_of_lt (Nat.le_mul_of_pos_right v hp) h
 rw [lV v n hv]
 exact Nat.mod_eq_of_lt h
theorem div_j1 (f mode : Int) (a b : Nat) (ha : a < 4294967296) (hb : b < 4294967296) (ca : cO f a < 3) (cb : cO f b ≤ 3) (hz : ¬ (cO f a = cO f b ∧ (cO f a = 0 ∨ cO f a = 3))) :
  Ev (fun k => bW.j1 k f mode (a : Int) (b : Int) (dO f a != dO f b) (cO f b : Int) (decide (cO f b = 3 ∨ cO f a = 0))) ((divN f mode a b : Int), divX f mode a b) := by
 unfold divN divX
 rw [if_neg (show ¬ (4 ≤ cO f a ∨ 4 ≤ cO f b) by omega), if_neg (show ¬ (4 ≤ cO f a ∨ 4 ≤ cO f b) by omega)]
 by_cases c0 : cO f b = 3 ∨ cO f a = 0
 ·rw [decide_eq_true c0]
  rw [if_neg hz, if_neg hz, if_neg (show ¬ cO f a = 3 by omega), if_neg (show ¬ cO f a = 3 by omega), if_pos c0, if_pos c0]
  exact Ev.step (fun k => by rw [bW.j1, if_pos rfl, wD, Option.bind_some]) (Ev.now _)
 ·rw [decide_eq_false c0, if_neg hz, if_neg hz, if_neg (show ¬ cO f a = 3 by omega), if_neg (show ¬ cO f a = 3 by omega), if_neg c0, if_neg c0]
  by_cases b0 : cO f b = 0
  ·rw [if_pos b0, if_pos b0]
   exact Ev.step (fun k => by rw [bW.j1, if_neg (by decide), if_pos (by omega), aAk, Option.bind_some]) (Ev.now _)
  ·rw [if_neg b0, if_neg b0]
   have wa := oM f a (by omega) ca
   have wb := oM f b b0 (by omega)
   obtain ⟨k1, k2, k3, k4, k5⟩ := lS f a wa
   have hs := sZ f a
   obtain ⟨l1, l2⟩ := fD f a
   obtain ⟨m1, m2⟩ := fD f b
   have hw : wrap64 (-(wrap64 (62 - (iA (bT f a) : Int)))) = -(fK f a : Int) := by rw [cZ (62 - (iA (bT f a) : Int)) (by omega) (by omega), cZ _ (by omega) (by omega)]; omega
   have he : wrap64 ((wrap64 (bN f a - (wrap64 (62 - (iA (bT f a) : Int))))) - bN f b) = bN f a - bN f b - (fK f a : Int) := by
    rw [cZ (62 - (iA (bT f a) : Int)) (by omega) (by omega), cZ (bN f a - (62 - (iA (bT f a) : Int))) (by omega) (by omega), cZ _ (by omega) (by omega)]; omega
   have hsh := sO (bT f a) hs (-(fK f a : Int)) (by omega) (by omega)
   have hq : bT f a * 2 ^ fK f a / bT f b < 18446744073709551616 := Nat.lt_of_le_of_lt (Nat.div_le_self _ _) (by omega)
   have hp := oV f mode (dO f a != dO f b) (bN f a - bN f b - (fK f a : Int)) (bT f a * 2 ^ fK f a / bT f b) (decide (bT f a * 2 ^ fK f a % bT f b ≠ 0)) hq
   rw [iX _ (by omega) (by omega)] at hp
   refine Ev.step (fun k => by rw [bW.j1, if_neg (by decide), if_neg (by omega), of_f f a ha (iQ f a ca), Option.bind_some, of_f f b hb (iQ f b (by omega)), Option.bind_some]) (Ev.bind (aDn _ hs) ?_)
   dsimp only
   rw [hw, he]
   refine Ev.bind hsh ?_
   dsimp only
   rw [aAR _ _ (by omega), tdiv_nat, tmod_nn, gL _ hq, show (0 : Int) = ((0 : Nat) : Int) from rfl, bne_cast]
   exact Ev.congr (fun k => by rw [if_neg (by omega)]) (Ev.bind hp (Ev.now _))
theorem div_ev (f mode : Int) (a b : Nat) (ha : a < 4294967296) (hb : b < 4294967296) : Ev (fun k => bW.f k f mode (a : Int) (b : Int)) ((divN f mode a b : Int), divX f mode a b) := by
 refine Ev.congr (fun k => by unfold bW.f; rfl) (Ev.bind (uD f a b ha hb) ?_)
 by_cases n : 4 ≤ cO f a ∨ 4 ≤ cO f b
 ·have e : (fC f a || fC f b) = true := by unfold fC; rw [Bool.or_eq_true, decide_eq_true_iff, decide_eq_true_iff]; exact n
  unfold divN divX
  rw [if_pos n, if_pos n]
  exact Ev.congr (fun k => by rw [if_pos e]) (Ev.now _)
 ·have e : ¬ (fC f a || fC f b) = true := by unfold fC; rw [Bool.or_eq_true, decide_eq_true_iff, decide_eq_true_iff]; exact n
  refine Ev.congr (fun k => by rw [if_neg e, sI f a ha, Option.bind_some, sI f b hb, Option.bind_some]) (Ev.bind (oZ f a ha) (Ev.bind (oZ f b hb) ?_))
  have bad : (cO f a = cO f b ∧ (cO f a = 0 ∨ cO f a = 3)) → Ev (fun k => bW.j0 k f mode (a : Int) (b : Int) (dO f a != dO f b) (cO f a : Int) (cO f b : Int) true) ((divN f mode a b : Int), divX f mode a b) := by
   intro z
   unfold divN divX
   rw [if_neg n, if_neg n, if_pos z, if_pos z]
   exact Ev.step (fun k => by rw [bW.j0, if_pos rfl, aBr]; rfl) (Ev.now _)
  have good : ¬ (cO f a = cO f b ∧ (cO f a = 0 ∨ cO f a = 3)) → Ev (fun k => bW.j0 k f mode (a : Int) (b : Int) (dO f a != dO f b) (cO f a : Int) (cO f b : Int) false) ((divN f mode a b : Int), divX f mode a b) := by
   intro z
   by_cases a3 : cO f a = 3
   ·unfold divN divX
    rw [if_neg n, if_neg n, if_neg z, if_neg z, if_pos a3, if_pos a3]
    exact Ev.step (fun k => by rw [bW.j0, if_neg (by decide), if_pos (by omega), aAk]; rfl) (Ev.now _)
   ·have hj := div_j1 f mode a b ha hb (by omega) (by omega) z
    by_cases b3 : cO f b = 3
    ·rw [decide_eq_true (.inl b3)] at hj
     exact Ev.step (fun k => by rw [bW.j0, if_neg (by decide), if_neg (by omega), if_pos (by omega)]) hj
    ·have e0 : decide (cO f b = 3 ∨ cO f a = 0) = ((cO f a : Int) == 0) := by
      rw [show (0 : Int) = ((0 : Nat) : Int) from rfl, oI]; apply decide_eq_decide.mpr; omega
     rw [e0] at hj
     exact Ev.step (fun k => by rw [bW.j0, if_neg (by decide), if_neg (by omega), if_neg (by omega)]) hj
  by_cases s : cO f a = cO f b
  ·by_cases a0 : cO f a = 0
   ·exact Ev.congr (fun k => by rw [if_pos (by omega), if_pos (by omega)]) (bad ⟨s, .inl a0⟩)
   ·by_cases a3 : cO f a = 3
    ·have e3 : (((cO f a : Nat) : Int) == 3) = true := by rw [a3]; rfl
     exact Ev.congr (fun k => by rw [if_pos (by omega), if_neg (by omega), e3]) (bad ⟨s, .inr a3⟩)
    ·have e3 : (((cO f a : Nat) : Int) == 3) = false := by rw [show (3 : Int) = ((3 : Nat) : Int) from rfl, oI]; exact decide_eq_false a3
     exact Ev.congr (fun k => by rw [if_pos (by omega), if_neg (by omega), e3]) (good (by omega))
  ·exact Ev.congr (fun k => by rw [if_neg (by omega)]) (good (by omega))
end Round
namespace BitsF
open P Num
theorem aBz (j : Nat) : ∀ v c k : Nat, v < 2 ^ j → c + j ≤ 64 → aX.l0 (j + 1 + k) (v : Int) (c : Int) = some ((c + iA v : Nat) : Int) := by
 induction j with
 |zero =>
  intro v c k h _
  obtain rfl : v = 0 := by rw [Nat.pow_zero] at h; omega
  rw [show 0 + 1 + k = k + 1 by omega, aX.l0, if_neg (by decide)]; rfl
 |succ j ih =>
  intro v c k h hc
  rw [show j + 1 + 1 + k = (j + 1 + k) + 1 by omega, aX.l0]
  by_cases hv : v = 0
  ·subst hv; rw [if_neg (by decide)]; rfl
  ·rw [if_pos (by omega), show (v : Int) / 2 = ((v / 2 : Nat) : Int) by omega, cZ _ (by omega) (by omega), show (c : Int) + 1 = ((c + 1 : Nat) : Int) by omega, ih _ _ k (by rw [Nat.pow_succ] at h; omega) (by omega), aDf v hv]
   congr 2; omega
theorem qX (v : Nat) (hv : v < 18446744073709551616) : Ev (fun k => aX.f k (v : Int)) (iA v : Int) :=
 Ev.of (aX.mono _) (k := 65) (by
  have h := aBz 64 v 0 0 (by omega) (by decide)
  rw [Nat.zero_add, show 64 + 1 + 0 = 65 from rfl] at h
  unfold aX.f
  exact h)
theorem aAw (v j : Nat) : v / 2 / 2 ^ j = v / 2 ^ (j + 1) := by rw [Nat.div_div_eq_div_mul, Nat.pow_succ, Nat.mul_comm 2]
theorem aBR (v j : Nat) : (decide (v % 2 ≠ 0) || decide (v / 2 % 2 ^ j ≠ 0)) = decide (v % 2 ^ (j + 1) ≠ 0) := by
 have e : v % 2 ^ (j + 1) = v % 2 + 2 * (v / 2 % 2 ^ j) := by rw [Nat.pow_succ, Nat.mul_comm, Nat.mod_mul]
 rw [← Bool.decide_or]
 congr 1; apply propext
 have hz : ∀ z : Nat, v / 2 % 2 ^ j = z → (v % 2 ≠ 0 ∨ z ≠ 0 ↔ v % 2 + 2 * z ≠ 0) := by intro z _; omega
 rw [e]; exact hz _ rfl
theorem rV (j : Nat) : ∀ (v k : Nat) (b : Bool), v < 18446744073709551616 → j ≤ 64 →
  aD.l1 (j + 1 + k) (v : Int) (-(j : Int)) b = some (((v * 2 ^ j % 18446744073709551616 : Nat) : Int), b || decide (18446744073709551616 ≤ v * 2 ^ j)) := by
 induction j with
 |zero =>
  intro v k b hv _
  rw [show 0 + 1 + k = k + 1 by omega, aD.l1, if_neg (by decide), Nat.pow_zero, Nat.mul_one, Nat.mod_eq_of_lt hv, decide_eq_false (by omega), Bool.or_false]
 |succ j ih =>
  intro v k b hv hj
  have e1 : wrap64 (-((j + 1 : Nat) : Int) + 1) = -(j : Int) := by rw [cZ] <;> omega
  have e2 : IntKind.u64.wrap ((v : Int) * 2) = ((v * 2 % 18446744073709551616 : Nat) : Int) := by rw [show (v : Int) * 2 = ((v * 2 : Nat) : Int) by omega, wH]
  have e3 : (((v : Int) / 9223372036854775808 == 1) : Bool) = decide (9223372036854775808 ≤ v) := by
   by_cases h : 9223372036854775808 ≤ v
   ·rw [decide_eq_true h, beq_iff_eq]; omega
   ·rw [decide_eq_false h, beq_eq_false_iff_ne]; omega
  have e4 : v * 2 % 18446744073709551616 * 2 ^ j % 18446744073709551616 = v * 2 ^ (j + 1) % 18446744073709551616 := by
   rw [Nat.mod_mul_mod, Nat.mul_assoc, ← Nat.pow_succ']
  have e5 : ∀ b : Bool, ((b || decide (9223372036854775808 ≤ v)) || decide (18446744073709551616 ≤ v * 2 % 18446744073709551616 * 2 ^ j)) = (b || decide (18446744073709551616 ≤ v * 2 ^ (j + 1))) := by
   intro b
   rw [Bool.or_assoc, ← Bool.decide_or]
   congr 2
   apply propext
   rw [show v * 2 ^ (j + 1) = v * 2 * 2 ^ j by rw [Nat.mul_assoc, ← Nat.pow_succ']]
   have hp := Nat.two_pow_pos j
   constructor
   ·rintro (h | h)
    ·calc 18446744073709551616 ≤ v * 2 * 1 := by omega
      _ ≤ v * 2 * 2 ^ j := Nat.mul_le_mul_left _ hp
    ·exact Nat.le_trans h (Nat.mul_le_mul_right _ (Nat.mod_le _ _))
   ·intro h
    by_cases h' : 9223372036854775808 ≤ v
    ·exact .inl h'
    ·right; rw [Nat.mod_eq_of_lt (by omega)]; exact h
  rw [show j + 1 + 1 + k = (j + 1 + k) + 1 by omega, aD.l1, if_pos (by omega), e1, e2, e3]
  by_cases hb : b = true
  ·subst hb
   rw [if_pos rfl, ih _ k true (Nat.mod_lt _ (by decide)) (by omega), e4]
   simp only [Bool.true_or]
  ·rw [if_neg hb, ih _ k _ (Nat.mod_lt _ (by decide)) (by omega), e4]
   have : b = false := by simpa using hb
   subst this
   have := e5 false
   simp only [Bool.false_or] at this ⊢
   rw [this]
theorem yR (j : Nat) : ∀ (v k : Nat) (b : Bool), v < 18446744073709551616 → j ≤ 64 →
  aD.l0 (j + 2 + k) (v : Int) (j : Int) b = some (((v / 2 ^ j : Nat) : Int), b || decide (v % 2 ^ j ≠ 0)) := by
 induction j with
 |zero =>
  intro v k b hv _
  have h := rV 0 v k b hv (by decide)
  rw [show 0 + 2 + k = (0 + 1 + k) + 1 by omega, aD.l0, if_neg (by decide), show ((0 : Nat) : Int) = -((0 : Nat) : Int) by rfl, h]
  simp [Nat.mod_one]; omega
 |succ j ih =>
  intro v k b hv hj
  have e1 : wrap64 (((j + 1 : Nat) : Int) - 1) = (j : Int) := by rw [cZ] <;> omega
  have e3 : ((Go.bits .and .u64 (v : Int) 1 == 1) : Bool) = decide (v % 2 ≠ 0) := by
   rw [qC v hv]
   by_cases h : v % 2 ≠ 0
   ·rw [decide_eq_true h, beq_iff_eq]; omega
   ·rw [decide_eq_false h, beq_eq_false_iff_ne]; omega
  rw [show j + 1 + 2 + k = (j + 2 + k) + 1 by omega, aD.l0, if_pos (by omega), e1, e3, show (v : Int) / 2 = ((v / 2 : Nat) : Int) by omega]
  have o := aBR v j
  by_cases hb : b = true
  ·subst hb
   rw [if_pos rfl, ih _ k true (by omega) (by omega), aAw]
   simp only [Bool.true_or]
  ·rw [if_neg hb, ih _ k _ (by omega) (by omega), aAw, o]
   have : b = false := by simpa using hb
   subst this
   rfl
theorem rQ (v : Nat) (hv : v < 18446744073709551616) (n : Int) :
  Ev (fun k => aD.f k (v : Int) n) ((((lN v n).1 : Nat) : Int), (lN v n).2) := by
 refine Ev.of (aD.mono _ _) (k := 67) ?_
 unfold aD.f
 by_cases c : 0 ≤ n
 ·obtain ⟨m, rfl⟩ := mG c
  have e : mn (mx (m : Int) (-64)) 64 = ((min m 64 : Nat) : Int) := by unfold mn mx; split <;> split <;> omega
  have h := yR (min m 64) v (65 - min m 64) false hv (by omega)
  rw [show min m 64 + 2 + (65 - min m 64) = 67 by omega] at h
  rw [e, h, jO]
  by_cases c' : m ≤ 64
  ·rw [Nat.min_eq_left c']; rfl
  ·have b1 := oJ (show 64 ≤ m by omega)
   rw [Nat.min_eq_right (by omega), Nat.div_eq_of_lt (show v < 2 ^ 64 by omega), Nat.mod_eq_of_lt (show v < 2 ^ 64 by omega), Nat.div_eq_of_lt (show v < 2 ^ m by omega), Nat.mod_eq_of_lt (show v < 2 ^ m by omega)]; rfl
 ·obtain ⟨m, hm⟩ := mG (show 0 ≤ -n by omega)
  obtain rfl : n = -(m : Int) := by omega
  have e : mn (mx (-(m : Int)) (-64)) 64 = -((min m 64 : Nat) : Int) := by unfold mn mx; split <;> split <;> omega
  have h := rV (min m 64) v (65 - min m 64) false hv (by omega)
  rw [show min m 64 + 1 + (65 - min m 64) = 66 by omega] at h
  rw [e, aD.l0, if_neg (by omega), h, lV _ _ hv]
  by_cases c' : m ≤ 64
  ·rw [Nat.min_eq_left c']; rfl
  ·rw [Nat.min_eq_right (by omega)]
   have b1 := oJ (show 64 ≤ m by omega)
   have e : (2 : Nat) ^ m = 18446744073709551616 * 2 ^ (m - 64) := by rw [show 18446744073709551616 = 2 ^ 64 from rfl, ← Nat.pow_add]; congr 1; omega
   have e1 : v * 2 ^ m % 18446744073709551616 = 0 := by rw [e, ← Nat.mul_assoc, Nat.mul_comm v, Nat.mul_assoc, Nat.mul_mod_right]
   rw [e1, show v * 2 ^ 64 % 18446744073709551616 = 0 by omega, Bool.false_or]
   congr 2
   apply decide_eq_decide.mpr
   constructor
   ·intro h1
    have : v ≠ 0 := by intro h0; subst h0; omega
    exact Nat.le_trans b1 (Nat.le_mul_of_pos_left _ (by omega))
   ·intro h1
    have : v ≠ 0 := by intro h0; subst h0; omega
    omega
end BitsF
namespace P
attribute [local go_sem] max2_int min2_int max_two min_two max_three min_three max_four min_four
def bB.f (k : Nat) (a0 a1 : Int) : Option (Int × Bool × Bool) := if a1 ≤ 0 then (if 0 ≤ (mn (wrap64 (-a1)) 63) then (some (IntKind.u64.wrap (a0 * 2 ^ (mn (wrap64 (-a1)) 63).toNat), false, false)) else (none)) else (if a1 > 64 then (some (0, false, (a0 != 0))) else ((aD.f k a0 a1).bind fun bt595 => ((aD.f k a0 (wrap64 (a1 - 1))).bind fun bt597 => ((aD.f k a0 (wrap64 (a1 - 1))).bind fun bt599 => (some (bt595.1, ((Go.bits .and .u64 bt597.1 1) == 1), bt599.2))))))
mutual
def aA.j0 : Nat → Int → Int → Bool → Int → Int → Bool → Bool → Option (Int × Bool × Bool × Bool × Bool × Bool)
 |0, _, _, _, _, _, _, _ => none
 |k + 1, x0, x1, x2, x3, x4, x5, x35 => if x35 = true then ((bU.f x0 x2).bind fun t605 => (some (t605, false, false, false, false, false))) else ((aI.f x0).bind fun bt606 => ((bL.f x0).bind fun t608 => ((aX.f k x4).bind fun t609 => (if x4 = 0 then (aA.j1 k x0 x1 x2 x3 x4 x5 bt606.2 (wrap64 (1 - t608)) (-20000)) else (aA.j1 k x0 x1 x2 x3 x4 x5 bt606.2 (wrap64 (1 - t608)) (wrap64 ((wrap64 (x3 + t609)) - 1)))))))
def aA.j1 : Nat → Int → Int → Bool → Int → Int → Bool → Int → Int → Int → Option (Int × Bool × Bool × Bool × Bool × Bool)
 |0, _, _, _, _, _, _, _, _, _ => none
 |k + 1, x0, x1, x2, x3, x4, x5, x15, x16, x17 => (bB.f k x4 (wrap64 ((wrap64 ((mx x17 x16) - x15)) - x3))).bind fun bt610 => (if bt610.2.2 = true then (aA.j2 k x0 x1 x2 x15 x16 x17 (wrap64 ((mx x17 x16) - x15)) bt610.1 bt610.2.1 true) else (aA.j2 k x0 x1 x2 x15 x16 x17 (wrap64 ((mx x17 x16) - x15)) bt610.1 bt610.2.1 x5))
def aA.j2 : Nat → Int → Int → Bool → Int → Int → Int → Int → Int → Bool → Bool → Option (Int × Bool × Bool × Bool × Bool × Bool)
 |0, _, _, _, _, _, _, _, _, _, _ => none
 |k + 1, x0, x1, x2, x15, x16, x17, x18, x19, x20, x21 => if x20 = true then (aA.j3 k x0 x1 x2 x15 x16 x17 x18 x19 x20 x21 true) else (aA.j3 k x0 x1 x2 x15 x16 x17 x18 x19 x20 x21 x21)
def aA.j3 : Nat → Int → Int → Bool → Int → Int → Int → Int → Int → Bool → Bool → Bool → Option (Int × Bool × Bool × Bool × Bool × Bool)
 |0, _, _, _, _, _, _, _, _, _, _, _ => none
 |k + 1, x0, x1, x2, x15, x16, x17, x18, x19, x20, x21, x22 => (bQ.f x1 x2 ((Go.bits .and .u64 x19 1) == 1) x20 x21).bind fun t613 => (if t613 = true then (aA.j4 k x0 x1 x2 x15 x16 x17 x18 (IntKind.u64.wrap (x19 + 1)) x22) else (aA.j4 k x0 x1 x2 x15 x16 x17 x18 x19 x22))
def aA.j4 : Nat → Int → Int → Bool → Int → Int → Int → Int → Int → Bool → Option (Int × Bool × Bool × Bool × Bool × Bool)
 |0, _, _, _, _, _, _, _, _, _ => none
 |k + 1, x0, x1, x2, x15, x16, x17, x18, x19, x22 => if x22 = true then (if 0 ≤ (wrap64 (x15 + 1)) then (if x19 = (shl .u64 1 (wrap64 (x15 + 1))) then (aA.j5 k x0 x1 x2 x15 (wrap64 (x18 + 1)) (x19 / 2) false false false (decide (x17 < x16)) x22) else (aA.j5 k x0 x1 x2 x15 x18 x19 false false false (decide (x17 < x16)) x22)) else (none)) else (if 0 ≤ (wrap64 (x15 + 1)) then (if x19 = (shl .u64 1 (wrap64 (x15 + 1))) then (aA.j6 k x0 x1 x2 x15 (wrap64 (x18 + 1)) (x19 / 2) false false false false x22) else (aA.j6 k x0 x1 x2 x15 x18 x19 false false false false x22)) else (none))
def aA.j5 : Nat → Int → Int → Bool → Int → Int → Int → Bool → Bool → Bool → Bool → Bool → Option (Int × Bool × Bool × Bool × Bool × Bool)
 |0, _, _, _, _, _, _, _, _, _, _, _ => none
 |k + 1, x0, x1, x2, x15, x18, x19, x615000, x615001, x615002, x615003, x615004 => if 0 ≤ x15 then (if x19 < (shl .u64 1 x15) then ((cK.f x0 x2).bind fun t615 => (some (Go.bits .or .u32 t615 ((x19) % 4294967296), x615000, x615001, x615002, x615003, x615004))) else ((bL.f x0).bind fun t616 => ((aI.f x0).bind fun bt617 => (if 0 ≤ bt617.1 then (if (wrap64 ((wrap64 (x18 + x15)) + t616)) ≥ (wrap64 ((shl .i64 1 bt617.1) - 1)) then ((aK.f k x0 x1 x2).bind fun t619 => (some (t619, false, false, true, false, true))) else ((cK.f x0 x2).bind fun t620 => (some (Go.bits .or .u32 (Go.bits .or .u32 t620 (shl .u32 ((wrap64 ((wrap64 (x18 + x15)) + t616)) % 4294967296) x15)) ((Go.bits .and .u64 x19 (IntKind.u64.wrap ((shl .u64 1 x15) - 1))) % 4294967296), x615000, x615001, x615002, x615003, x615004)))) else (none))))) else (none)
def aA.j6 : Nat → Int → Int → Bool → Int → Int → Int → Bool → Bool → Bool → Bool → Bool → Option (Int × Bool × Bool × Bool × Bool × Bool)
 |0, _, _, _, _, _, _, _, _, _, _, _ => none
 |k + 1, x0, x1, x2, x15, x18, x19, x622000, x622001, x622002, x622003, x622004 => if 0 ≤ x15 then (if x19 < (shl .u64 1 x15) then ((cK.f x0 x2).bind fun t622 => (some (Go.bits .or .u32 t622 ((x19) % 4294967296), x622000, x622001, x622002, x622003, x622004))) else ((bL.f x0).bind fun t623 => ((aI.f x0).bind fun bt624 => (if 0 ≤ bt624.1 then (if (wrap64 ((wrap64 (x18 + x15)) + t623)) ≥ (wrap64 ((shl .i64 1 bt624.1) - 1)) then ((aK.f k x0 x1 x2).bind fun t626 => (some (t626, false, false, true, false, true))) else ((cK.f x0 x2).bind fun t627 => (some (Go.bits .or .u32 (Go.bits .or .u32 t627 (shl .u32 ((wrap64 ((wrap64 (x18 + x15)) + t623)) % 4294967296) x15)) ((Go.bits .and .u64 x19 (IntKind.u64.wrap ((shl .u64 1 x15) - 1))) % 4294967296), x622000, x622001, x622002, x622003, x622004)))) else (none))))) else (none)
end
def aA.f (k : Nat) (a0 a1 : Int) (a2 : Bool) (a3 a4 : Int) (a5 : Bool) : Option (Int × Bool × Bool × Bool × Bool × Bool) := if a4 = 0 then (aA.j0 k a0 a1 a2 (mn (mx a3 (-10000)) 10000) a4 a5 (!a5)) else (aA.j0 k a0 a1 a2 (mn (mx a3 (-10000)) 10000) a4 a5 false)
end P
namespace Round
open P Num BitsF Fmt
theorem vK (f : Int) (neg : Bool) : eD.f f neg = some (qN f neg : Int) := by
 unfold eD.f qN
 obtain ⟨hi, _⟩ := l9 f neg
 have ht := gU f
 have hp := Nat.two_pow_pos (fm f)
 have : 0 < gN f * 2 ^ fm f := Nat.mul_pos (by omega) hp
 rw [oC]; simp only [Option.bind_some]
 unfold oW at *
 congr 1; omega
theorem xL (s : Nat) (hs : s < 18446744073709551616) (d : Int) (h1 : -100000 ≤ d) (h2 : d ≤ 100000) (hq : d ≤ 0 → s * 2 ^ (-d).toNat < 18446744073709551616) :
  Ev (fun k => bB.f k (s : Int) d) ((iM s d : Int), decide (2 ≤ gD s d false), decide (gD s d false = 1 ∨ gD s d false = 3)) := by
 unfold bB.f
 by_cases c : d ≤ 0
 ·obtain ⟨m, hm⟩ := mG (show 0 ≤ -d by omega)
  have e : mn (wrap64 (-d)) 63 = ((min m 63 : Nat) : Int) := by rw [cZ _ (by omega) (by omega), hm]; unfold mn; split <;> omega
  simp only [if_pos c, e, if_pos (show 0 ≤ ((min m 63 : Nat) : Int) by omega), gH false (.inl c)]
  have hq' := hq c
  rw [hm, Int.toNat_natCast] at hq'
  have e2 : IntKind.u64.wrap ((s : Int) * 2 ^ ((min m 63 : Nat) : Int).toNat) = (iM s d : Int) := by
   rw [Int.toNat_natCast, show (s : Int) * 2 ^ (min m 63) = ((s * 2 ^ (min m 63) : Nat) : Int) by simp, wH]
   unfold iM; rw [if_pos c, hm, Int.toNat_natCast]
   by_cases z : s = 0
   ·subst z; simp
   ·have : m ≤ 63 := by
     rcases Nat.lt_or_ge 63 m with h | h
     ·have := oJ (show 64 ≤ m by omega)
      have : 2 ^ m ≤ s * 2 ^ m := Nat.le_mul_of_pos_left _ (by omega)
      omega
     ·exact h
    rw [Nat.min_eq_left this, Nat.mod_eq_of_lt hq']
  rw [e2]
  exact Ev.now _
 ·obtain ⟨m, rfl⟩ := mG (show 0 ≤ d by omega)
  have hqe : iM s (m : Int) = s / 2 ^ m := by unfold iM; rw [if_neg c, Int.toNat_natCast]
  rw [hqe]
  simp only [if_neg c]
  by_cases c' : (m : Int) > 64
  ·simp only [if_pos c']
   have hb := oJ (show 64 ≤ m - 1 by omega)
   have hb2 := oJ (show 64 ≤ m by omega)
   have hl : gD s (m : Int) false = if s = 0 then 0 else 1 := by
    by_cases z : s = 0
    ·subst z; rw [gH _ (.inr (by simp))]; rfl
    ·rw [nC _ c (by rw [Int.toNat_natCast, Nat.mod_eq_of_lt (by omega)]; exact z), Int.toNat_natCast, Nat.div_eq_of_lt (show s < 2 ^ (m - 1) by omega), if_neg z]; rfl
   rw [Nat.div_eq_of_lt (show s < 2 ^ m by omega), hl, show (0 : Int) = ((0 : Nat) : Int) from rfl, bne_cast]
   by_cases z : s = 0
   ·subst z; exact Ev.now _
   ·rw [if_neg z, decide_eq_true z]; exact Ev.now _
  ·have e : wrap64 ((m : Int) - 1) = ((m - 1 : Nat) : Int) := by rw [cZ] <;> omega
   simp only [if_neg c', e]
   have hd : s / 2 ^ (m - 1) < 18446744073709551616 := Nat.lt_of_le_of_lt (Nat.div_le_self _ _) hs
   have s1 := rQ s hs (m : Int)
   have s2 := rQ s hs ((m - 1 : Nat) : Int)
   rw [jO] at s1 s2
   refine Ev.bind s1 (Ev.bind s2 (Ev.bind s2 ?_))
   rw [qC _ hd]
   have em : s % 2 ^ m = s % 2 ^ (m - 1) + 2 ^ (m - 1) * (s / 2 ^ (m - 1) % 2) := by
    rw [show m = m - 1 + 1 by omega, Nat.pow_succ, Nat.mod_mul, Nat.add_sub_cancel]
   have hb1 : (((s / 2 ^ (m - 1) % 2 : Nat) : Int) == 1) = decide (2 ≤ gD s (m : Int) false) ∧ decide (s % 2 ^ (m - 1) ≠ 0) = decide (gD s (m : Int) false = 1 ∨ gD s (m : Int) false = 3) := by
    have hp := Nat.two_pow_pos (m - 1)
    by_cases z : s % 2 ^ m = 0
    ·rw [gH _ (.inr (by rw [Int.toNat_natCast]; exact z))]
     rw [z] at em
     have z1 : s % 2 ^ (m - 1) = 0 := by omega
     have z2 : s / 2 ^ (m - 1) % 2 = 0 := by
      have : 2 ^ (m - 1) * (s / 2 ^ (m - 1) % 2) = 0 := by omega
      rcases Nat.mul_eq_zero.mp this with h | h
      ·omega
      ·exact h
     rw [z1, z2]; exact ⟨rfl, rfl⟩
    ·rw [nC _ c (by rw [Int.toNat_natCast]; exact z), Int.toNat_natCast]
     have hb : s / 2 ^ (m - 1) % 2 = 0 ∨ s / 2 ^ (m - 1) % 2 = 1 := by omega
     rcases hb with hb | hb
     ·rw [hb, Nat.mul_zero, Nat.add_zero] at em
      rw [em] at z
      rw [hb, decide_eq_true z]; exact ⟨rfl, rfl⟩
     ·rw [hb, if_neg (by decide)]
      by_cases w : s % 2 ^ (m - 1) = 0
      ·rw [w]; exact ⟨rfl, rfl⟩
      ·rw [if_pos (.inl w), decide_eq_true w]; exact ⟨rfl, rfl⟩
   simp only [hb1.1, hb1.2]
   exact Ev.now _
theorem aCU (s : Nat) (d : Int) : decide (2 ≤ gD s d true) = decide (2 ≤ gD s d false) ∧ (gD s d true = 1 ∨ gD s d true = 3) := by
 by_cases c : d ≤ 0 ∨ s % 2 ^ d.toNat = 0
 ·rw [gH _ c, gH _ c]; simp
 ·have c' := not_or.mp c
  rw [nC _ c'.1 c'.2, nC _ c'.1 c'.2]
  split
  ·simp
  ·simp; split <;> simp
theorem ref_up_f (mode : Int) (neg : Bool) (q left : Nat) (h : left ≤ 3) : bQ.f mode neg (decide (q % 2 = 1)) (decide (2 ≤ left)) (decide (left = 1 ∨ left = 3)) = some (upN mode neg q left) := by
 unfold bQ.f upN
 have hl : left = 0 ∨ left = 1 ∨ left = 2 ∨ left = 3 := by omega
 by_cases m1 : mode = 1
 ·rw [if_pos m1, if_pos m1]
 ·rw [if_neg m1, if_neg m1]
  by_cases m2 : mode = 2
  ·rw [if_pos m2, if_pos m2]; rcases hl with rfl | rfl | rfl | rfl <;> cases neg <;> rfl
  ·rw [if_neg m2, if_neg m2]
   by_cases m3 : mode = 3
   ·rw [if_pos m3, if_pos m3]; rcases hl with rfl | rfl | rfl | rfl <;> cases neg <;> rfl
   ·rw [if_neg m3, if_neg m3]
    by_cases m4 : mode = 4
    ·rw [if_pos m4, if_pos m4]
    ·rw [if_neg m4, if_neg m4]
     rcases hl with rfl | rfl | rfl | rfl <;> simp
theorem aAX (k : Nat) (f mode : Int) (neg : Bool) : aK.f (k + 1) f mode neg = some (((if jM mode neg then oW f neg else qN f neg : Nat) : Int)) := by
 unfold aK.f jM
 simp only [aK.j0, vK, oC, Option.bind_some]
 by_cases m1 : mode = 1
 ·rw [if_pos m1, if_pos m1]; rfl
 ·rw [if_neg m1, if_neg m1]
  by_cases m2 : mode = 2
  ·rw [if_pos m2, if_pos m2]; subst m2; cases neg <;> rfl
  ·rw [if_neg m2, if_neg m2]
   by_cases m3 : mode = 3
   ·rw [if_pos m3, if_pos m3]; cases neg <;> rfl
   ·rw [if_neg m3, if_neg m3]; rfl
theorem aCW (f : Int) (neg : Bool) (v : Nat) (h : v < 2 ^ (fe f + fm f)) : Go.bits .or .u32 (eQ f neg : Int) (v : Int) = ((v + eQ f neg : Nat) : Int) ∧ v + eQ f neg < 4294967296 := by
 obtain ⟨b1, b2, b3, b4, b5⟩ := eP f
 have h31 := eZ b5
 unfold eQ
 cases neg
 ·simp only [Bool.false_eq_true, if_false]
  rw [qB _ _ (by omega) (by omega), Nat.zero_or, Nat.add_zero]; exact ⟨rfl, by omega⟩
 ·simp only [if_true]
  rw [qB _ _ (by omega) (by omega), nO _ _ (fe f + fm f) (by simp) h, Nat.add_comm]; exact ⟨rfl, by omega⟩
theorem uH (k : Nat) (f mode : Int) (neg : Bool) (q U : Nat) (hU : U ≤ 10300) (hq : q < 2 ^ (fm f + 1)) (hq' : U ≠ 0 → 2 ^ fm f ≤ q) (K : Nat) (hK : K = U * 2 ^ fm f + q) (c0 c1 c2 c3 c4 : Bool) :
  aA.j5 (k + 2) f mode neg (fm f : Int) (dM f - fm f + U) (q : Int) c0 c1 c2 c3 c4 = some
   ((((if iZ f K then (if jM mode neg then gN f * 2 ^ fm f else gN f * 2 ^ fm f - 1) else K) + eQ f neg : Nat) : Int),
    if iZ f K then (false, false, true, false, true) else (c0, c1, c2, c3, c4)) ∧
  aA.j6 (k + 2) f mode neg (fm f : Int) (dM f - fm f + U) (q : Int) c0 c1 c2 c3 c4 = some
   ((((if iZ f K then (if jM mode neg then gN f * 2 ^ fm f else gN f * 2 ^ fm f - 1) else K) + eQ f neg : Nat) : Int),
    if iZ f K then (false, false, true, false, true) else (c0, c1, c2, c3, c4)) := by
 obtain ⟨b1, b2, b3, b4, b5⟩ := eP f
 have hl := iJ f
 have hp := Nat.two_pow_pos (fm f)
 have hpe := Nat.two_pow_pos (fe f)
 have h31 := eZ (show fm f + 1 ≤ 31 by omega)
 have h8 := eZ (show fe f ≤ 31 by omega)
 have hsucc : 2 ^ (fm f + 1) = 2 * 2 ^ fm f := by rw [Nat.pow_succ, Nat.mul_comm]
 have ht := gU f
 obtain ⟨_, hte⟩ := l9 f neg
 have e1 : shl .u64 1 (fm f : Int) = ((2 ^ fm f : Nat) : Int) := by rw [show (1 : Int) = ((1 : Nat) : Int) from rfl, kX, Nat.one_mul, Nat.mod_eq_of_lt (by omega)]
 have e2 : wrap64 (wrap64 (dM f - (fm f : Int) + (U : Int) + (fm f : Int)) + (1 - dM f)) = ((U + 1 : Nat) : Int) := by
  rw [cZ (dM f - (fm f : Int) + (U : Int) + (fm f : Int)) (by omega) (by omega), cZ _ (by omega) (by omega)]; omega
 have e3 : wrap64 (shl .i64 1 (fe f : Int) - 1) = ((gN f : Nat) : Int) := by
  rw [lU _ (by omega), cZ _ (by omega) (by omega)]; unfold gN; omega
 rw [aA.j5, aA.j6, if_pos (by omega), e1, rC, fU, oP]
 simp only [Option.bind_some]
 rw [if_pos (show (0 : Int) ≤ (fe f : Int) by omega), e2, e3, aAX]
 simp only [Option.bind_some]
 by_cases c : q < 2 ^ fm f
 ·have hU0 : U = 0 := by
   rcases Nat.eq_zero_or_pos U with h | h
   ·exact h
   ·have := hq' (by omega); omega
  have ho : iZ f K = false := by
   unfold iZ
   rw [decide_eq_false_iff_not, hK, hU0]
   have : 1 * 2 ^ fm f ≤ gN f * 2 ^ fm f := Nat.mul_le_mul_right _ (by omega)
   omega
  obtain ⟨s1, s2⟩ := aCW f neg q (by omega)
  rw [if_pos (show (q : Int) < ((2 ^ fm f : Nat) : Int) by omega), show (q : Int) % 4294967296 = (q : Int) by omega, s1, ho, hK, hU0]
  simp
 ·rw [if_neg (show ¬ (q : Int) < ((2 ^ fm f : Nat) : Int) by omega)]
  have ho : ((U + 1 : Nat) : Int) ≥ (gN f : Int) ↔ iZ f K = true := by
   unfold iZ
   rw [decide_eq_true_iff, hK]
   constructor
   ·intro h
    have : gN f * 2 ^ fm f ≤ (U + 1) * 2 ^ fm f := Nat.mul_le_mul_right _ (by omega)
    rw [Nat.add_mul, Nat.one_mul] at this; omega
   ·intro h
    rcases Nat.lt_or_ge (U + 1) (gN f) with d | d
    ·have : (U + 1 + 1) * 2 ^ fm f ≤ gN f * 2 ^ fm f := Nat.mul_le_mul_right _ d
     rw [Nat.add_mul, Nat.add_mul, Nat.one_mul] at this; omega
    ·omega
  by_cases c' : ((U + 1 : Nat) : Int) ≥ (gN f : Int)
  ·rw [if_pos c', ho.mp c']
   simp only [if_true]
   have : (if jM mode neg then oW f neg else qN f neg) = (if jM mode neg then gN f * 2 ^ fm f else gN f * 2 ^ fm f - 1) + eQ f neg := by
    unfold oW qN; split <;> rfl
   rw [this]
   exact ⟨rfl, rfl⟩
  ·rw [if_neg c']
   have co : iZ f K = false := by simpa using fun h => c' (ho.mpr h)
   have hmul : (U + 1) * 2 ^ fm f + 2 ^ fm f ≤ 2 ^ (fe f + fm f) := by
    have : (U + 1) * 2 ^ fm f ≤ gN f * 2 ^ fm f := Nat.mul_le_mul_right _ (by omega)
    omega
   have h32 := eZ b5
   have hm1 : q % 2 ^ fm f = q - 2 ^ fm f := by
    have h1 : q / 2 ^ fm f = 1 := Nat.div_eq_of_lt_le (by omega) (by omega)
    have := Nat.div_add_mod q (2 ^ fm f)
    rw [h1, Nat.mul_one] at this; omega
   have e4 : shl .u32 (((U + 1 : Nat) : Int) % 4294967296) (fm f : Int) = (((U + 1) * 2 ^ fm f : Nat) : Int) := by
    rw [show ((U + 1 : Nat) : Int) % 4294967296 = ((U + 1 : Nat) : Int) by omega, uF, Nat.mod_eq_of_lt (by omega)]
   have e5 : Go.bits .and .u64 (q : Int) (IntKind.u64.wrap (((2 ^ fm f : Nat) : Int) - 1)) % 4294967296 = ((q % 2 ^ fm f : Nat) : Int) := by
    rw [show ((2 ^ fm f : Nat) : Int) - 1 = ((2 ^ fm f - 1 : Nat) : Int) by omega, gL _ (by omega), wE _ _ (by omega) (by omega)]
    have := Nat.mod_lt q hp; omega
   have hKe : K + eQ f neg = (U + 1) * 2 ^ fm f + eQ f neg + q % 2 ^ fm f := by
    rw [hK, hm1, Nat.add_mul]; omega
   obtain ⟨s1, s2⟩ := aCW f neg ((U + 1) * 2 ^ fm f) (by omega)
   have hq2 : q % 2 ^ fm f < 2 ^ fm f := Nat.mod_lt _ hp
   have e6 : Go.bits .or .u32 (((U + 1) * 2 ^ fm f + eQ f neg : Nat) : Int) ((q % 2 ^ fm f : Nat) : Int) = (((U + 1) * 2 ^ fm f + eQ f neg + q % 2 ^ fm f : Nat) : Int) := by
    rw [qB _ _ s2 (by omega), nO _ _ (fm f) ?_ hq2]
    unfold eQ
    cases neg
    ·simp
    ·simp only [if_true]
     rw [Nat.pow_add, ← Nat.add_mul, Nat.mul_mod_left]
   rw [e4, s1, e5, e6, co]
   simp only [Bool.false_eq_true, if_false, hKe]
   exact ⟨trivial, trivial⟩
theorem step_ew (f : Int) : wrap64 ((fm f : Int) + 1) = ((fm f + 1 : Nat) : Int) := by
 obtain ⟨b1, b2, b3, b4, b5⟩ := eP f
 rw [cZ] <;> omega
theorem step_es (f : Int) : shl .u64 1 ((fm f + 1 : Nat) : Int) = ((2 ^ (fm f + 1) : Nat) : Int) := by
 obtain ⟨b1, b2, b3, b4, b5⟩ := eP f
 have h31 := eZ (show fm f + 1 ≤ 31 by omega)
 rw [show (1 : Int) = ((1 : Nat) : Int) from rfl, kX, Nat.one_mul, Nat.mod_eq_of_lt (by omega)]
theorem step_e8 (f : Int) (U : Nat) (h : U ≤ 10200) : wrap64 (dM f - (fm f : Int) + (U : Int) + 1) = dM f - (fm f : Int) + ((U + 1 : Nat) : Int) := by
 obtain ⟨b1, b2, b3, b4, b5⟩ := eP f
 have hl := iJ f
 rw [cZ] <;> omega
theorem step_e9 (f : Int) : (((2 ^ (fm f + 1) : Nat) : Int)) / 2 = ((2 ^ fm f : Nat) : Int) := by
 have hsucc : 2 ^ (fm f + 1) = 2 * 2 ^ fm f := by rw [Nat.pow_succ, Nat.mul_comm]
 omega
theorem step_lt (f : Int) : 2 ^ fm f < 2 ^ (fm f + 1) := Nat.pow_lt_pow_right (by decide) (Nat.lt_succ_self _)
theorem step_key (U m q : Nat) (h : q = 2 * m) : (U + 1) * m + m = U * m + q := by rw [Nat.add_mul]; omega
theorem step_q {a b : Nat} (h : a ≤ b) (h' : ¬ a = b) : a < b := by omega
theorem step_i {a b : Nat} (h' : ¬ a = b) : ¬ ((a : Int) = (b : Int)) := by omega
theorem step_n {m : Nat} : (0 : Int) ≤ (m : Int) := by omega
theorem pQ (f mode : Int) (neg : Bool) (x : Int) (s : Nat) (more : Bool) (hs : s < 18446744073709551616) :
  Ev (fun k => aA.f k f mode neg x (s : Int) more) ((gB f mode neg (lW x) s more : Int), false, false, lZ f mode neg (lW x) s more) := by
 unfold aA.f
 have hc : mn (mx x (-10000)) 10000 = lW x := rfl
 obtain ⟨h1, h2⟩ := qH x
 rw [hc]
 generalize lW x = x at *
 have hll := wW s (dU f x s - x) more
 by_cases z : s = 0 ∧ more = false
 ·obtain ⟨rfl, rfl⟩ := z
  simp only [if_pos (show ((0 : Nat) : Int) = 0 from rfl)]
  refine Ev.step (fun k => by rw [aA.j0]) ?_
  simp only [Bool.not_false, if_true, kE, Option.bind_some]
  have h := pack_f 0 f mode neg x 0 false (by decide)
  rw [iX x h1 h2] at h
  unfold aC.f at h
  rw [if_pos (by rfl), show mn (mx x (-10000)) 10000 = x from iX x h1 h2, aC.j0] at h
  simp only [Bool.not_false, if_true, wD, Option.bind_some] at h
  rw [← Option.some.inj h]
  exact Ev.now _
 ·have hj : ∀ k, (if (s : Int) = 0 then aA.j0 k f mode neg x (s : Int) more (!more) else aA.j0 k f mode neg x (s : Int) more false) = aA.j0 k f mode neg x (s : Int) more false := by
   intro k
   by_cases c : (s : Int) = 0
   ·rw [if_pos c]
    cases more
    ·exact absurd ⟨by omega, rfl⟩ z
    ·rfl
   ·rw [if_neg c]
  refine Ev.congr hj ?_
  obtain ⟨u1, u2, u3⟩ := uY f x s hs h1 h2
  obtain ⟨q1, q2⟩ := oQ f x s
  obtain ⟨b1, b2, b3, b4, b5⟩ := eP f
  have hl := iJ f
  have hn := oU s hs
  have h31 := eZ (show fm f + 1 ≤ 31 by omega)
  have hp := Nat.two_pow_pos (fm f)
  have hsucc : 2 ^ (fm f + 1) = 2 * 2 ^ fm f := by rw [Nat.pow_succ, Nat.mul_comm]
  have hq64 : iM s (dU f x s - x) < 18446744073709551616 := by omega
  have hd : dU f x s - x ≤ 0 → s * 2 ^ (-(dU f x s - x)).toNat < 18446744073709551616 := by
   intro h; have := hq64; unfold iM at this; rw [if_pos h] at this; exact this
  have hE : ∃ e : Int, (∀ k, (if (s : Int) = 0 then aA.j1 k f mode neg x (s : Int) more (fm f : Int) (dM f) (-20000) else aA.j1 k f mode neg x (s : Int) more (fm f : Int) (dM f) (wrap64 (wrap64 (x + (iA s : Int)) - 1))) = aA.j1 k f mode neg x (s : Int) more (fm f : Int) (dM f) e) ∧ wrap64 (mx e (dM f) - (fm f : Int)) = dU f x s ∧ (decide (e < dM f) = (decide (s = 0) || decide (x + iA s - 1 < dM f))) := by
   by_cases c : s = 0
   ·subst c
    refine ⟨-20000, fun k => by rw [if_pos (show ((0 : Nat) : Int) = 0 from rfl)], ?_, ?_⟩
    ·have : gV f x 0 = 0 := by unfold gV; rw [if_pos rfl]
     have hm : mx (-20000) (dM f) = dM f := by unfold mx; split <;> omega
     rw [hm]
     unfold dU; rw [this, cZ _ (by omega) (by omega)]; omega
    ·rw [decide_eq_true (by omega)]; simp
   ·have e1 : wrap64 (wrap64 (x + (iA s : Int)) - 1) = x + iA s - 1 := by
     rw [cZ (x + _) (by omega) (by omega), cZ _ (by omega) (by omega)]
    refine ⟨x + iA s - 1, fun k => by rw [if_neg (by omega), e1], ?_, ?_⟩
    ·have hr : gV f x s = (x + iA s - 1 - dM f).toNat := by unfold gV; rw [if_neg c]
     unfold dU mx
     split
     ·rw [cZ _ (by omega) (by omega)]; omega
     ·rw [cZ _ (by omega) (by omega)]; omega
    ·rw [decide_eq_false c, Bool.false_or]
  obtain ⟨e, he1, he2, he3⟩ := hE
  refine Ev.step (fun k => by rw [aA.j0]) ?_
  simp only [Bool.false_eq_true, if_false, fU, rC, Option.bind_some]
  refine Ev.bind (qX s hs) ?_
  rw [show (1 : Int) - (1 - dM f) = dM f by omega, cZ (dM f) (by omega) (by omega)]
  refine Ev.congr he1 ?_
  refine Ev.step (fun k => by rw [aA.j1]) ?_
  rw [he2, cZ (dU f x s - x) (by omega) (by omega)]
  refine Ev.bind (xL s hs _ (by omega) (by omega) hd) ?_
  have hlm : gD s (dU f x s - x) false ≤ 3 := wW s _ false
  have hcol : ∀ k (r : Option (Int × Bool × Bool × Bool × Bool × Bool)), aA.j2 k f mode neg (fm f : Int) (dM f) e (dU f x s) (iM s (dU f x s - x) : Int) (decide (2 ≤ gD s (dU f x s - x) more)) (decide (gD s (dU f x s - x) more = 1 ∨ gD s (dU f x s - x) more = 3)) = r →
    (if decide (gD s (dU f x s - x) false = 1 ∨ gD s (dU f x s - x) false = 3) = true then aA.j2 k f mode neg (fm f : Int) (dM f) e (dU f x s) (iM s (dU f x s - x) : Int) (decide (2 ≤ gD s (dU f x s - x) false)) true else aA.j2 k f mode neg (fm f : Int) (dM f) e (dU f x s) (iM s (dU f x s - x) : Int) (decide (2 ≤ gD s (dU f x s - x) false)) more) = r := by
   intro k r h
   cases more
   ·by_cases c : gD s (dU f x s - x) false = 1 ∨ gD s (dU f x s - x) false = 3
    ·rw [decide_eq_true c] at h ⊢; rw [if_pos rfl]; exact h
    ·rw [decide_eq_false c] at h ⊢; rw [if_neg (by decide)]; exact h
   ·obtain ⟨m1, m2⟩ := aCU s (dU f x s - x)
    rw [decide_eq_true m2, m1] at h
    split <;> exact h
  refine Ev.congr (fun k => hcol k _ rfl) ?_
  generalize hL : gD s (dU f x s - x) more = L at *
  refine Ev.step (fun k => by rw [aA.j2]) ?_
  have hinx : decide (L ≠ 0) = kY f x s more := by unfold kY; rw [hL]
  have h2 : ∀ k, (if decide (2 ≤ L) = true then aA.j3 k f mode neg (fm f : Int) (dM f) e (dU f x s) (iM s (dU f x s - x) : Int) (decide (2 ≤ L)) (decide (L = 1 ∨ L = 3)) true else aA.j3 k f mode neg (fm f : Int) (dM f) e (dU f x s) (iM s (dU f x s - x) : Int) (decide (2 ≤ L)) (decide (L = 1 ∨ L = 3)) (decide (L = 1 ∨ L = 3))) = aA.j3 k f mode neg (fm f : Int) (dM f) e (dU f x s) (iM s (dU f x s - x) : Int) (decide (2 ≤ L)) (decide (L = 1 ∨ L = 3)) (kY f x s more) := by
   intro k
   rw [← hinx]
   have : L = 0 ∨ L = 1 ∨ L = 2 ∨ L = 3 := by omega
   rcases this with h | h | h | h <;> subst h <;> rfl
  refine Ev.congr h2 ?_
  refine Ev.step (fun k => by rw [aA.j3]) ?_
  have hodd : ((Go.bits .and .u64 (iM s (dU f x s - x) : Int) 1 == 1) : Bool) = decide (iM s (dU f x s - x) % 2 = 1) := by
   rw [qC _ hq64, show (1 : Int) = ((1 : Nat) : Int) from rfl, oI]
  simp only [hodd, ref_up_f mode neg _ L hll, Option.bind_some]
  have hK : pO f mode neg x s more = gV f x s * 2 ^ fm f + (iM s (dU f x s - x) + (if upN mode neg (iM s (dU f x s - x)) L then 1 else 0)) := by
   unfold pO; rw [hL, Nat.add_assoc]
  have h3 : ∀ k, (if upN mode neg (iM s (dU f x s - x)) L = true then aA.j4 k f mode neg (fm f : Int) (dM f) e (dU f x s) (IntKind.u64.wrap ((iM s (dU f x s - x) : Int) + 1)) (kY f x s more) else aA.j4 k f mode neg (fm f : Int) (dM f) e (dU f x s) (iM s (dU f x s - x) : Int) (kY f x s more)) = aA.j4 k f mode neg (fm f : Int) (dM f) e (dU f x s) ((iM s (dU f x s - x) + (if upN mode neg (iM s (dU f x s - x)) L then 1 else 0) : Nat) : Int) (kY f x s more) := by
   intro k
   by_cases c : upN mode neg (iM s (dU f x s - x)) L = true
   ·rw [if_pos c, if_pos c, show (iM s (dU f x s - x) : Int) + 1 = ((iM s (dU f x s - x) + 1 : Nat) : Int) by omega, gL _ (by omega)]
   ·rw [if_neg c, if_neg c, Nat.add_zero]
  refine Ev.congr h3 ?_
  have hqn : iM s (dU f x s - x) + (if upN mode neg (iM s (dU f x s - x)) L then 1 else 0) ≤ 2 ^ (fm f + 1) := by split <;> omega
  have hqm : gV f x s ≠ 0 → 2 ^ fm f ≤ iM s (dU f x s - x) + (if upN mode neg (iM s (dU f x s - x)) L then 1 else 0) := fun h => Nat.le_trans (q2 h) (Nat.le_add_right _ _)
  generalize iM s (dU f x s - x) + (if upN mode neg (iM s (dU f x s - x)) L then 1 else 0) = Q at *
  have hun : dU f x s = dM f - fm f + (gV f x s : Nat) := rfl
  rw [hun]
  have ew := step_ew f
  have es := step_es f
  have e8 := step_e8 f _ u3
  have e9 := step_e9 f
  have fin : ∀ r : Int × Bool × Bool × Bool × Bool × Bool, r = ((((if iZ f (pO f mode neg x s more) then (if jM mode neg then gN f * 2 ^ fm f else gN f * 2 ^ fm f - 1) else pO f mode neg x s more) + eQ f neg : Nat) : Int), if iZ f (pO f mode neg x s more) then (false, false, true, false, true) else (false, false, false, mD f x s more, kY f x s more)) → r = ((gB f mode neg x s more : Int), false, false, lZ f mode neg x s more) := by
   intro r hr
   rw [hr]
   unfold gB lZ
   split <;> rfl
  have hund : mD f x s more = (kY f x s more && decide (e < dM f)) := by unfold mD; rw [he3]
  refine Ev.step (fun k => by rw [aA.j4]) ?_
  simp only [ew, es, e8, if_pos (step_n (m := fm f + 1))]
  by_cases cQ : Q = 2 ^ (fm f + 1)
  ·have g := fun k c3 => uH k f mode neg (2 ^ fm f) (gV f x s + 1) (Nat.le_trans (Nat.succ_le_succ u3) (by decide)) (step_lt f) (fun _ => Nat.le_refl _) (pO f mode neg x s more) (by rw [hK]; exact (step_key _ _ _ (cQ.trans hsucc)).symm) false false false c3 (kY f x s more)
   simp only [cQ, if_true, e9]
   by_cases ci : kY f x s more = true
   ·simp only [ci, if_true] at g ⊢
    rw [ci, Bool.true_and] at hund
    rw [← fin _ rfl, hund, ci]
    exact ⟨2, fun n hn => by obtain ⟨m, rfl⟩ : ∃ m, n = m + 2 := ⟨n - 2, by omega⟩; exact (g m _).1⟩
   ·rw [Bool.not_eq_true] at ci
    simp only [ci, Bool.false_eq_true, if_false] at g ⊢
    rw [ci, Bool.false_and] at hund
    rw [← fin _ rfl, hund, ci]
    exact ⟨2, fun n hn => by obtain ⟨m, rfl⟩ : ∃ m, n = m + 2 := ⟨n - 2, by omega⟩; exact (g m _).2⟩
  ·have g := fun k c3 => uH k f mode neg Q (gV f x s) (Nat.le_trans u3 (by decide)) (step_q hqn cQ) hqm (pO f mode neg x s more) hK false false false c3 (kY f x s more)
   have cQ' : ¬ ((Q : Int) = ((2 ^ (fm f + 1) : Nat) : Int)) := step_i cQ
   simp only [cQ', if_false]
   by_cases ci : kY f x s more = true
   ·simp only [ci, if_true] at g ⊢
    rw [ci, Bool.true_and] at hund
    rw [← fin _ rfl, hund, ci]
    exact ⟨2, fun n hn => by obtain ⟨m, rfl⟩ : ∃ m, n = m + 2 := ⟨n - 2, by omega⟩; exact (g m _).1⟩
   ·rw [Bool.not_eq_true] at ci
    simp only [ci, Bool.false_eq_true, if_false] at g ⊢
    rw [ci, Bool.false_and] at hund
    rw [← fin _ rfl, hund, ci]
    exact ⟨2, fun n hn => by obtain ⟨m, rfl⟩ : ∃ m, n = m + 2 := ⟨n - 2, by omega⟩; exact (g m _).2⟩
def yS (f : Int) : Nat := gN f / 2
theorem qA (f : Int) : fe f = 5 ∧ fm f = 10 ∧ yS f = 15 ∧ dM f = -14 ∧ gN f = 31 ∨ fe f = 8 ∧ fm f = 7 ∧ yS f = 127 ∧ dM f = -126 ∧ gN f = 255 ∨ fe f = 8 ∧ fm f = 23 ∧ yS f = 127 ∧ dM f = -126 ∧ gN f = 255 := by
 unfold yS gN dM
 rcases uM f with ⟨h1, h2⟩ | ⟨h1, h2⟩ | ⟨h1, h2⟩ <;> rw [h1, h2] <;> simp
theorem mild_shl (f : Int) : shl .u32 4 (fm f : Int) = ((4 * 2 ^ fm f : Nat) : Int) ∧ shl .u32 2 (fm f : Int) = ((2 * 2 ^ fm f : Nat) : Int) ∧
  shl .u32 ((((shl .u32 1 (fe f : Int)) - 1) % 4294967296) / 2) (fm f : Int) = ((yS f * 2 ^ fm f : Nat) : Int) := by
 rcases qA f with ⟨h1, h2, h3, _⟩ | ⟨h1, h2, h3, _⟩ | ⟨h1, h2, h3, _⟩ <;> rw [h1, h2, h3] <;> decide
theorem aA4 (f : Int) : 4 * 2 ^ fm f + yS f * 2 ^ fm f < 2 ^ (fe f + fm f) ∧ 2 * 2 ^ fm f ≤ yS f * 2 ^ fm f := by
 rcases qA f with ⟨h1, h2, h3, _⟩ | ⟨h1, h2, h3, _⟩ | ⟨h1, h2, h3, _⟩ <;> rw [h1, h2, h3] <;> decide
theorem aBy (O P a : Nat) (h : 2 * P ≤ O) (hO : O + 4 * P < 2147483648) (hP : 0 < P) : ((((O : Nat) : Int) - ((2 * P : Nat) : Int)) % 4294967296 + Int.tmod ((a : Int) / 8) ((4 * P : Nat) : Int)) % 4294967296 = ((O - 2 * P + a / 8 % (4 * P) : Nat) : Int) := by
 have e : Int.tmod ((a : Int) / 8) ((4 * P : Nat) : Int) = ((a / 8 % (4 * P) : Nat) : Int) := by
  rw [show (a : Int) / 8 = ((a / 8 : Nat) : Int) from rfl, Int.tmod_eq_emod_of_nonneg (Int.natCast_nonneg _)]; rfl
 have hm := Nat.mod_lt (a / 8) (show 4 * P > 0 by omega)
 rw [e]
 generalize a / 8 % (4 * P) = m at *
 omega
theorem or_sign (f : Int) (m : Nat) (h : m < 2 ^ (fe f + fm f)) : Go.bits .or .u32 (m : Int) (eQ f true : Int) = ((m + eQ f true : Nat) : Int) := by
 have hb := eP f
 have h31 := eZ (show fe f + fm f ≤ 31 by omega)
 have hs : eQ f true = 2 ^ (fe f + fm f) := rfl
 rw [qB m _ (by omega) (by omega), Nat.or_comm, nO _ _ (fe f + fm f) (by rw [hs, Nat.mod_self]) h, Nat.add_comm]
theorem mild_f (f : Int) (a : Nat) (ha : a < 4294967296) : ∃ m : Nat, ∃ neg : Bool, bX.f f (a : Int) = some ((m + eQ f neg : Nat) : Int) ∧ (m = 0 ∧ neg = false ∨ (yS f - 2) * 2 ^ fm f ≤ m ∧ m < (yS f + 2) * 2 ^ fm f) := by
 unfold bX.f
 by_cases c : Int.tmod (a : Int) 7 = 0
 ·rw [if_pos c]
  exact ⟨0, false, rfl, .inl ⟨rfl, rfl⟩⟩
 ·rw [if_neg c, fU, Option.bind_some]
  dsimp only
  obtain ⟨s1, s2, s3⟩ := mild_shl f
  obtain ⟨r1, r2⟩ := aA4 f
  have hb := eP f
  have h31 := eZ (show fe f + fm f ≤ 31 by omega)
  have hp := Nat.two_pow_pos (fm f)
  rw [s1, s2, s3, if_pos (Int.natCast_nonneg _), if_pos (Int.natCast_nonneg _), if_neg (by omega), aBy _ _ _ r2 (by omega) hp]
  have hm := Nat.mod_lt (a / 8) (show 4 * 2 ^ fm f > 0 by omega)
  have h2 : (yS f - 2) * 2 ^ fm f = yS f * 2 ^ fm f - 2 * 2 ^ fm f := Nat.sub_mul _ _ _
  have h3 : (yS f + 2) * 2 ^ fm f = yS f * 2 ^ fm f + 2 * 2 ^ fm f := Nat.add_mul _ _ _
  generalize hM : yS f * 2 ^ fm f - 2 * 2 ^ fm f + a / 8 % (4 * 2 ^ fm f) = m at *
  by_cases d : Go.bits .and .u32 (a : Int) 1 = 1
  ·rw [if_pos d, kE, Option.bind_some, or_sign f m (by omega)]
   exact ⟨m, true, rfl, .inr ⟨by omega, by omega⟩⟩
  ·rw [if_neg d]
   exact ⟨m, false, rfl, .inr ⟨by omega, by omega⟩⟩
theorem nY (f mode : Int) (neg : Bool) (x : Int) (s j : Nat) : gB f mode neg x (s * 2 ^ j) false = gB f mode neg (x + j) s false ∧ lZ f mode neg x (s * 2 ^ j) false = lZ f mode neg (x + j) s false := by
 have hk := aB4 f mode neg x s j
 have hr := wB f x s j
 have hu : dU f x (s * 2 ^ j) = dU f (x + j) s := by unfold dU; rw [hr]
 have hl := (yM s j (dU f (x + j) s - x)).2
 rw [show dU f (x + j) s - x - j = dU f (x + j) s - (x + j) by omega] at hl
 have hi : kY f x (s * 2 ^ j) false = kY f (x + j) s false := by unfold kY; rw [hu, hl]
 have hun : mD f x (s * 2 ^ j) false = mD f (x + j) s false := by
  unfold mD
  rw [hi]
  congr 1
  by_cases c : s = 0
  ·subst c; simp
  ·rw [decide_eq_false c, decide_eq_false (Nat.mul_ne_zero c (Nat.ne_of_gt (Nat.two_pow_pos j))), tH s j c]
   congr 1; apply decide_eq_decide.mpr; omega
 unfold gB lZ
 rw [hk, hi, hun]; exact ⟨rfl, rfl⟩
theorem sP (f : Int) (b : Bool) : cO f (eQ f b) = 0 ∧ dO f (eQ f b) = b ∧ eQ f b < 4294967296 := by
 have hb := eP f
 have h31 := eZ (show fe f + fm f ≤ 31 by omega)
 have hp := Nat.two_pow_pos (fm f)
 obtain ⟨p1, p2, p3⟩ := lK f 0 b (Nat.two_pow_pos _)
 obtain ⟨q1, q2⟩ := pY f (0 + eQ f b)
 rw [p2] at q1 q2
 rw [Nat.zero_add] at *
 refine ⟨?_, p1, ?_⟩
 ·unfold cO; rw [← q1, ← q2, Nat.zero_div, Nat.zero_mod]; rfl
 ·unfold eQ; split <;> omega
theorem inf_all (f : Int) (b : Bool) : cO f (oW f b) = 3 ∧ dO f (oW f b) = b ∧ oW f b < 4294967296 := by
 obtain ⟨i1, i2⟩ := wP f
 obtain ⟨p1, p2, p3⟩ := lK f (vB f) b i1
 exact ⟨aBU f _ p2, p1, (l9 f b).1⟩
theorem nP (f : Int) : pU f < 4294967296 := by
 unfold pU gN
 rcases uM f with ⟨h1, h2⟩ | ⟨h1, h2⟩ | ⟨h1, h2⟩ <;> rw [h1, h2] <;> decide
theorem uJ (f mode : Int) (neg : Bool) (x : Int) (a : Nat) (more : Bool) : gB f mode neg x a more < 4294967296 := by
 obtain ⟨_, hi⟩ := l9 f false
 have hp := Nat.two_pow_pos (fm f)
 have hb := eP f
 have h32 := nK (show fe f + fm f + 1 ≤ 32 by omega)
 have hs : 2 ^ (fe f + fm f + 1) = 2 * 2 ^ (fe f + fm f) := by rw [Nat.pow_succ, Nat.mul_comm]
 have hn : eQ f neg ≤ 2 ^ (fe f + fm f) := by unfold eQ; split <;> omega
 unfold gB iZ
 generalize pO f mode neg x a more = K at *
 generalize gN f * 2 ^ fm f = T at *
 by_cases c : T ≤ K
 ·cases jM mode neg <;> simp [c] <;> omega
 ·simp [c]; omega
theorem zH (f : Int) (b : Bool) : eQ f b < 4294967296 := (sP f b).2.2
theorem vW (f mode : Int) (a b : Bool) (r : Bool × Int × Nat × Bool) : fP f mode a b r < 4294967296 := by
 unfold fP lY
 split
 ·split <;> exact zH f _
 ·exact uJ f mode _ _ _ _
theorem mul_32 (f mode : Int) (a b : Nat) : mulN f mode a b < 4294967296 := by
 unfold mulN
 split
 ·exact nP f
 ·split
  ·exact nP f
  ·split
   ·exact (l9 f _).1
   ·exact uJ f mode _ _ _ _
theorem yF (f mode : Int) (a b : Nat) : pV f mode a b < 4294967296 := by
 unfold pV
 split
 ·exact nP f
 ·split
  ·exact nP f
  ·split
   ·exact (l9 f _).1
   ·split
    ·exact (l9 f _).1
    ·exact vW f mode _ _ _
theorem aBX (f mode : Int) (a b c : Nat) : uK f mode a b c < 4294967296 := by
 unfold uK
 split
 ·exact nP f
 ·split
  ·exact nP f
  ·split
   ·split
    ·exact nP f
    ·exact (l9 f _).1
   ·split
    ·exact (l9 f _).1
    ·exact vW f mode _ _ _
theorem div_32 (f mode : Int) (a b : Nat) : divN f mode a b < 4294967296 := by
 unfold divN ratioN
 split
 ·exact nP f
 ·split
  ·exact nP f
  ·split
   ·exact (l9 f _).1
   ·split
    ·exact zH f _
    ·split
     ·exact (l9 f _).1
     ·exact uJ f mode _ _ _ _
end Round
namespace P
attribute [local go_sem] max2_int min2_int max_two min_two max_three min_three max_four min_four
def eY.f (k : Nat) (a0 a1 a2 : Int) : Option (Int × Bool × Bool × Bool × Bool × Bool) := (bH.f k a0 (([a2] : List Int))).bind fun bt195 => (if bt195.2.2.2.2.2.2 = true then (some (bt195.1, bt195.2.1, bt195.2.2.1, bt195.2.2.2.1, bt195.2.2.2.2.1, bt195.2.2.2.2.2.1)) else ((fJ.f a0 a2).bind fun bt203 => ((bM.f k a0 a2).bind fun t208 => (if t208 = true then ((eF.f a0 bt203.1).bind fun t209 => (some (t209, false, false, false, false, false))) else (if bt203.1 = true then ((fM.f a0).bind fun bt210 => (some (bt210.1, bt210.2.1, bt210.2.2.1, bt210.2.2.2.1, bt210.2.2.2.2.1, bt210.2.2.2.2.2))) else ((aW.f k a0 a2).bind fun t216 => (if t216 = true then ((dQ.f a0 false).bind fun t217 => (some (t217, false, false, false, false, false))) else ((bits_Len.f k bt203.2.2.1).bind fun t218 => (if (Int.tmod (wrap64 (bt203.2.1 - (wrap64 (62 - t218)))) 2) = 0 then ((aR.f k bt203.2.2.1 (wrap64 (-(wrap64 (62 - t218))))).bind fun bt219 => ((dZ.f k bt219.1).bind fun bt221 => ((aC.f k a0 a1 false (wrap64 (Int.tdiv (wrap64 (bt203.2.1 - (wrap64 (62 - t218)))) 2)) (IntKind.u64.wrap (bt221.1)) (!bt221.2)).bind fun bt223 => (some (bt223.1, bt223.2.1, bt223.2.2.1, bt223.2.2.2.1, bt223.2.2.2.2.1, bt223.2.2.2.2.2))))) else ((aR.f k bt203.2.2.1 (wrap64 (-(wrap64 ((wrap64 (62 - t218)) - 1))))).bind fun bt229 => ((dZ.f k bt229.1).bind fun bt231 => ((aC.f k a0 a1 false (wrap64 (Int.tdiv (wrap64 (bt203.2.1 - (wrap64 ((wrap64 (62 - t218)) - 1)))) 2)) (IntKind.u64.wrap (bt231.1)) (!bt231.2)).bind fun bt233 => (some (bt233.1, bt233.2.1, bt233.2.2.1, bt233.2.2.2.1, bt233.2.2.2.2.1, bt233.2.2.2.2.2))))))))))))))
end P
namespace L
open P Ek
def bV.cls : Cls := [(144, aR.c)]
theorem bV.fE : bR Tryz.prog bV.cls := bR.cons aR.ok (bR.nil)
def bV.K (v : SV) : Option (Int × Int) := (iL [hI .u64, hI .i64] v).map (fun z => (z.1.1, z.2.1.1))
def bV.cuts : List Nat := []
def bV.f (k : Nat) (a0 a1 : Int) (a2 : Bool) : Option (Int × Int) := evF Tryz.prog bV.cls Tryz.f151 bV.cuts k [.one (.i .u64 (.x a0)), .one (.i .i64 (.x a1)), .one (.b (.q a2))] bV.K
def bV.c : Fc := gZ [hI .u64, hI .i64, hB] [hI .u64, hI .i64] (T := Int × Int) (fun y => ((y.1, ()), (y.2, ()), ())) fun n x => bV.f n x.1.1 x.2.1.1 x.2.2.1.1
theorem bV.ok : gW Tryz.prog 151 bV.c := nR bV.fE Tryz.func151 kr kr (by decide) (fun _ => rfl) (fun _ _ => rfl)
def fJ.c : Fc := gZ [hI .i64, hI .u32] [.agg [.b, .i .i64, .i .u64, .b]] (T := Bool × Int × Int × Bool) (fun y => ((y.1, y.2.1, y.2.2.1, y.2.2.2, ()), ())) fun n x => fJ.f x.1.1 x.2.1.1
theorem fJ.ok : gW Tryz.prog 137 fJ.c := fG Tryz.func137 kr kr (by decide) (fun _ => dW (by decide) _) fun n x y h m w => (fJ.calls x.1.1 x.2.1.1 y.1 y.2.1 y.2.2.1 y.2.2.2 w h).mono fun e w' he => ⟨he.1, he.2⟩
def cB.cls : Cls := [(137, fJ.c)]
theorem cB.fE : bR Tryz.prog cB.cls := bR.cons fJ.ok (bR.nil)
def cB.K (v : SV) : Option (Bool × Int × Int × Bool) := (iL [.agg [.b, .i .i64, .i .u64, .b]] v).map (fun z => (z.1.1, z.1.2.1, z.1.2.2.1, z.1.2.2.2.1))
def cB.cuts : List Nat := []
def cB.f (k : Nat) (a0 a1 a2 : Int) : Option (Bool × Int × Int × Bool) := evF Tryz.prog cB.cls Tryz.f159 cB.cuts k [.one (.i .i64 (.x a0)), .one (.i .u32 (.x a1)), .one (.i .u32 (.x a2))] cB.K
def cB.c : Fc := gZ [hI .i64, hI .u32, hI .u32] [.agg [.b, .i .i64, .i .u64, .b]] (T := Bool × Int × Int × Bool) (fun y => ((y.1, y.2.1, y.2.2.1, y.2.2.2, ()), ())) fun n x => cB.f n x.1.1 x.2.1.1 x.2.2.1.1
theorem cB.ok : gW Tryz.prog 159 cB.c := nR cB.fE Tryz.func159 kr kr (by decide) (fun _ => rfl) (fun _ _ => rfl)
def bits_Len.c : Fc := gZ [hI .u64] [hI .i64] (T := Int) (fun y => ((y, ()), ())) fun n x => bits_Len.f n x.1.1
theorem bits_Len.ok : gW Tryz.prog 143 bits_Len.c := fG Tryz.func143 kr kr (by decide) (fun _ => dW (by decide) _) fun n x y h m w => (bits_Len.calls n x.1.1 y w h).mono fun e w' he => ⟨he.1, he.2.below⟩
def eX.cls : Cls := [(143, bits_Len.c), (144, aR.c)]
theorem eX.fE : bR Tryz.prog eX.cls := bR.cons bits_Len.ok (bR.cons aR.ok (bR.nil))
def eX.K (v : SV) : Option (Bool × Int × Int × Bool) := (iL [.agg [.b, .i .i64, .i .u64, .b]] v).map (fun z => (z.1.1, z.1.2.1, z.1.2.2.1, z.1.2.2.2.1))
def eX.cuts : List Nat := []
def eX.f (k : Nat) (a0_0 : Bool) (a0_1 a0_2 : Int) (a0_3 : Bool) : Option (Bool × Int × Int × Bool) := evF Tryz.prog eX.cls Tryz.f175 eX.cuts k [.agg [cb a0_0, ci .i64 a0_1, ci .u64 a0_2, cb a0_3]] eX.K
def eX.c : Fc := gZ [.agg [.b, .i .i64, .i .u64, .b]] [.agg [.b, .i .i64, .i .u64, .b]] (T := Bool × Int × Int × Bool) (fun y => ((y.1, y.2.1, y.2.2.1, y.2.2.2, ()), ())) fun n x => eX.f n x.1.1 x.1.2.1 x.1.2.2.1 x.1.2.2.2.1
theorem eX.ok : gW Tryz.prog 175 eX.c := nR eX.fE Tryz.func175 kr kr (by decide) (fun _ => rfl) (fun _ _ => rfl)
def bB.cls : Cls := [(168, aD.c)]
theorem bB.fE : bR Tryz.prog bB.cls := bR.cons aD.ok (bR.nil)
def bB.K (v : SV) : Option (Int × Bool × Bool) := (iL [hI .u64, hB, hB] v).map (fun z => (z.1.1, z.2.1.1, z.2.2.1.1))
def bB.cuts : List Nat := []
def bB.f (k : Nat) (a0 a1 : Int) : Option (Int × Bool × Bool) := evF Tryz.prog bB.cls Tryz.f133 bB.cuts k [.one (.i .u64 (.x a0)), .one (.i .i64 (.x a1))] bB.K
def bB.c : Fc := gZ [hI .u64, hI .i64] [hI .u64, hB, hB] (T := Int × Bool × Bool) (fun y => ((y.1, ()), (y.2.1, ()), (y.2.2, ()), ())) fun n x => bB.f n x.1.1 x.2.1.1
theorem bB.ok : gW Tryz.prog 133 bB.c := nR bB.fE Tryz.func133 kr kr (by decide) (fun _ => rfl) (fun _ _ => rfl)
def eF.c : Fc := gZ [hI .i64, hB] [hI .u32] (T := Int) (fun y => ((y, ()), ())) fun n x => eF.f x.1.1 x.2.1.1
theorem eF.ok : gW Tryz.prog 139 eF.c := fG Tryz.func139 kr kr (by decide) (fun _ => dW (by decide) _) fun n x y h m w => (eF.calls x.1.1 x.2.1.1 y w h).mono fun e w' he => ⟨he.1, he.2.below⟩
def dP.c : Fc := gZ [hI .i64, hI .i64, hI .u64] [hI .i64] (T := Int) (fun y => ((y, ()), ())) fun n x => dP.f n x.1.1 x.2.1.1 x.2.2.1.1
theorem dP.ok : gW Tryz.prog 150 dP.c := fG Tryz.func150 kr kr (by decide) (fun _ => dW (by decide) _) fun n x y h m w => (dP.calls n x.1.1 x.2.1.1 x.2.2.1.1 y w h).mono fun e w' he => ⟨he.1, he.2⟩
def gJ.c : Fc := gZ [hI .u64, hI .i64] [hI .u64] (T := Int) (fun y => ((y, ()), ())) fun n x => gJ.f x.1.1 x.2.1.1
theorem gJ.ok : gW Tryz.prog 156 gJ.c := fG Tryz.func156 kr kr (by decide) (fun _ => dW (by decide) _) fun n x y h m w => (gJ.calls x.1.1 x.2.1.1 y w h).mono fun e w' he => ⟨he.1, he.2.below⟩
def dF.c : Fc := gZ [hI .i64, hB, hI .i64, hI .u32] [hI .u32] (T := Int) (fun y => ((y, ()), ())) fun n x => dF.f x.1.1 x.2.1.1 x.2.2.1.1 x.2.2.2.1.1
theorem dF.ok : gW Tryz.prog 155 dF.c := fG Tryz.func155 kr kr (by decide) (fun _ => dW (by decide) _) fun n x y h m w => (dF.calls x.1.1 x.2.1.1 x.2.2.1.1 x.2.2.2.1.1 y w h).mono fun e w' he => ⟨he.1, he.2.below⟩
def aC.cls : Cls := [(139, eF.c), (149, bJ.c), (150, dP.c), (151, bV.c), (152, eU.c), (153, dX.c), (116, dY.c), (154, dE.c), (143, bits_Len.c), (156, gJ.c), (155, dF.c)]
theorem aC.fE : bR Tryz.prog aC.cls := bR.cons eF.ok (bR.cons bJ.ok (bR.cons dP.ok (bR.cons bV.ok (bR.cons eU.ok (bR.cons dX.ok (bR.cons dY.ok (bR.cons dE.ok (bR.cons bits_Len.ok (bR.cons gJ.ok (bR.cons dF.ok (bR.nil)))))))))))
def aC.K (v : SV) : Option (Int × Bool × Bool × Bool × Bool × Bool) := (iL [hI .u32, .agg [.b, .b, .b, .b, .b]] v).map (fun z => (z.1.1, z.2.1.1, z.2.1.2.1, z.2.1.2.2.1, z.2.1.2.2.2.1, z.2.1.2.2.2.2.1))
def aC.cuts : List Nat := [3, 9, 11, 14]
def aC.f (k : Nat) (a0 a1 : Int) (a2 : Bool) (a3 a4 : Int) (a5 : Bool) : Option (Int × Bool × Bool × Bool × Bool × Bool) := evF Tryz.prog aC.cls Tryz.f104 aC.cuts k [.one (.i .i64 (.x a0)), .one (.i .i64 (.x a1)), .one (.b (.q a2)), .one (.i .i64 (.x a3)), .one (.i .u64 (.x a4)), .one (.b (.q a5))] aC.K
def aC.c : Fc := gZ [hI .i64, hI .i64, hB, hI .i64, hI .u64, hB] [hI .u32, .agg [.b, .b, .b, .b, .b]] (T := Int × Bool × Bool × Bool × Bool × Bool) (fun y => ((y.1, ()), (y.2.1, y.2.2.1, y.2.2.2.1, y.2.2.2.2.1, y.2.2.2.2.2, ()), ())) fun n x => aC.f n x.1.1 x.2.1.1 x.2.2.1.1 x.2.2.2.1.1 x.2.2.2.2.1.1 x.2.2.2.2.2.1.1
theorem aC.ok : gW Tryz.prog 104 aC.c := nR aC.fE Tryz.func104 kr kr (by decide) (fun _ => rfl) (fun _ _ => rfl)
def aU.cls : Cls := [(175, eX.c), (144, aR.c)]
theorem aU.fE : bR Tryz.prog aU.cls := bR.cons eX.ok (bR.cons aR.ok (bR.nil))
def aU.K (v : SV) : Option (Bool × Int × Int × Bool) := (iL [.agg [.b, .i .i64, .i .u64, .b]] v).map (fun z => (z.1.1, z.1.2.1, z.1.2.2.1, z.1.2.2.2.1))
def aU.cuts : List Nat := [7, 8, 16]
def aU.f (k : Nat) (a0_0 : Bool) (a0_1 a0_2 : Int) (a0_3 a1_0 : Bool) (a1_1 a1_2 : Int) (a1_3 : Bool) : Option (Bool × Int × Int × Bool) := evF Tryz.prog aU.cls Tryz.f162 aU.cuts k [.agg [cb a0_0, ci .i64 a0_1, ci .u64 a0_2, cb a0_3], .agg [cb a1_0, ci .i64 a1_1, ci .u64 a1_2, cb a1_3]] aU.K
def aU.c : Fc := gZ [.agg [.b, .i .i64, .i .u64, .b], .agg [.b, .i .i64, .i .u64, .b]] [.agg [.b, .i .i64, .i .u64, .b]] (T := Bool × Int × Int × Bool) (fun y => ((y.1, y.2.1, y.2.2.1, y.2.2.2, ()), ())) fun n x => aU.f n x.1.1 x.1.2.1 x.1.2.2.1 x.1.2.2.2.1 x.2.1.1 x.2.1.2.1 x.2.1.2.2.1 x.2.1.2.2.2.1
theorem aU.ok : gW Tryz.prog 162 aU.c := nR aU.fE Tryz.func162 kr kr (by decide) (fun _ => rfl) (fun _ _ => rfl)
def bL.c : Fc := gZ [hI .i64] [hI .i64] (T := Int) (fun y => ((y, ()), ())) fun n x => bL.f x.1.1
theorem bL.ok : gW Tryz.prog 127 bL.c := fG Tryz.func127 kr kr (by decide) (fun _ => dW (by decide) _) fun n x y h m w => (bL.calls x.1.1 y w h).mono fun e w' he => ⟨he.1, he.2.below⟩
def aX.c : Fc := gZ [hI .u64] [hI .i64] (T := Int) (fun y => ((y, ()), ())) fun n x => aX.f n x.1.1
theorem aX.ok : gW Tryz.prog 132 aX.c := fG Tryz.func132 kr kr (by decide) (fun _ => dW (by decide) _) fun n x y h m w => (aX.calls n x.1.1 y w h).mono fun e w' he => ⟨he.1, he.2.below⟩
def cK.c : Fc := gZ [hI .i64, hB] [hI .u32] (T := Int) (fun y => ((y, ()), ())) fun n x => cK.f x.1.1 x.2.1.1
theorem cK.ok : gW Tryz.prog 122 cK.c := fG Tryz.func122 kr kr (by decide) (fun _ => dW (by decide) _) fun n x y h m w => (cK.calls x.1.1 x.2.1.1 y w h).mono fun e w' he => ⟨he.1, he.2.below⟩
def aA.cls : Cls := [(91, bU.c), (125, aI.c), (127, bL.c), (132, aX.c), (133, bB.c), (134, bQ.c), (122, cK.c), (135, aK.c)]
theorem aA.fE : bR Tryz.prog aA.cls := bR.cons bU.ok (bR.cons aI.ok (bR.cons bL.ok (bR.cons aX.ok (bR.cons bB.ok (bR.cons bQ.ok (bR.cons cK.ok (bR.cons aK.ok (bR.nil))))))))
def aA.K (v : SV) : Option (Int × Bool × Bool × Bool × Bool × Bool) := (iL [hI .u32, .agg [.b, .b, .b, .b, .b]] v).map (fun z => (z.1.1, z.2.1.1, z.2.1.2.1, z.2.1.2.2.1, z.2.1.2.2.2.1, z.2.1.2.2.2.2.1))
def aA.cuts : List Nat := [3, 9, 12, 13, 15, 18]
def aA.f (k : Nat) (a0 a1 : Int) (a2 : Bool) (a3 a4 : Int) (a5 : Bool) : Option (Int × Bool × Bool × Bool × Bool × Bool) := evF Tryz.prog aA.cls Tryz.f97 aA.cuts k [.one (.i .i64 (.x a0)), .one (.i .i64 (.x a1)), .one (.b (.q a2)), .one (.i .i64 (.x a3)), .one (.i .u64 (.x a4)), .one (.b (.q a5))] aA.K
def aA.c : Fc := gZ [hI .i64, hI .i64, hB, hI .i64, hI .u64, hB] [hI .u32, .agg [.b, .b, .b, .b, .b]] (T := Int × Bool × Bool × Bool × Bool × Bool) (fun y => ((y.1, ()), (y.2.1, y.2.2.1, y.2.2.2.1, y.2.2.2.2.1, y.2.2.2.2.2, ()), ())) fun n x => aA.f n x.1.1 x.2.1.1 x.2.2.1.1 x.2.2.2.1.1 x.2.2.2.2.1.1 x.2.2.2.2.2.1.1
theorem aA.ok : gW Tryz.prog 97 aA.c := nR aA.fE Tryz.func97 kr kr (by decide) (fun _ => rfl) (fun _ _ => rfl)
end L
namespace P
attribute [local go_sem] max2_int min2_int max_two min_two max_three min_three max_four min_four
def bI.l0 : Nat → Int → Int → Int → Option (Int × Bool)
 |0, _, _, _ => none
 |k + 1, x0, x4, x5 => if x5 ≥ 0 then (if 0 ≤ x5 then (if (IntKind.u64.wrap ((Go.bits .or .u64 x4 (shl .u64 1 x5)) * (Go.bits .or .u64 x4 (shl .u64 1 x5)))) ≤ x0 then (bI.l0 k x0 (Go.bits .or .u64 x4 (shl .u64 1 x5)) (wrap64 (x5 - 1))) else (bI.l0 k x0 x4 (wrap64 (x5 - 1)))) else (none)) else (some ((x4) % 4294967296, ((IntKind.u64.wrap (x4 * x4)) == x0)))
def bI.f (k : Nat) (a0 : Int) : Option (Int × Bool) := bI.l0 k a0 0 31
theorem bI.gM : ∀ k, (∀ y0 y1 y2, LeO (bI.l0 k y0 y1 y2) (bI.l0 (k + 1) y0 y1 y2))
 |0 => fun _ _ _ r h => by simp [bI.l0] at h
 |k + 1 => by
  have ih0 := bI.gM k
  ·intro y0 y1 y2
   unfold bI.l0
   repeat' first
   |(with_reducible first|exact ih0 _ _ _|exact LeO.refl _|exact LeO.none _|refine LeO.ite ?_ ?_|refine LeO.bind ?_ (fun _ => ?_))
   |exact ih0 _ _ _
   |exact LeO.none _
   |refine LeO.ite ?_ ?_
   |refine LeO.bind ?_ (fun _ => ?_)
theorem bI.mono : ∀ a0 k, LeO (bI.f k a0) (bI.f (k + 1) a0) := by
 intro a0 k
 have ih0 := bI.gM k
 unfold bI.f
 repeat' first
   |(with_reducible first|exact ih0 _ _ _|exact LeO.refl _|exact LeO.none _|refine LeO.ite ?_ ?_|refine LeO.bind ?_ (fun _ => ?_))
   |exact ih0 _ _ _
   |exact LeO.none _
   |refine LeO.ite ?_ ?_
   |refine LeO.bind ?_ (fun _ => ?_)
set_option maxHeartbeats 8000000 in
set_option maxRecDepth 100000 in
theorem bI.calls (k : Nat) (a0 r1 : Int) (r2 : Bool) (w : World) (h : bI.f k a0 = some (r1, r2)) :
  Calls Tryz.prog 96 #[.int .u64 a0] w fun e w' => e = .returned (.tuple #[.int .u32 r1, .bool r2]) ∧ Drawn0 w w' := by
 have H : (bI.l0 k a0 0 31) = some (r1, r2) := h
 clear h
 have H' := Aside0.mk H
 clear H
 go_enter Tryz.func96, Tryz.ntmps96
 go_wp2
 go_loopg [4, 5] k (fun kq v4 v5 w' => ∃ (x4_1 : Int) (x5_1 : Int), v4 = .int .u64 x4_1 ∧ v5 = .int .i64 x5_1 ∧ Aside0 (bI.l0 kq a0 x4_1 x5_1 = some (r1, r2)) ∧ Aside0 (kq ≤ k) ∧ Drawn0 w w')
 case atStart => exact ⟨(0), (31), (gr_), (gr_), H', ⟨Nat.le_refl _⟩, gd_⟩
 case round =>
  clear H'
  obtain ⟨x4_1, x5_1, rfl, rfl, HA, HK1, ⟨m1, rfl⟩⟩ := hrel
  cases gk with
  |zero => exact absurd HA.out (by simp [bI.l0])
  |succ k1 =>
   have H := HA.out
   clear HA
   simp only [bI.l0] at H
   by_cases c2 : x5_1 ≥ 0
   ·rw [if_pos c2] at H
    have c2b0 : decide (0 ≤ x5_1) = true := decide_eq_true c2
    clear c2
    by_cases c3 : 0 ≤ x5_1
    ·rw [if_pos c3] at H
     have c3b0 := eq_true c3
     have c3b1 : decide (0 ≤ x5_1) = true := decide_eq_true c3
     clear c3
     obtain ⟨ji4, hji4⟩ : ∃ j_ : Int, (shl .u64 1 x5_1) = j_ := ⟨_, rfl⟩
     replace H : (if (IntKind.u64.wrap ((Go.bits .or .u64 x4_1 (ji4)) * (Go.bits .or .u64 x4_1 (ji4)))) ≤ a0 then (bI.l0 k1 a0 (Go.bits .or .u64 x4_1 (ji4)) (wrap64 (x5_1 - 1))) else (bI.l0 k1 a0 x4_1 (wrap64 (x5_1 - 1)))) = some (r1, r2) := by first | (rw [hji4] at H; exact H) | (simp only [hji4] at H ⊢; exact H)
     have hji4_ : (IntKind.u64.wrap (1 * 2 ^ min x5_1.toNat 64)) = ji4 := hji4
     have hji4z : x5_1 ≤ 64 → (IntKind.u64.wrap (1 * 2 ^ x5_1.toNat)) = ji4 := shl_small hji4
     have hji4u : (IntKind.u64.wrap (2 ^ min x5_1.toNat 64)) = ji4 := by have h_ := hji4_; rw [Int.one_mul] at h_; exact h_
     have hji4v : x5_1 ≤ 64 → (IntKind.u64.wrap (2 ^ x5_1.toNat)) = ji4 := fun hle_ => by have h_ := hji4z hle_; rw [Int.one_mul] at h_; exact h_
     by_cases c5 : (IntKind.u64.wrap ((Go.bits .or .u64 x4_1 (ji4)) * (Go.bits .or .u64 x4_1 (ji4)))) ≤ a0
     ·rw [if_pos c5] at H
      have c5b0 : decide ((IntKind.u64.wrap ((Go.bits .or .u64 x4_1 (ji4)) * (Go.bits .or .u64 x4_1 (ji4)))) ≤ a0) = true := decide_eq_true c5
      clear c5
      have H' := Aside0.mk H
      clear H
      go_wp2
      go_roundg k1
      case measure => have := HK1.out; omega
      case rel => exact ⟨(Go.bits .or .u64 x4_1 (ji4)), (wrap64 (x5_1 - 1)), (by first | rfl | (simp; done) | (simp only [← hji4] <;> (first | rfl | (simp; done))) | (simp [*]; done) | (congr 1; (try unfold wrap64); omega) | (congr 1; rw [IntKind.wrap_u64]; omega)), (gr_), H', ⟨by have := HK1.out; omega⟩, gd_⟩
     ·rw [if_neg c5] at H
      have c5b0 : decide ((IntKind.u64.wrap ((Go.bits .or .u64 x4_1 (ji4)) * (Go.bits .or .u64 x4_1 (ji4)))) ≤ a0) = false := decide_eq_false c5
      clear c5
      have H' := Aside0.mk H
      clear H
      go_wp2
      (try subst hji4)
      go_roundg k1
      case measure => have := HK1.out; omega
      case rel => exact ⟨(x4_1), (wrap64 (x5_1 - 1)), (gr_), (gr_), H', ⟨by have := HK1.out; omega⟩, gd_⟩
    ·rw [if_neg c3] at H
     exact absurd H (by simp)
   ·rw [if_neg c2] at H
    have c2b0 : decide (0 ≤ x5_1) = false := decide_eq_false c2
    clear c2
    simp only [Option.some.injEq, Prod.mk.injEq] at H
    obtain ⟨rfl, rfl⟩ := H
    go_wp2
    go_ret2
    exact ⟨gr_, gd_⟩
end P
namespace L
open P Ek
def dZ.c : Fc := gZ [hI .u64] [hI .u32, hB] (T := Int × Bool) (fun y => ((y.1, ()), (y.2, ()), ())) fun n x => dZ.f n x.1.1
theorem dZ.ok : gW Tryz.prog 145 dZ.c := fG Tryz.func145 kr kr (by decide) (fun _ => dW (by decide) _) fun n x y h m w => (dZ.calls n x.1.1 y.1 y.2 w h).mono fun e w' he => ⟨he.1, he.2.below⟩
def eY.cls : Cls := [(136, bH.c), (137, fJ.c), (138, bM.c), (139, eF.c), (140, fM.c), (141, aW.c), (142, dQ.c), (143, bits_Len.c), (144, aR.c), (145, dZ.c), (104, aC.c)]
theorem eY.fE : bR Tryz.prog eY.cls := bR.cons bH.ok (bR.cons fJ.ok (bR.cons bM.ok (bR.cons eF.ok (bR.cons fM.ok (bR.cons aW.ok (bR.cons dQ.ok (bR.cons bits_Len.ok (bR.cons aR.ok (bR.cons dZ.ok (bR.cons aC.ok (bR.nil)))))))))))
def eY.K (v : SV) : Option (Int × Bool × Bool × Bool × Bool × Bool) := (iL [hI .u32, .agg [.b, .b, .b, .b, .b]] v).map (fun z => (z.1.1, z.2.1.1, z.2.1.2.1, z.2.1.2.2.1, z.2.1.2.2.2.1, z.2.1.2.2.2.2.1))
def eY.cuts : List Nat := []
def eY.f (k : Nat) (a0 a1 a2 : Int) : Option (Int × Bool × Bool × Bool × Bool × Bool) := evF Tryz.prog eY.cls Tryz.f101 eY.cuts k [.one (.i .i64 (.x a0)), .one (.i .i64 (.x a1)), .one (.i .u32 (.x a2))] eY.K
def eY.c : Fc := gZ [hI .i64, hI .i64, hI .u32] [hI .u32, .agg [.b, .b, .b, .b, .b]] (T := Int × Bool × Bool × Bool × Bool × Bool) (fun y => ((y.1, ()), (y.2.1, y.2.2.1, y.2.2.2.1, y.2.2.2.2.1, y.2.2.2.2.2, ()), ())) fun n x => eY.f n x.1.1 x.2.1.1 x.2.2.1.1
theorem eY.ok : gW Tryz.prog 101 eY.c := nR eY.fE Tryz.func101 kr kr (by decide) (fun _ => rfl) (fun _ _ => rfl)
def dL.c : Fc := gZ [hI .i64, hI .u32] [hB] (T := Bool) (fun y => ((y, ()), ())) fun n x => dL.f x.1.1 x.2.1.1
theorem dL.ok : gW Tryz.prog 146 dL.c := fG Tryz.func146 kr kr (by decide) (fun _ => dW (by decide) _) fun n x y h m w => (dL.calls x.1.1 x.2.1.1 y w h).mono fun e w' he => ⟨he.1, he.2.below⟩
def fI.c : Fc := gZ [hI .i64, hI .i64, hB, hB] [hI .u32] (T := Int) (fun y => ((y, ()), ())) fun n x => fI.f x.1.1 x.2.1.1 x.2.2.1.1 x.2.2.2.1.1
theorem fI.ok : gW Tryz.prog 163 fI.c := fG Tryz.func163 kr kr (by decide) (fun _ => dW (by decide) _) fun n x y h m w => (fI.calls x.1.1 x.2.1.1 x.2.2.1.1 x.2.2.2.1.1 y w h).mono fun e w' he => ⟨he.1, he.2.below⟩
def bF.cls : Cls := [(158, dS.c), (136, bH.c), (140, fM.c), (146, dL.c), (141, aW.c), (161, aZ.c), (159, cB.c), (137, fJ.c), (162, aU.c), (163, fI.c), (104, aC.c)]
theorem bF.fE : bR Tryz.prog bF.cls := bR.cons dS.ok (bR.cons bH.ok (bR.cons fM.ok (bR.cons dL.ok (bR.cons aW.ok (bR.cons aZ.ok (bR.cons cB.ok (bR.cons fJ.ok (bR.cons aU.ok (bR.cons fI.ok (bR.cons aC.ok (bR.nil)))))))))))
def bF.K (v : SV) : Option (Int × Bool × Bool × Bool × Bool × Bool) := (iL [hI .u32, .agg [.b, .b, .b, .b, .b]] v).map (fun z => (z.1.1, z.2.1.1, z.2.1.2.1, z.2.1.2.2.1, z.2.1.2.2.2.1, z.2.1.2.2.2.2.1))
def bF.cuts : List Nat := [10, 11, 15]
def bF.f (k : Nat) (a0 a1 : Int) (a2 a3 a4 : Int) : Option (Int × Bool × Bool × Bool × Bool × Bool) := evF Tryz.prog bF.cls Tryz.f131 bF.cuts k [.one (.i .i64 (.x a0)), .one (.i .i64 (.x a1)), .one (.i .u32 (.x a2)), .one (.i .u32 (.x a3)), .one (.i .u32 (.x a4))] bF.K
def bF.c : Fc := gZ [hI .i64, hI .i64, hI .u32, hI .u32, hI .u32] [hI .u32, .agg [.b, .b, .b, .b, .b]] (T := Int × Bool × Bool × Bool × Bool × Bool) (fun y => ((y.1, ()), (y.2.1, y.2.2.1, y.2.2.2.1, y.2.2.2.2.1, y.2.2.2.2.2, ()), ())) fun n x => bF.f n x.1.1 x.2.1.1 x.2.2.1.1 x.2.2.2.1.1 x.2.2.2.2.1.1
theorem bF.ok : gW Tryz.prog 131 bF.c := nR bF.fE Tryz.func131 kr kr (by decide) (fun _ => rfl) (fun _ _ => rfl)
def aY.c : Fc := gZ [hI .i64, hI .u32] [hI .i64] (T := Int) (fun y => ((y, ()), ())) fun n x => aY.f n x.1.1 x.2.1.1
theorem aY.ok : gW Tryz.prog 147 aY.c := fG Tryz.func147 kr kr (by decide) (fun _ => dW (by decide) _) fun n x y h m w => (aY.calls n x.1.1 x.2.1.1 y w h).mono fun e w' he => ⟨he.1, he.2.below⟩
def bW.cls : Cls := [(136, bH.c), (146, dL.c), (147, aY.c), (140, fM.c), (142, dQ.c), (139, eF.c), (137, fJ.c), (143, bits_Len.c), (144, aR.c), (104, aC.c)]
theorem bW.fE : bR Tryz.prog bW.cls := bR.cons bH.ok (bR.cons dL.ok (bR.cons aY.ok (bR.cons fM.ok (bR.cons dQ.ok (bR.cons eF.ok (bR.cons fJ.ok (bR.cons bits_Len.ok (bR.cons aR.ok (bR.cons aC.ok (bR.nil))))))))))
def bW.K (v : SV) : Option (Int × Bool × Bool × Bool × Bool × Bool) := (iL [hI .u32, .agg [.b, .b, .b, .b, .b]] v).map (fun z => (z.1.1, z.2.1.1, z.2.1.2.1, z.2.1.2.2.1, z.2.1.2.2.2.1, z.2.1.2.2.2.2.1))
def bW.cuts : List Nat := [7, 11]
def bW.f (k : Nat) (a0 a1 : Int) (a2 a3 : Int) : Option (Int × Bool × Bool × Bool × Bool × Bool) := evF Tryz.prog bW.cls Tryz.f102 bW.cuts k [.one (.i .i64 (.x a0)), .one (.i .i64 (.x a1)), .one (.i .u32 (.x a2)), .one (.i .u32 (.x a3))] bW.K
def bW.c : Fc := gZ [hI .i64, hI .i64, hI .u32, hI .u32] [hI .u32, .agg [.b, .b, .b, .b, .b]] (T := Int × Bool × Bool × Bool × Bool × Bool) (fun y => ((y.1, ()), (y.2.1, y.2.2.1, y.2.2.2.1, y.2.2.2.2.1, y.2.2.2.2.2, ()), ())) fun n x => bW.f n x.1.1 x.2.1.1 x.2.2.1.1 x.2.2.2.1.1
theorem bW.ok : gW Tryz.prog 102 bW.c := nR bW.fE Tryz.func102 kr kr (by decide) (fun _ => rfl) (fun _ _ => rfl)
def dR.cls : Cls := [(136, bH.c), (158, dS.c), (140, fM.c), (146, dL.c), (141, aW.c), (142, dQ.c), (159, cB.c), (104, aC.c)]
theorem dR.fE : bR Tryz.prog dR.cls := bR.cons bH.ok (bR.cons dS.ok (bR.cons fM.ok (bR.cons dL.ok (bR.cons aW.ok (bR.cons dQ.ok (bR.cons cB.ok (bR.cons aC.ok (bR.nil))))))))
def dR.K (v : SV) : Option (Int × Bool × Bool × Bool × Bool × Bool) := (iL [hI .u32, .agg [.b, .b, .b, .b, .b]] v).map (fun z => (z.1.1, z.2.1.1, z.2.1.2.1, z.2.1.2.2.1, z.2.1.2.2.2.1, z.2.1.2.2.2.2.1))
def dR.cuts : List Nat := [8]
def dR.f (k : Nat) (a0 a1 : Int) (a2 a3 : Int) : Option (Int × Bool × Bool × Bool × Bool × Bool) := evF Tryz.prog dR.cls Tryz.f106 dR.cuts k [.one (.i .i64 (.x a0)), .one (.i .i64 (.x a1)), .one (.i .u32 (.x a2)), .one (.i .u32 (.x a3))] dR.K
def dR.c : Fc := gZ [hI .i64, hI .i64, hI .u32, hI .u32] [hI .u32, .agg [.b, .b, .b, .b, .b]] (T := Int × Bool × Bool × Bool × Bool × Bool) (fun y => ((y.1, ()), (y.2.1, y.2.2.1, y.2.2.2.1, y.2.2.2.2.1, y.2.2.2.2.2, ()), ())) fun n x => dR.f n x.1.1 x.2.1.1 x.2.2.1.1 x.2.2.2.1.1
theorem dR.ok : gW Tryz.prog 106 dR.c := nR dR.fE Tryz.func106 kr kr (by decide) (fun _ => rfl) (fun _ _ => rfl)
def dD.c : Fc := gZ [hI .i64] [hI .u32] (T := Int) (fun y => ((y, ()), ())) fun n x => dD.f x.1.1
theorem dD.ok : gW Tryz.prog 87 dD.c := fG Tryz.func87 kr kr (by decide) (fun _ => dW (by decide) _) fun n x y h m w => (dD.calls x.1.1 y w h).mono fun e w' he => ⟨he.1, he.2.below⟩
def bO.c : Fc := gZ [hI .i64, hI .u32] [hB] (T := Bool) (fun y => ((y, ()), ())) fun n x => bO.f x.1.1 x.2.1.1
theorem bO.ok : gW Tryz.prog 88 bO.c := fG Tryz.func88 kr kr (by decide) (fun _ => dW (by decide) _) fun n x y h m w => (bO.calls x.1.1 x.2.1.1 y w h).mono fun e w' he => ⟨he.1, he.2.below⟩
def bK.c : Fc := gZ [hI .i64, hI .u32] [hB] (T := Bool) (fun y => ((y, ()), ())) fun n x => bK.f n x.1.1 x.2.1.1
theorem bK.ok : gW Tryz.prog 86 bK.c := fG Tryz.func86 kr kr (by decide) (fun _ => dW (by decide) _) fun n x y h m w => (bK.calls n x.1.1 x.2.1.1 y w h).mono fun e w' he => ⟨he.1, he.2.below⟩
def bE.c : Fc := gZ [hI .i64, hI .u32] [hB, hI .i64, hI .u64] (T := Bool × Int × Int) (fun y => ((y.1, ()), (y.2.1, ()), (y.2.2, ()), ())) fun n x => bE.f n x.1.1 x.2.1.1
theorem bE.ok : gW Tryz.prog 92 bE.c := fG Tryz.func92 kr kr (by decide) (fun _ => dW (by decide) _) fun n x y h m w => (bE.calls n x.1.1 x.2.1.1 y.1 y.2.1 y.2.2 w h).mono fun e w' he => ⟨he.1, he.2.below⟩
def bI.c : Fc := gZ [hI .u64] [hI .u32, hB] (T := Int × Bool) (fun y => ((y.1, ()), (y.2, ()), ())) fun n x => bI.f n x.1.1
theorem bI.ok : gW Tryz.prog 96 bI.c := fG Tryz.func96 kr kr (by decide) (fun _ => dW (by decide) _) fun n x y h m w => (bI.calls n x.1.1 y.1 y.2 w h).mono fun e w' he => ⟨he.1, he.2.below⟩
def aV.cls : Cls := [(77, aG.c), (87, dD.c), (78, bA.c), (90, bG.c), (88, bO.c), (86, bK.c), (92, bE.c), (96, bI.c), (97, aA.c)]
theorem aV.fE : bR Tryz.prog aV.cls := bR.cons aG.ok (bR.cons dD.ok (bR.cons bA.ok (bR.cons bG.ok (bR.cons bO.ok (bR.cons bK.ok (bR.cons bE.ok (bR.cons bI.ok (bR.cons aA.ok (bR.nil)))))))))
def aV.K (v : SV) : Option (Int × Bool × Bool × Bool × Bool × Bool) := (iL [hI .u32, .agg [.b, .b, .b, .b, .b]] v).map (fun z => (z.1.1, z.2.1.1, z.2.1.2.1, z.2.1.2.2.1, z.2.1.2.2.2.1, z.2.1.2.2.2.2.1))
def aV.cuts : List Nat := []
def aV.f (k : Nat) (a0 a1 a2 : Int) : Option (Int × Bool × Bool × Bool × Bool × Bool) := evF Tryz.prog aV.cls Tryz.f36 aV.cuts k [.one (.i .i64 (.x a0)), .one (.i .i64 (.x a1)), .one (.i .u32 (.x a2))] aV.K
def aV.c : Fc := gZ [hI .i64, hI .i64, hI .u32] [hI .u32, .agg [.b, .b, .b, .b, .b]] (T := Int × Bool × Bool × Bool × Bool × Bool) (fun y => ((y.1, ()), (y.2.1, y.2.2.1, y.2.2.2.1, y.2.2.2.2.1, y.2.2.2.2.2, ()), ())) fun n x => aV.f n x.1.1 x.2.1.1 x.2.2.1.1
theorem aV.ok : gW Tryz.prog 36 aV.c := nR aV.fE Tryz.func36 kr kr (by decide) (fun _ => rfl) (fun _ _ => rfl)
def dV.cls : Cls := [(166, d9.c), (137, fJ.c), (104, aC.c)]
theorem dV.fE : bR Tryz.prog dV.cls := bR.cons d9.ok (bR.cons fJ.ok (bR.cons aC.ok (bR.nil)))
def dV.K (v : SV) : Option (Int × Bool × Bool × Bool × Bool × Bool) := (iL [hI .u32, .agg [.b, .b, .b, .b, .b]] v).map (fun z => (z.1.1, z.2.1.1, z.2.1.2.1, z.2.1.2.2.1, z.2.1.2.2.2.1, z.2.1.2.2.2.2.1))
def dV.cuts : List Nat := []
def dV.f (k : Nat) (a0 a1 : Int) (a2 a3 : Int) : Option (Int × Bool × Bool × Bool × Bool × Bool) := evF Tryz.prog dV.cls Tryz.f118 dV.cuts k [.one (.i .i64 (.x a0)), .one (.i .i64 (.x a1)), .one (.i .u32 (.x a2)), .one (.i .i64 (.x a3))] dV.K
def dV.c : Fc := gZ [hI .i64, hI .i64, hI .u32, hI .i64] [hI .u32, .agg [.b, .b, .b, .b, .b]] (T := Int × Bool × Bool × Bool × Bool × Bool) (fun y => ((y.1, ()), (y.2.1, y.2.2.1, y.2.2.2.1, y.2.2.2.2.1, y.2.2.2.2.2, ()), ())) fun n x => dV.f n x.1.1 x.2.1.1 x.2.2.1.1 x.2.2.2.1.1
theorem dV.ok : gW Tryz.prog 118 dV.c := nR dV.fE Tryz.func118 kr kr (by decide) (fun _ => rfl) (fun _ _ => rfl)
def dJ.cls : Cls := [(136, bH.c), (141, aW.c), (146, dL.c), (161, aZ.c), (137, fJ.c), (162, aU.c), (163, fI.c), (104, aC.c)]
theorem dJ.fE : bR Tryz.prog dJ.cls := bR.cons bH.ok (bR.cons aW.ok (bR.cons dL.ok (bR.cons aZ.ok (bR.cons fJ.ok (bR.cons aU.ok (bR.cons fI.ok (bR.cons aC.ok (bR.nil))))))))
def dJ.K (v : SV) : Option (Int × Bool × Bool × Bool × Bool × Bool) := (iL [hI .u32, .agg [.b, .b, .b, .b, .b]] v).map (fun z => (z.1.1, z.2.1.1, z.2.1.2.1, z.2.1.2.2.1, z.2.1.2.2.2.1, z.2.1.2.2.2.2.1))
def dJ.cuts : List Nat := [6, 10]
def dJ.f (k : Nat) (a0 a1 : Int) (a2 a3 : Int) : Option (Int × Bool × Bool × Bool × Bool × Bool) := evF Tryz.prog dJ.cls Tryz.f108 dJ.cuts k [.one (.i .i64 (.x a0)), .one (.i .i64 (.x a1)), .one (.i .u32 (.x a2)), .one (.i .u32 (.x a3))] dJ.K
def dJ.c : Fc := gZ [hI .i64, hI .i64, hI .u32, hI .u32] [hI .u32, .agg [.b, .b, .b, .b, .b]] (T := Int × Bool × Bool × Bool × Bool × Bool) (fun y => ((y.1, ()), (y.2.1, y.2.2.1, y.2.2.2.1, y.2.2.2.2.1, y.2.2.2.2.2, ()), ())) fun n x => dJ.f n x.1.1 x.2.1.1 x.2.2.1.1 x.2.2.2.1.1
theorem dJ.ok : gW Tryz.prog 108 dJ.c := nR dJ.fE Tryz.func108 kr kr (by decide) (fun _ => rfl) (fun _ _ => rfl)
set_option maxRecDepth 100000
theorem eY.eq (n0 : Nat) (a0 a1 a2 : Int) : eY.f n0 a0 a1 a2 = ((bH.f n0 a0 [a2]).bind fun t0 => (if t0.2.2.2.2.2.2 = true then (some ((t0.1, t0.2.1, t0.2.2.1, t0.2.2.2.1, t0.2.2.2.2.1, t0.2.2.2.2.2.1))) else ((fJ.f a0 a2).bind fun t1 => ((bM.f n0 a0 a2).bind fun t2 => (if t2 = true then ((eF.f a0 t1.1).bind fun t3 => (some ((t3, false, false, false, false, false)))) else (if t1.1 = true then ((fM.f a0).bind fun t3 => (some ((t3.1, t3.2.1, t3.2.2.1, t3.2.2.2.1, t3.2.2.2.2.1, t3.2.2.2.2.2)))) else ((aW.f n0 a0 a2).bind fun t3 => (if t3 = true then ((dQ.f a0 false).bind fun t4 => (some ((t4, false, false, false, false, false)))) else ((bits_Len.f n0 t1.2.2.1).bind fun t4 => (if Int.tmod (wrap64 (t1.2.1 - wrap64 (62 - t4))) 2 = 0 then ((YtolpdiifmacdbaaGreat.L.aR.f n0 t1.2.2.1 (wrap64 (-wrap64 (62 - t4)))).bind fun t5 => ((dZ.f n0 t5.1).bind fun t6 => ((aC.f n0 a0 a1 false (wrap64 (Int.tdiv (wrap64 (t1.2.1 - wrap64 (62 - t4))) 2)) (IntKind.wrap IntKind.u64 t6.1) !t6.2).bind fun t7 => (some ((t7.1, t7.2.1, t7.2.2.1, t7.2.2.2.1, t7.2.2.2.2.1, t7.2.2.2.2.2)))))) else ((YtolpdiifmacdbaaGreat.L.aR.f n0 t1.2.2.1 (wrap64 (-wrap64 (wrap64 (62 - t4) - 1)))).bind fun t5 => ((dZ.f n0 t5.1).bind fun t6 => ((aC.f n0 a0 a1 false (wrap64 (Int.tdiv (wrap64 (t1.2.1 - wrap64 (wrap64 (62 - t4) - 1))) 2)) (IntKind.wrap IntKind.u64 t6.1) !t6.2).bind fun t7 => (some ((t7.1, t7.2.1, t7.2.2.1, t7.2.2.2.1, t7.2.2.2.2.1, t7.2.2.2.2.2)))))))))))))))) := by kernel_rfl
def bF.j10 (n0 : Nat) (x0 x1 x2 : Bool) (x3 x4 : Int) (x5 x6 x7 : Int) (x8 x9 : Bool) (x10 x11 x12 : Bool) := jK Tryz.prog bF.cls Tryz.f131 bF.cuts [1, 1, 1, 1, 1, 1] [n0] n0 ⟨[(18, (.pv (.one (.b (.q x0))))), (17, (.pv (.one (.b (.q x1))))), (16, (.pv (.one (.b (.q x2))))), (11, (.pv (.one (.p 0 0)))), (4, (.pv (.one (.i .u32 (.x x3))))), (3, (.pv (.one (.i .u32 (.x x4))))), (2, (.pv (.one (.i .u32 (.x x5))))), (1, (.pv (.one (.i .i64 (.x x6))))), (0, (.pv (.one (.i .i64 (.x x7)))))], [(0, (62, [(.c (.b (.q x8))), (.c (.b (.q x9))), (.c (.b (.q x10))), (.c (.b (.q x11))), (.c (.b (.q x12)))]))], 1⟩ bF.K
def bF.j11 (n0 : Nat) (x0 x1 : Bool) (x2 x3 : Bool) (x4 x5 : Int) (x6 x7 x8 : Int) (x9 x10 : Bool) (x11 x12 x13 : Bool) := jK Tryz.prog bF.cls Tryz.f131 bF.cuts [1, 1, 1, 1, 1, 1, 0, 1] [n0] n0 ⟨[(71, (.pv (.one (.b (.q x0))))), (18, (.pv (.one (.b (.q x1))))), (17, (.pv (.one (.b (.q x2))))), (16, (.pv (.one (.b (.q x3))))), (11, (.pv (.one (.p 0 0)))), (4, (.pv (.one (.i .u32 (.x x4))))), (3, (.pv (.one (.i .u32 (.x x5))))), (2, (.pv (.one (.i .u32 (.x x6))))), (1, (.pv (.one (.i .i64 (.x x7))))), (0, (.pv (.one (.i .i64 (.x x8)))))], [(0, (62, [(.c (.b (.q x9))), (.c (.b (.q x10))), (.c (.b (.q x11))), (.c (.b (.q x12))), (.c (.b (.q x13)))]))], 1⟩ bF.K
def bF.j15 (n0 : Nat) (x0 x1 : Bool) (x2 x3 : Int) (x4 : Bool) (x5 x6 : Int) (x7 x8 : Bool) (x9 x10 : Int) (x11 x12 : Bool) (x13 x14 : Bool) (x15 x16 : Bool) := jK Tryz.prog bF.cls Tryz.f131 bF.cuts [1, 1, 1, 1, 1, 1, 1, 1, 1, 0, 1] [n0] n0 ⟨[(99, (.pv (.one (.b (.q x0))))), (21, (.pv (.one (.p 3 0)))), (20, (.pv (.one (.p 2 0)))), (16, (.pv (.one (.b (.q x1))))), (11, (.pv (.one (.p 0 0)))), (1, (.pv (.one (.i .i64 (.x x2))))), (0, (.pv (.one (.i .i64 (.x x3)))))], [(3, (131, [(.c (.b (.q x4))), (.c (.i .i64 (.x x5))), (.c (.i .u64 (.x x6))), (.c (.b (.q x7)))])), (2, (131, [(.c (.b (.q x8))), (.c (.i .i64 (.x x9))), (.c (.i .u64 (.x x10))), (.c (.b (.q x11)))])), (0, (62, [(.c (.b (.q x12))), (.c (.b (.q x13))), (.c (.b (.q x14))), (.c (.b (.q x15))), (.c (.b (.q x16)))]))], 4⟩ bF.K
theorem bF.eq (n0 : Nat) (a0 a1 : Int) (a2 a3 a4 : Int) : bF.f n0 a0 a1 a2 a3 a4 = ((YtolpdiifmacdbaaGreat.L.dS.f n0 a0 a2 a3).bind fun t0 => ((bH.f n0 a0 [a2, a3, a4]).bind fun t1 => (if t1.2.2.2.2.2.2 = true then (if t1.2.1 = true then (some ((t1.1, true, t1.2.2.1, t1.2.2.2.1, t1.2.2.2.2.1, t1.2.2.2.2.2.1))) else (some ((t1.1, t0, t1.2.2.1, t1.2.2.2.1, t1.2.2.2.2.1, t1.2.2.2.2.2.1)))) else (if t0 = true then ((fM.f a0).bind fun t2 => (some ((t2.1, t2.2.1, t2.2.2.1, t2.2.2.2.1, t2.2.2.2.2.1, t2.2.2.2.2.2)))) else ((dL.f a0 a2).bind fun t2 => ((dL.f a0 a3).bind fun t3 => ((aW.f n0 a0 a2).bind fun t4 => (if t4 = true then ((aW.f n0 a0 a4).bind fun t5 => (bF.j10 n0 (t5) (true) (!(t2 == t3)) (a4) (a3) (a2) (a1) (a0) (false) (false) (false) (false) (false))) else ((aW.f n0 a0 a3).bind fun t5 => ((aW.f n0 a0 a4).bind fun t6 => (bF.j10 n0 (t6) (t5) (!(t2 == t3)) (a4) (a3) (a2) (a1) (a0) (false) (false) (false) (false) (false)))))))))))) := by kernel_rfl
theorem bF.aC1 (n0 : Nat) (x0 x1 x2 : Bool) (x3 x4 : Int) (x5 x6 x7 : Int) (x8 x9 : Bool) (x10 x11 x12 : Bool) : bF.j10 n0 x0 x1 x2 x3 x4 x5 x6 x7 x8 x9 x10 x11 x12 = (if x1 = true then (bF.j11 n0 (true) (x0) (x1) (x2) (x3) (x4) (x5) (x6) (x7) (x8) (x9) (x10) (x11) (x12)) else (bF.j11 n0 (x0) (x0) (x1) (x2) (x3) (x4) (x5) (x6) (x7) (x8) (x9) (x10) (x11) (x12))) := by kernel_rfl
theorem bF.yC (n0 : Nat) (x0 x1 : Bool) (x2 x3 : Bool) (x4 x5 : Int) (x6 x7 x8 : Int) (x9 x10 : Bool) (x11 x12 x13 : Bool) : bF.j11 n0 x0 x1 x2 x3 x4 x5 x6 x7 x8 x9 x10 x11 x12 x13 = (if x0 = true then ((dL.f x8 x4).bind fun t0 => ((YtolpdiifmacdbaaGreat.L.aZ.f n0 x8 x3 t0 x2 x1).bind fun t1 => (some ((t1.1, t1.2.1, t1.2.2.1, t1.2.2.2.1, t1.2.2.2.2.1, t1.2.2.2.2.2))))) else ((cB.f n0 x8 x6 x5).bind fun t0 => ((fJ.f x8 x4).bind fun t1 => ((aU.f n0 t0.1 t0.2.1 t0.2.2.1 t0.2.2.2 t1.1 t1.2.1 t1.2.2.1 t1.2.2.2).bind fun t2 => (if t2.2.2.1 = 0 then (bF.j15 n0 (!t2.2.2.2) (x3) (x7) (x8) (t2.1) t2.2.1 t2.2.2.1 (t2.2.2.2) (t1.1) t1.2.1 t1.2.2.1 (t1.2.2.2) (x9) (x10) (x11) (x12) (x13)) else (bF.j15 n0 (false) (x3) (x7) (x8) (t2.1) t2.2.1 t2.2.2.1 (t2.2.2.2) (t1.1) t1.2.1 t1.2.2.1 (t1.2.2.2) (x9) (x10) (x11) (x12) (x13))))))) := by kernel_rfl
theorem bF.aB2 (n0 : Nat) (x0 x1 : Bool) (x2 x3 : Int) (x4 : Bool) (x5 x6 : Int) (x7 x8 : Bool) (x9 x10 : Int) (x11 x12 : Bool) (x13 x14 : Bool) (x15 x16 : Bool) : bF.j15 n0 x0 x1 x2 x3 x4 x5 x6 x7 x8 x9 x10 x11 x12 x13 x14 x15 x16 = (if x0 = true then ((fI.f x3 x2 x1 x8).bind fun t0 => (some ((t0, false, false, false, false, false)))) else ((aC.f n0 x3 x2 x4 x5 x6 x7).bind fun t0 => (some ((t0.1, t0.2.1, t0.2.2.1, t0.2.2.2.1, t0.2.2.2.2.1, t0.2.2.2.2.2))))) := by kernel_rfl
def bW.j7 (n0 : Nat) (x0 : Bool) (x1 x2 : Int) (x3 : Bool) (x4 x5 : Int) (x6 x7 : Int) (x8 x9 : Bool) (x10 x11 x12 : Bool) := jK Tryz.prog bW.cls Tryz.f102 bW.cuts [1, 1, 1, 1, 0, 0, 1] [n0] n0 ⟨[(46, (.pv (.one (.b (.q x0))))), (15, (.pv (.one (.i .i64 (.x x1))))), (14, (.pv (.one (.i .i64 (.x x2))))), (13, (.pv (.one (.b (.q x3))))), (9, (.pv (.one (.p 0 0)))), (3, (.pv (.one (.i .u32 (.x x4))))), (2, (.pv (.one (.i .u32 (.x x5))))), (1, (.pv (.one (.i .i64 (.x x6))))), (0, (.pv (.one (.i .i64 (.x x7)))))], [(0, (62, [(.c (.b (.q x8))), (.c (.b (.q x9))), (.c (.b (.q x10))), (.c (.b (.q x11))), (.c (.b (.q x12)))]))], 1⟩ bW.K
def bW.j11 (n0 : Nat) (x0 : Bool) (x1 : Int) (x2 : Bool) (x3 x4 : Int) (x5 x6 : Int) (x7 x8 : Bool) (x9 x10 x11 : Bool) := jK Tryz.prog bW.cls Tryz.f102 bW.cuts [1, 1, 1, 1, 0, 0, 1, 1, 1, 1, 1] [n0] n0 ⟨[(69, (.pv (.one (.b (.q x0))))), (15, (.pv (.one (.i .i64 (.x x1))))), (13, (.pv (.one (.b (.q x2))))), (9, (.pv (.one (.p 0 0)))), (3, (.pv (.one (.i .u32 (.x x3))))), (2, (.pv (.one (.i .u32 (.x x4))))), (1, (.pv (.one (.i .i64 (.x x5))))), (0, (.pv (.one (.i .i64 (.x x6)))))], [(0, (62, [(.c (.b (.q x7))), (.c (.b (.q x8))), (.c (.b (.q x9))), (.c (.b (.q x10))), (.c (.b (.q x11)))]))], 1⟩ bW.K
theorem bW.eq (n0 : Nat) (a0 a1 : Int) (a2 a3 : Int) : bW.f n0 a0 a1 a2 a3 = ((bH.f n0 a0 [a2, a3]).bind fun t0 => (if t0.2.2.2.2.2.2 = true then (some ((t0.1, t0.2.1, t0.2.2.1, t0.2.2.2.1, t0.2.2.2.2.1, t0.2.2.2.2.2.1))) else ((dL.f a0 a2).bind fun t1 => ((dL.f a0 a3).bind fun t2 => ((aY.f n0 a0 a2).bind fun t3 => ((aY.f n0 a0 a3).bind fun t4 => (if t3 = t4 then (if t3 = 0 then (bW.j7 n0 (true) (t4) (t3) (!(t1 == t2)) (a3) (a2) (a1) (a0) (false) (false) (false) (false) (false)) else (bW.j7 n0 (Decidable.rec (fun h => false) (fun h => true) (Int.instDecidableEq t3 3)) (t4) (t3) (!(t1 == t2)) (a3) (a2) (a1) (a0) (false) (false) (false) (false) (false))) else (bW.j7 n0 (false) (t4) (t3) (!(t1 == t2)) (a3) (a2) (a1) (a0) (false) (false) (false) (false) (false))))))))) := by kernel_rfl
theorem bW.j7_eq (n0 : Nat) (x0 : Bool) (x1 x2 : Int) (x3 : Bool) (x4 x5 : Int) (x6 x7 : Int) (x8 x9 : Bool) (x10 x11 x12 : Bool) : bW.j7 n0 x0 x1 x2 x3 x4 x5 x6 x7 x8 x9 x10 x11 x12 = (if x0 = true then ((fM.f x7).bind fun t0 => (some ((t0.1, t0.2.1, t0.2.2.1, t0.2.2.2.1, t0.2.2.2.2.1, t0.2.2.2.2.2)))) else (if x2 = 3 then ((dQ.f x7 x3).bind fun t0 => (some ((t0, false, false, false, false, false)))) else (if x1 = 3 then (bW.j11 n0 (true) (x1) (x3) (x4) (x5) (x6) (x7) (x8) (x9) (x10) (x11) (x12)) else (bW.j11 n0 (Decidable.rec (fun h => false) (fun h => true) (Int.instDecidableEq x2 0)) (x1) (x3) (x4) (x5) (x6) (x7) (x8) (x9) (x10) (x11) (x12))))) := by kernel_rfl
theorem bW.yC (n0 : Nat) (x0 : Bool) (x1 : Int) (x2 : Bool) (x3 x4 : Int) (x5 x6 : Int) (x7 x8 : Bool) (x9 x10 x11 : Bool) : bW.j11 n0 x0 x1 x2 x3 x4 x5 x6 x7 x8 x9 x10 x11 = (if x0 = true then ((eF.f x6 x2).bind fun t0 => (some ((t0, false, false, false, false, false)))) else (if x1 = 0 then ((dQ.f x6 x2).bind fun t0 => (some ((t0, false, true, false, false, false)))) else ((fJ.f x6 x4).bind fun t0 => ((fJ.f x6 x3).bind fun t1 => ((bits_Len.f n0 t0.2.2.1).bind fun t2 => ((YtolpdiifmacdbaaGreat.L.aR.f n0 t0.2.2.1 (wrap64 (-wrap64 (62 - t2)))).bind fun t3 => (if t1.2.2.1 = 0 then none else (if t1.2.2.1 = 0 then none else ((aC.f n0 x6 x5 x2 (wrap64 (wrap64 (t0.2.1 - wrap64 (62 - t2)) - t1.2.1)) (IntKind.wrap IntKind.u64 (Int.tdiv t3.1 t1.2.2.1)) !Int.tmod t3.1 t1.2.2.1 == 0).bind fun t4 => (some ((t4.1, t4.2.1, t4.2.2.1, t4.2.2.2.1, t4.2.2.2.2.1, t4.2.2.2.2.2)))))))))))) := by kernel_rfl
def dR.j8 (n0 : Nat) (x0 x1 : Bool) (x2 x3 : Int) (x4 x5 : Int) (x6 x7 : Bool) (x8 x9 x10 : Bool) := jK Tryz.prog dR.cls Tryz.f106 dR.cuts [1, 1, 1, 1, 0, 1] [n0] n0 ⟨[(49, (.pv (.one (.b (.q x0))))), (13, (.pv (.one (.b (.q x1))))), (9, (.pv (.one (.p 0 0)))), (3, (.pv (.one (.i .u32 (.x x2))))), (2, (.pv (.one (.i .u32 (.x x3))))), (1, (.pv (.one (.i .i64 (.x x4))))), (0, (.pv (.one (.i .i64 (.x x5)))))], [(0, (62, [(.c (.b (.q x6))), (.c (.b (.q x7))), (.c (.b (.q x8))), (.c (.b (.q x9))), (.c (.b (.q x10)))]))], 1⟩ dR.K
theorem dR.eq (n0 : Nat) (a0 a1 : Int) (a2 a3 : Int) : dR.f n0 a0 a1 a2 a3 = ((bH.f n0 a0 [a2, a3]).bind fun t0 => (if t0.2.2.2.2.2.2 = true then (some ((t0.1, t0.2.1, t0.2.2.1, t0.2.2.2.1, t0.2.2.2.2.1, t0.2.2.2.2.2.1))) else ((YtolpdiifmacdbaaGreat.L.dS.f n0 a0 a2 a3).bind fun t1 => (if t1 = true then ((fM.f a0).bind fun t2 => (some ((t2.1, t2.2.1, t2.2.2.1, t2.2.2.2.1, t2.2.2.2.2.1, t2.2.2.2.2.2)))) else ((dL.f a0 a2).bind fun t2 => ((dL.f a0 a3).bind fun t3 => ((aW.f n0 a0 a2).bind fun t4 => (if t4 = true then (dR.j8 n0 (true) (!(t2 == t3)) (a3) (a2) (a1) (a0) (false) (false) (false) (false) (false)) else ((aW.f n0 a0 a3).bind fun t5 => (dR.j8 n0 (t5) (!(t2 == t3)) (a3) (a2) (a1) (a0) (false) (false) (false) (false) (false))))))))))) := by kernel_rfl
theorem dR.j8_eq (n0 : Nat) (x0 x1 : Bool) (x2 x3 : Int) (x4 x5 : Int) (x6 x7 : Bool) (x8 x9 x10 : Bool) : dR.j8 n0 x0 x1 x2 x3 x4 x5 x6 x7 x8 x9 x10 = (if x0 = true then ((dQ.f x5 x1).bind fun t0 => (some ((t0, false, false, false, false, false)))) else ((cB.f n0 x5 x3 x2).bind fun t0 => ((aC.f n0 x5 x4 x1 t0.2.1 t0.2.2.1 false).bind fun t1 => (some ((t1.1, t1.2.1, t1.2.2.1, t1.2.2.2.1, t1.2.2.2.2.1, t1.2.2.2.2.2)))))) := by kernel_rfl
def aV.l11 (k n0 : Nat) (x0 x1 : Int) (x2 x3 : Int) (x4 x5 : Bool) (x6 x7 x8 : Bool) := evIn Tryz.prog aV.cls Tryz.f36 aV.cuts [1, 1, 1, 1, 1, 1, 0, 0] [n0] k ⟨[(12, (.pv (.one (.i .u64 (.x x0))))), (11, (.pv (.one (.i .i64 (.x x1))))), (7, (.pv (.one (.p 0 0)))), (1, (.pv (.one (.i .i64 (.x x2))))), (0, (.pv (.one (.i .i64 (.x x3)))))], [(0, (62, [(.c (.b (.q x4))), (.c (.b (.q x5))), (.c (.b (.q x6))), (.c (.b (.q x7))), (.c (.b (.q x8)))]))], 1⟩ aV.K
theorem aV.eq (n0 : Nat) (a0 a1 a2 : Int) : aV.f n0 a0 a1 a2 = ((aG.f n0 a0 [a2]).bind fun t0 => (if t0.1 = true then ((dD.f a0).bind fun t1 => (some ((t1, t0.2, false, false, false, false)))) else ((bA.f n0 a0 a2).bind fun t1 => (if t1 = true then ((bG.f a0).bind fun t2 => (some ((bits BinOp.and IntKind.u32 a2 t2, false, false, false, false, false)))) else ((bO.f a0 a2).bind fun t2 => (if t2 = true then ((dD.f a0).bind fun t3 => (some ((t3, true, false, false, false, false)))) else ((bK.f n0 a0 a2).bind fun t3 => (if t3 = true then ((bG.f a0).bind fun t4 => (some ((bits BinOp.and IntKind.u32 a2 t4, false, false, false, false, false)))) else ((bE.f n0 a0 a2).bind fun t4 => (aV.l11 n0 n0 t4.2.2 t4.2.1 (a1) (a0) (false) (false) (false) (false) (false))))))))))) := by kernel_rfl
theorem aV.l11_eq (k n0 : Nat) (x0 x1 : Int) (x2 x3 : Int) (x4 x5 : Bool) (x6 x7 x8 : Bool) : aV.l11 (k + 1) n0 x0 x1 x2 x3 x4 x5 x6 x7 x8 = (if x0 < 2305843009213693952 then (aV.l11 k n0 (shl IntKind.u64 x0 1) (wrap64 (x1 - 1)) (x2) (x3) (x4) (x5) (x6) (x7) (x8)) else (if Int.tmod x1 2 = 0 then ((bI.f n0 x0).bind fun t0 => ((aA.f n0 x3 x2 false (wrap64 (Int.tdiv x1 2)) (IntKind.wrap IntKind.u64 t0.1) !t0.2).bind fun t1 => (some ((t1.1, t1.2.1, t1.2.2.1, t1.2.2.2.1, t1.2.2.2.2.1, t1.2.2.2.2.2))))) else (aV.l11 k n0 (shl IntKind.u64 x0 1) (wrap64 (x1 - 1)) (x2) (x3) (x4) (x5) (x6) (x7) (x8)))) := by kernel_rfl
theorem dV.eq (n0 : Nat) (a0 a1 : Int) (a2 a3 : Int) : dV.f n0 a0 a1 a2 a3 = ((YtolpdiifmacdbaaGreat.L.d9.f n0 a0 a2).bind fun t0 => (if t0.2.2.2.2.2.2 = true then (some ((t0.1, t0.2.1, t0.2.2.1, t0.2.2.2.1, t0.2.2.2.2.1, t0.2.2.2.2.2.1))) else ((fJ.f a0 a2).bind fun t1 => ((aC.f n0 a0 a1 t1.1 (wrap64 (t1.2.1 + mn (mx a3 (-5000)) 5000)) t1.2.2.1 false).bind fun t2 => (some ((t2.1, t2.2.1, t2.2.2.1, t2.2.2.2.1, t2.2.2.2.2.1, t2.2.2.2.2.2))))))) := by kernel_rfl
def dJ.j6 (n0 : Nat) (x0 x1 x2 : Bool) (x3 x4 : Int) (x5 x6 : Int) (x7 x8 : Bool) (x9 x10 x11 : Bool) := jK Tryz.prog dJ.cls Tryz.f108 dJ.cuts [1, 1, 1, 0, 1] [n0] n0 ⟨[(39, (.pv (.one (.b (.q x0))))), (14, (.pv (.one (.b (.q x1))))), (13, (.pv (.one (.b (.q x2))))), (9, (.pv (.one (.p 0 0)))), (3, (.pv (.one (.i .u32 (.x x3))))), (2, (.pv (.one (.i .u32 (.x x4))))), (1, (.pv (.one (.i .i64 (.x x5))))), (0, (.pv (.one (.i .i64 (.x x6)))))], [(0, (62, [(.c (.b (.q x7))), (.c (.b (.q x8))), (.c (.b (.q x9))), (.c (.b (.q x10))), (.c (.b (.q x11)))]))], 1⟩ dJ.K
def dJ.j10 (n0 : Nat) (x0 : Bool) (x1 x2 : Int) (x3 : Bool) (x4 x5 : Int) (x6 x7 : Bool) (x8 x9 : Int) (x10 x11 : Bool) (x12 x13 : Int) (x14 x15 : Bool) (x16 x17 : Bool) (x18 x19 : Bool) := jK Tryz.prog dJ.cls Tryz.f108 dJ.cuts [1, 1, 1, 1, 1, 1, 0, 1] [n0] n0 ⟨[(68, (.pv (.one (.b (.q x0))))), (17, (.pv (.one (.p 3 0)))), (16, (.pv (.one (.p 2 0)))), (15, (.pv (.one (.p 1 0)))), (9, (.pv (.one (.p 0 0)))), (1, (.pv (.one (.i .i64 (.x x1))))), (0, (.pv (.one (.i .i64 (.x x2)))))], [(3, (131, [(.c (.b (.q x3))), (.c (.i .i64 (.x x4))), (.c (.i .u64 (.x x5))), (.c (.b (.q x6)))])), (2, (131, [(.c (.b (.q x7))), (.c (.i .i64 (.x x8))), (.c (.i .u64 (.x x9))), (.c (.b (.q x10)))])), (1, (131, [(.c (.b (.q x11))), (.c (.i .i64 (.x x12))), (.c (.i .u64 (.x x13))), (.c (.b (.q x14)))])), (0, (62, [(.c (.b (.q x15))), (.c (.b (.q x16))), (.c (.b (.q x17))), (.c (.b (.q x18))), (.c (.b (.q x19)))]))], 4⟩ dJ.K
theorem dJ.eq (n0 : Nat) (a0 a1 : Int) (a2 a3 : Int) : dJ.f n0 a0 a1 a2 a3 = ((bH.f n0 a0 [a2, a3]).bind fun t0 => (if t0.2.2.2.2.2.2 = true then (some ((t0.1, t0.2.1, t0.2.2.1, t0.2.2.2.1, t0.2.2.2.2.1, t0.2.2.2.2.2.1))) else ((aW.f n0 a0 a2).bind fun t1 => ((aW.f n0 a0 a3).bind fun t2 => (if t1 = true then (dJ.j6 n0 (true) (t2) (t1) (a3) (a2) (a1) (a0) (false) (false) (false) (false) (false)) else (dJ.j6 n0 (t2) (t2) (t1) (a3) (a2) (a1) (a0) (false) (false) (false) (false) (false))))))) := by kernel_rfl
theorem dJ.j6_eq (n0 : Nat) (x0 x1 x2 : Bool) (x3 x4 : Int) (x5 x6 : Int) (x7 x8 : Bool) (x9 x10 x11 : Bool) : dJ.j6 n0 x0 x1 x2 x3 x4 x5 x6 x7 x8 x9 x10 x11 = (if x0 = true then ((dL.f x6 x4).bind fun t0 => ((dL.f x6 x3).bind fun t1 => ((YtolpdiifmacdbaaGreat.L.aZ.f n0 x6 t0 t1 x2 x1).bind fun t2 => (some ((t2.1, t2.2.1, t2.2.2.1, t2.2.2.2.1, t2.2.2.2.2.1, t2.2.2.2.2.2)))))) else ((fJ.f x6 x4).bind fun t0 => ((fJ.f x6 x3).bind fun t1 => ((aU.f n0 t0.1 t0.2.1 t0.2.2.1 t0.2.2.2 t1.1 t1.2.1 t1.2.2.1 t1.2.2.2).bind fun t2 => (if t2.2.2.1 = 0 then (dJ.j10 n0 (!t2.2.2.2) (x5) (x6) (t2.1) t2.2.1 t2.2.2.1 (t2.2.2.2) (t1.1) t1.2.1 t1.2.2.1 (t1.2.2.2) (t0.1) t0.2.1 t0.2.2.1 (t0.2.2.2) (x7) (x8) (x9) (x10) (x11)) else (dJ.j10 n0 (false) (x5) (x6) (t2.1) t2.2.1 t2.2.2.1 (t2.2.2.2) (t1.1) t1.2.1 t1.2.2.1 (t1.2.2.2) (t0.1) t0.2.1 t0.2.2.1 (t0.2.2.2) (x7) (x8) (x9) (x10) (x11))))))) := by kernel_rfl
theorem dJ.aC1 (n0 : Nat) (x0 : Bool) (x1 x2 : Int) (x3 : Bool) (x4 x5 : Int) (x6 x7 : Bool) (x8 x9 : Int) (x10 x11 : Bool) (x12 x13 : Int) (x14 x15 : Bool) (x16 x17 : Bool) (x18 x19 : Bool) : dJ.j10 n0 x0 x1 x2 x3 x4 x5 x6 x7 x8 x9 x10 x11 x12 x13 x14 x15 x16 x17 x18 x19 = (if x0 = true then ((fI.f x2 x1 x11 x7).bind fun t0 => (some ((t0, false, false, false, false, false)))) else ((aC.f n0 x2 x1 x3 x4 x5 x6).bind fun t0 => (some ((t0.1, t0.2.1, t0.2.2.1, t0.2.2.2.1, t0.2.2.2.2.1, t0.2.2.2.2.2))))) := by kernel_rfl
set_option maxRecDepth 100000
theorem bV.eq (n0 : Nat) (a0 a1 : Int) (a2 : Bool) : bV.f n0 a0 a1 a2 = (if a1 ≤ 0 then ((YtolpdiifmacdbaaGreat.L.aR.f n0 a0 a1).bind fun t0 => (if a2 = true then (some ((t0.1, 1))) else (some ((t0.1, 0))))) else ((YtolpdiifmacdbaaGreat.L.aR.f n0 a0 a1).bind fun t0 => (if t0.2 = true then ((YtolpdiifmacdbaaGreat.L.aR.f n0 a0 (wrap64 (a1 - 1))).bind fun t1 => (if bits BinOp.and IntKind.u64 t1.1 1 = 0 then (some ((t0.1, 1))) else (if t1.2 = true then (some ((t0.1, 3))) else (if a2 = true then (some ((t0.1, 3))) else (some ((t0.1, 2))))))) else (if a2 = true then (some ((t0.1, 1))) else (some ((t0.1, 0))))))) := by kernel_rfl
theorem cB.eq (n0 : Nat) (a0 a1 a2 : Int) : cB.f n0 a0 a1 a2 = ((fJ.f a0 a1).bind fun t0 => ((fJ.f a0 a2).bind fun t1 => (some ((!t0.1 == t1.1, wrap64 (t0.2.1 + t1.2.1), IntKind.wrap IntKind.u64 (t0.2.2.1 * t1.2.2.1), false))))) := by kernel_rfl
theorem eX.eq (n0 : Nat) (a0_0 : Bool) (a0_1 a0_2 : Int) (a0_3 : Bool) : eX.f n0 a0_0 a0_1 a0_2 a0_3 = ((bits_Len.f n0 a0_2).bind fun t0 => ((YtolpdiifmacdbaaGreat.L.aR.f n0 a0_2 (wrap64 (-wrap64 (62 - t0)))).bind fun t1 => (some ((a0_0, wrap64 (a0_1 - wrap64 (62 - t0)), t1.1, a0_3))))) := by kernel_rfl
theorem bB.eq (n0 : Nat) (a0 a1 : Int) : bB.f n0 a0 a1 = (if a1 ≤ 0 then (if 0 ≤ mn (wrap64 (-a1)) 63 then (some ((shl IntKind.u64 a0 (mn (wrap64 (-a1)) 63), false, false))) else none) else (if 64 < a1 then (some ((0, false, !a0 == 0))) else ((YtolpdiifmacdbaaGreat.L.aD.f n0 a0 a1).bind fun t0 => ((YtolpdiifmacdbaaGreat.L.aD.f n0 a0 (wrap64 (a1 - 1))).bind fun t1 => ((YtolpdiifmacdbaaGreat.L.aD.f n0 a0 (wrap64 (a1 - 1))).bind fun t2 => (some ((t0.1, bits BinOp.and IntKind.u64 t1.1 1 == 1, t2.2)))))))) := by kernel_rfl
end L
namespace P
set_option maxRecDepth 100000
set_option maxHeartbeats 4000000 in
theorem bV.le {k n : Nat} (hk : k ≤ n) {a0 a1 : Int} {a2 : Bool} : LeO (bV.f k a0 a1 a2) (L.bV.f n a0 a1 a2) := by
 unfold bV.f
 rw [L.bV.eq]
 try simp only [Bool.and_true]
 repeat' first
  |(with_reducible exact LeO.refl _)
  |exact LeO.none _
  |(with_reducible first|exact aR.le hk|refine LeO.bind ?_ (fun _ => ?_)|refine LeO.fT Iff.rfl (fun _ => ?_) (fun _ => ?_))
  |exact aR.le hk
  |exact LeO.refl _
  |(with_reducible first|refine LeO.pos (by assumption) ?_|refine LeO.neg (by assumption) ?_|refine LeO.jT (by assumption) ?_|refine LeO.jW (by assumption) ?_|refine LeO.fT (by omega) (fun _ => ?_) (fun _ => ?_))
  |exact LeO.swap
  |(rw [shl_small rfl (by show (_ : Int) ≤ 64; unfold mn; split <;> omega)]; exact LeO.refl _)
set_option maxHeartbeats 4000000 in
theorem cB.le {k n : Nat} (hk : k ≤ n) {a0 a1 a2 : Int} : LeO (cB.f a0 a1 a2) (L.cB.f n a0 a1 a2) := by
 unfold cB.f
 rw [L.cB.eq]
 try simp only [Bool.and_true]
 repeat' first
  |(with_reducible exact LeO.refl _)
  |exact LeO.none _
  |(with_reducible first|refine LeO.bind ?_ (fun _ => ?_)|refine LeO.fT Iff.rfl (fun _ => ?_) (fun _ => ?_))
  |exact LeO.refl _
  |(with_reducible first|refine LeO.pos (by assumption) ?_|refine LeO.neg (by assumption) ?_|refine LeO.jT (by assumption) ?_|refine LeO.jW (by assumption) ?_|refine LeO.fT (by omega) (fun _ => ?_) (fun _ => ?_))
  |exact LeO.swap
  |(rw [shl_small rfl (by show (_ : Int) ≤ 64; unfold mn; split <;> omega)]; exact LeO.refl _)
set_option maxHeartbeats 4000000 in
theorem eX.le {k n : Nat} (hk : k ≤ n) {a0_0 : Bool} {a0_1 a0_2 : Int} {a0_3 : Bool} : LeO (eX.f k a0_0 a0_1 a0_2 a0_3) (L.eX.f n a0_0 a0_1 a0_2 a0_3) := by
 unfold eX.f
 rw [L.eX.eq]
 try simp only [Bool.and_true]
 repeat' first
  |(with_reducible exact LeO.refl _)
  |exact LeO.none _
  |(with_reducible first|exact fun r h => at_rounds (bits_Len.mono _) hk h|exact aR.le hk|refine LeO.bind ?_ (fun _ => ?_)|refine LeO.fT Iff.rfl (fun _ => ?_) (fun _ => ?_))
  |exact fun r h => at_rounds (bits_Len.mono _) hk h
  |exact aR.le hk
  |exact LeO.refl _
  |(with_reducible first|refine LeO.pos (by assumption) ?_|refine LeO.neg (by assumption) ?_|refine LeO.jT (by assumption) ?_|refine LeO.jW (by assumption) ?_|refine LeO.fT (by omega) (fun _ => ?_) (fun _ => ?_))
  |exact LeO.swap
  |(rw [shl_small rfl (by show (_ : Int) ≤ 64; unfold mn; split <;> omega)]; exact LeO.refl _)
set_option maxHeartbeats 4000000 in
theorem bB.le {k n : Nat} (hk : k ≤ n) {a0 a1 : Int} : LeO (bB.f k a0 a1) (L.bB.f n a0 a1) := by
 unfold bB.f
 rw [L.bB.eq]
 try simp only [Bool.and_true]
 repeat' first
  |(with_reducible exact LeO.refl _)
  |exact LeO.none _
  |(with_reducible first|exact aD.le hk|refine LeO.bind ?_ (fun _ => ?_)|refine LeO.fT Iff.rfl (fun _ => ?_) (fun _ => ?_))
  |exact aD.le hk
  |exact LeO.refl _
  |(with_reducible first|refine LeO.pos (by assumption) ?_|refine LeO.neg (by assumption) ?_|refine LeO.jT (by assumption) ?_|refine LeO.jW (by assumption) ?_|refine LeO.fT (by omega) (fun _ => ?_) (fun _ => ?_))
  |exact LeO.swap
  |(rw [shl_small rfl (by show (_ : Int) ≤ 64; unfold mn; split <;> omega)]; exact LeO.refl _)
end P
end
end Go.Proofs.YtolpdiifmacdbaaGreat
