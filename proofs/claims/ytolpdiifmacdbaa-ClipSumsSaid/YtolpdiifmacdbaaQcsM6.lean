import Derived.Test.YtolpdiifmacdbaaQcsM5
import Derived.Test.YtolpdiifmacdbaaQcsM4
import Derived.Test.YtolpdiifmacdbaaQcsZ
/- What is a number already is rounded to it; a greater number isn't rounded to a lesser one: of the plain numbers that the rounding computes. -/
set_option linter.unusedVariables false
set_option linter.unusedSimpArgs false
namespace Go.Proofs.Ytolpdiifmacdbaa.Round
open Go.RowKit Go.Proofs.Ytolpdiifmacdbaa.P Go.Proofs.Ytolpdiifmacdbaa.Num Go.Proofs.Ytolpdiifmacdbaa.BitsF Go.Proofs.Ytolpdiifmacdbaa.Fmt Go.Proofs.YtolpdiifmacdbaaW.PrintWords Go.Proofs.YtolpdiifmacdbaaW.PrintLast Go.Proofs.YtolpdiifmacdbaaW.PrintMore

theorem up_none (mode : Int) (neg : Bool) (q : Nat) : upN mode neg q 0 = false := by unfold upN; simp
theorem xL (f : Int) (M s r : Nat) (hM : M < 2 ^ (fm f + 1)) (hr : r = 0 ∨ 2 ^ fm f ≤ M) :
  gU f (bW f - fm f + r - s) (M * 2 ^ s) = r ∧ lG (M * 2 ^ s) (dZ f (bW f - fm f + r - s) (M * 2 ^ s) - (bW f - fm f + r - s)) = M ∧ iR (M * 2 ^ s) (dZ f (bW f - fm f + r - s) (M * 2 ^ s) - (bW f - fm f + r - s)) false = 0 := by
 have hrise : gU f (bW f - fm f + r - s) (M * 2 ^ s) = r := by
  unfold gU
  by_cases c : M = 0
  ·subst c
   rw [Nat.zero_mul, if_pos rfl]
   rcases hr with h | h
   ·exact h.symm
   ·have := Nat.two_pow_pos (fm f); omega
  ·rw [if_neg (Nat.mul_ne_zero c (Nat.ne_of_gt (Nat.two_pow_pos s))), lenN_mul M s c]
   have h1 := fA M (fm f + 1) hM
   have h2 := kH M c
   have h3 : r ≠ 0 → fm f < gD M := fun h => lenN_ge M (fm f) (hr.resolve_left h)
   omega
 have hu : dZ f (bW f - fm f + r - s) (M * 2 ^ s) - (bW f - fm f + r - s) = (s : Int) := by
  unfold dZ; rw [hrise]; omega
 rw [hu]
 have hp := Nat.two_pow_pos s
 refine ⟨hrise, ?_, jQ _ (.inr ?_)⟩
 ·unfold lG
  by_cases c : (s : Int) ≤ 0
  ·obtain rfl : s = 0 := by omega
   simp
  ·rw [if_neg c, Int.toNat_natCast, Nat.mul_div_cancel _ hp]
 ·rw [Int.toNat_natCast, Nat.mul_mod_left]
theorem vI (f mode : Int) (neg : Bool) (M s r : Nat) (hM : M < 2 ^ (fm f + 1)) (hr : r = 0 ∨ 2 ^ fm f ≤ M) (ht : r * 2 ^ fm f + M < fC f * 2 ^ fm f) :
  j4 f mode neg (bW f - fm f + r - s) (M * 2 ^ s) false = r * 2 ^ fm f + M + cK f neg ∧ vB f mode neg (bW f - fm f + r - s) (M * 2 ^ s) false = (false, false, false) := by
 obtain ⟨h1, h2, h3⟩ := xL f M s r hM hr
 have hk : keyN f mode neg (bW f - fm f + r - s) (M * 2 ^ s) false = r * 2 ^ fm f + M := by
  unfold keyN; rw [h3, up_none, h1, h2]; simp
 have ho : iQ f (r * 2 ^ fm f + M) = false := by unfold iQ; rw [decide_eq_false_iff_not]; omega
 constructor
 ·unfold j4; rw [hk, ho]; simp
 ·unfold vB tN vZ; rw [hk, ho, h3]; simp
theorem iW (f : Int) (v : Nat) : bG f v < 2 ^ (fm f + 1) := by
 have hf := sD f v
 have hs : 2 ^ (fm f + 1) = 2 * 2 ^ fm f := by rw [Nat.pow_succ, Nat.mul_comm]
 unfold bG; split <;> omega

end Go.Proofs.Ytolpdiifmacdbaa.Round

-- Printed by a program of this session's out of Lean's print of the translation; Lean checks it.
namespace Go.Proofs.Ytolpdiifmacdbaa.P
open Go.RowKit Go.Proofs.YtolpdiifmacdbaaW.PrintWords Go.Proofs.YtolpdiifmacdbaaW.PrintLast Go.Proofs.YtolpdiifmacdbaaW.PrintMore
attribute [local go_sem] max2_int min2_int max_two min_two max_three min_three max_four min_four

-- NOT PRINTED: function 29 (clip_Norm)

-- NOT PRINTED: function 40 (clip_Clip_1)

-- NEED 0
/-! ### format_IsNan: function 112 -/
-- NEED 0
/-! ### format_Mask: function 119 -/
-- NEED 0
/-! ### format_Turn: function 111 -/
-- NEED 0
/-! ### order_Key: function 113 -/
end Go.Proofs.Ytolpdiifmacdbaa.P

/- Which numbers are none, infinite, nought; bits of a format alone: the program's, as plain numbers. -/
namespace Go.Proofs.Ytolpdiifmacdbaa.Round
open Go.RowKit Go.Proofs.Ytolpdiifmacdbaa.P Go.Proofs.Ytolpdiifmacdbaa.Num Go.Proofs.Ytolpdiifmacdbaa.BitsF Go.Proofs.Ytolpdiifmacdbaa.Fmt Go.Proofs.YtolpdiifmacdbaaW.PrintWords Go.Proofs.YtolpdiifmacdbaaW.PrintLast Go.Proofs.YtolpdiifmacdbaaW.PrintMore

theorem mK (f : Int) (v : Nat) (hv : v < 4294967296) : Ev (fun k => aQ.f k f (v : Int)) (decide (bE f v = 0)) := by
 refine Ev.congr (fun k => by unfold aQ.f; rfl) (Ev.bind (kR f v hv) (Ev.congr (fun k => ?_) (Ev.now _)))
 rw [show (0 : Int) = ((0 : Nat) : Int) from rfl, oP]
theorem eU (f : Int) (v : Nat) (hv : v < 4294967296) : Ev (fun k => aD.f k f (v : Int)) (decide (bE f v = 3)) := by
 refine Ev.congr (fun k => by unfold aD.f; rfl) (Ev.bind (kR f v hv) (Ev.congr (fun k => ?_) (Ev.now _)))
 rw [show (3 : Int) = ((3 : Nat) : Int) from rfl, oP]
theorem gN (f : Int) (L : List Int) (i v : Nat) (b c : Bool) (r : Int × Bool × Bool × Bool × Bool × Bool × Bool) (hi : i < L.length) (hn : L.length ≤ 100) (hv : v < 4294967296) (hr : rd L (i : Int) = (v : Int))
  (h : Ev (fun k => aN.l0 k f (b || dX f v) L (L.length : Int) ((i + 1 : Nat) : Int) (c || eQ f v) false false false false) r) : Ev (fun k => aN.l0 k f b L (L.length : Int) (i : Int) c false false false false) r := by
 have hw : wrap64 ((i : Int) + 1) = ((i + 1 : Nat) : Int) := by rw [bS _ (by omega) (by omega)]; omega
 refine Ev.step (fun k => by rw [aN.l0, if_pos (by omega), if_pos (Int.natCast_nonneg _), if_pos (by omega), hr, hw]) (Ev.bind (kR f v hv) (Ev.congr (fun k => ?_) h))
 have e5 : (((bE f v : Nat) : Int) == 5) = eQ f v := by rw [show (5 : Int) = ((5 : Nat) : Int) from rfl, oP]; rfl
 have e4 : decide (((bE f v : Nat) : Int) ≥ 4) = dX f v := by unfold dX; apply decide_eq_decide.mpr; omega
 rw [e5, e4]
 cases b <;> cases c <;> simp
theorem nM (f : Int) (L : List Int) (b c : Bool) : Ev (fun k => aN.l0 k f b L (L.length : Int) (L.length : Int) c false false false false) ((nP f : Int), c, false, false, false, false, b) :=
 Ev.step (fun k => by rw [aN.l0, if_neg (by omega), nan_f]; rfl) (Ev.now _)
theorem wO (f : Int) (v : Nat) (hv : v < 4294967296) : Ev (fun k => aN.f k f [(v : Int)]) ((nP f : Int), eQ f v, false, false, false, false, dX f v) := by
 refine Ev.congr (fun k => by unfold aN.f; rfl) (gN f _ 0 v false false _ (by simp) (by simp) hv rfl ?_)
 rw [Bool.false_or, Bool.false_or]
 exact nM f [(v : Int)] _ _
theorem nU (f : Int) (a b : Nat) (ha : a < 4294967296) (hb : b < 4294967296) : Ev (fun k => aN.f k f [(a : Int), (b : Int)]) ((nP f : Int), eQ f a || eQ f b, false, false, false, false, dX f a || dX f b) := by
 refine Ev.congr (fun k => by unfold aN.f; rfl) (gN f _ 0 a false false _ (by simp) (by simp) ha rfl (gN f _ 1 b _ _ _ (by simp) (by simp) hb rfl ?_))
 rw [Bool.false_or, Bool.false_or]
 exact nM f [(a : Int), (b : Int)] _ _
theorem pI (f : Int) (v : Nat) (h : bE f v = 0) : xA f v = cK f (bZ f v) ∧ bG f v = 0 := by
 have hz : lK f v = 0 ∧ iX f v = 0 := by
  unfold bE at h
  by_cases c : lK f v = 0
  ·rw [if_pos c] at h
   by_cases d : iX f v = 0
   ·exact ⟨c, d⟩
   ·rw [if_neg d] at h; omega
  ·rw [if_neg c] at h
   split at h
   ·omega
   ·split at h
    ·omega
    ·split at h <;> omega
 have hp := xD f v
 rw [exp_low, frac_low, neg_low, hz.1, hz.2] at hp
 refine ⟨by omega, ?_⟩
 unfold bG; rw [if_pos hz.1, hz.2]
theorem pV (f : Int) (v : Nat) : bG f v < 18446744073709551616 := by
 have h := dC f
 have h1 := iW f v
 have h2 := dL (show fm f + 1 ≤ 31 by omega)
 omega
theorem dH (f : Int) (v : Nat) : -200 ≤ bC f v ∧ bC f v ≤ 300 := by
 have := gT f; have := fG f; have := dC f; have := wM f v
 unfold bC; omega
theorem iC (f : Int) (v : Nat) (h : bE f v < 3) : lK f v < fC f := (oM f v).mp h
/- Sums to all bits that rounding asks for: plain numbers alone. -/

def iE (s : Nat) : Nat := 62 - gD s
def l7 (na : Bool) (Ea : Int) (A : Nat) (nb : Bool) (Eb : Int) (B : Nat) : Bool × Int × Nat × Bool :=
 if na = nb then (na, Ea, A + B / 2 ^ (Ea - Eb).toNat, decide (B % 2 ^ (Ea - Eb).toNat ≠ 0))
 else (na, Ea, A - B / 2 ^ (Ea - Eb).toNat - (if B % 2 ^ (Ea - Eb).toNat ≠ 0 then 1 else 0), decide (B % 2 ^ (Ea - Eb).toNat ≠ 0))
def fT (n1 : Bool) (e1 : Int) (s1 : Nat) (n2 : Bool) (e2 : Int) (s2 : Nat) : Bool × Int × Nat × Bool :=
 if s1 = 0 then (n2, e2, s2, false) else if s2 = 0 then (n1, e1, s1, false)
 else if e1 - (iE s1 : Int) < e2 - (iE s2 : Int) ∨ e1 - (iE s1 : Int) = e2 - (iE s2 : Int) ∧ s1 * 2 ^ iE s1 < s2 * 2 ^ iE s2 then l7 n2 (e2 - (iE s2 : Int)) (s2 * 2 ^ iE s2) n1 (e1 - (iE s1 : Int)) (s1 * 2 ^ iE s1)
 else l7 n1 (e1 - (iE s1 : Int)) (s1 * 2 ^ iE s1) n2 (e2 - (iE s2 : Int)) (s2 * 2 ^ iE s2)
theorem iI (s : Nat) (h : s ≠ 0) (h' : s < 4611686018427387904) : iE s ≤ 61 ∧ gD s + iE s = 62 ∧ 2305843009213693952 ≤ s * 2 ^ iE s ∧ s * 2 ^ iE s < 4611686018427387904 := by
 have h1 := fA s 62 h'
 have h2 := kH s h
 have e : gD s + iE s = 62 := by unfold iE; omega
 have hp := Nat.two_pow_pos (iE s)
 have l1 := Nat.mul_le_mul_right (2 ^ iE s) (p8 s h)
 have l2 := Nat.mul_lt_mul_of_pos_right (pJ s) hp
 rw [← Nat.pow_add, show gD s - 1 + iE s = 61 by omega] at l1
 rw [← Nat.pow_add, e] at l2
 exact ⟨by omega, e, l1, l2⟩
theorem uW (n1 : Bool) (e1 : Int) (s1 : Nat) (n2 : Bool) (e2 : Int) (s2 : Nat) :
  fT n1 e1 s1 n2 e2 s2 = fT n2 e2 s2 n1 e1 s1 ∨ ((fT n1 e1 s1 n2 e2 s2).2.2 = (0, false) ∧ (fT n2 e2 s2 n1 e1 s1).2.2 = (0, false)) := by
 unfold fT
 by_cases h1 : s1 = 0
 ·rw [if_pos h1]
  by_cases h2 : s2 = 0
  ·rw [if_pos h2]; right; rw [h1, h2]; exact ⟨rfl, rfl⟩
  ·rw [if_neg h2, if_pos h1]; left; rfl
 ·rw [if_neg h1]
  by_cases h2 : s2 = 0
  ·rw [if_pos h2, if_pos h2]; left; rfl
  ·rw [if_neg h2, if_neg h2, if_neg h1]
   generalize e1 - (iE s1 : Int) = E1
   generalize e2 - (iE s2 : Int) = E2
   generalize s1 * 2 ^ iE s1 = A
   generalize s2 * 2 ^ iE s2 = B
   by_cases c : E1 < E2 ∨ E1 = E2 ∧ A < B
   ·rw [if_pos c, if_neg (show ¬ (E2 < E1 ∨ E2 = E1 ∧ B < A) by omega)]; left; rfl
   ·rw [if_neg c]
    by_cases d : E2 < E1 ∨ E2 = E1 ∧ B < A
    ·rw [if_pos d]; left; rfl
    ·rw [if_neg d]
     obtain rfl : E1 = E2 := by omega
     obtain rfl : A = B := by omega
     unfold l7
     rw [Int.sub_self, show (0 : Int).toNat = 0 from rfl, Nat.pow_zero, Nat.div_one, Nat.mod_one]
     by_cases n : n1 = n2
     ·subst n; left; rfl
     ·rw [if_neg n, if_neg (show ¬ n2 = n1 from fun h => n h.symm)]; right; simp
/- Sums, rounded: plain numbers alone. -/

def jC (f mode : Int) (a b : Bool) : Nat := if a = b then cK f a else cK f (decide (mode = 3))
def dR (f mode : Int) (a b : Bool) (r : Bool × Int × Nat × Bool) : Nat := if r.2.2 = (0, false) then jC f mode a b else j4 f mode r.1 r.2.1 r.2.2.1 r.2.2.2
def dW (f mode : Int) (r : Bool × Int × Nat × Bool) : Bool × Bool × Bool := if r.2.2 = (0, false) then (false, false, false) else vB f mode r.1 r.2.1 r.2.2.1 r.2.2.2
def kW (f : Int) (a b : Nat) : Bool × Int × Nat × Bool := fT (bZ f a) (bC f a) (bG f a) (bZ f b) (bC f b) (bG f b)
def pR (f mode : Int) (a b : Nat) : Nat :=
 if 4 ≤ bE f a ∨ 4 ≤ bE f b then nP f else if bE f a = 3 ∧ bE f b = 3 ∧ bZ f a ≠ bZ f b then nP f else if bE f a = 3 then mO f (bZ f a) else if bE f b = 3 then mO f (bZ f b)
 else dR f mode (bZ f a) (bZ f b) (kW f a b)
def sumX (f mode : Int) (a b : Nat) : Bool × Bool × Bool × Bool × Bool :=
 if 4 ≤ bE f a ∨ 4 ≤ bE f b then (eQ f a || eQ f b, false, false, false, false) else if bE f a = 3 ∧ bE f b = 3 ∧ bZ f a ≠ bZ f b then (true, false, false, false, false) else if bE f a = 3 ∨ bE f b = 3 then (false, false, false, false, false)
 else (false, false, dW f mode (kW f a b))
theorem nH (f mode : Int) (a b : Bool) : jC f mode a b = jC f mode b a := by
 unfold jC; cases a <;> cases b <;> rfl
theorem sum_turn (f mode : Int) (a b : Nat) : pR f mode a b = pR f mode b a ∧ sumX f mode a b = sumX f mode b a := by
 have key : dR f mode (bZ f a) (bZ f b) (kW f a b) = dR f mode (bZ f b) (bZ f a) (kW f b a) ∧ dW f mode (kW f a b) = dW f mode (kW f b a) := by
  have := uW (bZ f a) (bC f a) (bG f a) (bZ f b) (bC f b) (bG f b)
  unfold kW dR dW
  rcases this with h | ⟨h1, h2⟩
  ·rw [h, nH]; exact ⟨rfl, rfl⟩
  ·rw [if_pos h1, if_pos h2, if_pos h1, if_pos h2, nH]; exact ⟨rfl, rfl⟩
 unfold pR sumX
 rw [key.1, key.2, Bool.or_comm (eQ f a)]
 by_cases n : 4 ≤ bE f a ∨ 4 ≤ bE f b
 ·rw [if_pos n, if_pos n, if_pos n.symm, if_pos n.symm]; exact ⟨rfl, rfl⟩
 ·rw [if_neg n, if_neg n, if_neg (show ¬ (4 ≤ bE f b ∨ 4 ≤ bE f a) from fun h => n h.symm), if_neg (show ¬ (4 ≤ bE f b ∨ 4 ≤ bE f a) from fun h => n h.symm)]
  by_cases t : bE f a = 3 ∧ bE f b = 3 ∧ bZ f a ≠ bZ f b
  ·have t' : bE f b = 3 ∧ bE f a = 3 ∧ bZ f b ≠ bZ f a := ⟨t.2.1, t.1, fun h => t.2.2 h.symm⟩
   rw [if_pos t, if_pos t, if_pos t', if_pos t']; exact ⟨rfl, rfl⟩
  ·have t' : ¬ (bE f b = 3 ∧ bE f a = 3 ∧ bZ f b ≠ bZ f a) := fun h => t ⟨h.2.1, h.1, fun e => h.2.2 e.symm⟩
   rw [if_neg t, if_neg t, if_neg t', if_neg t']
   by_cases a3 : bE f a = 3
   ·by_cases b3 : bE f b = 3
    ·have e : bZ f a = bZ f b := Decidable.not_not.mp (fun h => t ⟨a3, b3, h⟩)
     rw [if_pos a3, if_pos b3, if_pos (.inl a3), if_pos (.inl b3), e]; exact ⟨rfl, rfl⟩
    ·rw [if_pos a3, if_neg b3, if_pos a3, if_pos (.inl a3), if_pos (.inr a3)]; exact ⟨rfl, rfl⟩
   ·by_cases b3 : bE f b = 3
    ·rw [if_neg a3, if_pos b3, if_pos b3, if_pos (.inr b3), if_pos (.inl b3)]; exact ⟨rfl, rfl⟩
    ·rw [if_neg a3, if_neg b3, if_neg b3, if_neg a3, if_neg (show ¬ (bE f a = 3 ∨ bE f b = 3) by omega), if_neg (show ¬ (bE f b = 3 ∨ bE f a = 3) by omega)]; exact ⟨rfl, rfl⟩
end Go.Proofs.Ytolpdiifmacdbaa.Round

-- Printed by a program of this session's out of Lean's print of the translation; Lean checks it.
namespace Go.Proofs.Ytolpdiifmacdbaa.P
open Go.RowKit Go.Proofs.YtolpdiifmacdbaaW.PrintWords Go.Proofs.YtolpdiifmacdbaaW.PrintLast Go.Proofs.YtolpdiifmacdbaaW.PrintMore
attribute [local go_sem] max2_int min2_int max_two min_two max_three min_three max_four min_four

-- NEED 0
/-! ### aG: function 98 -/
mutual
def aG.j0 : Nat → Bool → Bool → Int → Int → Bool → Bool → Int → Int → Bool → Option (Bool × Int × Int × Bool)
 |0, _, _, _, _, _, _, _, _, _ => none
 |k + 1, x39, x344000, x344001, x344002, x344003, x345000, x345001, x345002, x345003 => if x39 = true then (aG.j1 k x345000 x345001 x345002 x345003 x344000 x344001 x344002 x344003) else (aG.j1 k x344000 x344001 x344002 x344003 x345000 x345001 x345002 x345003)
def aG.j1 : Nat → Bool → Int → Int → Bool → Bool → Int → Int → Bool → Option (Bool × Int × Int × Bool)
 |0, _, _, _, _, _, _, _, _ => none
 |k + 1, x344000, x344001, x344002, x344003, x345000, x345001, x345002, x345003 => (aH.f k x345002 (wrap64 (x344001 - x345001))).bind fun bt354 => (if (x344000 == x345000) = true then (some (x344000, x344001, IntKind.u64.wrap (x344002 + bt354.1), bt354.2)) else (if bt354.2 = true then (aG.j2 k x344000 x344001 (IntKind.u64.wrap ((IntKind.u64.wrap (x344002 - bt354.1)) - 1)) bt354.2) else (aG.j2 k x344000 x344001 (IntKind.u64.wrap (x344002 - bt354.1)) bt354.2)))
def aG.j2 : Nat → Bool → Int → Int → Bool → Option (Bool × Int × Int × Bool)
 |0, _, _, _, _ => none
 |k + 1, x344000, x344001, x344002, x344003 => some (x344000, x344001, x344002, x344003)
end
def aG.f (k : Nat) (a0_0 : Bool) (a0_1 a0_2 : Int) (a0_3 a1_0 : Bool) (a1_1 a1_2 : Int) (a1_3 : Bool) : Option (Bool × Int × Int × Bool) := if a0_2 = 0 then (some (a1_0, a1_1, a1_2, a1_3)) else (if a1_2 = 0 then (some (a0_0, a0_1, a0_2, a0_3)) else ((cO.f k a0_0 a0_1 a0_2 a0_3).bind fun bt346 => ((cO.f k a1_0 a1_1 a1_2 a1_3).bind fun bt350 => (if bt346.2.1 < bt350.2.1 then (aG.j0 k true bt346.1 bt346.2.1 bt346.2.2.1 bt346.2.2.2 bt350.1 bt350.2.1 bt350.2.2.1 bt350.2.2.2) else (if bt346.2.1 = bt350.2.1 then (aG.j0 k (decide (bt346.2.2.1 < bt350.2.2.1)) bt346.1 bt346.2.1 bt346.2.2.1 bt346.2.2.2 bt350.1 bt350.2.1 bt350.2.2.1 bt350.2.2.2) else (aG.j0 k false bt346.1 bt346.2.1 bt346.2.2.1 bt346.2.2.2 bt350.1 bt350.2.1 bt350.2.2.1 bt350.2.2.2))))))
-- NEED 0
/-! ### dB: function 99 -/
def dB.f (a0 a1 : Int) (a2 a3 : Bool) : Option (Int) := if (a2 == a3) = true then ((bN.f a0 a2).bind fun t356 => (some t356)) else ((bN.f a0 (a1 == 3)).bind fun t357 => (some t357))
set_option maxHeartbeats 8000000 in
set_option maxRecDepth 100000 in
theorem dB.calls (a0 a1 : Int) (a2 a3 : Bool) (r : Int) (w : World) (h : dB.f a0 a1 a2 a3 = some r) :
  Calls Try.prog 99 #[.int .i64 a0, .int .i64 a1, .bool a2, .bool a3] w fun e w' => e = .returned (.int .u32 r) ∧ Drawn0 w w' := by
 have H : (if (a2 == a3) = true then ((bN.f a0 a2).bind fun t356 => (some t356)) else ((bN.f a0 (a1 == 3)).bind fun t357 => (some t357))) = some r := h
 clear h
 by_cases c5 : (a2 == a3) = true
 ·rw [if_pos c5] at H
  have c5b0 : (a2 == a3) = true := c5
  (try (have c5b1 : decide (a2 = a3) = true := by simpa using c5))
  (try (have c5b2 : (a2 == a3) = true := by simpa using c5))
  clear c5
  replace H := bq_ H
  obtain ⟨t356, A60, H⟩ := H
  replace H : (some t356) = some r := H
  have A6 := Aside0.mk A60
  clear A60
  obtain rfl := Option.some.inj H
  go_enter Try.func99, Try.ntmps99
  go_wp2_with (first | ((with_reducible refine gate_callee (f := 89) rfl ?_); refine goesL_ (some 14) rfl rfl Try.func89 (by kernel_rfl) rfl #[.int .i64 a0, .bool a2] rfl gl ?_; (with_reducible refine (bN.calls a0 a2 t356 _ A6.out).mono ?_); rintro e w' ⟨rfl, ⟨nd, rfl⟩⟩; refine ⟨_, rfl, ?_⟩))
  go_ret
  exact ⟨gr_, gd_⟩
 ·rw [if_neg c5] at H
  have c5b0 : (a2 == a3) = false := by simpa using c5
  (try (have c5b1 : decide (a2 = a3) = false := by simpa using c5))
  (try (have c5b2 : (a2 == a3) = false := by simpa using c5))
  (try (have c5b3 : ¬ (a2 = a3) := by simpa using c5))
  clear c5
  replace H := bq_ H
  obtain ⟨t357, A70, H⟩ := H
  replace H : (some t357) = some r := H
  have A7 := Aside0.mk A70
  clear A70
  obtain rfl := Option.some.inj H
  go_enter Try.func99, Try.ntmps99
  go_wp2_with (first | ((with_reducible refine gate_callee (f := 89) rfl ?_); refine goesL_ (some 18) rfl rfl Try.func89 (by kernel_rfl) rfl #[.int .i64 a0, .bool (a1 == 3)] rfl gl ?_; (with_reducible refine (bN.calls a0 (a1 == 3) t357 _ A7.out).mono ?_); rintro e w' ⟨rfl, ⟨nd, rfl⟩⟩; refine ⟨_, rfl, ?_⟩))
  go_ret
  exact ⟨gr_, gd_⟩

end Go.Proofs.Ytolpdiifmacdbaa.P

/- Sums to all bits that rounding asks for: the program's, as plain numbers. -/
namespace Go.Proofs.Ytolpdiifmacdbaa.Round
open Go.RowKit Go.Proofs.Ytolpdiifmacdbaa.P Go.Proofs.Ytolpdiifmacdbaa.Num Go.Proofs.Ytolpdiifmacdbaa.BitsF Go.Proofs.Ytolpdiifmacdbaa.Fmt Go.Proofs.YtolpdiifmacdbaaW.PrintWords Go.Proofs.YtolpdiifmacdbaaW.PrintLast Go.Proofs.YtolpdiifmacdbaaW.PrintMore

theorem up_shift (v n : Nat) (h : v * 2 ^ n < 18446744073709551616) : (iL v (-(n : Int))).1 = v * 2 ^ n := by
 have hp := Nat.two_pow_pos n
 have hv : v < 18446744073709551616 := Nat.lt_of_le_of_lt (Nat.le_mul_of_pos_right v hp) h
 rw [iP v n hv]
 exact Nat.mod_eq_of_lt h
theorem yA (n : Bool) (e : Int) (s : Nat) (m : Bool) (h : s ≠ 0) (h' : s < 4611686018427387904) (l : -100000 ≤ e) (l' : e ≤ 100000) : Ev (fun k => cO.f k n e (s : Int) m) (n, e - (iE s : Int), ((s * 2 ^ iE s : Nat) : Int), m) := by
 obtain ⟨a1, a2, a3, a4⟩ := iI s h h'
 have hw : wrap64 (62 - (gD s : Int)) = (iE s : Int) := by rw [bS _ (by omega) (by omega)]; omega
 refine Ev.congr (fun k => by unfold cO.f; rfl) (Ev.bind (xV s (by omega)) ?_)
 rw [hw, bS (-(iE s : Int)) (by omega) (by omega), bS (e - (iE s : Int)) (by omega) (by omega)]
 refine Ev.bind (mP s (by omega) (-(iE s : Int)) (by omega) (by omega)) ?_
 dsimp only
 rw [up_shift _ _ (by omega)]
 exact Ev.now _
def sS (r : Bool × Int × Nat × Bool) : Bool × Int × Int × Bool := (r.1, r.2.1, (r.2.2.1 : Int), r.2.2.2)
theorem sub_w (A L : Nat) (h : L ≤ A) (hA : A < 18446744073709551616) : IntKind.u64.wrap ((A : Int) - (L : Int)) = ((A - L : Nat) : Int) := by rw [jT]; omega
theorem wF (A L : Nat) (h : L + 1 ≤ A) (hA : A < 18446744073709551616) : IntKind.u64.wrap (((A - L : Nat) : Int) - 1) = ((A - L - 1 : Nat) : Int) := by rw [jT]; omega
theorem yD (na : Bool) (Ea : Int) (A : Nat) (nb : Bool) (Eb : Int) (B : Nat) (h : Eb ≤ Ea) (h0 : Ea = Eb → B ≤ A) (a1 : 2305843009213693952 ≤ A) (a2 : A < 4611686018427387904) (b2 : B < 4611686018427387904) (l1 : -200000 ≤ Eb) (l2 : Ea ≤ 200000) :
  Ev (fun k => aG.j1 k na Ea (A : Int) false nb Eb (B : Int) false) (sS (l7 na Ea A nb Eb B)) := by
 obtain ⟨d, hd⟩ : ∃ d : Nat, Ea - Eb = (d : Int) := ⟨(Ea - Eb).toNat, by omega⟩
 have hlow : B / 2 ^ d ≤ A ∧ (B % 2 ^ d ≠ 0 → B / 2 ^ d + 1 ≤ A) := by
  rcases Nat.eq_zero_or_pos d with c | c
  ·subst c
   have := h0 (by omega)
   rw [Nat.pow_zero, Nat.div_one, Nat.mod_one]; omega
  ·have h2 : 2 ^ 1 ≤ 2 ^ d := Nat.pow_le_pow_right (by decide) c
   have h3 : B / 2 ^ d ≤ B / 2 := Nat.div_le_div_left h2 (by decide)
   omega
 have hl62 : B / 2 ^ d < 4611686018427387904 := Nat.lt_of_le_of_lt (Nat.div_le_self _ _) b2
 refine Ev.step (fun k => by rw [aG.j1, bS (Ea - Eb) (by omega) (by omega), hd]) (Ev.bind (mP B (by omega) (d : Int) (by omega) (by omega)) ?_)
 rw [gV]
 dsimp only
 unfold l7 sS
 rw [hd, Int.toNat_natCast]
 by_cases n : na = nb
 ·subst n
  rw [if_pos rfl]
  refine Ev.congr (fun k => ?_) (Ev.now _)
  rw [if_pos (beq_self_eq_true na), ← Int.natCast_add, eG _ (by omega)]
 ·rw [if_neg n]
  have hb : ¬ (na == nb) = true := by rw [beq_iff_eq]; exact n
  by_cases o : B % 2 ^ d ≠ 0
  ·have := hlow.2 o
   rw [if_pos o]
   refine Ev.congr (fun k => ?_) (show Ev (fun k => aG.j2 k na Ea ((A - B / 2 ^ d - 1 : Nat) : Int) (decide (B % 2 ^ d ≠ 0))) (na, Ea, ((A - B / 2 ^ d - 1 : Nat) : Int), decide (B % 2 ^ d ≠ 0)) from Ev.step (fun k => by rw [aG.j2]) (Ev.now _))
   rw [if_neg hb, if_pos (decide_eq_true o)]
   rw [sub_w A _ hlow.1 (by omega), wF A _ this (by omega)]
  ·rw [if_neg o, Nat.sub_zero]
   refine Ev.congr (fun k => ?_) (show Ev (fun k => aG.j2 k na Ea ((A - B / 2 ^ d : Nat) : Int) (decide (B % 2 ^ d ≠ 0))) (na, Ea, ((A - B / 2 ^ d : Nat) : Int), decide (B % 2 ^ d ≠ 0)) from Ev.step (fun k => by rw [aG.j2]) (Ev.now _))
   rw [if_neg hb, if_neg (show ¬ decide (B % 2 ^ d ≠ 0) = true by rw [decide_eq_true_iff]; exact o)]
   rw [sub_w A _ hlow.1 (by omega)]
theorem uG (n1 : Bool) (e1 : Int) (s1 : Nat) (n2 : Bool) (e2 : Int) (s2 : Nat) (h1 : s1 < 4611686018427387904) (h2 : s2 < 4611686018427387904) (l1 : -100000 ≤ e1) (l1' : e1 ≤ 100000) (l2 : -100000 ≤ e2) (l2' : e2 ≤ 100000) :
  Ev (fun k => aG.f k n1 e1 (s1 : Int) false n2 e2 (s2 : Int) false) (sS (fT n1 e1 s1 n2 e2 s2)) := by
 refine Ev.congr (fun k => by unfold aG.f; rfl) ?_
 unfold fT
 by_cases z1 : s1 = 0
 ·rw [if_pos z1]
  exact Ev.congr (fun k => by rw [if_pos (by omega)]; rfl) (Ev.now _)
 ·rw [if_neg z1]
  by_cases z2 : s2 = 0
  ·rw [if_pos z2]
   exact Ev.congr (fun k => by rw [if_neg (by omega), if_pos (by omega)]; rfl) (Ev.now _)
  ·rw [if_neg z2]
   obtain ⟨a1, a2, a3, a4⟩ := iI s1 z1 h1
   obtain ⟨b1, b2, b3, b4⟩ := iI s2 z2 h2
   refine Ev.congr (fun k => by rw [if_neg (by omega), if_neg (by omega)]) (Ev.bind (yA n1 e1 s1 false z1 h1 l1 l1') (Ev.bind (yA n2 e2 s2 false z2 h2 l2 l2') ?_))
   dsimp only
   generalize hE1 : e1 - (iE s1 : Int) = E1 at *
   generalize hE2 : e2 - (iE s2 : Int) = E2 at *
   generalize s1 * 2 ^ iE s1 = A at *
   generalize s2 * 2 ^ iE s2 = B at *
   have swap : (E1 < E2 ∨ E1 = E2 ∧ A < B) → Ev (fun k => aG.j0 k true n1 E1 (A : Int) false n2 E2 (B : Int) false) (sS (if E1 < E2 ∨ E1 = E2 ∧ A < B then l7 n2 E2 B n1 E1 A else l7 n1 E1 A n2 E2 B)) := by
    intro c
    rw [if_pos c]
    exact Ev.step (fun k => by rw [aG.j0, if_pos rfl]) (yD n2 E2 B n1 E1 A (by omega) (by omega) b3 b4 a4 (by omega) (by omega))
   have stay : ¬ (E1 < E2 ∨ E1 = E2 ∧ A < B) → Ev (fun k => aG.j0 k false n1 E1 (A : Int) false n2 E2 (B : Int) false) (sS (if E1 < E2 ∨ E1 = E2 ∧ A < B then l7 n2 E2 B n1 E1 A else l7 n1 E1 A n2 E2 B)) := by
    intro c
    rw [if_neg c]
    exact Ev.step (fun k => by rw [aG.j0, if_neg (by decide)]) (yD n1 E1 A n2 E2 B (by omega) (by omega) a3 a4 b4 (by omega) (by omega))
   by_cases c1 : E1 < E2
   ·exact Ev.congr (fun k => by rw [if_pos c1]) (swap (.inl c1))
   ·by_cases c2 : E1 = E2
    ·by_cases c3 : A < B
     ·exact Ev.congr (fun k => by rw [if_neg c1, if_pos c2, decide_eq_true (show (A : Int) < (B : Int) by omega)]) (swap (.inr ⟨c2, c3⟩))
     ·exact Ev.congr (fun k => by rw [if_neg c1, if_pos c2, decide_eq_false (show ¬ (A : Int) < (B : Int) by omega)]) (stay (by omega))
    ·exact Ev.congr (fun k => by rw [if_neg c1, if_neg c2]) (stay (by omega))
theorem lT (n1 : Bool) (e1 : Int) (s1 : Nat) (n2 : Bool) (e2 : Int) (s2 : Nat) (h1 : s1 < 4611686018427387904) (h2 : s2 < 4611686018427387904) (l1 : -1000 ≤ e1) (l1' : e1 ≤ 1000) (l2 : -1000 ≤ e2) (l2' : e2 ≤ 1000) :
  -1100 ≤ (fT n1 e1 s1 n2 e2 s2).2.1 ∧ (fT n1 e1 s1 n2 e2 s2).2.1 ≤ 1000 ∧ (fT n1 e1 s1 n2 e2 s2).2.2.1 < 9223372036854775808 := by
 have meet : ∀ (na : Bool) (Ea : Int) (A : Nat) (nb : Bool) (Eb : Int) (B : Nat), A < 4611686018427387904 → B < 4611686018427387904 → (l7 na Ea A nb Eb B).2.1 = Ea ∧ (l7 na Ea A nb Eb B).2.2.1 < 9223372036854775808 := by
  intro na Ea A nb Eb B ha hb
  have hl := Nat.div_le_self B (2 ^ (Ea - Eb).toNat)
  unfold l7
  by_cases n : na = nb
  ·rw [if_pos n]; exact ⟨rfl, by show A + B / 2 ^ (Ea - Eb).toNat < _; omega⟩
  ·rw [if_neg n]; exact ⟨rfl, Nat.lt_of_le_of_lt (Nat.le_trans (Nat.sub_le _ _) (Nat.sub_le _ _)) (show A < 9223372036854775808 by omega)⟩
 unfold fT
 by_cases z1 : s1 = 0
 ·rw [if_pos z1]; dsimp only; omega
 ·rw [if_neg z1]
  by_cases z2 : s2 = 0
  ·rw [if_pos z2]; dsimp only; omega
  ·rw [if_neg z2]
   obtain ⟨a1, a2, a3, a4⟩ := iI s1 z1 h1
   obtain ⟨b1, b2, b3, b4⟩ := iI s2 z2 h2
   split
   ·have := meet n2 (e2 - (iE s2 : Int)) _ n1 (e1 - (iE s1 : Int)) _ b4 a4; omega
   ·have := meet n1 (e1 - (iE s1 : Int)) _ n2 (e2 - (iE s2 : Int)) _ a4 b4; omega
end Go.Proofs.Ytolpdiifmacdbaa.Round
