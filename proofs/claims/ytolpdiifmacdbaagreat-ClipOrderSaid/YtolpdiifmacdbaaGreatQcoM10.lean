import Derived.Test.YtolpdiifmacdbaaGreatQcoZ
import Derived.Test.YtolpdiifmacdbaaGreatQcoM5
import Derived.Test.YtolpdiifmacdbaaGreatQcoM8
import Derived.Test.YtolpdiifmacdbaaGreatQcoM6
import Derived.Test.YtolpdiifmacdbaaGreatQcoM7
import Derived.Test.YtolpdiifmacdbaaGreatQcoM9
import Derived.Test.YtolpdiifmacdbaaGreatQcoPackE
-- Printed by a program of this session's out of Lean's print of the translation; Lean checks it.
set_option linter.unusedVariables false
set_option linter.unusedSimpArgs false
namespace Go.Proofs.YtolpdiifmacdbaaGreat.P
open Go.RowKit Go.Proofs.YtolpdiifmacdbaaGreatW.PrintWords Go.Proofs.YtolpdiifmacdbaaGreatW.PrintLast Go.Proofs.YtolpdiifmacdbaaGreatW.PrintMore
attribute [local go_sem] max2_int min2_int max_two min_two max_three min_three max_four min_four

-- NEED 2
/-! ### sum_Add: function 108 -/
end Go.Proofs.YtolpdiifmacdbaaGreat.P

/- Sums and differences: the program's, as plain numbers. -/
namespace Go.Proofs.YtolpdiifmacdbaaGreat.Round
open Go.RowKit Go.Proofs.YtolpdiifmacdbaaGreat.P Go.Proofs.YtolpdiifmacdbaaGreat.Num Go.Proofs.YtolpdiifmacdbaaGreat.BitsF Go.Proofs.YtolpdiifmacdbaaGreat.Fmt Go.Proofs.YtolpdiifmacdbaaGreatW.PrintWords Go.Proofs.YtolpdiifmacdbaaGreatW.PrintLast Go.Proofs.YtolpdiifmacdbaaGreatW.PrintMore

theorem nought_f (f mode : Int) (a b : Bool) : fB.f f mode a b = some (lW f mode a b : Int) := by
 unfold fB.f lW
 have e3 : ((mode == 3) : Bool) = decide (mode = 3) := by
  by_cases c : mode = 3
  ·subst c; rfl
  ·rw [decide_eq_false c]; exact beq_eq_false_iff_ne.mpr c
 rw [e3]
 by_cases c : a = b
 ·subst c; rw [if_pos (beq_self_eq_true a), if_pos rfl, sV]; rfl
 ·rw [if_neg (show ¬ (a == b) = true by rw [beq_iff_eq]; exact c), if_neg c, sV]; rfl
theorem wM (f : Int) (a b x y : Bool) : Ev (fun k => bC.f k f a b x y) (if x = true ∧ y = true ∧ a ≠ b then ((rO f : Int), true, false, false, false, false) else if x = true then ((nD f a : Int), false, false, false, false, false) else ((nD f b : Int), false, false, false, false, false)) := by
 have bad : Ev (fun k => bC.j0 k f a b x true) ((rO f : Int), true, false, false, false, false) :=
  Ev.step (fun k => by rw [bC.j0, if_pos rfl, zV]; rfl) (Ev.now _)
 have left : x = true → Ev (fun k => bC.j0 k f a b x false) ((nD f a : Int), false, false, false, false, false) := fun h =>
  Ev.step (fun k => by rw [bC.j0, if_neg (by decide), if_pos h, wE]; rfl) (Ev.now _)
 have right : ¬ x = true → Ev (fun k => bC.j0 k f a b x false) ((nD f b : Int), false, false, false, false, false) := fun h =>
  Ev.step (fun k => by rw [bC.j0, if_neg (by decide), if_neg h, wE]; rfl) (Ev.now _)
 refine Ev.congr (fun k => by unfold bC.f; rfl) ?_
 by_cases hx : x = true
 ·by_cases hy : y = true
  ·by_cases n : a = b
   ·rw [if_neg (fun h => h.2.2 n), if_pos hx]
    refine Ev.congr (fun k => ?_) (left hx)
    rw [if_pos hx, if_pos hy, n, bne_self_eq_false]
   ·rw [if_pos ⟨hx, hy, n⟩]
    refine Ev.congr (fun k => ?_) bad
    rw [if_pos hx, if_pos hy, bne_iff_ne.mpr n]
  ·rw [if_neg (fun h => hy h.2.1), if_pos hx]
   exact Ev.congr (fun k => by rw [if_pos hx, if_neg hy]) (left hx)
 ·rw [if_neg (fun h => hx h.1), if_neg hx]
  exact Ev.congr (fun k => by rw [if_neg hx]) (right hx)
theorem yF (f : Int) (v : Nat) : bZ f v < 4611686018427387904 := by
 have h := dS f
 have h1 := jE f v
 have h2 := dZ (show fm f + 1 ≤ 31 by omega)
 omega
/- Differences: the program's, as plain numbers. -/

/- With the other sign: the reference's, as plain numbers. -/

end Go.Proofs.YtolpdiifmacdbaaGreat.Round

/- The reference's sums: as plain numbers. -/
namespace Go.Proofs.YtolpdiifmacdbaaGreat.Round
open Go.RowKit Go.Proofs.YtolpdiifmacdbaaGreat.P Go.Proofs.YtolpdiifmacdbaaGreat.E Go.Proofs.YtolpdiifmacdbaaGreat.Num Go.Proofs.YtolpdiifmacdbaaGreat.BitsF Go.Proofs.YtolpdiifmacdbaaGreat.Fmt Go.Proofs.YtolpdiifmacdbaaGreatW.PrintWords Go.Proofs.YtolpdiifmacdbaaGreatW.PrintLast Go.Proofs.YtolpdiifmacdbaaGreatW.PrintMore

theorem zA (f mode : Int) (neg : Bool) {xs : List Int} (hx : kD xs) (h : lo xs 10 ≠ 0) : Ev (fun n => E.aK.f n f mode neg xs) ((gD f mode neg (-298) (lo xs 10) false : Int), false, false, kY f mode neg (-298) (lo xs 10) false) :=
  Ev.congr (fun n => aK.eq n f mode neg xs) (yY f mode neg false false false false false hx 9 (by decide) h).diag
theorem total_ev (f mode : Int) (xn yn : Bool) {xs ys : List Int} (hx : kD xs) (hy : kD ys) (h : lo xs 10 + lo ys 10 < T640) :
    Ev (fun n => E.dB.f n f mode xn xs yn ys) (((if (iB xn (lo xs 10) yn (lo ys 10)).2 = 0 then eQ f (decide (mode = 3)) else gD f mode (iB xn (lo xs 10) yn (lo ys 10)).1 (-298) (iB xn (lo xs 10) yn (lo ys 10)).2 false : Nat) : Int), false, false,
      (if (iB xn (lo xs 10) yn (lo ys 10)).2 = 0 then (false, false, false) else kY f mode (iB xn (lo xs 10) yn (lo ys 10)).1 (-298) (iB xn (lo xs 10) yn (lo ys 10)).2 false)) := by
  obtain ⟨R, r1, r2, r3⟩ := plus_ev xn yn hx hy h
  refine Ev.congr (fun n => dB.eq n f mode xn xs yn ys) (Ev.bind r3 ?_)
  rw [← r2]
  have hm : ((mode == 3) : Bool) = decide (mode = 3) := by
    by_cases c : mode = 3
    · subst c; rfl
    · rw [decide_eq_false c]; exact beq_eq_false_iff_ne.mpr c
  by_cases z : lo R 10 = 0
  · rw [if_pos z, if_pos z]
    refine Ev.congr (fun n => ?_) (Ev.now _)
    rw [cB.eq, Option.bind_some, rH r1, if_pos (decide_eq_true z), jA, Option.bind_some, hm]
  · rw [if_neg z, if_neg z]
    refine Ev.congr (fun n => ?_) (Ev.bind (f := fun _ t => some ((t.1, t.2.1, t.2.2.1, t.2.2.2.1, t.2.2.2.2.1, t.2.2.2.2.2)) ) (zA f mode (iB xn (lo xs 10) yn (lo ys 10)).1 r1 z) (Ev.now _))
    rw [cB.eq, Option.bind_some, rH r1, if_neg (by rw [decide_eq_true_iff]; exact z)]
theorem kS (f : Int) (v : Nat) (h : dA f v < 3) : -149 ≤ bT f v ∧ bT f v ≤ 120 := by
  have ht := (oV f v).mp h
  unfold bT dM
  unfold gF at ht
  generalize lK f v = e at *
  rcases qK f with ⟨h1, h2⟩ | ⟨h1, h2⟩ | ⟨h1, h2⟩ <;> rw [h1] at ht <;> rw [h1, h2] <;> simp at ht ⊢ <;> omega
theorem oP (f : Int) (v : Nat) (h : dA f v < 3) (z : bZ f v = 0) : dA f v = 0 := by
  have hp := Nat.two_pow_pos (fm f)
  unfold bZ at z
  unfold dA at h ⊢
  by_cases e : lK f v = 0
  · rw [if_pos e] at z
    rw [if_pos e, if_pos z]
  · rw [if_neg e] at z; omega
theorem xH (s1 s2 : Nat) (e1 e2 : Int) (h1 : s1 < 1152921504606846976) (h2 : s2 < 1152921504606846976) (u1 : e1 ≤ 250) (u2 : e2 ≤ 250) : s1 * 2 ^ (e1 + 298).toNat + s2 * 2 ^ (e2 + 298).toNat < T640 := by
  obtain ⟨K, hK⟩ : ∃ K : Nat, K = 548 := ⟨_, rfl⟩
  have b : ∀ (s : Nat) (e : Int), s < 1152921504606846976 → e ≤ 250 → s * 2 ^ (e + 298).toNat < 2 ^ (60 + K) := by
    intro s e hs he
    have h1 : (2 : Nat) ^ (e + 298).toNat ≤ 2 ^ K := Nat.pow_le_pow_right (by decide) (by omega)
    have h3 : s * 2 ^ K < 2 ^ 60 * 2 ^ K := Nat.mul_lt_mul_of_pos_right (by rw [show (2 : Nat) ^ 60 = 1152921504606846976 by decide]; exact hs) (Nat.two_pow_pos _)
    rw [← Nat.pow_add] at h3
    exact Nat.lt_of_le_of_lt (Nat.mul_le_mul_left _ h1) h3
  have c : (2 : Nat) ^ (60 + K) + 2 ^ (60 + K) = 2 ^ (60 + K + 1) := by rw [Nat.pow_succ, Nat.mul_two]
  obtain ⟨M, hM⟩ : ∃ M : Nat, M = 64 * 10 := ⟨_, rfl⟩
  have d : (2 : Nat) ^ (60 + K + 1) ≤ 2 ^ M := Nat.pow_le_pow_right (by decide) (by omega)
  rw [← uS, ← hM]
  rw [← c] at d
  exact Nat.lt_of_lt_of_le (Nat.add_lt_add (b s1 e1 h1 u1) (b s2 e2 h2 u2)) d
theorem zT (f mode : Int) (n1 : Bool) (e1 : Int) (s1 : Nat) (n2 : Bool) (e2 : Int) (s2 : Nat) (l1 : -298 ≤ e1) (u1 : e1 ≤ 250) (l2 : -298 ≤ e2) (u2 : e2 ≤ 250) (h1 : s1 < 1152921504606846976) (h2 : s2 < 1152921504606846976)
    (hne : n1 = n2 → s1 = 0 → s2 = 0 → False) {xs ys : List Int} (hx : kD xs) (hy : kD ys) (vx : lo xs 10 = s1 * 2 ^ (e1 + 298).toNat) (vy : lo ys 10 = s2 * 2 ^ (e2 + 298).toNat) :
    Ev (fun n => E.dB.f n f mode n1 xs n2 ys) ((gN f mode n1 n2 (kV n1 e1 s1 n2 e2 s2) : Int), false, false, iE f mode (kV n1 e1 s1 n2 e2 s2)) := by
  obtain ⟨w1, w2⟩ := sS f mode n1 e1 s1 n2 e2 s2 l1 l2 h1 h2
  have t := total_ev f mode n1 n2 hx hy (by rw [vx, vy]; exact xH s1 s2 e1 e2 h1 h2 u1 u2)
  rw [vx, vy] at t
  rw [w1, w2]
  by_cases z : (iB n1 (s1 * 2 ^ (e1 + 298).toNat) n2 (s2 * 2 ^ (e2 + 298).toNat)).2 = 0
  · have hn : n1 ≠ n2 := by
      intro e
      have w : iB n1 (s1 * 2 ^ (e1 + 298).toNat) n2 (s2 * 2 ^ (e2 + 298).toNat) = (n1, s1 * 2 ^ (e1 + 298).toNat + s2 * 2 ^ (e2 + 298).toNat) := if_pos e
      rw [w] at z
      have z1 := (Nat.add_eq_zero_iff.mp z).1
      have z2 := (Nat.add_eq_zero_iff.mp z).2
      exact hne e ((Nat.mul_eq_zero.mp z1).resolve_right (Nat.ne_of_gt (Nat.two_pow_pos _))) ((Nat.mul_eq_zero.mp z2).resolve_right (Nat.ne_of_gt (Nat.two_pow_pos _)))
    rw [if_pos z, if_pos z] at t
    rw [if_pos z, if_pos z]
    have hno : lW f mode n1 n2 = eQ f (decide (mode = 3)) := if_neg hn
    rw [hno]; exact t
  · rw [if_neg z, if_neg z] at t
    rw [if_neg z, if_neg z]; exact t
theorem tH (f : Int) (v : Nat) : bZ f v < 1152921504606846976 := by
  have wa := jE f v
  have hbd := dS f
  have hp24 : 2 ^ (fm f + 1) ≤ 16777216 := Nat.pow_le_pow_right (show 0 < 2 by decide) (show fm f + 1 ≤ 24 by omega)
  omega
theorem aBH (f : Int) (a b : Nat) : bZ f a * bZ f b < 1152921504606846976 := by
  have wa := jE f a
  have wb := jE f b
  have hbd := dS f
  have hp24 : 2 ^ (fm f + 1) ≤ 16777216 := Nat.pow_le_pow_right (show 0 < 2 by decide) (show fm f + 1 ≤ 24 by omega)
  have := Nat.mul_le_mul (show bZ f a ≤ 16777216 by omega) (show bZ f b ≤ 16777216 by omega)
  omega
end Go.Proofs.YtolpdiifmacdbaaGreat.Round

/- Products: as plain numbers. -/
namespace Go.Proofs.YtolpdiifmacdbaaGreat.Round
open Go.RowKit Go.Proofs.YtolpdiifmacdbaaGreat.P Go.Proofs.YtolpdiifmacdbaaGreat.Num Go.Proofs.YtolpdiifmacdbaaGreat.BitsF Go.Proofs.YtolpdiifmacdbaaGreat.Fmt Go.Proofs.YtolpdiifmacdbaaGreatW.PrintWords Go.Proofs.YtolpdiifmacdbaaGreatW.PrintLast Go.Proofs.YtolpdiifmacdbaaGreatW.PrintMore

def lL (f : Int) (a b : Nat) : Bool := decide (dA f a = 0 ∧ dA f b = 3 ∨ dA f a = 3 ∧ dA f b = 0)
def mulN (f mode : Int) (a b : Nat) : Nat :=
 if 4 ≤ dA f a ∨ 4 ≤ dA f b then rO f else if lL f a b then rO f else if dA f a = 3 ∨ dA f b = 3 then nD f (dU f a != dU f b)
 else gD f mode (dU f a != dU f b) (bT f a + bT f b) (bZ f a * bZ f b) false
def mulX (f mode : Int) (a b : Nat) : Bool × Bool × Bool × Bool × Bool :=
 if 4 ≤ dA f a ∨ 4 ≤ dA f b then (fM f a || fM f b, false, false, false, false) else if lL f a b then (true, false, false, false, false) else if dA f a = 3 ∨ dA f b = 3 then (false, false, false, false, false)
 else (false, false, kY f mode (dU f a != dU f b) (bT f a + bT f b) (bZ f a * bZ f b) false)
theorem qH (f : Int) (a b : Nat) : bZ f a * bZ f b < 18446744073709551616 := by
 have wa := jE f a
 have wb := jE f b
 have hbd := dS f
 have hp24 : 2 ^ (fm f + 1) ≤ 16777216 := Nat.pow_le_pow_right (show 0 < 2 by decide) (show fm f + 1 ≤ 24 by omega)
 have := Nat.mul_le_mul (show bZ f a ≤ 16777216 by omega) (show bZ f b ≤ 16777216 by omega)
 omega
end Go.Proofs.YtolpdiifmacdbaaGreat.Round

-- Printed by a program of this session's out of Lean's print of the translation; Lean checks it.
namespace Go.Proofs.YtolpdiifmacdbaaGreat.P
open Go.RowKit Go.Proofs.YtolpdiifmacdbaaGreatW.PrintWords Go.Proofs.YtolpdiifmacdbaaGreatW.PrintLast Go.Proofs.YtolpdiifmacdbaaGreatW.PrintMore
attribute [local go_sem] max2_int min2_int max_two min_two max_three min_three max_four min_four

-- NEED 2
/-! ### dI: function 106 -/
def dI.j0 : Nat → Int → Int → Int → Int → Bool → Bool → Option (Int × Bool × Bool × Bool × Bool × Bool)
 |0, _, _, _, _, _, _ => none
 |k + 1, x0, x1, x2, x3, x13, x49 => if x49 = true then ((dF.f x0 x13).bind fun t465 => (some (t465, false, false, false, false, false))) else ((dY.f x0 x2 x3).bind fun bt466 => ((aC.f k x0 x1 x13 bt466.2.1 bt466.2.2.1 false).bind fun bt471 => (some (bt471.1, bt471.2.1, bt471.2.2.1, bt471.2.2.2.1, bt471.2.2.2.2.1, bt471.2.2.2.2.2))))
def dI.f (k : Nat) (a0 a1 : Int) (a2 a3 : Int) : Option (Int × Bool × Bool × Bool × Bool × Bool) := (bJ.f k a0 (([a2, a3] : List Int))).bind fun bt446 => (if bt446.2.2.2.2.2.2 = true then (some (bt446.1, bt446.2.1, bt446.2.2.1, bt446.2.2.2.1, bt446.2.2.2.2.1, bt446.2.2.2.2.2.1)) else ((dR.f k a0 a2 a3).bind fun t454 => (if t454 = true then ((eT.f a0).bind fun bt455 => (some (bt455.1, bt455.2.1, bt455.2.2.1, bt455.2.2.2.1, bt455.2.2.2.2.1, bt455.2.2.2.2.2))) else ((dQ.f a0 a2).bind fun t461 => ((dQ.f a0 a3).bind fun t462 => ((aV.f k a0 a2).bind fun t463 => (if t463 = true then (dI.j0 k a0 a1 a2 a3 (t461 != t462) true) else ((aV.f k a0 a3).bind fun t464 => (dI.j0 k a0 a1 a2 a3 (t461 != t462) t464)))))))))
end Go.Proofs.YtolpdiifmacdbaaGreat.P
