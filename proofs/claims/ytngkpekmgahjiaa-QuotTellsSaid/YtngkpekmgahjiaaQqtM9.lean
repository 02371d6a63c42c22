import Derived.Test.YtngkpekmgahjiaaQqtM8
import Derived.Test.YtngkpekmgahjiaaQqtPackE
import Derived.Test.YtngkpekmgahjiaaQqtPx36
import Derived.Test.YtngkpekmgahjiaaQqtM4
import Derived.Test.YtngkpekmgahjiaaQqtPx38
import Derived.Test.YtngkpekmgahjiaaQqtPx43
import Derived.Test.YtngkpekmgahjiaaQqtM3
import Derived.Test.YtngkpekmgahjiaaQqtM6
import Derived.Test.YtngkpekmgahjiaaQqtPx17
import Derived.Test.YtngkpekmgahjiaaQqtPx42
import Derived.Test.YtngkpekmgahjiaaQqtPx40
import Derived.Test.YtngkpekmgahjiaaQqtM5
import Derived.Test.YtngkpekmgahjiaaQqtPx44
/- A rounding depends on the value alone: more bits of the same value make no difference. Quotients and roots to so many bits. Plain numbers alone. -/
namespace Go.Proofs.Ytngkpekmgahjiaa.Round
open Go.RowKit Go.Proofs.Ytngkpekmgahjiaa.P Go.Proofs.Ytngkpekmgahjiaa.Num Go.Proofs.Ytngkpekmgahjiaa.BitsF Go.Proofs.Ytngkpekmgahjiaa.Fmt Go.Proofs.YtngkpekmgahjiaaW.PrintWords Go.Proofs.YtngkpekmgahjiaaW.PrintLast Go.Proofs.YtngkpekmgahjiaaW.PrintMore

theorem rest_refine (r h t P : Nat) (m : Bool) (ht : t < P) : restN (r * P + t) (h * P) m = restN r h (m || decide (t ≠ 0)) := by
 have h1 : r * P + t < h * P ↔ r < h := by
  constructor
  ·intro c; exact Nat.lt_of_mul_lt_mul_right (Nat.lt_of_le_of_lt (Nat.le_add_right _ _) c)
  ·intro c
   have := Nat.mul_le_mul_right P (show r + 1 ≤ h from c)
   rw [Nat.add_mul] at this; omega
 have h2 : r * P + t = h * P ↔ r = h ∧ t = 0 := by
  constructor
  ·intro c
   have a : ¬ r < h := fun l => by have := h1.mpr l; omega
   have b : ¬ h < r := fun l => by
    have := Nat.mul_le_mul_right P (show h + 1 ≤ r from l)
    rw [Nat.add_mul] at this; omega
   have e : r = h := by omega
   subst e; exact ⟨rfl, by omega⟩
  ·rintro ⟨rfl, rfl⟩; rfl
 have h3 : r * P + t = 0 ↔ r = 0 ∧ t = 0 := by
  constructor
  ·intro c
   have : r * P = 0 := by omega
   rw [Nat.mul_eq_zero] at this; omega
  ·rintro ⟨rfl, rfl⟩; simp
 unfold restN
 simp only [h1, h2, h3]
 by_cases c : t = 0
 ·subst c; simp
 ·simp [c]
theorem len_refine (s t j : Nat) (ht : t < 2 ^ j) (hs : s ≠ 0) : lenN (s * 2 ^ j + t) = lenN s + j := by
 have hp := Nat.two_pow_pos j
 have h1 : 2 ^ j ≤ s * 2 ^ j := Nat.le_mul_of_pos_left _ (by omega)
 have := lenN_div (s * 2 ^ j + t) j (by omega)
 rw [Nat.mul_comm, Nat.mul_add_div hp, Nat.div_eq_of_lt ht, Nat.add_zero] at this
 rw [Nat.mul_comm s]; omega
theorem some_refine (s t j : Nat) (hs : s ≠ 0) : s * 2 ^ j + t ≠ 0 := by
 have h1 : 2 ^ j ≤ s * 2 ^ j := Nat.le_mul_of_pos_left _ (by omega)
 have hp := Nat.two_pow_pos j
 omega
theorem rise_refine (f x : Int) (s t j : Nat) (ht : t < 2 ^ j) (hs : s ≠ 0) : riseN f x (s * 2 ^ j + t) = riseN f (x + j) s := by
 unfold riseN
 rw [if_neg (some_refine s t j hs), if_neg hs, len_refine s t j ht hs]
 congr 1; omega
theorem unit_refine (f x : Int) (s t j : Nat) (ht : t < 2 ^ j) (hs : s ≠ 0) : unitN f x (s * 2 ^ j + t) = unitN f (x + j) s := by
 unfold unitN; rw [rise_refine f x s t j ht hs]
theorem unit_above (f x : Int) (s : Nat) (hs : 2 ^ (fm f + 1) ≤ s) : 1 ≤ unitN f x s - x ∧ s ≠ 0 := by
 have hl := lenN_ge s (fm f + 1) hs
 have hp := Nat.two_pow_pos (fm f + 1)
 have h0 : s ≠ 0 := by omega
 refine ⟨?_, h0⟩
 unfold unitN riseN
 rw [if_neg h0]; omega
theorem left_refine (f x : Int) (s t j : Nat) (m : Bool) (ht : t < 2 ^ j) (hs : 2 ^ (fm f + 1) ≤ s) :
  quoN (s * 2 ^ j + t) (unitN f x (s * 2 ^ j + t) - x) = quoN s (unitN f (x + j) s - (x + j)) ∧
  leftN (s * 2 ^ j + t) (unitN f x (s * 2 ^ j + t) - x) m = leftN s (unitN f (x + j) s - (x + j)) (m || decide (t ≠ 0)) := by
 obtain ⟨hd, h0⟩ := unit_above f (x + j) s hs
 rw [unit_refine f x s t j ht h0]
 generalize unitN f (x + j) s = U at *
 obtain ⟨d, e⟩ := nat_of (show 0 ≤ U - (x + j) by omega)
 rw [e] at hd ⊢
 rw [show U - x = ((d + j : Nat) : Int) by omega]
 have hp := Nat.two_pow_pos j
 have hq : (s * 2 ^ j + t) / 2 ^ j = s := by rw [Nat.mul_comm, Nat.mul_add_div hp, Nat.div_eq_of_lt ht, Nat.add_zero]
 constructor
 ·unfold quoN
  rw [if_neg (by omega), if_neg (by omega), Int.toNat_natCast, Int.toNat_natCast, Nat.add_comm d j, Nat.pow_add, ← Nat.div_div_eq_div_mul, hq]
 ·rw [left_rest _ _ _ (show ¬ ((d + j : Nat) : Int) ≤ 0 by omega), left_rest _ _ _ (show ¬ (d : Int) ≤ 0 by omega), Int.toNat_natCast, Int.toNat_natCast]
  have h1 : (s * 2 ^ j + t) % 2 ^ (d + j) = s % 2 ^ d * 2 ^ j + t := by
   rw [Nat.add_comm d j, Nat.pow_add, Nat.mod_mul, hq, Nat.mul_comm s, Nat.mul_add_mod, Nat.mod_eq_of_lt ht]
   rw [Nat.add_comm, Nat.mul_comm (2 ^ j)]
  have h2 : 2 ^ (d + j - 1) = 2 ^ (d - 1) * 2 ^ j := by rw [← Nat.pow_add]; congr 1; omega
  rw [h1, h2, rest_refine _ _ _ _ _ ht]
theorem pack_refine (f mode : Int) (neg : Bool) (x : Int) (s t j : Nat) (m : Bool) (ht : t < 2 ^ j) (hs : 2 ^ (fm f + 1) ≤ s) :
  packN f mode neg x (s * 2 ^ j + t) m = packN f mode neg (x + j) s (m || decide (t ≠ 0)) ∧ excN f mode neg x (s * 2 ^ j + t) m = excN f mode neg (x + j) s (m || decide (t ≠ 0)) := by
 obtain ⟨h1, h2⟩ := left_refine f x s t j m ht hs
 have h0 := (unit_above f x s hs).2
 have h3 := rise_refine f x s t j ht h0
 have hk : keyN f mode neg x (s * 2 ^ j + t) m = keyN f mode neg (x + j) s (m || decide (t ≠ 0)) := by unfold keyN; rw [h1, h2, h3]
 have hi : inexN f x (s * 2 ^ j + t) m = inexN f (x + j) s (m || decide (t ≠ 0)) := by unfold inexN; rw [h2]
 have hu : underN f x (s * 2 ^ j + t) m = underN f (x + j) s (m || decide (t ≠ 0)) := by
  unfold underN
  rw [hi, len_refine s t j ht h0, decide_eq_false (some_refine s t j h0), decide_eq_false h0]
  congr 2; apply decide_eq_decide.mpr; omega
 unfold packN excN
 rw [hk, hi, hu]; exact ⟨rfl, rfl⟩
theorem quo_refine (f mode : Int) (neg : Bool) (e : Int) (A B c j : Nat) (hB : 0 < B) (hs : 2 ^ (fm f + 1) ≤ A * 2 ^ c / B) :
  packN f mode neg (e - ((c + j : Nat) : Int)) (A * 2 ^ (c + j) / B) (decide (A * 2 ^ (c + j) % B ≠ 0)) = packN f mode neg (e - c) (A * 2 ^ c / B) (decide (A * 2 ^ c % B ≠ 0)) ∧
  excN f mode neg (e - ((c + j : Nat) : Int)) (A * 2 ^ (c + j) / B) (decide (A * 2 ^ (c + j) % B ≠ 0)) = excN f mode neg (e - c) (A * 2 ^ c / B) (decide (A * 2 ^ c % B ≠ 0)) := by
 have hp := Nat.two_pow_pos j
 rw [Nat.pow_add, ← Nat.mul_assoc]
 generalize A * 2 ^ c = V at *
 have hd := Nat.div_add_mod V B
 have hr := Nat.mod_lt V hB
 generalize V / B = s at *
 generalize V % B = r at *
 have e1 : V * 2 ^ j = B * (s * 2 ^ j) + r * 2 ^ j := by rw [← hd, Nat.add_mul, Nat.mul_assoc]
 have e2 : V * 2 ^ j / B = s * 2 ^ j + r * 2 ^ j / B := by rw [e1, Nat.mul_add_div hB]
 have e3 : V * 2 ^ j % B = r * 2 ^ j % B := by rw [e1, Nat.mul_add_mod]
 have ht : r * 2 ^ j / B < 2 ^ j := by
  rw [Nat.div_lt_iff_lt_mul hB, Nat.mul_comm]
  exact Nat.mul_lt_mul_of_pos_left hr hp
 have h := pack_refine f mode neg (e - ((c + j : Nat) : Int)) s (r * 2 ^ j / B) j (decide (r * 2 ^ j % B ≠ 0)) ht hs
 have hm : (decide (r * 2 ^ j % B ≠ 0) || decide (r * 2 ^ j / B ≠ 0)) = decide (r ≠ 0) := by
  have hz : r * 2 ^ j = 0 ↔ r = 0 := by rw [Nat.mul_eq_zero]; omega
  have hdm := Nat.div_add_mod (r * 2 ^ j) B
  by_cases z : r = 0
  ·subst z; simp
  ·have : r * 2 ^ j ≠ 0 := fun c => z (hz.mp c)
   rw [decide_eq_true z]
   by_cases a : r * 2 ^ j % B = 0
   ·have b : r * 2 ^ j / B ≠ 0 := fun b => by rw [a, b] at hdm; simp at hdm; omega
    rw [decide_eq_true b, Bool.or_true]
   ·rw [decide_eq_true a, Bool.true_or]
 rw [e2, e3, h.1, h.2, hm, show e - ((c + j : Nat) : Int) + (j : Int) = e - c by omega]
 exact ⟨rfl, rfl⟩
theorem quo_same (f mode : Int) (neg : Bool) (e : Int) (A B c d : Nat) (hB : 0 < B) (hc : 2 ^ (fm f + 1) ≤ A * 2 ^ c / B) (hd : 2 ^ (fm f + 1) ≤ A * 2 ^ d / B) :
  packN f mode neg (e - c) (A * 2 ^ c / B) (decide (A * 2 ^ c % B ≠ 0)) = packN f mode neg (e - d) (A * 2 ^ d / B) (decide (A * 2 ^ d % B ≠ 0)) ∧
  excN f mode neg (e - c) (A * 2 ^ c / B) (decide (A * 2 ^ c % B ≠ 0)) = excN f mode neg (e - d) (A * 2 ^ d / B) (decide (A * 2 ^ d % B ≠ 0)) := by
 rcases Nat.le_total c d with h | h
 ·obtain ⟨j, rfl⟩ := Nat.exists_eq_add_of_le h
  have := quo_refine f mode neg e A B c j hB hc
  exact ⟨this.1.symm, this.2.symm⟩
 ·obtain ⟨j, rfl⟩ := Nat.exists_eq_add_of_le h
  exact quo_refine f mode neg e A B d j hB hd
end Go.Proofs.Ytngkpekmgahjiaa.Round

/- Quotients: the program's, as plain numbers. -/
namespace Go.Proofs.Ytngkpekmgahjiaa.Round
open Go.RowKit Go.Proofs.Ytngkpekmgahjiaa.P Go.Proofs.Ytngkpekmgahjiaa.Num Go.Proofs.Ytngkpekmgahjiaa.BitsF Go.Proofs.Ytngkpekmgahjiaa.Fmt Go.Proofs.YtngkpekmgahjiaaW.PrintWords Go.Proofs.YtngkpekmgahjiaaW.PrintLast Go.Proofs.YtngkpekmgahjiaaW.PrintMore

def lackN (f : Int) (v : Nat) : Nat := 62 - lenN (wholeN f v)
def ratioN (f mode : Int) (a b : Nat) : Nat := packN f mode (negN f a != negN f b) (lowestN f a - lowestN f b - (lackN f a : Int)) (wholeN f a * 2 ^ lackN f a / wholeN f b) (decide (wholeN f a * 2 ^ lackN f a % wholeN f b ≠ 0))
def ratioX (f mode : Int) (a b : Nat) : Bool × Bool × Bool := excN f mode (negN f a != negN f b) (lowestN f a - lowestN f b - (lackN f a : Int)) (wholeN f a * 2 ^ lackN f a / wholeN f b) (decide (wholeN f a * 2 ^ lackN f a % wholeN f b ≠ 0))
def divN (f mode : Int) (a b : Nat) : Nat :=
 if 4 ≤ clsN f a ∨ 4 ≤ clsN f b then nanN f else if clsN f a = clsN f b ∧ (clsN f a = 0 ∨ clsN f a = 3) then nanN f else if clsN f a = 3 then infN f (negN f a != negN f b)
 else if clsN f b = 3 ∨ clsN f a = 0 then signN f (negN f a != negN f b) else if clsN f b = 0 then infN f (negN f a != negN f b) else ratioN f mode a b
def divX (f mode : Int) (a b : Nat) : Bool × Bool × Bool × Bool × Bool :=
 if 4 ≤ clsN f a ∨ 4 ≤ clsN f b then (isLoud f a || isLoud f b, false, false, false, false) else if clsN f a = clsN f b ∧ (clsN f a = 0 ∨ clsN f a = 3) then (true, false, false, false, false) else if clsN f a = 3 then (false, false, false, false, false)
 else if clsN f b = 3 ∨ clsN f a = 0 then (false, false, false, false, false) else if clsN f b = 0 then (false, true, false, false, false) else (false, false, ratioX f mode a b)
theorem whole_pos (f : Int) (v : Nat) (h : clsN f v ≠ 0) (h3 : clsN f v < 3) : wholeN f v ≠ 0 := by
 have hp := Nat.two_pow_pos (fm f)
 unfold clsN at h h3
 unfold wholeN
 by_cases c : expN f v = 0
 ·rw [if_pos c] at h ⊢
  intro z; rw [if_pos z] at h; exact h rfl
 ·rw [if_neg c]; omega
theorem whole_24 (f : Int) (v : Nat) : wholeN f v < 16777216 := by
 have h := whole_lt f v
 have := fbounds f
 have := Nat.pow_le_pow_right (show 0 < 2 by decide) (show fm f + 1 ≤ 24 by omega)
 omega
theorem lack_bounds (f : Int) (v : Nat) (h : wholeN f v ≠ 0) : 38 ≤ lackN f v ∧ lackN f v ≤ 61 ∧ lenN (wholeN f v) + lackN f v = 62 ∧ 2305843009213693952 ≤ wholeN f v * 2 ^ lackN f v ∧ wholeN f v * 2 ^ lackN f v < 4611686018427387904 := by
 have h1 := lenN_bound _ _ (whole_lt f v)
 have h2 := lenN_pos _ h
 have hb := fbounds f
 have e : lenN (wholeN f v) + lackN f v = 62 := by unfold lackN; omega
 have hp := Nat.two_pow_pos (lackN f v)
 have l1 := Nat.mul_le_mul_right (2 ^ lackN f v) (lenN_le _ h)
 have l2 := Nat.mul_lt_mul_of_pos_right (lenN_lt (wholeN f v)) hp
 rw [← Nat.pow_add, show lenN (wholeN f v) - 1 + lackN f v = 61 by omega] at l1
 rw [← Nat.pow_add, e] at l2
 exact ⟨by omega, by omega, e, l1, l2⟩
theorem tdiv_nat (a b : Nat) : Int.tdiv (a : Int) (b : Int) = ((a / b : Nat) : Int) := rfl
theorem tmod_nn (a b : Nat) : Int.tmod (a : Int) (b : Int) = ((a % b : Nat) : Int) := rfl
theorem shift_up (v n : Nat) (h : v * 2 ^ n < 18446744073709551616) : (shiftN v (-(n : Int))).1 = v * 2 ^ n := by
 have hp := Nat.two_pow_pos n
 have hv : v < 18446744073709551616 := Nat.lt_of_le_of_lt (Nat.le_mul_of_pos_right v hp) h
 rw [shiftN_left v n hv]
 exact Nat.mod_eq_of_lt h
theorem div_j1 (f mode : Int) (a b : Nat) (ha : a < 4294967296) (hb : b < 4294967296) (ca : clsN f a < 3) (cb : clsN f b ≤ 3) (hz : ¬ (clsN f a = clsN f b ∧ (clsN f a = 0 ∨ clsN f a = 3))) :
  Ev (fun k => quot_Div.j1 k f mode (a : Int) (b : Int) (negN f a != negN f b) (clsN f b : Int) (decide (clsN f b = 3 ∨ clsN f a = 0))) ((divN f mode a b : Int), divX f mode a b) := by
 unfold divN divX
 rw [if_neg (show ¬ (4 ≤ clsN f a ∨ 4 ≤ clsN f b) by omega), if_neg (show ¬ (4 ≤ clsN f a ∨ 4 ≤ clsN f b) by omega)]
 by_cases c0 : clsN f b = 3 ∨ clsN f a = 0
 ·rw [decide_eq_true c0]
  rw [if_neg hz, if_neg hz, if_neg (show ¬ clsN f a = 3 by omega), if_neg (show ¬ clsN f a = 3 by omega), if_pos c0, if_pos c0]
  exact Ev.step (fun k => by rw [quot_Div.j1, if_pos rfl, zero_f, Option.bind_some]) (Ev.now _)
 ·rw [decide_eq_false c0, if_neg hz, if_neg hz, if_neg (show ¬ clsN f a = 3 by omega), if_neg (show ¬ clsN f a = 3 by omega), if_neg c0, if_neg c0]
  by_cases b0 : clsN f b = 0
  ·rw [if_pos b0, if_pos b0]
   exact Ev.step (fun k => by rw [quot_Div.j1, if_neg (by decide), if_pos (by omega), inf_f, Option.bind_some]) (Ev.now _)
  ·rw [if_neg b0, if_neg b0]
   have wa := whole_pos f a (by omega) ca
   have wb := whole_pos f b b0 (by omega)
   obtain ⟨k1, k2, k3, k4, k5⟩ := lack_bounds f a wa
   have hs := whole_64 f a
   obtain ⟨l1, l2⟩ := lowest_near f a
   obtain ⟨m1, m2⟩ := lowest_near f b
   have hw : wrap64 (-(wrap64 (62 - (lenN (wholeN f a) : Int)))) = -(lackN f a : Int) := by rw [w64_id (62 - (lenN (wholeN f a) : Int)) (by omega) (by omega), w64_id _ (by omega) (by omega)]; omega
   have he : wrap64 ((wrap64 (lowestN f a - (wrap64 (62 - (lenN (wholeN f a) : Int))))) - lowestN f b) = lowestN f a - lowestN f b - (lackN f a : Int) := by
    rw [w64_id (62 - (lenN (wholeN f a) : Int)) (by omega) (by omega), w64_id (lowestN f a - (62 - (lenN (wholeN f a) : Int))) (by omega) (by omega), w64_id _ (by omega) (by omega)]; omega
   have hsh := shift_ev (wholeN f a) hs (-(lackN f a : Int)) (by omega) (by omega)
   have hq : wholeN f a * 2 ^ lackN f a / wholeN f b < 18446744073709551616 := Nat.lt_of_le_of_lt (Nat.div_le_self _ _) (by omega)
   have hp := packs_ev f mode (negN f a != negN f b) (lowestN f a - lowestN f b - (lackN f a : Int)) (wholeN f a * 2 ^ lackN f a / wholeN f b) (decide (wholeN f a * 2 ^ lackN f a % wholeN f b ≠ 0)) hq
   rw [clampE_id _ (by omega) (by omega)] at hp
   refine Ev.step (fun k => by rw [quot_Div.j1, if_neg (by decide), if_neg (by omega), of_f f a ha (cls_exp f a ca), Option.bind_some, of_f f b hb (cls_exp f b (by omega)), Option.bind_some]) (Ev.bind (len_ev _ hs) ?_)
   dsimp only
   rw [hw, he]
   refine Ev.bind hsh ?_
   dsimp only
   rw [shift_up _ _ (by omega), tdiv_nat, tmod_nn, u64_id _ hq, show (0 : Int) = ((0 : Nat) : Int) from rfl, bne_cast]
   exact Ev.congr (fun k => by rw [if_neg (by omega)]) (Ev.bind hp (Ev.now _))
theorem div_ev (f mode : Int) (a b : Nat) (ha : a < 4294967296) (hb : b < 4294967296) : Ev (fun k => quot_Div.f k f mode (a : Int) (b : Int)) ((divN f mode a b : Int), divX f mode a b) := by
 refine Ev.congr (fun k => by unfold quot_Div.f; rfl) (Ev.bind (pnans2_ev f a b ha hb) ?_)
 by_cases n : 4 ≤ clsN f a ∨ 4 ≤ clsN f b
 ·have e : (isNan f a || isNan f b) = true := by unfold isNan; rw [Bool.or_eq_true, decide_eq_true_iff, decide_eq_true_iff]; exact n
  unfold divN divX
  rw [if_pos n, if_pos n]
  exact Ev.congr (fun k => by rw [if_pos e]) (Ev.now _)
 ·have e : ¬ (isNan f a || isNan f b) = true := by unfold isNan; rw [Bool.or_eq_true, decide_eq_true_iff, decide_eq_true_iff]; exact n
  refine Ev.congr (fun k => by rw [if_neg e, neg_f f a ha, Option.bind_some, neg_f f b hb, Option.bind_some]) (Ev.bind (class_ev f a ha) (Ev.bind (class_ev f b hb) ?_))
  have bad : (clsN f a = clsN f b ∧ (clsN f a = 0 ∨ clsN f a = 3)) → Ev (fun k => quot_Div.j0 k f mode (a : Int) (b : Int) (negN f a != negN f b) (clsN f a : Int) (clsN f b : Int) true) ((divN f mode a b : Int), divX f mode a b) := by
   intro z
   unfold divN divX
   rw [if_neg n, if_neg n, if_pos z, if_pos z]
   exact Ev.step (fun k => by rw [quot_Div.j0, if_pos rfl, bad_f]; rfl) (Ev.now _)
  have good : ¬ (clsN f a = clsN f b ∧ (clsN f a = 0 ∨ clsN f a = 3)) → Ev (fun k => quot_Div.j0 k f mode (a : Int) (b : Int) (negN f a != negN f b) (clsN f a : Int) (clsN f b : Int) false) ((divN f mode a b : Int), divX f mode a b) := by
   intro z
   by_cases a3 : clsN f a = 3
   ·unfold divN divX
    rw [if_neg n, if_neg n, if_neg z, if_neg z, if_pos a3, if_pos a3]
    exact Ev.step (fun k => by rw [quot_Div.j0, if_neg (by decide), if_pos (by omega), inf_f]; rfl) (Ev.now _)
   ·have hj := div_j1 f mode a b ha hb (by omega) (by omega) z
    by_cases b3 : clsN f b = 3
    ·rw [decide_eq_true (.inl b3)] at hj
     exact Ev.step (fun k => by rw [quot_Div.j0, if_neg (by decide), if_neg (by omega), if_pos (by omega)]) hj
    ·have e0 : decide (clsN f b = 3 ∨ clsN f a = 0) = ((clsN f a : Int) == 0) := by
      rw [show (0 : Int) = ((0 : Nat) : Int) from rfl, beq_nn]; apply decide_eq_decide.mpr; omega
     rw [e0] at hj
     exact Ev.step (fun k => by rw [quot_Div.j0, if_neg (by decide), if_neg (by omega), if_neg (by omega)]) hj
  by_cases s : clsN f a = clsN f b
  ·by_cases a0 : clsN f a = 0
   ·exact Ev.congr (fun k => by rw [if_pos (by omega), if_pos (by omega)]) (bad ⟨s, .inl a0⟩)
   ·by_cases a3 : clsN f a = 3
    ·have e3 : (((clsN f a : Nat) : Int) == 3) = true := by rw [a3]; rfl
     exact Ev.congr (fun k => by rw [if_pos (by omega), if_neg (by omega), e3]) (bad ⟨s, .inr a3⟩)
    ·have e3 : (((clsN f a : Nat) : Int) == 3) = false := by rw [show (3 : Int) = ((3 : Nat) : Int) from rfl, beq_nn]; exact decide_eq_false a3
     exact Ev.congr (fun k => by rw [if_pos (by omega), if_neg (by omega), e3]) (good (by omega))
  ·exact Ev.congr (fun k => by rw [if_neg (by omega)]) (good (by omega))
end Go.Proofs.Ytngkpekmgahjiaa.Round

/- Roots: the program's, as plain numbers (for rounds without chapter 1). -/
namespace Go.Proofs.Ytngkpekmgahjiaa.BitsF
open Go.RowKit Go.Proofs.Ytngkpekmgahjiaa.P Go.Proofs.Ytngkpekmgahjiaa.Num Go.Proofs.YtngkpekmgahjiaaW.PrintWords Go.Proofs.YtngkpekmgahjiaaW.PrintLast Go.Proofs.YtngkpekmgahjiaaW.PrintMore

def rootGo : Nat → Nat → Nat → Nat
 |0, _, r => r
 |j + 1, v, r => if (r + 2 ^ j) * (r + 2 ^ j) ≤ v then rootGo j v (r + 2 ^ j) else rootGo j v r
def rootN (v : Nat) : Nat := rootGo 32 v 0
theorem rootGo_is (j : Nat) : ∀ v r, r * r ≤ v → v < (r + 2 ^ j) * (r + 2 ^ j) → rootGo j v r * rootGo j v r ≤ v ∧ v < (rootGo j v r + 1) * (rootGo j v r + 1) := by
 induction j with
 |zero => intro v r h h'; exact ⟨h, h'⟩
 |succ j ih =>
  intro v r h h'
  unfold rootGo
  by_cases c : (r + 2 ^ j) * (r + 2 ^ j) ≤ v
  ·rw [if_pos c]; exact ih v _ c (by rw [Nat.add_assoc, ← Nat.mul_two, ← Nat.pow_succ]; exact h')
  ·rw [if_neg c]; exact ih v r h (by omega)
theorem rootGo_lt (j : Nat) : ∀ v r n, r + 2 ^ j ≤ n → rootGo j v r < n := by
 induction j with
 |zero => intro v r n h; unfold rootGo; have := Nat.two_pow_pos 0; omega
 |succ j ih =>
  intro v r n h
  rw [Nat.pow_succ] at h
  unfold rootGo
  split
  ·exact ih _ _ _ (by omega)
  ·exact ih _ _ _ (by omega)
theorem rootN_is (v : Nat) (hv : v < 18446744073709551616) : rootN v * rootN v ≤ v ∧ v < (rootN v + 1) * (rootN v + 1) := rootGo_is 32 v 0 (by omega) (by omega)
theorem rootN_lt (v : Nat) : rootN v < 4294967296 := rootGo_lt 32 v 0 _ (by decide)
theorem sq_lt {a b : Nat} (h : a < b) : a * a < b * b := Nat.mul_self_lt_mul_self h
theorem sq32 {a : Nat} (h : a < 4294967296) : a * a < 18446744073709551616 := sq_lt (b := 4294967296) h
theorem beq_cast (a b : Nat) : (((a : Int) == (b : Int)) : Bool) = decide (a = b) := by
 by_cases h : a = b
 ·subst h; simp
 ·rw [beq_eq_false_iff_ne.mpr (by omega)]; simp [h]
theorem root_l0 (v : Nat) (j : Nat) : ∀ r k : Nat, r % 2 ^ j = 0 → r + 2 ^ j ≤ 4294967296 →
  bits_Root.l0 (j + 1 + k) (v : Int) (r : Int) ((2 ^ j / 2 : Nat) : Int) = some ((rootGo j v r : Int), decide (rootGo j v r * rootGo j v r = v)) := by
 induction j with
 |zero =>
  intro r k h h'
  rw [show 0 + 1 + k = k + 1 by omega, bits_Root.l0, if_neg (by decide)]
  rw [Nat.pow_zero] at h'
  unfold rootGo
  rw [show (r : Int) * (r : Int) = ((r * r : Nat) : Int) by simp, u64_id _ (sq32 (by omega)), beq_cast, Int.emod_eq_of_lt (by omega) (by omega)]
 |succ j ih =>
  intro r k h h'
  have hp := Nat.two_pow_pos j
  have e : 2 ^ (j + 1) / 2 = 2 ^ j := by rw [Nat.pow_succ, Nat.mul_div_cancel _ (by decide)]
  have e2 : ((2 ^ j : Nat) : Int) / 2 = ((2 ^ j / 2 : Nat) : Int) := by omega
  have hh : r % 2 ^ j = 0 := by
   rw [Nat.pow_succ] at h
   have := Nat.mod_mul_right_mod r (2 ^ j) 2
   rw [h] at this; simpa using this.symm
  rw [Nat.pow_succ] at h'
  rw [show j + 1 + 1 + k = (j + 1 + k) + 1 by omega, bits_Root.l0, e, if_pos (by omega), or_u64 _ _ (by omega) (by omega), or_add r (2 ^ j) (j + 1) h (by rw [Nat.pow_succ]; omega)]
  rw [show ((r + 2 ^ j : Nat) : Int) * ((r + 2 ^ j : Nat) : Int) = (((r + 2 ^ j) * (r + 2 ^ j) : Nat) : Int) by simp, u64_id _ (sq32 (by omega)), e2]
  unfold rootGo
  by_cases c : (r + 2 ^ j) * (r + 2 ^ j) ≤ v
  ·rw [if_pos (by omega), if_pos c]
   exact ih (r + 2 ^ j) k (by rw [Nat.add_mod_right]; exact hh) (by omega)
  ·rw [if_neg (by omega), if_neg c]
   exact ih r k hh (by omega)
theorem root_ev (v : Nat) : Ev (fun k => bits_Root.f k (v : Int)) ((rootN v : Int), decide (rootN v * rootN v = v)) :=
 Ev.of (bits_Root.mono _) (k := 33) (by
  have h := root_l0 v 32 0 0 (by decide) (by decide)
  rw [show ((2 ^ 32 / 2 : Nat) : Int) = 2147483648 by decide, show ((0 : Nat) : Int) = 0 from rfl] at h
  exact h)
end Go.Proofs.Ytngkpekmgahjiaa.BitsF

/- Roots of numbers: the program's (printed with a join), as plain numbers. -/
namespace Go.Proofs.Ytngkpekmgahjiaa.Round
open Go.RowKit Go.Proofs.Ytngkpekmgahjiaa.P Go.Proofs.Ytngkpekmgahjiaa.Num Go.Proofs.Ytngkpekmgahjiaa.BitsF Go.Proofs.Ytngkpekmgahjiaa.Fmt Go.Proofs.YtngkpekmgahjiaaW.PrintWords Go.Proofs.YtngkpekmgahjiaaW.PrintLast Go.Proofs.YtngkpekmgahjiaaW.PrintMore

theorem tmod_even (x : Int) : Int.tmod x 2 = 0 ↔ x % 2 = 0 := by
 constructor
 ·intro h
  have := Int.mul_tdiv_add_tmod x 2
  omega
 ·intro h
  obtain ⟨y, rfl⟩ : ∃ y, x = 2 * y := ⟨x / 2, by omega⟩
  exact Int.mul_tmod_right ..
theorem tdiv_even (x : Int) (h : x % 2 = 0) : Int.tdiv x 2 = x / 2 := by
 obtain ⟨y, rfl⟩ : ∃ y, x = 2 * y := ⟨x / 2, by omega⟩
 rw [Int.mul_tdiv_cancel_left y (by decide)]; omega
theorem root_refine (f mode x : Int) (V j : Nat) (hV : V * 2 ^ (j + j) < 18446744073709551616) (hs : 2 ^ (fm f + 1) ≤ rootN V) :
  packN f mode false x (rootN (V * 2 ^ (j + j))) (!decide (rootN (V * 2 ^ (j + j)) * rootN (V * 2 ^ (j + j)) = V * 2 ^ (j + j))) = packN f mode false (x + j) (rootN V) (!decide (rootN V * rootN V = V)) ∧
  excN f mode false x (rootN (V * 2 ^ (j + j))) (!decide (rootN (V * 2 ^ (j + j)) * rootN (V * 2 ^ (j + j)) = V * 2 ^ (j + j))) = excN f mode false (x + j) (rootN V) (!decide (rootN V * rootN V = V)) := by
 have hp := Nat.two_pow_pos j
 have hV' : V < 18446744073709551616 := Nat.lt_of_le_of_lt (Nat.le_mul_of_pos_right V (Nat.two_pow_pos _)) hV
 obtain ⟨s1, s2⟩ := rootN_is V hV'
 obtain ⟨r1, r2⟩ := rootN_is _ hV
 generalize rootN (V * 2 ^ (j + j)) = R at *
 generalize rootN V = s at *
 rw [Nat.pow_add] at *
 generalize hP : 2 ^ j = P at *
 have sq : ∀ u : Nat, (u * P) * (u * P) = u * u * (P * P) := fun u => Nat.mul_mul_mul_comm ..
 have hPP : 0 < P * P := Nat.mul_pos hp hp
 have lo : s * P ≤ R := by
  rcases Nat.lt_or_ge R (s * P) with c | c
  ·have := Nat.mul_self_le_mul_self (show R + 1 ≤ s * P from c)
   rw [sq] at this
   have := Nat.mul_le_mul_right (P * P) s1
   omega
  ·exact c
 have hi : R < (s + 1) * P := by
  rcases Nat.lt_or_ge R ((s + 1) * P) with c | c
  ·exact c
  ·have := Nat.mul_self_le_mul_self c
   rw [sq] at this
   have := Nat.mul_lt_mul_of_pos_right s2 hPP
   omega
 obtain ⟨t, rfl⟩ := Nat.exists_eq_add_of_le lo
 rw [Nat.add_mul, Nat.one_mul] at hi
 have ht : t < 2 ^ j := by omega
 have h := pack_refine f mode false x s t j (!decide ((s * P + t) * (s * P + t) = V * (P * P))) ht hs
 rw [hP] at h
 have hm : (!decide ((s * P + t) * (s * P + t) = V * (P * P)) || decide (t ≠ 0)) = !decide (s * s = V) := by
  by_cases c : s * s = V
  ·have t0 : t = 0 := by
    rcases Nat.eq_zero_or_pos t with c' | c'
    ·exact c'
    ·have : s * P * (s * P) < (s * P + t) * (s * P + t) := Nat.mul_self_lt_mul_self (by omega)
     rw [sq, c] at this; omega
   rw [t0, Nat.add_zero, sq, c]; simp
  ·by_cases c' : t = 0
   ·have : ¬ (s * P + t) * (s * P + t) = V * (P * P) := by
     rw [c', Nat.add_zero, sq]
     intro e; exact c (Nat.eq_of_mul_eq_mul_right hPP e)
    rw [decide_eq_false this, decide_eq_false c]; simp
   ·rw [decide_eq_true c', decide_eq_false c]; simp
 rw [h.1, h.2, hm]; exact ⟨rfl, rfl⟩
def liftN (f : Int) (a : Nat) : Nat := if (lowestN f a - (lackN f a : Int)) % 2 = 0 then lackN f a else lackN f a - 1
def rootV (f : Int) (a : Nat) : Nat := wholeN f a * 2 ^ liftN f a
def sideN (f mode : Int) (a : Nat) : Nat := packN f mode false ((lowestN f a - (liftN f a : Int)) / 2) (rootN (rootV f a)) (!decide (rootN (rootV f a) * rootN (rootV f a) = rootV f a))
def sideX (f mode : Int) (a : Nat) : Bool × Bool × Bool := excN f mode false ((lowestN f a - (liftN f a : Int)) / 2) (rootN (rootV f a)) (!decide (rootN (rootV f a) * rootN (rootV f a) = rootV f a))
def sqrtN (f mode : Int) (a : Nat) : Nat :=
 if 4 ≤ clsN f a then nanN f else if clsN f a = 0 then signN f (negN f a) else if negN f a = true then nanN f else if clsN f a = 3 then infN f false else sideN f mode a
def sqrtX (f mode : Int) (a : Nat) : Bool × Bool × Bool × Bool × Bool :=
 if 4 ≤ clsN f a then (isLoud f a, false, false, false, false) else if clsN f a = 0 then (false, false, false, false, false) else if negN f a = true then (true, false, false, false, false) else if clsN f a = 3 then (false, false, false, false, false) else (false, false, sideX f mode a)
theorem lift_bounds (f : Int) (a : Nat) (h : wholeN f a ≠ 0) : (lowestN f a - (liftN f a : Int)) % 2 = 0 ∧ liftN f a ≤ lackN f a ∧ lackN f a ≤ liftN f a + 1 ∧ 1152921504606846976 ≤ rootV f a ∧ rootV f a < 4611686018427387904 ∧ 1073741824 ≤ rootN (rootV f a) := by
 obtain ⟨k1, k2, k3, k4, k5⟩ := lack_bounds f a h
 have main : (lowestN f a - (liftN f a : Int)) % 2 = 0 ∧ liftN f a ≤ lackN f a ∧ lackN f a ≤ liftN f a + 1 := by
  unfold liftN; split <;> omega
 obtain ⟨m1, m2, m3⟩ := main
 have v1 : rootV f a ≤ wholeN f a * 2 ^ lackN f a := Nat.mul_le_mul_left _ (Nat.pow_le_pow_right (by decide) m2)
 have v2 : wholeN f a * 2 ^ lackN f a ≤ rootV f a * 2 := by
  unfold rootV
  rw [Nat.mul_assoc, ← Nat.pow_succ]
  exact Nat.mul_le_mul_left _ (Nat.pow_le_pow_right (by decide) m3)
 have v3 : 1152921504606846976 ≤ rootV f a := by omega
 refine ⟨m1, m2, m3, v3, by omega, ?_⟩
 obtain ⟨_, r2⟩ := rootN_is (rootV f a) (by omega)
 rcases Nat.lt_or_ge (rootN (rootV f a)) 1073741824 with c | c
 ·have := Nat.mul_self_le_mul_self (show rootN (rootV f a) + 1 ≤ 1073741824 from c)
  omega
 ·exact c
theorem of_inf (f : Int) (v : Nat) (hv : v < 4294967296) (h : clsN f v = 3) : sum_Of.f f (v : Int) = some (negN f v, 0, 0, false) := by
 have he := exp_le f v
 have hx : ¬ expN f v < topN f := fun c => by have := (cls_finite f v).mpr c; omega
 have ht := top_cases f
 unfold sum_Of.f format_Unpack.f
 rw [widths_f, Option.bind_some, parts_f f v hv, Option.bind_some]
 dsimp only
 rw [if_neg (by omega), top_f, Option.bind_some, if_pos (by omega)]; rfl
theorem side_ev (f mode : Int) (a : Nat) (ha : a < 4294967296) (h0 : clsN f a ≠ 0) (h3 : clsN f a < 3) (k0 : Int × Bool × Bool × Bool × Bool × Bool → Option (Int × Bool × Bool × Bool × Bool × Bool)) (hk : ∀ r, k0 r = some r) (c : Nat) (hc : c = liftN f a) :
  Ev (fun k => (bits_Shift.f k (wholeN f a : Int) (-(c : Int))).bind fun bt636 => ((bits_Root.f k bt636.1).bind fun bt638 => ((round_Pack.f k f mode false ((lowestN f a - (c : Int)) / 2) (IntKind.u64.wrap (bt638.1)) (!bt638.2)).bind fun bt640 => k0 bt640))) ((sideN f mode a : Int), false, false, sideX f mode a) := by
 subst hc
 have hw := whole_pos f a h0 h3
 obtain ⟨m1, m2, m3, v1, v2, v3⟩ := lift_bounds f a hw
 obtain ⟨k1, k2, k3, k4, k5⟩ := lack_bounds f a hw
 obtain ⟨l1, l2⟩ := lowest_near f a
 have hs := whole_64 f a
 have hr := rootN_lt (rootV f a)
 refine Ev.bind (shift_ev _ hs (-(liftN f a : Int)) (by omega) (by omega)) ?_
 dsimp only
 rw [shift_up _ _ (show wholeN f a * 2 ^ liftN f a < 18446744073709551616 by unfold rootV at v2; omega)]
 refine Ev.bind (root_ev (rootV f a)) ?_
 dsimp only
 have hp := packs_ev f mode false ((lowestN f a - (liftN f a : Int)) / 2) (rootN (rootV f a)) (!decide (rootN (rootV f a) * rootN (rootV f a) = rootV f a)) (by omega)
 rw [clampE_id _ (by omega) (by omega)] at hp
 rw [u64_id _ (by omega)]
 refine Ev.bind hp (Ev.congr (fun k => by rw [hk]; rfl) (Ev.now _))
theorem sqrt_ev (f mode : Int) (a : Nat) (ha : a < 4294967296) : Ev (fun k => quot_Sqrt.f k f mode (a : Int)) ((sqrtN f mode a : Int), sqrtX f mode a) := by
 refine Ev.congr (fun k => by unfold quot_Sqrt.f; rfl) (Ev.bind (pnans1_ev f a ha) ?_)
 have hle := cls_le f a
 unfold sqrtN sqrtX
 by_cases c4 : 4 ≤ clsN f a
 ·rw [if_pos c4, if_pos c4]
  exact Ev.congr (fun k => by rw [if_pos (show isNan f a = true from decide_eq_true c4)]) (Ev.now _)
 ·rw [if_neg c4, if_neg c4]
  have n4 : ¬ isNan f a = true := by unfold isNan; simp; omega
  by_cases c3 : clsN f a = 3
  ·refine Ev.congr (fun k => by rw [if_neg n4, of_inf f a ha c3, Option.bind_some]) (Ev.bind (pzero_ev f a ha) ?_)
   rw [if_neg (show ¬ clsN f a = 0 by omega), if_neg (show ¬ clsN f a = 0 by omega), decide_eq_false (show ¬ clsN f a = 0 by omega)]
   dsimp only
   cases hn : negN f a
   ·rw [if_neg (show ¬ false = true by decide), if_neg (show ¬ false = true by decide), if_pos c3, if_pos c3]
    exact Ev.congr (fun k => by rw [if_neg (show ¬ false = true by decide), if_neg (show ¬ false = true by decide)]) (Ev.bind (pinf_ev f a ha) (Ev.congr (fun k => by rw [if_pos (decide_eq_true c3), inf_f]; rfl) (Ev.now _)))
   ·rw [if_pos (show true = true from rfl), if_pos (show true = true from rfl)]
    exact Ev.congr (fun k => by rw [if_neg (show ¬ false = true by decide), if_pos (show true = true from rfl), bad_f]; rfl) (Ev.now _)
  ·refine Ev.congr (fun k => by rw [if_neg n4, of_f f a ha (cls_exp f a (by omega)), Option.bind_some]) (Ev.bind (pzero_ev f a ha) ?_)
   dsimp only
   by_cases c0 : clsN f a = 0
   ·rw [if_pos c0, if_pos c0]
    exact Ev.congr (fun k => by rw [if_pos (decide_eq_true c0), zero_f]; rfl) (Ev.now _)
   ·rw [if_neg c0, if_neg c0, decide_eq_false c0]
    cases hn : negN f a
    ·rw [if_neg (show ¬ false = true by decide), if_neg (show ¬ false = true by decide), if_neg c3, if_neg c3]
     refine Ev.congr (fun k => by rw [if_neg (show ¬ false = true by decide), if_neg (show ¬ false = true by decide)]) (Ev.bind (pinf_ev f a ha) ?_)
     have hs := whole_64 f a
     have hw := whole_pos f a c0 (by omega)
     obtain ⟨k1, k2, k3, k4, k5⟩ := lack_bounds f a hw
     obtain ⟨l1, l2⟩ := lowest_near f a
     refine Ev.congr (fun k => by rw [if_neg (by simp [c3])]) (Ev.bind (len_ev _ hs) ?_)
     have e1 : wrap64 (62 - (lenN (wholeN f a) : Int)) = (lackN f a : Int) := by rw [w64_id _ (by omega) (by omega)]; omega
     have e2 : wrap64 (lowestN f a - (lackN f a : Int)) = lowestN f a - (lackN f a : Int) := w64_id _ (by omega) (by omega)
     have e3 : wrap64 (-(lackN f a : Int)) = -(lackN f a : Int) := w64_id _ (by omega) (by omega)
     have e4 : wrap64 ((lackN f a : Int) - 1) = ((lackN f a - 1 : Nat) : Int) := by rw [w64_id _ (by omega) (by omega)]; omega
     have e5 : wrap64 (-((lackN f a - 1 : Nat) : Int)) = -((lackN f a - 1 : Nat) : Int) := w64_id _ (by omega) (by omega)
     have e6 : wrap64 (lowestN f a - ((lackN f a - 1 : Nat) : Int)) = lowestN f a - ((lackN f a - 1 : Nat) : Int) := w64_id _ (by omega) (by omega)
     by_cases ev : (lowestN f a - (lackN f a : Int)) % 2 = 0
     ·have hl : lackN f a = liftN f a := by unfold liftN; rw [if_pos ev]
      have e7 : wrap64 (Int.tdiv (lowestN f a - (lackN f a : Int)) 2) = (lowestN f a - (lackN f a : Int)) / 2 := by rw [tdiv_even _ ev, w64_id _ (by omega) (by omega)]
      have h := side_ev f mode a ha c0 (by omega) some (fun r => rfl) _ hl
      exact Ev.congr (fun k => by rw [e1, e2, if_pos ((tmod_even _).mpr ev)]) (Ev.step (fun k => by rw [quot_Sqrt.j0, e2, e3, e7]) h)
     ·have hl : lackN f a - 1 = liftN f a := by unfold liftN; rw [if_neg ev]
      have e7 : wrap64 (Int.tdiv (lowestN f a - ((lackN f a - 1 : Nat) : Int)) 2) = (lowestN f a - ((lackN f a - 1 : Nat) : Int)) / 2 := by rw [tdiv_even _ (by omega), w64_id _ (by omega) (by omega)]
      have h := side_ev f mode a ha c0 (by omega) some (fun r => rfl) _ hl
      exact Ev.congr (fun k => by rw [e1, e2, if_neg (fun h => ev ((tmod_even _).mp h)), e4]) (Ev.step (fun k => by rw [quot_Sqrt.j0, e5, e6, e7]) h)
    ·rw [if_pos (show true = true from rfl), if_pos (show true = true from rfl)]
     exact Ev.congr (fun k => by rw [if_neg (show ¬ false = true by decide), if_pos (show true = true from rfl), bad_f]; rfl) (Ev.now _)
end Go.Proofs.Ytngkpekmgahjiaa.Round

/- Roots: the reference's, as the program's plain numbers (for rounds without chapter 1). -/
namespace Go.Proofs.Ytngkpekmgahjiaa.BitsF
open Go.RowKit Go.Proofs.Ytngkpekmgahjiaa.P Go.Proofs.Ytngkpekmgahjiaa.Num Go.Proofs.YtngkpekmgahjiaaW.PrintWords Go.Proofs.YtngkpekmgahjiaaW.PrintLast Go.Proofs.YtngkpekmgahjiaaW.PrintMore

theorem ref_root_l0 (v : Nat) (j : Nat) : ∀ r k : Nat, r % 2 ^ j = 0 → r + 2 ^ j ≤ 4294967296 → j ≤ 32 →
  annealref1_Root.l0 (j + 1 + k) (v : Int) (r : Int) ((j : Int) - 1) = some ((rootGo j v r : Int), decide (rootGo j v r * rootGo j v r = v)) := by
 induction j with
 |zero =>
  intro r k h h' _
  rw [show 0 + 1 + k = k + 1 by omega, annealref1_Root.l0, if_neg (by decide)]
  rw [Nat.pow_zero] at h'
  unfold rootGo
  rw [show (r : Int) * (r : Int) = ((r * r : Nat) : Int) by simp, u64_id _ (sq32 (by omega)), beq_cast, Int.emod_eq_of_lt (by omega) (by omega)]
 |succ j ih =>
  intro r k h h' hj
  have hp := Nat.two_pow_pos j
  have hh : r % 2 ^ j = 0 := by
   rw [Nat.pow_succ] at h
   have := Nat.mod_mul_right_mod r (2 ^ j) 2
   rw [h] at this; simpa using this.symm
  rw [Nat.pow_succ] at h'
  have es : shl .u64 1 (j : Int) = ((2 ^ j : Nat) : Int) := by rw [show (1 : Int) = ((1 : Nat) : Int) from rfl, shl_u64, Nat.one_mul, Nat.mod_eq_of_lt (by omega)]
  rw [show j + 1 + 1 + k = (j + 1 + k) + 1 by omega, annealref1_Root.l0, show (((j + 1 : Nat) : Int) - 1) = (j : Int) by omega, if_pos (by omega), if_pos (by omega), es, or_u64 _ _ (by omega) (by omega), or_add r (2 ^ j) (j + 1) h (by rw [Nat.pow_succ]; omega)]
  rw [show ((r + 2 ^ j : Nat) : Int) * ((r + 2 ^ j : Nat) : Int) = (((r + 2 ^ j) * (r + 2 ^ j) : Nat) : Int) by simp, u64_id _ (sq32 (by omega)), w64_id _ (by omega) (by omega)]
  unfold rootGo
  by_cases c : (r + 2 ^ j) * (r + 2 ^ j) ≤ v
  ·rw [if_pos (by omega), if_pos c]
   exact ih (r + 2 ^ j) k (by rw [Nat.add_mod_right]; exact hh) (by omega) (by omega)
  ·rw [if_neg (by omega), if_neg c]
   exact ih r k hh (by omega) (by omega)
theorem ref_root_ev (v : Nat) : Ev (fun k => annealref1_Root.f k (v : Int)) ((rootN v : Int), decide (rootN v * rootN v = v)) :=
 Ev.of (annealref1_Root.mono _) (k := 33) (by
  have h := ref_root_l0 v 32 0 0 (by decide) (by decide) (by decide)
  rw [show ((32 : Nat) : Int) - 1 = 31 by decide, show ((0 : Nat) : Int) = 0 from rfl] at h
  exact h)

end Go.Proofs.Ytngkpekmgahjiaa.BitsF

/- The reference's loops of layer 1: how many bits, shifts. -/
namespace Go.Proofs.Ytngkpekmgahjiaa.BitsF
open Go.RowKit Go.Proofs.Ytngkpekmgahjiaa.P Go.Proofs.Ytngkpekmgahjiaa.Num Go.Proofs.YtngkpekmgahjiaaW.PrintWords Go.Proofs.YtngkpekmgahjiaaW.PrintLast Go.Proofs.YtngkpekmgahjiaaW.PrintMore

theorem ref_len_l0 (j : Nat) : ∀ v c k : Nat, v < 2 ^ j → c + j ≤ 64 → annealref1_Len.l0 (j + 1 + k) (v : Int) (c : Int) = some ((c + lenN v : Nat) : Int) := by
 induction j with
 |zero =>
  intro v c k h _
  obtain rfl : v = 0 := by rw [Nat.pow_zero] at h; omega
  rw [show 0 + 1 + k = k + 1 by omega, annealref1_Len.l0, if_neg (by decide)]; rfl
 |succ j ih =>
  intro v c k h hc
  rw [show j + 1 + 1 + k = (j + 1 + k) + 1 by omega, annealref1_Len.l0]
  by_cases hv : v = 0
  ·subst hv; rw [if_neg (by decide)]; rfl
  ·rw [if_pos (by omega), show (v : Int) / 2 = ((v / 2 : Nat) : Int) by omega, w64_id _ (by omega) (by omega), show (c : Int) + 1 = ((c + 1 : Nat) : Int) by omega, ih _ _ k (by rw [Nat.pow_succ] at h; omega) (by omega), lenN_half v hv]
   congr 2; omega
theorem ref_len_ev (v : Nat) (hv : v < 18446744073709551616) : Ev (fun k => annealref1_Len.f k (v : Int)) (lenN v : Int) :=
 Ev.of (annealref1_Len.mono _) (k := 65) (by
  have h := ref_len_l0 64 v 0 0 (by omega) (by decide)
  rw [Nat.zero_add, show 64 + 1 + 0 = 65 from rfl] at h
  unfold annealref1_Len.f
  exact h)
theorem half_pow (v j : Nat) : v / 2 / 2 ^ j = v / 2 ^ (j + 1) := by rw [Nat.div_div_eq_div_mul, Nat.pow_succ, Nat.mul_comm 2]
theorem out_right (v j : Nat) : (decide (v % 2 ≠ 0) || decide (v / 2 % 2 ^ j ≠ 0)) = decide (v % 2 ^ (j + 1) ≠ 0) := by
 have e : v % 2 ^ (j + 1) = v % 2 + 2 * (v / 2 % 2 ^ j) := by rw [Nat.pow_succ, Nat.mul_comm, Nat.mod_mul]
 rw [← Bool.decide_or]
 congr 1; apply propext
 have hz : ∀ z : Nat, v / 2 % 2 ^ j = z → (v % 2 ≠ 0 ∨ z ≠ 0 ↔ v % 2 + 2 * z ≠ 0) := by intro z _; omega
 rw [e]; exact hz _ rfl
theorem ref_shift_l1 (j : Nat) : ∀ (v k : Nat) (b : Bool), v < 18446744073709551616 → j ≤ 64 →
  annealref1_Shift.l1 (j + 1 + k) (v : Int) (-(j : Int)) b = some (((v * 2 ^ j % 18446744073709551616 : Nat) : Int), b || decide (18446744073709551616 ≤ v * 2 ^ j)) := by
 induction j with
 |zero =>
  intro v k b hv _
  rw [show 0 + 1 + k = k + 1 by omega, annealref1_Shift.l1, if_neg (by decide), Nat.pow_zero, Nat.mul_one, Nat.mod_eq_of_lt hv, decide_eq_false (by omega), Bool.or_false]
 |succ j ih =>
  intro v k b hv hj
  have e1 : wrap64 (-((j + 1 : Nat) : Int) + 1) = -(j : Int) := by rw [w64_id] <;> omega
  have e2 : IntKind.u64.wrap ((v : Int) * 2) = ((v * 2 % 18446744073709551616 : Nat) : Int) := by rw [show (v : Int) * 2 = ((v * 2 : Nat) : Int) by omega, u64_nat]
  have e3 : (((v : Int) / 9223372036854775808 == 1) : Bool) = decide (9223372036854775808 ≤ v) := by
   by_cases h : 9223372036854775808 ≤ v
   ·rw [decide_eq_true h, beq_iff_eq]; omega
   ·rw [decide_eq_false h, beq_eq_false_iff_ne]; omega
  have e4 : v * 2 % 18446744073709551616 * 2 ^ j % 18446744073709551616 = v * 2 ^ (j + 1) % 18446744073709551616 := by
   rw [Nat.mod_mul_mod, Nat.mul_assoc, ← Nat.pow_succ']
  have e5 : ∀ b : Bool, ((b || decide (9223372036854775808 ≤ v)) || decide (18446744073709551616 ≤ v * 2 % 18446744073709551616 * 2 ^ j)) = (b || decide (18446744073709551616 ≤ v * 2 ^ (j + 1))) := by
   intro b
   rw [Bool.or_assoc, ← Bool.decide_or]
   congr 2
   apply propext
   rw [show v * 2 ^ (j + 1) = v * 2 * 2 ^ j by rw [Nat.mul_assoc, ← Nat.pow_succ']]
   have hp := Nat.two_pow_pos j
   constructor
   ·rintro (h | h)
    ·calc 18446744073709551616 ≤ v * 2 * 1 := by omega
      _ ≤ v * 2 * 2 ^ j := Nat.mul_le_mul_left _ hp
    ·exact Nat.le_trans h (Nat.mul_le_mul_right _ (Nat.mod_le _ _))
   ·intro h
    by_cases h' : 9223372036854775808 ≤ v
    ·exact .inl h'
    ·right; rw [Nat.mod_eq_of_lt (by omega)]; exact h
  rw [show j + 1 + 1 + k = (j + 1 + k) + 1 by omega, annealref1_Shift.l1, if_pos (by omega), e1, e2, e3]
  by_cases hb : b = true
  ·subst hb
   rw [if_pos rfl, ih _ k true (Nat.mod_lt _ (by decide)) (by omega), e4]
   simp only [Bool.true_or]
  ·rw [if_neg hb, ih _ k _ (Nat.mod_lt _ (by decide)) (by omega), e4]
   have : b = false := by simpa using hb
   subst this
   have := e5 false
   simp only [Bool.false_or] at this ⊢
   rw [this]
theorem ref_shift_l0 (j : Nat) : ∀ (v k : Nat) (b : Bool), v < 18446744073709551616 → j ≤ 64 →
  annealref1_Shift.l0 (j + 2 + k) (v : Int) (j : Int) b = some (((v / 2 ^ j : Nat) : Int), b || decide (v % 2 ^ j ≠ 0)) := by
 induction j with
 |zero =>
  intro v k b hv _
  have h := ref_shift_l1 0 v k b hv (by decide)
  rw [show 0 + 2 + k = (0 + 1 + k) + 1 by omega, annealref1_Shift.l0, if_neg (by decide), show ((0 : Nat) : Int) = -((0 : Nat) : Int) by rfl, h]
  simp [Nat.mod_one]; omega
 |succ j ih =>
  intro v k b hv hj
  have e1 : wrap64 (((j + 1 : Nat) : Int) - 1) = (j : Int) := by rw [w64_id] <;> omega
  have e3 : ((Go.bits .and .u64 (v : Int) 1 == 1) : Bool) = decide (v % 2 ≠ 0) := by
   rw [and1_u64 v hv]
   by_cases h : v % 2 ≠ 0
   ·rw [decide_eq_true h, beq_iff_eq]; omega
   ·rw [decide_eq_false h, beq_eq_false_iff_ne]; omega
  rw [show j + 1 + 2 + k = (j + 2 + k) + 1 by omega, annealref1_Shift.l0, if_pos (by omega), e1, e3, show (v : Int) / 2 = ((v / 2 : Nat) : Int) by omega]
  have o := out_right v j
  by_cases hb : b = true
  ·subst hb
   rw [if_pos rfl, ih _ k true (by omega) (by omega), half_pow]
   simp only [Bool.true_or]
  ·rw [if_neg hb, ih _ k _ (by omega) (by omega), half_pow, o]
   have : b = false := by simpa using hb
   subst this
   rfl
theorem ref_shift_ev (v : Nat) (hv : v < 18446744073709551616) (n : Int) :
  Ev (fun k => annealref1_Shift.f k (v : Int) n) ((((shiftN v n).1 : Nat) : Int), (shiftN v n).2) := by
 refine Ev.of (annealref1_Shift.mono _ _) (k := 67) ?_
 unfold annealref1_Shift.f
 by_cases c : 0 ≤ n
 ·obtain ⟨m, rfl⟩ := nat_of c
  have e : mn (mx (m : Int) (-64)) 64 = ((min m 64 : Nat) : Int) := by unfold mn mx; split <;> split <;> omega
  have h := ref_shift_l0 (min m 64) v (65 - min m 64) false hv (by omega)
  rw [show min m 64 + 2 + (65 - min m 64) = 67 by omega] at h
  rw [e, h, shiftN_right]
  by_cases c' : m ≤ 64
  ·rw [Nat.min_eq_left c']; rfl
  ·have b1 := pow_big (show 64 ≤ m by omega)
   rw [Nat.min_eq_right (by omega), Nat.div_eq_of_lt (show v < 2 ^ 64 by omega), Nat.mod_eq_of_lt (show v < 2 ^ 64 by omega), Nat.div_eq_of_lt (show v < 2 ^ m by omega), Nat.mod_eq_of_lt (show v < 2 ^ m by omega)]; rfl
 ·obtain ⟨m, hm⟩ := nat_of (show 0 ≤ -n by omega)
  obtain rfl : n = -(m : Int) := by omega
  have e : mn (mx (-(m : Int)) (-64)) 64 = -((min m 64 : Nat) : Int) := by unfold mn mx; split <;> split <;> omega
  have h := ref_shift_l1 (min m 64) v (65 - min m 64) false hv (by omega)
  rw [show min m 64 + 1 + (65 - min m 64) = 66 by omega] at h
  rw [e, annealref1_Shift.l0, if_neg (by omega), h, shiftN_left _ _ hv]
  by_cases c' : m ≤ 64
  ·rw [Nat.min_eq_left c']; rfl
  ·rw [Nat.min_eq_right (by omega)]
   have b1 := pow_big (show 64 ≤ m by omega)
   have e : (2 : Nat) ^ m = 18446744073709551616 * 2 ^ (m - 64) := by rw [show 18446744073709551616 = 2 ^ 64 from rfl, ← Nat.pow_add]; congr 1; omega
   have e1 : v * 2 ^ m % 18446744073709551616 = 0 := by rw [e, ← Nat.mul_assoc, Nat.mul_comm v, Nat.mul_assoc, Nat.mul_mod_right]
   rw [e1, show v * 2 ^ 64 % 18446744073709551616 = 0 by omega, Bool.false_or]
   congr 2
   apply decide_eq_decide.mpr
   constructor
   ·intro h1
    have : v ≠ 0 := by intro h0; subst h0; omega
    exact Nat.le_trans b1 (Nat.le_mul_of_pos_left _ (by omega))
   ·intro h1
    have : v ≠ 0 := by intro h0; subst h0; omega
    omega
end Go.Proofs.Ytngkpekmgahjiaa.BitsF

/- What the reference's rounding computes: the same plain numbers. -/
namespace Go.Proofs.Ytngkpekmgahjiaa.Round
open Go.RowKit Go.Proofs.Ytngkpekmgahjiaa.P Go.Proofs.Ytngkpekmgahjiaa.Num Go.Proofs.Ytngkpekmgahjiaa.BitsF Go.Proofs.Ytngkpekmgahjiaa.Fmt Go.Proofs.YtngkpekmgahjiaaW.PrintWords Go.Proofs.YtngkpekmgahjiaaW.PrintLast Go.Proofs.YtngkpekmgahjiaaW.PrintMore

theorem ref_greatest_f (f : Int) (neg : Bool) : annealref1_Greatest.f f neg = some (greatN f neg : Int) := by
 unfold annealref1_Greatest.f greatN
 obtain ⟨hi, _⟩ := inf_lt f neg
 have ht := top_cases f
 have hp := Nat.two_pow_pos (fm f)
 have : 0 < topN f * 2 ^ fm f := Nat.mul_pos (by omega) hp
 rw [ref_inf_f]; simp only [Option.bind_some]
 unfold infN at *
 congr 1; omega
theorem ref_divide_f (s : Nat) (hs : s < 18446744073709551616) (d : Int) (h1 : -100000 ≤ d) (h2 : d ≤ 100000) (hq : d ≤ 0 → s * 2 ^ (-d).toNat < 18446744073709551616) :
  Ev (fun k => annealref1_divide.f k (s : Int) d) ((quoN s d : Int), decide (2 ≤ leftN s d false), decide (leftN s d false = 1 ∨ leftN s d false = 3)) := by
 unfold annealref1_divide.f
 by_cases c : d ≤ 0
 ·obtain ⟨m, hm⟩ := nat_of (show 0 ≤ -d by omega)
  have e : mn (wrap64 (-d)) 63 = ((min m 63 : Nat) : Int) := by rw [w64_id _ (by omega) (by omega), hm]; unfold mn; split <;> omega
  simp only [if_pos c, e, if_pos (show 0 ≤ ((min m 63 : Nat) : Int) by omega), left_none false (.inl c)]
  have hq' := hq c
  rw [hm, Int.toNat_natCast] at hq'
  have e2 : IntKind.u64.wrap ((s : Int) * 2 ^ ((min m 63 : Nat) : Int).toNat) = (quoN s d : Int) := by
   rw [Int.toNat_natCast, show (s : Int) * 2 ^ (min m 63) = ((s * 2 ^ (min m 63) : Nat) : Int) by simp, u64_nat]
   unfold quoN; rw [if_pos c, hm, Int.toNat_natCast]
   by_cases z : s = 0
   ·subst z; simp
   ·have : m ≤ 63 := by
     rcases Nat.lt_or_ge 63 m with h | h
     ·have := pow_big (show 64 ≤ m by omega)
      have : 2 ^ m ≤ s * 2 ^ m := Nat.le_mul_of_pos_left _ (by omega)
      omega
     ·exact h
    rw [Nat.min_eq_left this, Nat.mod_eq_of_lt hq']
  rw [e2]
  exact Ev.now _
 ·obtain ⟨m, rfl⟩ := nat_of (show 0 ≤ d by omega)
  have hqe : quoN s (m : Int) = s / 2 ^ m := by unfold quoN; rw [if_neg c, Int.toNat_natCast]
  rw [hqe]
  simp only [if_neg c]
  by_cases c' : (m : Int) > 64
  ·simp only [if_pos c']
   have hb := pow_big (show 64 ≤ m - 1 by omega)
   have hb2 := pow_big (show 64 ≤ m by omega)
   have hl : leftN s (m : Int) false = if s = 0 then 0 else 1 := by
    by_cases z : s = 0
    ·subst z; rw [left_none _ (.inr (by simp))]; rfl
    ·rw [left_some _ c (by rw [Int.toNat_natCast, Nat.mod_eq_of_lt (by omega)]; exact z), Int.toNat_natCast, Nat.div_eq_of_lt (show s < 2 ^ (m - 1) by omega), if_neg z]; rfl
   rw [Nat.div_eq_of_lt (show s < 2 ^ m by omega), hl, show (0 : Int) = ((0 : Nat) : Int) from rfl, bne_cast]
   by_cases z : s = 0
   ·subst z; exact Ev.now _
   ·rw [if_neg z, decide_eq_true z]; exact Ev.now _
  ·have e : wrap64 ((m : Int) - 1) = ((m - 1 : Nat) : Int) := by rw [w64_id] <;> omega
   simp only [if_neg c', e]
   have hd : s / 2 ^ (m - 1) < 18446744073709551616 := Nat.lt_of_le_of_lt (Nat.div_le_self _ _) hs
   have s1 := ref_shift_ev s hs (m : Int)
   have s2 := ref_shift_ev s hs ((m - 1 : Nat) : Int)
   rw [shiftN_right] at s1 s2
   refine Ev.bind s1 (Ev.bind s2 (Ev.bind s2 ?_))
   rw [and1_u64 _ hd]
   have em : s % 2 ^ m = s % 2 ^ (m - 1) + 2 ^ (m - 1) * (s / 2 ^ (m - 1) % 2) := by
    rw [show m = m - 1 + 1 by omega, Nat.pow_succ, Nat.mod_mul, Nat.add_sub_cancel]
   have hb1 : (((s / 2 ^ (m - 1) % 2 : Nat) : Int) == 1) = decide (2 ≤ leftN s (m : Int) false) ∧ decide (s % 2 ^ (m - 1) ≠ 0) = decide (leftN s (m : Int) false = 1 ∨ leftN s (m : Int) false = 3) := by
    have hp := Nat.two_pow_pos (m - 1)
    by_cases z : s % 2 ^ m = 0
    ·rw [left_none _ (.inr (by rw [Int.toNat_natCast]; exact z))]
     rw [z] at em
     have z1 : s % 2 ^ (m - 1) = 0 := by omega
     have z2 : s / 2 ^ (m - 1) % 2 = 0 := by
      have : 2 ^ (m - 1) * (s / 2 ^ (m - 1) % 2) = 0 := by omega
      rcases Nat.mul_eq_zero.mp this with h | h
      ·omega
      ·exact h
     rw [z1, z2]; exact ⟨rfl, rfl⟩
    ·rw [left_some _ c (by rw [Int.toNat_natCast]; exact z), Int.toNat_natCast]
     have hb : s / 2 ^ (m - 1) % 2 = 0 ∨ s / 2 ^ (m - 1) % 2 = 1 := by omega
     rcases hb with hb | hb
     ·rw [hb, Nat.mul_zero, Nat.add_zero] at em
      rw [em] at z
      rw [hb, decide_eq_true z]; exact ⟨rfl, rfl⟩
     ·rw [hb, if_neg (by decide)]
      by_cases w : s % 2 ^ (m - 1) = 0
      ·rw [w]; exact ⟨rfl, rfl⟩
      ·rw [if_pos (.inl w), decide_eq_true w]; exact ⟨rfl, rfl⟩
   simp only [hb1.1, hb1.2]
   exact Ev.now _
theorem left_more (s : Nat) (d : Int) : decide (2 ≤ leftN s d true) = decide (2 ≤ leftN s d false) ∧ (leftN s d true = 1 ∨ leftN s d true = 3) := by
 by_cases c : d ≤ 0 ∨ s % 2 ^ d.toNat = 0
 ·rw [left_none _ c, left_none _ c]; simp
 ·have c' := not_or.mp c
  rw [left_some _ c'.1 c'.2, left_some _ c'.1 c'.2]
  split
  ·simp
  ·simp; split <;> simp
theorem ref_up_f (mode : Int) (neg : Bool) (q left : Nat) (h : left ≤ 3) : annealref1_up.f mode neg (decide (q % 2 = 1)) (decide (2 ≤ left)) (decide (left = 1 ∨ left = 3)) = some (upN mode neg q left) := by
 unfold annealref1_up.f upN
 have hl : left = 0 ∨ left = 1 ∨ left = 2 ∨ left = 3 := by omega
 by_cases m1 : mode = 1
 ·rw [if_pos m1, if_pos m1]
 ·rw [if_neg m1, if_neg m1]
  by_cases m2 : mode = 2
  ·rw [if_pos m2, if_pos m2]; rcases hl with rfl | rfl | rfl | rfl <;> cases neg <;> rfl
  ·rw [if_neg m2, if_neg m2]
   by_cases m3 : mode = 3
   ·rw [if_pos m3, if_pos m3]; rcases hl with rfl | rfl | rfl | rfl <;> cases neg <;> rfl
   ·rw [if_neg m3, if_neg m3]
    by_cases m4 : mode = 4
    ·rw [if_pos m4, if_pos m4]
    ·rw [if_neg m4, if_neg m4]
     rcases hl with rfl | rfl | rfl | rfl <;> simp
theorem ref_over_f (k : Nat) (f mode : Int) (neg : Bool) : annealref1_over.f (k + 1) f mode neg = some (((if endless mode neg then infN f neg else greatN f neg : Nat) : Int)) := by
 unfold annealref1_over.f endless
 simp only [annealref1_over.j0, ref_greatest_f, ref_inf_f, Option.bind_some]
 by_cases m1 : mode = 1
 ·rw [if_pos m1, if_pos m1]; rfl
 ·rw [if_neg m1, if_neg m1]
  by_cases m2 : mode = 2
  ·rw [if_pos m2, if_pos m2]; subst m2; cases neg <;> rfl
  ·rw [if_neg m2, if_neg m2]
   by_cases m3 : mode = 3
   ·rw [if_pos m3, if_pos m3]; cases neg <;> rfl
   ·rw [if_neg m3, if_neg m3]; rfl
end Go.Proofs.Ytngkpekmgahjiaa.Round

/- The reference's rounding computes the same numbers as the program's. -/
namespace Go.Proofs.Ytngkpekmgahjiaa.Round
open Go.RowKit Go.Proofs.Ytngkpekmgahjiaa.P Go.Proofs.Ytngkpekmgahjiaa.Num Go.Proofs.Ytngkpekmgahjiaa.BitsF Go.Proofs.Ytngkpekmgahjiaa.Fmt Go.Proofs.YtngkpekmgahjiaaW.PrintWords Go.Proofs.YtngkpekmgahjiaaW.PrintLast Go.Proofs.YtngkpekmgahjiaaW.PrintMore

theorem sign_or (f : Int) (neg : Bool) (v : Nat) (h : v < 2 ^ (fe f + fm f)) : Go.bits .or .u32 (signN f neg : Int) (v : Int) = ((v + signN f neg : Nat) : Int) ∧ v + signN f neg < 4294967296 := by
 obtain ⟨b1, b2, b3, b4, b5⟩ := fbounds f
 have h31 := pow_le31 b5
 unfold signN
 cases neg
 ·simp only [Bool.false_eq_true, if_false]
  rw [or_u32 _ _ (by omega) (by omega), Nat.zero_or, Nat.add_zero]; exact ⟨rfl, by omega⟩
 ·simp only [if_true]
  rw [or_u32 _ _ (by omega) (by omega), or_add _ _ (fe f + fm f) (by simp) h, Nat.add_comm]; exact ⟨rfl, by omega⟩
theorem ref_pack_j5 (k : Nat) (f mode : Int) (neg : Bool) (q U : Nat) (hU : U ≤ 10300) (hq : q < 2 ^ (fm f + 1)) (hq' : U ≠ 0 → 2 ^ fm f ≤ q) (K : Nat) (hK : K = U * 2 ^ fm f + q) (c0 c1 c2 c3 c4 : Bool) :
  annealref1_Pack.j5 (k + 2) f mode neg (fm f : Int) (leastN f - fm f + U) (q : Int) c0 c1 c2 c3 c4 = some
   ((((if overN f K then (if endless mode neg then topN f * 2 ^ fm f else topN f * 2 ^ fm f - 1) else K) + signN f neg : Nat) : Int),
    if overN f K then (false, false, true, false, true) else (c0, c1, c2, c3, c4)) ∧
  annealref1_Pack.j6 (k + 2) f mode neg (fm f : Int) (leastN f - fm f + U) (q : Int) c0 c1 c2 c3 c4 = some
   ((((if overN f K then (if endless mode neg then topN f * 2 ^ fm f else topN f * 2 ^ fm f - 1) else K) + signN f neg : Nat) : Int),
    if overN f K then (false, false, true, false, true) else (c0, c1, c2, c3, c4)) := by
 obtain ⟨b1, b2, b3, b4, b5⟩ := fbounds f
 have hl := least_cases f
 have hp := Nat.two_pow_pos (fm f)
 have hpe := Nat.two_pow_pos (fe f)
 have h31 := pow_le31 (show fm f + 1 ≤ 31 by omega)
 have h8 := pow_le31 (show fe f ≤ 31 by omega)
 have hsucc : 2 ^ (fm f + 1) = 2 * 2 ^ fm f := by rw [Nat.pow_succ, Nat.mul_comm]
 have ht := top_cases f
 obtain ⟨_, hte⟩ := inf_lt f neg
 have e1 : shl .u64 1 (fm f : Int) = ((2 ^ fm f : Nat) : Int) := by rw [show (1 : Int) = ((1 : Nat) : Int) from rfl, shl_u64, Nat.one_mul, Nat.mod_eq_of_lt (by omega)]
 have e2 : wrap64 (wrap64 (leastN f - (fm f : Int) + (U : Int) + (fm f : Int)) + (1 - leastN f)) = ((U + 1 : Nat) : Int) := by
  rw [w64_id (leastN f - (fm f : Int) + (U : Int) + (fm f : Int)) (by omega) (by omega), w64_id _ (by omega) (by omega)]; omega
 have e3 : wrap64 (shl .i64 1 (fe f : Int) - 1) = ((topN f : Nat) : Int) := by
  rw [one_shl_i64 _ (by omega), w64_id _ (by omega) (by omega)]; unfold topN; omega
 rw [annealref1_Pack.j5, annealref1_Pack.j6, if_pos (by omega), e1, ref_bias_f, ref_widths_f, ref_sign_f]
 simp only [Option.bind_some]
 rw [if_pos (show (0 : Int) ≤ (fe f : Int) by omega), e2, e3, ref_over_f]
 simp only [Option.bind_some]
 by_cases c : q < 2 ^ fm f
 ·have hU0 : U = 0 := by
   rcases Nat.eq_zero_or_pos U with h | h
   ·exact h
   ·have := hq' (by omega); omega
  have ho : overN f K = false := by
   unfold overN
   rw [decide_eq_false_iff_not, hK, hU0]
   have : 1 * 2 ^ fm f ≤ topN f * 2 ^ fm f := Nat.mul_le_mul_right _ (by omega)
   omega
  obtain ⟨s1, s2⟩ := sign_or f neg q (by omega)
  rw [if_pos (show (q : Int) < ((2 ^ fm f : Nat) : Int) by omega), show (q : Int) % 4294967296 = (q : Int) by omega, s1, ho, hK, hU0]
  simp
 ·rw [if_neg (show ¬ (q : Int) < ((2 ^ fm f : Nat) : Int) by omega)]
  have ho : ((U + 1 : Nat) : Int) ≥ (topN f : Int) ↔ overN f K = true := by
   unfold overN
   rw [decide_eq_true_iff, hK]
   constructor
   ·intro h
    have : topN f * 2 ^ fm f ≤ (U + 1) * 2 ^ fm f := Nat.mul_le_mul_right _ (by omega)
    rw [Nat.add_mul, Nat.one_mul] at this; omega
   ·intro h
    rcases Nat.lt_or_ge (U + 1) (topN f) with d | d
    ·have : (U + 1 + 1) * 2 ^ fm f ≤ topN f * 2 ^ fm f := Nat.mul_le_mul_right _ d
     rw [Nat.add_mul, Nat.add_mul, Nat.one_mul] at this; omega
    ·omega
  by_cases c' : ((U + 1 : Nat) : Int) ≥ (topN f : Int)
  ·rw [if_pos c', ho.mp c']
   simp only [if_true]
   have : (if endless mode neg then infN f neg else greatN f neg) = (if endless mode neg then topN f * 2 ^ fm f else topN f * 2 ^ fm f - 1) + signN f neg := by
    unfold infN greatN; split <;> rfl
   rw [this]
   exact ⟨rfl, rfl⟩
  ·rw [if_neg c']
   have co : overN f K = false := by simpa using fun h => c' (ho.mpr h)
   have hmul : (U + 1) * 2 ^ fm f + 2 ^ fm f ≤ 2 ^ (fe f + fm f) := by
    have : (U + 1) * 2 ^ fm f ≤ topN f * 2 ^ fm f := Nat.mul_le_mul_right _ (by omega)
    omega
   have h32 := pow_le31 b5
   have hm1 : q % 2 ^ fm f = q - 2 ^ fm f := by
    have h1 : q / 2 ^ fm f = 1 := Nat.div_eq_of_lt_le (by omega) (by omega)
    have := Nat.div_add_mod q (2 ^ fm f)
    rw [h1, Nat.mul_one] at this; omega
   have e4 : shl .u32 (((U + 1 : Nat) : Int) % 4294967296) (fm f : Int) = (((U + 1) * 2 ^ fm f : Nat) : Int) := by
    rw [show ((U + 1 : Nat) : Int) % 4294967296 = ((U + 1 : Nat) : Int) by omega, shl_u32, Nat.mod_eq_of_lt (by omega)]
   have e5 : Go.bits .and .u64 (q : Int) (IntKind.u64.wrap (((2 ^ fm f : Nat) : Int) - 1)) % 4294967296 = ((q % 2 ^ fm f : Nat) : Int) := by
    rw [show ((2 ^ fm f : Nat) : Int) - 1 = ((2 ^ fm f - 1 : Nat) : Int) by omega, u64_id _ (by omega), mask_u64 _ _ (by omega) (by omega)]
    have := Nat.mod_lt q hp; omega
   have hKe : K + signN f neg = (U + 1) * 2 ^ fm f + signN f neg + q % 2 ^ fm f := by
    rw [hK, hm1, Nat.add_mul]; omega
   obtain ⟨s1, s2⟩ := sign_or f neg ((U + 1) * 2 ^ fm f) (by omega)
   have hq2 : q % 2 ^ fm f < 2 ^ fm f := Nat.mod_lt _ hp
   have e6 : Go.bits .or .u32 (((U + 1) * 2 ^ fm f + signN f neg : Nat) : Int) ((q % 2 ^ fm f : Nat) : Int) = (((U + 1) * 2 ^ fm f + signN f neg + q % 2 ^ fm f : Nat) : Int) := by
    rw [or_u32 _ _ s2 (by omega), or_add _ _ (fm f) ?_ hq2]
    unfold signN
    cases neg
    ·simp
    ·simp only [if_true]
     rw [Nat.pow_add, ← Nat.add_mul, Nat.mul_mod_left]
   rw [e4, s1, e5, e6, co]
   simp only [Bool.false_eq_true, if_false, hKe]
   exact ⟨trivial, trivial⟩
theorem step_ew (f : Int) : wrap64 ((fm f : Int) + 1) = ((fm f + 1 : Nat) : Int) := by
 obtain ⟨b1, b2, b3, b4, b5⟩ := fbounds f
 rw [w64_id] <;> omega
theorem step_es (f : Int) : shl .u64 1 ((fm f + 1 : Nat) : Int) = ((2 ^ (fm f + 1) : Nat) : Int) := by
 obtain ⟨b1, b2, b3, b4, b5⟩ := fbounds f
 have h31 := pow_le31 (show fm f + 1 ≤ 31 by omega)
 rw [show (1 : Int) = ((1 : Nat) : Int) from rfl, shl_u64, Nat.one_mul, Nat.mod_eq_of_lt (by omega)]
theorem step_e8 (f : Int) (U : Nat) (h : U ≤ 10200) : wrap64 (leastN f - (fm f : Int) + (U : Int) + 1) = leastN f - (fm f : Int) + ((U + 1 : Nat) : Int) := by
 obtain ⟨b1, b2, b3, b4, b5⟩ := fbounds f
 have hl := least_cases f
 rw [w64_id] <;> omega
theorem step_e9 (f : Int) : (((2 ^ (fm f + 1) : Nat) : Int)) / 2 = ((2 ^ fm f : Nat) : Int) := by
 have hsucc : 2 ^ (fm f + 1) = 2 * 2 ^ fm f := by rw [Nat.pow_succ, Nat.mul_comm]
 omega
theorem step_lt (f : Int) : 2 ^ fm f < 2 ^ (fm f + 1) := Nat.pow_lt_pow_right (by decide) (Nat.lt_succ_self _)
theorem step_key (U m q : Nat) (h : q = 2 * m) : (U + 1) * m + m = U * m + q := by rw [Nat.add_mul]; omega
theorem step_q {a b : Nat} (h : a ≤ b) (h' : ¬ a = b) : a < b := by omega
theorem step_i {a b : Nat} (h' : ¬ a = b) : ¬ ((a : Int) = (b : Int)) := by omega
theorem step_n {m : Nat} : (0 : Int) ≤ (m : Int) := by omega
theorem ref_pack_ev (f mode : Int) (neg : Bool) (x : Int) (s : Nat) (more : Bool) (hs : s < 18446744073709551616) :
  Ev (fun k => annealref1_Pack.f k f mode neg x (s : Int) more) ((packN f mode neg (clampE x) s more : Int), false, false, excN f mode neg (clampE x) s more) := by
 unfold annealref1_Pack.f
 have hc : mn (mx x (-10000)) 10000 = clampE x := rfl
 obtain ⟨h1, h2⟩ := clampE_bounds x
 rw [hc]
 generalize clampE x = x at *
 have hll := left_le s (unitN f x s - x) more
 by_cases z : s = 0 ∧ more = false
 ·obtain ⟨rfl, rfl⟩ := z
  simp only [if_pos (show ((0 : Nat) : Int) = 0 from rfl)]
  refine Ev.step (fun k => by rw [annealref1_Pack.j0]) ?_
  simp only [Bool.not_false, if_true, ref_zero_f, Option.bind_some]
  have h := pack_f 0 f mode neg x 0 false (by decide)
  rw [clampE_id x h1 h2] at h
  unfold round_Pack.f at h
  rw [if_pos (by rfl), show mn (mx x (-10000)) 10000 = x from clampE_id x h1 h2, round_Pack.j0] at h
  simp only [Bool.not_false, if_true, zero_f, Option.bind_some] at h
  rw [← Option.some.inj h]
  exact Ev.now _
 ·have hj : ∀ k, (if (s : Int) = 0 then annealref1_Pack.j0 k f mode neg x (s : Int) more (!more) else annealref1_Pack.j0 k f mode neg x (s : Int) more false) = annealref1_Pack.j0 k f mode neg x (s : Int) more false := by
   intro k
   by_cases c : (s : Int) = 0
   ·rw [if_pos c]
    cases more
    ·exact absurd ⟨by omega, rfl⟩ z
    ·rfl
   ·rw [if_neg c]
  refine Ev.congr hj ?_
  obtain ⟨u1, u2, u3⟩ := unit_bounds f x s hs h1 h2
  obtain ⟨q1, q2⟩ := quo_bounds f x s
  obtain ⟨b1, b2, b3, b4, b5⟩ := fbounds f
  have hl := least_cases f
  have hn := lenN_small s hs
  have h31 := pow_le31 (show fm f + 1 ≤ 31 by omega)
  have hp := Nat.two_pow_pos (fm f)
  have hsucc : 2 ^ (fm f + 1) = 2 * 2 ^ fm f := by rw [Nat.pow_succ, Nat.mul_comm]
  have hq64 : quoN s (unitN f x s - x) < 18446744073709551616 := by omega
  have hd : unitN f x s - x ≤ 0 → s * 2 ^ (-(unitN f x s - x)).toNat < 18446744073709551616 := by
   intro h; have := hq64; unfold quoN at this; rw [if_pos h] at this; exact this
  -- the exponent that the reference takes
  have hE : ∃ e : Int, (∀ k, (if (s : Int) = 0 then annealref1_Pack.j1 k f mode neg x (s : Int) more (fm f : Int) (leastN f) (-20000) else annealref1_Pack.j1 k f mode neg x (s : Int) more (fm f : Int) (leastN f) (wrap64 (wrap64 (x + (lenN s : Int)) - 1))) = annealref1_Pack.j1 k f mode neg x (s : Int) more (fm f : Int) (leastN f) e) ∧ wrap64 (mx e (leastN f) - (fm f : Int)) = unitN f x s ∧ (decide (e < leastN f) = (decide (s = 0) || decide (x + lenN s - 1 < leastN f))) := by
   by_cases c : s = 0
   ·subst c
    refine ⟨-20000, fun k => by rw [if_pos (show ((0 : Nat) : Int) = 0 from rfl)], ?_, ?_⟩
    ·have : riseN f x 0 = 0 := by unfold riseN; rw [if_pos rfl]
     have hm : mx (-20000) (leastN f) = leastN f := by unfold mx; split <;> omega
     rw [hm]
     unfold unitN; rw [this, w64_id _ (by omega) (by omega)]; omega
    ·rw [decide_eq_true (by omega)]; simp
   ·have e1 : wrap64 (wrap64 (x + (lenN s : Int)) - 1) = x + lenN s - 1 := by
     rw [w64_id (x + _) (by omega) (by omega), w64_id _ (by omega) (by omega)]
    refine ⟨x + lenN s - 1, fun k => by rw [if_neg (by omega), e1], ?_, ?_⟩
    ·have hr : riseN f x s = (x + lenN s - 1 - leastN f).toNat := by unfold riseN; rw [if_neg c]
     unfold unitN mx
     split
     ·rw [w64_id _ (by omega) (by omega)]; omega
     ·rw [w64_id _ (by omega) (by omega)]; omega
    ·rw [decide_eq_false c, Bool.false_or]
  obtain ⟨e, he1, he2, he3⟩ := hE
  refine Ev.step (fun k => by rw [annealref1_Pack.j0]) ?_
  simp only [Bool.false_eq_true, if_false, ref_widths_f, ref_bias_f, Option.bind_some]
  refine Ev.bind (ref_len_ev s hs) ?_
  rw [show (1 : Int) - (1 - leastN f) = leastN f by omega, w64_id (leastN f) (by omega) (by omega)]
  refine Ev.congr he1 ?_
  refine Ev.step (fun k => by rw [annealref1_Pack.j1]) ?_
  rw [he2, w64_id (unitN f x s - x) (by omega) (by omega)]
  refine Ev.bind (ref_divide_f s hs _ (by omega) (by omega) hd) ?_
  -- what is left, with the little more
  have hlm : leftN s (unitN f x s - x) false ≤ 3 := left_le s _ false
  have hcol : ∀ k (r : Option (Int × Bool × Bool × Bool × Bool × Bool)), annealref1_Pack.j2 k f mode neg (fm f : Int) (leastN f) e (unitN f x s) (quoN s (unitN f x s - x) : Int) (decide (2 ≤ leftN s (unitN f x s - x) more)) (decide (leftN s (unitN f x s - x) more = 1 ∨ leftN s (unitN f x s - x) more = 3)) = r →
    (if decide (leftN s (unitN f x s - x) false = 1 ∨ leftN s (unitN f x s - x) false = 3) = true then annealref1_Pack.j2 k f mode neg (fm f : Int) (leastN f) e (unitN f x s) (quoN s (unitN f x s - x) : Int) (decide (2 ≤ leftN s (unitN f x s - x) false)) true else annealref1_Pack.j2 k f mode neg (fm f : Int) (leastN f) e (unitN f x s) (quoN s (unitN f x s - x) : Int) (decide (2 ≤ leftN s (unitN f x s - x) false)) more) = r := by
   intro k r h
   cases more
   ·by_cases c : leftN s (unitN f x s - x) false = 1 ∨ leftN s (unitN f x s - x) false = 3
    ·rw [decide_eq_true c] at h ⊢; rw [if_pos rfl]; exact h
    ·rw [decide_eq_false c] at h ⊢; rw [if_neg (by decide)]; exact h
   ·obtain ⟨m1, m2⟩ := left_more s (unitN f x s - x)
    rw [decide_eq_true m2, m1] at h
    split <;> exact h
  refine Ev.congr (fun k => hcol k _ rfl) ?_
  generalize hL : leftN s (unitN f x s - x) more = L at *
  refine Ev.step (fun k => by rw [annealref1_Pack.j2]) ?_
  have hinx : decide (L ≠ 0) = inexN f x s more := by unfold inexN; rw [hL]
  have h2 : ∀ k, (if decide (2 ≤ L) = true then annealref1_Pack.j3 k f mode neg (fm f : Int) (leastN f) e (unitN f x s) (quoN s (unitN f x s - x) : Int) (decide (2 ≤ L)) (decide (L = 1 ∨ L = 3)) true else annealref1_Pack.j3 k f mode neg (fm f : Int) (leastN f) e (unitN f x s) (quoN s (unitN f x s - x) : Int) (decide (2 ≤ L)) (decide (L = 1 ∨ L = 3)) (decide (L = 1 ∨ L = 3))) = annealref1_Pack.j3 k f mode neg (fm f : Int) (leastN f) e (unitN f x s) (quoN s (unitN f x s - x) : Int) (decide (2 ≤ L)) (decide (L = 1 ∨ L = 3)) (inexN f x s more) := by
   intro k
   rw [← hinx]
   have : L = 0 ∨ L = 1 ∨ L = 2 ∨ L = 3 := by omega
   rcases this with h | h | h | h <;> subst h <;> rfl
  refine Ev.congr h2 ?_
  refine Ev.step (fun k => by rw [annealref1_Pack.j3]) ?_
  have hodd : ((Go.bits .and .u64 (quoN s (unitN f x s - x) : Int) 1 == 1) : Bool) = decide (quoN s (unitN f x s - x) % 2 = 1) := by
   rw [and1_u64 _ hq64, show (1 : Int) = ((1 : Nat) : Int) from rfl, beq_nn]
  simp only [hodd, ref_up_f mode neg _ L hll, Option.bind_some]
  -- the unit above
  have hK : keyN f mode neg x s more = riseN f x s * 2 ^ fm f + (quoN s (unitN f x s - x) + (if upN mode neg (quoN s (unitN f x s - x)) L then 1 else 0)) := by
   unfold keyN; rw [hL, Nat.add_assoc]
  have h3 : ∀ k, (if upN mode neg (quoN s (unitN f x s - x)) L = true then annealref1_Pack.j4 k f mode neg (fm f : Int) (leastN f) e (unitN f x s) (IntKind.u64.wrap ((quoN s (unitN f x s - x) : Int) + 1)) (inexN f x s more) else annealref1_Pack.j4 k f mode neg (fm f : Int) (leastN f) e (unitN f x s) (quoN s (unitN f x s - x) : Int) (inexN f x s more)) = annealref1_Pack.j4 k f mode neg (fm f : Int) (leastN f) e (unitN f x s) ((quoN s (unitN f x s - x) + (if upN mode neg (quoN s (unitN f x s - x)) L then 1 else 0) : Nat) : Int) (inexN f x s more) := by
   intro k
   by_cases c : upN mode neg (quoN s (unitN f x s - x)) L = true
   ·rw [if_pos c, if_pos c, show (quoN s (unitN f x s - x) : Int) + 1 = ((quoN s (unitN f x s - x) + 1 : Nat) : Int) by omega, u64_id _ (by omega)]
   ·rw [if_neg c, if_neg c, Nat.add_zero]
  refine Ev.congr h3 ?_
  have hqn : quoN s (unitN f x s - x) + (if upN mode neg (quoN s (unitN f x s - x)) L then 1 else 0) ≤ 2 ^ (fm f + 1) := by split <;> omega
  have hqm : riseN f x s ≠ 0 → 2 ^ fm f ≤ quoN s (unitN f x s - x) + (if upN mode neg (quoN s (unitN f x s - x)) L then 1 else 0) := fun h => Nat.le_trans (q2 h) (Nat.le_add_right _ _)
  generalize quoN s (unitN f x s - x) + (if upN mode neg (quoN s (unitN f x s - x)) L then 1 else 0) = Q at *
  have hun : unitN f x s = leastN f - fm f + (riseN f x s : Nat) := rfl
  rw [hun]
  have ew := step_ew f
  have es := step_es f
  have e8 := step_e8 f _ u3
  have e9 := step_e9 f
  have fin : ∀ r : Int × Bool × Bool × Bool × Bool × Bool, r = ((((if overN f (keyN f mode neg x s more) then (if endless mode neg then topN f * 2 ^ fm f else topN f * 2 ^ fm f - 1) else keyN f mode neg x s more) + signN f neg : Nat) : Int), if overN f (keyN f mode neg x s more) then (false, false, true, false, true) else (false, false, false, underN f x s more, inexN f x s more)) → r = ((packN f mode neg x s more : Int), false, false, excN f mode neg x s more) := by
   intro r hr
   rw [hr]
   unfold packN excN
   split <;> rfl
  have hund : underN f x s more = (inexN f x s more && decide (e < leastN f)) := by unfold underN; rw [he3]
  refine Ev.step (fun k => by rw [annealref1_Pack.j4]) ?_
  simp only [ew, es, e8, if_pos (step_n (m := fm f + 1))]
  by_cases cQ : Q = 2 ^ (fm f + 1)
  ·have g := fun k c3 => ref_pack_j5 k f mode neg (2 ^ fm f) (riseN f x s + 1) (Nat.le_trans (Nat.succ_le_succ u3) (by decide)) (step_lt f) (fun _ => Nat.le_refl _) (keyN f mode neg x s more) (by rw [hK]; exact (step_key _ _ _ (cQ.trans hsucc)).symm) false false false c3 (inexN f x s more)
   simp only [cQ, if_true, e9]
   by_cases ci : inexN f x s more = true
   ·simp only [ci, if_true] at g ⊢
    rw [ci, Bool.true_and] at hund
    rw [← fin _ rfl, hund, ci]
    exact ⟨2, fun n hn => by obtain ⟨m, rfl⟩ : ∃ m, n = m + 2 := ⟨n - 2, by omega⟩; exact (g m _).1⟩
   ·rw [Bool.not_eq_true] at ci
    simp only [ci, Bool.false_eq_true, if_false] at g ⊢
    rw [ci, Bool.false_and] at hund
    rw [← fin _ rfl, hund, ci]
    exact ⟨2, fun n hn => by obtain ⟨m, rfl⟩ : ∃ m, n = m + 2 := ⟨n - 2, by omega⟩; exact (g m _).2⟩
  ·have g := fun k c3 => ref_pack_j5 k f mode neg Q (riseN f x s) (Nat.le_trans u3 (by decide)) (step_q hqn cQ) hqm (keyN f mode neg x s more) hK false false false c3 (inexN f x s more)
   have cQ' : ¬ ((Q : Int) = ((2 ^ (fm f + 1) : Nat) : Int)) := step_i cQ
   simp only [cQ', if_false]
   by_cases ci : inexN f x s more = true
   ·simp only [ci, if_true] at g ⊢
    rw [ci, Bool.true_and] at hund
    rw [← fin _ rfl, hund, ci]
    exact ⟨2, fun n hn => by obtain ⟨m, rfl⟩ : ∃ m, n = m + 2 := ⟨n - 2, by omega⟩; exact (g m _).1⟩
   ·rw [Bool.not_eq_true] at ci
    simp only [ci, Bool.false_eq_true, if_false] at g ⊢
    rw [ci, Bool.false_and] at hund
    rw [← fin _ rfl, hund, ci]
    exact ⟨2, fun n hn => by obtain ⟨m, rfl⟩ : ∃ m, n = m + 2 := ⟨n - 2, by omega⟩; exact (g m _).2⟩
end Go.Proofs.Ytngkpekmgahjiaa.Round

/- Quotients: the reference's, as the program's plain numbers. -/
namespace Go.Proofs.Ytngkpekmgahjiaa.Round
open Go.RowKit Go.Proofs.Ytngkpekmgahjiaa.P Go.Proofs.Ytngkpekmgahjiaa.Num Go.Proofs.Ytngkpekmgahjiaa.BitsF Go.Proofs.Ytngkpekmgahjiaa.Fmt Go.Proofs.YtngkpekmgahjiaaW.PrintWords Go.Proofs.YtngkpekmgahjiaaW.PrintLast Go.Proofs.YtngkpekmgahjiaaW.PrintMore

theorem ref_div_l1 (f mode : Int) (s : Bool) (x : Int) (m : Nat) (r : Int × Bool × Bool × Bool × Bool × Bool) (i : Nat) : ∀ (y : Int) (n : Nat), n ≠ 0 → lenN n + i = 24 → -100000 ≤ y - i → y ≤ 100000 →
  Ev (fun k => annealref1_Div.l1 k f mode s x (m : Int) (y - (i : Int)) ((n * 2 ^ i : Nat) : Int)) r → Ev (fun k => annealref1_Div.l1 k f mode s x (m : Int) y (n : Int)) r := by
 induction i with
 |zero => intro y n _ _ _ _ h; simpa using h
 |succ i ih =>
  intro y n h0 hl h1 h2 h
  have hn := Nat.lt_of_lt_of_le (lenN_lt n) (Nat.pow_le_pow_right (show 0 < 2 by decide) (show lenN n ≤ 23 by omega))
  have hl2 := lenN_mul n 1 h0
  rw [Nat.pow_one] at hl2
  have hw : IntKind.u64.wrap ((n : Int) * 2) = ((n * 2 : Nat) : Int) := by rw [show (n : Int) * 2 = ((n * 2 : Nat) : Int) by omega, u64_id _ (by omega)]
  refine Ev.step (fun k => by rw [annealref1_Div.l1, if_pos (by omega), hw, w64_id (y - 1) (by omega) (by omega)]) (ih (y - 1) (n * 2) (by omega) (by omega) (by omega) (by omega) ?_)
  rw [show y - 1 - (i : Int) = y - ((i + 1 : Nat) : Int) by omega, Nat.mul_assoc, ← Nat.pow_succ']
  exact h
theorem ref_div_l0 (f mode : Int) (s : Bool) (y : Int) (n : Nat) (r : Int × Bool × Bool × Bool × Bool × Bool) (i : Nat) : ∀ (x : Int) (m : Nat), m ≠ 0 → lenN m + i = 24 → -100000 ≤ x - i → x ≤ 100000 →
  Ev (fun k => annealref1_Div.l0 k f mode s (x - (i : Int)) ((m * 2 ^ i : Nat) : Int) y (n : Int)) r → Ev (fun k => annealref1_Div.l0 k f mode s x (m : Int) y (n : Int)) r := by
 induction i with
 |zero => intro y n _ _ _ _ h; simpa using h
 |succ i ih =>
  intro x m h0 hl h1 h2 h
  have hn := Nat.lt_of_lt_of_le (lenN_lt m) (Nat.pow_le_pow_right (show 0 < 2 by decide) (show lenN m ≤ 23 by omega))
  have hl2 := lenN_mul m 1 h0
  rw [Nat.pow_one] at hl2
  have hw : IntKind.u64.wrap ((m : Int) * 2) = ((m * 2 : Nat) : Int) := by rw [show (m : Int) * 2 = ((m * 2 : Nat) : Int) by omega, u64_id _ (by omega)]
  refine Ev.step (fun k => by rw [annealref1_Div.l0, if_pos (by omega), hw, w64_id (x - 1) (by omega) (by omega)]) (ih (x - 1) (m * 2) (by omega) (by omega) (by omega) (by omega) ?_)
  rw [show x - 1 - (i : Int) = x - ((i + 1 : Nat) : Int) by omega, Nat.mul_assoc, ← Nat.pow_succ']
  exact h
theorem len_range (n i L : Nat) (h0 : n ≠ 0) (h : lenN n + i = L + 1) : 2 ^ L ≤ n * 2 ^ i ∧ n * 2 ^ i < 2 ^ (L + 1) := by
 have hp := Nat.two_pow_pos i
 have h1 := lenN_pos n h0
 have l1 := Nat.mul_le_mul_right (2 ^ i) (lenN_le n h0)
 have l2 := Nat.mul_lt_mul_of_pos_right (lenN_lt n) hp
 rw [← Nat.pow_add, show lenN n - 1 + i = L by omega] at l1
 rw [← Nat.pow_add, h] at l2
 exact ⟨l1, l2⟩
theorem ratio_same (f mode : Int) (s : Bool) (e : Int) (A B i j c : Nat) (hA : A ≠ 0) (hB : B ≠ 0) (hi : lenN A + i = 24) (hj : lenN B + j = 24) (hc : lenN A + c = 62) :
  packN f mode s (e - (i : Int) + (j : Int) - 40) (A * 2 ^ i * 1099511627776 / (B * 2 ^ j)) (decide (A * 2 ^ i * 1099511627776 % (B * 2 ^ j) ≠ 0)) = packN f mode s (e - c) (A * 2 ^ c / B) (decide (A * 2 ^ c % B ≠ 0)) ∧
  excN f mode s (e - (i : Int) + (j : Int) - 40) (A * 2 ^ i * 1099511627776 / (B * 2 ^ j)) (decide (A * 2 ^ i * 1099511627776 % (B * 2 ^ j) ≠ 0)) = excN f mode s (e - c) (A * 2 ^ c / B) (decide (A * 2 ^ c % B ≠ 0)) := by
 obtain ⟨a1, a2⟩ := len_range A i 23 hA hi
 obtain ⟨b1, b2⟩ := len_range B j 23 hB hj
 obtain ⟨c1, c2⟩ := len_range A c 61 hA hc
 have hpj := Nat.two_pow_pos j
 have hla := lenN_pos A hA
 have hlb := lenN_pos B hB
 have hb := fbounds f
 have hf : 2 ^ (fm f + 1) ≤ 16777216 := Nat.pow_le_pow_right (show 0 < 2 by decide) (show fm f + 1 ≤ 24 by omega)
 have hBl : B < 16777216 := Nat.lt_of_lt_of_le (lenN_lt B) (Nat.pow_le_pow_right (show 0 < 2 by decide) (show lenN B ≤ 24 by omega))
 obtain ⟨d, hd⟩ : ∃ d, i + 40 = d + j := ⟨i + 40 - j, by omega⟩
 have e1 : A * 2 ^ i * 1099511627776 = A * 2 ^ d * 2 ^ j := by
  rw [show 1099511627776 = 2 ^ 40 from rfl, Nat.mul_assoc, ← Nat.pow_add, hd, Nat.pow_add, ← Nat.mul_assoc]
 have q1 : 2 ^ (fm f + 1) ≤ A * 2 ^ d / B := by
  rw [Nat.le_div_iff_mul_le (by omega)]
  refine Nat.le_of_mul_le_mul_right ?_ hpj
  rw [← e1, Nat.mul_assoc]
  have h1 := Nat.mul_le_mul hf (Nat.le_of_lt b2)
  have h2 := Nat.mul_le_mul_right 1099511627776 a1
  refine Nat.le_trans h1 (Nat.le_trans ?_ h2)
  decide
 have q2 : 2 ^ (fm f + 1) ≤ A * 2 ^ c / B := by
  rw [Nat.le_div_iff_mul_le (by omega)]
  refine Nat.le_trans (Nat.mul_le_mul hf (Nat.le_of_lt hBl)) (Nat.le_trans ?_ c1)
  decide
 have hm : decide (A * 2 ^ d * 2 ^ j % (B * 2 ^ j) ≠ 0) = decide (A * 2 ^ d % B ≠ 0) := by
  rw [Nat.mul_mod_mul_right]
  apply decide_eq_decide.mpr
  rw [Nat.mul_ne_zero_iff]
  exact ⟨fun h => h.1, fun h => ⟨h, by omega⟩⟩
 rw [e1, Nat.mul_div_mul_right _ _ hpj, hm, show e - (i : Int) + (j : Int) - 40 = e - (d : Int) by omega]
 exact quo_same f mode s e A B d c (by omega) q1 q2
theorem ref_ratio_ev (f mode : Int) (a b : Nat) (ha : a < 4294967296) (hb : b < 4294967296) (ca : clsN f a < 3) (cb : clsN f b < 3) (a0 : clsN f a ≠ 0) (b0 : clsN f b ≠ 0) :
  Ev (fun k => annealref1_Div.l0 k f mode (negN f a != negN f b) (lowestN f a) (wholeN f a : Int) (lowestN f b) (wholeN f b : Int)) ((ratioN f mode a b : Int), false, false, ratioX f mode a b) := by
 have wa := whole_pos f a a0 ca
 have wb := whole_pos f b b0 cb
 have ha24 := lenN_bound _ 24 (whole_24 f a)
 have hb24 := lenN_bound _ 24 (whole_24 f b)
 obtain ⟨i, hi⟩ : ∃ i, lenN (wholeN f a) + i = 24 := ⟨24 - lenN (wholeN f a), by omega⟩
 obtain ⟨j, hj⟩ : ∃ j, lenN (wholeN f b) + j = 24 := ⟨24 - lenN (wholeN f b), by omega⟩
 obtain ⟨l1, l2⟩ := lowest_near f a
 obtain ⟨m1, m2⟩ := lowest_near f b
 obtain ⟨_, _, k3, _⟩ := lack_bounds f a wa
 obtain ⟨a1, a2⟩ := len_range _ i 23 wa hi
 obtain ⟨b1, b2⟩ := len_range _ j 23 wb hj
 obtain ⟨r1, r2⟩ := ratio_same f mode (negN f a != negN f b) (lowestN f a - lowestN f b) (wholeN f a) (wholeN f b) i j (lackN f a) wa wb hi hj k3
 refine ref_div_l0 f mode _ _ _ _ i _ _ wa hi (by omega) (by omega) ?_
 refine Ev.step (fun k => by rw [annealref1_Div.l0, if_neg (by omega)]) (ref_div_l1 f mode _ _ _ _ j _ _ wb hj (by omega) (by omega) ?_)
 have hs : wholeN f a * 2 ^ i * 1099511627776 / (wholeN f b * 2 ^ j) < 18446744073709551616 := Nat.lt_of_le_of_lt (Nat.div_le_self _ _) (by omega)
 have hp := ref_pack_ev f mode (negN f a != negN f b) (lowestN f a - lowestN f b - (i : Int) + (j : Int) - 40) (wholeN f a * 2 ^ i * 1099511627776 / (wholeN f b * 2 ^ j)) (decide (wholeN f a * 2 ^ i * 1099511627776 % (wholeN f b * 2 ^ j) ≠ 0)) hs
 rw [clampE_id _ (by omega) (by omega), r1, r2] at hp
 have he : wrap64 ((wrap64 (lowestN f a - (i : Int) - (lowestN f b - (j : Int)))) - 40) = lowestN f a - lowestN f b - (i : Int) + (j : Int) - 40 := by
  rw [w64_id (lowestN f a - (i : Int) - (lowestN f b - (j : Int))) (by omega) (by omega), w64_id _ (by omega) (by omega)]; omega
 have hm : IntKind.u64.wrap (((wholeN f a * 2 ^ i : Nat) : Int) * 1099511627776) = ((wholeN f a * 2 ^ i * 1099511627776 : Nat) : Int) := by
  rw [show ((wholeN f a * 2 ^ i : Nat) : Int) * 1099511627776 = ((wholeN f a * 2 ^ i * 1099511627776 : Nat) : Int) by omega, u64_id _ (by omega)]
 refine Ev.step (fun k => by rw [annealref1_Div.l1, if_neg (by omega), if_neg (by omega), he, hm, tdiv_nat, tmod_nn, u64_id _ hs, show (0 : Int) = ((0 : Nat) : Int) from rfl, bne_cast]) (Ev.bind hp ?_)
 exact Ev.now _
theorem ref_div_j1 (f mode : Int) (a b : Nat) (ha : a < 4294967296) (hb : b < 4294967296) (ca : clsN f a < 3) (cb : clsN f b ≤ 3) (hz : ¬ (clsN f a = clsN f b ∧ (clsN f a = 0 ∨ clsN f a = 3))) :
  Ev (fun k => annealref1_Div.j1 k f mode (a : Int) (b : Int) (negN f a != negN f b) (decide (clsN f b = 3 ∨ clsN f a = 0))) ((divN f mode a b : Int), divX f mode a b) := by
 unfold divN divX
 rw [if_neg (show ¬ (4 ≤ clsN f a ∨ 4 ≤ clsN f b) by omega), if_neg (show ¬ (4 ≤ clsN f a ∨ 4 ≤ clsN f b) by omega)]
 by_cases c0 : clsN f b = 3 ∨ clsN f a = 0
 ·rw [decide_eq_true c0]
  rw [if_neg hz, if_neg hz, if_neg (show ¬ clsN f a = 3 by omega), if_neg (show ¬ clsN f a = 3 by omega), if_pos c0, if_pos c0]
  exact Ev.step (fun k => by rw [annealref1_Div.j1, if_pos rfl, ref_zero_f, Option.bind_some]) (Ev.now _)
 ·rw [decide_eq_false c0, if_neg hz, if_neg hz, if_neg (show ¬ clsN f a = 3 by omega), if_neg (show ¬ clsN f a = 3 by omega), if_neg c0, if_neg c0]
  by_cases b0 : clsN f b = 0
  ·rw [if_pos b0, if_pos b0]
   refine Ev.step (fun k => by rw [annealref1_Div.j1, if_neg (by decide)]) (Ev.bind (rzero_ev f b hb) ?_)
   exact Ev.congr (fun k => by rw [if_pos (decide_eq_true b0), ref_inf_f]; rfl) (Ev.now _)
  ·rw [if_neg b0, if_neg b0]
   refine Ev.step (fun k => by rw [annealref1_Div.j1, if_neg (by decide)]) (Ev.bind (rzero_ev f b hb) ?_)
   refine Ev.congr (fun k => by rw [if_neg (by simp [b0])]) (Ev.bind (runpack_ev f a ha (cls_exp f a ca)) (Ev.bind (runpack_ev f b hb (cls_exp f b (by omega))) ?_))
   exact ref_ratio_ev f mode a b ha hb ca (by omega) (by omega) b0
theorem ref_div_ev (f mode : Int) (a b : Nat) (ha : a < 4294967296) (hb : b < 4294967296) : Ev (fun k => annealref1_Div.f k f mode (a : Int) (b : Int)) ((divN f mode a b : Int), divX f mode a b) := by
 refine Ev.congr (fun k => by unfold annealref1_Div.f; rfl) (Ev.bind (nans2_ev f a b ha hb) ?_)
 by_cases n : 4 ≤ clsN f a ∨ 4 ≤ clsN f b
 ·have e : (isNan f a || isNan f b) = true := by unfold isNan; rw [Bool.or_eq_true, decide_eq_true_iff, decide_eq_true_iff]; exact n
  unfold divN divX
  rw [if_pos n, if_pos n]
  exact Ev.congr (fun k => by rw [if_pos e, ref_nan_f]; rfl) (Ev.now _)
 ·have e : ¬ (isNan f a || isNan f b) = true := by unfold isNan; rw [Bool.or_eq_true, decide_eq_true_iff, decide_eq_true_iff]; exact n
  refine Ev.congr (fun k => by rw [if_neg e, rneg_f f a ha, Option.bind_some, rneg_f f b hb, Option.bind_some]) (Ev.bind (rzero_ev f a ha) ?_)
  have bad : (clsN f a = clsN f b ∧ (clsN f a = 0 ∨ clsN f a = 3)) → Ev (fun k => annealref1_Div.j0 k f mode (a : Int) (b : Int) (negN f a != negN f b) true) ((divN f mode a b : Int), divX f mode a b) := by
   intro z
   unfold divN divX
   rw [if_neg n, if_neg n, if_pos z, if_pos z]
   exact Ev.step (fun k => by rw [annealref1_Div.j0, if_pos rfl, ref_nan_f]; rfl) (Ev.now _)
  have good : ¬ (clsN f a = clsN f b ∧ (clsN f a = 0 ∨ clsN f a = 3)) → Ev (fun k => annealref1_Div.j0 k f mode (a : Int) (b : Int) (negN f a != negN f b) false) ((divN f mode a b : Int), divX f mode a b) := by
   intro z
   refine Ev.step (fun k => by rw [annealref1_Div.j0, if_neg (by decide)]) (Ev.bind (rinf_ev f a ha) ?_)
   by_cases a3 : clsN f a = 3
   ·unfold divN divX
    rw [if_neg n, if_neg n, if_neg z, if_neg z, if_pos a3, if_pos a3]
    exact Ev.congr (fun k => by rw [if_pos (decide_eq_true a3), ref_inf_f]; rfl) (Ev.now _)
   ·have hj := ref_div_j1 f mode a b ha hb (by omega) (by omega) z
    refine Ev.congr (fun k => by rw [if_neg (by simp [a3])]) (Ev.bind (rinf_ev f b hb) ?_)
    by_cases b3 : clsN f b = 3
    ·rw [decide_eq_true (.inl b3)] at hj
     exact Ev.congr (fun k => by rw [if_pos (decide_eq_true b3)]) hj
    ·rw [show decide (clsN f b = 3 ∨ clsN f a = 0) = decide (clsN f a = 0) from decide_eq_decide.mpr (by omega)] at hj
     exact Ev.congr (fun k => by rw [if_neg (by simp [b3])]) (Ev.bind (rzero_ev f a ha) hj)
  by_cases a0 : clsN f a = 0
  ·refine Ev.congr (fun k => by rw [if_pos (decide_eq_true a0)]) (Ev.bind (rzero_ev f b hb) ?_)
   by_cases b0 : clsN f b = 0
   ·exact Ev.congr (fun k => by rw [if_pos (decide_eq_true b0)]) (bad (by omega))
   ·refine Ev.congr (fun k => by rw [if_neg (by simp [b0])]) (Ev.bind (rinf_ev f a ha) ?_)
    exact Ev.congr (fun k => by rw [if_neg (by simp [a0])]) (good (by omega))
  ·refine Ev.congr (fun k => by rw [if_neg (by simp [a0])]) (Ev.bind (rinf_ev f a ha) ?_)
   by_cases a3 : clsN f a = 3
   ·refine Ev.congr (fun k => by rw [if_pos (decide_eq_true a3)]) (Ev.bind (rinf_ev f b hb) ?_)
    by_cases b3 : clsN f b = 3
    ·rw [decide_eq_true b3]; exact bad (by omega)
    ·rw [decide_eq_false b3]; exact good (by omega)
   ·exact Ev.congr (fun k => by rw [if_neg (by simp [a3])]) (good (by omega))
end Go.Proofs.Ytngkpekmgahjiaa.Round

/- Roots of numbers: the reference's, as the program's plain numbers. -/
namespace Go.Proofs.Ytngkpekmgahjiaa.Round
open Go.RowKit Go.Proofs.Ytngkpekmgahjiaa.P Go.Proofs.Ytngkpekmgahjiaa.Num Go.Proofs.Ytngkpekmgahjiaa.BitsF Go.Proofs.Ytngkpekmgahjiaa.Fmt Go.Proofs.YtngkpekmgahjiaaW.PrintWords Go.Proofs.YtngkpekmgahjiaaW.PrintLast Go.Proofs.YtngkpekmgahjiaaW.PrintMore

theorem ref_sqrt_l0 (f mode : Int) (r : Int × Bool × Bool × Bool × Bool × Bool) (i : Nat) : ∀ (x : Int) (m : Nat), m ≠ 0 → lenN m + i = 62 → -100000 ≤ x - i → x ≤ 100000 →
  Ev (fun k => annealref1_Sqrt.l0 k f mode (x - (i : Int)) ((m * 2 ^ i : Nat) : Int)) r → Ev (fun k => annealref1_Sqrt.l0 k f mode x (m : Int)) r := by
 induction i with
 |zero => intro x m _ _ _ _ h; simpa using h
 |succ i ih =>
  intro x m h0 hl h1 h2 h
  have hn := Nat.lt_of_lt_of_le (lenN_lt m) (Nat.pow_le_pow_right (show 0 < 2 by decide) (show lenN m ≤ 61 by omega))
  have hl2 := lenN_mul m 1 h0
  rw [Nat.pow_one] at hl2
  have hw : IntKind.u64.wrap ((m : Int) * 2) = ((m * 2 : Nat) : Int) := by rw [show (m : Int) * 2 = ((m * 2 : Nat) : Int) by omega, u64_id _ (by omega)]
  refine Ev.step (fun k => by rw [annealref1_Sqrt.l0, if_pos (by omega), hw, w64_id (x - 1) (by omega) (by omega)]) (ih (x - 1) (m * 2) (by omega) (by omega) (by omega) (by omega) ?_)
  rw [show x - 1 - (i : Int) = x - ((i + 1 : Nat) : Int) by omega, Nat.mul_assoc, ← Nat.pow_succ']
  exact h
theorem ref_sqrt_end (f mode x : Int) (V : Nat) (h1 : 2305843009213693952 ≤ V) (h2 : V < 9223372036854775808) (hx : x % 2 = 0) (l1 : -1000 ≤ x) (l2 : x ≤ 1000) :
  Ev (fun k => annealref1_Sqrt.l0 k f mode x (V : Int)) ((packN f mode false (x / 2) (rootN V) (!decide (rootN V * rootN V = V)) : Int), false, false, excN f mode false (x / 2) (rootN V) (!decide (rootN V * rootN V = V))) := by
 have hr := rootN_lt V
 have hp := ref_pack_ev f mode false (x / 2) (rootN V) (!decide (rootN V * rootN V = V)) (by omega)
 rw [clampE_id _ (by omega) (by omega)] at hp
 refine Ev.step (fun k => by rw [annealref1_Sqrt.l0, if_neg (by omega), if_pos ((tmod_even x).mpr hx), tdiv_even x hx, w64_id (x / 2) (by omega) (by omega)]) (Ev.bind (ref_root_ev V) ?_)
 dsimp only
 rw [u64_id _ (by omega)]
 exact Ev.bind hp (Ev.now _)
theorem ref_side_ev (f mode : Int) (a : Nat) (h0 : clsN f a ≠ 0) (h3 : clsN f a < 3) : Ev (fun k => annealref1_Sqrt.l0 k f mode (lowestN f a) (wholeN f a : Int)) ((sideN f mode a : Int), false, false, sideX f mode a) := by
 have hw := whole_pos f a h0 h3
 obtain ⟨m1, m2, m3, v1, v2, v3⟩ := lift_bounds f a hw
 obtain ⟨k1, k2, k3, k4, k5⟩ := lack_bounds f a hw
 obtain ⟨l1, l2⟩ := lowest_near f a
 refine ref_sqrt_l0 f mode _ (lackN f a) _ _ hw k3 (by omega) (by omega) ?_
 by_cases ev : (lowestN f a - (lackN f a : Int)) % 2 = 0
 ·have hl : liftN f a = lackN f a := by unfold liftN; rw [if_pos ev]
  have hv : rootV f a = wholeN f a * 2 ^ lackN f a := by unfold rootV; rw [hl]
  unfold sideN sideX
  rw [hv, hl]
  exact ref_sqrt_end f mode _ _ k4 (by omega) ev (by omega) (by omega)
 ·have hl : lackN f a = liftN f a + 1 := by unfold liftN; rw [if_neg ev]; omega
  have hv : wholeN f a * 2 ^ lackN f a * 2 = rootV f a * 2 ^ (1 + 1) := by unfold rootV; rw [hl, Nat.pow_succ, ← Nat.mul_assoc]; omega
  have hb := fbounds f
  have hf : 2 ^ (fm f + 1) ≤ 16777216 := Nat.pow_le_pow_right (show 0 < 2 by decide) (show fm f + 1 ≤ 24 by omega)
  obtain ⟨r1, r2⟩ := root_refine f mode ((lowestN f a - (lackN f a : Int) - 1) / 2) (rootV f a) 1 (by omega) (by omega)
  have hu : IntKind.u64.wrap (((wholeN f a * 2 ^ lackN f a : Nat) : Int) * 2) = ((rootV f a * 2 ^ (1 + 1) : Nat) : Int) := by
   rw [← hv, show ((wholeN f a * 2 ^ lackN f a : Nat) : Int) * 2 = ((wholeN f a * 2 ^ lackN f a * 2 : Nat) : Int) by omega, u64_id _ (by omega)]
  refine Ev.step (fun k => by rw [annealref1_Sqrt.l0, if_neg (by omega), if_neg (fun h => ev ((tmod_even _).mp h)), hu, w64_id _ (by omega) (by omega)]) ?_
  have h := ref_sqrt_end f mode (lowestN f a - (lackN f a : Int) - 1) (rootV f a * 2 ^ (1 + 1)) (by omega) (by omega) (by omega) (by omega) (by omega)
  rw [r1, r2, show (lowestN f a - (lackN f a : Int) - 1) / 2 + ((1 : Nat) : Int) = (lowestN f a - (liftN f a : Int)) / 2 by omega] at h
  exact h
theorem ref_sqrt_ev (f mode : Int) (a : Nat) (ha : a < 4294967296) : Ev (fun k => annealref1_Sqrt.f k f mode (a : Int)) ((sqrtN f mode a : Int), sqrtX f mode a) := by
 refine Ev.congr (fun k => by unfold annealref1_Sqrt.f; rfl) (Ev.bind (nans1_ev f a ha) ?_)
 have hle := cls_le f a
 unfold sqrtN sqrtX
 by_cases c4 : 4 ≤ clsN f a
 ·rw [if_pos c4, if_pos c4]
  exact Ev.congr (fun k => by rw [if_pos (show isNan f a = true from decide_eq_true c4), ref_nan_f]; rfl) (Ev.now _)
 ·rw [if_neg c4, if_neg c4]
  have n4 : ¬ isNan f a = true := by unfold isNan; simp; omega
  refine Ev.congr (fun k => by rw [if_neg n4]) (Ev.bind (rzero_ev f a ha) ?_)
  by_cases c0 : clsN f a = 0
  ·rw [if_pos c0, if_pos c0, ← (none_low f a c0).1]
   exact Ev.congr (fun k => by rw [if_pos (decide_eq_true c0), ref_mask_f, Option.bind_some, and_mask f a ha]) (Ev.now _)
  ·rw [if_neg c0, if_neg c0]
   refine Ev.congr (fun k => by rw [if_neg (by simp [c0]), rneg_f f a ha, Option.bind_some]) ?_
   cases hn : negN f a
   ·rw [if_neg (show ¬ false = true by decide), if_neg (show ¬ false = true by decide)]
    refine Ev.congr (fun k => by rw [if_neg (show ¬ false = true by decide)]) (Ev.bind (rinf_ev f a ha) ?_)
    by_cases c3 : clsN f a = 3
    ·have hi := inf_low f a c3
     rw [hn] at hi
     rw [if_pos c3, if_pos c3, ← hi]
     exact Ev.congr (fun k => by rw [if_pos (decide_eq_true c3), ref_mask_f, Option.bind_some, and_mask f a ha]) (Ev.now _)
    ·rw [if_neg c3, if_neg c3]
     exact Ev.congr (fun k => by rw [if_neg (by simp [c3])]) (Ev.bind (runpack_ev f a ha (cls_exp f a (by omega))) (ref_side_ev f mode a c0 (by omega)))
   ·rw [if_pos (show true = true from rfl), if_pos (show true = true from rfl)]
    exact Ev.congr (fun k => by rw [if_pos (show true = true from rfl), ref_nan_f]; rfl) (Ev.now _)
end Go.Proofs.Ytngkpekmgahjiaa.Round

/- Numbers drawn, of any format (printed with a join): plain numbers. -/
namespace Go.Proofs.Ytngkpekmgahjiaa.Round
open Go.RowKit Go.Proofs.Ytngkpekmgahjiaa.P Go.Proofs.Ytngkpekmgahjiaa.Num Go.Proofs.Ytngkpekmgahjiaa.BitsF Go.Proofs.Ytngkpekmgahjiaa.Fmt Go.Proofs.YtngkpekmgahjiaaW.PrintWords Go.Proofs.YtngkpekmgahjiaaW.PrintLast Go.Proofs.YtngkpekmgahjiaaW.PrintMore

theorem kin (n : Int) : ∃ m : Nat, IntKind.u32.wrap n = (m : Int) ∧ m < 4294967296 := by
 rw [u32_wrap]
 exact ⟨(n % 4294967296).toNat, by omega, by omega⟩
theorem kbits (op : BinOp) (a b : Int) (h : op = .and ∨ op = .or) : ∃ m : Nat, Go.bits op .u32 a b = (m : Int) ∧ m < 4294967296 := by
 rcases h with rfl | rfl
 ·exact kin _
 ·exact kin _
theorem num_k (f : Int) (a : Nat) : ∃ x : Nat, x < 4294967296 ∧ Ev (fun k => annealseat_Num.f k f (a : Int)) (x : Int) := by
 have e := Int.tmod_eq_emod_of_nonneg (b := 15) (Int.natCast_nonneg a)
 have hp : 0 ≤ Int.tmod (a : Int) 15 ∧ Int.tmod (a : Int) 15 < 15 := by rw [e]; omega
 have key : ∃ y : Int, ∀ k, annealseat_Num.f k f (a : Int) = if (a : Int) / 2147483648 = 1 then (some (signN f true : Int)).bind (fun t => annealseat_Num.j0 k (Go.bits .or .u32 (Go.bits .and .u32 y (maskN f : Int)) t)) else annealseat_Num.j0 k (Go.bits .and .u32 y (maskN f : Int)) := by
  rcases fcases f with ⟨h1, h2⟩ | ⟨h1, h2⟩ | ⟨h1, h2⟩
  ·constructor; intro k
   unfold annealseat_Num.f
   rw [ref_widths_f, Option.bind_some]
   dsimp only
   rw [h1, h2, if_pos (by decide), if_pos (by decide), if_neg (by decide), if_pos (show (0 : Int) ≤ wrap64 (((10 : Nat) : Int) - 1) by unfold wrap64; omega), if_neg (by decide), Option.bind_some, if_pos hp.1, if_pos (by exact hp.2), ref_mask_f, Option.bind_some, ref_zero_f]
  ·constructor; intro k
   unfold annealseat_Num.f
   rw [ref_widths_f, Option.bind_some]
   dsimp only
   rw [h1, h2, if_pos (by decide), if_pos (by decide), if_neg (by decide), if_pos (show (0 : Int) ≤ wrap64 (((7 : Nat) : Int) - 1) by unfold wrap64; omega), if_neg (by decide), Option.bind_some, if_pos hp.1, if_pos (by exact hp.2), ref_mask_f, Option.bind_some, ref_zero_f]
  ·constructor; intro k
   unfold annealseat_Num.f
   rw [ref_widths_f, Option.bind_some]
   dsimp only
   rw [h1, h2, if_pos (by decide), if_pos (by decide), if_neg (by decide), if_pos (show (0 : Int) ≤ wrap64 (((23 : Nat) : Int) - 1) by unfold wrap64; omega), if_neg (by decide), Option.bind_some, if_pos hp.1, if_pos (by exact hp.2), ref_mask_f, Option.bind_some, ref_zero_f]
 obtain ⟨y, hy⟩ := key
 have last : ∀ m : Nat, Ev (fun k => annealseat_Num.j0 k (m : Int)) (m : Int) := fun m => Ev.step (fun k => by rw [annealseat_Num.j0]) (Ev.now _)
 by_cases c : (a : Int) / 2147483648 = 1
 ·obtain ⟨m, h1, h2⟩ := kbits .or (Go.bits .and .u32 y (maskN f : Int)) (signN f true : Int) (.inr rfl)
  exact ⟨m, h2, Ev.congr (fun k => by rw [hy k, if_pos c, Option.bind_some, h1]) (last m)⟩
 ·obtain ⟨m, h1, h2⟩ := kbits .and y (maskN f : Int) (.inl rfl)
  exact ⟨m, h2, Ev.congr (fun k => by rw [hy k, if_neg c, h1]) (last m)⟩
end Go.Proofs.Ytngkpekmgahjiaa.Round

/- Amounts: what a number's bits without its sign stand for, in units of the least number; rounding depends on the amount alone. -/
namespace Go.Proofs.Ytngkpekmgahjiaa.Round
open Go.RowKit Go.Proofs.Ytngkpekmgahjiaa.P Go.Proofs.Ytngkpekmgahjiaa.Num Go.Proofs.Ytngkpekmgahjiaa.BitsF Go.Proofs.Ytngkpekmgahjiaa.Fmt Go.Proofs.YtngkpekmgahjiaaW.PrintWords Go.Proofs.YtngkpekmgahjiaaW.PrintLast Go.Proofs.YtngkpekmgahjiaaW.PrintMore

def magN (f : Int) (v : Nat) : Nat := v % 2 ^ (fe f + fm f)
theorem mag_parts (f : Int) (v : Nat) : magN f v / 2 ^ fm f = expN f v ∧ magN f v % 2 ^ fm f = fracN f v := by
 unfold magN expN fracN
 rw [Nat.add_comm (fe f), Nat.pow_add]
 exact ⟨Nat.mod_mul_right_div_self .., Nat.mod_mul_right_mod ..⟩
end Go.Proofs.Ytngkpekmgahjiaa.Round

/- Bits with a sign, beyond the greatest number: plain numbers alone (for rounds without chapter 9). -/
namespace Go.Proofs.Ytngkpekmgahjiaa.Round
open Go.RowKit Go.Proofs.Ytngkpekmgahjiaa.P Go.Proofs.Ytngkpekmgahjiaa.Num Go.Proofs.Ytngkpekmgahjiaa.BitsF Go.Proofs.Ytngkpekmgahjiaa.Fmt Go.Proofs.YtngkpekmgahjiaaW.PrintWords Go.Proofs.YtngkpekmgahjiaaW.PrintLast Go.Proofs.YtngkpekmgahjiaaW.PrintMore

theorem sign_parts (f : Int) (P : Nat) (neg : Bool) (h : P < 2 ^ (fe f + fm f)) : negN f (P + signN f neg) = neg ∧ magN f (P + signN f neg) = P ∧ P + signN f neg < 2 ^ (fe f + fm f + 1) := by
 unfold negN magN signN
 have hp := Nat.two_pow_pos (fe f + fm f)
 cases neg
 ·simp only [Bool.false_eq_true, if_false, Nat.add_zero]
  rw [Nat.div_eq_of_lt h, Nat.mod_eq_of_lt h, Nat.pow_succ]
  exact ⟨rfl, rfl, by omega⟩
 ·simp only [if_true]
  rw [Nat.add_div_right _ hp, Nat.div_eq_of_lt h, Nat.add_mod_right, Nat.mod_eq_of_lt h, Nat.pow_succ]
  exact ⟨rfl, rfl, by omega⟩
end Go.Proofs.Ytngkpekmgahjiaa.Round

/- Numbers near one, drawn: plain numbers. -/
namespace Go.Proofs.Ytngkpekmgahjiaa.Round
open Go.RowKit Go.Proofs.Ytngkpekmgahjiaa.P Go.Proofs.Ytngkpekmgahjiaa.Num Go.Proofs.Ytngkpekmgahjiaa.BitsF Go.Proofs.Ytngkpekmgahjiaa.Fmt Go.Proofs.YtngkpekmgahjiaaW.PrintWords Go.Proofs.YtngkpekmgahjiaaW.PrintLast Go.Proofs.YtngkpekmgahjiaaW.PrintMore

def oneN (f : Int) : Nat := topN f / 2
theorem one_cases (f : Int) : fe f = 5 ∧ fm f = 10 ∧ oneN f = 15 ∧ leastN f = -14 ∧ topN f = 31 ∨ fe f = 8 ∧ fm f = 7 ∧ oneN f = 127 ∧ leastN f = -126 ∧ topN f = 255 ∨ fe f = 8 ∧ fm f = 23 ∧ oneN f = 127 ∧ leastN f = -126 ∧ topN f = 255 := by
 unfold oneN topN leastN
 rcases fcases f with ⟨h1, h2⟩ | ⟨h1, h2⟩ | ⟨h1, h2⟩ <;> rw [h1, h2] <;> simp
theorem mild_shl (f : Int) : shl .u32 4 (fm f : Int) = ((4 * 2 ^ fm f : Nat) : Int) ∧ shl .u32 2 (fm f : Int) = ((2 * 2 ^ fm f : Nat) : Int) ∧
  shl .u32 ((((shl .u32 1 (fe f : Int)) - 1) % 4294967296) / 2) (fm f : Int) = ((oneN f * 2 ^ fm f : Nat) : Int) := by
 rcases one_cases f with ⟨h1, h2, h3, _⟩ | ⟨h1, h2, h3, _⟩ | ⟨h1, h2, h3, _⟩ <;> rw [h1, h2, h3] <;> decide
theorem mild_range (f : Int) : 4 * 2 ^ fm f + oneN f * 2 ^ fm f < 2 ^ (fe f + fm f) ∧ 2 * 2 ^ fm f ≤ oneN f * 2 ^ fm f := by
 rcases one_cases f with ⟨h1, h2, h3, _⟩ | ⟨h1, h2, h3, _⟩ | ⟨h1, h2, h3, _⟩ <;> rw [h1, h2, h3] <;> decide
theorem mild_plain (O P a : Nat) (h : 2 * P ≤ O) (hO : O + 4 * P < 2147483648) (hP : 0 < P) : ((((O : Nat) : Int) - ((2 * P : Nat) : Int)) % 4294967296 + Int.tmod ((a : Int) / 8) ((4 * P : Nat) : Int)) % 4294967296 = ((O - 2 * P + a / 8 % (4 * P) : Nat) : Int) := by
 have e : Int.tmod ((a : Int) / 8) ((4 * P : Nat) : Int) = ((a / 8 % (4 * P) : Nat) : Int) := by
  rw [show (a : Int) / 8 = ((a / 8 : Nat) : Int) from rfl, Int.tmod_eq_emod_of_nonneg (Int.natCast_nonneg _)]; rfl
 have hm := Nat.mod_lt (a / 8) (show 4 * P > 0 by omega)
 rw [e]
 generalize a / 8 % (4 * P) = m at *
 omega
theorem or_sign (f : Int) (m : Nat) (h : m < 2 ^ (fe f + fm f)) : Go.bits .or .u32 (m : Int) (signN f true : Int) = ((m + signN f true : Nat) : Int) := by
 have hb := fbounds f
 have h31 := pow_le31 (show fe f + fm f ≤ 31 by omega)
 have hs : signN f true = 2 ^ (fe f + fm f) := rfl
 rw [or_u32 m _ (by omega) (by omega), Nat.or_comm, or_add _ _ (fe f + fm f) (by rw [hs, Nat.mod_self]) h, Nat.add_comm]
theorem mild_f (f : Int) (a : Nat) (ha : a < 4294967296) : ∃ m : Nat, ∃ neg : Bool, annealseat_Mild.f f (a : Int) = some ((m + signN f neg : Nat) : Int) ∧ (m = 0 ∧ neg = false ∨ (oneN f - 2) * 2 ^ fm f ≤ m ∧ m < (oneN f + 2) * 2 ^ fm f) := by
 unfold annealseat_Mild.f
 by_cases c : Int.tmod (a : Int) 7 = 0
 ·rw [if_pos c]
  exact ⟨0, false, rfl, .inl ⟨rfl, rfl⟩⟩
 ·rw [if_neg c, ref_widths_f, Option.bind_some]
  dsimp only
  obtain ⟨s1, s2, s3⟩ := mild_shl f
  obtain ⟨r1, r2⟩ := mild_range f
  have hb := fbounds f
  have h31 := pow_le31 (show fe f + fm f ≤ 31 by omega)
  have hp := Nat.two_pow_pos (fm f)
  rw [s1, s2, s3, if_pos (Int.natCast_nonneg _), if_pos (Int.natCast_nonneg _), if_neg (by omega), mild_plain _ _ _ r2 (by omega) hp]
  have hm := Nat.mod_lt (a / 8) (show 4 * 2 ^ fm f > 0 by omega)
  have h2 : (oneN f - 2) * 2 ^ fm f = oneN f * 2 ^ fm f - 2 * 2 ^ fm f := Nat.sub_mul _ _ _
  have h3 : (oneN f + 2) * 2 ^ fm f = oneN f * 2 ^ fm f + 2 * 2 ^ fm f := Nat.add_mul _ _ _
  generalize hM : oneN f * 2 ^ fm f - 2 * 2 ^ fm f + a / 8 % (4 * 2 ^ fm f) = m at *
  by_cases d : Go.bits .and .u32 (a : Int) 1 = 1
  ·rw [if_pos d, ref_zero_f, Option.bind_some, or_sign f m (by omega)]
   exact ⟨m, true, rfl, .inr ⟨by omega, by omega⟩⟩
  ·rw [if_neg d]
   exact ⟨m, false, rfl, .inr ⟨by omega, by omega⟩⟩
theorem mild_parts (f : Int) (m : Nat) (neg : Bool) (h1 : (oneN f - 2) * 2 ^ fm f ≤ m) (h2 : m < (oneN f + 2) * 2 ^ fm f) :
  negN f (m + signN f neg) = neg ∧ magN f (m + signN f neg) = m ∧ m + signN f neg < 2 ^ (fe f + fm f + 1) ∧ m + signN f neg < 4294967296 ∧ oneN f - 2 ≤ expN f (m + signN f neg) ∧ expN f (m + signN f neg) < oneN f + 2 ∧
  clsN f (m + signN f neg) = 2 ∧ wholeN f (m + signN f neg) = fracN f (m + signN f neg) + 2 ^ fm f ∧ m = expN f (m + signN f neg) * 2 ^ fm f + fracN f (m + signN f neg) := by
 obtain ⟨r1, r2⟩ := mild_range f
 have hb := fbounds f
 have h32 := pow_le32 (show fe f + fm f + 1 ≤ 32 by omega)
 have hp := Nat.two_pow_pos (fm f)
 have h3 : (oneN f + 2) * 2 ^ fm f = oneN f * 2 ^ fm f + 2 * 2 ^ fm f := Nat.add_mul _ _ _
 obtain ⟨p1, p2, p3⟩ := sign_parts f m neg (by omega)
 obtain ⟨q1, q2⟩ := mag_parts f (m + signN f neg)
 rw [p2] at q1 q2
 have e1 : oneN f - 2 ≤ m / 2 ^ fm f := (Nat.le_div_iff_mul_le hp).mpr h1
 have e2 : m / 2 ^ fm f < oneN f + 2 := (Nat.div_lt_iff_lt_mul hp).mpr h2
 have hd := Nat.div_add_mod m (2 ^ fm f)
 rw [q1, q2, Nat.mul_comm] at hd
 rw [q1] at e1 e2
 have hc : oneN f = 15 ∧ topN f = 31 ∨ oneN f = 127 ∧ topN f = 255 := by
  rcases one_cases f with ⟨_, _, h3, _, h4⟩ | ⟨_, _, h3, _, h4⟩ | ⟨_, _, h3, _, h4⟩ <;> omega
 refine ⟨p1, p2, p3, by omega, e1, e2, ?_, ?_, hd.symm⟩
 ·unfold clsN; rw [if_neg (by omega), if_pos (by omega)]
 ·unfold wholeN; rw [if_neg (by omega)]
end Go.Proofs.Ytngkpekmgahjiaa.Round

/- QuotTells: each quotient and root is as the reference's, for any two numbers of each format, in each mode. -/
namespace Go.Proofs.Ytngkpekmgahjiaa.Pure
open Go.RowKit Go.Proofs.Ytngkpekmgahjiaa.P Go.Proofs.Ytngkpekmgahjiaa.Num Go.Proofs.Ytngkpekmgahjiaa.BitsF Go.Proofs.Ytngkpekmgahjiaa.Fmt Go.Proofs.Ytngkpekmgahjiaa.Round Go.Proofs.YtngkpekmgahjiaaW.PrintWords Go.Proofs.YtngkpekmgahjiaaW.PrintLast Go.Proofs.YtngkpekmgahjiaaW.PrintMore
theorem known6_ev : Ev (fun k => anneallaw6_known.f k) true := Ev.of anneallaw6_known.mono (k := 60) (by kernel_rfl)
theorem form6_f (c : Nat) : ∃ f : Int, (f = 0 ∨ f = 1 ∨ f = 2) ∧ anneallaw6_form.f (c : Int) = some f := by
 have e := Int.tmod_eq_emod_of_nonneg (b := 3) (Int.natCast_nonneg c)
 unfold anneallaw6_form.f
 rw [Option.bind_some, e]
 have h : (c : Int) % 3 = 0 ∨ (c : Int) % 3 = 1 ∨ (c : Int) % 3 = 2 := by omega
 rcases h with h | h | h
 ·rw [h]; exact ⟨0, .inl rfl, rfl⟩
 ·rw [h]; exact ⟨1, .inr (.inl rfl), rfl⟩
 ·rw [h]; exact ⟨2, .inr (.inr rfl), rfl⟩
theorem tells_step (x0 x1 x4 x5 f mode : Int) (L : List S23) (i u v : Nat) (hL : L.length = 3) (hi : i < 3) (hu : u < 4294967296) (hv : v < 4294967296) (h0 : (rd_T23 L (i : Int)).f0 = (u : Int)) (h1 : (rd_T23 L (i : Int)).f1 = (v : Int))
  (h : Ev (fun k => anneallaw6_QuotTells.l0 k x0 x1 x4 x5 f mode L 3 ((i + 1 : Nat) : Int)) true) : Ev (fun k => anneallaw6_QuotTells.l0 k x0 x1 x4 x5 f mode L 3 (i : Int)) true := by
 have hw : wrap64 ((i : Int) + 1) = ((i + 1 : Nat) : Int) := by rw [w64_id _ (by omega) (by omega)]; omega
 have hj : Ev (fun k => anneallaw6_QuotTells.j1 k x0 x1 x4 x5 f mode L 3 (i : Int) false) true := Ev.step (fun k => by rw [anneallaw6_QuotTells.j1, if_neg (by decide), hw]) h
 refine Ev.step (fun k => by rw [anneallaw6_QuotTells.l0, if_pos (by omega), if_pos (Int.natCast_nonneg _), if_pos (by rw [hL]; omega), h0, h1]) (Ev.bind (div_ev f mode u v hu hv) (Ev.bind (ref_div_ev f mode u v hu hv) (Ev.bind (sqrt_ev f mode u hu) (Ev.bind (ref_sqrt_ev f mode u hu) (Ev.congr (fun k => ?_) hj)))))
 simp
theorem tells_end (x0 x1 f mode : Int) (a b : Nat) (L : List S23) (ha : a < 4294967296) (hb : b < 4294967296) : Ev (fun k => anneallaw6_QuotTells.l0 k x0 x1 (a : Int) (b : Int) f mode L 3 ((3 : Nat) : Int)) true := by
 refine Ev.step (fun k => by rw [anneallaw6_QuotTells.l0, if_neg (by decide)]) (Ev.bind (div_ev x0 x1 a b ha hb) (Ev.bind (ref_div_ev x0 x1 a b ha hb) (Ev.congr (fun k => ?_) (Ev.now true))))
 simp
theorem QuotTells : anneallaw6_QuotTells.Pure := by
 intro a0 a1 a2 a3 a4 a5 h0 h1 h2 h3 h4 h5
 obtain ⟨p2, q2⟩ := wf_u8 h2
 obtain ⟨p4, q4⟩ := wf_u32 h4
 obtain ⟨p5, q5⟩ := wf_u32 h5
 obtain ⟨c, rfl⟩ := nat_of p2
 obtain ⟨a, rfl⟩ := nat_of p4
 obtain ⟨b, rfl⟩ := nat_of p5
 obtain ⟨f, hf, ff⟩ := form6_f c
 obtain ⟨x, xv, hx⟩ := num_k f a
 obtain ⟨y, yv, hy⟩ := num_k f b
 obtain ⟨m, s, hm, hmr⟩ := mild_f f a (by omega)
 obtain ⟨n, t, hn, hnr⟩ := mild_f f b (by omega)
 have mv : m + signN f s < 4294967296 := by
  rcases hmr with ⟨rfl, rfl⟩ | h
  ·exact (show 0 + 0 < 4294967296 by decide)
  ·exact (mild_parts f m s h.1 h.2).2.2.2.1
 have nv : n + signN f t < 4294967296 := by
  rcases hnr with ⟨rfl, rfl⟩ | h
  ·exact (show 0 + 0 < 4294967296 by decide)
  ·exact (mild_parts f n t h.1 h.2).2.2.2.1
 apply Ev.rounds
 unfold anneallaw6_QuotTells.f
 refine Ev.bind known6_ev ?_
 refine Ev.congr (fun k => by rw [if_pos rfl, ff, Option.bind_some]) (Ev.bind hx (Ev.bind hy ?_))
 refine Ev.congr (fun k => by rw [hm, Option.bind_some, hn, Option.bind_some, Option.bind_some]) ?_
 generalize wrap64 (Int.tmod a3 5) = mode
 exact tells_step _ _ _ _ f mode _ 0 x y rfl (by decide) xv yv rfl rfl (tells_step _ _ _ _ f mode _ 1 a b rfl (by decide) (by omega) (by omega) rfl rfl (tells_step _ _ _ _ f mode _ 2 _ _ rfl (by decide) mv nv rfl rfl (tells_end a0 a1 f mode a b _ (by omega) (by omega))))
end Go.Proofs.Ytngkpekmgahjiaa.Pure
