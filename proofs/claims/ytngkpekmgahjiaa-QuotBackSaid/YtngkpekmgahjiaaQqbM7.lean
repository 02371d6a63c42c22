import Derived.Test.YtngkpekmgahjiaaQqbM6
import Derived.Test.YtngkpekmgahjiaaQqbPackE
import Derived.Test.YtngkpekmgahjiaaQqbPx36
import Derived.Test.YtngkpekmgahjiaaQqbM5
import Derived.Test.YtngkpekmgahjiaaQqbPx37
import Derived.Laws.BitsAllLaws
import Derived.Test.YtngkpekmgahjiaaQqbM3
import Derived.Test.YtngkpekmgahjiaaQqbM4
import Derived.Test.YtngkpekmgahjiaaQqbPx17
import Derived.Test.YtngkpekmgahjiaaQqbPx45
/- A rounding depends on the value alone: more bits of the same value make no difference. Quotients and roots to so many bits. Plain numbers alone. -/
namespace Go.Proofs.Ytngkpekmgahjiaa.Round
open Go.RowKit Go.Proofs.Ytngkpekmgahjiaa.P Go.Proofs.Ytngkpekmgahjiaa.Num Go.Proofs.Ytngkpekmgahjiaa.BitsF Go.Proofs.Ytngkpekmgahjiaa.Fmt Go.Proofs.YtngkpekmgahjiaaW.PrintWords Go.Proofs.YtngkpekmgahjiaaW.PrintLast Go.Proofs.YtngkpekmgahjiaaW.PrintMore

end Go.Proofs.Ytngkpekmgahjiaa.Round

/- Quotients: the program's, as plain numbers. -/
namespace Go.Proofs.Ytngkpekmgahjiaa.Round
open Go.RowKit Go.Proofs.Ytngkpekmgahjiaa.P Go.Proofs.Ytngkpekmgahjiaa.Num Go.Proofs.Ytngkpekmgahjiaa.BitsF Go.Proofs.Ytngkpekmgahjiaa.Fmt Go.Proofs.YtngkpekmgahjiaaW.PrintWords Go.Proofs.YtngkpekmgahjiaaW.PrintLast Go.Proofs.YtngkpekmgahjiaaW.PrintMore

/-- How many bits a whole number of a number lacks of 62. -/
def lackN (f : Int) (v : Nat) : Nat := 62 - lenN (wholeN f v)
/-- A quotient of finite numbers that are no noughts. -/
def ratioN (f mode : Int) (a b : Nat) : Nat := packN f mode (negN f a != negN f b) (lowestN f a - lowestN f b - (lackN f a : Int)) (wholeN f a * 2 ^ lackN f a / wholeN f b) (decide (wholeN f a * 2 ^ lackN f a % wholeN f b ≠ 0))
def ratioX (f mode : Int) (a b : Nat) : Bool × Bool × Bool := excN f mode (negN f a != negN f b) (lowestN f a - lowestN f b - (lackN f a : Int)) (wholeN f a * 2 ^ lackN f a / wholeN f b) (decide (wholeN f a * 2 ^ lackN f a % wholeN f b ≠ 0))
def divN (f mode : Int) (a b : Nat) : Nat :=
  if 4 ≤ clsN f a ∨ 4 ≤ clsN f b then nanN f else if clsN f a = clsN f b ∧ (clsN f a = 0 ∨ clsN f a = 3) then nanN f else if clsN f a = 3 then infN f (negN f a != negN f b)
  else if clsN f b = 3 ∨ clsN f a = 0 then signN f (negN f a != negN f b) else if clsN f b = 0 then infN f (negN f a != negN f b) else ratioN f mode a b
def divX (f mode : Int) (a b : Nat) : Bool × Bool × Bool × Bool × Bool :=
  if 4 ≤ clsN f a ∨ 4 ≤ clsN f b then (isLoud f a || isLoud f b, false, false, false, false) else if clsN f a = clsN f b ∧ (clsN f a = 0 ∨ clsN f a = 3) then (true, false, false, false, false) else if clsN f a = 3 then (false, false, false, false, false)
  else if clsN f b = 3 ∨ clsN f a = 0 then (false, false, false, false, false) else if clsN f b = 0 then (false, true, false, false, false) else (false, false, ratioX f mode a b)
theorem whole_pos (f : Int) (v : Nat) (h : clsN f v ≠ 0) (h3 : clsN f v < 3) : wholeN f v ≠ 0 := by
  have hp := Nat.two_pow_pos (fm f)
  unfold clsN at h h3
  unfold wholeN
  by_cases c : expN f v = 0
  · rw [if_pos c] at h ⊢
    intro z; rw [if_pos z] at h; exact h rfl
  · rw [if_neg c]; omega
theorem lack_bounds (f : Int) (v : Nat) (h : wholeN f v ≠ 0) : 38 ≤ lackN f v ∧ lackN f v ≤ 61 ∧ lenN (wholeN f v) + lackN f v = 62 ∧ 2305843009213693952 ≤ wholeN f v * 2 ^ lackN f v ∧ wholeN f v * 2 ^ lackN f v < 4611686018427387904 := by
  have h1 := lenN_bound _ _ (whole_lt f v)
  have h2 := lenN_pos _ h
  have hb := fbounds f
  have e : lenN (wholeN f v) + lackN f v = 62 := by unfold lackN; omega
  have hp := Nat.two_pow_pos (lackN f v)
  have l1 := Nat.mul_le_mul_right (2 ^ lackN f v) (lenN_le _ h)
  have l2 := Nat.mul_lt_mul_of_pos_right (lenN_lt (wholeN f v)) hp
  rw [← Nat.pow_add, show lenN (wholeN f v) - 1 + lackN f v = 61 by omega] at l1
  rw [← Nat.pow_add, e] at l2
  exact ⟨by omega, by omega, e, l1, l2⟩
theorem tdiv_nat (a b : Nat) : Int.tdiv (a : Int) (b : Int) = ((a / b : Nat) : Int) := rfl
theorem tmod_nn (a b : Nat) : Int.tmod (a : Int) (b : Int) = ((a % b : Nat) : Int) := rfl
theorem shift_up (v n : Nat) (h : v * 2 ^ n < 18446744073709551616) : (shiftN v (-(n : Int))).1 = v * 2 ^ n := by
  have hp := Nat.two_pow_pos n
  have hv : v < 18446744073709551616 := Nat.lt_of_le_of_lt (Nat.le_mul_of_pos_right v hp) h
  rw [shiftN_left v n hv]
  exact Nat.mod_eq_of_lt h
theorem div_j1 (f mode : Int) (a b : Nat) (ha : a < 4294967296) (hb : b < 4294967296) (ca : clsN f a < 3) (cb : clsN f b ≤ 3) (hz : ¬ (clsN f a = clsN f b ∧ (clsN f a = 0 ∨ clsN f a = 3))) :
    Ev (fun k => quot_Div.j1 k f mode (a : Int) (b : Int) (negN f a != negN f b) (clsN f b : Int) (decide (clsN f b = 3 ∨ clsN f a = 0))) ((divN f mode a b : Int), divX f mode a b) := by
  unfold divN divX
  rw [if_neg (show ¬ (4 ≤ clsN f a ∨ 4 ≤ clsN f b) by omega), if_neg (show ¬ (4 ≤ clsN f a ∨ 4 ≤ clsN f b) by omega)]
  by_cases c0 : clsN f b = 3 ∨ clsN f a = 0
  · rw [decide_eq_true c0]
    rw [if_neg hz, if_neg hz, if_neg (show ¬ clsN f a = 3 by omega), if_neg (show ¬ clsN f a = 3 by omega), if_pos c0, if_pos c0]
    exact Ev.step (fun k => by rw [quot_Div.j1, if_pos rfl, zero_f, Option.bind_some]) (Ev.now _)
  · rw [decide_eq_false c0, if_neg hz, if_neg hz, if_neg (show ¬ clsN f a = 3 by omega), if_neg (show ¬ clsN f a = 3 by omega), if_neg c0, if_neg c0]
    by_cases b0 : clsN f b = 0
    · rw [if_pos b0, if_pos b0]
      exact Ev.step (fun k => by rw [quot_Div.j1, if_neg (by decide), if_pos (by omega), inf_f, Option.bind_some]) (Ev.now _)
    · rw [if_neg b0, if_neg b0]
      have wa := whole_pos f a (by omega) ca
      have wb := whole_pos f b b0 (by omega)
      obtain ⟨k1, k2, k3, k4, k5⟩ := lack_bounds f a wa
      have hs := whole_64 f a
      obtain ⟨l1, l2⟩ := lowest_near f a
      obtain ⟨m1, m2⟩ := lowest_near f b
      have hw : wrap64 (-(wrap64 (62 - (lenN (wholeN f a) : Int)))) = -(lackN f a : Int) := by rw [w64_id (62 - (lenN (wholeN f a) : Int)) (by omega) (by omega), w64_id _ (by omega) (by omega)]; omega
      have he : wrap64 ((wrap64 (lowestN f a - (wrap64 (62 - (lenN (wholeN f a) : Int))))) - lowestN f b) = lowestN f a - lowestN f b - (lackN f a : Int) := by
        rw [w64_id (62 - (lenN (wholeN f a) : Int)) (by omega) (by omega), w64_id (lowestN f a - (62 - (lenN (wholeN f a) : Int))) (by omega) (by omega), w64_id _ (by omega) (by omega)]; omega
      have hsh := shift_ev (wholeN f a) hs (-(lackN f a : Int)) (by omega) (by omega)
      have hq : wholeN f a * 2 ^ lackN f a / wholeN f b < 18446744073709551616 := Nat.lt_of_le_of_lt (Nat.div_le_self _ _) (by omega)
      have hp := packs_ev f mode (negN f a != negN f b) (lowestN f a - lowestN f b - (lackN f a : Int)) (wholeN f a * 2 ^ lackN f a / wholeN f b) (decide (wholeN f a * 2 ^ lackN f a % wholeN f b ≠ 0)) hq
      rw [clampE_id _ (by omega) (by omega)] at hp
      refine Ev.step (fun k => by rw [quot_Div.j1, if_neg (by decide), if_neg (by omega), of_f f a ha (cls_exp f a ca), Option.bind_some, of_f f b hb (cls_exp f b (by omega)), Option.bind_some]) (Ev.bind (len_ev _ hs) ?_)
      dsimp only
      rw [hw, he]
      refine Ev.bind hsh ?_
      dsimp only
      rw [shift_up _ _ (by omega), tdiv_nat, tmod_nn, u64_id _ hq, show (0 : Int) = ((0 : Nat) : Int) from rfl, bne_cast]
      exact Ev.congr (fun k => by rw [if_neg (by omega)]) (Ev.bind hp (Ev.now _))
theorem div_ev (f mode : Int) (a b : Nat) (ha : a < 4294967296) (hb : b < 4294967296) : Ev (fun k => quot_Div.f k f mode (a : Int) (b : Int)) ((divN f mode a b : Int), divX f mode a b) := by
  refine Ev.congr (fun k => by unfold quot_Div.f; rfl) (Ev.bind (pnans2_ev f a b ha hb) ?_)
  by_cases n : 4 ≤ clsN f a ∨ 4 ≤ clsN f b
  · have e : (isNan f a || isNan f b) = true := by unfold isNan; rw [Bool.or_eq_true, decide_eq_true_iff, decide_eq_true_iff]; exact n
    unfold divN divX
    rw [if_pos n, if_pos n]
    exact Ev.congr (fun k => by rw [if_pos e]) (Ev.now _)
  · have e : ¬ (isNan f a || isNan f b) = true := by unfold isNan; rw [Bool.or_eq_true, decide_eq_true_iff, decide_eq_true_iff]; exact n
    refine Ev.congr (fun k => by rw [if_neg e, neg_f f a ha, Option.bind_some, neg_f f b hb, Option.bind_some]) (Ev.bind (class_ev f a ha) (Ev.bind (class_ev f b hb) ?_))
    have bad : (clsN f a = clsN f b ∧ (clsN f a = 0 ∨ clsN f a = 3)) → Ev (fun k => quot_Div.j0 k f mode (a : Int) (b : Int) (negN f a != negN f b) (clsN f a : Int) (clsN f b : Int) true) ((divN f mode a b : Int), divX f mode a b) := by
      intro z
      unfold divN divX
      rw [if_neg n, if_neg n, if_pos z, if_pos z]
      exact Ev.step (fun k => by rw [quot_Div.j0, if_pos rfl, bad_f]; rfl) (Ev.now _)
    have good : ¬ (clsN f a = clsN f b ∧ (clsN f a = 0 ∨ clsN f a = 3)) → Ev (fun k => quot_Div.j0 k f mode (a : Int) (b : Int) (negN f a != negN f b) (clsN f a : Int) (clsN f b : Int) false) ((divN f mode a b : Int), divX f mode a b) := by
      intro z
      by_cases a3 : clsN f a = 3
      · unfold divN divX
        rw [if_neg n, if_neg n, if_neg z, if_neg z, if_pos a3, if_pos a3]
        exact Ev.step (fun k => by rw [quot_Div.j0, if_neg (by decide), if_pos (by omega), inf_f]; rfl) (Ev.now _)
      · have hj := div_j1 f mode a b ha hb (by omega) (by omega) z
        by_cases b3 : clsN f b = 3
        · rw [decide_eq_true (.inl b3)] at hj
          exact Ev.step (fun k => by rw [quot_Div.j0, if_neg (by decide), if_neg (by omega), if_pos (by omega)]) hj
        · have e0 : decide (clsN f b = 3 ∨ clsN f a = 0) = ((clsN f a : Int) == 0) := by
            rw [show (0 : Int) = ((0 : Nat) : Int) from rfl, beq_nn]; apply decide_eq_decide.mpr; omega
          rw [e0] at hj
          exact Ev.step (fun k => by rw [quot_Div.j0, if_neg (by decide), if_neg (by omega), if_neg (by omega)]) hj
    by_cases s : clsN f a = clsN f b
    · by_cases a0 : clsN f a = 0
      · exact Ev.congr (fun k => by rw [if_pos (by omega), if_pos (by omega)]) (bad ⟨s, .inl a0⟩)
      · by_cases a3 : clsN f a = 3
        · have e3 : (((clsN f a : Nat) : Int) == 3) = true := by rw [a3]; rfl
          exact Ev.congr (fun k => by rw [if_pos (by omega), if_neg (by omega), e3]) (bad ⟨s, .inr a3⟩)
        · have e3 : (((clsN f a : Nat) : Int) == 3) = false := by rw [show (3 : Int) = ((3 : Nat) : Int) from rfl, beq_nn]; exact decide_eq_false a3
          exact Ev.congr (fun k => by rw [if_pos (by omega), if_neg (by omega), e3]) (good (by omega))
    · exact Ev.congr (fun k => by rw [if_neg (by omega)]) (good (by omega))
end Go.Proofs.Ytngkpekmgahjiaa.Round

/- Amounts: what a number's bits without its sign stand for, in units of the least number; rounding depends on the amount alone. -/
namespace Go.Proofs.Ytngkpekmgahjiaa.Round
open Go.RowKit Go.Proofs.Ytngkpekmgahjiaa.P Go.Proofs.Ytngkpekmgahjiaa.Num Go.Proofs.Ytngkpekmgahjiaa.BitsF Go.Proofs.Ytngkpekmgahjiaa.Fmt Go.Proofs.YtngkpekmgahjiaaW.PrintWords Go.Proofs.YtngkpekmgahjiaaW.PrintLast Go.Proofs.YtngkpekmgahjiaaW.PrintMore

def magN (f : Int) (v : Nat) : Nat := v % 2 ^ (fe f + fm f)
/-- The same number, with noughts behind. -/
theorem rest_scale (r h j : Nat) : restN (r * 2 ^ j) (h * 2 ^ j) false = restN r h false := by
  have hp := Nat.two_pow_pos j
  unfold restN
  have h1 : r * 2 ^ j < h * 2 ^ j ↔ r < h := Nat.mul_lt_mul_right hp
  have h2 : r * 2 ^ j = 0 ↔ r = 0 := by rw [Nat.mul_eq_zero]; omega
  have h3 : r * 2 ^ j = h * 2 ^ j ↔ r = h := ⟨fun e => Nat.eq_of_mul_eq_mul_right hp e, fun e => by rw [e]⟩
  simp only [h1, h2, h3]
theorem left_exact (s : Nat) (d : Int) (h : d ≤ 0 ∨ s % 2 ^ d.toNat = 0) : leftN s d false = 0 := left_none false h
theorem quo_scale (s j : Nat) (d : Int) : quoN (s * 2 ^ j) d = quoN s (d - j) ∧ leftN (s * 2 ^ j) d false = leftN s (d - j) false := by
  by_cases c : d ≤ 0
  · rw [left_exact _ _ (.inl c), left_exact _ _ (.inl (by omega))]
    refine ⟨?_, rfl⟩
    unfold quoN
    rw [if_pos c, if_pos (by omega), show (-(d - (j : Int))).toNat = j + (-d).toNat by omega, Nat.pow_add, Nat.mul_assoc]
  · obtain ⟨n, rfl⟩ := nat_of (show 0 ≤ d by omega)
    by_cases c2 : (n : Int) - j ≤ 0
    · obtain ⟨i, rfl⟩ : ∃ i, j = n + i := ⟨j - n, by omega⟩
      have e : s * 2 ^ (n + i) = s * 2 ^ i * 2 ^ n := by rw [Nat.add_comm, Nat.pow_add, Nat.mul_assoc]
      have hp := Nat.two_pow_pos n
      constructor
      · unfold quoN
        rw [if_neg c, if_pos c2, Int.toNat_natCast, e, Nat.mul_div_cancel _ hp, show (-((n : Int) - ((n + i : Nat) : Int))).toNat = i by omega]
      · rw [left_exact _ _ (.inr (by rw [Int.toNat_natCast, e, Nat.mul_mod_left])), left_exact _ _ (.inl c2)]
    · obtain ⟨i, rfl⟩ : ∃ i, n = i + j := ⟨n - j, by omega⟩
      have hp := Nat.two_pow_pos j
      have e : ((i + j : Nat) : Int) - (j : Int) = (i : Int) := by omega
      rw [e] at c2 ⊢
      have hi : i ≠ 0 := by omega
      constructor
      · unfold quoN
        rw [if_neg c, if_neg c2, Int.toNat_natCast, Int.toNat_natCast, Nat.pow_add, Nat.mul_div_mul_right _ _ hp]
      · rw [left_rest _ _ _ c, left_rest _ _ _ c2, Int.toNat_natCast, Int.toNat_natCast, Nat.pow_add, Nat.mul_mod_mul_right, show i + j - 1 = i - 1 + j by omega, Nat.pow_add, rest_scale]
theorem rise_scale (f x : Int) (s j : Nat) : riseN f x (s * 2 ^ j) = riseN f (x + j) s := by
  unfold riseN
  by_cases c : s = 0
  · subst c; rw [Nat.zero_mul, if_pos rfl, if_pos rfl]
  · rw [if_neg (Nat.mul_ne_zero c (Nat.ne_of_gt (Nat.two_pow_pos j))), if_neg c, lenN_mul s j c]
    congr 1; omega
theorem key_scale (f mode : Int) (neg : Bool) (x : Int) (s j : Nat) : keyN f mode neg x (s * 2 ^ j) false = keyN f mode neg (x + j) s false := by
  have hr := rise_scale f x s j
  have hu : unitN f x (s * 2 ^ j) = unitN f (x + j) s := by unfold unitN; rw [hr]
  obtain ⟨hq, hl⟩ := quo_scale s j (unitN f (x + j) s - x)
  rw [show unitN f (x + j) s - x - j = unitN f (x + j) s - (x + j) by omega] at hq hl
  unfold keyN
  rw [hr, hu, hq, hl]
/-- A number's amount, by its whole number. -/
theorem mag_parts (f : Int) (v : Nat) : magN f v / 2 ^ fm f = expN f v ∧ magN f v % 2 ^ fm f = fracN f v := by
  unfold magN expN fracN
  rw [Nat.add_comm (fe f), Nat.pow_add]
  exact ⟨Nat.mod_mul_right_div_self .., Nat.mod_mul_right_mod ..⟩
end Go.Proofs.Ytngkpekmgahjiaa.Round

/- Bits with a sign, beyond the greatest number: plain numbers alone (for rounds without chapter 9). -/
namespace Go.Proofs.Ytngkpekmgahjiaa.Round
open Go.RowKit Go.Proofs.Ytngkpekmgahjiaa.P Go.Proofs.Ytngkpekmgahjiaa.Num Go.Proofs.Ytngkpekmgahjiaa.BitsF Go.Proofs.Ytngkpekmgahjiaa.Fmt Go.Proofs.YtngkpekmgahjiaaW.PrintWords Go.Proofs.YtngkpekmgahjiaaW.PrintLast Go.Proofs.YtngkpekmgahjiaaW.PrintMore

def infK (f : Int) : Nat := topN f * 2 ^ fm f
theorem infK_lt (f : Int) : infK f < 2 ^ (fe f + fm f) ∧ 0 < infK f := by
  obtain ⟨_, hi⟩ := inf_lt f false
  have hp := Nat.two_pow_pos (fm f)
  have ht : 0 < topN f * 2 ^ fm f := Nat.mul_pos (by have := top_cases f; omega) hp
  unfold infK; omega
/-- Bits with a sign. -/
theorem sign_parts (f : Int) (P : Nat) (neg : Bool) (h : P < 2 ^ (fe f + fm f)) : negN f (P + signN f neg) = neg ∧ magN f (P + signN f neg) = P ∧ P + signN f neg < 2 ^ (fe f + fm f + 1) := by
  unfold negN magN signN
  have hp := Nat.two_pow_pos (fe f + fm f)
  cases neg
  · simp only [Bool.false_eq_true, if_false, Nat.add_zero]
    rw [Nat.div_eq_of_lt h, Nat.mod_eq_of_lt h, Nat.pow_succ]
    exact ⟨rfl, rfl, by omega⟩
  · simp only [if_true]
    rw [Nat.add_div_right _ hp, Nat.div_eq_of_lt h, Nat.add_mod_right, Nat.mod_eq_of_lt h, Nat.pow_succ]
    exact ⟨rfl, rfl, by omega⟩
end Go.Proofs.Ytngkpekmgahjiaa.Round

/- Numbers near one, drawn: plain numbers. -/
namespace Go.Proofs.Ytngkpekmgahjiaa.Round
open Go.RowKit Go.Proofs.Ytngkpekmgahjiaa.P Go.Proofs.Ytngkpekmgahjiaa.Num Go.Proofs.Ytngkpekmgahjiaa.BitsF Go.Proofs.Ytngkpekmgahjiaa.Fmt Go.Proofs.YtngkpekmgahjiaaW.PrintWords Go.Proofs.YtngkpekmgahjiaaW.PrintLast Go.Proofs.YtngkpekmgahjiaaW.PrintMore

/-- The exponent's bits of one. -/
def oneN (f : Int) : Nat := topN f / 2
theorem one_cases (f : Int) : fe f = 5 ∧ fm f = 10 ∧ oneN f = 15 ∧ leastN f = -14 ∧ topN f = 31 ∨ fe f = 8 ∧ fm f = 7 ∧ oneN f = 127 ∧ leastN f = -126 ∧ topN f = 255 ∨ fe f = 8 ∧ fm f = 23 ∧ oneN f = 127 ∧ leastN f = -126 ∧ topN f = 255 := by
  unfold oneN topN leastN
  rcases fcases f with ⟨h1, h2⟩ | ⟨h1, h2⟩ | ⟨h1, h2⟩ <;> rw [h1, h2] <;> simp
end Go.Proofs.Ytngkpekmgahjiaa.Round

/- Small whole numbers as numbers: plain numbers alone. -/
namespace Go.Proofs.Ytngkpekmgahjiaa.Round
open Go.RowKit Go.Proofs.Ytngkpekmgahjiaa.P Go.Proofs.Ytngkpekmgahjiaa.Num Go.Proofs.Ytngkpekmgahjiaa.BitsF Go.Proofs.Ytngkpekmgahjiaa.Fmt Go.Proofs.YtngkpekmgahjiaaW.PrintWords Go.Proofs.YtngkpekmgahjiaaW.PrintLast Go.Proofs.YtngkpekmgahjiaaW.PrintMore

/-- Noughts behind make no difference. -/
theorem pack_even (f mode : Int) (neg : Bool) (x : Int) (s j : Nat) : packN f mode neg x (s * 2 ^ j) false = packN f mode neg (x + j) s false ∧ excN f mode neg x (s * 2 ^ j) false = excN f mode neg (x + j) s false := by
  have hk := key_scale f mode neg x s j
  have hr := rise_scale f x s j
  have hu : unitN f x (s * 2 ^ j) = unitN f (x + j) s := by unfold unitN; rw [hr]
  have hl := (quo_scale s j (unitN f (x + j) s - x)).2
  rw [show unitN f (x + j) s - x - j = unitN f (x + j) s - (x + j) by omega] at hl
  have hi : inexN f x (s * 2 ^ j) false = inexN f (x + j) s false := by unfold inexN; rw [hu, hl]
  have hun : underN f x (s * 2 ^ j) false = underN f (x + j) s false := by
    unfold underN
    rw [hi]
    congr 1
    by_cases c : s = 0
    · subst c; simp
    · rw [decide_eq_false c, decide_eq_false (Nat.mul_ne_zero c (Nat.ne_of_gt (Nat.two_pow_pos j))), lenN_mul s j c]
      congr 1; apply decide_eq_decide.mpr; omega
  unfold packN excN
  rw [hk, hi, hun]; exact ⟨rfl, rfl⟩
theorem norm_under (f : Int) (e r : Nat) (h : e < topN f) (hr : r < 2 ^ fm f) : e * 2 ^ fm f + r < infK f := by
  have := Nat.mul_le_mul_right (2 ^ fm f) (show e + 1 ≤ topN f from h)
  rw [Nat.add_mul] at this
  unfold infK; omega
/-- A normal number's parts, by its exponent's bits and its fraction. -/
theorem norm_all (f : Int) (neg : Bool) (e r : Nat) (h0 : 1 ≤ e) (h1 : e < topN f) (hr : r < 2 ^ fm f) :
    negN f (e * 2 ^ fm f + r + signN f neg) = neg ∧ magN f (e * 2 ^ fm f + r + signN f neg) = e * 2 ^ fm f + r ∧ e * 2 ^ fm f + r + signN f neg < 2 ^ (fe f + fm f + 1) ∧ e * 2 ^ fm f + r + signN f neg < 4294967296 ∧
    expN f (e * 2 ^ fm f + r + signN f neg) = e ∧ fracN f (e * 2 ^ fm f + r + signN f neg) = r ∧ clsN f (e * 2 ^ fm f + r + signN f neg) = 2 ∧ wholeN f (e * 2 ^ fm f + r + signN f neg) = r + 2 ^ fm f ∧
    lowestN f (e * 2 ^ fm f + r + signN f neg) = leastN f - fm f + ((e - 1 : Nat) : Int) := by
  have hl := norm_under f e r h1 hr
  have hi := (infK_lt f).1
  have hb := fbounds f
  have h32 := pow_le32 (show fe f + fm f + 1 ≤ 32 by omega)
  have hp := Nat.two_pow_pos (fm f)
  obtain ⟨p1, p2, p3⟩ := sign_parts f (e * 2 ^ fm f + r) neg (by omega)
  obtain ⟨q1, q2⟩ := mag_parts f (e * 2 ^ fm f + r + signN f neg)
  rw [p2, Nat.mul_comm, Nat.mul_add_div hp, Nat.div_eq_of_lt hr, Nat.add_zero, Nat.mul_comm] at q1
  rw [p2, Nat.mul_comm, Nat.mul_add_mod, Nat.mod_eq_of_lt hr, Nat.mul_comm] at q2
  refine ⟨p1, p2, p3, by omega, q1.symm, q2.symm, ?_, ?_, ?_⟩
  · unfold clsN; rw [← q1, if_neg (by omega), if_pos h1]
  · unfold wholeN; rw [← q1, ← q2, if_neg (by omega)]
  · unfold lowestN; rw [← q1]
/-- A small whole number, as a number. -/
theorem int_parts (f : Int) (N : Nat) (h0 : N ≠ 0) (h : N < 2 ^ (fm f + 1)) : ∃ e r j : Nat, 1 ≤ e ∧ e < topN f ∧ r < 2 ^ fm f ∧ r + 2 ^ fm f = N * 2 ^ j ∧ leastN f - fm f + ((e - 1 : Nat) : Int) = -(j : Int) ∧ lenN N + j = fm f + 1 ∧
    ∀ (mode : Int) (neg : Bool), packN f mode neg 0 N false = e * 2 ^ fm f + r + signN f neg ∧ excN f mode neg 0 N false = (false, false, false) := by
  have hl := lenN_bound N (fm f + 1) h
  have hp := lenN_pos N h0
  have hb := fbounds f
  have hc := one_cases f
  obtain ⟨j, hj⟩ : ∃ j, lenN N + j = fm f + 1 := ⟨fm f + 1 - lenN N, by omega⟩
  have hpj := Nat.two_pow_pos j
  have hpm := Nat.two_pow_pos (fm f)
  have m1 : 2 ^ fm f ≤ N * 2 ^ j := by
    have := Nat.mul_le_mul_right (2 ^ j) (lenN_le N h0)
    rw [← Nat.pow_add, show lenN N - 1 + j = fm f by omega] at this; exact this
  have m2 : N * 2 ^ j < 2 ^ (fm f + 1) := by
    have := Nat.mul_lt_mul_of_pos_right (lenN_lt N) hpj
    rw [← Nat.pow_add, hj] at this; exact this
  have hs : 2 ^ (fm f + 1) = 2 * 2 ^ fm f := by rw [Nat.pow_succ, Nat.mul_comm]
  have hr : ∃ R : Nat, (R : Int) = lenN N - 1 - leastN f ∧ R + 1 < topN f := by
    refine ⟨(lenN N - 1 - leastN f : Int).toNat, ?_, ?_⟩ <;> rcases hc with ⟨c1, c2, c3, c4, c5⟩ | ⟨c1, c2, c3, c4, c5⟩ | ⟨c1, c2, c3, c4, c5⟩ <;> omega
  obtain ⟨R, hR, hR1⟩ := hr
  have hfin := norm_under f (R + 1) (N * 2 ^ j - 2 ^ fm f) (by omega) (by omega)
  have hk : R * 2 ^ fm f + N * 2 ^ j = (R + 1) * 2 ^ fm f + (N * 2 ^ j - 2 ^ fm f) := by rw [Nat.add_mul]; omega
  refine ⟨R + 1, N * 2 ^ j - 2 ^ fm f, j, by omega, by omega, by omega, by omega, by rw [show R + 1 - 1 = R by omega]; omega, hj, fun mode neg => ?_⟩
  obtain ⟨x1, x2⟩ := exact_pack f mode neg (N * 2 ^ j) 0 R m2 (.inr m1) (by rw [hk]; exact hfin)
  rw [hk] at x1
  rw [Nat.pow_zero, Nat.mul_one, show leastN f - (fm f : Int) + (R : Int) - ((0 : Nat) : Int) = -(j : Int) by omega] at x1 x2
  obtain ⟨s1, s2⟩ := pack_even f mode neg (-(j : Int)) N j
  rw [show -(j : Int) + (j : Int) = 0 by omega] at s1 s2
  rw [s1] at x1
  rw [s2] at x2
  exact ⟨x1, x2⟩
theorem zero_all (f : Int) (b : Bool) : clsN f (signN f b) = 0 ∧ negN f (signN f b) = b ∧ signN f b < 4294967296 := by
  have hb := fbounds f
  have h31 := pow_le31 (show fe f + fm f ≤ 31 by omega)
  have hp := Nat.two_pow_pos (fm f)
  obtain ⟨p1, p2, p3⟩ := sign_parts f 0 b (Nat.two_pow_pos _)
  obtain ⟨q1, q2⟩ := mag_parts f (0 + signN f b)
  rw [p2] at q1 q2
  rw [Nat.zero_add] at *
  refine ⟨?_, p1, ?_⟩
  · unfold clsN; rw [← q1, ← q2, Nat.zero_div, Nat.zero_mod]; rfl
  · unfold signN; split <;> omega
end Go.Proofs.Ytngkpekmgahjiaa.Round

/- Quotients by one, by oneself, by noughts and infinities: plain numbers alone. -/
namespace Go.Proofs.Ytngkpekmgahjiaa.Round
open Go.RowKit Go.Proofs.Ytngkpekmgahjiaa.P Go.Proofs.Ytngkpekmgahjiaa.Num Go.Proofs.Ytngkpekmgahjiaa.BitsF Go.Proofs.Ytngkpekmgahjiaa.Fmt Go.Proofs.YtngkpekmgahjiaaW.PrintWords Go.Proofs.YtngkpekmgahjiaaW.PrintLast Go.Proofs.YtngkpekmgahjiaaW.PrintMore

/-- Normal numbers' quotient. -/
theorem div_norm (f mode : Int) (a b : Nat) (ha : clsN f a = 2) (hb : clsN f b = 2) : divN f mode a b = ratioN f mode a b ∧ divX f mode a b = (false, false, ratioX f mode a b) := by
  unfold divN divX
  rw [ha, hb]
  simp
/-- Where it comes out even. -/
theorem ratio_even (f mode : Int) (a b Q : Nat) (hb : wholeN f b ≠ 0) (h : wholeN f a * 2 ^ lackN f a = Q * wholeN f b) :
    ratioN f mode a b = packN f mode (negN f a != negN f b) (lowestN f a - lowestN f b - (lackN f a : Int)) Q false ∧ ratioX f mode a b = excN f mode (negN f a != negN f b) (lowestN f a - lowestN f b - (lackN f a : Int)) Q false := by
  unfold ratioN ratioX
  rw [h, Nat.mul_div_cancel _ (by omega), Nat.mul_mod_left]
  exact ⟨rfl, rfl⟩
theorem one_least (f : Int) : leastN f + (oneN f : Int) = 1 ∧ 1 ≤ oneN f ∧ oneN f + 3 < topN f ∧ 4 ≤ oneN f := by
  rcases one_cases f with ⟨c1, c2, c3, c4, c5⟩ | ⟨c1, c2, c3, c4, c5⟩ | ⟨c1, c2, c3, c4, c5⟩ <;> omega
theorem lack_norm (f : Int) (v r : Nat) (hr : r < 2 ^ fm f) (h : wholeN f v = r + 2 ^ fm f) : lackN f v = 61 - fm f ∧ fm f ≤ lackN f v := by
  have hb := fbounds f
  have hs : 2 ^ (fm f + 1) = 2 * 2 ^ fm f := by rw [Nat.pow_succ, Nat.mul_comm]
  have hl : lenN (wholeN f v) = fm f + 1 := lenN_of _ _ (by omega) (.inr (by rw [h, show fm f + 1 - 1 = fm f by omega]; omega))
  unfold lackN; rw [hl]; omega
theorem div_one (f mode : Int) (neg : Bool) (e r : Nat) (h0 : 1 ≤ e) (h1 : e < topN f) (hr : r < 2 ^ fm f) :
    divN f mode (e * 2 ^ fm f + r + signN f neg) (oneN f * 2 ^ fm f + 0 + signN f false) = e * 2 ^ fm f + r + signN f neg ∧ divX f mode (e * 2 ^ fm f + r + signN f neg) (oneN f * 2 ^ fm f + 0 + signN f false) = (false, false, false, false, false) := by
  obtain ⟨o1, o2, o3, o4⟩ := one_least f
  have hp := Nat.two_pow_pos (fm f)
  obtain ⟨a1, a2, a3, a4, a5, a6, a7, a8, a9⟩ := norm_all f neg e r h0 h1 hr
  obtain ⟨b1, b2, b3, b4, b5, b6, b7, b8, b9⟩ := norm_all f false (oneN f) 0 o2 (by omega) hp
  obtain ⟨d1, d2⟩ := div_norm f mode _ _ a7 b7
  obtain ⟨k1, k2⟩ := lack_norm f _ r hr a8
  have hev : wholeN f (e * 2 ^ fm f + r + signN f neg) * 2 ^ lackN f (e * 2 ^ fm f + r + signN f neg) = (r + 2 ^ fm f) * 2 ^ (lackN f (e * 2 ^ fm f + r + signN f neg) - fm f) * wholeN f (oneN f * 2 ^ fm f + 0 + signN f false) := by
    rw [a8, b8, Nat.zero_add, Nat.mul_assoc, ← Nat.pow_add]; congr 2; omega
  obtain ⟨q1, q2⟩ := ratio_even f mode _ _ _ (by rw [b8]; omega) hev
  have hs : 2 ^ (fm f + 1) = 2 * 2 ^ fm f := by rw [Nat.pow_succ, Nat.mul_comm]
  have hk : (e - 1) * 2 ^ fm f + (r + 2 ^ fm f) = e * 2 ^ fm f + r := by
    have : e * 2 ^ fm f = (e - 1) * 2 ^ fm f + 2 ^ fm f := by rw [← Nat.succ_mul]; congr 1; omega
    omega
  have hfin := norm_under f e r h1 hr
  obtain ⟨x1, x2⟩ := exact_pack f mode neg (r + 2 ^ fm f) (lackN f (e * 2 ^ fm f + r + signN f neg) - fm f) (e - 1) (by omega) (.inr (by omega)) (by rw [hk]; exact hfin)
  have he : lowestN f (e * 2 ^ fm f + r + signN f neg) - lowestN f (oneN f * 2 ^ fm f + 0 + signN f false) - (lackN f (e * 2 ^ fm f + r + signN f neg) : Int) = leastN f - fm f + ((e - 1 : Nat) : Int) - ((lackN f (e * 2 ^ fm f + r + signN f neg) - fm f : Nat) : Int) := by
    rw [a9, b9]; omega
  rw [d1, d2, q1, q2, a1, b1, Bool.bne_false, he, x1, x2, hk]
  exact ⟨rfl, rfl⟩
theorem div_self (f mode : Int) (neg : Bool) (e r : Nat) (h0 : 1 ≤ e) (h1 : e < topN f) (hr : r < 2 ^ fm f) :
    divN f mode (e * 2 ^ fm f + r + signN f neg) (e * 2 ^ fm f + r + signN f neg) = oneN f * 2 ^ fm f + 0 + signN f false ∧ divX f mode (e * 2 ^ fm f + r + signN f neg) (e * 2 ^ fm f + r + signN f neg) = (false, false, false, false, false) := by
  obtain ⟨o1, o2, o3, o4⟩ := one_least f
  have hp := Nat.two_pow_pos (fm f)
  obtain ⟨a1, a2, a3, a4, a5, a6, a7, a8, a9⟩ := norm_all f neg e r h0 h1 hr
  obtain ⟨d1, d2⟩ := div_norm f mode _ _ a7 a7
  obtain ⟨k1, k2⟩ := lack_norm f _ r hr a8
  have hev : wholeN f (e * 2 ^ fm f + r + signN f neg) * 2 ^ lackN f (e * 2 ^ fm f + r + signN f neg) = 2 ^ fm f * 2 ^ (lackN f (e * 2 ^ fm f + r + signN f neg) - fm f) * wholeN f (e * 2 ^ fm f + r + signN f neg) := by
    rw [← Nat.pow_add, Nat.mul_comm]; congr 2; omega
  obtain ⟨q1, q2⟩ := ratio_even f mode _ _ _ (by rw [a8]; omega) hev
  have hs : 2 ^ (fm f + 1) = 2 * 2 ^ fm f := by rw [Nat.pow_succ, Nat.mul_comm]
  have hk : (oneN f - 1) * 2 ^ fm f + 2 ^ fm f = oneN f * 2 ^ fm f := by rw [← Nat.succ_mul]; congr 1; omega
  have hfin := norm_under f (oneN f) 0 (by omega) hp
  obtain ⟨x1, x2⟩ := exact_pack f mode false (2 ^ fm f) (lackN f (e * 2 ^ fm f + r + signN f neg) - fm f) (oneN f - 1) (by omega) (.inr (Nat.le_refl _)) (by rw [hk]; exact hfin)
  have he : lowestN f (e * 2 ^ fm f + r + signN f neg) - lowestN f (e * 2 ^ fm f + r + signN f neg) - (lackN f (e * 2 ^ fm f + r + signN f neg) : Int) = leastN f - fm f + ((oneN f - 1 : Nat) : Int) - ((lackN f (e * 2 ^ fm f + r + signN f neg) - fm f : Nat) : Int) := by omega
  rw [d1, d2, q1, q2, a1, show (neg != neg) = false by cases neg <;> rfl, he, x1, x2, hk]
  exact ⟨rfl, rfl⟩
theorem none_div (f mode : Int) (a : Nat) (b : Bool) (ha : clsN f a = 2) : divN f mode (signN f b) a = signN f (b != negN f a) ∧ divX f mode (signN f b) a = (false, false, false, false, false) := by
  obtain ⟨z1, z2, z3⟩ := zero_all f b
  unfold divN divX; rw [ha, z1, z2]; simp
theorem none_none (f mode : Int) (b c : Bool) : divN f mode (signN f b) (signN f c) = nanN f ∧ divX f mode (signN f b) (signN f c) = (true, false, false, false, false) := by
  obtain ⟨z1, z2, z3⟩ := zero_all f b
  obtain ⟨y1, y2, y3⟩ := zero_all f c
  unfold divN divX; rw [z1, y1]; simp
end Go.Proofs.Ytngkpekmgahjiaa.Round

/- Roots: the program's, as plain numbers (for rounds without chapter 1). -/
namespace Go.Proofs.Ytngkpekmgahjiaa.BitsF
open Go.RowKit Go.Proofs.Ytngkpekmgahjiaa.P Go.Proofs.Ytngkpekmgahjiaa.Num Go.Proofs.YtngkpekmgahjiaaW.PrintWords Go.Proofs.YtngkpekmgahjiaaW.PrintLast Go.Proofs.YtngkpekmgahjiaaW.PrintMore

/-! ### roots -/
def rootGo : Nat → Nat → Nat → Nat
  | 0, _, r => r
  | j + 1, v, r => if (r + 2 ^ j) * (r + 2 ^ j) ≤ v then rootGo j v (r + 2 ^ j) else rootGo j v r
def rootN (v : Nat) : Nat := rootGo 32 v 0
theorem rootGo_is (j : Nat) : ∀ v r, r * r ≤ v → v < (r + 2 ^ j) * (r + 2 ^ j) → rootGo j v r * rootGo j v r ≤ v ∧ v < (rootGo j v r + 1) * (rootGo j v r + 1) := by
  induction j with
  | zero => intro v r h h'; exact ⟨h, h'⟩
  | succ j ih =>
    intro v r h h'
    unfold rootGo
    by_cases c : (r + 2 ^ j) * (r + 2 ^ j) ≤ v
    · rw [if_pos c]; exact ih v _ c (by rw [Nat.add_assoc, ← Nat.mul_two, ← Nat.pow_succ]; exact h')
    · rw [if_neg c]; exact ih v r h (by omega)
theorem rootGo_lt (j : Nat) : ∀ v r n, r + 2 ^ j ≤ n → rootGo j v r < n := by
  induction j with
  | zero => intro v r n h; unfold rootGo; have := Nat.two_pow_pos 0; omega
  | succ j ih =>
    intro v r n h
    rw [Nat.pow_succ] at h
    unfold rootGo
    split
    · exact ih _ _ _ (by omega)
    · exact ih _ _ _ (by omega)
theorem rootN_is (v : Nat) (hv : v < 18446744073709551616) : rootN v * rootN v ≤ v ∧ v < (rootN v + 1) * (rootN v + 1) := rootGo_is 32 v 0 (by omega) (by omega)
theorem rootN_lt (v : Nat) : rootN v < 4294967296 := rootGo_lt 32 v 0 _ (by decide)
theorem sq_lt {a b : Nat} (h : a < b) : a * a < b * b := Nat.mul_self_lt_mul_self h
theorem rootN_of {v r : Nat} (hv : v < 18446744073709551616) (h : r * r ≤ v) (h' : v < (r + 1) * (r + 1)) : r = rootN v := by
  obtain ⟨a, b⟩ := rootN_is v hv
  rcases Nat.lt_trichotomy r (rootN v) with c | c | c
  · have : (r + 1) * (r + 1) ≤ rootN v * rootN v := Nat.mul_self_le_mul_self c
    omega
  · exact c
  · have : (rootN v + 1) * (rootN v + 1) ≤ r * r := Nat.mul_self_le_mul_self c
    omega
theorem sq32 {a : Nat} (h : a < 4294967296) : a * a < 18446744073709551616 := sq_lt (b := 4294967296) h
theorem beq_cast (a b : Nat) : (((a : Int) == (b : Int)) : Bool) = decide (a = b) := by
  by_cases h : a = b
  · subst h; simp
  · rw [beq_eq_false_iff_ne.mpr (by omega)]; simp [h]
theorem root_l0 (v : Nat) (j : Nat) : ∀ r k : Nat, r % 2 ^ j = 0 → r + 2 ^ j ≤ 4294967296 →
    bits_Root.l0 (j + 1 + k) (v : Int) (r : Int) ((2 ^ j / 2 : Nat) : Int) = some ((rootGo j v r : Int), decide (rootGo j v r * rootGo j v r = v)) := by
  induction j with
  | zero =>
    intro r k h h'
    rw [show 0 + 1 + k = k + 1 by omega, bits_Root.l0, if_neg (by decide)]
    rw [Nat.pow_zero] at h'
    unfold rootGo
    rw [show (r : Int) * (r : Int) = ((r * r : Nat) : Int) by simp, u64_id _ (sq32 (by omega)), beq_cast, Int.emod_eq_of_lt (by omega) (by omega)]
  | succ j ih =>
    intro r k h h'
    have hp := Nat.two_pow_pos j
    have e : 2 ^ (j + 1) / 2 = 2 ^ j := by rw [Nat.pow_succ, Nat.mul_div_cancel _ (by decide)]
    have e2 : ((2 ^ j : Nat) : Int) / 2 = ((2 ^ j / 2 : Nat) : Int) := by omega
    have hh : r % 2 ^ j = 0 := by
      rw [Nat.pow_succ] at h
      have := Nat.mod_mul_right_mod r (2 ^ j) 2
      rw [h] at this; simpa using this.symm
    rw [Nat.pow_succ] at h'
    rw [show j + 1 + 1 + k = (j + 1 + k) + 1 by omega, bits_Root.l0, e, if_pos (by omega), or_u64 _ _ (by omega) (by omega), or_add r (2 ^ j) (j + 1) h (by rw [Nat.pow_succ]; omega)]
    rw [show ((r + 2 ^ j : Nat) : Int) * ((r + 2 ^ j : Nat) : Int) = (((r + 2 ^ j) * (r + 2 ^ j) : Nat) : Int) by simp, u64_id _ (sq32 (by omega)), e2]
    unfold rootGo
    by_cases c : (r + 2 ^ j) * (r + 2 ^ j) ≤ v
    · rw [if_pos (by omega), if_pos c]
      exact ih (r + 2 ^ j) k (by rw [Nat.add_mod_right]; exact hh) (by omega)
    · rw [if_neg (by omega), if_neg c]
      exact ih r k hh (by omega)
theorem root_ev (v : Nat) : Ev (fun k => bits_Root.f k (v : Int)) ((rootN v : Int), decide (rootN v * rootN v = v)) :=
  Ev.of (bits_Root.mono _) (k := 33) (by
    have h := root_l0 v 32 0 0 (by decide) (by decide)
    rw [show ((2 ^ 32 / 2 : Nat) : Int) = 2147483648 by decide, show ((0 : Nat) : Int) = 0 from rfl] at h
    exact h)
end Go.Proofs.Ytngkpekmgahjiaa.BitsF

/- Roots of numbers: the program's, as plain numbers. -/
namespace Go.Proofs.Ytngkpekmgahjiaa.Round
open Go.RowKit Go.Proofs.Ytngkpekmgahjiaa.P Go.Proofs.Ytngkpekmgahjiaa.Num Go.Proofs.Ytngkpekmgahjiaa.BitsF Go.Proofs.Ytngkpekmgahjiaa.Fmt Go.Proofs.YtngkpekmgahjiaaW.PrintWords Go.Proofs.YtngkpekmgahjiaaW.PrintLast Go.Proofs.YtngkpekmgahjiaaW.PrintMore

theorem tmod_even (x : Int) : Int.tmod x 2 = 0 ↔ x % 2 = 0 := by
  constructor
  · intro h
    have := Int.mul_tdiv_add_tmod x 2
    omega
  · intro h
    obtain ⟨y, rfl⟩ : ∃ y, x = 2 * y := ⟨x / 2, by omega⟩
    exact Int.mul_tmod_right ..
theorem tdiv_even (x : Int) (h : x % 2 = 0) : Int.tdiv x 2 = x / 2 := by
  obtain ⟨y, rfl⟩ : ∃ y, x = 2 * y := ⟨x / 2, by omega⟩
  rw [Int.mul_tdiv_cancel_left y (by decide)]; omega
/-- How many noughts are put behind. -/
def liftN (f : Int) (a : Nat) : Nat := if (lowestN f a - (lackN f a : Int)) % 2 = 0 then lackN f a else lackN f a - 1
def rootV (f : Int) (a : Nat) : Nat := wholeN f a * 2 ^ liftN f a
def sideN (f mode : Int) (a : Nat) : Nat := packN f mode false ((lowestN f a - (liftN f a : Int)) / 2) (rootN (rootV f a)) (!decide (rootN (rootV f a) * rootN (rootV f a) = rootV f a))
def sideX (f mode : Int) (a : Nat) : Bool × Bool × Bool := excN f mode false ((lowestN f a - (liftN f a : Int)) / 2) (rootN (rootV f a)) (!decide (rootN (rootV f a) * rootN (rootV f a) = rootV f a))
def sqrtN (f mode : Int) (a : Nat) : Nat :=
  if 4 ≤ clsN f a then nanN f else if clsN f a = 0 then signN f (negN f a) else if negN f a = true then nanN f else if clsN f a = 3 then infN f false else sideN f mode a
def sqrtX (f mode : Int) (a : Nat) : Bool × Bool × Bool × Bool × Bool :=
  if 4 ≤ clsN f a then (isLoud f a, false, false, false, false) else if clsN f a = 0 then (false, false, false, false, false) else if negN f a = true then (true, false, false, false, false) else if clsN f a = 3 then (false, false, false, false, false) else (false, false, sideX f mode a)
theorem lift_bounds (f : Int) (a : Nat) (h : wholeN f a ≠ 0) : (lowestN f a - (liftN f a : Int)) % 2 = 0 ∧ liftN f a ≤ lackN f a ∧ lackN f a ≤ liftN f a + 1 ∧ 1152921504606846976 ≤ rootV f a ∧ rootV f a < 4611686018427387904 ∧ 1073741824 ≤ rootN (rootV f a) := by
  obtain ⟨k1, k2, k3, k4, k5⟩ := lack_bounds f a h
  have main : (lowestN f a - (liftN f a : Int)) % 2 = 0 ∧ liftN f a ≤ lackN f a ∧ lackN f a ≤ liftN f a + 1 := by
    unfold liftN; split <;> omega
  obtain ⟨m1, m2, m3⟩ := main
  have v1 : rootV f a ≤ wholeN f a * 2 ^ lackN f a := Nat.mul_le_mul_left _ (Nat.pow_le_pow_right (by decide) m2)
  have v2 : wholeN f a * 2 ^ lackN f a ≤ rootV f a * 2 := by
    unfold rootV
    rw [Nat.mul_assoc, ← Nat.pow_succ]
    exact Nat.mul_le_mul_left _ (Nat.pow_le_pow_right (by decide) m3)
  have v3 : 1152921504606846976 ≤ rootV f a := by omega
  refine ⟨m1, m2, m3, v3, by omega, ?_⟩
  obtain ⟨_, r2⟩ := rootN_is (rootV f a) (by omega)
  rcases Nat.lt_or_ge (rootN (rootV f a)) 1073741824 with c | c
  · have := Nat.mul_self_le_mul_self (show rootN (rootV f a) + 1 ≤ 1073741824 from c)
    omega
  · exact c
theorem of_inf (f : Int) (v : Nat) (hv : v < 4294967296) (h : clsN f v = 3) : sum_Of.f f (v : Int) = some (negN f v, 0, 0, false) := by
  have he := exp_le f v
  have hx : ¬ expN f v < topN f := fun c => by have := (cls_finite f v).mpr c; omega
  have ht := top_cases f
  unfold sum_Of.f format_Unpack.f
  rw [widths_f, Option.bind_some, parts_f f v hv, Option.bind_some]
  dsimp only
  rw [if_neg (by omega), top_f, Option.bind_some, if_pos (by omega)]; rfl
theorem side_ev (f mode : Int) (a : Nat) (ha : a < 4294967296) (h0 : clsN f a ≠ 0) (h3 : clsN f a < 3) (k0 : Int × Bool × Bool × Bool × Bool × Bool → Option (Int × Bool × Bool × Bool × Bool × Bool)) (hk : ∀ r, k0 r = some r) (c : Nat) (hc : c = liftN f a) :
    Ev (fun k => (bits_Shift.f k (wholeN f a : Int) (-(c : Int))).bind fun bt636 => ((bits_Root.f k bt636.1).bind fun bt638 => ((round_Pack.f k f mode false ((lowestN f a - (c : Int)) / 2) (IntKind.u64.wrap (bt638.1)) (!bt638.2)).bind fun bt640 => k0 bt640))) ((sideN f mode a : Int), false, false, sideX f mode a) := by
  subst hc
  have hw := whole_pos f a h0 h3
  obtain ⟨m1, m2, m3, v1, v2, v3⟩ := lift_bounds f a hw
  obtain ⟨k1, k2, k3, k4, k5⟩ := lack_bounds f a hw
  obtain ⟨l1, l2⟩ := lowest_near f a
  have hs := whole_64 f a
  have hr := rootN_lt (rootV f a)
  refine Ev.bind (shift_ev _ hs (-(liftN f a : Int)) (by omega) (by omega)) ?_
  dsimp only
  rw [shift_up _ _ (show wholeN f a * 2 ^ liftN f a < 18446744073709551616 by unfold rootV at v2; omega)]
  refine Ev.bind (root_ev (rootV f a)) ?_
  dsimp only
  have hp := packs_ev f mode false ((lowestN f a - (liftN f a : Int)) / 2) (rootN (rootV f a)) (!decide (rootN (rootV f a) * rootN (rootV f a) = rootV f a)) (by omega)
  rw [clampE_id _ (by omega) (by omega)] at hp
  rw [u64_id _ (by omega)]
  refine Ev.bind hp (Ev.congr (fun k => by rw [hk]; rfl) (Ev.now _))
theorem sqrt_ev (f mode : Int) (a : Nat) (ha : a < 4294967296) : Ev (fun k => quot_Sqrt.f k f mode (a : Int)) ((sqrtN f mode a : Int), sqrtX f mode a) := by
  refine Ev.congr (fun k => by unfold quot_Sqrt.f; rfl) (Ev.bind (pnans1_ev f a ha) ?_)
  have hle := cls_le f a
  unfold sqrtN sqrtX
  by_cases c4 : 4 ≤ clsN f a
  · rw [if_pos c4, if_pos c4]
    exact Ev.congr (fun k => by rw [if_pos (show isNan f a = true from decide_eq_true c4)]) (Ev.now _)
  · rw [if_neg c4, if_neg c4]
    have n4 : ¬ isNan f a = true := by unfold isNan; simp; omega
    by_cases c3 : clsN f a = 3
    · refine Ev.congr (fun k => by rw [if_neg n4, of_inf f a ha c3, Option.bind_some]) (Ev.bind (pzero_ev f a ha) ?_)
      rw [if_neg (show ¬ clsN f a = 0 by omega), if_neg (show ¬ clsN f a = 0 by omega), decide_eq_false (show ¬ clsN f a = 0 by omega)]
      dsimp only
      cases hn : negN f a
      · rw [if_neg (show ¬ false = true by decide), if_neg (show ¬ false = true by decide), if_pos c3, if_pos c3]
        exact Ev.congr (fun k => by rw [if_neg (show ¬ false = true by decide), if_neg (show ¬ false = true by decide)]) (Ev.bind (pinf_ev f a ha) (Ev.congr (fun k => by rw [if_pos (decide_eq_true c3), inf_f]; rfl) (Ev.now _)))
      · rw [if_pos (show true = true from rfl), if_pos (show true = true from rfl)]
        exact Ev.congr (fun k => by rw [if_neg (show ¬ false = true by decide), if_pos (show true = true from rfl), bad_f]; rfl) (Ev.now _)
    · refine Ev.congr (fun k => by rw [if_neg n4, of_f f a ha (cls_exp f a (by omega)), Option.bind_some]) (Ev.bind (pzero_ev f a ha) ?_)
      dsimp only
      by_cases c0 : clsN f a = 0
      · rw [if_pos c0, if_pos c0]
        exact Ev.congr (fun k => by rw [if_pos (decide_eq_true c0), zero_f]; rfl) (Ev.now _)
      · rw [if_neg c0, if_neg c0, decide_eq_false c0]
        cases hn : negN f a
        · rw [if_neg (show ¬ false = true by decide), if_neg (show ¬ false = true by decide), if_neg c3, if_neg c3]
          refine Ev.congr (fun k => by rw [if_neg (show ¬ false = true by decide), if_neg (show ¬ false = true by decide)]) (Ev.bind (pinf_ev f a ha) ?_)
          have hs := whole_64 f a
          have hw := whole_pos f a c0 (by omega)
          obtain ⟨k1, k2, k3, k4, k5⟩ := lack_bounds f a hw
          obtain ⟨l1, l2⟩ := lowest_near f a
          refine Ev.congr (fun k => by rw [if_neg (by simp [c3])]) (Ev.bind (len_ev _ hs) ?_)
          have e1 : wrap64 (62 - (lenN (wholeN f a) : Int)) = (lackN f a : Int) := by rw [w64_id _ (by omega) (by omega)]; omega
          have e2 : wrap64 (lowestN f a - (lackN f a : Int)) = lowestN f a - (lackN f a : Int) := w64_id _ (by omega) (by omega)
          have e3 : wrap64 (-(lackN f a : Int)) = -(lackN f a : Int) := w64_id _ (by omega) (by omega)
          have e4 : wrap64 ((lackN f a : Int) - 1) = ((lackN f a - 1 : Nat) : Int) := by rw [w64_id _ (by omega) (by omega)]; omega
          have e5 : wrap64 (-((lackN f a - 1 : Nat) : Int)) = -((lackN f a - 1 : Nat) : Int) := w64_id _ (by omega) (by omega)
          have e6 : wrap64 (lowestN f a - ((lackN f a - 1 : Nat) : Int)) = lowestN f a - ((lackN f a - 1 : Nat) : Int) := w64_id _ (by omega) (by omega)
          by_cases ev : (lowestN f a - (lackN f a : Int)) % 2 = 0
          · have hl : lackN f a = liftN f a := by unfold liftN; rw [if_pos ev]
            have e7 : wrap64 (Int.tdiv (lowestN f a - (lackN f a : Int)) 2) = (lowestN f a - (lackN f a : Int)) / 2 := by rw [tdiv_even _ ev, w64_id _ (by omega) (by omega)]
            have h := side_ev f mode a ha c0 (by omega) some (fun r => rfl) _ hl
            refine Ev.congr (fun k => ?_) h
            rw [e1, e2, if_pos ((tmod_even _).mpr ev), e3, e7]
          · have hl : lackN f a - 1 = liftN f a := by unfold liftN; rw [if_neg ev]
            have e7 : wrap64 (Int.tdiv (lowestN f a - ((lackN f a - 1 : Nat) : Int)) 2) = (lowestN f a - ((lackN f a - 1 : Nat) : Int)) / 2 := by rw [tdiv_even _ (by omega), w64_id _ (by omega) (by omega)]
            have h := side_ev f mode a ha c0 (by omega) some (fun r => rfl) _ hl
            refine Ev.congr (fun k => ?_) h
            rw [e1, e2, if_neg (fun h => ev ((tmod_even _).mp h)), e4, e5, e6, e7]
        · rw [if_pos (show true = true from rfl), if_pos (show true = true from rfl)]
          exact Ev.congr (fun k => by rw [if_neg (show ¬ false = true by decide), if_pos (show true = true from rfl), bad_f]; rfl) (Ev.now _)
end Go.Proofs.Ytngkpekmgahjiaa.Round

/- A number without its sign: plain numbers. -/
namespace Go.Proofs.Ytngkpekmgahjiaa.Round
open Go.RowKit Go.Proofs.Ytngkpekmgahjiaa.P Go.Proofs.Ytngkpekmgahjiaa.Num Go.Proofs.Ytngkpekmgahjiaa.BitsF Go.Proofs.Ytngkpekmgahjiaa.Fmt Go.Proofs.YtngkpekmgahjiaaW.PrintWords Go.Proofs.YtngkpekmgahjiaaW.PrintLast Go.Proofs.YtngkpekmgahjiaaW.PrintMore

theorem and_mod (a n : Nat) (hn : n ≤ 31) (h : a < 2 ^ (n + 1)) : a &&& (4294967295 - 2 ^ n) = a % 2 ^ n := by
  have hp := pow_le31 hn
  apply Nat.eq_of_testBit_eq
  intro i
  have e : 4294967295 - 2 ^ n = 2 ^ 32 - (2 ^ n + 1) := by omega
  rw [Nat.testBit_and, e, Nat.testBit_two_pow_sub_succ (by omega), Nat.testBit_mod_two_pow, Nat.testBit_two_pow]
  by_cases c : i < n
  · rw [decide_eq_true c, decide_eq_true (show i < 32 by omega), decide_eq_false (show ¬ n = i by omega)]; simp
  · by_cases d : n = i
    · rw [decide_eq_true d, decide_eq_false c]; simp
    · have : a.testBit i = false := Nat.testBit_lt_two_pow (Nat.lt_of_lt_of_le h (Nat.pow_le_pow_right (by decide) (by omega)))
      rw [this, decide_eq_false c]; simp
theorem and_not (f : Int) (a : Nat) (h : a < 2 ^ (fe f + fm f + 1)) : Go.bits .andNot .u32 (a : Int) (signN f true : Int) = (magN f a : Int) := by
  have hb := fbounds f
  have h31 := pow_le31 (show fe f + fm f ≤ 31 by omega)
  have h32 := pow_le32 (show fe f + fm f + 1 ≤ 32 by omega)
  have hs : signN f true = 2 ^ (fe f + fm f) := rfl
  rw [Go.u32_andNot_nat a _ (by omega) (by omega), hs, and_mod a _ (by omega) h]; rfl
end Go.Proofs.Ytngkpekmgahjiaa.Round

/- Small whole numbers as numbers, their products, quotients, roots: plain numbers alone. -/
namespace Go.Proofs.Ytngkpekmgahjiaa.Round
open Go.RowKit Go.Proofs.Ytngkpekmgahjiaa.P Go.Proofs.Ytngkpekmgahjiaa.Num Go.Proofs.Ytngkpekmgahjiaa.BitsF Go.Proofs.Ytngkpekmgahjiaa.Fmt Go.Proofs.YtngkpekmgahjiaaW.PrintWords Go.Proofs.YtngkpekmgahjiaaW.PrintLast Go.Proofs.YtngkpekmgahjiaaW.PrintMore

/-- A small whole number of either sign, as a number. -/
def numI (f i : Int) : Nat := packN f 0 (decide (i < 0)) 0 i.natAbs false
theorem int_form (f i : Int) (h0 : i ≠ 0) (h : i.natAbs < 2 ^ (fm f + 1)) : ∃ j : Nat, numI f i < 4294967296 ∧ numI f i < 2 ^ (fe f + fm f + 1) ∧ clsN f (numI f i) = 2 ∧ negN f (numI f i) = decide (i < 0) ∧ wholeN f (numI f i) = i.natAbs * 2 ^ j ∧ lowestN f (numI f i) = -(j : Int) ∧ j ≤ fm f ∧
    magN f (numI f i) = packN f 0 false 0 i.natAbs false ∧ (∀ mode, packN f mode (decide (i < 0)) 0 i.natAbs false = numI f i ∧ excN f mode (decide (i < 0)) 0 i.natAbs false = (false, false, false)) := by
  obtain ⟨e, r, j, h1, h2, h3, h4, h5, h6, h7⟩ := int_parts f i.natAbs (by omega) h
  have hp := lenN_pos i.natAbs (by omega)
  have hn : numI f i = e * 2 ^ fm f + r + signN f (decide (i < 0)) := (h7 0 (decide (i < 0))).1
  obtain ⟨a1, a2, a3, a4, a5, a6, a7, a8, a9⟩ := norm_all f (decide (i < 0)) e r h1 h2 h3
  rw [← hn] at a1 a2 a3 a4 a5 a6 a7 a8 a9
  refine ⟨j, a4, a3, a7, a1, by rw [a8, h4], by rw [a9, h5], by omega, ?_, fun mode => ?_⟩
  · rw [a2, (h7 0 false).1]; rfl
  · rw [hn]; exact h7 mode _
theorem int_none (f : Int) : numI f 0 = signN f false := by
  unfold numI
  exact (pack_none f 0 false 0).1
theorem mul_sign (i k : Int) (hi : i ≠ 0) (hk : k ≠ 0) : (decide (i < 0) != decide (k < 0)) = decide (i * k < 0) := by
  rcases Int.lt_or_gt_of_ne hi with a | a <;> rcases Int.lt_or_gt_of_ne hk with b | b
  · have := Int.mul_pos_of_neg_of_neg a b
    rw [decide_eq_true a, decide_eq_true b, decide_eq_false (by omega)]; rfl
  · have := Int.mul_neg_of_neg_of_pos a b
    rw [decide_eq_true a, decide_eq_false (by omega), decide_eq_true this]; rfl
  · have := Int.mul_neg_of_pos_of_neg a b
    rw [decide_eq_false (by omega), decide_eq_true b, decide_eq_true this]; rfl
  · have := Int.mul_pos a b
    rw [decide_eq_false (by omega), decide_eq_false (by omega), decide_eq_false (by omega)]; rfl
/-- Their product. -/
theorem int_mul (f mode i k : Int) (hi : i ≠ 0) (hk : k ≠ 0) (h : (i * k).natAbs < 2 ^ (fm f + 1)) (h1 : i.natAbs < 2 ^ (fm f + 1)) (h2 : k.natAbs < 2 ^ (fm f + 1)) :
    packN f mode (negN f (numI f i) != negN f (numI f k)) (lowestN f (numI f i) + lowestN f (numI f k)) (wholeN f (numI f i) * wholeN f (numI f k)) false = numI f (i * k) := by
  obtain ⟨j, a1, a2, a3, a4, a5, a6, _⟩ := int_form f i hi h1
  obtain ⟨l, b1, b2, b3, b4, b5, b6, _⟩ := int_form f k hk h2
  obtain ⟨_, _, _, _, _, _, _, _, _, c9⟩ := int_form f (i * k) (Int.mul_ne_zero hi hk) h
  rw [a4, b4, a5, b5, a6, b6, mul_sign i k hi hk]
  have e : i.natAbs * 2 ^ j * (k.natAbs * 2 ^ l) = (i * k).natAbs * 2 ^ (j + l) := by
    rw [Int.natAbs_mul, Nat.pow_add, Nat.mul_mul_mul_comm]
  rw [e, (pack_even f mode _ _ _ _).1, show -(j : Int) + -(l : Int) + ((j + l : Nat) : Int) = 0 by omega]
  exact (c9 mode).1
/-- A product by one of its numbers. -/
theorem int_div (f mode i k : Int) (hi : i ≠ 0) (hk : k ≠ 0) (h : (i * k).natAbs < 2 ^ (fm f + 1)) (h1 : i.natAbs < 2 ^ (fm f + 1)) (h2 : k.natAbs < 2 ^ (fm f + 1)) :
    divN f mode (numI f (i * k)) (numI f k) = numI f i ∧ divX f mode (numI f (i * k)) (numI f k) = (false, false, false, false, false) := by
  obtain ⟨j, a1, a2, a3, a4, a5, a6, a7, a8, a9⟩ := int_form f (i * k) (Int.mul_ne_zero hi hk) h
  obtain ⟨l, b1, b2, b3, b4, b5, b6, b7, b8, b9⟩ := int_form f k hk h2
  obtain ⟨_, _, _, _, _, _, _, _, _, c9⟩ := int_form f i hi h1
  have hb := fbounds f
  have hw : wholeN f (numI f (i * k)) ≠ 0 := whole_pos f _ (by rw [a3]; decide) (by rw [a3]; decide)
  obtain ⟨k1, k2, k3, _⟩ := lack_bounds f _ hw
  obtain ⟨d1, d2⟩ := div_norm f mode _ _ a3 b3
  have hev : wholeN f (numI f (i * k)) * 2 ^ lackN f (numI f (i * k)) = i.natAbs * 2 ^ (j + lackN f (numI f (i * k)) - l) * wholeN f (numI f k) := by
    rw [a5, b5, Int.natAbs_mul]
    rw [Nat.mul_assoc (i.natAbs * k.natAbs), ← Nat.pow_add, Nat.mul_mul_mul_comm, ← Nat.pow_add]
    congr 2; omega
  obtain ⟨q1, q2⟩ := ratio_even f mode _ _ _ (whole_pos f _ (by rw [b3]; decide) (by rw [b3]; decide)) hev
  have hs : (negN f (numI f (i * k)) != negN f (numI f k)) = decide (i < 0) := by
    rw [a4, b4, ← mul_sign i k hi hk]
    cases decide (i < 0) <;> cases decide (k < 0) <;> rfl
  have he : lowestN f (numI f (i * k)) - lowestN f (numI f k) - (lackN f (numI f (i * k)) : Int) + ((j + lackN f (numI f (i * k)) - l : Nat) : Int) = 0 := by rw [a6, b6]; omega
  rw [d1, d2, q1, q2, (pack_even f mode _ _ _ _).1, (pack_even f mode _ _ _ _).2, hs, he, (c9 mode).1, (c9 mode).2]
  exact ⟨rfl, rfl⟩
theorem sq_even (N j l : Nat) (h : (j + l) % 2 = 0) : N * N * 2 ^ j * 2 ^ l = (N * 2 ^ ((j + l) / 2)) * (N * 2 ^ ((j + l) / 2)) := by
  rw [Nat.mul_assoc, ← Nat.pow_add, Nat.mul_mul_mul_comm, ← Nat.pow_add]; congr 2; omega
/-- A square's root. -/
theorem int_sqrt (f mode i : Int) (hi : i ≠ 0) (h : (i * i).natAbs < 2 ^ (fm f + 1)) (h1 : i.natAbs < 2 ^ (fm f + 1)) :
    sqrtN f mode (numI f (i * i)) = magN f (numI f i) ∧ sqrtX f mode (numI f (i * i)) = (false, false, false, false, false) := by
  obtain ⟨j, a1, a2, a3, a4, a5, a6, a7, a8, a9⟩ := int_form f (i * i) (Int.mul_ne_zero hi hi) h
  obtain ⟨_, _, _, _, _, _, _, _, c8, c9⟩ := int_form f i hi h1
  have hpos : ¬ i * i < 0 := by
    rcases Int.lt_or_gt_of_ne hi with a | a
    · have := Int.mul_pos_of_neg_of_neg a a; omega
    · have := Int.mul_pos a a; omega
  rw [decide_eq_false hpos] at a4
  have hw : wholeN f (numI f (i * i)) ≠ 0 := whole_pos f _ (by rw [a3]; decide) (by rw [a3]; decide)
  obtain ⟨m1, m2, m3, v1, v2, v3⟩ := lift_bounds f _ hw
  rw [a6] at m1
  have hV : rootV f (numI f (i * i)) = (i.natAbs * 2 ^ ((j + liftN f (numI f (i * i))) / 2)) * (i.natAbs * 2 ^ ((j + liftN f (numI f (i * i))) / 2)) := by
    unfold rootV
    rw [a5, Int.natAbs_mul]
    exact sq_even _ _ _ (by omega)
  have hroot : rootN (rootV f (numI f (i * i))) = i.natAbs * 2 ^ ((j + liftN f (numI f (i * i))) / 2) := by
    refine (rootN_of (by omega) ?_ ?_).symm
    · rw [hV]; exact Nat.le_refl _
    · rw [hV]; exact Nat.mul_self_lt_mul_self (Nat.lt_succ_self _)
  have hs : sideN f mode (numI f (i * i)) = packN f mode false 0 i.natAbs false ∧ sideX f mode (numI f (i * i)) = excN f mode false 0 i.natAbs false := by
    unfold sideN sideX
    rw [hroot, ← hV, decide_eq_true rfl, Bool.not_true, (pack_even f mode _ _ _ _).1, (pack_even f mode _ _ _ _).2, a6]
    rw [show (-(j : Int) - (liftN f (numI f (i * i)) : Int)) / 2 + (((j + liftN f (numI f (i * i))) / 2 : Nat) : Int) = 0 by omega]
    exact ⟨rfl, rfl⟩
  have hfin : ∀ (mode : Int), packN f mode false 0 i.natAbs false = packN f 0 false 0 i.natAbs false ∧ excN f mode false 0 i.natAbs false = (false, false, false) := by
    obtain ⟨e, r, j', _, _, _, _, _, _, h7⟩ := int_parts f i.natAbs (by omega) h1
    intro mode
    rw [(h7 mode false).1, (h7 0 false).1]
    exact ⟨rfl, (h7 mode false).2⟩
  unfold sqrtN sqrtX
  rw [a3, a4, hs.1, hs.2, (hfin mode).1, (hfin mode).2, c8]
  simp
end Go.Proofs.Ytngkpekmgahjiaa.Round

/- The reference's loops of layer 1: how many bits, shifts. -/
namespace Go.Proofs.Ytngkpekmgahjiaa.BitsF
open Go.RowKit Go.Proofs.Ytngkpekmgahjiaa.P Go.Proofs.Ytngkpekmgahjiaa.Num Go.Proofs.YtngkpekmgahjiaaW.PrintWords Go.Proofs.YtngkpekmgahjiaaW.PrintLast Go.Proofs.YtngkpekmgahjiaaW.PrintMore

/-! ### the reference's loops -/
theorem ref_len_l0 (j : Nat) : ∀ v c k : Nat, v < 2 ^ j → c + j ≤ 64 → annealref1_Len.l0 (j + 1 + k) (v : Int) (c : Int) = some ((c + lenN v : Nat) : Int) := by
  induction j with
  | zero =>
    intro v c k h _
    obtain rfl : v = 0 := by rw [Nat.pow_zero] at h; omega
    rw [show 0 + 1 + k = k + 1 by omega, annealref1_Len.l0, if_neg (by decide)]; rfl
  | succ j ih =>
    intro v c k h hc
    rw [show j + 1 + 1 + k = (j + 1 + k) + 1 by omega, annealref1_Len.l0]
    by_cases hv : v = 0
    · subst hv; rw [if_neg (by decide)]; rfl
    · rw [if_pos (by omega), show (v : Int) / 2 = ((v / 2 : Nat) : Int) by omega, w64_id _ (by omega) (by omega), show (c : Int) + 1 = ((c + 1 : Nat) : Int) by omega, ih _ _ k (by rw [Nat.pow_succ] at h; omega) (by omega), lenN_half v hv]
      congr 2; omega
theorem ref_len_ev (v : Nat) (hv : v < 18446744073709551616) : Ev (fun k => annealref1_Len.f k (v : Int)) (lenN v : Int) :=
  Ev.of (annealref1_Len.mono _) (k := 65) (by
    have h := ref_len_l0 64 v 0 0 (by omega) (by decide)
    rw [Nat.zero_add, show 64 + 1 + 0 = 65 from rfl] at h
    unfold annealref1_Len.f
    exact h)
theorem half_pow (v j : Nat) : v / 2 / 2 ^ j = v / 2 ^ (j + 1) := by rw [Nat.div_div_eq_div_mul, Nat.pow_succ, Nat.mul_comm 2]
theorem out_right (v j : Nat) : (decide (v % 2 ≠ 0) || decide (v / 2 % 2 ^ j ≠ 0)) = decide (v % 2 ^ (j + 1) ≠ 0) := by
  have e : v % 2 ^ (j + 1) = v % 2 + 2 * (v / 2 % 2 ^ j) := by rw [Nat.pow_succ, Nat.mul_comm, Nat.mod_mul]
  rw [← Bool.decide_or]
  congr 1; apply propext
  have hz : ∀ z : Nat, v / 2 % 2 ^ j = z → (v % 2 ≠ 0 ∨ z ≠ 0 ↔ v % 2 + 2 * z ≠ 0) := by intro z _; omega
  rw [e]; exact hz _ rfl
theorem ref_shift_l1 (j : Nat) : ∀ (v k : Nat) (b : Bool), v < 18446744073709551616 → j ≤ 64 →
    annealref1_Shift.l1 (j + 1 + k) (v : Int) (-(j : Int)) b = some (((v * 2 ^ j % 18446744073709551616 : Nat) : Int), b || decide (18446744073709551616 ≤ v * 2 ^ j)) := by
  induction j with
  | zero =>
    intro v k b hv _
    rw [show 0 + 1 + k = k + 1 by omega, annealref1_Shift.l1, if_neg (by decide), Nat.pow_zero, Nat.mul_one, Nat.mod_eq_of_lt hv, decide_eq_false (by omega), Bool.or_false]
  | succ j ih =>
    intro v k b hv hj
    have e1 : wrap64 (-((j + 1 : Nat) : Int) + 1) = -(j : Int) := by rw [w64_id] <;> omega
    have e2 : IntKind.u64.wrap ((v : Int) * 2) = ((v * 2 % 18446744073709551616 : Nat) : Int) := by rw [show (v : Int) * 2 = ((v * 2 : Nat) : Int) by omega, u64_nat]
    have e3 : (((v : Int) / 9223372036854775808 == 1) : Bool) = decide (9223372036854775808 ≤ v) := by
      by_cases h : 9223372036854775808 ≤ v
      · rw [decide_eq_true h, beq_iff_eq]; omega
      · rw [decide_eq_false h, beq_eq_false_iff_ne]; omega
    have e4 : v * 2 % 18446744073709551616 * 2 ^ j % 18446744073709551616 = v * 2 ^ (j + 1) % 18446744073709551616 := by
      rw [Nat.mod_mul_mod, Nat.mul_assoc, ← Nat.pow_succ']
    have e5 : ∀ b : Bool, ((b || decide (9223372036854775808 ≤ v)) || decide (18446744073709551616 ≤ v * 2 % 18446744073709551616 * 2 ^ j)) = (b || decide (18446744073709551616 ≤ v * 2 ^ (j + 1))) := by
      intro b
      rw [Bool.or_assoc, ← Bool.decide_or]
      congr 2
      apply propext
      rw [show v * 2 ^ (j + 1) = v * 2 * 2 ^ j by rw [Nat.mul_assoc, ← Nat.pow_succ']]
      have hp := Nat.two_pow_pos j
      constructor
      · rintro (h | h)
        · calc 18446744073709551616 ≤ v * 2 * 1 := by omega
            _ ≤ v * 2 * 2 ^ j := Nat.mul_le_mul_left _ hp
        · exact Nat.le_trans h (Nat.mul_le_mul_right _ (Nat.mod_le _ _))
      · intro h
        by_cases h' : 9223372036854775808 ≤ v
        · exact .inl h'
        · right; rw [Nat.mod_eq_of_lt (by omega)]; exact h
    rw [show j + 1 + 1 + k = (j + 1 + k) + 1 by omega, annealref1_Shift.l1, if_pos (by omega), e1, e2, e3]
    by_cases hb : b = true
    · subst hb
      rw [if_pos rfl, ih _ k true (Nat.mod_lt _ (by decide)) (by omega), e4]
      simp only [Bool.true_or]
    · rw [if_neg hb, ih _ k _ (Nat.mod_lt _ (by decide)) (by omega), e4]
      have : b = false := by simpa using hb
      subst this
      have := e5 false
      simp only [Bool.false_or] at this ⊢
      rw [this]
theorem ref_shift_l0 (j : Nat) : ∀ (v k : Nat) (b : Bool), v < 18446744073709551616 → j ≤ 64 →
    annealref1_Shift.l0 (j + 2 + k) (v : Int) (j : Int) b = some (((v / 2 ^ j : Nat) : Int), b || decide (v % 2 ^ j ≠ 0)) := by
  induction j with
  | zero =>
    intro v k b hv _
    have h := ref_shift_l1 0 v k b hv (by decide)
    rw [show 0 + 2 + k = (0 + 1 + k) + 1 by omega, annealref1_Shift.l0, if_neg (by decide), show ((0 : Nat) : Int) = -((0 : Nat) : Int) by rfl, h]
    simp [Nat.mod_one]; omega
  | succ j ih =>
    intro v k b hv hj
    have e1 : wrap64 (((j + 1 : Nat) : Int) - 1) = (j : Int) := by rw [w64_id] <;> omega
    have e3 : ((Go.bits .and .u64 (v : Int) 1 == 1) : Bool) = decide (v % 2 ≠ 0) := by
      rw [and1_u64 v hv]
      by_cases h : v % 2 ≠ 0
      · rw [decide_eq_true h, beq_iff_eq]; omega
      · rw [decide_eq_false h, beq_eq_false_iff_ne]; omega
    rw [show j + 1 + 2 + k = (j + 2 + k) + 1 by omega, annealref1_Shift.l0, if_pos (by omega), e1, e3, show (v : Int) / 2 = ((v / 2 : Nat) : Int) by omega]
    have o := out_right v j
    by_cases hb : b = true
    · subst hb
      rw [if_pos rfl, ih _ k true (by omega) (by omega), half_pow]
      simp only [Bool.true_or]
    · rw [if_neg hb, ih _ k _ (by omega) (by omega), half_pow, o]
      have : b = false := by simpa using hb
      subst this
      rfl
theorem ref_shift_ev (v : Nat) (hv : v < 18446744073709551616) (n : Int) :
    Ev (fun k => annealref1_Shift.f k (v : Int) n) ((((shiftN v n).1 : Nat) : Int), (shiftN v n).2) := by
  refine Ev.of (annealref1_Shift.mono _ _) (k := 67) ?_
  unfold annealref1_Shift.f
  by_cases c : 0 ≤ n
  · obtain ⟨m, rfl⟩ := nat_of c
    have e : mn (mx (m : Int) (-64)) 64 = ((min m 64 : Nat) : Int) := by unfold mn mx; split <;> split <;> omega
    have h := ref_shift_l0 (min m 64) v (65 - min m 64) false hv (by omega)
    rw [show min m 64 + 2 + (65 - min m 64) = 67 by omega] at h
    rw [e, h, shiftN_right]
    by_cases c' : m ≤ 64
    · rw [Nat.min_eq_left c']; rfl
    · have b1 := pow_big (show 64 ≤ m by omega)
      rw [Nat.min_eq_right (by omega), Nat.div_eq_of_lt (show v < 2 ^ 64 by omega), Nat.mod_eq_of_lt (show v < 2 ^ 64 by omega), Nat.div_eq_of_lt (show v < 2 ^ m by omega), Nat.mod_eq_of_lt (show v < 2 ^ m by omega)]; rfl
  · obtain ⟨m, hm⟩ := nat_of (show 0 ≤ -n by omega)
    obtain rfl : n = -(m : Int) := by omega
    have e : mn (mx (-(m : Int)) (-64)) 64 = -((min m 64 : Nat) : Int) := by unfold mn mx; split <;> split <;> omega
    have h := ref_shift_l1 (min m 64) v (65 - min m 64) false hv (by omega)
    rw [show min m 64 + 1 + (65 - min m 64) = 66 by omega] at h
    rw [e, annealref1_Shift.l0, if_neg (by omega), h, shiftN_left _ _ hv]
    by_cases c' : m ≤ 64
    · rw [Nat.min_eq_left c']; rfl
    · rw [Nat.min_eq_right (by omega)]
      have b1 := pow_big (show 64 ≤ m by omega)
      have e : (2 : Nat) ^ m = 18446744073709551616 * 2 ^ (m - 64) := by rw [show 18446744073709551616 = 2 ^ 64 from rfl, ← Nat.pow_add]; congr 1; omega
      have e1 : v * 2 ^ m % 18446744073709551616 = 0 := by rw [e, ← Nat.mul_assoc, Nat.mul_comm v, Nat.mul_assoc, Nat.mul_mod_right]
      rw [e1, show v * 2 ^ 64 % 18446744073709551616 = 0 by omega, Bool.false_or]
      congr 2
      apply decide_eq_decide.mpr
      constructor
      · intro h1
        have : v ≠ 0 := by intro h0; subst h0; omega
        exact Nat.le_trans b1 (Nat.le_mul_of_pos_left _ (by omega))
      · intro h1
        have : v ≠ 0 := by intro h0; subst h0; omega
        omega
end Go.Proofs.Ytngkpekmgahjiaa.BitsF

/- What the reference's rounding computes: the same plain numbers. -/
namespace Go.Proofs.Ytngkpekmgahjiaa.Round
open Go.RowKit Go.Proofs.Ytngkpekmgahjiaa.P Go.Proofs.Ytngkpekmgahjiaa.Num Go.Proofs.Ytngkpekmgahjiaa.BitsF Go.Proofs.Ytngkpekmgahjiaa.Fmt Go.Proofs.YtngkpekmgahjiaaW.PrintWords Go.Proofs.YtngkpekmgahjiaaW.PrintLast Go.Proofs.YtngkpekmgahjiaaW.PrintMore

theorem ref_greatest_f (f : Int) (neg : Bool) : annealref1_Greatest.f f neg = some (greatN f neg : Int) := by
  unfold annealref1_Greatest.f greatN
  obtain ⟨hi, _⟩ := inf_lt f neg
  have ht := top_cases f
  have hp := Nat.two_pow_pos (fm f)
  have : 0 < topN f * 2 ^ fm f := Nat.mul_pos (by omega) hp
  rw [ref_inf_f]; simp only [Option.bind_some]
  unfold infN at *
  congr 1; omega
theorem ref_divide_f (s : Nat) (hs : s < 18446744073709551616) (d : Int) (h1 : -100000 ≤ d) (h2 : d ≤ 100000) (hq : d ≤ 0 → s * 2 ^ (-d).toNat < 18446744073709551616) :
    Ev (fun k => annealref1_divide.f k (s : Int) d) ((quoN s d : Int), decide (2 ≤ leftN s d false), decide (leftN s d false = 1 ∨ leftN s d false = 3)) := by
  unfold annealref1_divide.f
  by_cases c : d ≤ 0
  · obtain ⟨m, hm⟩ := nat_of (show 0 ≤ -d by omega)
    have e : mn (wrap64 (-d)) 63 = ((min m 63 : Nat) : Int) := by rw [w64_id _ (by omega) (by omega), hm]; unfold mn; split <;> omega
    simp only [if_pos c, e, if_pos (show 0 ≤ ((min m 63 : Nat) : Int) by omega), left_none false (.inl c)]
    have hq' := hq c
    rw [hm, Int.toNat_natCast] at hq'
    have e2 : IntKind.u64.wrap ((s : Int) * 2 ^ ((min m 63 : Nat) : Int).toNat) = (quoN s d : Int) := by
      rw [Int.toNat_natCast, show (s : Int) * 2 ^ (min m 63) = ((s * 2 ^ (min m 63) : Nat) : Int) by simp, u64_nat]
      unfold quoN; rw [if_pos c, hm, Int.toNat_natCast]
      by_cases z : s = 0
      · subst z; simp
      · have : m ≤ 63 := by
          rcases Nat.lt_or_ge 63 m with h | h
          · have := pow_big (show 64 ≤ m by omega)
            have : 2 ^ m ≤ s * 2 ^ m := Nat.le_mul_of_pos_left _ (by omega)
            omega
          · exact h
        rw [Nat.min_eq_left this, Nat.mod_eq_of_lt hq']
    rw [e2]
    exact Ev.now _
  · obtain ⟨m, rfl⟩ := nat_of (show 0 ≤ d by omega)
    have hqe : quoN s (m : Int) = s / 2 ^ m := by unfold quoN; rw [if_neg c, Int.toNat_natCast]
    rw [hqe]
    simp only [if_neg c]
    by_cases c' : (m : Int) > 64
    · simp only [if_pos c']
      have hb := pow_big (show 64 ≤ m - 1 by omega)
      have hb2 := pow_big (show 64 ≤ m by omega)
      have hl : leftN s (m : Int) false = if s = 0 then 0 else 1 := by
        by_cases z : s = 0
        · subst z; rw [left_none _ (.inr (by simp))]; rfl
        · rw [left_some _ c (by rw [Int.toNat_natCast, Nat.mod_eq_of_lt (by omega)]; exact z), Int.toNat_natCast, Nat.div_eq_of_lt (show s < 2 ^ (m - 1) by omega), if_neg z]; rfl
      rw [Nat.div_eq_of_lt (show s < 2 ^ m by omega), hl, show (0 : Int) = ((0 : Nat) : Int) from rfl, bne_cast]
      by_cases z : s = 0
      · subst z; exact Ev.now _
      · rw [if_neg z, decide_eq_true z]; exact Ev.now _
    · have e : wrap64 ((m : Int) - 1) = ((m - 1 : Nat) : Int) := by rw [w64_id] <;> omega
      simp only [if_neg c', e]
      have hd : s / 2 ^ (m - 1) < 18446744073709551616 := Nat.lt_of_le_of_lt (Nat.div_le_self _ _) hs
      have s1 := ref_shift_ev s hs (m : Int)
      have s2 := ref_shift_ev s hs ((m - 1 : Nat) : Int)
      rw [shiftN_right] at s1 s2
      refine Ev.bind s1 (Ev.bind s2 (Ev.bind s2 ?_))
      rw [and1_u64 _ hd]
      have em : s % 2 ^ m = s % 2 ^ (m - 1) + 2 ^ (m - 1) * (s / 2 ^ (m - 1) % 2) := by
        rw [show m = m - 1 + 1 by omega, Nat.pow_succ, Nat.mod_mul, Nat.add_sub_cancel]
      have hb1 : (((s / 2 ^ (m - 1) % 2 : Nat) : Int) == 1) = decide (2 ≤ leftN s (m : Int) false) ∧ decide (s % 2 ^ (m - 1) ≠ 0) = decide (leftN s (m : Int) false = 1 ∨ leftN s (m : Int) false = 3) := by
        have hp := Nat.two_pow_pos (m - 1)
        by_cases z : s % 2 ^ m = 0
        · rw [left_none _ (.inr (by rw [Int.toNat_natCast]; exact z))]
          rw [z] at em
          have z1 : s % 2 ^ (m - 1) = 0 := by omega
          have z2 : s / 2 ^ (m - 1) % 2 = 0 := by
            have : 2 ^ (m - 1) * (s / 2 ^ (m - 1) % 2) = 0 := by omega
            rcases Nat.mul_eq_zero.mp this with h | h
            · omega
            · exact h
          rw [z1, z2]; exact ⟨rfl, rfl⟩
        · rw [left_some _ c (by rw [Int.toNat_natCast]; exact z), Int.toNat_natCast]
          have hb : s / 2 ^ (m - 1) % 2 = 0 ∨ s / 2 ^ (m - 1) % 2 = 1 := by omega
          rcases hb with hb | hb
          · rw [hb, Nat.mul_zero, Nat.add_zero] at em
            rw [em] at z
            rw [hb, decide_eq_true z]; exact ⟨rfl, rfl⟩
          · rw [hb, if_neg (by decide)]
            by_cases w : s % 2 ^ (m - 1) = 0
            · rw [w]; exact ⟨rfl, rfl⟩
            · rw [if_pos (.inl w), decide_eq_true w]; exact ⟨rfl, rfl⟩
      simp only [hb1.1, hb1.2]
      exact Ev.now _
theorem left_more (s : Nat) (d : Int) : decide (2 ≤ leftN s d true) = decide (2 ≤ leftN s d false) ∧ (leftN s d true = 1 ∨ leftN s d true = 3) := by
  by_cases c : d ≤ 0 ∨ s % 2 ^ d.toNat = 0
  · rw [left_none _ c, left_none _ c]; simp
  · have c' := not_or.mp c
    rw [left_some _ c'.1 c'.2, left_some _ c'.1 c'.2]
    split
    · simp
    · simp; split <;> simp
theorem ref_up_f (mode : Int) (neg : Bool) (q left : Nat) (h : left ≤ 3) : annealref1_up.f mode neg (decide (q % 2 = 1)) (decide (2 ≤ left)) (decide (left = 1 ∨ left = 3)) = some (upN mode neg q left) := by
  unfold annealref1_up.f upN
  have hl : left = 0 ∨ left = 1 ∨ left = 2 ∨ left = 3 := by omega
  by_cases m1 : mode = 1
  · rw [if_pos m1, if_pos m1]
  · rw [if_neg m1, if_neg m1]
    by_cases m2 : mode = 2
    · rw [if_pos m2, if_pos m2]; rcases hl with rfl | rfl | rfl | rfl <;> cases neg <;> rfl
    · rw [if_neg m2, if_neg m2]
      by_cases m3 : mode = 3
      · rw [if_pos m3, if_pos m3]; rcases hl with rfl | rfl | rfl | rfl <;> cases neg <;> rfl
      · rw [if_neg m3, if_neg m3]
        by_cases m4 : mode = 4
        · rw [if_pos m4, if_pos m4]
        · rw [if_neg m4, if_neg m4]
          rcases hl with rfl | rfl | rfl | rfl <;> simp
theorem ref_over_f (k : Nat) (f mode : Int) (neg : Bool) : annealref1_over.f (k + 1) f mode neg = some (((if endless mode neg then infN f neg else greatN f neg : Nat) : Int)) := by
  unfold annealref1_over.f endless
  simp only [annealref1_over.j0, ref_greatest_f, ref_inf_f, Option.bind_some]
  by_cases m1 : mode = 1
  · rw [if_pos m1, if_pos m1]; rfl
  · rw [if_neg m1, if_neg m1]
    by_cases m2 : mode = 2
    · rw [if_pos m2, if_pos m2]; subst m2; cases neg <;> rfl
    · rw [if_neg m2, if_neg m2]
      by_cases m3 : mode = 3
      · rw [if_pos m3, if_pos m3]; cases neg <;> rfl
      · rw [if_neg m3, if_neg m3]; rfl
end Go.Proofs.Ytngkpekmgahjiaa.Round

/- The reference's rounding computes the same numbers as the program's. -/
namespace Go.Proofs.Ytngkpekmgahjiaa.Round
open Go.RowKit Go.Proofs.Ytngkpekmgahjiaa.P Go.Proofs.Ytngkpekmgahjiaa.Num Go.Proofs.Ytngkpekmgahjiaa.BitsF Go.Proofs.Ytngkpekmgahjiaa.Fmt Go.Proofs.YtngkpekmgahjiaaW.PrintWords Go.Proofs.YtngkpekmgahjiaaW.PrintLast Go.Proofs.YtngkpekmgahjiaaW.PrintMore

/-- A sign beside an amount. -/
theorem sign_or (f : Int) (neg : Bool) (v : Nat) (h : v < 2 ^ (fe f + fm f)) : Go.bits .or .u32 (signN f neg : Int) (v : Int) = ((v + signN f neg : Nat) : Int) ∧ v + signN f neg < 4294967296 := by
  obtain ⟨b1, b2, b3, b4, b5⟩ := fbounds f
  have h31 := pow_le31 b5
  unfold signN
  cases neg
  · simp only [Bool.false_eq_true, if_false]
    rw [or_u32 _ _ (by omega) (by omega), Nat.zero_or, Nat.add_zero]; exact ⟨rfl, by omega⟩
  · simp only [if_true]
    rw [or_u32 _ _ (by omega) (by omega), or_add _ _ (fe f + fm f) (by simp) h, Nat.add_comm]; exact ⟨rfl, by omega⟩
theorem ref_pack_j5 (k : Nat) (f mode : Int) (neg : Bool) (q U : Nat) (hU : U ≤ 10300) (hq : q < 2 ^ (fm f + 1)) (hq' : U ≠ 0 → 2 ^ fm f ≤ q) (K : Nat) (hK : K = U * 2 ^ fm f + q) (c0 c1 c2 c3 c4 : Bool) :
    annealref1_Pack.j5 (k + 2) f mode neg (fm f : Int) (leastN f - fm f + U) (q : Int) c0 c1 c2 c3 c4 = some
      ((((if overN f K then (if endless mode neg then topN f * 2 ^ fm f else topN f * 2 ^ fm f - 1) else K) + signN f neg : Nat) : Int),
        if overN f K then (false, false, true, false, true) else (c0, c1, c2, c3, c4)) ∧
    annealref1_Pack.j6 (k + 2) f mode neg (fm f : Int) (leastN f - fm f + U) (q : Int) c0 c1 c2 c3 c4 = some
      ((((if overN f K then (if endless mode neg then topN f * 2 ^ fm f else topN f * 2 ^ fm f - 1) else K) + signN f neg : Nat) : Int),
        if overN f K then (false, false, true, false, true) else (c0, c1, c2, c3, c4)) := by
  obtain ⟨b1, b2, b3, b4, b5⟩ := fbounds f
  have hl := least_cases f
  have hp := Nat.two_pow_pos (fm f)
  have hpe := Nat.two_pow_pos (fe f)
  have h31 := pow_le31 (show fm f + 1 ≤ 31 by omega)
  have h8 := pow_le31 (show fe f ≤ 31 by omega)
  have hsucc : 2 ^ (fm f + 1) = 2 * 2 ^ fm f := by rw [Nat.pow_succ, Nat.mul_comm]
  have ht := top_cases f
  obtain ⟨_, hte⟩ := inf_lt f neg
  have e1 : shl .u64 1 (fm f : Int) = ((2 ^ fm f : Nat) : Int) := by rw [show (1 : Int) = ((1 : Nat) : Int) from rfl, shl_u64, Nat.one_mul, Nat.mod_eq_of_lt (by omega)]
  have e2 : wrap64 (wrap64 (leastN f - (fm f : Int) + (U : Int) + (fm f : Int)) + (1 - leastN f)) = ((U + 1 : Nat) : Int) := by
    rw [w64_id (leastN f - (fm f : Int) + (U : Int) + (fm f : Int)) (by omega) (by omega), w64_id _ (by omega) (by omega)]; omega
  have e3 : wrap64 (shl .i64 1 (fe f : Int) - 1) = ((topN f : Nat) : Int) := by
    rw [one_shl_i64 _ (by omega), w64_id _ (by omega) (by omega)]; unfold topN; omega
  rw [annealref1_Pack.j5, annealref1_Pack.j6, if_pos (by omega), e1, ref_bias_f, ref_widths_f, ref_sign_f]
  simp only [Option.bind_some]
  rw [if_pos (show (0 : Int) ≤ (fe f : Int) by omega), e2, e3, ref_over_f]
  simp only [Option.bind_some]
  by_cases c : q < 2 ^ fm f
  · have hU0 : U = 0 := by
      rcases Nat.eq_zero_or_pos U with h | h
      · exact h
      · have := hq' (by omega); omega
    have ho : overN f K = false := by
      unfold overN
      rw [decide_eq_false_iff_not, hK, hU0]
      have : 1 * 2 ^ fm f ≤ topN f * 2 ^ fm f := Nat.mul_le_mul_right _ (by omega)
      omega
    obtain ⟨s1, s2⟩ := sign_or f neg q (by omega)
    rw [if_pos (show (q : Int) < ((2 ^ fm f : Nat) : Int) by omega), show (q : Int) % 4294967296 = (q : Int) by omega, s1, ho, hK, hU0]
    simp
  · rw [if_neg (show ¬ (q : Int) < ((2 ^ fm f : Nat) : Int) by omega)]
    have ho : ((U + 1 : Nat) : Int) ≥ (topN f : Int) ↔ overN f K = true := by
      unfold overN
      rw [decide_eq_true_iff, hK]
      constructor
      · intro h
        have : topN f * 2 ^ fm f ≤ (U + 1) * 2 ^ fm f := Nat.mul_le_mul_right _ (by omega)
        rw [Nat.add_mul, Nat.one_mul] at this; omega
      · intro h
        rcases Nat.lt_or_ge (U + 1) (topN f) with d | d
        · have : (U + 1 + 1) * 2 ^ fm f ≤ topN f * 2 ^ fm f := Nat.mul_le_mul_right _ d
          rw [Nat.add_mul, Nat.add_mul, Nat.one_mul] at this; omega
        · omega
    by_cases c' : ((U + 1 : Nat) : Int) ≥ (topN f : Int)
    · rw [if_pos c', ho.mp c']
      simp only [if_true]
      have : (if endless mode neg then infN f neg else greatN f neg) = (if endless mode neg then topN f * 2 ^ fm f else topN f * 2 ^ fm f - 1) + signN f neg := by
        unfold infN greatN; split <;> rfl
      rw [this]
      exact ⟨rfl, rfl⟩
    · rw [if_neg c']
      have co : overN f K = false := by simpa using fun h => c' (ho.mpr h)
      have hmul : (U + 1) * 2 ^ fm f + 2 ^ fm f ≤ 2 ^ (fe f + fm f) := by
        have : (U + 1) * 2 ^ fm f ≤ topN f * 2 ^ fm f := Nat.mul_le_mul_right _ (by omega)
        omega
      have h32 := pow_le31 b5
      have hm1 : q % 2 ^ fm f = q - 2 ^ fm f := by
        have h1 : q / 2 ^ fm f = 1 := Nat.div_eq_of_lt_le (by omega) (by omega)
        have := Nat.div_add_mod q (2 ^ fm f)
        rw [h1, Nat.mul_one] at this; omega
      have e4 : shl .u32 (((U + 1 : Nat) : Int) % 4294967296) (fm f : Int) = (((U + 1) * 2 ^ fm f : Nat) : Int) := by
        rw [show ((U + 1 : Nat) : Int) % 4294967296 = ((U + 1 : Nat) : Int) by omega, shl_u32, Nat.mod_eq_of_lt (by omega)]
      have e5 : Go.bits .and .u64 (q : Int) (IntKind.u64.wrap (((2 ^ fm f : Nat) : Int) - 1)) % 4294967296 = ((q % 2 ^ fm f : Nat) : Int) := by
        rw [show ((2 ^ fm f : Nat) : Int) - 1 = ((2 ^ fm f - 1 : Nat) : Int) by omega, u64_id _ (by omega), mask_u64 _ _ (by omega) (by omega)]
        have := Nat.mod_lt q hp; omega
      have hKe : K + signN f neg = (U + 1) * 2 ^ fm f + signN f neg + q % 2 ^ fm f := by
        rw [hK, hm1, Nat.add_mul]; omega
      obtain ⟨s1, s2⟩ := sign_or f neg ((U + 1) * 2 ^ fm f) (by omega)
      have hq2 : q % 2 ^ fm f < 2 ^ fm f := Nat.mod_lt _ hp
      have e6 : Go.bits .or .u32 (((U + 1) * 2 ^ fm f + signN f neg : Nat) : Int) ((q % 2 ^ fm f : Nat) : Int) = (((U + 1) * 2 ^ fm f + signN f neg + q % 2 ^ fm f : Nat) : Int) := by
        rw [or_u32 _ _ s2 (by omega), or_add _ _ (fm f) ?_ hq2]
        unfold signN
        cases neg
        · simp
        · simp only [if_true]
          rw [Nat.pow_add, ← Nat.add_mul, Nat.mul_mod_left]
      rw [e4, s1, e5, e6, co]
      simp only [Bool.false_eq_true, if_false, hKe]
      exact ⟨trivial, trivial⟩
theorem step_ew (f : Int) : wrap64 ((fm f : Int) + 1) = ((fm f + 1 : Nat) : Int) := by
  obtain ⟨b1, b2, b3, b4, b5⟩ := fbounds f
  rw [w64_id] <;> omega
theorem step_es (f : Int) : shl .u64 1 ((fm f + 1 : Nat) : Int) = ((2 ^ (fm f + 1) : Nat) : Int) := by
  obtain ⟨b1, b2, b3, b4, b5⟩ := fbounds f
  have h31 := pow_le31 (show fm f + 1 ≤ 31 by omega)
  rw [show (1 : Int) = ((1 : Nat) : Int) from rfl, shl_u64, Nat.one_mul, Nat.mod_eq_of_lt (by omega)]
theorem step_e8 (f : Int) (U : Nat) (h : U ≤ 10200) : wrap64 (leastN f - (fm f : Int) + (U : Int) + 1) = leastN f - (fm f : Int) + ((U + 1 : Nat) : Int) := by
  obtain ⟨b1, b2, b3, b4, b5⟩ := fbounds f
  have hl := least_cases f
  rw [w64_id] <;> omega
theorem step_e9 (f : Int) : (((2 ^ (fm f + 1) : Nat) : Int)) / 2 = ((2 ^ fm f : Nat) : Int) := by
  have hsucc : 2 ^ (fm f + 1) = 2 * 2 ^ fm f := by rw [Nat.pow_succ, Nat.mul_comm]
  omega
theorem step_lt (f : Int) : 2 ^ fm f < 2 ^ (fm f + 1) := Nat.pow_lt_pow_right (by decide) (Nat.lt_succ_self _)
theorem step_key (U m q : Nat) (h : q = 2 * m) : (U + 1) * m + m = U * m + q := by rw [Nat.add_mul]; omega
theorem step_q {a b : Nat} (h : a ≤ b) (h' : ¬ a = b) : a < b := by omega
theorem step_i {a b : Nat} (h' : ¬ a = b) : ¬ ((a : Int) = (b : Int)) := by omega
theorem step_n {m : Nat} : (0 : Int) ≤ (m : Int) := by omega
theorem ref_pack_ev (f mode : Int) (neg : Bool) (x : Int) (s : Nat) (more : Bool) (hs : s < 18446744073709551616) :
    Ev (fun k => annealref1_Pack.f k f mode neg x (s : Int) more) ((packN f mode neg (clampE x) s more : Int), false, false, excN f mode neg (clampE x) s more) := by
  unfold annealref1_Pack.f
  have hc : mn (mx x (-10000)) 10000 = clampE x := rfl
  obtain ⟨h1, h2⟩ := clampE_bounds x
  rw [hc]
  generalize clampE x = x at *
  have hll := left_le s (unitN f x s - x) more
  by_cases z : s = 0 ∧ more = false
  · obtain ⟨rfl, rfl⟩ := z
    simp only [if_pos (show ((0 : Nat) : Int) = 0 from rfl)]
    refine Ev.step (fun k => by rw [annealref1_Pack.j0]) ?_
    simp only [Bool.not_false, if_true, ref_zero_f, Option.bind_some]
    have h := pack_f 0 f mode neg x 0 false (by decide)
    rw [clampE_id x h1 h2] at h
    unfold round_Pack.f at h
    rw [if_pos (by rfl), show mn (mx x (-10000)) 10000 = x from clampE_id x h1 h2, round_Pack.j0] at h
    simp only [Bool.not_false, if_true, zero_f, Option.bind_some] at h
    rw [← Option.some.inj h]
    exact Ev.now _
  · have hj : ∀ k, (if (s : Int) = 0 then annealref1_Pack.j0 k f mode neg x (s : Int) more (!more) else annealref1_Pack.j0 k f mode neg x (s : Int) more false) = annealref1_Pack.j0 k f mode neg x (s : Int) more false := by
      intro k
      by_cases c : (s : Int) = 0
      · rw [if_pos c]
        cases more
        · exact absurd ⟨by omega, rfl⟩ z
        · rfl
      · rw [if_neg c]
    refine Ev.congr hj ?_
    obtain ⟨u1, u2, u3⟩ := unit_bounds f x s hs h1 h2
    obtain ⟨q1, q2⟩ := quo_bounds f x s
    obtain ⟨b1, b2, b3, b4, b5⟩ := fbounds f
    have hl := least_cases f
    have hn := lenN_small s hs
    have h31 := pow_le31 (show fm f + 1 ≤ 31 by omega)
    have hp := Nat.two_pow_pos (fm f)
    have hsucc : 2 ^ (fm f + 1) = 2 * 2 ^ fm f := by rw [Nat.pow_succ, Nat.mul_comm]
    have hq64 : quoN s (unitN f x s - x) < 18446744073709551616 := by omega
    have hd : unitN f x s - x ≤ 0 → s * 2 ^ (-(unitN f x s - x)).toNat < 18446744073709551616 := by
      intro h; have := hq64; unfold quoN at this; rw [if_pos h] at this; exact this
    -- the exponent that the reference takes
    have hE : ∃ e : Int, (∀ k, (if (s : Int) = 0 then annealref1_Pack.j1 k f mode neg x (s : Int) more (fm f : Int) (leastN f) (-20000) else annealref1_Pack.j1 k f mode neg x (s : Int) more (fm f : Int) (leastN f) (wrap64 (wrap64 (x + (lenN s : Int)) - 1))) = annealref1_Pack.j1 k f mode neg x (s : Int) more (fm f : Int) (leastN f) e) ∧ wrap64 (mx e (leastN f) - (fm f : Int)) = unitN f x s ∧ (decide (e < leastN f) = (decide (s = 0) || decide (x + lenN s - 1 < leastN f))) := by
      by_cases c : s = 0
      · subst c
        refine ⟨-20000, fun k => by rw [if_pos (show ((0 : Nat) : Int) = 0 from rfl)], ?_, ?_⟩
        · have : riseN f x 0 = 0 := by unfold riseN; rw [if_pos rfl]
          have hm : mx (-20000) (leastN f) = leastN f := by unfold mx; split <;> omega
          rw [hm]
          unfold unitN; rw [this, w64_id _ (by omega) (by omega)]; omega
        · rw [decide_eq_true (by omega)]; simp
      · have e1 : wrap64 (wrap64 (x + (lenN s : Int)) - 1) = x + lenN s - 1 := by
          rw [w64_id (x + _) (by omega) (by omega), w64_id _ (by omega) (by omega)]
        refine ⟨x + lenN s - 1, fun k => by rw [if_neg (by omega), e1], ?_, ?_⟩
        · have hr : riseN f x s = (x + lenN s - 1 - leastN f).toNat := by unfold riseN; rw [if_neg c]
          unfold unitN mx
          split
          · rw [w64_id _ (by omega) (by omega)]; omega
          · rw [w64_id _ (by omega) (by omega)]; omega
        · rw [decide_eq_false c, Bool.false_or]
    obtain ⟨e, he1, he2, he3⟩ := hE
    refine Ev.step (fun k => by rw [annealref1_Pack.j0]) ?_
    simp only [Bool.false_eq_true, if_false, ref_widths_f, ref_bias_f, Option.bind_some]
    refine Ev.bind (ref_len_ev s hs) ?_
    rw [show (1 : Int) - (1 - leastN f) = leastN f by omega, w64_id (leastN f) (by omega) (by omega)]
    refine Ev.congr he1 ?_
    refine Ev.step (fun k => by rw [annealref1_Pack.j1]) ?_
    rw [he2, w64_id (unitN f x s - x) (by omega) (by omega)]
    refine Ev.bind (ref_divide_f s hs _ (by omega) (by omega) hd) ?_
    -- what is left, with the little more
    have hlm : leftN s (unitN f x s - x) false ≤ 3 := left_le s _ false
    have hcol : ∀ k (r : Option (Int × Bool × Bool × Bool × Bool × Bool)), annealref1_Pack.j2 k f mode neg (fm f : Int) (leastN f) e (unitN f x s) (quoN s (unitN f x s - x) : Int) (decide (2 ≤ leftN s (unitN f x s - x) more)) (decide (leftN s (unitN f x s - x) more = 1 ∨ leftN s (unitN f x s - x) more = 3)) = r →
        (if decide (leftN s (unitN f x s - x) false = 1 ∨ leftN s (unitN f x s - x) false = 3) = true then annealref1_Pack.j2 k f mode neg (fm f : Int) (leastN f) e (unitN f x s) (quoN s (unitN f x s - x) : Int) (decide (2 ≤ leftN s (unitN f x s - x) false)) true else annealref1_Pack.j2 k f mode neg (fm f : Int) (leastN f) e (unitN f x s) (quoN s (unitN f x s - x) : Int) (decide (2 ≤ leftN s (unitN f x s - x) false)) more) = r := by
      intro k r h
      cases more
      · by_cases c : leftN s (unitN f x s - x) false = 1 ∨ leftN s (unitN f x s - x) false = 3
        · rw [decide_eq_true c] at h ⊢; rw [if_pos rfl]; exact h
        · rw [decide_eq_false c] at h ⊢; rw [if_neg (by decide)]; exact h
      · obtain ⟨m1, m2⟩ := left_more s (unitN f x s - x)
        rw [decide_eq_true m2, m1] at h
        split <;> exact h
    refine Ev.congr (fun k => hcol k _ rfl) ?_
    generalize hL : leftN s (unitN f x s - x) more = L at *
    refine Ev.step (fun k => by rw [annealref1_Pack.j2]) ?_
    have hinx : decide (L ≠ 0) = inexN f x s more := by unfold inexN; rw [hL]
    have h2 : ∀ k, (if decide (2 ≤ L) = true then annealref1_Pack.j3 k f mode neg (fm f : Int) (leastN f) e (unitN f x s) (quoN s (unitN f x s - x) : Int) (decide (2 ≤ L)) (decide (L = 1 ∨ L = 3)) true else annealref1_Pack.j3 k f mode neg (fm f : Int) (leastN f) e (unitN f x s) (quoN s (unitN f x s - x) : Int) (decide (2 ≤ L)) (decide (L = 1 ∨ L = 3)) (decide (L = 1 ∨ L = 3))) = annealref1_Pack.j3 k f mode neg (fm f : Int) (leastN f) e (unitN f x s) (quoN s (unitN f x s - x) : Int) (decide (2 ≤ L)) (decide (L = 1 ∨ L = 3)) (inexN f x s more) := by
      intro k
      rw [← hinx]
      have : L = 0 ∨ L = 1 ∨ L = 2 ∨ L = 3 := by omega
      rcases this with h | h | h | h <;> subst h <;> rfl
    refine Ev.congr h2 ?_
    refine Ev.step (fun k => by rw [annealref1_Pack.j3]) ?_
    have hodd : ((Go.bits .and .u64 (quoN s (unitN f x s - x) : Int) 1 == 1) : Bool) = decide (quoN s (unitN f x s - x) % 2 = 1) := by
      rw [and1_u64 _ hq64, show (1 : Int) = ((1 : Nat) : Int) from rfl, beq_nn]
    simp only [hodd, ref_up_f mode neg _ L hll, Option.bind_some]
    -- the unit above
    have hK : keyN f mode neg x s more = riseN f x s * 2 ^ fm f + (quoN s (unitN f x s - x) + (if upN mode neg (quoN s (unitN f x s - x)) L then 1 else 0)) := by
      unfold keyN; rw [hL, Nat.add_assoc]
    have h3 : ∀ k, (if upN mode neg (quoN s (unitN f x s - x)) L = true then annealref1_Pack.j4 k f mode neg (fm f : Int) (leastN f) e (unitN f x s) (IntKind.u64.wrap ((quoN s (unitN f x s - x) : Int) + 1)) (inexN f x s more) else annealref1_Pack.j4 k f mode neg (fm f : Int) (leastN f) e (unitN f x s) (quoN s (unitN f x s - x) : Int) (inexN f x s more)) = annealref1_Pack.j4 k f mode neg (fm f : Int) (leastN f) e (unitN f x s) ((quoN s (unitN f x s - x) + (if upN mode neg (quoN s (unitN f x s - x)) L then 1 else 0) : Nat) : Int) (inexN f x s more) := by
      intro k
      by_cases c : upN mode neg (quoN s (unitN f x s - x)) L = true
      · rw [if_pos c, if_pos c, show (quoN s (unitN f x s - x) : Int) + 1 = ((quoN s (unitN f x s - x) + 1 : Nat) : Int) by omega, u64_id _ (by omega)]
      · rw [if_neg c, if_neg c, Nat.add_zero]
    refine Ev.congr h3 ?_
    have hqn : quoN s (unitN f x s - x) + (if upN mode neg (quoN s (unitN f x s - x)) L then 1 else 0) ≤ 2 ^ (fm f + 1) := by split <;> omega
    have hqm : riseN f x s ≠ 0 → 2 ^ fm f ≤ quoN s (unitN f x s - x) + (if upN mode neg (quoN s (unitN f x s - x)) L then 1 else 0) := fun h => Nat.le_trans (q2 h) (Nat.le_add_right _ _)
    generalize quoN s (unitN f x s - x) + (if upN mode neg (quoN s (unitN f x s - x)) L then 1 else 0) = Q at *
    have hun : unitN f x s = leastN f - fm f + (riseN f x s : Nat) := rfl
    rw [hun]
    have ew := step_ew f
    have es := step_es f
    have e8 := step_e8 f _ u3
    have e9 := step_e9 f
    have fin : ∀ r : Int × Bool × Bool × Bool × Bool × Bool, r = ((((if overN f (keyN f mode neg x s more) then (if endless mode neg then topN f * 2 ^ fm f else topN f * 2 ^ fm f - 1) else keyN f mode neg x s more) + signN f neg : Nat) : Int), if overN f (keyN f mode neg x s more) then (false, false, true, false, true) else (false, false, false, underN f x s more, inexN f x s more)) → r = ((packN f mode neg x s more : Int), false, false, excN f mode neg x s more) := by
      intro r hr
      rw [hr]
      unfold packN excN
      split <;> rfl
    have hund : underN f x s more = (inexN f x s more && decide (e < leastN f)) := by unfold underN; rw [he3]
    refine Ev.step (fun k => by rw [annealref1_Pack.j4]) ?_
    simp only [ew, es, e8, if_pos (step_n (m := fm f + 1))]
    by_cases cQ : Q = 2 ^ (fm f + 1)
    · have g := fun k c3 => ref_pack_j5 k f mode neg (2 ^ fm f) (riseN f x s + 1) (Nat.le_trans (Nat.succ_le_succ u3) (by decide)) (step_lt f) (fun _ => Nat.le_refl _) (keyN f mode neg x s more) (by rw [hK]; exact (step_key _ _ _ (cQ.trans hsucc)).symm) false false false c3 (inexN f x s more)
      simp only [cQ, if_true, e9]
      by_cases ci : inexN f x s more = true
      · simp only [ci, if_true] at g ⊢
        rw [ci, Bool.true_and] at hund
        rw [← fin _ rfl, hund, ci]
        exact ⟨2, fun n hn => by obtain ⟨m, rfl⟩ : ∃ m, n = m + 2 := ⟨n - 2, by omega⟩; exact (g m _).1⟩
      · rw [Bool.not_eq_true] at ci
        simp only [ci, Bool.false_eq_true, if_false] at g ⊢
        rw [ci, Bool.false_and] at hund
        rw [← fin _ rfl, hund, ci]
        exact ⟨2, fun n hn => by obtain ⟨m, rfl⟩ : ∃ m, n = m + 2 := ⟨n - 2, by omega⟩; exact (g m _).2⟩
    · have g := fun k c3 => ref_pack_j5 k f mode neg Q (riseN f x s) (Nat.le_trans u3 (by decide)) (step_q hqn cQ) hqm (keyN f mode neg x s more) hK false false false c3 (inexN f x s more)
      have cQ' : ¬ ((Q : Int) = ((2 ^ (fm f + 1) : Nat) : Int)) := step_i cQ
      simp only [cQ', if_false]
      by_cases ci : inexN f x s more = true
      · simp only [ci, if_true] at g ⊢
        rw [ci, Bool.true_and] at hund
        rw [← fin _ rfl, hund, ci]
        exact ⟨2, fun n hn => by obtain ⟨m, rfl⟩ : ∃ m, n = m + 2 := ⟨n - 2, by omega⟩; exact (g m _).1⟩
      · rw [Bool.not_eq_true] at ci
        simp only [ci, Bool.false_eq_true, if_false] at g ⊢
        rw [ci, Bool.false_and] at hund
        rw [← fin _ rfl, hund, ci]
        exact ⟨2, fun n hn => by obtain ⟨m, rfl⟩ : ∃ m, n = m + 2 := ⟨n - 2, by omega⟩; exact (g m _).2⟩
end Go.Proofs.Ytngkpekmgahjiaa.Round

/- Products of finite numbers: the reference's, as plain numbers. -/
namespace Go.Proofs.Ytngkpekmgahjiaa.Round
open Go.RowKit Go.Proofs.Ytngkpekmgahjiaa.P Go.Proofs.Ytngkpekmgahjiaa.Num Go.Proofs.Ytngkpekmgahjiaa.BitsF Go.Proofs.Ytngkpekmgahjiaa.Fmt Go.Proofs.YtngkpekmgahjiaaW.PrintWords Go.Proofs.YtngkpekmgahjiaaW.PrintLast Go.Proofs.YtngkpekmgahjiaaW.PrintMore

theorem ref_mul_ev (f mode : Int) (a b : Nat) (ha : a < 4294967296) (hb : b < 4294967296) (ca : clsN f a < 3) (cb : clsN f b < 3) :
    Ev (fun k => annealref1_Mul.f k f mode (a : Int) (b : Int)) ((packN f mode (negN f a != negN f b) (lowestN f a + lowestN f b) (wholeN f a * wholeN f b) false : Int), false, false, excN f mode (negN f a != negN f b) (lowestN f a + lowestN f b) (wholeN f a * wholeN f b) false) := by
  have n : ¬ (isNan f a || isNan f b) = true := by unfold isNan; rw [Bool.or_eq_true, decide_eq_true_iff, decide_eq_true_iff]; omega
  have fa := cls_exp f a ca
  have fb := cls_exp f b cb
  have wa := whole_lt f a
  have wb := whole_lt f b
  have hbd := fbounds f
  have hp24 : 2 ^ (fm f + 1) ≤ 16777216 := Nat.pow_le_pow_right (show 0 < 2 by decide) (show fm f + 1 ≤ 24 by omega)
  have hprod : wholeN f a * wholeN f b < 18446744073709551616 := by
    have := Nat.mul_le_mul (show wholeN f a ≤ 16777216 by omega) (show wholeN f b ≤ 16777216 by omega)
    omega
  obtain ⟨l1, l2⟩ := lowest_near f a
  obtain ⟨m1, m2⟩ := lowest_near f b
  have hp := ref_pack_ev f mode (negN f a != negN f b) (lowestN f a + lowestN f b) (wholeN f a * wholeN f b) false hprod
  rw [clampE_id _ (by omega) (by omega)] at hp
  have hj : Ev (fun k => annealref1_Mul.j0 k f mode (a : Int) (b : Int) (negN f a != negN f b) false) ((packN f mode (negN f a != negN f b) (lowestN f a + lowestN f b) (wholeN f a * wholeN f b) false : Int), false, false, excN f mode (negN f a != negN f b) (lowestN f a + lowestN f b) (wholeN f a * wholeN f b) false) := by
    refine Ev.step (fun k => by rw [annealref1_Mul.j0, if_neg (by decide)]) (Ev.bind (rinf_ev f a ha) ?_)
    refine Ev.congr (fun k => by rw [if_neg (by simp; omega)]) (Ev.bind (rinf_ev f b hb) ?_)
    rw [decide_eq_false (show ¬ clsN f b = 3 by omega)]
    refine Ev.step (fun k => by rw [annealref1_Mul.j1, if_neg (by decide)]) (Ev.bind (runpack_ev f a ha fa) (Ev.bind (runpack_ev f b hb fb) ?_))
    dsimp only
    rw [w64_id (lowestN f a + lowestN f b) (by omega) (by omega), ← Int.natCast_mul, u64_id _ hprod]
    exact Ev.bind hp (Ev.now _)
  refine Ev.congr (fun k => by unfold annealref1_Mul.f; rfl) (Ev.bind (nans2_ev f a b ha hb) ?_)
  refine Ev.congr (fun k => by rw [if_neg n, rneg_f f a ha, Option.bind_some, rneg_f f b hb, Option.bind_some]) (Ev.bind (rzero_ev f a ha) ?_)
  by_cases z : clsN f a = 0
  · refine Ev.congr (fun k => by rw [if_pos (decide_eq_true z)]) (Ev.bind (rinf_ev f b hb) ?_)
    refine Ev.congr (fun k => by rw [if_neg (by simp; omega)]) (Ev.bind (rinf_ev f a ha) ?_)
    exact Ev.congr (fun k => by rw [if_neg (by simp; omega)]) hj
  · refine Ev.congr (fun k => by rw [if_neg (by simp [z])]) (Ev.bind (rinf_ev f a ha) ?_)
    exact Ev.congr (fun k => by rw [if_neg (by simp; omega)]) hj
end Go.Proofs.Ytngkpekmgahjiaa.Round

/- QuotBack: a whole product by a number is the other, and a whole square's root is its number, for whole numbers from -14 to 14, each format, each mode. -/
namespace Go.Proofs.Ytngkpekmgahjiaa.Pure
open Go.RowKit Go.Proofs.Ytngkpekmgahjiaa.P Go.Proofs.Ytngkpekmgahjiaa.Num Go.Proofs.Ytngkpekmgahjiaa.BitsF Go.Proofs.Ytngkpekmgahjiaa.Fmt Go.Proofs.Ytngkpekmgahjiaa.Round Go.Proofs.YtngkpekmgahjiaaW.PrintWords Go.Proofs.YtngkpekmgahjiaaW.PrintLast Go.Proofs.YtngkpekmgahjiaaW.PrintMore
theorem known6_ev : Ev (fun k => anneallaw6_known.f k) true := Ev.of anneallaw6_known.mono (k := 60) (by kernel_rfl)
theorem form6_some (c : Nat) : ∃ f : Int, anneallaw6_form.f (c : Int) = some f := by
  have e := Int.tmod_eq_emod_of_nonneg (b := 3) (Int.natCast_nonneg c)
  unfold anneallaw6_form.f
  rw [Option.bind_some, e]
  have h : (c : Int) % 3 = 0 ∨ (c : Int) % 3 = 1 ∨ (c : Int) % 3 = 2 := by omega
  rcases h with h | h | h <;> rw [h] <;> exact ⟨_, rfl⟩
theorem from_ev (f mode i : Int) (h1 : -1000 < i) (h2 : i < 1000) : ∃ x : Bool × Bool × Bool × Bool × Bool, Ev (fun k => annealref1_FromInt.f k f mode i) ((packN f mode (decide (i < 0)) 0 i.natAbs false : Int), x) := by
  have hp := ref_pack_ev f mode (decide (i < 0)) 0 i.natAbs false (by omega)
  rw [clampE_id _ (by decide) (by decide)] at hp
  by_cases c : i < 0
  · have e : IntKind.u64.wrap (-(IntKind.u64.wrap i)) = (i.natAbs : Int) := by rw [u64_wrap, u64_wrap]; omega
    rw [decide_eq_true c] at hp ⊢
    exact ⟨_, Ev.congr (fun k => by unfold annealref1_FromInt.f; rw [if_pos c, e]) (Ev.bind hp (Ev.now _))⟩
  · have e : IntKind.u64.wrap i = (i.natAbs : Int) := by rw [u64_wrap]; omega
    rw [decide_eq_false c] at hp ⊢
    exact ⟨_, Ev.congr (fun k => by unfold annealref1_FromInt.f; rw [if_neg c, e]) (Ev.bind hp (Ev.now _))⟩
theorem tmod15 (n : Int) : -15 < Int.tmod n 15 ∧ Int.tmod n 15 < 15 := by
  have h1 := Int.tmod_lt_of_pos n (show (0 : Int) < 15 by decide)
  have h2 := Int.lt_tmod_of_pos n (show (0 : Int) < 15 by decide)
  omega
theorem abs_small (f i : Int) (h1 : -15 < i) (h2 : i < 15) : i.natAbs < 2 ^ (fm f + 1) := by
  have hb := fbounds f
  have := Nat.pow_le_pow_right (show 0 < 2 by decide) (show 8 ≤ fm f + 1 by omega)
  omega
theorem abs_prod (f i k : Int) (h1 : -15 < i) (h2 : i < 15) (h3 : -15 < k) (h4 : k < 15) : (i * k).natAbs < 2 ^ (fm f + 1) := by
  have hb := fbounds f
  have := Nat.pow_le_pow_right (show 0 < 2 by decide) (show 8 ≤ fm f + 1 by omega)
  rw [Int.natAbs_mul]
  have := Nat.mul_le_mul (show i.natAbs ≤ 14 by omega) (show k.natAbs ≤ 14 by omega)
  omega
/-- Any of them: its number. -/
theorem form_any (f i : Int) (h1 : -15 < i) (h2 : i < 15) (mode : Int) : packN f mode (decide (i < 0)) 0 i.natAbs false = numI f i ∧ numI f i < 4294967296 ∧ numI f i < 2 ^ (fe f + fm f + 1) ∧ clsN f (numI f i) < 3 := by
  by_cases c : i = 0
  · subst c
    obtain ⟨z1, z2, z3⟩ := zero_all f false
    rw [int_none]
    exact ⟨(pack_none f mode false 0).1, z3, by unfold signN; exact Nat.two_pow_pos _, by rw [z1]; decide⟩
  · obtain ⟨j, a1, a2, a3, a4, a5, a6, a7, a8, a9⟩ := int_form f i c (abs_small f i h1 h2)
    exact ⟨(a9 mode).1, a1, a2, by rw [a3]; decide⟩
/-- Any two: their product, as it comes out. -/
theorem prod_any (f mode i k : Int) (h1 : -15 < i) (h2 : i < 15) (h3 : -15 < k) (h4 : k < 15) : ∃ p : Nat, packN f mode (negN f (numI f i) != negN f (numI f k)) (lowestN f (numI f i) + lowestN f (numI f k)) (wholeN f (numI f i) * wholeN f (numI f k)) false = p ∧ p < 4294967296 ∧
    (i ≠ 0 → k ≠ 0 → p = numI f (i * k)) ∧ (i = 0 ∨ k = 0 → ∃ s : Bool, p = signN f s) := by
  by_cases c : i = 0 ∨ k = 0
  · have hw : wholeN f (numI f i) * wholeN f (numI f k) = 0 := by
      rcases c with c | c
      · subst c; rw [int_none, (none_low f _ (zero_all f false).1).2, Nat.zero_mul]
      · subst c; rw [int_none, (none_low f _ (zero_all f false).1).2, Nat.mul_zero]
    rw [hw, (pack_none f mode _ _).1]
    exact ⟨_, rfl, (zero_all f _).2.2, fun a b => absurd c (by omega), fun _ => ⟨_, rfl⟩⟩
  · have hi : i ≠ 0 := by omega
    have hk : k ≠ 0 := by omega
    have hp := abs_prod f i k h1 h2 h3 h4
    rw [int_mul f mode i k hi hk hp (abs_small f i h1 h2) (abs_small f k h3 h4)]
    obtain ⟨j, a1, _⟩ := int_form f (i * k) (Int.mul_ne_zero hi hk) hp
    exact ⟨_, rfl, a1, fun _ _ => rfl, fun h => absurd h (by omega)⟩
theorem QuotBack : anneallaw6_QuotBack.Pure := by
  intro a0 a1 a2 a3 h0 h1 h2 h3
  obtain ⟨p0, q0⟩ := wf_u8 h0
  obtain ⟨c, rfl⟩ := nat_of p0
  obtain ⟨f, ff⟩ := form6_some c
  obtain ⟨i1, i2⟩ := tmod15 a2
  obtain ⟨k1, k2⟩ := tmod15 a3
  apply Ev.rounds
  unfold anneallaw6_QuotBack.f
  refine Ev.bind known6_ev ?_
  generalize wrap64 (Int.tmod a1 5) = mode
  rw [w64_id (Int.tmod a2 15) (by omega) (by omega), w64_id (Int.tmod a3 15) (by omega) (by omega)]
  generalize hI : Int.tmod a2 15 = i at *
  generalize hK : Int.tmod a3 15 = k at *
  obtain ⟨X, hX⟩ := from_ev f mode i (by omega) (by omega)
  obtain ⟨Y, hY⟩ := from_ev f mode k (by omega) (by omega)
  obtain ⟨x1, x2, x3, x4⟩ := form_any f i i1 i2 mode
  obtain ⟨y1, y2, y3, y4⟩ := form_any f k k1 k2 mode
  rw [x1] at hX
  rw [y1] at hY
  obtain ⟨p, hp, pv, pn, pz⟩ := prod_any f mode i k i1 i2 k1 k2
  obtain ⟨s, hs, sv, sn, sz⟩ := prod_any f 0 i i i1 i2 i1 i2
  have hmul := ref_mul_ev f mode _ _ x2 y2 x4 y4
  have hsq := ref_mul_ev f 0 _ _ x2 x2 x4 x4
  rw [hp] at hmul
  rw [hs] at hsq
  have sqe : Ev (fun k => anneallaw6_sq.f k f (numI f i : Int)) (s : Int) := Ev.congr (fun k => by unfold anneallaw6_sq.f; rfl) (Ev.bind hsq (Ev.now _))
  have hroot : sqrtN f mode s = magN f (numI f i) ∧ sqrtX f mode s = (false, false, false, false, false) := by
    by_cases c : i = 0
    · obtain ⟨b, hb⟩ := sz (.inl c)
      have hw : (negN f (numI f i) != negN f (numI f i)) = false := by cases negN f (numI f i) <;> rfl
      subst c
      have hs0 : s = signN f false := by
        rw [← hs, hw, show wholeN f (numI f 0) * wholeN f (numI f 0) = 0 by rw [int_none, (none_low f _ (zero_all f false).1).2], (pack_none f 0 false _).1]
      obtain ⟨z1, z2, z3⟩ := zero_all f false
      have hm : magN f (signN f false) = 0 := by unfold magN signN; simp
      rw [hs0, int_none, hm]
      unfold sqrtN sqrtX
      rw [z1, z2]
      simp [signN]
    · rw [sn c c]
      exact int_sqrt f mode i c (abs_prod f i i i1 i2 i1 i2) (abs_small f i i1 i2)
  have hq := sqrt_ev f mode s sv
  rw [hroot.1, hroot.2] at hq
  refine Ev.congr (fun k => by rw [if_pos rfl, ff, Option.bind_some]) (Ev.bind hX (Ev.bind hY (Ev.bind hmul (Ev.bind sqe (Ev.bind hq ?_)))))
  dsimp only
  refine Ev.congr (fun k => by rw [ref_zero_f, Option.bind_some, and_not f _ x3, if_pos rfl]) (Ev.step (fun k => by rw [anneallaw6_QuotBack.j0, if_neg (by decide), hI, hK]) ?_)
  have hd := div_ev f mode p (numI f k) pv y2
  by_cases kz : k = 0
  · obtain ⟨b, hb⟩ := pz (.inr kz)
    subst kz
    rw [hb, int_none, (none_none f mode b false).1, (none_none f mode b false).2] at hd
    rw [hb, int_none]
    refine Ev.bind hd ?_
    dsimp only
    by_cases iz : i = 0
    · exact Ev.congr (fun k => by rw [if_pos rfl, if_pos iz, if_pos rfl]) (Ev.now _)
    · exact Ev.congr (fun k => by rw [if_pos rfl, if_neg iz]) (Ev.now _)
  · obtain ⟨j, b1, b2, b3, b4, b5, b6, b7, b8, b9⟩ := int_form f k kz (abs_small f k k1 k2)
    by_cases iz : i = 0
    · obtain ⟨b, hb⟩ := pz (.inl iz)
      rw [hb, (none_div f mode _ b b3).1, (none_div f mode _ b b3).2] at hd
      rw [hb]
      refine Ev.bind hd ?_
      dsimp only
      refine Ev.congr (fun k => ?_) (Ev.now true)
      have hm : ∀ b : Bool, magN f (signN f b) = 0 := by
        intro b; have := (sign_parts f 0 b (Nat.two_pow_pos _)).2.1; rwa [Nat.zero_add] at this
      have hl : ∀ b : Bool, signN f b < 2 ^ (fe f + fm f + 1) := by
        intro b; have := (sign_parts f 0 b (Nat.two_pow_pos _)).2.2; rwa [Nat.zero_add] at this
      rw [if_neg kz, if_pos iz, ref_zero_f, Option.bind_some, and_not f _ (hl _), hm]; rfl
    · have hdv := int_div f mode i k iz kz (abs_prod f i k i1 i2 k1 k2) (abs_small f i i1 i2) (abs_small f k k1 k2)
      rw [pn iz kz] at hd ⊢
      rw [hdv.1, hdv.2] at hd
      refine Ev.bind hd ?_
      dsimp only
      exact Ev.congr (fun k => by rw [if_neg kz, if_neg iz, if_pos rfl]; rfl) (Ev.now _)
end Go.Proofs.Ytngkpekmgahjiaa.Pure
