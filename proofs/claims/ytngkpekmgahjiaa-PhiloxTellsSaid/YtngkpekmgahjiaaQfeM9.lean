import Derived.Test.YtngkpekmgahjiaaQfeM8
import Derived.Test.YtngkpekmgahjiaaQfeM5
import Derived.Test.YtngkpekmgahjiaaQfePx17
import Derived.Test.YtngkpekmgahjiaaQfePhiloxF
import Derived.Test.YtngkpekmgahjiaaQfePackE
import Derived.Test.YtngkpekmgahjiaaQfeM6
import Derived.Test.YtngkpekmgahjiaaQfePx19
import Derived.Test.YtngkpekmgahjiaaQfePx3
/- The reference's loops of layer 1: how many bits, shifts. -/
namespace Go.Proofs.Ytngkpekmgahjiaa.BitsF
open Go.RowKit Go.Proofs.Ytngkpekmgahjiaa.P Go.Proofs.Ytngkpekmgahjiaa.Num Go.Proofs.YtngkpekmgahjiaaW.PrintWords Go.Proofs.YtngkpekmgahjiaaW.PrintLast Go.Proofs.YtngkpekmgahjiaaW.PrintMore

/-! ### the reference's loops -/
theorem ref_len_l0 (j : Nat) : ∀ v c k : Nat, v < 2 ^ j → c + j ≤ 64 → annealref1_Len.l0 (j + 1 + k) (v : Int) (c : Int) = some ((c + lenN v : Nat) : Int) := by
  induction j with
  | zero =>
    intro v c k h _
    obtain rfl : v = 0 := by rw [Nat.pow_zero] at h; omega
    rw [show 0 + 1 + k = k + 1 by omega, annealref1_Len.l0, if_neg (by decide)]; rfl
  | succ j ih =>
    intro v c k h hc
    rw [show j + 1 + 1 + k = (j + 1 + k) + 1 by omega, annealref1_Len.l0]
    by_cases hv : v = 0
    · subst hv; rw [if_neg (by decide)]; rfl
    · rw [if_pos (by omega), show (v : Int) / 2 = ((v / 2 : Nat) : Int) by omega, w64_id _ (by omega) (by omega), show (c : Int) + 1 = ((c + 1 : Nat) : Int) by omega, ih _ _ k (by rw [Nat.pow_succ] at h; omega) (by omega), lenN_half v hv]
      congr 2; omega
theorem ref_len_ev (v : Nat) (hv : v < 18446744073709551616) : Ev (fun k => annealref1_Len.f k (v : Int)) (lenN v : Int) :=
  Ev.of (annealref1_Len.mono _) (k := 65) (by
    have h := ref_len_l0 64 v 0 0 (by omega) (by decide)
    rw [Nat.zero_add, show 64 + 1 + 0 = 65 from rfl] at h
    unfold annealref1_Len.f
    exact h)
theorem half_pow (v j : Nat) : v / 2 / 2 ^ j = v / 2 ^ (j + 1) := by rw [Nat.div_div_eq_div_mul, Nat.pow_succ, Nat.mul_comm 2]
theorem out_right (v j : Nat) : (decide (v % 2 ≠ 0) || decide (v / 2 % 2 ^ j ≠ 0)) = decide (v % 2 ^ (j + 1) ≠ 0) := by
  have e : v % 2 ^ (j + 1) = v % 2 + 2 * (v / 2 % 2 ^ j) := by rw [Nat.pow_succ, Nat.mul_comm, Nat.mod_mul]
  rw [← Bool.decide_or]
  congr 1; apply propext
  have hz : ∀ z : Nat, v / 2 % 2 ^ j = z → (v % 2 ≠ 0 ∨ z ≠ 0 ↔ v % 2 + 2 * z ≠ 0) := by intro z _; omega
  rw [e]; exact hz _ rfl
theorem ref_shift_l1 (j : Nat) : ∀ (v k : Nat) (b : Bool), v < 18446744073709551616 → j ≤ 64 →
    annealref1_Shift.l1 (j + 1 + k) (v : Int) (-(j : Int)) b = some (((v * 2 ^ j % 18446744073709551616 : Nat) : Int), b || decide (18446744073709551616 ≤ v * 2 ^ j)) := by
  induction j with
  | zero =>
    intro v k b hv _
    rw [show 0 + 1 + k = k + 1 by omega, annealref1_Shift.l1, if_neg (by decide), Nat.pow_zero, Nat.mul_one, Nat.mod_eq_of_lt hv, decide_eq_false (by omega), Bool.or_false]
  | succ j ih =>
    intro v k b hv hj
    have e1 : wrap64 (-((j + 1 : Nat) : Int) + 1) = -(j : Int) := by rw [w64_id] <;> omega
    have e2 : IntKind.u64.wrap ((v : Int) * 2) = ((v * 2 % 18446744073709551616 : Nat) : Int) := by rw [show (v : Int) * 2 = ((v * 2 : Nat) : Int) by omega, u64_nat]
    have e3 : (((v : Int) / 9223372036854775808 == 1) : Bool) = decide (9223372036854775808 ≤ v) := by
      by_cases h : 9223372036854775808 ≤ v
      · rw [decide_eq_true h, beq_iff_eq]; omega
      · rw [decide_eq_false h, beq_eq_false_iff_ne]; omega
    have e4 : v * 2 % 18446744073709551616 * 2 ^ j % 18446744073709551616 = v * 2 ^ (j + 1) % 18446744073709551616 := by
      rw [Nat.mod_mul_mod, Nat.mul_assoc, ← Nat.pow_succ']
    have e5 : ∀ b : Bool, ((b || decide (9223372036854775808 ≤ v)) || decide (18446744073709551616 ≤ v * 2 % 18446744073709551616 * 2 ^ j)) = (b || decide (18446744073709551616 ≤ v * 2 ^ (j + 1))) := by
      intro b
      rw [Bool.or_assoc, ← Bool.decide_or]
      congr 2
      apply propext
      rw [show v * 2 ^ (j + 1) = v * 2 * 2 ^ j by rw [Nat.mul_assoc, ← Nat.pow_succ']]
      have hp := Nat.two_pow_pos j
      constructor
      · rintro (h | h)
        · calc 18446744073709551616 ≤ v * 2 * 1 := by omega
            _ ≤ v * 2 * 2 ^ j := Nat.mul_le_mul_left _ hp
        · exact Nat.le_trans h (Nat.mul_le_mul_right _ (Nat.mod_le _ _))
      · intro h
        by_cases h' : 9223372036854775808 ≤ v
        · exact .inl h'
        · right; rw [Nat.mod_eq_of_lt (by omega)]; exact h
    rw [show j + 1 + 1 + k = (j + 1 + k) + 1 by omega, annealref1_Shift.l1, if_pos (by omega), e1, e2, e3]
    by_cases hb : b = true
    · subst hb
      rw [if_pos rfl, ih _ k true (Nat.mod_lt _ (by decide)) (by omega), e4]
      simp only [Bool.true_or]
    · rw [if_neg hb, ih _ k _ (Nat.mod_lt _ (by decide)) (by omega), e4]
      have : b = false := by simpa using hb
      subst this
      have := e5 false
      simp only [Bool.false_or] at this ⊢
      rw [this]
theorem ref_shift_l0 (j : Nat) : ∀ (v k : Nat) (b : Bool), v < 18446744073709551616 → j ≤ 64 →
    annealref1_Shift.l0 (j + 2 + k) (v : Int) (j : Int) b = some (((v / 2 ^ j : Nat) : Int), b || decide (v % 2 ^ j ≠ 0)) := by
  induction j with
  | zero =>
    intro v k b hv _
    have h := ref_shift_l1 0 v k b hv (by decide)
    rw [show 0 + 2 + k = (0 + 1 + k) + 1 by omega, annealref1_Shift.l0, if_neg (by decide), show ((0 : Nat) : Int) = -((0 : Nat) : Int) by rfl, h]
    simp [Nat.mod_one]; omega
  | succ j ih =>
    intro v k b hv hj
    have e1 : wrap64 (((j + 1 : Nat) : Int) - 1) = (j : Int) := by rw [w64_id] <;> omega
    have e3 : ((Go.bits .and .u64 (v : Int) 1 == 1) : Bool) = decide (v % 2 ≠ 0) := by
      rw [and1_u64 v hv]
      by_cases h : v % 2 ≠ 0
      · rw [decide_eq_true h, beq_iff_eq]; omega
      · rw [decide_eq_false h, beq_eq_false_iff_ne]; omega
    rw [show j + 1 + 2 + k = (j + 2 + k) + 1 by omega, annealref1_Shift.l0, if_pos (by omega), e1, e3, show (v : Int) / 2 = ((v / 2 : Nat) : Int) by omega]
    have o := out_right v j
    by_cases hb : b = true
    · subst hb
      rw [if_pos rfl, ih _ k true (by omega) (by omega), half_pow]
      simp only [Bool.true_or]
    · rw [if_neg hb, ih _ k _ (by omega) (by omega), half_pow, o]
      have : b = false := by simpa using hb
      subst this
      rfl
theorem ref_shift_ev (v : Nat) (hv : v < 18446744073709551616) (n : Int) :
    Ev (fun k => annealref1_Shift.f k (v : Int) n) ((((shiftN v n).1 : Nat) : Int), (shiftN v n).2) := by
  refine Ev.of (annealref1_Shift.mono _ _) (k := 67) ?_
  unfold annealref1_Shift.f
  by_cases c : 0 ≤ n
  · obtain ⟨m, rfl⟩ := nat_of c
    have e : mn (mx (m : Int) (-64)) 64 = ((min m 64 : Nat) : Int) := by unfold mn mx; split <;> split <;> omega
    have h := ref_shift_l0 (min m 64) v (65 - min m 64) false hv (by omega)
    rw [show min m 64 + 2 + (65 - min m 64) = 67 by omega] at h
    rw [e, h, shiftN_right]
    by_cases c' : m ≤ 64
    · rw [Nat.min_eq_left c']; rfl
    · have b1 := pow_big (show 64 ≤ m by omega)
      rw [Nat.min_eq_right (by omega), Nat.div_eq_of_lt (show v < 2 ^ 64 by omega), Nat.mod_eq_of_lt (show v < 2 ^ 64 by omega), Nat.div_eq_of_lt (show v < 2 ^ m by omega), Nat.mod_eq_of_lt (show v < 2 ^ m by omega)]; rfl
  · obtain ⟨m, hm⟩ := nat_of (show 0 ≤ -n by omega)
    obtain rfl : n = -(m : Int) := by omega
    have e : mn (mx (-(m : Int)) (-64)) 64 = -((min m 64 : Nat) : Int) := by unfold mn mx; split <;> split <;> omega
    have h := ref_shift_l1 (min m 64) v (65 - min m 64) false hv (by omega)
    rw [show min m 64 + 1 + (65 - min m 64) = 66 by omega] at h
    rw [e, annealref1_Shift.l0, if_neg (by omega), h, shiftN_left _ _ hv]
    by_cases c' : m ≤ 64
    · rw [Nat.min_eq_left c']; rfl
    · rw [Nat.min_eq_right (by omega)]
      have b1 := pow_big (show 64 ≤ m by omega)
      have e : (2 : Nat) ^ m = 18446744073709551616 * 2 ^ (m - 64) := by rw [show 18446744073709551616 = 2 ^ 64 from rfl, ← Nat.pow_add]; congr 1; omega
      have e1 : v * 2 ^ m % 18446744073709551616 = 0 := by rw [e, ← Nat.mul_assoc, Nat.mul_comm v, Nat.mul_assoc, Nat.mul_mod_right]
      rw [e1, show v * 2 ^ 64 % 18446744073709551616 = 0 by omega, Bool.false_or]
      congr 2
      apply decide_eq_decide.mpr
      constructor
      · intro h1
        have : v ≠ 0 := by intro h0; subst h0; omega
        exact Nat.le_trans b1 (Nat.le_mul_of_pos_left _ (by omega))
      · intro h1
        have : v ≠ 0 := by intro h0; subst h0; omega
        omega
end Go.Proofs.Ytngkpekmgahjiaa.BitsF

/- What the reference's formats are: the same plain numbers. -/
namespace Go.Proofs.Ytngkpekmgahjiaa.Round
open Go.RowKit Go.Proofs.Ytngkpekmgahjiaa.P Go.Proofs.Ytngkpekmgahjiaa.Num Go.Proofs.Ytngkpekmgahjiaa.BitsF Go.Proofs.Ytngkpekmgahjiaa.Fmt Go.Proofs.YtngkpekmgahjiaaW.PrintWords Go.Proofs.YtngkpekmgahjiaaW.PrintLast Go.Proofs.YtngkpekmgahjiaaW.PrintMore

theorem beq_nn (a b : Nat) : (((a : Int) == (b : Int)) : Bool) = decide (a = b) := by
  by_cases h : a = b
  · subst h; simp
  · rw [beq_eq_false_iff_ne.mpr (by omega)]; simp [h]
theorem ref_widths_f (f : Int) : annealref1_Widths.f f = some ((fe f : Int), (fm f : Int)) := by
  unfold annealref1_Widths.f fe fm
  by_cases h : f = 0
  · subst h; rfl
  · rw [if_neg h, if_neg h, if_neg h]
    by_cases h1 : f = 1
    · subst h1; rfl
    · rw [if_neg h1, if_neg h1]; rfl
theorem ref_sign_f (f : Int) (neg : Bool) : annealref1_sign.f f neg = some (signN f neg : Int) := by
  unfold annealref1_sign.f signN
  obtain ⟨b1, b2, b3, b4, b5⟩ := fbounds f
  rw [ref_widths_f]; simp only [Option.bind_some]
  cases neg
  · rfl
  · simp only [if_true]
    rw [show (fe f : Int) + (fm f : Int) = ((fe f + fm f : Nat) : Int) by omega, w64_id _ (by omega) (by omega), if_pos (by omega), one_shl _ b5]
theorem ref_zero_f (f : Int) (neg : Bool) : annealref1_Zero.f f neg = some (signN f neg : Int) := by
  unfold annealref1_Zero.f; rw [ref_sign_f]; rfl
theorem ref_bias_f (f : Int) : annealref1_bias.f f = some (1 - leastN f) := by
  unfold annealref1_bias.f leastN
  obtain ⟨b1, b2, b3, b4, b5⟩ := fbounds f
  have h31 := pow_le31 (show fe f - 1 ≤ 31 by omega)
  have h0 := Nat.two_pow_pos (fe f - 1)
  rw [ref_widths_f]; simp only [Option.bind_some]
  rw [show (fe f : Int) - 1 = ((fe f - 1 : Nat) : Int) by omega, w64_id _ (by omega) (by omega), if_pos (by omega), one_shl_i64 _ (by omega), w64_id _ (by omega) (by omega), ← pow_cast]
  congr 1; omega
theorem inf_lt (f : Int) (neg : Bool) : infN f neg < 4294967296 ∧ topN f * 2 ^ fm f + 2 ^ fm f = 2 ^ (fe f + fm f) := by
  obtain ⟨b1, b2, b3, b4, b5⟩ := fbounds f
  have h31 := pow_le31 b5
  have hp := Nat.two_pow_pos (fm f)
  have e : topN f * 2 ^ fm f + 2 ^ fm f = 2 ^ (fe f + fm f) := by
    rw [Nat.pow_add, ← Nat.succ_mul]; congr 1
    unfold topN; have := Nat.two_pow_pos (fe f); omega
  refine ⟨?_, e⟩
  unfold infN signN; split <;> omega
theorem ref_inf_f (f : Int) (neg : Bool) : annealref1_Inf.f f neg = some (infN f neg : Int) := by
  unfold annealref1_Inf.f infN
  obtain ⟨b1, b2, b3, b4, b5⟩ := fbounds f
  obtain ⟨_, hi⟩ := inf_lt f neg
  have h31 := pow_le31 b5
  have hp := Nat.two_pow_pos (fm f)
  have hpe := Nat.two_pow_pos (fe f)
  have h8 := pow_le31 (show fe f ≤ 31 by omega)
  rw [ref_widths_f, ref_sign_f]; simp only [Option.bind_some]
  rw [if_pos (by omega), if_pos (by omega), one_shl _ (by omega), show (((2 ^ fe f : Nat) : Int) - 1) % 4294967296 = ((topN f : Nat) : Int) by unfold topN; omega, shl_u32, Nat.mod_eq_of_lt (by omega)]
  unfold signN
  cases neg
  · simp only [Bool.false_eq_true, if_false]
    rw [or_u32 _ _ (by omega) (by omega), Nat.zero_or, Nat.add_zero]
  · simp only [if_true]
    rw [or_u32 _ _ (by omega) (by omega), or_add _ _ (fe f + fm f) (by simp) (by omega), Nat.add_comm]
end Go.Proofs.Ytngkpekmgahjiaa.Round

/- What the reference's rounding computes: the same plain numbers. -/
namespace Go.Proofs.Ytngkpekmgahjiaa.Round
open Go.RowKit Go.Proofs.Ytngkpekmgahjiaa.P Go.Proofs.Ytngkpekmgahjiaa.Num Go.Proofs.Ytngkpekmgahjiaa.BitsF Go.Proofs.Ytngkpekmgahjiaa.Fmt Go.Proofs.YtngkpekmgahjiaaW.PrintWords Go.Proofs.YtngkpekmgahjiaaW.PrintLast Go.Proofs.YtngkpekmgahjiaaW.PrintMore

theorem ref_greatest_f (f : Int) (neg : Bool) : annealref1_Greatest.f f neg = some (greatN f neg : Int) := by
  unfold annealref1_Greatest.f greatN
  obtain ⟨hi, _⟩ := inf_lt f neg
  have ht := top_cases f
  have hp := Nat.two_pow_pos (fm f)
  have : 0 < topN f * 2 ^ fm f := Nat.mul_pos (by omega) hp
  rw [ref_inf_f]; simp only [Option.bind_some]
  unfold infN at *
  congr 1; omega
theorem ref_divide_f (s : Nat) (hs : s < 18446744073709551616) (d : Int) (h1 : -100000 ≤ d) (h2 : d ≤ 100000) (hq : d ≤ 0 → s * 2 ^ (-d).toNat < 18446744073709551616) :
    Ev (fun k => annealref1_divide.f k (s : Int) d) ((quoN s d : Int), decide (2 ≤ leftN s d false), decide (leftN s d false = 1 ∨ leftN s d false = 3)) := by
  unfold annealref1_divide.f
  by_cases c : d ≤ 0
  · obtain ⟨m, hm⟩ := nat_of (show 0 ≤ -d by omega)
    have e : mn (wrap64 (-d)) 63 = ((min m 63 : Nat) : Int) := by rw [w64_id _ (by omega) (by omega), hm]; unfold mn; split <;> omega
    simp only [if_pos c, e, if_pos (show 0 ≤ ((min m 63 : Nat) : Int) by omega), left_none false (.inl c)]
    have hq' := hq c
    rw [hm, Int.toNat_natCast] at hq'
    have e2 : IntKind.u64.wrap ((s : Int) * 2 ^ ((min m 63 : Nat) : Int).toNat) = (quoN s d : Int) := by
      rw [Int.toNat_natCast, show (s : Int) * 2 ^ (min m 63) = ((s * 2 ^ (min m 63) : Nat) : Int) by simp, u64_nat]
      unfold quoN; rw [if_pos c, hm, Int.toNat_natCast]
      by_cases z : s = 0
      · subst z; simp
      · have : m ≤ 63 := by
          rcases Nat.lt_or_ge 63 m with h | h
          · have := pow_big (show 64 ≤ m by omega)
            have : 2 ^ m ≤ s * 2 ^ m := Nat.le_mul_of_pos_left _ (by omega)
            omega
          · exact h
        rw [Nat.min_eq_left this, Nat.mod_eq_of_lt hq']
    rw [e2]
    exact Ev.now _
  · obtain ⟨m, rfl⟩ := nat_of (show 0 ≤ d by omega)
    have hqe : quoN s (m : Int) = s / 2 ^ m := by unfold quoN; rw [if_neg c, Int.toNat_natCast]
    rw [hqe]
    simp only [if_neg c]
    by_cases c' : (m : Int) > 64
    · simp only [if_pos c']
      have hb := pow_big (show 64 ≤ m - 1 by omega)
      have hb2 := pow_big (show 64 ≤ m by omega)
      have hl : leftN s (m : Int) false = if s = 0 then 0 else 1 := by
        by_cases z : s = 0
        · subst z; rw [left_none _ (.inr (by simp))]; rfl
        · rw [left_some _ c (by rw [Int.toNat_natCast, Nat.mod_eq_of_lt (by omega)]; exact z), Int.toNat_natCast, Nat.div_eq_of_lt (show s < 2 ^ (m - 1) by omega), if_neg z]; rfl
      rw [Nat.div_eq_of_lt (show s < 2 ^ m by omega), hl, show (0 : Int) = ((0 : Nat) : Int) from rfl, bne_cast]
      by_cases z : s = 0
      · subst z; exact Ev.now _
      · rw [if_neg z, decide_eq_true z]; exact Ev.now _
    · have e : wrap64 ((m : Int) - 1) = ((m - 1 : Nat) : Int) := by rw [w64_id] <;> omega
      simp only [if_neg c', e]
      have hd : s / 2 ^ (m - 1) < 18446744073709551616 := Nat.lt_of_le_of_lt (Nat.div_le_self _ _) hs
      have s1 := ref_shift_ev s hs (m : Int)
      have s2 := ref_shift_ev s hs ((m - 1 : Nat) : Int)
      rw [shiftN_right] at s1 s2
      refine Ev.bind s1 (Ev.bind s2 (Ev.bind s2 ?_))
      rw [and1_u64 _ hd]
      have em : s % 2 ^ m = s % 2 ^ (m - 1) + 2 ^ (m - 1) * (s / 2 ^ (m - 1) % 2) := by
        rw [show m = m - 1 + 1 by omega, Nat.pow_succ, Nat.mod_mul, Nat.add_sub_cancel]
      have hb1 : (((s / 2 ^ (m - 1) % 2 : Nat) : Int) == 1) = decide (2 ≤ leftN s (m : Int) false) ∧ decide (s % 2 ^ (m - 1) ≠ 0) = decide (leftN s (m : Int) false = 1 ∨ leftN s (m : Int) false = 3) := by
        have hp := Nat.two_pow_pos (m - 1)
        by_cases z : s % 2 ^ m = 0
        · rw [left_none _ (.inr (by rw [Int.toNat_natCast]; exact z))]
          rw [z] at em
          have z1 : s % 2 ^ (m - 1) = 0 := by omega
          have z2 : s / 2 ^ (m - 1) % 2 = 0 := by
            have : 2 ^ (m - 1) * (s / 2 ^ (m - 1) % 2) = 0 := by omega
            rcases Nat.mul_eq_zero.mp this with h | h
            · omega
            · exact h
          rw [z1, z2]; exact ⟨rfl, rfl⟩
        · rw [left_some _ c (by rw [Int.toNat_natCast]; exact z), Int.toNat_natCast]
          have hb : s / 2 ^ (m - 1) % 2 = 0 ∨ s / 2 ^ (m - 1) % 2 = 1 := by omega
          rcases hb with hb | hb
          · rw [hb, Nat.mul_zero, Nat.add_zero] at em
            rw [em] at z
            rw [hb, decide_eq_true z]; exact ⟨rfl, rfl⟩
          · rw [hb, if_neg (by decide)]
            by_cases w : s % 2 ^ (m - 1) = 0
            · rw [w]; exact ⟨rfl, rfl⟩
            · rw [if_pos (.inl w), decide_eq_true w]; exact ⟨rfl, rfl⟩
      simp only [hb1.1, hb1.2]
      exact Ev.now _
theorem left_more (s : Nat) (d : Int) : decide (2 ≤ leftN s d true) = decide (2 ≤ leftN s d false) ∧ (leftN s d true = 1 ∨ leftN s d true = 3) := by
  by_cases c : d ≤ 0 ∨ s % 2 ^ d.toNat = 0
  · rw [left_none _ c, left_none _ c]; simp
  · have c' := not_or.mp c
    rw [left_some _ c'.1 c'.2, left_some _ c'.1 c'.2]
    split
    · simp
    · simp; split <;> simp
theorem ref_up_f (mode : Int) (neg : Bool) (q left : Nat) (h : left ≤ 3) : annealref1_up.f mode neg (decide (q % 2 = 1)) (decide (2 ≤ left)) (decide (left = 1 ∨ left = 3)) = some (upN mode neg q left) := by
  unfold annealref1_up.f upN
  have hl : left = 0 ∨ left = 1 ∨ left = 2 ∨ left = 3 := by omega
  by_cases m1 : mode = 1
  · rw [if_pos m1, if_pos m1]
  · rw [if_neg m1, if_neg m1]
    by_cases m2 : mode = 2
    · rw [if_pos m2, if_pos m2]; rcases hl with rfl | rfl | rfl | rfl <;> cases neg <;> rfl
    · rw [if_neg m2, if_neg m2]
      by_cases m3 : mode = 3
      · rw [if_pos m3, if_pos m3]; rcases hl with rfl | rfl | rfl | rfl <;> cases neg <;> rfl
      · rw [if_neg m3, if_neg m3]
        by_cases m4 : mode = 4
        · rw [if_pos m4, if_pos m4]
        · rw [if_neg m4, if_neg m4]
          rcases hl with rfl | rfl | rfl | rfl <;> simp
theorem ref_over_f (k : Nat) (f mode : Int) (neg : Bool) : annealref1_over.f (k + 1) f mode neg = some (((if endless mode neg then infN f neg else greatN f neg : Nat) : Int)) := by
  unfold annealref1_over.f endless
  simp only [annealref1_over.j0, ref_greatest_f, ref_inf_f, Option.bind_some]
  by_cases m1 : mode = 1
  · rw [if_pos m1, if_pos m1]; rfl
  · rw [if_neg m1, if_neg m1]
    by_cases m2 : mode = 2
    · rw [if_pos m2, if_pos m2]; subst m2; cases neg <;> rfl
    · rw [if_neg m2, if_neg m2]
      by_cases m3 : mode = 3
      · rw [if_pos m3, if_pos m3]; cases neg <;> rfl
      · rw [if_neg m3, if_neg m3]; rfl
end Go.Proofs.Ytngkpekmgahjiaa.Round

/- The reference's rounding computes the same numbers as the program's. -/
namespace Go.Proofs.Ytngkpekmgahjiaa.Round
open Go.RowKit Go.Proofs.Ytngkpekmgahjiaa.P Go.Proofs.Ytngkpekmgahjiaa.Num Go.Proofs.Ytngkpekmgahjiaa.BitsF Go.Proofs.Ytngkpekmgahjiaa.Fmt Go.Proofs.YtngkpekmgahjiaaW.PrintWords Go.Proofs.YtngkpekmgahjiaaW.PrintLast Go.Proofs.YtngkpekmgahjiaaW.PrintMore

/-- A sign beside an amount. -/
theorem sign_or (f : Int) (neg : Bool) (v : Nat) (h : v < 2 ^ (fe f + fm f)) : Go.bits .or .u32 (signN f neg : Int) (v : Int) = ((v + signN f neg : Nat) : Int) ∧ v + signN f neg < 4294967296 := by
  obtain ⟨b1, b2, b3, b4, b5⟩ := fbounds f
  have h31 := pow_le31 b5
  unfold signN
  cases neg
  · simp only [Bool.false_eq_true, if_false]
    rw [or_u32 _ _ (by omega) (by omega), Nat.zero_or, Nat.add_zero]; exact ⟨rfl, by omega⟩
  · simp only [if_true]
    rw [or_u32 _ _ (by omega) (by omega), or_add _ _ (fe f + fm f) (by simp) h, Nat.add_comm]; exact ⟨rfl, by omega⟩
theorem ref_pack_j5 (k : Nat) (f mode : Int) (neg : Bool) (q U : Nat) (hU : U ≤ 10300) (hq : q < 2 ^ (fm f + 1)) (hq' : U ≠ 0 → 2 ^ fm f ≤ q) (K : Nat) (hK : K = U * 2 ^ fm f + q) (c0 c1 c2 c3 c4 : Bool) :
    annealref1_Pack.j5 (k + 2) f mode neg (fm f : Int) (leastN f - fm f + U) (q : Int) c0 c1 c2 c3 c4 = some
      ((((if overN f K then (if endless mode neg then topN f * 2 ^ fm f else topN f * 2 ^ fm f - 1) else K) + signN f neg : Nat) : Int),
        if overN f K then (false, false, true, false, true) else (c0, c1, c2, c3, c4)) ∧
    annealref1_Pack.j6 (k + 2) f mode neg (fm f : Int) (leastN f - fm f + U) (q : Int) c0 c1 c2 c3 c4 = some
      ((((if overN f K then (if endless mode neg then topN f * 2 ^ fm f else topN f * 2 ^ fm f - 1) else K) + signN f neg : Nat) : Int),
        if overN f K then (false, false, true, false, true) else (c0, c1, c2, c3, c4)) := by
  obtain ⟨b1, b2, b3, b4, b5⟩ := fbounds f
  have hl := least_cases f
  have hp := Nat.two_pow_pos (fm f)
  have hpe := Nat.two_pow_pos (fe f)
  have h31 := pow_le31 (show fm f + 1 ≤ 31 by omega)
  have h8 := pow_le31 (show fe f ≤ 31 by omega)
  have hsucc : 2 ^ (fm f + 1) = 2 * 2 ^ fm f := by rw [Nat.pow_succ, Nat.mul_comm]
  have ht := top_cases f
  obtain ⟨_, hte⟩ := inf_lt f neg
  have e1 : shl .u64 1 (fm f : Int) = ((2 ^ fm f : Nat) : Int) := by rw [show (1 : Int) = ((1 : Nat) : Int) from rfl, shl_u64, Nat.one_mul, Nat.mod_eq_of_lt (by omega)]
  have e2 : wrap64 (wrap64 (leastN f - (fm f : Int) + (U : Int) + (fm f : Int)) + (1 - leastN f)) = ((U + 1 : Nat) : Int) := by
    rw [w64_id (leastN f - (fm f : Int) + (U : Int) + (fm f : Int)) (by omega) (by omega), w64_id _ (by omega) (by omega)]; omega
  have e3 : wrap64 (shl .i64 1 (fe f : Int) - 1) = ((topN f : Nat) : Int) := by
    rw [one_shl_i64 _ (by omega), w64_id _ (by omega) (by omega)]; unfold topN; omega
  rw [annealref1_Pack.j5, annealref1_Pack.j6, if_pos (by omega), e1, ref_bias_f, ref_widths_f, ref_sign_f]
  simp only [Option.bind_some]
  rw [if_pos (show (0 : Int) ≤ (fe f : Int) by omega), e2, e3, ref_over_f]
  simp only [Option.bind_some]
  by_cases c : q < 2 ^ fm f
  · have hU0 : U = 0 := by
      rcases Nat.eq_zero_or_pos U with h | h
      · exact h
      · have := hq' (by omega); omega
    have ho : overN f K = false := by
      unfold overN
      rw [decide_eq_false_iff_not, hK, hU0]
      have : 1 * 2 ^ fm f ≤ topN f * 2 ^ fm f := Nat.mul_le_mul_right _ (by omega)
      omega
    obtain ⟨s1, s2⟩ := sign_or f neg q (by omega)
    rw [if_pos (show (q : Int) < ((2 ^ fm f : Nat) : Int) by omega), show (q : Int) % 4294967296 = (q : Int) by omega, s1, ho, hK, hU0]
    simp
  · rw [if_neg (show ¬ (q : Int) < ((2 ^ fm f : Nat) : Int) by omega)]
    have ho : ((U + 1 : Nat) : Int) ≥ (topN f : Int) ↔ overN f K = true := by
      unfold overN
      rw [decide_eq_true_iff, hK]
      constructor
      · intro h
        have : topN f * 2 ^ fm f ≤ (U + 1) * 2 ^ fm f := Nat.mul_le_mul_right _ (by omega)
        rw [Nat.add_mul, Nat.one_mul] at this; omega
      · intro h
        rcases Nat.lt_or_ge (U + 1) (topN f) with d | d
        · have : (U + 1 + 1) * 2 ^ fm f ≤ topN f * 2 ^ fm f := Nat.mul_le_mul_right _ d
          rw [Nat.add_mul, Nat.add_mul, Nat.one_mul] at this; omega
        · omega
    by_cases c' : ((U + 1 : Nat) : Int) ≥ (topN f : Int)
    · rw [if_pos c', ho.mp c']
      simp only [if_true]
      have : (if endless mode neg then infN f neg else greatN f neg) = (if endless mode neg then topN f * 2 ^ fm f else topN f * 2 ^ fm f - 1) + signN f neg := by
        unfold infN greatN; split <;> rfl
      rw [this]
      exact ⟨rfl, rfl⟩
    · rw [if_neg c']
      have co : overN f K = false := by simpa using fun h => c' (ho.mpr h)
      have hmul : (U + 1) * 2 ^ fm f + 2 ^ fm f ≤ 2 ^ (fe f + fm f) := by
        have : (U + 1) * 2 ^ fm f ≤ topN f * 2 ^ fm f := Nat.mul_le_mul_right _ (by omega)
        omega
      have h32 := pow_le31 b5
      have hm1 : q % 2 ^ fm f = q - 2 ^ fm f := by
        have h1 : q / 2 ^ fm f = 1 := Nat.div_eq_of_lt_le (by omega) (by omega)
        have := Nat.div_add_mod q (2 ^ fm f)
        rw [h1, Nat.mul_one] at this; omega
      have e4 : shl .u32 (((U + 1 : Nat) : Int) % 4294967296) (fm f : Int) = (((U + 1) * 2 ^ fm f : Nat) : Int) := by
        rw [show ((U + 1 : Nat) : Int) % 4294967296 = ((U + 1 : Nat) : Int) by omega, shl_u32, Nat.mod_eq_of_lt (by omega)]
      have e5 : Go.bits .and .u64 (q : Int) (IntKind.u64.wrap (((2 ^ fm f : Nat) : Int) - 1)) % 4294967296 = ((q % 2 ^ fm f : Nat) : Int) := by
        rw [show ((2 ^ fm f : Nat) : Int) - 1 = ((2 ^ fm f - 1 : Nat) : Int) by omega, u64_id _ (by omega), mask_u64 _ _ (by omega) (by omega)]
        have := Nat.mod_lt q hp; omega
      have hKe : K + signN f neg = (U + 1) * 2 ^ fm f + signN f neg + q % 2 ^ fm f := by
        rw [hK, hm1, Nat.add_mul]; omega
      obtain ⟨s1, s2⟩ := sign_or f neg ((U + 1) * 2 ^ fm f) (by omega)
      have hq2 : q % 2 ^ fm f < 2 ^ fm f := Nat.mod_lt _ hp
      have e6 : Go.bits .or .u32 (((U + 1) * 2 ^ fm f + signN f neg : Nat) : Int) ((q % 2 ^ fm f : Nat) : Int) = (((U + 1) * 2 ^ fm f + signN f neg + q % 2 ^ fm f : Nat) : Int) := by
        rw [or_u32 _ _ s2 (by omega), or_add _ _ (fm f) ?_ hq2]
        unfold signN
        cases neg
        · simp
        · simp only [if_true]
          rw [Nat.pow_add, ← Nat.add_mul, Nat.mul_mod_left]
      rw [e4, s1, e5, e6, co]
      simp only [Bool.false_eq_true, if_false, hKe]
      exact ⟨trivial, trivial⟩
theorem step_ew (f : Int) : wrap64 ((fm f : Int) + 1) = ((fm f + 1 : Nat) : Int) := by
  obtain ⟨b1, b2, b3, b4, b5⟩ := fbounds f
  rw [w64_id] <;> omega
theorem step_es (f : Int) : shl .u64 1 ((fm f + 1 : Nat) : Int) = ((2 ^ (fm f + 1) : Nat) : Int) := by
  obtain ⟨b1, b2, b3, b4, b5⟩ := fbounds f
  have h31 := pow_le31 (show fm f + 1 ≤ 31 by omega)
  rw [show (1 : Int) = ((1 : Nat) : Int) from rfl, shl_u64, Nat.one_mul, Nat.mod_eq_of_lt (by omega)]
theorem step_e8 (f : Int) (U : Nat) (h : U ≤ 10200) : wrap64 (leastN f - (fm f : Int) + (U : Int) + 1) = leastN f - (fm f : Int) + ((U + 1 : Nat) : Int) := by
  obtain ⟨b1, b2, b3, b4, b5⟩ := fbounds f
  have hl := least_cases f
  rw [w64_id] <;> omega
theorem step_e9 (f : Int) : (((2 ^ (fm f + 1) : Nat) : Int)) / 2 = ((2 ^ fm f : Nat) : Int) := by
  have hsucc : 2 ^ (fm f + 1) = 2 * 2 ^ fm f := by rw [Nat.pow_succ, Nat.mul_comm]
  omega
theorem step_lt (f : Int) : 2 ^ fm f < 2 ^ (fm f + 1) := Nat.pow_lt_pow_right (by decide) (Nat.lt_succ_self _)
theorem step_key (U m q : Nat) (h : q = 2 * m) : (U + 1) * m + m = U * m + q := by rw [Nat.add_mul]; omega
theorem step_q {a b : Nat} (h : a ≤ b) (h' : ¬ a = b) : a < b := by omega
theorem step_i {a b : Nat} (h' : ¬ a = b) : ¬ ((a : Int) = (b : Int)) := by omega
theorem step_n {m : Nat} : (0 : Int) ≤ (m : Int) := by omega
theorem ref_pack_ev (f mode : Int) (neg : Bool) (x : Int) (s : Nat) (more : Bool) (hs : s < 18446744073709551616) :
    Ev (fun k => annealref1_Pack.f k f mode neg x (s : Int) more) ((packN f mode neg (clampE x) s more : Int), false, false, excN f mode neg (clampE x) s more) := by
  unfold annealref1_Pack.f
  have hc : mn (mx x (-10000)) 10000 = clampE x := rfl
  obtain ⟨h1, h2⟩ := clampE_bounds x
  rw [hc]
  generalize clampE x = x at *
  have hll := left_le s (unitN f x s - x) more
  by_cases z : s = 0 ∧ more = false
  · obtain ⟨rfl, rfl⟩ := z
    simp only [if_pos (show ((0 : Nat) : Int) = 0 from rfl)]
    refine Ev.step (fun k => by rw [annealref1_Pack.j0]) ?_
    simp only [Bool.not_false, if_true, ref_zero_f, Option.bind_some]
    have h := pack_f 0 f mode neg x 0 false (by decide)
    rw [clampE_id x h1 h2] at h
    unfold round_Pack.f at h
    rw [if_pos (by rfl), show mn (mx x (-10000)) 10000 = x from clampE_id x h1 h2, round_Pack.j0] at h
    simp only [Bool.not_false, if_true, zero_f, Option.bind_some] at h
    rw [← Option.some.inj h]
    exact Ev.now _
  · have hj : ∀ k, (if (s : Int) = 0 then annealref1_Pack.j0 k f mode neg x (s : Int) more (!more) else annealref1_Pack.j0 k f mode neg x (s : Int) more false) = annealref1_Pack.j0 k f mode neg x (s : Int) more false := by
      intro k
      by_cases c : (s : Int) = 0
      · rw [if_pos c]
        cases more
        · exact absurd ⟨by omega, rfl⟩ z
        · rfl
      · rw [if_neg c]
    refine Ev.congr hj ?_
    obtain ⟨u1, u2, u3⟩ := unit_bounds f x s hs h1 h2
    obtain ⟨q1, q2⟩ := quo_bounds f x s
    obtain ⟨b1, b2, b3, b4, b5⟩ := fbounds f
    have hl := least_cases f
    have hn := lenN_small s hs
    have h31 := pow_le31 (show fm f + 1 ≤ 31 by omega)
    have hp := Nat.two_pow_pos (fm f)
    have hsucc : 2 ^ (fm f + 1) = 2 * 2 ^ fm f := by rw [Nat.pow_succ, Nat.mul_comm]
    have hq64 : quoN s (unitN f x s - x) < 18446744073709551616 := by omega
    have hd : unitN f x s - x ≤ 0 → s * 2 ^ (-(unitN f x s - x)).toNat < 18446744073709551616 := by
      intro h; have := hq64; unfold quoN at this; rw [if_pos h] at this; exact this
    -- the exponent that the reference takes
    have hE : ∃ e : Int, (∀ k, (if (s : Int) = 0 then annealref1_Pack.j1 k f mode neg x (s : Int) more (fm f : Int) (leastN f) (-20000) else annealref1_Pack.j1 k f mode neg x (s : Int) more (fm f : Int) (leastN f) (wrap64 (wrap64 (x + (lenN s : Int)) - 1))) = annealref1_Pack.j1 k f mode neg x (s : Int) more (fm f : Int) (leastN f) e) ∧ wrap64 (mx e (leastN f) - (fm f : Int)) = unitN f x s ∧ (decide (e < leastN f) = (decide (s = 0) || decide (x + lenN s - 1 < leastN f))) := by
      by_cases c : s = 0
      · subst c
        refine ⟨-20000, fun k => by rw [if_pos (show ((0 : Nat) : Int) = 0 from rfl)], ?_, ?_⟩
        · have : riseN f x 0 = 0 := by unfold riseN; rw [if_pos rfl]
          have hm : mx (-20000) (leastN f) = leastN f := by unfold mx; split <;> omega
          rw [hm]
          unfold unitN; rw [this, w64_id _ (by omega) (by omega)]; omega
        · rw [decide_eq_true (by omega)]; simp
      · have e1 : wrap64 (wrap64 (x + (lenN s : Int)) - 1) = x + lenN s - 1 := by
          rw [w64_id (x + _) (by omega) (by omega), w64_id _ (by omega) (by omega)]
        refine ⟨x + lenN s - 1, fun k => by rw [if_neg (by omega), e1], ?_, ?_⟩
        · have hr : riseN f x s = (x + lenN s - 1 - leastN f).toNat := by unfold riseN; rw [if_neg c]
          unfold unitN mx
          split
          · rw [w64_id _ (by omega) (by omega)]; omega
          · rw [w64_id _ (by omega) (by omega)]; omega
        · rw [decide_eq_false c, Bool.false_or]
    obtain ⟨e, he1, he2, he3⟩ := hE
    refine Ev.step (fun k => by rw [annealref1_Pack.j0]) ?_
    simp only [Bool.false_eq_true, if_false, ref_widths_f, ref_bias_f, Option.bind_some]
    refine Ev.bind (ref_len_ev s hs) ?_
    rw [show (1 : Int) - (1 - leastN f) = leastN f by omega, w64_id (leastN f) (by omega) (by omega)]
    refine Ev.congr he1 ?_
    refine Ev.step (fun k => by rw [annealref1_Pack.j1]) ?_
    rw [he2, w64_id (unitN f x s - x) (by omega) (by omega)]
    refine Ev.bind (ref_divide_f s hs _ (by omega) (by omega) hd) ?_
    -- what is left, with the little more
    have hlm : leftN s (unitN f x s - x) false ≤ 3 := left_le s _ false
    have hcol : ∀ k (r : Option (Int × Bool × Bool × Bool × Bool × Bool)), annealref1_Pack.j2 k f mode neg (fm f : Int) (leastN f) e (unitN f x s) (quoN s (unitN f x s - x) : Int) (decide (2 ≤ leftN s (unitN f x s - x) more)) (decide (leftN s (unitN f x s - x) more = 1 ∨ leftN s (unitN f x s - x) more = 3)) = r →
        (if decide (leftN s (unitN f x s - x) false = 1 ∨ leftN s (unitN f x s - x) false = 3) = true then annealref1_Pack.j2 k f mode neg (fm f : Int) (leastN f) e (unitN f x s) (quoN s (unitN f x s - x) : Int) (decide (2 ≤ leftN s (unitN f x s - x) false)) true else annealref1_Pack.j2 k f mode neg (fm f : Int) (leastN f) e (unitN f x s) (quoN s (unitN f x s - x) : Int) (decide (2 ≤ leftN s (unitN f x s - x) false)) more) = r := by
      intro k r h
      cases more
      · by_cases c : leftN s (unitN f x s - x) false = 1 ∨ leftN s (unitN f x s - x) false = 3
        · rw [decide_eq_true c] at h ⊢; rw [if_pos rfl]; exact h
        · rw [decide_eq_false c] at h ⊢; rw [if_neg (by decide)]; exact h
      · obtain ⟨m1, m2⟩ := left_more s (unitN f x s - x)
        rw [decide_eq_true m2, m1] at h
        split <;> exact h
    refine Ev.congr (fun k => hcol k _ rfl) ?_
    generalize hL : leftN s (unitN f x s - x) more = L at *
    refine Ev.step (fun k => by rw [annealref1_Pack.j2]) ?_
    have hinx : decide (L ≠ 0) = inexN f x s more := by unfold inexN; rw [hL]
    have h2 : ∀ k, (if decide (2 ≤ L) = true then annealref1_Pack.j3 k f mode neg (fm f : Int) (leastN f) e (unitN f x s) (quoN s (unitN f x s - x) : Int) (decide (2 ≤ L)) (decide (L = 1 ∨ L = 3)) true else annealref1_Pack.j3 k f mode neg (fm f : Int) (leastN f) e (unitN f x s) (quoN s (unitN f x s - x) : Int) (decide (2 ≤ L)) (decide (L = 1 ∨ L = 3)) (decide (L = 1 ∨ L = 3))) = annealref1_Pack.j3 k f mode neg (fm f : Int) (leastN f) e (unitN f x s) (quoN s (unitN f x s - x) : Int) (decide (2 ≤ L)) (decide (L = 1 ∨ L = 3)) (inexN f x s more) := by
      intro k
      rw [← hinx]
      have : L = 0 ∨ L = 1 ∨ L = 2 ∨ L = 3 := by omega
      rcases this with h | h | h | h <;> subst h <;> rfl
    refine Ev.congr h2 ?_
    refine Ev.step (fun k => by rw [annealref1_Pack.j3]) ?_
    have hodd : ((Go.bits .and .u64 (quoN s (unitN f x s - x) : Int) 1 == 1) : Bool) = decide (quoN s (unitN f x s - x) % 2 = 1) := by
      rw [and1_u64 _ hq64, show (1 : Int) = ((1 : Nat) : Int) from rfl, beq_nn]
    simp only [hodd, ref_up_f mode neg _ L hll, Option.bind_some]
    -- the unit above
    have hK : keyN f mode neg x s more = riseN f x s * 2 ^ fm f + (quoN s (unitN f x s - x) + (if upN mode neg (quoN s (unitN f x s - x)) L then 1 else 0)) := by
      unfold keyN; rw [hL, Nat.add_assoc]
    have h3 : ∀ k, (if upN mode neg (quoN s (unitN f x s - x)) L = true then annealref1_Pack.j4 k f mode neg (fm f : Int) (leastN f) e (unitN f x s) (IntKind.u64.wrap ((quoN s (unitN f x s - x) : Int) + 1)) (inexN f x s more) else annealref1_Pack.j4 k f mode neg (fm f : Int) (leastN f) e (unitN f x s) (quoN s (unitN f x s - x) : Int) (inexN f x s more)) = annealref1_Pack.j4 k f mode neg (fm f : Int) (leastN f) e (unitN f x s) ((quoN s (unitN f x s - x) + (if upN mode neg (quoN s (unitN f x s - x)) L then 1 else 0) : Nat) : Int) (inexN f x s more) := by
      intro k
      by_cases c : upN mode neg (quoN s (unitN f x s - x)) L = true
      · rw [if_pos c, if_pos c, show (quoN s (unitN f x s - x) : Int) + 1 = ((quoN s (unitN f x s - x) + 1 : Nat) : Int) by omega, u64_id _ (by omega)]
      · rw [if_neg c, if_neg c, Nat.add_zero]
    refine Ev.congr h3 ?_
    have hqn : quoN s (unitN f x s - x) + (if upN mode neg (quoN s (unitN f x s - x)) L then 1 else 0) ≤ 2 ^ (fm f + 1) := by split <;> omega
    have hqm : riseN f x s ≠ 0 → 2 ^ fm f ≤ quoN s (unitN f x s - x) + (if upN mode neg (quoN s (unitN f x s - x)) L then 1 else 0) := fun h => Nat.le_trans (q2 h) (Nat.le_add_right _ _)
    generalize quoN s (unitN f x s - x) + (if upN mode neg (quoN s (unitN f x s - x)) L then 1 else 0) = Q at *
    have hun : unitN f x s = leastN f - fm f + (riseN f x s : Nat) := rfl
    rw [hun]
    have ew := step_ew f
    have es := step_es f
    have e8 := step_e8 f _ u3
    have e9 := step_e9 f
    have fin : ∀ r : Int × Bool × Bool × Bool × Bool × Bool, r = ((((if overN f (keyN f mode neg x s more) then (if endless mode neg then topN f * 2 ^ fm f else topN f * 2 ^ fm f - 1) else keyN f mode neg x s more) + signN f neg : Nat) : Int), if overN f (keyN f mode neg x s more) then (false, false, true, false, true) else (false, false, false, underN f x s more, inexN f x s more)) → r = ((packN f mode neg x s more : Int), false, false, excN f mode neg x s more) := by
      intro r hr
      rw [hr]
      unfold packN excN
      split <;> rfl
    have hund : underN f x s more = (inexN f x s more && decide (e < leastN f)) := by unfold underN; rw [he3]
    refine Ev.step (fun k => by rw [annealref1_Pack.j4]) ?_
    simp only [ew, es, e8, if_pos (step_n (m := fm f + 1))]
    by_cases cQ : Q = 2 ^ (fm f + 1)
    · have g := fun k c3 => ref_pack_j5 k f mode neg (2 ^ fm f) (riseN f x s + 1) (Nat.le_trans (Nat.succ_le_succ u3) (by decide)) (step_lt f) (fun _ => Nat.le_refl _) (keyN f mode neg x s more) (by rw [hK]; exact (step_key _ _ _ (cQ.trans hsucc)).symm) false false false c3 (inexN f x s more)
      simp only [cQ, if_true, e9]
      by_cases ci : inexN f x s more = true
      · simp only [ci, if_true] at g ⊢
        rw [ci, Bool.true_and] at hund
        rw [← fin _ rfl, hund, ci]
        exact ⟨2, fun n hn => by obtain ⟨m, rfl⟩ : ∃ m, n = m + 2 := ⟨n - 2, by omega⟩; exact (g m _).1⟩
      · rw [Bool.not_eq_true] at ci
        simp only [ci, Bool.false_eq_true, if_false] at g ⊢
        rw [ci, Bool.false_and] at hund
        rw [← fin _ rfl, hund, ci]
        exact ⟨2, fun n hn => by obtain ⟨m, rfl⟩ : ∃ m, n = m + 2 := ⟨n - 2, by omega⟩; exact (g m _).2⟩
    · have g := fun k c3 => ref_pack_j5 k f mode neg Q (riseN f x s) (Nat.le_trans u3 (by decide)) (step_q hqn cQ) hqm (keyN f mode neg x s more) hK false false false c3 (inexN f x s more)
      have cQ' : ¬ ((Q : Int) = ((2 ^ (fm f + 1) : Nat) : Int)) := step_i cQ
      simp only [cQ', if_false]
      by_cases ci : inexN f x s more = true
      · simp only [ci, if_true] at g ⊢
        rw [ci, Bool.true_and] at hund
        rw [← fin _ rfl, hund, ci]
        exact ⟨2, fun n hn => by obtain ⟨m, rfl⟩ : ∃ m, n = m + 2 := ⟨n - 2, by omega⟩; exact (g m _).1⟩
      · rw [Bool.not_eq_true] at ci
        simp only [ci, Bool.false_eq_true, if_false] at g ⊢
        rw [ci, Bool.false_and] at hund
        rw [← fin _ rfl, hund, ci]
        exact ⟨2, fun n hn => by obtain ⟨m, rfl⟩ : ∃ m, n = m + 2 := ⟨n - 2, by omega⟩; exact (g m _).2⟩
end Go.Proofs.Ytngkpekmgahjiaa.Round

/- PhiloxTells: each block, each word, each number below one is the document's, for every key, counter, seed, stream and number. -/
namespace Go.Proofs.Ytngkpekmgahjiaa.Pure
open Go.RowKit Go.Proofs.Ytngkpekmgahjiaa.P Go.Proofs.Ytngkpekmgahjiaa.Num Go.Proofs.Ytngkpekmgahjiaa.Fmt Go.Proofs.Ytngkpekmgahjiaa.Round Go.Proofs.Ytngkpekmgahjiaa.Philox Go.Proofs.YtngkpekmgahjiaaW.PrintWords Go.Proofs.YtngkpekmgahjiaaW.PrintLast Go.Proofs.YtngkpekmgahjiaaW.PrintMore

theorem ref_block_l (k : Nat) : ∀ x a b c d e f : Int, annealref10_Block.l0 k x a b c d e f = philox_Block.l0 k x a b c d e f := by
  induction k with
  | zero => intros; rfl
  | succ k ih =>
    intro x a b c d e f
    rw [annealref10_Block.l0, philox_Block.l0, ih]
    rfl
theorem ref_block (k : Nat) (a b c d e f : Int) : annealref10_Block.f k a b c d e f = philox_Block.f k a b c d e f := ref_block_l k 0 a b c d e f
theorem ref_word (k : Nat) (a b n : Int) : annealref10_Word.f k a b n = philox_Word.f k a b n := by
  unfold annealref10_Word.f philox_Word.f
  rw [ref_block]
theorem ref_below (k : Nat) (a b n m : Int) : annealref10_Below.f k a b n m = philox_Below.f k a b n m := by
  unfold annealref10_Below.f philox_Below.f
  rw [ref_word]
def uniN (s : Nat) : Nat := packN 2 0 false (-24) s false
theorem uni_ev (w : Nat) (hw : w < 4294967296) : Ev (fun k => philox_Uniform.f k (w : Int)) (uniN (w / 256) : Int) := by
  have hd : w / 256 < 18446744073709551616 := by omega
  have h := packs_ev 2 0 false (-24) (w / 256) false hd
  rw [clampE_id (-24) (by omega) (by omega)] at h
  refine Ev.congr (fun k => by unfold philox_Uniform.f; rw [show (w : Int) / 256 = ((w / 256 : Nat) : Int) by omega, u64_id _ hd]) (Ev.bind h (Ev.now _))
theorem ref_uni_ev (w : Nat) (hw : w < 4294967296) : Ev (fun k => annealref10_Uniform.f k (w : Int)) (uniN (w / 256) : Int) := by
  have hd : w / 256 < 18446744073709551616 := by omega
  have h := ref_pack_ev 2 0 false (-24) (w / 256) false hd
  rw [clampE_id (-24) (by omega) (by omega)] at h
  refine Ev.congr (fun k => by unfold annealref10_Uniform.f; rw [show (w : Int) / 256 = ((w / 256 : Nat) : Int) by omega, u64_id _ hd]) (Ev.bind h (Ev.now _))
theorem below_any (a b n m : Int) (hn : 0 ≤ n) : ∃ v, Ev (fun k => philox_Below.f k a b n m) v := by
  obtain ⟨w, h, -⟩ := word_ev a b n hn
  exact ⟨((IntKind.u64.wrap ((IntKind.u64.wrap w) * (IntKind.u64.wrap m))) / 4294967296) % 4294967296, Ev.congr (fun k => by unfold philox_Below.f; rfl) (Ev.bind h (Ev.now _))⟩

theorem tells_loop (d : Nat) : ∀ (i : Nat) (s st w m : Int) (l : List Int) (q0 q1 c0 c1 c2 c3 : Int), i + d = l.length → l.length < 1000 → (∀ x ∈ l, 0 ≤ x) → 0 ≤ w → w < 4294967296 →
    Ev (fun k => anneallaw10_PhiloxTells.l0 k s st w m l (l.length : Int) (i : Int) q0 q1 c0 c1 c2 c3) true := by
  induction d with
  | zero =>
    intro i s st w m l q0 q1 c0 c1 c2 c3 hi hl hp hw hw'
    obtain ⟨w, rfl⟩ := nat_of hw
    obtain ⟨r, hr, -⟩ := block_ev q0 q1 c0 c1 c2 c3
    refine Ev.step (fun k => by rw [anneallaw10_PhiloxTells.l0, if_neg (by omega)]) ?_
    refine Ev.bind hr (Ev.bind (Ev.congr (fun k => ref_block k _ _ _ _ _ _) hr) ?_)
    have e : (r.1 == r.1 && (r.2.1 == r.2.1 && (r.2.2.1 == r.2.2.1 && (r.2.2.2 == r.2.2.2)))) = true := by simp
    refine Ev.congr (fun k => by rw [if_pos e]) (Ev.bind (uni_ev w (by omega)) (Ev.bind (ref_uni_ev w (by omega)) (Ev.congr (fun k => ?_) (Ev.now _))))
    rw [beq_self_eq_true]
  | succ d ih =>
    intro i s st w m l q0 q1 c0 c1 c2 c3 hi hl hp hw hw'
    have hrd : 0 ≤ rd l (i : Int) := by
      have hlt : i < l.length := by omega
      have e : rd l (i : Int) = l[i] := by simp [rd, hlt]
      rw [e]
      exact hp _ (List.getElem_mem hlt)
    obtain ⟨v, hv, -⟩ := word_ev s st (rd l (i : Int)) hrd
    obtain ⟨b, hb⟩ := below_any s st (rd l (i : Int)) m hrd
    refine Ev.step (fun k => by rw [anneallaw10_PhiloxTells.l0, if_pos (show (i : Int) < (l.length : Int) by omega), if_pos (show (0 : Int) ≤ (i : Int) by omega), if_pos (show (i : Int) < (l.length : Int) by omega), w64_id _ (by omega) (by omega)]) ?_
    refine Ev.bind hv (Ev.bind (Ev.congr (fun k => ref_word k _ _ _) hv) (Ev.congr (fun k => by rw [if_pos rfl]) ?_))
    refine Ev.bind hb (Ev.bind (Ev.congr (fun k => ref_below k _ _ _ _) hb) (Ev.congr (fun k => by rw [if_pos rfl]) ?_))
    exact Ev.congr (fun k => by rw [Int.natCast_add]; rfl) (ih (i + 1) s st w m l q0 q1 c0 c1 c2 c3 (by omega) hl hp hw hw')

theorem PhiloxTells (q0 q1 c0 c1 c2 c3 s st w m n : Int) (hw : (Lit.int .u32 w).wf = true) (hn : (Lit.int .u64 n).wf = true) :
    ∃ k, anneallaw10_PhiloxTells.f k q0 q1 c0 c1 c2 c3 s st w m n = some true := by
  apply Ev.rounds
  unfold anneallaw10_PhiloxTells.f
  refine Ev.bind known_ev ?_
  simp only [if_true]
  obtain ⟨w0, w1⟩ := wf_u32 hw
  obtain ⟨n0, n1⟩ := wf_u64 hn
  obtain ⟨n, rfl⟩ := nat_of n0
  have h := tells_loop 3 0 s st w m [(n : Int), Int.tmod n 9, Go.bits .or .u64 n 9223372036854775808] q0 q1 c0 c1 c2 c3 rfl (show (3 : Nat) < 1000 by decide) (by
    intro x hx
    simp only [List.mem_cons, List.not_mem_nil, or_false] at hx
    rcases hx with rfl | rfl | rfl
    · omega
    · rw [Int.tmod_eq_emod_of_nonneg n0]; omega
    · rw [show (9223372036854775808 : Int) = ((9223372036854775808 : Nat) : Int) from rfl, or_u64 _ _ (by omega) (by decide)]; omega) w0 w1
  exact Ev.bind (Ev.now _) (Ev.congr (fun k => rfl) h)
end Go.Proofs.Ytngkpekmgahjiaa.Pure
