/- Roots, turns, products, signs: what layer 1's functions and the reference's compute. -/
import Derived.Test.YtjmihdhclbjaeaaBitsF
import Derived.Test.YtjmihdhclbjaeaaPx10
import Derived.Test.YtjmihdhclbjaeaaPx14
import Derived.Test.YtjmihdhclbjaeaaPx15
import Derived.Test.YtjmihdhclbjaeaaPx7
import Derived.Test.YtjmihdhclbjaeaaPx9
namespace Go.Proofs.Ytjmihdhclbjaeaa.BitsF
open Go.RowKit Go.Proofs.Ytjmihdhclbjaeaa.P Go.Proofs.Ytjmihdhclbjaeaa.Num Go.Proofs.YtjmihdhclbjaeaaW.PrintWords Go.Proofs.YtjmihdhclbjaeaaW.PrintLast Go.Proofs.YtjmihdhclbjaeaaW.PrintMore

/-! ### roots -/
def rootGo : Nat → Nat → Nat → Nat
  | 0, _, r => r
  | j + 1, v, r => if (r + 2 ^ j) * (r + 2 ^ j) ≤ v then rootGo j v (r + 2 ^ j) else rootGo j v r
def rootN (v : Nat) : Nat := rootGo 32 v 0
theorem rootGo_is (j : Nat) : ∀ v r, r * r ≤ v → v < (r + 2 ^ j) * (r + 2 ^ j) → rootGo j v r * rootGo j v r ≤ v ∧ v < (rootGo j v r + 1) * (rootGo j v r + 1) := by
  induction j with
  | zero => intro v r h h'; exact ⟨h, h'⟩
  | succ j ih =>
    intro v r h h'
    unfold rootGo
    by_cases c : (r + 2 ^ j) * (r + 2 ^ j) ≤ v
    · rw [if_pos c]; exact ih v _ c (by rw [Nat.add_assoc, ← Nat.mul_two, ← Nat.pow_succ]; exact h')
    · rw [if_neg c]; exact ih v r h (by omega)
theorem rootGo_lt (j : Nat) : ∀ v r n, r + 2 ^ j ≤ n → rootGo j v r < n := by
  induction j with
  | zero => intro v r n h; unfold rootGo; have := Nat.two_pow_pos 0; omega
  | succ j ih =>
    intro v r n h
    rw [Nat.pow_succ] at h
    unfold rootGo
    split
    · exact ih _ _ _ (by omega)
    · exact ih _ _ _ (by omega)
theorem rootN_is (v : Nat) (hv : v < 18446744073709551616) : rootN v * rootN v ≤ v ∧ v < (rootN v + 1) * (rootN v + 1) := rootGo_is 32 v 0 (by omega) (by omega)
theorem rootN_lt (v : Nat) : rootN v < 4294967296 := rootGo_lt 32 v 0 _ (by decide)
theorem sq_lt {a b : Nat} (h : a < b) : a * a < b * b := Nat.mul_self_lt_mul_self h
theorem rootN_of {v r : Nat} (hv : v < 18446744073709551616) (h : r * r ≤ v) (h' : v < (r + 1) * (r + 1)) : r = rootN v := by
  obtain ⟨a, b⟩ := rootN_is v hv
  rcases Nat.lt_trichotomy r (rootN v) with c | c | c
  · have : (r + 1) * (r + 1) ≤ rootN v * rootN v := Nat.mul_self_le_mul_self c
    omega
  · exact c
  · have : (rootN v + 1) * (rootN v + 1) ≤ r * r := Nat.mul_self_le_mul_self c
    omega
theorem sq32 {a : Nat} (h : a < 4294967296) : a * a < 18446744073709551616 := sq_lt (b := 4294967296) h
theorem beq_cast (a b : Nat) : (((a : Int) == (b : Int)) : Bool) = decide (a = b) := by
  by_cases h : a = b
  · subst h; simp
  · rw [beq_eq_false_iff_ne.mpr (by omega)]; simp [h]
theorem root_l0 (v : Nat) (j : Nat) : ∀ r k : Nat, r % 2 ^ j = 0 → r + 2 ^ j ≤ 4294967296 →
    bits_Root.l0 (j + 1 + k) (v : Int) (r : Int) ((2 ^ j / 2 : Nat) : Int) = some ((rootGo j v r : Int), decide (rootGo j v r * rootGo j v r = v)) := by
  induction j with
  | zero =>
    intro r k h h'
    rw [show 0 + 1 + k = k + 1 by omega, bits_Root.l0, if_neg (by decide)]
    rw [Nat.pow_zero] at h'
    unfold rootGo
    rw [show (r : Int) * (r : Int) = ((r * r : Nat) : Int) by simp, u64_id _ (sq32 (by omega)), beq_cast, Int.emod_eq_of_lt (by omega) (by omega)]
  | succ j ih =>
    intro r k h h'
    have hp := Nat.two_pow_pos j
    have e : 2 ^ (j + 1) / 2 = 2 ^ j := by rw [Nat.pow_succ, Nat.mul_div_cancel _ (by decide)]
    have e2 : ((2 ^ j : Nat) : Int) / 2 = ((2 ^ j / 2 : Nat) : Int) := by omega
    have hh : r % 2 ^ j = 0 := by
      rw [Nat.pow_succ] at h
      have := Nat.mod_mul_right_mod r (2 ^ j) 2
      rw [h] at this; simpa using this.symm
    rw [Nat.pow_succ] at h'
    rw [show j + 1 + 1 + k = (j + 1 + k) + 1 by omega, bits_Root.l0, e, if_pos (by omega), or_u64 _ _ (by omega) (by omega), or_add r (2 ^ j) (j + 1) h (by rw [Nat.pow_succ]; omega)]
    rw [show ((r + 2 ^ j : Nat) : Int) * ((r + 2 ^ j : Nat) : Int) = (((r + 2 ^ j) * (r + 2 ^ j) : Nat) : Int) by simp, u64_id _ (sq32 (by omega)), e2]
    unfold rootGo
    by_cases c : (r + 2 ^ j) * (r + 2 ^ j) ≤ v
    · rw [if_pos (by omega), if_pos c]
      exact ih (r + 2 ^ j) k (by rw [Nat.add_mod_right]; exact hh) (by omega)
    · rw [if_neg (by omega), if_neg c]
      exact ih r k hh (by omega)
theorem root_ev (v : Nat) : Ev (fun k => bits_Root.f k (v : Int)) ((rootN v : Int), decide (rootN v * rootN v = v)) :=
  Ev.of (bits_Root.mono _) (k := 33) (by
    have h := root_l0 v 32 0 0 (by decide) (by decide)
    rw [show ((2 ^ 32 / 2 : Nat) : Int) = 2147483648 by decide, show ((0 : Nat) : Int) = 0 from rfl] at h
    exact h)
theorem ref_root_l0 (v : Nat) (j : Nat) : ∀ r k : Nat, r % 2 ^ j = 0 → r + 2 ^ j ≤ 4294967296 → j ≤ 32 →
    annealref1_Root.l0 (j + 1 + k) (v : Int) (r : Int) ((j : Int) - 1) = some ((rootGo j v r : Int), decide (rootGo j v r * rootGo j v r = v)) := by
  induction j with
  | zero =>
    intro r k h h' _
    rw [show 0 + 1 + k = k + 1 by omega, annealref1_Root.l0, if_neg (by decide)]
    rw [Nat.pow_zero] at h'
    unfold rootGo
    rw [show (r : Int) * (r : Int) = ((r * r : Nat) : Int) by simp, u64_id _ (sq32 (by omega)), beq_cast, Int.emod_eq_of_lt (by omega) (by omega)]
  | succ j ih =>
    intro r k h h' hj
    have hp := Nat.two_pow_pos j
    have hh : r % 2 ^ j = 0 := by
      rw [Nat.pow_succ] at h
      have := Nat.mod_mul_right_mod r (2 ^ j) 2
      rw [h] at this; simpa using this.symm
    rw [Nat.pow_succ] at h'
    have es : shl .u64 1 (j : Int) = ((2 ^ j : Nat) : Int) := by rw [show (1 : Int) = ((1 : Nat) : Int) from rfl, shl_u64, Nat.one_mul, Nat.mod_eq_of_lt (by omega)]
    rw [show j + 1 + 1 + k = (j + 1 + k) + 1 by omega, annealref1_Root.l0, show (((j + 1 : Nat) : Int) - 1) = (j : Int) by omega, if_pos (by omega), if_pos (by omega), es, or_u64 _ _ (by omega) (by omega), or_add r (2 ^ j) (j + 1) h (by rw [Nat.pow_succ]; omega)]
    rw [show ((r + 2 ^ j : Nat) : Int) * ((r + 2 ^ j : Nat) : Int) = (((r + 2 ^ j) * (r + 2 ^ j) : Nat) : Int) by simp, u64_id _ (sq32 (by omega)), w64_id _ (by omega) (by omega)]
    unfold rootGo
    by_cases c : (r + 2 ^ j) * (r + 2 ^ j) ≤ v
    · rw [if_pos (by omega), if_pos c]
      exact ih (r + 2 ^ j) k (by rw [Nat.add_mod_right]; exact hh) (by omega) (by omega)
    · rw [if_neg (by omega), if_neg c]
      exact ih r k hh (by omega) (by omega)
theorem ref_root_ev (v : Nat) : Ev (fun k => annealref1_Root.f k (v : Int)) ((rootN v : Int), decide (rootN v * rootN v = v)) :=
  Ev.of (annealref1_Root.mono _) (k := 33) (by
    have h := ref_root_l0 v 32 0 0 (by decide) (by decide) (by decide)
    rw [show ((32 : Nat) : Int) - 1 = 31 by decide, show ((0 : Nat) : Int) = 0 from rfl] at h
    exact h)

/-! ### turns -/
def rotN (v s : Nat) : Nat := v * 2 ^ s % 4294967296 + v / 2 ^ (32 - s)
theorem and_i64 (x : Int) (n : Nat) (hn : n ≤ 62) : Go.bits .and .i64 x ((2 ^ n - 1 : Nat) : Int) = x % ((2 ^ n : Nat) : Int) := by
  have hp : (2 : Nat) ^ n ≤ 2 ^ 62 := Nat.pow_le_pow_right (by decide) hn
  have h0 : 0 < 2 ^ n := Nat.two_pow_pos n
  have e : (BitVec.ofInt 64 x &&& BitVec.ofInt 64 ((2 ^ n - 1 : Nat) : Int)).toNat = (x % ((2 ^ n : Nat) : Int)).toNat := by
    rw [BitVec.toNat_and, BitVec.ofInt_natCast, BitVec.toNat_ofNat, Nat.mod_eq_of_lt (show 2 ^ n - 1 < 2 ^ 64 by omega), Nat.and_two_pow_sub_one_eq_mod, BitVec.toNat_ofInt]
    have hd : ((2 ^ n : Nat) : Int) ∣ ((2 ^ 64 : Nat) : Int) := Int.natCast_dvd_natCast.mpr (Nat.pow_dvd_pow 2 (by omega))
    have h1 : 0 ≤ x % ((2 ^ 64 : Nat) : Int) := Int.emod_nonneg _ (by decide)
    have h2 := Int.emod_emod_of_dvd x hd
    have h3 : ((x % ((2 ^ 64 : Nat) : Int)).toNat % 2 ^ n : Nat) = ((x % ((2 ^ 64 : Nat) : Int)) % ((2 ^ n : Nat) : Int)).toNat := by
      obtain ⟨m, hm⟩ := nat_of h1
      rw [hm, Int.toNat_natCast, ← Int.natCast_emod, Int.toNat_natCast]
    rw [h2] at h3; exact h3
  have hb : x % ((2 ^ n : Nat) : Int) < ((2 ^ n : Nat) : Int) := Int.emod_lt_of_pos _ (by omega)
  have hc : 0 ≤ x % ((2 ^ n : Nat) : Int) := Int.emod_nonneg _ (by omega)
  show IntKind.i64.wrap (((BitVec.ofInt 64 x &&& BitVec.ofInt 64 ((2 ^ n - 1 : Nat) : Int)).toNat : Nat) : Int) = _
  rw [e, i64_wrap, w64_id] <;> omega
theorem pow32 {s : Nat} (h : s ≤ 32) : 2 ^ s * 2 ^ (32 - s) = 4294967296 := by rw [← Nat.pow_add, show s + (32 - s) = 32 by omega]
theorem rot_or (v s : Nat) (hv : v < 4294967296) (hs : s ≤ 32) : v * 2 ^ s % 4294967296 ||| v / 2 ^ (32 - s) = rotN v s := by
  unfold rotN
  apply or_add _ _ s
  · rw [← pow32 hs, Nat.mul_comm v, Nat.mul_mod_mul_left, Nat.mul_mod_right]
  · rw [Nat.div_lt_iff_lt_mul (Nat.two_pow_pos _), pow32 hs]; exact hv
theorem rot_lt (v s : Nat) (hv : v < 4294967296) (hs : s ≤ 32) : rotN v s < 4294967296 := by
  rw [← rot_or v s hv hs]
  apply Nat.or_lt_two_pow (n := 32)
  · exact Nat.mod_lt _ (by decide)
  · exact Nat.lt_of_le_of_lt (Nat.div_le_self _ _) hv
theorem rot_div (v s : Nat) (hs : s ≤ 32) : v * 2 ^ s / 4294967296 = v / 2 ^ (32 - s) := by
  rw [← pow32 hs, Nat.mul_comm v, Nat.mul_div_mul_left _ _ (Nat.two_pow_pos _)]
/-- A turned number is that power's product, round 2^32 - 1. -/
theorem rot_eq (v s : Nat) (hs : s ≤ 32) : v * 2 ^ s = rotN v s + v / 2 ^ (32 - s) * 4294967295 := by
  have := Nat.div_add_mod (v * 2 ^ s) 4294967296
  rw [rot_div v s hs] at this
  unfold rotN
  generalize v / 2 ^ (32 - s) = q at *
  omega
theorem rot_zero (v s : Nat) (hs : s ≤ 32) : rotN v s = 0 ↔ v = 0 := by
  constructor
  · intro h
    unfold rotN at h
    obtain ⟨a, b⟩ := Nat.add_eq_zero_iff.mp h
    have d := Nat.div_add_mod (v * 2 ^ s) 4294967296
    rw [rot_div v s hs, a, b] at d
    rcases Nat.mul_eq_zero.mp (show v * 2 ^ s = 0 by omega) with h | h
    · exact h
    · have := Nat.two_pow_pos s; omega
  · rintro rfl; simp [rotN]
theorem rot_unique {x y : Nat} (hx : x < 4294967296) (hy : y < 4294967296) (h : x % 4294967295 = y % 4294967295) (h0 : x = 0 ↔ y = 0) : x = y := by omega
theorem rot_mod (v s : Nat) (hs : s ≤ 32) : rotN v s % 4294967295 = v * 2 ^ s % 4294967295 := by
  rw [rot_eq v s hs, Nat.add_mul_mod_self_right]
theorem rot_rot (v a b c : Nat) (hv : v < 4294967296) (ha : a ≤ 32) (hb : b ≤ 32) (hc : c ≤ 32) (h : (a + b) % 32 = c % 32) : rotN (rotN v a) b = rotN v c := by
  apply rot_unique (rot_lt _ _ (rot_lt v a hv ha) hb) (rot_lt _ _ hv hc)
  · rw [rot_mod _ _ hb, Nat.mul_mod, rot_mod _ _ ha, ← Nat.mul_mod, Nat.mul_assoc, ← Nat.pow_add, rot_mod _ _ hc]
    have key : ∀ n, v * 2 ^ n % 4294967295 = v * 2 ^ (n % 32) % 4294967295 := by
      intro n
      have e : 2 ^ n = (2 ^ 32) ^ (n / 32) * 2 ^ (n % 32) := by rw [← Nat.pow_mul, ← Nat.pow_add]; congr 1; omega
      have o : (2 ^ 32 : Nat) ^ (n / 32) % 4294967295 = 1 := by rw [Nat.pow_mod]; simp
      rw [e, Nat.mul_left_comm, Nat.mul_mod, o, Nat.one_mul, Nat.mod_mod]
    rw [key (a + b), key c, h]
  · rw [rot_zero _ _ hb, rot_zero _ _ ha, rot_zero _ _ hc]
theorem rot_id (v : Nat) (hv : v < 4294967296) : rotN v 0 = v := by
  unfold rotN; rw [Nat.pow_zero, Nat.mul_one, Nat.mod_eq_of_lt hv, Nat.div_eq_of_lt (by simpa using hv)]; omega
theorem rotate_f (v : Nat) (hv : v < 4294967296) (n : Int) : bits_Rotate.f (v : Int) n = some (rotN v (n % 32).toNat : Int) := by
  unfold bits_Rotate.f bits_RotateLeft32.f
  have e := and_i64 n 5 (by decide)
  rw [show ((2 ^ 5 - 1 : Nat) : Int) = 31 from rfl, show ((2 ^ 5 : Nat) : Int) = 32 from rfl] at e
  obtain ⟨s, hs⟩ := nat_of (show 0 ≤ n % 32 by omega)
  have hlt : s < 32 := by omega
  have m := mask_u64 s 5 (by omega) (by decide)
  rw [show ((2 ^ 5 - 1 : Nat) : Int) = 31 from rfl, Nat.mod_eq_of_lt (show s < 2 ^ 5 by omega)] at m
  rw [e, hs, u64_id _ (by omega), m, if_pos (by omega), show (32 : Int) - (s : Int) = ((32 - s : Nat) : Int) by omega, u64_id _ (by omega), if_pos (by omega), shl_u32, shr_u32 _ _ hv, or_u32 _ _ (Nat.mod_lt _ (by decide)) (Nat.lt_of_le_of_lt (Nat.div_le_self _ _) hv), rot_or _ _ hv (by omega), Int.toNat_natCast]
  rfl
theorem ref_rot_l0 (j : Nat) : ∀ v k : Nat, v < 4294967296 → j < 32 → annealref1_Rotate.l0 (j + 1 + k) (v : Int) (j : Int) = some (rotN v j : Int) := by
  induction j with
  | zero =>
    intro v k hv _
    rw [show 0 + 1 + k = k + 1 by omega, annealref1_Rotate.l0, if_neg (by decide), rot_id v hv]
  | succ j ih =>
    intro v k hv hj
    have e1 : (v : Int) * 2 % 4294967296 = ((v * 2 ^ 1 % 4294967296 : Nat) : Int) := by omega
    have e2 : (v : Int) / 2147483648 = ((v / 2 ^ (32 - 1) : Nat) : Int) := by omega
    rw [show j + 1 + 1 + k = (j + 1 + k) + 1 by omega, annealref1_Rotate.l0, if_pos (by omega), e1, e2, or_u32 _ _ (Nat.mod_lt _ (by decide)) (Nat.lt_of_le_of_lt (Nat.div_le_self _ _) hv), rot_or _ _ hv (by decide), w64_id _ (by omega) (by omega), show (((j + 1 : Nat) : Int) - 1) = (j : Int) by omega]
    rw [ih _ k (rot_lt _ _ hv (by decide)) (by omega), rot_rot v 1 j (j + 1) hv (by decide) (by omega) (by omega) (by omega)]
theorem ref_rotate_ev (v : Nat) (hv : v < 4294967296) (n : Int) : Ev (fun k => annealref1_Rotate.f k (v : Int) n) (rotN v (n % 32).toNat : Int) := by
  refine Ev.of (annealref1_Rotate.mono _ _) (k := 34) ?_
  unfold annealref1_Rotate.f
  obtain ⟨s, hs⟩ := nat_of (show 0 ≤ n % 32 by omega)
  have hlt : s < 32 := by omega
  have hl := ref_rot_l0 s v (32 - s) hv hlt
  rw [show s + 1 + (32 - s) = 33 by omega] at hl
  by_cases c : Int.tmod n 32 < 0
  · have e : Int.tmod n 32 + 32 = (s : Int) := by
      have := Int.tmod_eq_emod (a := n) (b := 32)
      split at this <;> omega
    rw [if_pos c, w64_id _ (by omega) (by omega), e, annealref1_Rotate.j0, hl, hs, Int.toNat_natCast]
  · have e : Int.tmod n 32 = (s : Int) := by
      have := Int.tmod_eq_emod (a := n) (b := 32)
      split at this <;> omega
    rw [if_neg c, e, annealref1_Rotate.j0, hl, hs, Int.toNat_natCast]

/-! ### products -/
theorem mul_parts (a b : Nat) : ∃ x1 x0 y1 y0 : Nat, x1 = a / 4294967296 ∧ x0 = a % 4294967296 ∧ y1 = b / 4294967296 ∧ y0 = b % 4294967296 ∧ a * b = x1 * y1 * 18446744073709551616 + (x1 * y0 + x0 * y1) * 4294967296 + x0 * y0 := by
  refine ⟨_, _, _, _, rfl, rfl, rfl, rfl, ?_⟩
  have ha := Nat.div_add_mod a 4294967296
  have hb := Nat.div_add_mod b 4294967296
  generalize a / 4294967296 = x1 at *
  generalize a % 4294967296 = x0 at *
  generalize b / 4294967296 = y1 at *
  generalize b % 4294967296 = y0 at *
  subst ha hb
  simp only [Nat.mul_add, Nat.add_mul]
  have e1 : 4294967296 * x1 * (4294967296 * y1) = x1 * y1 * 18446744073709551616 := by
    rw [Nat.mul_mul_mul_comm, Nat.mul_comm]
  have e2 : x0 * (4294967296 * y1) = x0 * y1 * 4294967296 := by rw [Nat.mul_left_comm, Nat.mul_comm]
  have e3 : 4294967296 * x1 * y0 = x1 * y0 * 4294967296 := by rw [Nat.mul_assoc, Nat.mul_comm]
  omega
theorem part_le {x y : Nat} (hx : x < 4294967296) (hy : y < 4294967296) : x * y ≤ 18446744065119617025 :=
  Nat.mul_le_mul (show x ≤ 4294967295 by omega) (show y ≤ 4294967295 by omega)
theorem mul64_f (a b : Nat) (ha : a < 18446744073709551616) (hb : b < 18446744073709551616) :
    bits_Mul64.f (a : Int) (b : Int) = some (((a * b / 18446744073709551616 : Nat) : Int), ((a * b % 18446744073709551616 : Nat) : Int)) := by
  unfold bits_Mul64.f
  obtain ⟨x1, x0, y1, y0, e1, e2, e3, e4, h⟩ := mul_parts a b
  rw [and32_u64 a ha, and32_u64 b hb, show (a : Int) / 4294967296 = (x1 : Int) by omega, show (b : Int) / 4294967296 = (y1 : Int) by omega, ← e2, ← e4]
  have l00 := part_le (show x0 < 4294967296 by omega) (show y0 < 4294967296 by omega)
  have l10 := part_le (show x1 < 4294967296 by omega) (show y0 < 4294967296 by omega)
  have l01 := part_le (show x0 < 4294967296 by omega) (show y1 < 4294967296 by omega)
  have l11 := part_le (show x1 < 4294967296 by omega) (show y1 < 4294967296 by omega)
  rw [show (x1 : Int) * (y1 : Int) = ((x1 * y1 : Nat) : Int) by simp, show (x1 : Int) * (y0 : Int) = ((x1 * y0 : Nat) : Int) by simp, show (x0 : Int) * (y0 : Int) = ((x0 * y0 : Nat) : Int) by simp, show (x0 : Int) * (y1 : Int) = ((x0 * y1 : Nat) : Int) by simp, show (a : Int) * (b : Int) = ((a * b : Nat) : Int) by simp, u64_nat (a * b)]
  generalize x1 * y1 = p11 at *
  generalize x1 * y0 = p10 at *
  generalize x0 * y1 = p01 at *
  generalize x0 * y0 = p00 at *
  rw [u64_id p11 (by omega), u64_id p10 (by omega), u64_id p00 (by omega), u64_id p01 (by omega)]
  rw [show (p00 : Int) / 4294967296 = ((p00 / 4294967296 : Nat) : Int) by omega, show (p10 : Int) + ((p00 / 4294967296 : Nat) : Int) = ((p10 + p00 / 4294967296 : Nat) : Int) by omega, u64_id _ (by omega), and32_u64 _ (by omega)]
  rw [show ((p10 + p00 / 4294967296 : Nat) : Int) / 4294967296 = (((p10 + p00 / 4294967296) / 4294967296 : Nat) : Int) by omega, show (p11 : Int) + (((p10 + p00 / 4294967296) / 4294967296 : Nat) : Int) = ((p11 + (p10 + p00 / 4294967296) / 4294967296 : Nat) : Int) by omega, u64_id _ (by omega)]
  rw [show (((p10 + p00 / 4294967296) % 4294967296 : Nat) : Int) + (p01 : Int) = (((p10 + p00 / 4294967296) % 4294967296 + p01 : Nat) : Int) by omega, u64_id _ (by omega), u64_wrap]
  congr 2
  rw [h]; omega
theorem product_f (a b : Nat) (ha : a < 18446744073709551616) (hb : b < 18446744073709551616) :
    bits_Product.f (a : Int) (b : Int) = some (((a * b / 18446744073709551616 : Nat) : Int), ((a * b % 18446744073709551616 : Nat) : Int)) := by
  unfold bits_Product.f; rw [mul64_f a b ha hb]; rfl
theorem ref_product_f (a b : Nat) (ha : a < 18446744073709551616) (hb : b < 18446744073709551616) :
    annealref1_Product.f (a : Int) (b : Int) = some (((a * b / 18446744073709551616 : Nat) : Int), ((a * b % 18446744073709551616 : Nat) : Int)) := by
  unfold annealref1_Product.f
  obtain ⟨x1, x0, y1, y0, e1, e2, e3, e4, h⟩ := mul_parts a b
  rw [and32_u64 a ha, and32_u64 b hb, show (a : Int) / 4294967296 = (x1 : Int) by omega, show (b : Int) / 4294967296 = (y1 : Int) by omega, ← e2, ← e4]
  have l00 := part_le (show x0 < 4294967296 by omega) (show y0 < 4294967296 by omega)
  have l10 := part_le (show x1 < 4294967296 by omega) (show y0 < 4294967296 by omega)
  have l01 := part_le (show x0 < 4294967296 by omega) (show y1 < 4294967296 by omega)
  have l11 := part_le (show x1 < 4294967296 by omega) (show y1 < 4294967296 by omega)
  rw [show (x1 : Int) * (y1 : Int) = ((x1 * y1 : Nat) : Int) by simp, show (x1 : Int) * (y0 : Int) = ((x1 * y0 : Nat) : Int) by simp, show (x0 : Int) * (y0 : Int) = ((x0 * y0 : Nat) : Int) by simp, show (x0 : Int) * (y1 : Int) = ((x0 * y1 : Nat) : Int) by simp, h]
  generalize x1 * y1 = p11 at *
  generalize x1 * y0 = p10 at *
  generalize x0 * y1 = p01 at *
  generalize x0 * y0 = p00 at *
  rw [u64_id p11 (by omega), u64_id p10 (by omega), u64_id p00 (by omega), u64_id p01 (by omega), and32_u64 p10 (by omega), and32_u64 p01 (by omega), and32_u64 p00 (by omega)]
  rw [show (p00 : Int) / 4294967296 = ((p00 / 4294967296 : Nat) : Int) by omega, show ((p00 / 4294967296 : Nat) : Int) + ((p10 % 4294967296 : Nat) : Int) = ((p00 / 4294967296 + p10 % 4294967296 : Nat) : Int) by omega, u64_id _ (by omega), show ((p00 / 4294967296 + p10 % 4294967296 : Nat) : Int) + ((p01 % 4294967296 : Nat) : Int) = ((p00 / 4294967296 + p10 % 4294967296 + p01 % 4294967296 : Nat) : Int) by omega, u64_id _ (by omega)]
  rw [show ((p00 / 4294967296 + p10 % 4294967296 + p01 % 4294967296 : Nat) : Int) * 4294967296 = (((p00 / 4294967296 + p10 % 4294967296 + p01 % 4294967296) * 4294967296 : Nat) : Int) by omega, u64_nat, or_u64 _ _ (by omega) (Nat.mod_lt _ (by decide)), Nat.or_comm, or_add _ (p00 % 4294967296) 32 (by omega) (by omega)]
  simp only [u64_wrap]
  congr 2 <;> omega
end Go.Proofs.Ytjmihdhclbjaeaa.BitsF
