import Derived.Test.YtejkemahdincjaaQftWMore
import Derived.Test.YtejkemahdincjaaQftM2
import Derived.Test.YtejkemahdincjaaQftM3
import Derived.Test.YtejkemahdincjaaQftM1
import Derived.Test.YtejkemahdincjaaQftM4
import Derived.Test.YtejkemahdincjaaQftM5
import Derived.Test.YtejkemahdincjaaQftZ
/- Plain facts about whole numbers in their kinds: wraps, shifts, bits, as numbers from nought on. -/
set_option linter.unusedVariables false
set_option linter.unusedSimpArgs false
namespace Go.Proofs.Ytejkemahdincjaa.Num
open Go.RowKit Go.Proofs.YtejkemahdincjaaW.PrintWords Go.Proofs.YtejkemahdincjaaW.PrintLast Go.Proofs.YtejkemahdincjaaW.PrintMore

theorem u64_wrap (n : Int) : IntKind.u64.wrap n = n % 18446744073709551616 := by simp [IntKind.wrap, IntKind.bits, IntKind.signed]
theorem u32_wrap (n : Int) : IntKind.u32.wrap n = n % 4294967296 := by simp [IntKind.wrap, IntKind.bits, IntKind.signed]
theorem i64_wrap (n : Int) : IntKind.i64.wrap n = wrap64 n := by rw [i64_w]
theorem u64_nat (n : Nat) : IntKind.u64.wrap (n : Int) = ((n % 18446744073709551616 : Nat) : Int) := by rw [u64_wrap]; omega
theorem u64_id (n : Nat) (h : n < 18446744073709551616) : IntKind.u64.wrap (n : Int) = (n : Int) := by rw [u64_wrap]; omega
theorem w64_id (n : Int) (h : -9223372036854775808 ≤ n) (h' : n ≤ 9223372036854775807) : wrap64 n = n := by unfold wrap64; omega
theorem wf_u32 {n : Int} (h : (Lit.int .u32 n).wf = true) : 0 ≤ n ∧ n < 4294967296 := by
 simp [Lit.wf, IntKind.min, IntKind.max, IntKind.bits, IntKind.signed] at h; omega
theorem wf_u8 {n : Int} (h : (Lit.int .u8 n).wf = true) : 0 ≤ n ∧ n < 256 := by
 simp [Lit.wf, IntKind.min, IntKind.max, IntKind.bits, IntKind.signed] at h; omega
theorem nat_of {n : Int} (h : 0 ≤ n) : ∃ m : Nat, n = (m : Int) := ⟨n.toNat, by omega⟩

theorem pow_cast (n : Nat) : ((2 ^ n : Nat) : Int) = (2 : Int) ^ n := by simp

theorem shr_nat (k : IntKind) (v n : Nat) (hv : v < 2 ^ k.bits) : shr k (v : Int) (n : Int) = ((v / 2 ^ n : Nat) : Int) := by
 unfold shr
 rw [Int.toNat_natCast]
 by_cases h : n ≤ k.bits
 ·rw [Nat.min_eq_left h]; simp
 ·rw [Nat.min_eq_right (by omega), Nat.div_eq_of_lt (show v < 2 ^ n from Nat.lt_of_lt_of_le hv (Nat.pow_le_pow_right (by decide) (by omega)))]
  have : v / 2 ^ k.bits = 0 := Nat.div_eq_of_lt hv
  have e : ((v : Int) / 2 ^ k.bits) = ((v / 2 ^ k.bits : Nat) : Int) := by simp
  rw [e, this]
theorem shr_u64 (v n : Nat) (hv : v < 18446744073709551616) : shr .u64 (v : Int) (n : Int) = ((v / 2 ^ n : Nat) : Int) := shr_nat .u64 v n hv
theorem shr_u32 (v n : Nat) (hv : v < 4294967296) : shr .u32 (v : Int) (n : Int) = ((v / 2 ^ n : Nat) : Int) := shr_nat .u32 v n hv
theorem shl_u64 (v n : Nat) : shl .u64 (v : Int) (n : Int) = ((v * 2 ^ n % 18446744073709551616 : Nat) : Int) := by
 unfold shl
 rw [Int.toNat_natCast]
 by_cases h : n ≤ 64
 ·rw [show IntKind.u64.bits = 64 from rfl, Nat.min_eq_left h, show (v : Int) * 2 ^ n = ((v * 2 ^ n : Nat) : Int) by simp, u64_nat]
 ·have e : (2 : Nat) ^ n = 18446744073709551616 * 2 ^ (n - 64) := by rw [show 18446744073709551616 = 2 ^ 64 from rfl, ← Nat.pow_add]; congr 1; omega
  rw [Nat.min_eq_right (show IntKind.u64.bits ≤ n by show 64 ≤ n; omega), show (v : Int) * 2 ^ IntKind.u64.bits = ((v * 18446744073709551616 : Nat) : Int) by simp [IntKind.bits], u64_nat, Nat.mul_mod_left, e, ← Nat.mul_assoc, Nat.mul_comm v, Nat.mul_assoc, Nat.mul_mod_right]
theorem shl_u32 (v n : Nat) : shl .u32 (v : Int) (n : Int) = ((v * 2 ^ n % 4294967296 : Nat) : Int) := by
 unfold shl
 rw [Int.toNat_natCast]
 by_cases h : n ≤ 32
 ·rw [show IntKind.u32.bits = 32 from rfl, Nat.min_eq_left h, show (v : Int) * 2 ^ n = ((v * 2 ^ n : Nat) : Int) by simp, u32_wrap]; omega
 ·have e : (2 : Nat) ^ n = 4294967296 * 2 ^ (n - 32) := by rw [show 4294967296 = 2 ^ 32 from rfl, ← Nat.pow_add]; congr 1; omega
  rw [Nat.min_eq_right (show IntKind.u32.bits ≤ n by show 32 ≤ n; omega), show (v : Int) * 2 ^ IntKind.u32.bits = ((v * 4294967296 : Nat) : Int) by simp [IntKind.bits], u32_wrap, e, ← Nat.mul_assoc, Nat.mul_comm v, Nat.mul_assoc, Nat.mul_mod_right]; omega

theorem wraps_u64 (n : Int) (h₀ : 0 ≤ n) (h₁ : n < 2 ^ 64) : IntKind.u64.wrap n = n := by rw [u64_wrap]; omega
theorem wraps_u32 (n : Int) (h₀ : 0 ≤ n) (h₁ : n < 2 ^ 32) : IntKind.u32.wrap n = n := by rw [u32_wrap]; omega
theorem and_u64 (a b : Nat) (ha : a < 18446744073709551616) (hb : b < 18446744073709551616) : Go.bits .and .u64 a b = ((a &&& b : Nat) : Int) := (bits_nat .u64 64 (by decide) wraps_u64 a b ha hb).1
theorem or_u64 (a b : Nat) (ha : a < 18446744073709551616) (hb : b < 18446744073709551616) : Go.bits .or .u64 a b = ((a ||| b : Nat) : Int) := (bits_nat .u64 64 (by decide) wraps_u64 a b ha hb).2
theorem and_u32 (a b : Nat) (ha : a < 4294967296) (hb : b < 4294967296) : Go.bits .and .u32 a b = ((a &&& b : Nat) : Int) := (bits_nat .u32 32 (by decide) wraps_u32 a b ha hb).1
theorem or_u32 (a b : Nat) (ha : a < 4294967296) (hb : b < 4294967296) : Go.bits .or .u32 a b = ((a ||| b : Nat) : Int) := (bits_nat .u32 32 (by decide) wraps_u32 a b ha hb).2
theorem xor_u32 (a b : Nat) (ha : a < 4294967296) (hb : b < 4294967296) : Go.bits .xor .u32 a b = ((a ^^^ b : Nat) : Int) := by
 have e : (BitVec.ofInt 32 (a : Int) ^^^ BitVec.ofInt 32 (b : Int)).toNat = a ^^^ b := by
  rw [BitVec.toNat_xor, BitVec.ofInt_natCast, BitVec.ofInt_natCast, BitVec.toNat_ofNat, BitVec.toNat_ofNat, Nat.mod_eq_of_lt ha, Nat.mod_eq_of_lt hb]
 show IntKind.u32.wrap (((BitVec.ofInt 32 (a : Int) ^^^ BitVec.ofInt 32 (b : Int)).toNat : Nat) : Int) = _
 rw [e]
 exact wraps_u32 _ (Int.natCast_nonneg _) (by exact_mod_cast Nat.xor_lt_two_pow (n := 32) ha hb)
theorem mask_u64 (a n : Nat) (ha : a < 18446744073709551616) (hn : n ≤ 64) : Go.bits .and .u64 a ((2 ^ n - 1 : Nat) : Int) = ((a % 2 ^ n : Nat) : Int) := by
 have h : 2 ^ n - 1 < 18446744073709551616 := by
  have := Nat.pow_le_pow_right (show 0 < 2 by decide) hn
  have : 0 < 2 ^ n := Nat.two_pow_pos n
  omega
 rw [and_u64 a _ ha h, Nat.and_two_pow_sub_one_eq_mod]
theorem and1_u64 (a : Nat) (ha : a < 18446744073709551616) : Go.bits .and .u64 a 1 = ((a % 2 : Nat) : Int) := mask_u64 a 1 ha (by decide)
theorem or_add (a b n : Nat) (ha : a % 2 ^ n = 0) (hb : b < 2 ^ n) : a ||| b = a + b := by
 have hq : a = 2 ^ n * (a / 2 ^ n) := by have := Nat.div_add_mod a (2 ^ n); omega
 have := Nat.two_pow_add_eq_or_of_lt hb (a / 2 ^ n)
 rw [← hq] at this
 exact this.symm
end Go.Proofs.Ytejkemahdincjaa.Num

/- What the functions of layer 1 compute, as plain numbers. -/
namespace Go.Proofs.Ytejkemahdincjaa.BitsF
open Go.RowKit Go.Proofs.Ytejkemahdincjaa.P Go.Proofs.Ytejkemahdincjaa.Num Go.Proofs.YtejkemahdincjaaW.PrintWords Go.Proofs.YtejkemahdincjaaW.PrintLast Go.Proofs.YtejkemahdincjaaW.PrintMore

def shiftN (v : Nat) (n : Int) : Nat × Bool :=
 if 0 ≤ n then (v / 2 ^ n.toNat, decide (v % 2 ^ n.toNat ≠ 0)) else (v * 2 ^ (-n).toNat % 18446744073709551616, decide (18446744073709551616 ≤ v * 2 ^ (-n).toNat))
theorem shiftN_right (v n : Nat) : shiftN v (n : Int) = (v / 2 ^ n, decide (v % 2 ^ n ≠ 0)) := by
 unfold shiftN; rw [if_pos (by omega)]; simp
theorem shiftN_left (v n : Nat) (hv : v < 18446744073709551616) : shiftN v (-(n : Int)) = (v * 2 ^ n % 18446744073709551616, decide (18446744073709551616 ≤ v * 2 ^ n)) := by
 unfold shiftN
 by_cases h : n = 0
 ·subst h; simp [Nat.mod_one]; omega
 ·rw [if_neg (by omega)]; simp

theorem pow_big {n : Nat} (h : 64 ≤ n) : 18446744073709551616 ≤ 2 ^ n := by
 have : 2 ^ 64 ≤ 2 ^ n := Nat.pow_le_pow_right (by decide) h
 omega
theorem pow_dvd {n : Nat} (h : n ≤ 64) : 2 ^ n * 2 ^ (64 - n) = 18446744073709551616 := by
 rw [← Nat.pow_add, show n + (64 - n) = 64 by omega]
theorem back_ne (v n : Nat) : decide (v / 2 ^ n * 2 ^ n ≠ v) = decide (v % 2 ^ n ≠ 0) := by
 have := Nat.div_add_mod v (2 ^ n)
 rw [Nat.mul_comm] at this
 congr 1
 apply propext
 constructor <;> intro h <;> omega
theorem left_back (v n : Nat) (hn : n ≤ 64) : decide ((v * 2 ^ n % 18446744073709551616) / 2 ^ n ≠ v) = decide (18446744073709551616 ≤ v * 2 ^ n) := by
 have hp : 0 < 2 ^ n := Nat.two_pow_pos n
 have e : v * 2 ^ n % 18446744073709551616 = (v % 2 ^ (64 - n)) * 2 ^ n := by
  rw [← pow_dvd hn, Nat.mul_comm (2 ^ n), Nat.mul_mod_mul_right]
 rw [e, Nat.mul_div_cancel _ hp]
 congr 1
 apply propext
 have hq : 0 < 2 ^ (64 - n) := Nat.two_pow_pos _
 have d := pow_dvd hn
 constructor
 ·intro h
  have : 2 ^ (64 - n) ≤ v := by
   apply Nat.le_of_not_lt; intro hlt; exact h (Nat.mod_eq_of_lt hlt)
  calc 18446744073709551616 = 2 ^ (64 - n) * 2 ^ n := by rw [Nat.mul_comm]; exact d.symm
   _ ≤ v * 2 ^ n := Nat.mul_le_mul_right _ this
 ·intro h h'
  have hlt : v < 2 ^ (64 - n) := by rw [← h']; exact Nat.mod_lt _ hq
  have : v * 2 ^ n < 2 ^ (64 - n) * 2 ^ n := Nat.mul_lt_mul_of_pos_right hlt hp
  rw [Nat.mul_comm (2 ^ (64 - n)), d] at this
  omega
theorem bne_cast (a b : Nat) : (((a : Int) != (b : Int)) : Bool) = decide (a ≠ b) := by
 by_cases h : a = b
 ·subst h; simp
 ·rw [bne_iff_ne.mpr (by omega)]; simp [h]

theorem shift_f (v : Nat) (hv : v < 18446744073709551616) (n : Int) (h1 : -9223372036854775808 ≤ n) (h2 : n ≤ 9223372036854775807) (k : Nat) :
  bits_Shift.f (k + 1) (v : Int) n = some ((((shiftN v n).1 : Nat) : Int), (shiftN v n).2) := by
 unfold bits_Shift.f
 by_cases c : n ≥ 64
 ·rw [if_pos c]
  simp only [bits_Shift.j0, if_true]
  obtain ⟨m, rfl⟩ := nat_of (show 0 ≤ n by omega)
  rw [shiftN_right]
  have := pow_big (show 64 ≤ m by omega)
  rw [Nat.div_eq_of_lt (by omega), Nat.mod_eq_of_lt (by omega), ← bne_cast]; rfl
 ·rw [if_neg c]
  by_cases c' : n ≤ -64
  ·rw [decide_eq_true c']
   simp only [bits_Shift.j0, if_true]
   obtain ⟨m, hm⟩ := nat_of (show 0 ≤ -n by omega)
   obtain rfl : n = -(m : Int) := by omega
   rw [shiftN_left _ _ hv]
   have hb := pow_big (show 64 ≤ m by omega)
   have e : (2 : Nat) ^ m = 18446744073709551616 * 2 ^ (m - 64) := by rw [show 18446744073709551616 = 2 ^ 64 from rfl, ← Nat.pow_add]; congr 1; omega
   have e1 : v * 2 ^ m % 18446744073709551616 = 0 := by rw [e, ← Nat.mul_assoc, Nat.mul_comm v, Nat.mul_assoc, Nat.mul_mod_right]
   have e2 : decide (18446744073709551616 ≤ v * 2 ^ m) = decide (v ≠ 0) := by
    congr 1; apply propext
    constructor
    ·intro h h0; subst h0; omega
    ·intro h
     calc 18446744073709551616 ≤ 2 ^ m := hb
      _ = 1 * 2 ^ m := (Nat.one_mul _).symm
      _ ≤ v * 2 ^ m := Nat.mul_le_mul_right _ (by omega)
   simp only [e1, e2]
   rw [← bne_cast]; rfl
  ·rw [decide_eq_false c']
   simp only [bits_Shift.j0, Bool.false_eq_true, if_false]
   by_cases c0 : n ≥ 0
   ·rw [if_pos c0]
    obtain ⟨m, rfl⟩ := nat_of c0
    rw [u64_id _ (by omega), if_pos (by omega), shr_u64 _ _ hv, shl_u64, bne_cast, shiftN_right]
    have hle : v / 2 ^ m * 2 ^ m ≤ v := Nat.div_mul_le_self _ _
    rw [Nat.mod_eq_of_lt (by omega), back_ne]
   ·rw [if_neg c0]
    obtain ⟨m, hm⟩ := nat_of (show 0 ≤ -n by omega)
    obtain rfl : n = -(m : Int) := by omega
    rw [Int.neg_neg, w64_id _ (by omega) (by omega), u64_id _ (by omega), if_pos (by omega), shl_u64, shr_u64 _ _ (Nat.mod_lt _ (by decide)), bne_cast, shiftN_left _ _ hv, left_back _ _ (by omega)]
theorem shift_ev (v : Nat) (hv : v < 18446744073709551616) (n : Int) (h1 : -9223372036854775808 ≤ n) (h2 : n ≤ 9223372036854775807) :
  Ev (fun k => bits_Shift.f k (v : Int) n) ((((shiftN v n).1 : Nat) : Int), (shiftN v n).2) := Ev.of (bits_Shift.mono _ _) (shift_f v hv n h1 h2 0)

def lenN (v : Nat) : Nat := if v = 0 then 0 else v.log2 + 1
theorem lenN_lt (v : Nat) : v < 2 ^ lenN v := by
 unfold lenN
 by_cases h : v = 0
 ·subst h; decide
 ·rw [if_neg h]; exact (Nat.log2_lt h).mp (Nat.lt_succ_self _)
theorem lenN_le (v : Nat) (h : v ≠ 0) : 2 ^ (lenN v - 1) ≤ v := by
 unfold lenN
 rw [if_neg h, Nat.add_sub_cancel]
 exact (Nat.le_log2 h).mp (Nat.le_refl _)
theorem lenN_pos (v : Nat) (h : v ≠ 0) : 1 ≤ lenN v := by unfold lenN; rw [if_neg h]; omega
theorem lenN_of (v n : Nat) (h : v < 2 ^ n) (h' : n = 0 ∨ 2 ^ (n - 1) ≤ v) : lenN v = n := by
 by_cases hv : v = 0
 ·subst hv
  rcases h' with h' | h'
  ·subst h'; rfl
  ·have := Nat.two_pow_pos (n - 1); omega
 ·have hn : n ≠ 0 := by intro e; subst e; simp at h; omega
  have h' := h'.resolve_left hn
  unfold lenN; rw [if_neg hv]
  have a := (Nat.log2_lt hv).mpr h
  have b := (Nat.le_log2 hv).mpr h'
  omega
theorem lenN_bound (v n : Nat) (h : v < 2 ^ n) : lenN v ≤ n := by
 by_cases hv : v = 0
 ·subst hv; exact Nat.zero_le _
 ·unfold lenN; rw [if_neg hv]; exact (Nat.log2_lt hv).mpr h
theorem lenN_ge (v n : Nat) (h : 2 ^ n ≤ v) : n < lenN v := by
 have hv : v ≠ 0 := by have := Nat.two_pow_pos n; omega
 unfold lenN; rw [if_neg hv]; have := (Nat.le_log2 hv).mpr h; omega
theorem lenN_div (v n : Nat) (h : 2 ^ n ≤ v) : lenN (v / 2 ^ n) + n = lenN v := by
 have hp := Nat.two_pow_pos n
 have hq : v / 2 ^ n ≠ 0 := by have := Nat.div_pos h hp; omega
 symm
 apply lenN_of
 ·rw [Nat.pow_add, Nat.mul_comm]
  exact Nat.lt_mul_of_div_lt (lenN_lt _) hp |> fun z => by rw [Nat.mul_comm] at z; exact z
 ·right
  have h1 := lenN_pos _ hq
  rw [show lenN (v / 2 ^ n) + n - 1 = lenN (v / 2 ^ n) - 1 + n by omega, Nat.pow_add]
  exact (Nat.le_div_iff_mul_le hp).mp (lenN_le _ hq)
theorem lenN_mul (v n : Nat) (h : v ≠ 0) : lenN (v * 2 ^ n) = lenN v + n := by
 have hp := Nat.two_pow_pos n
 have := lenN_div (v * 2 ^ n) n (Nat.le_mul_of_pos_left _ (by omega))
 rw [Nat.mul_div_cancel _ hp] at this
 omega
theorem lenN_half (v : Nat) (h : v ≠ 0) : lenN v = lenN (v / 2) + 1 := by
 by_cases h1 : v = 1
 ·subst h1; decide
 ·have := lenN_div v 1 (by omega)
  rw [Nat.pow_one] at this; omega
theorem tab_all : ∀ i : Fin 256, bt (⟨#[0, 1, 2, 2, 3, 3, 3, 3, 4, 4, 4, 4, 4, 4, 4, 4, 5, 5, 5, 5, 5, 5, 5, 5, 5, 5, 5, 5, 5, 5, 5, 5, 6, 6, 6, 6, 6, 6, 6, 6, 6, 6, 6, 6, 6, 6, 6, 6, 6, 6, 6, 6, 6, 6, 6, 6, 6, 6, 6, 6, 6, 6, 6, 6, 7, 7, 7, 7, 7, 7, 7, 7, 7, 7, 7, 7, 7, 7, 7, 7, 7, 7, 7, 7, 7, 7, 7, 7, 7, 7, 7, 7, 7, 7, 7, 7, 7, 7, 7, 7, 7, 7, 7, 7, 7, 7, 7, 7, 7, 7, 7, 7, 7, 7, 7, 7, 7, 7, 7, 7, 7, 7, 7, 7, 7, 7, 7, 7, 8, 8, 8, 8, 8, 8, 8, 8, 8, 8, 8, 8, 8, 8, 8, 8, 8, 8, 8, 8, 8, 8, 8, 8, 8, 8, 8, 8, 8, 8, 8, 8, 8, 8, 8, 8, 8, 8, 8, 8, 8, 8, 8, 8, 8, 8, 8, 8, 8, 8, 8, 8, 8, 8, 8, 8, 8, 8, 8, 8, 8, 8, 8, 8, 8, 8, 8, 8, 8, 8, 8, 8, 8, 8, 8, 8, 8, 8, 8, 8, 8, 8, 8, 8, 8, 8, 8, 8, 8, 8, 8, 8, 8, 8, 8, 8, 8, 8, 8, 8, 8, 8, 8, 8, 8, 8, 8, 8, 8, 8, 8, 8, 8, 8, 8, 8, 8, 8, 8, 8, 8, 8, 8, 8, 8, 8, 8, 8]⟩ : ByteArray) ((i.val : Nat) : Int) = (lenN i.val : Int) := by decide +kernel
theorem tab_len (i : Nat) (h : i < 256) : bt (⟨#[0, 1, 2, 2, 3, 3, 3, 3, 4, 4, 4, 4, 4, 4, 4, 4, 5, 5, 5, 5, 5, 5, 5, 5, 5, 5, 5, 5, 5, 5, 5, 5, 6, 6, 6, 6, 6, 6, 6, 6, 6, 6, 6, 6, 6, 6, 6, 6, 6, 6, 6, 6, 6, 6, 6, 6, 6, 6, 6, 6, 6, 6, 6, 6, 7, 7, 7, 7, 7, 7, 7, 7, 7, 7, 7, 7, 7, 7, 7, 7, 7, 7, 7, 7, 7, 7, 7, 7, 7, 7, 7, 7, 7, 7, 7, 7, 7, 7, 7, 7, 7, 7, 7, 7, 7, 7, 7, 7, 7, 7, 7, 7, 7, 7, 7, 7, 7, 7, 7, 7, 7, 7, 7, 7, 7, 7, 7, 7, 8, 8, 8, 8, 8, 8, 8, 8, 8, 8, 8, 8, 8, 8, 8, 8, 8, 8, 8, 8, 8, 8, 8, 8, 8, 8, 8, 8, 8, 8, 8, 8, 8, 8, 8, 8, 8, 8, 8, 8, 8, 8, 8, 8, 8, 8, 8, 8, 8, 8, 8, 8, 8, 8, 8, 8, 8, 8, 8, 8, 8, 8, 8, 8, 8, 8, 8, 8, 8, 8, 8, 8, 8, 8, 8, 8, 8, 8, 8, 8, 8, 8, 8, 8, 8, 8, 8, 8, 8, 8, 8, 8, 8, 8, 8, 8, 8, 8, 8, 8, 8, 8, 8, 8, 8, 8, 8, 8, 8, 8, 8, 8, 8, 8, 8, 8, 8, 8, 8, 8, 8, 8, 8, 8, 8, 8, 8, 8]⟩ : ByteArray) (i : Int) = (lenN i : Int) := tab_all ⟨i, h⟩
theorem lenN_small (v : Nat) (h : v < 18446744073709551616) : lenN v ≤ 64 := lenN_bound v 64 h
set_option maxRecDepth 100000 in
theorem len_j0 (k x c : Nat) (hx : x < 4294967296) (hc : c ≤ 64) : bits_Len64.j0 (k + 1) (x : Int) (c : Int) = some ((c + lenN x : Nat) : Int) := by
 rw [bits_Len64.j0]
 have e1 : (x : Int) / 65536 = ((x / 65536 : Nat) : Int) := by omega
 have e2 : (x : Int) / 65536 / 256 = ((x / 65536 / 256 : Nat) : Int) := by omega
 have e3 : (x : Int) / 256 = ((x / 256 : Nat) : Int) := by omega
 by_cases c1 : (x : Int) ≥ 65536
 ·rw [if_pos c1]
  by_cases c2 : (x : Int) / 65536 ≥ 256
  ·rw [if_pos c2, e2, show ((x / 65536 / 256 : Nat) : Int) % 256 = ((x / 65536 / 256 : Nat) : Int) by omega, if_pos (by omega), if_pos (by omega), tab_len _ (by omega)]
   have h := lenN_div x 24 (by omega)
   rw [show x / 2 ^ 24 = x / 65536 / 256 by omega] at h
   have b := lenN_bound (x / 65536 / 256) 8 (by omega)
   rw [w64_id (c + 16) (by omega) (by omega), w64_id (c + 16 + 8) (by omega) (by omega), w64_id (lenN _) (by omega) (by omega), w64_id _ (by omega) (by omega)]
   congr 1; omega
  ·rw [if_neg c2, e1, show ((x / 65536 : Nat) : Int) % 256 = ((x / 65536 : Nat) : Int) by omega, if_pos (by omega), if_pos (by omega), tab_len _ (by omega)]
   have h := lenN_div x 16 (by omega)
   rw [show x / 2 ^ 16 = x / 65536 by omega] at h
   have b := lenN_bound (x / 65536) 8 (by omega)
   rw [w64_id (c + 16) (by omega) (by omega), w64_id (lenN _) (by omega) (by omega), w64_id _ (by omega) (by omega)]
   congr 1; omega
 ·rw [if_neg c1]
  by_cases c2 : (x : Int) ≥ 256
  ·rw [if_pos c2, e3, show ((x / 256 : Nat) : Int) % 256 = ((x / 256 : Nat) : Int) by omega, if_pos (by omega), if_pos (by omega), tab_len _ (by omega)]
   have h := lenN_div x 8 (by omega)
   rw [show x / 2 ^ 8 = x / 256 by omega] at h
   have b := lenN_bound (x / 256) 8 (by omega)
   rw [w64_id (c + 8) (by omega) (by omega), w64_id (lenN _) (by omega) (by omega), w64_id _ (by omega) (by omega)]
   congr 1; omega
  ·rw [if_neg c2, show (x : Int) % 256 = (x : Int) by omega, if_pos (by omega), if_pos (by omega), tab_len _ (by omega)]
   have b := lenN_bound x 8 (by omega)
   rw [w64_id (lenN _) (by omega) (by omega), w64_id _ (by omega) (by omega)]
   congr 1
theorem len64_f (k v : Nat) (hv : v < 18446744073709551616) : bits_Len64.f (k + 1) (v : Int) = some (lenN v : Int) := by
 unfold bits_Len64.f
 by_cases c : (v : Int) ≥ 4294967296
 ·rw [if_pos c, show (v : Int) / 4294967296 = ((v / 4294967296 : Nat) : Int) by omega]
  have h := len_j0 k (v / 4294967296) 32 (by omega) (by decide)
  have e := lenN_div v 32 (by omega)
  rw [show v / 2 ^ 32 = v / 4294967296 by omega] at e
  rw [show ((32 : Nat) : Int) = 32 from rfl] at h
  rw [h]; congr 1; omega
 ·rw [if_neg c]
  have h := len_j0 k v 0 (by omega) (by decide)
  rw [show ((0 : Nat) : Int) = 0 from rfl] at h
  rw [h, Nat.zero_add]
theorem len_f (k v : Nat) (hv : v < 18446744073709551616) : bits_Len.f (k + 1) (v : Int) = some (lenN v : Int) := by
 unfold bits_Len.f; rw [len64_f k v hv]; rfl
theorem len_ev (v : Nat) (hv : v < 18446744073709551616) : Ev (fun k => bits_Len.f k (v : Int)) (lenN v : Int) := Ev.of (bits_Len.mono _) (len_f 0 v hv)

def cutN (v : Nat) (n : Int) : Nat := if n < 1 then 0 else v % 2 ^ n.toNat
theorem cut_mask (v n : Nat) (hv : v < 18446744073709551616) (hn : n < 64) : Go.bits .and .u64 (v : Int) (IntKind.u64.wrap (shl .u64 1 (n : Int) - 1)) = ((v % 2 ^ n : Nat) : Int) := by
 have hp : 2 ^ n ≤ 2 ^ 63 := Nat.pow_le_pow_right (by decide) (by omega)
 have h0 := Nat.two_pow_pos n
 rw [show (1 : Int) = ((1 : Nat) : Int) from rfl, shl_u64, Nat.one_mul, Nat.mod_eq_of_lt (by omega), show ((2 ^ n : Nat) : Int) - ((1 : Nat) : Int) = ((2 ^ n - 1 : Nat) : Int) by omega, u64_id _ (by omega), mask_u64 _ _ hv (by omega)]
theorem cut_f (v : Nat) (hv : v < 18446744073709551616) (n : Int) (h2 : n ≤ 9223372036854775807) : bits_Cut.f (v : Int) n = some (cutN v n : Int) := by
 unfold bits_Cut.f cutN
 by_cases c : n < 1
 ·rw [if_pos c, if_pos c]; rfl
 ·rw [if_neg c, if_neg c]
  obtain ⟨m, rfl⟩ := nat_of (show 0 ≤ n by omega)
  by_cases c' : (m : Int) ≥ 64
  ·rw [if_pos c', Int.toNat_natCast, Nat.mod_eq_of_lt (by have := pow_big (show 64 ≤ m by omega); omega)]
  ·rw [if_neg c', u64_id _ (by omega), if_pos (by omega), cut_mask _ _ hv (by omega), Int.toNat_natCast]
end Go.Proofs.Ytejkemahdincjaa.BitsF

/- Whole numbers in limbs of 64 bits; rounds of two kinds: plain numbers alone. -/
namespace Go.Proofs.Ytejkemahdincjaa.Round
open Go.RowKit Go.Proofs.Ytejkemahdincjaa.P Go.Proofs.Ytejkemahdincjaa.Num Go.Proofs.Ytejkemahdincjaa.BitsF Go.Proofs.YtejkemahdincjaaW.PrintWords Go.Proofs.YtejkemahdincjaaW.PrintLast Go.Proofs.YtejkemahdincjaaW.PrintMore

def Ev2 {α : Type} (g : Nat → Nat → Option α) (r : α) : Prop := ∃ K, ∀ k n, K ≤ k → K ≤ n → g k n = some r
theorem Ev2.of {α : Type} {g : Nat → Option α} {r : α} (h : Ev g r) : Ev2 (fun _ n => g n) r := by
 obtain ⟨K, h⟩ := h
 exact ⟨K, fun _ n _ hn => h n hn⟩
theorem Ev2.now {α : Type} (r : α) : Ev2 (fun _ _ => some r) r := ⟨0, fun _ _ _ _ => rfl⟩
theorem Ev2.step {α : Type} {g f : Nat → Nat → Option α} {r : α} (h : ∀ k n, g (k + 1) n = f k n) (k : Ev2 f r) : Ev2 g r := by
 obtain ⟨K, k⟩ := k
 refine ⟨K + 1, fun m n hm hn => ?_⟩
 obtain ⟨q, rfl⟩ : ∃ q, m = q + 1 := ⟨m - 1, by omega⟩
 rw [h]; exact k q n (by omega) (by omega)
theorem Ev2.congr {α : Type} {g f : Nat → Nat → Option α} {r : α} (h : ∀ k n, g k n = f k n) (k : Ev2 f r) : Ev2 g r := by
 obtain ⟨K, k⟩ := k
 exact ⟨K, fun m n hm hn => (h m n).trans (k m n hm hn)⟩
theorem Ev2.diag {α : Type} {g : Nat → Nat → Option α} {r : α} (h : Ev2 g r) : Ev (fun n => g n n) r := by
 obtain ⟨K, h⟩ := h
 exact ⟨K, fun n hn => h n n hn hn⟩
theorem Ev2.bind {α β : Type} {g : Nat → Option α} {f : Nat → Nat → α → Option β} {a : α} {r : β} (h : Ev g a) (k : Ev2 (fun m n => f m n a) r) : Ev2 (fun m n => (g n).bind (f m n)) r := by
 obtain ⟨K, h⟩ := h
 obtain ⟨K', k⟩ := k
 refine ⟨max K K', fun m n hm hn => ?_⟩
 show (g n).bind (f m n) = some r
 rw [h n (by omega)]; exact k m n (by omega) (by omega)
theorem Ev2.inner {α : Type} {g : Nat → Nat → Option α} {r : α} (h : Ev2 g r) : Ev2 (fun _ n => g n n) r := Ev2.of (Ev2.diag h)

def lim (xs : List Int) (i : Nat) : Nat := (rd xs (i : Int)).toNat
def lo (xs : List Int) : Nat → Nat
 |0 => 0
 |i + 1 => lo xs i + lim xs i * 2 ^ (64 * i)
structure Lims (xs : List Int) : Prop where
 len : xs.length = 10
 rng : ∀ i : Nat, 0 ≤ rd xs (i : Int) ∧ rd xs (i : Int) < 18446744073709551616
theorem Lims.rd {xs : List Int} (h : Lims xs) (i : Nat) : Go.Proofs.YtejkemahdincjaaW.PrintWords.rd xs (i : Int) = (lim xs i : Int) := by
 have := h.rng i; unfold lim; omega
theorem Lims.lt {xs : List Int} (h : Lims xs) (i : Nat) : lim xs i < 18446744073709551616 := by
 have := h.rng i; unfold lim; omega
theorem rd_set_at (xs : List Int) (i j : Nat) (v : Int) (h : i < xs.length) : rd (xs.set i v) (j : Int) = if j = i then v else rd xs (j : Int) := by
 unfold rd
 rw [Int.toNat_natCast, List.getD_eq_getElem?_getD, List.getD_eq_getElem?_getD, List.getElem?_set]
 by_cases c : j = i
 ·subst c; rw [if_pos rfl, if_pos rfl, if_pos h]; rfl
 ·rw [if_neg (fun e => c e.symm), if_neg c]
theorem lim_set (xs : List Int) (i j : Nat) (v : Int) (h : i < xs.length) : lim (xs.set i v) j = if j = i then v.toNat else lim xs j := by
 unfold lim; rw [rd_set_at xs i j v h]; split <;> rfl
theorem Lims.set {xs : List Int} (h : Lims xs) (i v : Nat) (hi : i < 10) (hv : v < 18446744073709551616) : Lims (xs.set i (v : Int)) := by
 refine ⟨by rw [List.length_set]; exact h.len, fun j => ?_⟩
 rw [rd_set_at xs i j _ (by rw [h.len]; exact hi)]
 split
 ·omega
 ·exact h.rng j
theorem lo_congr {xs ys : List Int} {i : Nat} (h : ∀ j, j < i → lim xs j = lim ys j) : lo xs i = lo ys i := by
 induction i with
 |zero => rfl
 |succ i ih => unfold lo; rw [ih (fun j hj => h j (by omega)), h i (by omega)]
theorem lo_set (xs : List Int) (i : Nat) (v : Int) (h : i < xs.length) : lo (xs.set i v) i = lo xs i :=
 lo_congr fun j hj => by rw [lim_set xs i j v h, if_neg (by omega)]
theorem lo_set0 (xs : List Int) (i : Nat) (v : Nat) (h : i < xs.length) (h0 : lim xs i = 0) : ∀ n, i < n → lo (xs.set i (v : Int)) n = lo xs n + v * 2 ^ (64 * i) := by
 intro n
 induction n with
 |zero => intro h; omega
 |succ n ih =>
  intro hn
  unfold lo
  rw [lim_set xs i n _ h]
  by_cases c : n = i
  ·subst c
   rw [if_pos rfl, lo_set xs n _ h, h0, Int.toNat_natCast]; omega
  ·rw [if_neg c, ih (by omega)]; omega
theorem lo_lt {xs : List Int} (h : Lims xs) (i : Nat) : lo xs i < 2 ^ (64 * i) := by
 induction i with
 |zero => exact Nat.one_pos
 |succ i ih =>
  unfold lo
  rw [show 64 * (i + 1) = 64 * i + 64 by omega, Nat.pow_add]
  have h1 := h.lt i
  have h2 : (lim xs i + 1) * 2 ^ (64 * i) ≤ 18446744073709551616 * 2 ^ (64 * i) := Nat.mul_le_mul_right _ h1
  rw [Nat.add_mul] at h2
  have : (2 : Nat) ^ 64 = 18446744073709551616 := by decide
  rw [this, Nat.mul_comm (2 ^ (64 * i))]
  omega
@[irreducible] def T640 : Nat := 2 ^ (64 * 10)
theorem T640_eq : 2 ^ (64 * 10) = T640 := by unfold T640; rfl
theorem lo_top {xs : List Int} (h : Lims xs) : lo xs 10 < T640 := by rw [← T640_eq]; exact lo_lt h 10
theorem lo_zero {xs : List Int} (n : Nat) : lo xs n = 0 ↔ ∀ i, i < n → lim xs i = 0 := by
 induction n with
 |zero => exact ⟨fun _ i hi => by omega, fun _ => rfl⟩
 |succ n ih =>
  unfold lo
  have hp : 2 ^ (64 * n) ≠ 0 := by have := Nat.two_pow_pos (64 * n); omega
  constructor
  ·intro h i hi
   have h1 : lo xs n = 0 := by omega
   have h2 : lim xs n * 2 ^ (64 * n) = 0 := by omega
   by_cases c : i = n
   ·subst c; exact (Nat.mul_eq_zero.mp h2).resolve_right hp
   ·exact ih.mp h1 i (by omega)
  ·intro h
   rw [ih.mpr (fun i hi => h i (by omega)), h n (by omega), Nat.zero_mul]
theorem lims_zero : Lims (List.replicate 10 (0 : Int)) := by
 refine ⟨rfl, fun i => ?_⟩
 unfold rd
 rw [List.getD_eq_getElem?_getD, List.getElem?_replicate]
 split <;> simp
theorem lim_zero (i : Nat) : lim (List.replicate 10 (0 : Int)) i = 0 := by
 unfold lim rd
 rw [List.getD_eq_getElem?_getD, List.getElem?_replicate]
 split <;> simp
theorem nought_lims {xs : List Int} (h : Lims xs) : (xs ++ [] == List.replicate 10 (0 : Int) ++ []) = decide (lo xs 10 = 0) := by
 rw [List.append_nil, List.append_nil]
 by_cases z : lo xs 10 = 0
 ·rw [decide_eq_true z, beq_iff_eq]
  refine List.ext_getElem (by rw [h.len]; rfl) fun i h1 h2 => ?_
  have h3 := (lo_zero 10).mp z i (by rw [h.len] at h1; exact h1)
  have h4 := h.rd i
  rw [h3] at h4
  unfold rd at h4
  rw [Int.toNat_natCast, List.getD_eq_getElem?_getD, List.getElem?_eq_getElem h1] at h4
  rw [List.getElem_replicate]
  simpa using h4
 ·rw [decide_eq_false z, beq_eq_false_iff_ne]
  intro e
  apply z
  rw [e]
  exact (lo_zero 10).mpr fun i _ => lim_zero i
theorem lo_none (xs : List Int) : lo xs 0 = 0 := rfl
theorem lo_succ (xs : List Int) (i : Nat) : lo xs (i + 1) = lo xs i + lim xs i * 2 ^ (64 * i) := rfl
attribute [irreducible] lo
end Go.Proofs.Ytejkemahdincjaa.Round

/- What the program's package format computes, as plain numbers: widths, parts, classes, whole numbers and exponents. -/
namespace Go.Proofs.Ytejkemahdincjaa.Fmt
open Go.RowKit Go.Proofs.Ytejkemahdincjaa.P Go.Proofs.Ytejkemahdincjaa.Num Go.Proofs.Ytejkemahdincjaa.BitsF Go.Proofs.YtejkemahdincjaaW.PrintWords Go.Proofs.YtejkemahdincjaaW.PrintLast Go.Proofs.YtejkemahdincjaaW.PrintMore

def fe (f : Int) : Nat := if f = 0 then 5 else 8
def fm (f : Int) : Nat := if f = 0 then 10 else if f = 1 then 7 else 23
theorem fcases (f : Int) : (fe f = 5 ∧ fm f = 10) ∨ (fe f = 8 ∧ fm f = 7) ∨ (fe f = 8 ∧ fm f = 23) := by
 unfold fe fm
 split
 ·exact .inl ⟨rfl, rfl⟩
 ·split
  ·exact .inr (.inl ⟨rfl, rfl⟩)
  ·exact .inr (.inr ⟨rfl, rfl⟩)
theorem fbounds (f : Int) : 5 ≤ fe f ∧ fe f ≤ 8 ∧ 7 ≤ fm f ∧ fm f ≤ 23 ∧ fe f + fm f ≤ 31 := by
 rcases fcases f with ⟨h1, h2⟩ | ⟨h1, h2⟩ | ⟨h1, h2⟩ <;> rw [h1, h2] <;> decide
def topN (f : Int) : Nat := 2 ^ fe f - 1
def leastN (f : Int) : Int := 2 - 2 ^ (fe f - 1)
theorem least_cases (f : Int) : leastN f = -14 ∨ leastN f = -126 := by
 unfold leastN
 rcases fcases f with ⟨h1, _⟩ | ⟨h1, _⟩ | ⟨h1, _⟩ <;> rw [h1] <;> simp
theorem top_cases (f : Int) : topN f = 31 ∨ topN f = 255 := by
 unfold topN
 rcases fcases f with ⟨h1, _⟩ | ⟨h1, _⟩ | ⟨h1, _⟩ <;> rw [h1] <;> simp
def signN (f : Int) (neg : Bool) : Nat := if neg then 2 ^ (fe f + fm f) else 0
def negN (f : Int) (v : Nat) : Bool := decide (v / 2 ^ (fe f + fm f) % 2 = 1)
def expN (f : Int) (v : Nat) : Nat := v / 2 ^ fm f % 2 ^ fe f
def fracN (f : Int) (v : Nat) : Nat := v % 2 ^ fm f
theorem exp_le (f : Int) (v : Nat) : expN f v ≤ topN f := by
 unfold expN topN
 have := Nat.mod_lt (v / 2 ^ fm f) (Nat.two_pow_pos (fe f))
 omega
theorem frac_lt (f : Int) (v : Nat) : fracN f v < 2 ^ fm f := Nat.mod_lt _ (Nat.two_pow_pos _)

theorem wu (n : Nat) (h : n < 9223372036854775808) : IntKind.u64.wrap (wrap64 (n : Int)) = (n : Int) := by rw [w64_id _ (by omega) (by omega), u64_id _ (by omega)]
theorem pow_le31 {n : Nat} (h : n ≤ 31) : 2 ^ n ≤ 2147483648 := Nat.pow_le_pow_right (show 0 < 2 by decide) h
theorem pow_le32 {n : Nat} (h : n ≤ 32) : 2 ^ n ≤ 4294967296 := Nat.pow_le_pow_right (show 0 < 2 by decide) h
theorem one_shl (n : Nat) (h : n ≤ 31) : shl .u32 1 (n : Int) = ((2 ^ n : Nat) : Int) := by
 have := pow_le31 h
 rw [show (1 : Int) = ((1 : Nat) : Int) from rfl, shl_u32, Nat.one_mul, Nat.mod_eq_of_lt (by omega)]
theorem mask_u32 (a n : Nat) (ha : a < 4294967296) (hn : n ≤ 31) : Go.bits .and .u32 (a : Int) ((shl .u32 1 (n : Int) - 1) % 4294967296) = ((a % 2 ^ n : Nat) : Int) := by
 have h1 := pow_le31 hn
 have h0 := Nat.two_pow_pos n
 rw [one_shl n hn, show (((2 ^ n : Nat) : Int) - 1) % 4294967296 = ((2 ^ n - 1 : Nat) : Int) by omega, and_u32 _ _ ha (by omega), Nat.and_two_pow_sub_one_eq_mod]
theorem and1_u32 (a : Nat) (ha : a < 4294967296) : Go.bits .and .u32 (a : Int) 1 = ((a % 2 : Nat) : Int) := by
 rw [show (1 : Int) = ((2 ^ 1 - 1 : Nat) : Int) from rfl, and_u32 _ _ ha (by decide), Nat.and_two_pow_sub_one_eq_mod]
theorem one_shl_i64 (n : Nat) (h : n ≤ 31) : shl .i64 1 (n : Int) = ((2 ^ n : Nat) : Int) := by
 have := pow_le31 h
 have := Nat.two_pow_pos n
 unfold shl
 rw [Int.toNat_natCast, Nat.min_eq_left (show n ≤ IntKind.i64.bits by show n ≤ 64; omega), i64_wrap, Int.one_mul, ← pow_cast, w64_id _ (by omega) (by omega)]

theorem widths_f (f : Int) : format_Widths.f f = some ((fe f : Int), (fm f : Int)) := by
 unfold format_Widths.f fe fm
 by_cases h : f = 0
 ·subst h; rfl
 ·rw [if_neg h, if_neg h, if_neg h]
  by_cases h1 : f = 1
  ·subst h1; rfl
  ·rw [if_neg h1, if_neg h1]; rfl
def joinN (f : Int) (neg : Bool) (at_ frac : Nat) : Nat := at_ * 2 ^ fm f + frac + signN f neg
theorem join_f (f : Int) (neg : Bool) (a c : Nat) (ha : a ≤ topN f) (hc : c < 2 ^ fm f) : format_Join.f f neg (a : Int) (c : Int) = some (joinN f neg a c : Int) := by
 unfold format_Join.f joinN signN
 rw [widths_f]
 obtain ⟨b1, b2, b3, b4, b5⟩ := fbounds f
 have hp := Nat.two_pow_pos (fm f)
 have hle : a * 2 ^ fm f + 2 ^ fm f ≤ 2 ^ (fe f + fm f) := by
  rw [Nat.pow_add, ← Nat.succ_mul]
  apply Nat.mul_le_mul_right
  unfold topN at ha
  have := Nat.two_pow_pos (fe f); omega
 have h31 := pow_le31 b5
 have e1 : shl .u32 ((a : Int) % 4294967296) (fm f : Int) = ((a * 2 ^ fm f : Nat) : Int) := by
  have : a < 4294967296 := by have := top_cases f; omega
  rw [show (a : Int) % 4294967296 = ((a : Nat) : Int) by omega, shl_u32, Nat.mod_eq_of_lt (by omega)]
 have e2 : Go.bits .or .u32 ((a * 2 ^ fm f : Nat) : Int) (c : Int) = ((a * 2 ^ fm f + c : Nat) : Int) := by
  rw [or_u32 _ _ (by omega) (by omega), or_add _ _ (fm f) (Nat.mul_mod_left ..) hc]
 simp only [Option.bind_some]
 rw [u64_id (fm f) (by omega), if_pos (by omega), e1, e2]
 cases neg
 ·simp
 ·simp only [if_true]
  rw [show (fe f : Int) + (fm f : Int) = ((fe f + fm f : Nat) : Int) by omega, wu _ (by omega), if_pos (by omega), one_shl _ b5, or_u32 _ _ (by omega) (by omega), Nat.or_comm, or_add _ (a * 2 ^ fm f + c) (fe f + fm f) (by simp) (by omega)]
  congr 2; omega
theorem top_f (f : Int) : format_Top.f f = some (topN f : Int) := by
 unfold format_Top.f topN
 rw [widths_f]
 obtain ⟨b1, b2, b3, b4, b5⟩ := fbounds f
 have hp := Nat.two_pow_pos (fe f)
 have h31 := pow_le31 (show fe f ≤ 31 by omega)
 simp only [Option.bind_some]
 rw [u64_id (fe f) (by omega), if_pos (by omega), one_shl_i64 _ (by omega), w64_id _ (by omega) (by omega)]
 congr 1; omega
theorem least_f (f : Int) : format_Least.f f = some (leastN f) := by
 unfold format_Least.f leastN
 rw [widths_f]
 obtain ⟨b1, b2, b3, b4, b5⟩ := fbounds f
 have h31 := pow_le31 (show fe f - 1 ≤ 31 by omega)
 have h0 := Nat.two_pow_pos (fe f - 1)
 simp only [Option.bind_some]
 rw [show (fe f : Int) - 1 = ((fe f - 1 : Nat) : Int) by omega, wu _ (by omega), if_pos (by omega), one_shl_i64 _ (by omega), w64_id _ (by omega) (by omega), pow_cast]
theorem zero_f (f : Int) (neg : Bool) : format_Zero.f f neg = some (signN f neg : Int) := by
 unfold format_Zero.f
 have h := join_f f neg 0 0 (Nat.zero_le _) (Nat.two_pow_pos _)
 rw [show ((0 : Nat) : Int) = 0 from rfl] at h
 rw [h]; unfold joinN; simp
def infN (f : Int) (neg : Bool) : Nat := topN f * 2 ^ fm f + signN f neg
theorem inf_f (f : Int) (neg : Bool) : format_Inf.f f neg = some (infN f neg : Int) := by
 unfold format_Inf.f infN
 have h := join_f f neg (topN f) 0 (Nat.le_refl _) (Nat.two_pow_pos _)
 rw [show ((0 : Nat) : Int) = 0 from rfl] at h
 rw [top_f]; simp only [Option.bind_some]; rw [h]; unfold joinN; simp
def greatN (f : Int) (neg : Bool) : Nat := topN f * 2 ^ fm f - 1 + signN f neg
theorem greatest_f (f : Int) (neg : Bool) : format_Greatest.f f neg = some (greatN f neg : Int) := by
 unfold format_Greatest.f greatN
 obtain ⟨b1, b2, b3, b4, b5⟩ := fbounds f
 have hp := Nat.two_pow_pos (fm f)
 have h31 := pow_le31 (show fm f ≤ 31 by omega)
 have ht := top_cases f
 rw [widths_f, top_f]
 simp only [Option.bind_some]
 rw [u64_id (fm f) (by omega), if_pos (by omega), w64_id _ (by omega) (by omega), one_shl _ (by omega), show (((2 ^ fm f : Nat) : Int) - 1) % 4294967296 = ((2 ^ fm f - 1 : Nat) : Int) by omega, show (topN f : Int) - 1 = ((topN f - 1 : Nat) : Int) by omega, join_f f neg _ _ (by omega) (by omega)]
 simp only [Option.bind_some]
 unfold joinN
 congr 2
 have : topN f * 2 ^ fm f = (topN f - 1) * 2 ^ fm f + 2 ^ fm f := by rw [← Nat.succ_mul]; congr 1; omega
 omega
end Go.Proofs.Ytejkemahdincjaa.Fmt

/- What the reference's formats are: the same plain numbers. -/
namespace Go.Proofs.Ytejkemahdincjaa.Round
open Go.RowKit Go.Proofs.Ytejkemahdincjaa.P Go.Proofs.Ytejkemahdincjaa.Num Go.Proofs.Ytejkemahdincjaa.BitsF Go.Proofs.Ytejkemahdincjaa.Fmt Go.Proofs.YtejkemahdincjaaW.PrintWords Go.Proofs.YtejkemahdincjaaW.PrintLast Go.Proofs.YtejkemahdincjaaW.PrintMore

theorem beq_nn (a b : Nat) : (((a : Int) == (b : Int)) : Bool) = decide (a = b) := by
 by_cases h : a = b
 ·subst h; simp
 ·rw [beq_eq_false_iff_ne.mpr (by omega)]; simp [h]
theorem ref_widths_f (f : Int) : annealref1_Widths.f f = some ((fe f : Int), (fm f : Int)) := by
 unfold annealref1_Widths.f fe fm
 by_cases h : f = 0
 ·subst h; rfl
 ·rw [if_neg h, if_neg h, if_neg h]
  by_cases h1 : f = 1
  ·subst h1; rfl
  ·rw [if_neg h1, if_neg h1]; rfl
theorem ref_sign_f (f : Int) (neg : Bool) : annealref1_sign.f f neg = some (signN f neg : Int) := by
 unfold annealref1_sign.f signN
 obtain ⟨b1, b2, b3, b4, b5⟩ := fbounds f
 rw [ref_widths_f]; simp only [Option.bind_some]
 cases neg
 ·rfl
 ·simp only [if_true]
  rw [show (fe f : Int) + (fm f : Int) = ((fe f + fm f : Nat) : Int) by omega, w64_id _ (by omega) (by omega), if_pos (by omega), one_shl _ b5]
theorem ref_zero_f (f : Int) (neg : Bool) : annealref1_Zero.f f neg = some (signN f neg : Int) := by
 unfold annealref1_Zero.f; rw [ref_sign_f]; rfl
theorem ref_bias_f (f : Int) : annealref1_bias.f f = some (1 - leastN f) := by
 unfold annealref1_bias.f leastN
 obtain ⟨b1, b2, b3, b4, b5⟩ := fbounds f
 have h31 := pow_le31 (show fe f - 1 ≤ 31 by omega)
 have h0 := Nat.two_pow_pos (fe f - 1)
 rw [ref_widths_f]; simp only [Option.bind_some]
 rw [show (fe f : Int) - 1 = ((fe f - 1 : Nat) : Int) by omega, w64_id _ (by omega) (by omega), if_pos (by omega), one_shl_i64 _ (by omega), w64_id _ (by omega) (by omega), ← pow_cast]
 congr 1; omega
theorem inf_lt (f : Int) (neg : Bool) : infN f neg < 4294967296 ∧ topN f * 2 ^ fm f + 2 ^ fm f = 2 ^ (fe f + fm f) := by
 obtain ⟨b1, b2, b3, b4, b5⟩ := fbounds f
 have h31 := pow_le31 b5
 have hp := Nat.two_pow_pos (fm f)
 have e : topN f * 2 ^ fm f + 2 ^ fm f = 2 ^ (fe f + fm f) := by
  rw [Nat.pow_add, ← Nat.succ_mul]; congr 1
  unfold topN; have := Nat.two_pow_pos (fe f); omega
 refine ⟨?_, e⟩
 unfold infN signN; split <;> omega
theorem ref_inf_f (f : Int) (neg : Bool) : annealref1_Inf.f f neg = some (infN f neg : Int) := by
 unfold annealref1_Inf.f infN
 obtain ⟨b1, b2, b3, b4, b5⟩ := fbounds f
 obtain ⟨_, hi⟩ := inf_lt f neg
 have h31 := pow_le31 b5
 have hp := Nat.two_pow_pos (fm f)
 have hpe := Nat.two_pow_pos (fe f)
 have h8 := pow_le31 (show fe f ≤ 31 by omega)
 rw [ref_widths_f, ref_sign_f]; simp only [Option.bind_some]
 rw [if_pos (by omega), if_pos (by omega), one_shl _ (by omega), show (((2 ^ fe f : Nat) : Int) - 1) % 4294967296 = ((topN f : Nat) : Int) by unfold topN; omega, shl_u32, Nat.mod_eq_of_lt (by omega)]
 unfold signN
 cases neg
 ·simp only [Bool.false_eq_true, if_false]
  rw [or_u32 _ _ (by omega) (by omega), Nat.zero_or, Nat.add_zero]
 ·simp only [if_true]
  rw [or_u32 _ _ (by omega) (by omega), or_add _ _ (fe f + fm f) (by simp) (by omega), Nat.add_comm]
/- The reference's parts of a number, its class, its whole number and exponent, its place in the order: as plain numbers. -/

def lowN (f : Int) (v : Nat) : Nat := v % 2 ^ (fe f + fm f + 1)
theorem low_lt (f : Int) (v : Nat) : lowN f v < 2 ^ (fe f + fm f + 1) := Nat.mod_lt _ (Nat.two_pow_pos _)
theorem low_32 (f : Int) (v : Nat) : lowN f v < 4294967296 := by
 obtain ⟨b1, b2, b3, b4, b5⟩ := fbounds f
 have := low_lt f v
 have := pow_le32 (show fe f + fm f + 1 ≤ 32 by omega)
 omega
def maskN (f : Int) : Nat := 2 ^ (fe f + fm f + 1) - 1
theorem mask_lit (n : Nat) (hn : n ≤ 32) : (IntKind.u64.wrap (shl .u64 1 (n : Int) - 1)) % 4294967296 = ((2 ^ n - 1 : Nat) : Int) := by
 have h32 := pow_le32 hn
 have h0 := Nat.two_pow_pos n
 rw [show shl .u64 1 (n : Int) = _ from shl_u64 1 n, Nat.one_mul]
 generalize 2 ^ n = P at *
 rw [Nat.mod_eq_of_lt (by omega), u64_wrap]
 omega
theorem width_f (f : Int) : wrap64 ((wrap64 (1 + (fe f : Int))) + (fm f : Int)) = ((fe f + fm f + 1 : Nat) : Int) := by
 obtain ⟨b1, b2, b3, b4, b5⟩ := fbounds f
 rw [w64_id (1 + (fe f : Int)) (by omega) (by omega), w64_id _ (by omega) (by omega)]; omega
theorem ref_mask_f (f : Int) : annealref1_Mask.f f = some (maskN f : Int) := by
 unfold annealref1_Mask.f
 have h := fbounds f
 rw [ref_widths_f, Option.bind_some]
 dsimp only
 rw [width_f, mask_lit _ (by omega)]
 exact if_pos (Int.natCast_nonneg _)
theorem and_mask (f : Int) (v : Nat) (hv : v < 4294967296) : Go.bits .and .u32 (v : Int) (maskN f : Int) = (lowN f v : Int) := by
 unfold maskN lowN
 have h := fbounds f
 have h32 := pow_le32 (show fe f + fm f + 1 ≤ 32 by omega)
 generalize fe f + fm f + 1 = n at *
 have h0 := Nat.two_pow_pos n
 rw [and_u32 _ _ hv (by omega), Nat.and_two_pow_sub_one_eq_mod]
theorem top_bit (f : Int) (v : Nat) : ((((lowN f v / 2 ^ (fe f + fm f) : Nat) : Int) == 1) : Bool) = negN f (lowN f v) := by
 rw [show (1 : Int) = ((1 : Nat) : Int) from rfl, beq_nn]
 unfold negN
 have : lowN f v / 2 ^ (fe f + fm f) < 2 := by rw [Nat.div_lt_iff_lt_mul (Nat.two_pow_pos _), Nat.mul_comm, ← Nat.pow_succ]; exact low_lt f v
 rw [Nat.mod_eq_of_lt this]
theorem small_w64 (a n : Nat) (hn : n ≤ 31) : wrap64 ((a % 2 ^ n : Nat) : Int) = ((a % 2 ^ n : Nat) : Int) := by
 have h1 := pow_le31 hn
 have h2 := Nat.mod_lt a (Nat.two_pow_pos n)
 generalize a % 2 ^ n = q at *
 exact w64_id _ (by omega) (by omega)
theorem small_u64 (a n : Nat) (hn : n ≤ 31) : IntKind.u64.wrap ((a % 2 ^ n : Nat) : Int) = ((a % 2 ^ n : Nat) : Int) := by
 have h1 := pow_le31 hn
 have h2 := Nat.mod_lt a (Nat.two_pow_pos n)
 generalize a % 2 ^ n = q at *
 exact u64_id _ (by omega)
theorem ref_parts_f (f : Int) (v : Nat) (hv : v < 4294967296) : annealref1_parts.f f (v : Int) = some (negN f (lowN f v), (expN f (lowN f v) : Int), (fracN f (lowN f v) : Int)) := by
 unfold annealref1_parts.f
 obtain ⟨b1, b2, b3, b4, b5⟩ := fbounds f
 have hl := low_32 f v
 rw [ref_widths_f, Option.bind_some, ref_mask_f, Option.bind_some]
 dsimp only
 rw [and_mask f v hv, show (fe f : Int) + (fm f : Int) = ((fe f + fm f : Nat) : Int) by omega, w64_id _ (by omega) (by omega), if_pos (by omega), if_pos (by omega), if_pos (by omega), shr_u32 _ _ hl, shr_u32 _ _ hl, mask_u32 _ _ (Nat.lt_of_le_of_lt (Nat.div_le_self _ _) hl) (by omega), mask_u32 _ _ hl (by omega), top_bit, small_w64 _ _ (by omega), small_u64 _ _ (by omega)]
 unfold expN fracN
 exact Eq.refl _
def clsN (f : Int) (v : Nat) : Nat :=
 if expN f v = 0 then (if fracN f v = 0 then 0 else 1) else if expN f v < topN f then 2 else if fracN f v = 0 then 3 else if fracN f v / 2 ^ (fm f - 1) = 1 then 4 else 5
theorem ref_class_ev (f : Int) (v : Nat) (hv : v < 4294967296) : Ev (fun k => annealref1_Class.f k f (v : Int)) (clsN f (lowN f v) : Int) := by
 obtain ⟨b1, b2, b3, b4, b5⟩ := fbounds f
 have h31 := pow_le31 (show fe f ≤ 31 by omega)
 have h0 := Nat.two_pow_pos (fe f)
 have hfr := frac_lt f (lowN f v)
 have h31' := pow_le31 (show fm f ≤ 31 by omega)
 refine ⟨1, fun k hk => ?_⟩
 obtain ⟨k, rfl⟩ : ∃ j, k = j + 1 := ⟨k - 1, by omega⟩
 unfold annealref1_Class.f clsN
 rw [ref_widths_f, ref_parts_f f v hv]
 simp only [Option.bind_some]
 generalize expN f (lowN f v) = e
 generalize fracN f (lowN f v) = m at *
 have ht : wrap64 (((2 ^ fe f : Nat) : Int) - 1) = (topN f : Int) := by rw [w64_id _ (by omega) (by omega)]; unfold topN; omega
 by_cases c : e = 0
 ·subst c
  rw [if_pos (by rfl), annealref1_Class.j0, if_pos rfl]
  by_cases c2 : m = 0
  ·subst c2; rfl
  ·rw [if_neg (by simp; omega), if_pos (by rfl), if_neg c2]; rfl
 ·rw [if_neg (by omega), annealref1_Class.j0, if_neg (by decide), if_neg (by omega), if_pos (by omega), one_shl_i64 _ (by omega), ht, if_neg c]
  by_cases c2 : e < topN f
  ·rw [if_pos (by omega), if_pos c2]; rfl
  ·rw [if_neg (by omega), if_neg c2]
   by_cases c3 : m = 0
   ·rw [if_pos (by omega), if_pos c3]; rfl
   ·rw [if_neg (by omega), if_neg c3, w64_id _ (by omega) (by omega), if_pos (by omega), show (fm f : Int) - 1 = ((fm f - 1 : Nat) : Int) by omega, shr_u64 _ _ (by omega)]
    by_cases c4 : m / 2 ^ (fm f - 1) = 1
    ·rw [if_pos (by rw [c4]; rfl), if_pos c4]; rfl
    ·rw [if_neg (by omega), if_neg c4]; rfl
theorem cls_finite (f : Int) (v : Nat) : clsN f v < 3 ↔ expN f v < topN f := by
 have := top_cases f
 unfold clsN
 split
 ·split <;> omega
 ·split
  ·omega
  ·split
   ·omega
   ·split <;> omega
def wholeN (f : Int) (v : Nat) : Nat := if expN f v = 0 then fracN f v else fracN f v + 2 ^ fm f
def lowestN (f : Int) (v : Nat) : Int := leastN f - fm f + (expN f v - 1 : Nat)
theorem or_top (m n : Nat) (h : m < 2 ^ n) (hn : n ≤ 31) : Go.bits .or .u64 (m : Int) (shl .u64 1 (n : Int)) = ((m + 2 ^ n : Nat) : Int) := by
 have h31 := pow_le31 hn
 rw [show (1 : Int) = ((1 : Nat) : Int) from rfl, shl_u64, Nat.one_mul, Nat.mod_eq_of_lt (by omega), or_u64 _ _ (by omega) (by omega), Nat.or_comm, or_add _ _ n (by simp) h, Nat.add_comm]
theorem low_parts (f : Int) (v : Nat) : lowN f v = expN f (lowN f v) * 2 ^ fm f + fracN f (lowN f v) + signN f (negN f (lowN f v)) := by
 have hlt := low_lt f v
 generalize lowN f v = x at *
 unfold expN fracN signN negN
 have h1 : x / 2 ^ (fe f + fm f) < 2 := by rw [Nat.div_lt_iff_lt_mul (Nat.two_pow_pos _), Nat.mul_comm, ← Nat.pow_succ]; exact hlt
 have h2 : x / 2 ^ fm f / 2 ^ fe f = x / 2 ^ (fe f + fm f) := by rw [Nat.div_div_eq_div_mul, ← Nat.pow_add, Nat.add_comm]
 have h3 := Nat.div_add_mod x (2 ^ fm f)
 have h4 := Nat.div_add_mod (x / 2 ^ fm f) (2 ^ fe f)
 rw [h2] at h4
 have h5 : 2 ^ (fe f + fm f) = 2 ^ fm f * 2 ^ fe f := by rw [← Nat.pow_add, Nat.add_comm]
 rw [Nat.mod_eq_of_lt h1]
 generalize x / 2 ^ (fe f + fm f) = b at *
 generalize hq : x / 2 ^ fm f % 2 ^ fe f = q at *
 generalize x % 2 ^ fm f = r at *
 rw [← h4, Nat.mul_add] at h3
 have h6 : b = 0 ∨ b = 1 := by omega
 rcases h6 with rfl | rfl
 ·rw [if_neg (by decide)]; rw [Nat.mul_comm q]; omega
 ·rw [if_pos (by decide), h5, Nat.mul_comm q]
  rw [Nat.mul_one] at h3
  omega
theorem ref_neg_f (f : Int) (v : Nat) (hv : v < 4294967296) : annealref1_neg.f f (v : Int) = some (negN f (lowN f v)) := by
 unfold annealref1_neg.f; rw [ref_parts_f f v hv]; rfl
/- The reference's classes and order of any numbers: plain numbers. -/

theorem mod_part (v a b c : Nat) (h : b + c ≤ a) : v % 2 ^ a / 2 ^ b % 2 ^ c = v / 2 ^ b % 2 ^ c := by
 apply Nat.eq_of_testBit_eq
 intro i
 rw [Nat.testBit_mod_two_pow, Nat.testBit_mod_two_pow, Nat.testBit_div_two_pow, Nat.testBit_div_two_pow, Nat.testBit_mod_two_pow]
 by_cases h1 : i < c
 ·have : i + b < a := by omega
  simp [h1, this]
 ·simp [h1]
theorem neg_low (f : Int) (v : Nat) : negN f (lowN f v) = negN f v := by
 unfold negN lowN
 have := mod_part v (fe f + fm f + 1) (fe f + fm f) 1 (Nat.le_refl _)
 rw [Nat.pow_one] at this
 rw [this]
theorem exp_low (f : Int) (v : Nat) : expN f (lowN f v) = expN f v := mod_part v (fe f + fm f + 1) (fm f) (fe f) (by omega)
theorem frac_low (f : Int) (v : Nat) : fracN f (lowN f v) = fracN f v := by
 have := mod_part v (fe f + fm f + 1) 0 (fm f) (by omega)
 rw [Nat.pow_zero, Nat.div_one, Nat.div_one] at this
 exact this
theorem cls_low (f : Int) (v : Nat) : clsN f (lowN f v) = clsN f v := by unfold clsN; rw [exp_low, frac_low]
theorem whole_low (f : Int) (v : Nat) : wholeN f (lowN f v) = wholeN f v := by unfold wholeN; rw [exp_low, frac_low]
theorem lowest_low (f : Int) (v : Nat) : lowestN f (lowN f v) = lowestN f v := by unfold lowestN; rw [exp_low]

theorem rclass_ev (f : Int) (v : Nat) (hv : v < 4294967296) : Ev (fun k => annealref1_Class.f k f (v : Int)) (clsN f v : Int) := by
 have := ref_class_ev f v hv; rw [cls_low] at this; exact this
theorem rneg_f (f : Int) (v : Nat) (hv : v < 4294967296) : annealref1_neg.f f (v : Int) = some (negN f v) := by rw [ref_neg_f f v hv, neg_low]
theorem rzero_ev (f : Int) (v : Nat) (hv : v < 4294967296) : Ev (fun k => annealref1_zero.f k f (v : Int)) (decide (clsN f v = 0)) := by
 refine Ev.congr (fun k => by unfold annealref1_zero.f; rfl) (Ev.bind (rclass_ev f v hv) (Ev.congr (fun k => ?_) (Ev.now _)))
 rw [show (0 : Int) = ((0 : Nat) : Int) from rfl, beq_nn]
def isNan (f : Int) (v : Nat) : Bool := decide (4 ≤ clsN f v)
def isLoud (f : Int) (v : Nat) : Bool := decide (clsN f v = 5)
theorem cls_le (f : Int) (v : Nat) : clsN f v ≤ 5 := by
 unfold clsN
 repeat' split
 all_goals omega
theorem nans_step (f : Int) (L : List Int) (i v : Nat) (b c : Bool) (r : Bool × Bool) (hi : i < L.length) (hn : L.length ≤ 100) (hv : v < 4294967296) (hr : rd L (i : Int) = (v : Int))
  (h : Ev (fun k => annealref1_nans.l0 k f L (b || isNan f v) (c || isLoud f v) ((i + 1 : Nat) : Int)) r) : Ev (fun k => annealref1_nans.l0 k f L b c (i : Int)) r := by
 have hw : wrap64 ((i : Int) + 1) = ((i + 1 : Nat) : Int) := by rw [w64_id _ (by omega) (by omega)]; omega
 have hc := cls_le f v
 refine Ev.step (fun k => by rw [annealref1_nans.l0, if_pos (by omega), if_pos (Int.natCast_nonneg _), hr, hw]) (Ev.bind (rclass_ev f v hv) (Ev.congr (fun k => ?_) h))
 have e5 : (((clsN f v : Nat) : Int) == 5) = isLoud f v := by rw [show (5 : Int) = ((5 : Nat) : Int) from rfl, beq_nn]; rfl
 rw [e5]
 cases b
 ·by_cases c4 : clsN f v = 4
  ·have n4 : isNan f v = true := by unfold isNan; rw [c4]; rfl
   rw [if_neg (by decide), if_pos (by omega), n4]
   cases c <;> simp
  ·have n4 : isNan f v = isLoud f v := by unfold isNan isLoud; apply decide_eq_decide.mpr; omega
   rw [if_neg (by decide), if_neg (by omega), n4]
   cases c <;> simp
 ·cases c <;> simp
theorem nans_end (f : Int) (L : List Int) (b c : Bool) : Ev (fun k => annealref1_nans.l0 k f L b c (L.length : Int)) (b, c) :=
 Ev.step (fun k => by rw [annealref1_nans.l0, if_neg (by omega)]) (Ev.now _)
theorem nans1_ev (f : Int) (v : Nat) (hv : v < 4294967296) : Ev (fun k => annealref1_nans.f k f [(v : Int)]) (isNan f v, isLoud f v) := by
 refine Ev.congr (fun k => by unfold annealref1_nans.f; rfl) (nans_step f _ 0 v false false _ (by simp) (by simp) hv rfl ?_)
 rw [Bool.false_or, Bool.false_or]
 exact nans_end f [(v : Int)] _ _
theorem nans2_ev (f : Int) (a b : Nat) (ha : a < 4294967296) (hb : b < 4294967296) : Ev (fun k => annealref1_nans.f k f [(a : Int), (b : Int)]) (isNan f a || isNan f b, isLoud f a || isLoud f b) := by
 refine Ev.congr (fun k => by unfold annealref1_nans.f; rfl) (nans_step f _ 0 a false false _ (by simp) (by simp) ha rfl (nans_step f _ 1 b _ _ _ (by simp) (by simp) hb rfl ?_))
 rw [Bool.false_or, Bool.false_or]
 exact nans_end f [(a : Int), (b : Int)] _ _
/- The reference's finite numbers: their whole numbers and exponents. -/

theorem ref_unpack_ev (f : Int) (v : Nat) (hv : v < 4294967296) (h : expN f (lowN f v) < topN f) :
  Ev (fun k => annealref1_Unpack.f k f (v : Int)) (negN f (lowN f v), lowestN f (lowN f v), (wholeN f (lowN f v) : Int)) := by
 obtain ⟨b1, b2, b3, b4, b5⟩ := fbounds f
 have hfr := frac_lt f (lowN f v)
 have hls := least_cases f
 have htp := top_cases f
 obtain ⟨K, hK⟩ := ref_class_ev f v hv
 refine ⟨K, fun k hk => ?_⟩
 show annealref1_Unpack.f k f (v : Int) = _
 unfold annealref1_Unpack.f
 rw [ref_widths_f, ref_parts_f f v hv, show annealref1_Class.f k f (v : Int) = _ from hK k hk, ref_bias_f]
 simp only [Option.bind_some]
 unfold lowestN wholeN clsN
 generalize expN f (lowN f v) = e at *
 generalize fracN f (lowN f v) = m at *
 by_cases c : e = 0
 ·subst c
  have e1 : wrap64 ((wrap64 (1 - (1 - leastN f))) - (fm f : Int)) = leastN f - fm f + ((0 - 1 : Nat) : Int) := by
   rw [w64_id (1 - (1 - leastN f)) (by omega) (by omega), w64_id _ (by omega) (by omega)]; omega
  rw [e1]
  by_cases c2 : m = 0
  ·subst c2; rfl
  ·simp only [if_true, if_neg c2]; rfl
 ·rw [if_neg c, if_pos h, if_neg c]
  have e1 : wrap64 ((wrap64 ((e : Int) - (1 - leastN f))) - (fm f : Int)) = leastN f - fm f + ((e - 1 : Nat) : Int) := by
   rw [w64_id ((e : Int) - (1 - leastN f)) (by omega) (by omega), w64_id _ (by omega) (by omega)]; omega
  rw [e1, or_top m _ hfr (by omega), if_pos (by rfl), if_pos (by omega)]
/- The program's parts of a number, its class, its whole number and exponent: as plain numbers; the reference's are the same. -/

theorem sum_w (f : Int) : IntKind.u64.wrap (wrap64 ((fe f : Int) + (fm f : Int))) = ((fe f + fm f : Nat) : Int) := by
 have h := fbounds f
 rw [show (fe f : Int) + (fm f : Int) = ((fe f + fm f : Nat) : Int) by omega, wu _ (by omega)]
theorem parts_f (f : Int) (v : Nat) (hv : v < 4294967296) : format_Parts.f f (v : Int) = some (negN f v, (expN f v : Int), (fracN f v : Int)) := by
 unfold format_Parts.f
 have h := fbounds f
 have hd : v / 2 ^ (fe f + fm f) < 4294967296 := Nat.lt_of_le_of_lt (Nat.div_le_self _ _) hv
 have hd' : v / 2 ^ fm f < 4294967296 := Nat.lt_of_le_of_lt (Nat.div_le_self _ _) hv
 rw [widths_f, Option.bind_some]
 dsimp only
 rw [sum_w, u64_id (fm f) (by omega), u64_id (fe f) (by omega), if_pos (Int.natCast_nonneg _), if_pos (Int.natCast_nonneg _), if_pos (Int.natCast_nonneg _), shr_u32 _ _ hv, shr_u32 _ _ hv, and1_u32 _ hd, mask_u32 _ _ hd' (by omega), mask_u32 _ _ hv (by omega), small_w64 _ _ (by omega)]
 rw [show (1 : Int) = ((1 : Nat) : Int) from rfl, beq_nn]
 unfold negN expN fracN
 exact Eq.refl _
theorem class_j0 (k : Nat) (f : Int) (e m : Nat) (he : e ≤ topN f) (hm : m < 2 ^ fm f) (hz : ¬ (e = 0 ∧ m = 0)) :
  format_Class.j0 (k + 1) f (fm f : Int) (e : Int) (m : Int) false = some (((if e = 0 then (if m = 0 then 0 else 1) else if e < topN f then 2 else if m = 0 then 3 else if m / 2 ^ (fm f - 1) = 1 then 4 else 5 : Nat)) : Int) := by
 have h := fbounds f
 have h31 := pow_le31 (show fm f ≤ 31 by omega)
 rw [format_Class.j0, if_neg (by decide)]
 by_cases c : e = 0
 ·subst c
  rw [if_pos (by rfl), if_pos rfl, if_neg (fun h => hz ⟨rfl, h⟩)]; rfl
 ·rw [if_neg (by omega), if_neg c, top_f, Option.bind_some]
  by_cases c2 : e < topN f
  ·rw [if_pos (by omega), if_pos c2]; rfl
  ·rw [if_neg (by omega), if_neg c2]
   by_cases c3 : m = 0
   ·rw [if_pos (by omega), if_pos c3]; rfl
   ·rw [if_neg (by omega), if_neg c3, show (fm f : Int) - 1 = ((fm f - 1 : Nat) : Int) by omega, wu _ (by omega), if_pos (Int.natCast_nonneg _), shr_u32 _ _ (by omega)]
    by_cases c4 : m / 2 ^ (fm f - 1) = 1
    ·rw [if_pos (by rw [c4]; rfl), if_pos c4]; rfl
    ·rw [if_neg (by omega), if_neg c4]; rfl
theorem class_ev (f : Int) (v : Nat) (hv : v < 4294967296) : Ev (fun k => format_Class.f k f (v : Int)) (clsN f v : Int) := by
 have he := exp_le f v
 have hm := frac_lt f v
 refine ⟨1, fun k hk => ?_⟩
 obtain ⟨k, rfl⟩ : ∃ j, k = j + 1 := ⟨k - 1, by omega⟩
 show format_Class.f (k + 1) f (v : Int) = _
 unfold format_Class.f clsN
 rw [widths_f, Option.bind_some, parts_f f v hv, Option.bind_some]
 dsimp only
 generalize expN f v = e at *
 generalize fracN f v = m at *
 by_cases c : e = 0 ∧ m = 0
 ·obtain ⟨rfl, rfl⟩ := c
  rw [if_pos (by rfl), format_Class.j0, if_pos (by rfl), if_pos rfl, if_pos rfl]; rfl
 ·by_cases c2 : e = 0
  ·have e2 : (((m : Int) == 0) : Bool) = false := by simp; omega
   rw [if_pos (by omega), e2, class_j0 k f e m he hm c]
  ·rw [if_neg (by omega), class_j0 k f e m he hm c]
theorem neg_f (f : Int) (v : Nat) (hv : v < 4294967296) : format_Neg.f f (v : Int) = some (negN f v) := by
 unfold format_Neg.f; rw [parts_f f v hv]; rfl
def nanN (f : Int) : Nat := topN f * 2 ^ fm f + 2 ^ (fm f - 1)
theorem half_frac (f : Int) : 2 ^ (fm f - 1) < 2 ^ fm f := by
 have h := fbounds f
 exact Nat.pow_lt_pow_right (by decide) (by omega)
theorem nan_f (f : Int) : format_Nan.f f = some (nanN f : Int) := by
 unfold format_Nan.f
 have h := fbounds f
 rw [widths_f, Option.bind_some, top_f, Option.bind_some]
 dsimp only
 rw [show (fm f : Int) - 1 = ((fm f - 1 : Nat) : Int) by omega, wu _ (by omega), if_pos (Int.natCast_nonneg _), one_shl _ (by omega), join_f f false _ _ (Nat.le_refl _) (half_frac f), Option.bind_some]
 unfold joinN nanN
 simp [signN]
theorem bad_f (f : Int) : sum_Bad.f f = some ((nanN f : Int), true, false, false, false, false) := by
 unfold sum_Bad.f; rw [nan_f]; rfl
theorem ref_nan_f (f : Int) : annealref1_Nan.f f = some (nanN f : Int) := by
 unfold annealref1_Nan.f
 have h := fbounds f
 obtain ⟨hi, _⟩ := inf_lt f false
 have hh := half_frac f
 have h31 := pow_le31 (show fm f ≤ 31 by omega)
 rw [ref_widths_f, Option.bind_some, ref_inf_f, Option.bind_some]
 dsimp only
 rw [show (fm f : Int) - 1 = ((fm f - 1 : Nat) : Int) by omega, w64_id _ (by omega) (by omega), if_pos (Int.natCast_nonneg _), one_shl _ (by omega), or_u32 _ _ hi (by omega)]
 unfold infN nanN
 rw [show signN f false = 0 from rfl, Nat.add_zero, or_add _ _ (fm f) (Nat.mul_mod_left ..) hh]
theorem unpack_f (f : Int) (v : Nat) (hv : v < 4294967296) (h : expN f v < topN f) : format_Unpack.f f (v : Int) = some (negN f v, lowestN f v, (wholeN f v : Int)) := by
 unfold format_Unpack.f lowestN wholeN
 obtain ⟨b1, b2, b3, b4, b5⟩ := fbounds f
 have hm := frac_lt f v
 have h31 := pow_le31 (show fm f ≤ 31 by omega)
 have hl := least_cases f
 have ht := top_cases f
 rw [widths_f, Option.bind_some, parts_f f v hv, Option.bind_some]
 dsimp only
 generalize expN f v = e at *
 generalize fracN f v = m at *
 by_cases c : e = 0
 ·subst c
  rw [if_pos (by rfl), least_f, Option.bind_some, if_pos rfl, w64_id (leastN f - fm f) (by omega) (by omega), u64_id m (by omega)]
  simp
 ·rw [if_neg (by omega), top_f, Option.bind_some, if_neg (by omega), least_f, Option.bind_some, if_neg c, u64_id (fm f) (by omega), if_pos (Int.natCast_nonneg _), u64_id m (by omega), or_top m _ hm (by omega), w64_id (leastN f - fm f) (by omega) (by omega), w64_id (leastN f - fm f + e) (by omega) (by omega), w64_id _ (by omega) (by omega), show leastN f - (fm f : Int) + (e : Int) - 1 = leastN f - fm f + ((e - 1 : Nat) : Int) by omega]
theorem of_f (f : Int) (v : Nat) (hv : v < 4294967296) (h : expN f v < topN f) : sum_Of.f f (v : Int) = some (negN f v, lowestN f v, (wholeN f v : Int), false) := by
 unfold sum_Of.f; rw [unpack_f f v hv h]; rfl

theorem runpack_ev (f : Int) (v : Nat) (hv : v < 4294967296) (h : expN f v < topN f) : Ev (fun k => annealref1_Unpack.f k f (v : Int)) (negN f v, lowestN f v, (wholeN f v : Int)) := by
 have := ref_unpack_ev f v hv (by rw [exp_low]; exact h); rw [neg_low, lowest_low, whole_low] at this; exact this
theorem rinf_ev (f : Int) (v : Nat) (hv : v < 4294967296) : Ev (fun k => annealref1_inf.f k f (v : Int)) (decide (clsN f v = 3)) := by
 refine Ev.congr (fun k => by unfold annealref1_inf.f; rfl) (Ev.bind (rclass_ev f v hv) (Ev.congr (fun k => ?_) (Ev.now _)))
 rw [show (3 : Int) = ((3 : Nat) : Int) from rfl, beq_nn]
/- What the program's rounding computes, as plain numbers. -/

def quoN (s : Nat) (d : Int) : Nat := if d ≤ 0 then s * 2 ^ (-d).toNat else s / 2 ^ d.toNat
def leftN (s : Nat) (d : Int) (more : Bool) : Nat :=
 if d ≤ 0 ∨ s % 2 ^ d.toNat = 0 then (if more then 1 else 0)
 else if s / 2 ^ (d.toNat - 1) % 2 = 0 then 1 else if s % 2 ^ (d.toNat - 1) ≠ 0 ∨ more = true then 3 else 2
def upN (mode : Int) (neg : Bool) (q left : Nat) : Bool :=
 if mode = 1 then false else if mode = 2 then (!neg && decide (left ≠ 0)) else if mode = 3 then (neg && decide (left ≠ 0))
 else if mode = 4 then decide (2 ≤ left) else (decide (left = 3) || (decide (left = 2) && decide (q % 2 = 1)))
def riseN (f : Int) (x : Int) (s : Nat) : Nat := if s = 0 then 0 else (x + lenN s - 1 - leastN f).toNat
def unitN (f : Int) (x : Int) (s : Nat) : Int := leastN f - fm f + riseN f x s
def keyN (f mode : Int) (neg : Bool) (x : Int) (s : Nat) (more : Bool) : Nat :=
 riseN f x s * 2 ^ fm f + quoN s (unitN f x s - x) + (if upN mode neg (quoN s (unitN f x s - x)) (leftN s (unitN f x s - x) more) then 1 else 0)
def overN (f : Int) (k : Nat) : Bool := decide (topN f * 2 ^ fm f ≤ k)
def endless (mode : Int) (neg : Bool) : Bool := if mode = 1 then false else if mode = 2 then !neg else if mode = 3 then neg else true
def inexN (f : Int) (x : Int) (s : Nat) (more : Bool) : Bool := decide (leftN s (unitN f x s - x) more ≠ 0)
def underN (f : Int) (x : Int) (s : Nat) (more : Bool) : Bool := inexN f x s more && (decide (s = 0) || decide (x + lenN s - 1 < leastN f))
def packN (f mode : Int) (neg : Bool) (x : Int) (s : Nat) (more : Bool) : Nat :=
 (if overN f (keyN f mode neg x s more) then (if endless mode neg then topN f * 2 ^ fm f else topN f * 2 ^ fm f - 1) else keyN f mode neg x s more) + signN f neg
def excN (f mode : Int) (neg : Bool) (x : Int) (s : Nat) (more : Bool) : Bool × Bool × Bool :=
 if overN f (keyN f mode neg x s more) then (true, false, true) else (false, underN f x s more, inexN f x s more)
def clampE (x : Int) : Int := mn (mx x (-10000)) 10000
theorem clampE_bounds (x : Int) : -10000 ≤ clampE x ∧ clampE x ≤ 10000 := by
 unfold clampE mn mx; split <;> split <;> omega
theorem clampE_id (x : Int) (h : -10000 ≤ x) (h' : x ≤ 10000) : clampE x = x := by
 unfold clampE mn mx; split <;> split <;> omega

theorem unit_f (k : Nat) (f x : Int) (s : Nat) (hs : s < 18446744073709551616) (h1 : -10000 ≤ x) (h2 : x ≤ 10000) : round_Unit.f (k + 1) f x (s : Int) = some (unitN f x s) := by
 unfold round_Unit.f unitN riseN
 obtain ⟨b1, b2, b3, b4, b5⟩ := fbounds f
 have hl := least_cases f
 have hn := lenN_small s hs
 simp only [widths_f, least_f, Option.bind_some]
 by_cases c : s = 0
 ·subst c
  rw [if_neg (by decide), if_pos rfl, w64_id _ (by omega) (by omega)]; simp
 ·rw [if_pos (by omega), if_neg c, len_f k s hs]
  simp only [Option.bind_some]
  rw [w64_id (x + _) (by omega) (by omega), w64_id (x + _ - 1) (by omega) (by omega)]
  unfold mx
  split
  ·rw [w64_id _ (by omega) (by omega)]; congr 1; omega
  ·rw [w64_id _ (by omega) (by omega)]; congr 1; omega
theorem quo_lt (s : Nat) (d : Int) (h : d ≤ 0) (h' : s * 2 ^ (-d).toNat < 18446744073709551616) : s * 2 ^ (-d).toNat % 18446744073709551616 = quoN s d := by
 unfold quoN; rw [if_pos h, Nat.mod_eq_of_lt h']
theorem left_le (s : Nat) (d : Int) (more : Bool) : leftN s d more ≤ 3 := by
 unfold leftN; split
 ·split <;> omega
 ·split
  ·omega
  ·split <;> omega
theorem shiftN_fst (v : Nat) (n : Int) : (shiftN v n).1 = if 0 ≤ n then v / 2 ^ n.toNat else v * 2 ^ (-n).toNat % 18446744073709551616 := by
 unfold shiftN; split <;> rfl
theorem left_none {s : Nat} {d : Int} (more : Bool) (h : d ≤ 0 ∨ s % 2 ^ d.toNat = 0) : leftN s d more = if more then 1 else 0 := by
 unfold leftN; rw [if_pos h]
theorem left_some {s : Nat} {d : Int} (more : Bool) (h : ¬ d ≤ 0) (h' : ¬ s % 2 ^ d.toNat = 0) :
  leftN s d more = if s / 2 ^ (d.toNat - 1) % 2 = 0 then 1 else if s % 2 ^ (d.toNat - 1) ≠ 0 ∨ more = true then 3 else 2 := by
 unfold leftN; rw [if_neg (not_or.mpr ⟨h, h'⟩)]
theorem units_f (k : Nat) (s : Nat) (hs : s < 18446744073709551616) (d : Int) (h1 : -100000 ≤ d) (h2 : d ≤ 100000) (more : Bool) (hq : d ≤ 0 → s * 2 ^ (-d).toNat < 18446744073709551616) :
  round_Units.f (k + 1) (s : Int) d more = some ((quoN s d : Int), (leftN s d more : Int)) := by
 unfold round_Units.f
 by_cases c : d ≤ 0
 ·rw [if_pos c, shift_f s hs d (by omega) (by omega)]
  have e : (shiftN s d).1 = quoN s d := by
   rw [shiftN_fst]
   by_cases c0 : 0 ≤ d
   ·obtain rfl : d = 0 := by omega
    unfold quoN; simp
   ·rw [if_neg c0]; exact quo_lt s d c (hq c)
  simp only [Option.bind_some, e]
  rw [left_none more (.inl c)]
  cases more <;> rfl
 ·rw [if_neg c]
  obtain ⟨m, rfl⟩ := nat_of (show 0 ≤ d by omega)
  have hm : (m : Int) - 1 = ((m - 1 : Nat) : Int) := by omega
  rw [shift_f s hs _ (by omega) (by omega), w64_id _ (by omega) (by omega), hm, shift_f s hs _ (by omega) (by omega)]
  simp only [Option.bind_some, shiftN_right]
  have hqe : quoN s (m : Int) = s / 2 ^ m := by unfold quoN; rw [if_neg c, Int.toNat_natCast]
  have hd : s / 2 ^ (m - 1) < 18446744073709551616 := Nat.lt_of_le_of_lt (Nat.div_le_self _ _) hs
  rw [hqe]
  by_cases z : s % 2 ^ m = 0
  ·have hl : leftN s (m : Int) more = if more then 1 else 0 := left_none more (.inr (by rw [Int.toNat_natCast]; exact z))
   rw [hl, if_neg (by simp [z])]
   cases more <;> rfl
  ·have hl : leftN s (m : Int) more = _ := left_some more c (by rw [Int.toNat_natCast]; exact z)
   rw [Int.toNat_natCast] at hl
   rw [hl, if_pos (by simp [z]), and1_u64 _ hd]
   by_cases y : s / 2 ^ (m - 1) % 2 = 0
   ·simp only [y, if_true, Int.natCast_zero]; rfl
   ·simp only [y, if_false]
    rw [if_neg (by omega)]
    by_cases w : s % 2 ^ (m - 1) = 0
    ·simp only [w, ne_eq, not_true_eq_false, decide_false, Bool.false_eq_true, if_false, false_or]
     cases more <;> rfl
    ·simp only [w, ne_eq, not_false_eq_true, decide_true, if_true, true_or]; rfl
theorem up_f (mode : Int) (neg : Bool) (q left : Nat) (hq : q < 18446744073709551616) : round_Up.f mode neg (q : Int) (left : Int) = some (upN mode neg q left) := by
 unfold round_Up.f upN
 have eb : (((left : Int) != 0) : Bool) = decide (left ≠ 0) := by rw [show (0 : Int) = ((0 : Nat) : Int) from rfl, bne_cast]
 have e1 : ((Go.bits .and .u64 (q : Int) 1 == 1) : Bool) = decide (q % 2 = 1) := by
  rw [and1_u64 q hq, show (1 : Int) = ((1 : Nat) : Int) from rfl]
  by_cases h : q % 2 = 1
  ·rw [h]; rfl
  ·rw [decide_eq_false h, beq_eq_false_iff_ne]; omega
 rw [eb, e1]
 by_cases m1 : mode = 1
 ·rw [if_pos m1, if_pos m1]
 ·rw [if_neg m1, if_neg m1]
  by_cases m2 : mode = 2
  ·rw [if_pos m2, if_pos m2]; cases neg <;> simp
  ·rw [if_neg m2, if_neg m2]
   by_cases m3 : mode = 3
   ·rw [if_pos m3, if_pos m3]; cases neg <;> simp
   ·rw [if_neg m3, if_neg m3]
    by_cases m4 : mode = 4
    ·rw [if_pos m4, if_pos m4]; congr 1; apply decide_eq_decide.mpr; omega
    ·rw [if_neg m4, if_neg m4]
     by_cases l3 : left = 3
     ·subst l3; rfl
     ·rw [if_neg (by omega), decide_eq_false l3, Bool.false_or]
      by_cases l2 : left = 2
      ·subst l2; simp
      ·rw [if_neg (by omega), decide_eq_false l2, Bool.false_and]
theorem beyond_f (f mode : Int) (neg : Bool) : round_beyond.f f mode neg = some (((if endless mode neg then infN f neg else greatN f neg : Nat) : Int), false, false, true, false, true) := by
 unfold round_beyond.f endless
 simp only [greatest_f, inf_f, Option.bind_some]
 by_cases m1 : mode = 1
 ·rw [if_pos m1, if_pos m1]; rfl
 ·rw [if_neg m1, if_neg m1]
  by_cases m2 : mode = 2
  ·rw [if_pos m2, if_pos m2]; cases neg <;> rfl
  ·rw [if_neg m2, if_neg m2]
   by_cases m3 : mode = 3
   ·rw [if_pos m3, if_pos m3]; cases neg <;> rfl
   ·rw [if_neg m3, if_neg m3]; rfl

theorem quo_bounds (f x : Int) (s : Nat) : quoN s (unitN f x s - x) < 2 ^ (fm f + 1) ∧ (riseN f x s ≠ 0 → 2 ^ fm f ≤ quoN s (unitN f x s - x)) := by
 obtain ⟨b1, b2, b3, b4, b5⟩ := fbounds f
 by_cases c : s = 0
 ·subst c
  have : riseN f x 0 = 0 := by unfold riseN; rw [if_pos rfl]
  refine ⟨?_, fun h => absurd this h⟩
  have h0 := Nat.two_pow_pos (fm f + 1)
  unfold quoN; split <;> simp [h0]
 ·have hlt := lenN_lt s
  have hle := lenN_le s c
  have hpos := lenN_pos s c
  have hr : riseN f x s = (x + lenN s - 1 - leastN f).toNat := by unfold riseN; rw [if_neg c]
  unfold unitN quoN
  generalize lenN s = L at *
  by_cases d : leastN f - (fm f : Int) + (riseN f x s : Int) - x ≤ 0
  ·rw [if_pos d]
   obtain ⟨j, hj⟩ := nat_of (show 0 ≤ -(leastN f - (fm f : Int) + (riseN f x s : Int) - x) by omega)
   rw [hj, Int.toNat_natCast]
   have hjL : L + j ≤ fm f + 1 := by omega
   constructor
   ·calc s * 2 ^ j < 2 ^ L * 2 ^ j := Nat.mul_lt_mul_of_pos_right hlt (Nat.two_pow_pos _)
     _ = 2 ^ (L + j) := (Nat.pow_add ..).symm
     _ ≤ 2 ^ (fm f + 1) := Nat.pow_le_pow_right (by decide) hjL
   ·intro h
    calc 2 ^ fm f = 2 ^ (L - 1) * 2 ^ j := by rw [← Nat.pow_add]; congr 1; omega
     _ ≤ s * 2 ^ j := Nat.mul_le_mul_right _ hle
  ·rw [if_neg d]
   obtain ⟨j, hj⟩ := nat_of (show 0 ≤ leastN f - (fm f : Int) + (riseN f x s : Int) - x by omega)
   rw [hj, Int.toNat_natCast]
   constructor
   ·rw [Nat.div_lt_iff_lt_mul (Nat.two_pow_pos _), ← Nat.pow_add]
    exact Nat.lt_of_lt_of_le hlt (Nat.pow_le_pow_right (by decide) (by omega))
   ·intro h
    rw [Nat.le_div_iff_mul_le (Nat.two_pow_pos _), ← Nat.pow_add]
    exact Nat.le_trans (Nat.pow_le_pow_right (by decide) (by omega)) hle
theorem unit_bounds (f x : Int) (s : Nat) (hs : s < 18446744073709551616) (h1 : -10000 ≤ x) (h2 : x ≤ 10000) : -200 ≤ unitN f x s ∧ unitN f x s ≤ 10100 ∧ riseN f x s ≤ 10200 := by
 obtain ⟨b1, b2, b3, b4, b5⟩ := fbounds f
 have hl := least_cases f
 have hn := lenN_small s hs
 unfold unitN
 have hr : riseN f x s = 0 ∨ (riseN f x s : Int) = x + lenN s - 1 - leastN f := by
  unfold riseN; split
  ·left; rfl
  ·omega
 omega
theorem exc_cast (l : Nat) : (((l : Int) != 0) : Bool) = decide (l ≠ 0) := by rw [show (0 : Int) = ((0 : Nat) : Int) from rfl, bne_cast]

theorem pack_j3 (k : Nat) (f mode : Int) (neg : Bool) (x : Int) (s q l a : Nat) (hs : s < 18446744073709551616) (hq : q < 18446744073709551616) (h1 : -10000 ≤ x) (h2 : x ≤ 10000) (K : Nat)
  (hK : K = a * 2 ^ fm f + q % 2 ^ fm f) :
  round_Pack.j3 (k + 2) f mode neg x (s : Int) (fm f : Int) (q : Int) (l : Int) (a : Int) = some
   ((((if overN f K then (if endless mode neg then topN f * 2 ^ fm f else topN f * 2 ^ fm f - 1) else K) + signN f neg : Nat) : Int), false, false,
    overN f K, !overN f K && (decide (l ≠ 0) && (decide (s = 0) || decide (x + lenN s - 1 < leastN f))), overN f K || decide (l ≠ 0)) := by
 obtain ⟨b1, b2, b3, b4, b5⟩ := fbounds f
 have hp := Nat.two_pow_pos (fm f)
 have hm : q % 2 ^ fm f < 2 ^ fm f := Nat.mod_lt _ hp
 have h31 := pow_le31 (show fm f ≤ 31 by omega)
 have ho : (a : Int) ≥ (topN f : Int) ↔ overN f K = true := by
  unfold overN
  rw [decide_eq_true_iff, hK]
  constructor
  ·intro h
   have : topN f * 2 ^ fm f ≤ a * 2 ^ fm f := Nat.mul_le_mul_right _ (by omega)
   omega
  ·intro h
   rcases Nat.lt_or_ge a (topN f) with c | c
   ·have : (a + 1) * 2 ^ fm f ≤ topN f * 2 ^ fm f := Nat.mul_le_mul_right _ c
    rw [Nat.add_mul, Nat.one_mul] at this; omega
   ·omega
 rw [round_Pack.j3, top_f]
 simp only [Option.bind_some]
 by_cases c : (a : Int) ≥ (topN f : Int)
 ·rw [if_pos c, beyond_f, ho.mp c]
  simp only [Option.bind_some, if_true, Bool.not_true, Bool.false_and, Bool.true_or]
  congr 2
  unfold infN greatN
  split <;> rfl
 ·rw [if_neg c]
  have co : overN f K = false := by simpa using fun h => c (ho.mpr h)
  have ec : bits_Cut.f (q : Int) (fm f : Int) = some ((q % 2 ^ fm f : Nat) : Int) := by
   rw [cut_f q hq _ (by omega)]; unfold cutN; rw [if_neg (by omega), Int.toNat_natCast]
  have ej : format_Join.f f neg (a : Int) (((q % 2 ^ fm f : Nat) : Int) % 4294967296) = some ((K + signN f neg : Nat) : Int) := by
   rw [show ((q % 2 ^ fm f : Nat) : Int) % 4294967296 = ((q % 2 ^ fm f : Nat) : Int) by omega, join_f f neg _ _ (by omega) hm, hK]; rfl
  rw [co, ec]
  simp only [Option.bind_some, ej, Bool.false_eq_true, if_false, Bool.not_false, Bool.true_and, Bool.false_or, exc_cast]
  by_cases l0 : l = 0
  ·subst l0; simp
  ·rw [if_neg (by omega)]
   by_cases s0 : s = 0
   ·subst s0; simp [l0]
   ·have hn := lenN_small s hs
    rw [if_neg (by omega), len_f (k) s hs, least_f]
    simp only [Option.bind_some]
    rw [w64_id (x + _) (by omega) (by omega), w64_id _ (by omega) (by omega)]
    simp [l0, s0]
theorem pack_j1 (k : Nat) (f mode : Int) (neg : Bool) (x : Int) (s q l : Nat) (U : Nat) (hU : U ≤ 10200) (hs : s < 18446744073709551616) (hq : q ≤ 2 ^ (fm f + 1)) (hq' : U ≠ 0 → 2 ^ fm f ≤ q) (h1 : -10000 ≤ x) (h2 : x ≤ 10000) (K : Nat)
  (hK : K = U * 2 ^ fm f + q) :
  round_Pack.j1 (k + 4) f mode neg x (s : Int) (fm f : Int) (leastN f - fm f + U) (q : Int) (l : Int) = some
   ((((if overN f K then (if endless mode neg then topN f * 2 ^ fm f else topN f * 2 ^ fm f - 1) else K) + signN f neg : Nat) : Int), false, false,
    overN f K, !overN f K && (decide (l ≠ 0) && (decide (s = 0) || decide (x + lenN s - 1 < leastN f))), overN f K || decide (l ≠ 0)) := by
 obtain ⟨b1, b2, b3, b4, b5⟩ := fbounds f
 have hl := least_cases f
 have hp := Nat.two_pow_pos (fm f)
 have h31 := pow_le31 (show fm f + 1 ≤ 31 by omega)
 have hq64 : q < 18446744073709551616 := by omega
 have e1 : wrap64 ((fm f : Int) + 1) = ((fm f + 1 : Nat) : Int) := by rw [w64_id] <;> omega
 have hsucc : 2 ^ (fm f + 1) = 2 * 2 ^ fm f := by rw [Nat.pow_succ, Nat.mul_comm]
 rw [round_Pack.j1, e1, u64_id _ (by omega), if_pos (by omega), shr_u64 _ _ hq64]
 by_cases c : q = 2 ^ (fm f + 1)
 ·have hd : q / 2 ^ (fm f + 1) = 1 := by rw [c, Nat.div_self (by omega)]
  rw [hd, if_neg (by decide), w64_id _ (by omega) (by omega), show (q : Int) / 2 = ((2 ^ fm f : Nat) : Int) by omega, round_Pack.j2, least_f]
  simp only [Option.bind_some]
  rw [u64_id _ (by omega), if_pos (by omega), shr_u64 _ _ (by omega), Nat.div_self hp, if_neg (by decide)]
  rw [show leastN f - (fm f : Int) + (U : Int) + 1 + (fm f : Int) = leastN f + (U : Int) + 1 by omega, w64_id (leastN f + (U : Int) + 1) (by omega) (by omega), w64_id (leastN f + (U : Int) + 1 - leastN f) (by omega) (by omega), w64_id _ (by omega) (by omega), show leastN f + (U : Int) + 1 - leastN f + 1 = ((U + 2 : Nat) : Int) by omega]
  exact pack_j3 k f mode neg x s _ l (U + 2) hs (by omega) h1 h2 K (by rw [hK, c, hsucc, Nat.mod_self, Nat.add_mul]; omega)
 ·have hd : q / 2 ^ (fm f + 1) = 0 := Nat.div_eq_of_lt (by omega)
  rw [hd, if_pos (by decide), round_Pack.j2, least_f]
  simp only [Option.bind_some]
  rw [u64_id _ (by omega), if_pos (by omega), shr_u64 _ _ hq64]
  by_cases c2 : q < 2 ^ fm f
  ·have hU0 : U = 0 := by
    rcases Nat.eq_zero_or_pos U with h | h
    ·exact h
    ·have := hq' (by omega); omega
   subst hU0
   rw [Nat.div_eq_of_lt c2, if_pos (by decide)]
   have h := pack_j3 k f mode neg x s q l 0 hs hq64 h1 h2 K (by rw [hK, Nat.mod_eq_of_lt c2])
   rw [show ((0 : Nat) : Int) = 0 from rfl] at h
   exact h
  ·have hd1 : q / 2 ^ fm f = 1 := Nat.div_eq_of_lt_le (by omega) (by omega)
   rw [hd1, if_neg (by decide)]
   rw [show leastN f - (fm f : Int) + (U : Int) + (fm f : Int) = leastN f + (U : Int) by omega, w64_id (leastN f + (U : Int)) (by omega) (by omega), w64_id (leastN f + (U : Int) - leastN f) (by omega) (by omega), w64_id _ (by omega) (by omega), show leastN f + (U : Int) - leastN f + 1 = ((U + 1 : Nat) : Int) by omega]
   have hm1 : q % 2 ^ fm f = q - 2 ^ fm f := by
    have := Nat.div_add_mod q (2 ^ fm f)
    rw [hd1, Nat.mul_one] at this; omega
   exact pack_j3 k f mode neg x s q l (U + 1) hs hq64 h1 h2 K (by rw [hK, hm1, Nat.add_mul]; omega)
theorem pack_f (k : Nat) (f mode : Int) (neg : Bool) (x : Int) (s : Nat) (more : Bool) (hs : s < 18446744073709551616) :
  round_Pack.f (k + 5) f mode neg x (s : Int) more = some ((packN f mode neg (clampE x) s more : Int), false, false, excN f mode neg (clampE x) s more) := by
 unfold round_Pack.f
 have hc : mn (mx x (-10000)) 10000 = clampE x := rfl
 obtain ⟨h1, h2⟩ := clampE_bounds x
 rw [hc]
 generalize clampE x = x at *
 by_cases z : s = 0 ∧ more = false
 ·obtain ⟨rfl, rfl⟩ := z
  rw [if_pos (by decide), round_Pack.j0]
  simp only [Bool.not_false, if_true]
  rw [zero_f]
  have hk : keyN f mode neg x 0 false = 0 := by
   unfold keyN
   have hr : riseN f x 0 = 0 := by unfold riseN; rw [if_pos rfl]
   have hq : quoN 0 (unitN f x 0 - x) = 0 := by unfold quoN; split <;> simp
   have hl : leftN 0 (unitN f x 0 - x) false = 0 := by rw [left_none _ (.inr (by simp))]; rfl
   rw [hr, hq, hl]
   have : upN mode neg 0 0 = false := by unfold upN; simp
   rw [this]; simp
  have hl : leftN 0 (unitN f x 0 - x) false = 0 := by rw [left_none _ (.inr (by simp))]; rfl
  have ho : overN f 0 = false := by
   unfold overN
   have := top_cases f
   have := Nat.two_pow_pos (fm f)
   rw [decide_eq_false_iff_not]
   have : 0 < topN f * 2 ^ fm f := Nat.mul_pos (by omega) (by omega)
   omega
  unfold packN excN underN inexN
  rw [hk, ho, hl]; simp
 ·have hj : (if (s : Int) = 0 then round_Pack.j0 (k + 5) f mode neg x (s : Int) more (!more) else round_Pack.j0 (k + 5) f mode neg x (s : Int) more false) = round_Pack.j0 (k + 5) f mode neg x (s : Int) more false := by
   by_cases c : (s : Int) = 0
   ·rw [if_pos c]
    cases more
    ·exact absurd ⟨by omega, rfl⟩ z
    ·rfl
   ·rw [if_neg c]
  rw [hj, round_Pack.j0, if_neg (by decide), widths_f]
  obtain ⟨u1, u2, u3⟩ := unit_bounds f x s hs h1 h2
  obtain ⟨q1, q2⟩ := quo_bounds f x s
  obtain ⟨b1, b2, b3, b4, b5⟩ := fbounds f
  have h31 := pow_le31 (show fm f + 1 ≤ 31 by omega)
  have hll := left_le s (unitN f x s - x) more
  have hq64 : quoN s (unitN f x s - x) < 18446744073709551616 := by omega
  have hd : unitN f x s - x ≤ 0 → s * 2 ^ (-(unitN f x s - x)).toNat < 18446744073709551616 := by
   intro h; have := hq64; unfold quoN at this; rw [if_pos h] at this; exact this
  simp only [Option.bind_some]
  rw [unit_f _ f x s hs h1 h2]
  simp only [Option.bind_some]
  rw [w64_id _ (by omega) (by omega), units_f _ s hs _ (by omega) (by omega) more hd]
  simp only [Option.bind_some]
  rw [up_f _ _ _ _ hq64]
  simp only [Option.bind_some]
  have hun : unitN f x s = leastN f - fm f + (riseN f x s : Nat) := rfl
  have key : ∀ up : Bool, round_Pack.j1 (k + 4) f mode neg x (s : Int) (fm f : Int) (unitN f x s) ((quoN s (unitN f x s - x) + (if up then 1 else 0) : Nat) : Int) (leftN s (unitN f x s - x) more : Int) = _ :=
   fun up => pack_j1 k f mode neg x s _ _ (riseN f x s) u3 hs (by split <;> omega) (fun h => Nat.le_trans (q2 h) (Nat.le_add_right _ _)) h1 h2 _ rfl
  have res : ∀ up : Bool, up = upN mode neg (quoN s (unitN f x s - x)) (leftN s (unitN f x s - x) more) → round_Pack.j1 (k + 4) f mode neg x (s : Int) (fm f : Int) (unitN f x s) ((quoN s (unitN f x s - x) + (if up then 1 else 0) : Nat) : Int) (leftN s (unitN f x s - x) more : Int) = some ((packN f mode neg x s more : Int), false, false, excN f mode neg x s more) := by
   intro up hup
   rw [key up]
   subst hup
   unfold packN excN underN inexN keyN
   rw [← Nat.add_assoc]
   by_cases o : overN f (riseN f x s * 2 ^ fm f + quoN s (unitN f x s - x) + if upN mode neg (quoN s (unitN f x s - x)) (leftN s (unitN f x s - x) more) = true then 1 else 0) = true
   ·rw [o]; simp
   ·rw [Bool.not_eq_true] at o; rw [o]; simp
  by_cases hu : upN mode neg (quoN s (unitN f x s - x)) (leftN s (unitN f x s - x) more) = true
  ·rw [if_pos hu]
   have h := res true hu.symm
   rw [if_pos rfl] at h
   rw [show ((quoN s (unitN f x s - x) : Nat) : Int) + 1 = ((quoN s (unitN f x s - x) + 1 : Nat) : Int) by omega, u64_id _ (by omega)]
   exact h
  ·rw [if_neg hu]
   rw [Bool.not_eq_true] at hu
   have h := res false hu.symm
   rw [if_neg (by decide), Nat.add_zero] at h
   exact h
/- What is a number already is rounded to it; a greater number isn't rounded to a lesser one: of the plain numbers that the rounding computes. -/

theorem whole_lt (f : Int) (v : Nat) : wholeN f v < 2 ^ (fm f + 1) := by
 have hf := frac_lt f v
 have hs : 2 ^ (fm f + 1) = 2 * 2 ^ fm f := by rw [Nat.pow_succ, Nat.mul_comm]
 unfold wholeN; split <;> omega

def restN (r h : Nat) (more : Bool) : Nat := if r < h then (if r = 0 ∧ more = false then 0 else 1) else if r = h ∧ more = false then 2 else 3
theorem left_rest (s : Nat) (d : Int) (more : Bool) (hd : ¬ d ≤ 0) : leftN s d more = restN (s % 2 ^ d.toNat) (2 ^ (d.toNat - 1)) more := by
 obtain ⟨m, hm⟩ : ∃ m, d.toNat = m + 1 := ⟨d.toNat - 1, by omega⟩
 have hh := Nat.two_pow_pos m
 have hs : 2 ^ (m + 1) = 2 ^ m * 2 := Nat.pow_succ ..
 have h1 := Nat.mod_lt s (Nat.two_pow_pos (m + 1))
 have h3 : s / 2 ^ m = (s / 2 ^ (m + 1)) * 2 + (s % 2 ^ (m + 1)) / 2 ^ m := by
  have h2 := Nat.div_add_mod s (2 ^ (m + 1))
  rw [hs] at h2 ⊢
  have e : s = 2 ^ m * (s / (2 ^ m * 2) * 2) + s % (2 ^ m * 2) := by
   rw [← Nat.mul_assoc, Nat.mul_right_comm]; exact h2.symm
  exact (congrArg (· / 2 ^ m) e).trans (Nat.mul_add_div hh _ _)
 have h4 : s % 2 ^ m = s % 2 ^ (m + 1) % 2 ^ m := by rw [hs, Nat.mod_mul_right_mod]
 have hz : ¬ s % 2 ^ (m + 1) = 0 → leftN s d more = if s / 2 ^ m % 2 = 0 then 1 else if s % 2 ^ m ≠ 0 ∨ more = true then 3 else 2 := by
  intro h'
  have := left_some more hd (by rw [hm]; exact h')
  rw [hm, Nat.add_sub_cancel] at this; exact this
 rw [hm, Nat.add_sub_cancel]
 by_cases c : s % 2 ^ (m + 1) = 0
 ·rw [left_none _ (.inr (by rw [hm]; exact c)), c]
  unfold restN
  rw [if_pos hh]
  cases more <;> simp
 ·rw [hz c, h3, h4]
  generalize s % 2 ^ (m + 1) = r at *
  unfold restN
  by_cases lt : r < 2 ^ m
  ·rw [if_pos lt, Nat.div_eq_of_lt lt, if_pos (by omega), if_neg (by omega)]
  ·have e1 : r / 2 ^ m = 1 := Nat.div_eq_of_lt_le (by omega) (by omega)
   have e2 : r % 2 ^ m = r - 2 ^ m := by rw [Nat.mod_eq_sub_mod (by omega), Nat.mod_eq_of_lt (by omega)]
   rw [if_neg lt, e1, e2, if_neg (by omega)]
   by_cases e3 : r = 2 ^ m
   ·subst e3; cases more <;> simp
   ·rw [if_pos (.inl (by omega)), if_neg (by omega)]
end Go.Proofs.Ytejkemahdincjaa.Round

-- Printed by a program of this session's out of Lean's print of the translation; Lean checks it.
namespace Go.Proofs.Ytejkemahdincjaa.P
open Go.RowKit Go.Proofs.YtejkemahdincjaaW.PrintWords Go.Proofs.YtejkemahdincjaaW.PrintLast Go.Proofs.YtejkemahdincjaaW.PrintMore
attribute [local go_sem] max2_int min2_int max_two min_two max_three min_three max_four min_four

-- NEED 0
/-! ### format_Mask: function 72 -/
-- NEED 0
/-! ### format_Turn: function 41 -/
end Go.Proofs.Ytejkemahdincjaa.P

/- Which numbers are none, infinite, nought; bits of a format alone: the program's, as plain numbers. -/
namespace Go.Proofs.Ytejkemahdincjaa.Round
open Go.RowKit Go.Proofs.Ytejkemahdincjaa.P Go.Proofs.Ytejkemahdincjaa.Num Go.Proofs.Ytejkemahdincjaa.BitsF Go.Proofs.Ytejkemahdincjaa.Fmt Go.Proofs.YtejkemahdincjaaW.PrintWords Go.Proofs.YtejkemahdincjaaW.PrintLast Go.Proofs.YtejkemahdincjaaW.PrintMore

theorem pzero_ev (f : Int) (v : Nat) (hv : v < 4294967296) : Ev (fun k => format_IsZero.f k f (v : Int)) (decide (clsN f v = 0)) := by
 refine Ev.congr (fun k => by unfold format_IsZero.f; rfl) (Ev.bind (class_ev f v hv) (Ev.congr (fun k => ?_) (Ev.now _)))
 rw [show (0 : Int) = ((0 : Nat) : Int) from rfl, beq_nn]
theorem pinf_ev (f : Int) (v : Nat) (hv : v < 4294967296) : Ev (fun k => format_IsInf.f k f (v : Int)) (decide (clsN f v = 3)) := by
 refine Ev.congr (fun k => by unfold format_IsInf.f; rfl) (Ev.bind (class_ev f v hv) (Ev.congr (fun k => ?_) (Ev.now _)))
 rw [show (3 : Int) = ((3 : Nat) : Int) from rfl, beq_nn]
theorem pnans_step (f : Int) (L : List Int) (i v : Nat) (b c : Bool) (r : Int × Bool × Bool × Bool × Bool × Bool × Bool) (hi : i < L.length) (hn : L.length ≤ 100) (hv : v < 4294967296) (hr : rd L (i : Int) = (v : Int))
  (h : Ev (fun k => sum_Nans.l0 k f (b || isNan f v) L (L.length : Int) ((i + 1 : Nat) : Int) (c || isLoud f v) false false false false) r) : Ev (fun k => sum_Nans.l0 k f b L (L.length : Int) (i : Int) c false false false false) r := by
 have hw : wrap64 ((i : Int) + 1) = ((i + 1 : Nat) : Int) := by rw [w64_id _ (by omega) (by omega)]; omega
 refine Ev.step (fun k => by rw [sum_Nans.l0, if_pos (by omega), if_pos (Int.natCast_nonneg _), if_pos (by omega), hr, hw]) (Ev.bind (class_ev f v hv) (Ev.congr (fun k => ?_) h))
 have e5 : (((clsN f v : Nat) : Int) == 5) = isLoud f v := by rw [show (5 : Int) = ((5 : Nat) : Int) from rfl, beq_nn]; rfl
 have e4 : decide (((clsN f v : Nat) : Int) ≥ 4) = isNan f v := by unfold isNan; apply decide_eq_decide.mpr; omega
 rw [e5, e4]
 cases b <;> cases c <;> simp
theorem pnans_end (f : Int) (L : List Int) (b c : Bool) : Ev (fun k => sum_Nans.l0 k f b L (L.length : Int) (L.length : Int) c false false false false) ((nanN f : Int), c, false, false, false, false, b) :=
 Ev.step (fun k => by rw [sum_Nans.l0, if_neg (by omega), nan_f]; rfl) (Ev.now _)
theorem none_low (f : Int) (v : Nat) (h : clsN f v = 0) : lowN f v = signN f (negN f v) ∧ wholeN f v = 0 := by
 have hz : expN f v = 0 ∧ fracN f v = 0 := by
  unfold clsN at h
  by_cases c : expN f v = 0
  ·rw [if_pos c] at h
   by_cases d : fracN f v = 0
   ·exact ⟨c, d⟩
   ·rw [if_neg d] at h; omega
  ·rw [if_neg c] at h
   split at h
   ·omega
   ·split at h
    ·omega
    ·split at h <;> omega
 have hp := low_parts f v
 rw [exp_low, frac_low, neg_low, hz.1, hz.2] at hp
 refine ⟨by omega, ?_⟩
 unfold wholeN; rw [if_pos hz.1, hz.2]
theorem inf_low (f : Int) (v : Nat) (h : clsN f v = 3) : lowN f v = infN f (negN f v) := by
 have hz : expN f v = topN f ∧ fracN f v = 0 := by
  have he := exp_le f v
  unfold clsN at h
  by_cases c : expN f v = 0
  ·rw [if_pos c] at h
   split at h <;> omega
  ·rw [if_neg c] at h
   by_cases d : expN f v < topN f
   ·rw [if_pos d] at h; omega
   ·rw [if_neg d] at h
    by_cases z : fracN f v = 0
    ·exact ⟨by omega, z⟩
    ·rw [if_neg z] at h; split at h <;> omega
 have hp := low_parts f v
 rw [exp_low, frac_low, neg_low, hz.1, hz.2] at hp
 unfold infN; omega
theorem lowest_near (f : Int) (v : Nat) : -200 ≤ lowestN f v ∧ lowestN f v ≤ 300 := by
 have := least_cases f; have := top_cases f; have := fbounds f; have := exp_le f v
 unfold lowestN; omega
theorem cls_exp (f : Int) (v : Nat) (h : clsN f v < 3) : expN f v < topN f := (cls_finite f v).mp h
/- Sums to all bits that rounding asks for: plain numbers alone. -/

def gapN (s : Nat) : Nat := 62 - lenN s
def meetN (na : Bool) (Ea : Int) (A : Nat) (nb : Bool) (Eb : Int) (B : Nat) : Bool × Int × Nat × Bool :=
 if na = nb then (na, Ea, A + B / 2 ^ (Ea - Eb).toNat, decide (B % 2 ^ (Ea - Eb).toNat ≠ 0))
 else (na, Ea, A - B / 2 ^ (Ea - Eb).toNat - (if B % 2 ^ (Ea - Eb).toNat ≠ 0 then 1 else 0), decide (B % 2 ^ (Ea - Eb).toNat ≠ 0))
def exactN (n1 : Bool) (e1 : Int) (s1 : Nat) (n2 : Bool) (e2 : Int) (s2 : Nat) : Bool × Int × Nat × Bool :=
 if s1 = 0 then (n2, e2, s2, false) else if s2 = 0 then (n1, e1, s1, false)
 else if e1 - (gapN s1 : Int) < e2 - (gapN s2 : Int) ∨ e1 - (gapN s1 : Int) = e2 - (gapN s2 : Int) ∧ s1 * 2 ^ gapN s1 < s2 * 2 ^ gapN s2 then meetN n2 (e2 - (gapN s2 : Int)) (s2 * 2 ^ gapN s2) n1 (e1 - (gapN s1 : Int)) (s1 * 2 ^ gapN s1)
 else meetN n1 (e1 - (gapN s1 : Int)) (s1 * 2 ^ gapN s1) n2 (e2 - (gapN s2 : Int)) (s2 * 2 ^ gapN s2)
theorem gap_bounds (s : Nat) (h : s ≠ 0) (h' : s < 4611686018427387904) : gapN s ≤ 61 ∧ lenN s + gapN s = 62 ∧ 2305843009213693952 ≤ s * 2 ^ gapN s ∧ s * 2 ^ gapN s < 4611686018427387904 := by
 have h1 := lenN_bound s 62 h'
 have h2 := lenN_pos s h
 have e : lenN s + gapN s = 62 := by unfold gapN; omega
 have hp := Nat.two_pow_pos (gapN s)
 have l1 := Nat.mul_le_mul_right (2 ^ gapN s) (lenN_le s h)
 have l2 := Nat.mul_lt_mul_of_pos_right (lenN_lt s) hp
 rw [← Nat.pow_add, show lenN s - 1 + gapN s = 61 by omega] at l1
 rw [← Nat.pow_add, e] at l2
 exact ⟨by omega, e, l1, l2⟩
theorem exact_self (n : Bool) (e : Int) (s : Nat) : (exactN n e s (!n) e s).2.2 = (0, false) := by
 unfold exactN
 by_cases h : s = 0
 ·rw [if_pos h, h]
 ·rw [if_neg h, if_neg h, if_neg (by omega)]
  unfold meetN
  rw [Int.sub_self, show (0 : Int).toNat = 0 from rfl, Nat.pow_zero, Nat.div_one, Nat.mod_one, if_neg (by cases n <;> decide)]
  simp
/- Sums, rounded: plain numbers alone. -/

def noughtN (f mode : Int) (a b : Bool) : Nat := if a = b then signN f a else signN f (decide (mode = 3))
def roundedN (f mode : Int) (a b : Bool) (r : Bool × Int × Nat × Bool) : Nat := if r.2.2 = (0, false) then noughtN f mode a b else packN f mode r.1 r.2.1 r.2.2.1 r.2.2.2
def roundedX (f mode : Int) (r : Bool × Int × Nat × Bool) : Bool × Bool × Bool := if r.2.2 = (0, false) then (false, false, false) else excN f mode r.1 r.2.1 r.2.2.1 r.2.2.2
def pairN (f : Int) (a b : Nat) : Bool × Int × Nat × Bool := exactN (negN f a) (lowestN f a) (wholeN f a) (negN f b) (lowestN f b) (wholeN f b)
def sumN (f mode : Int) (a b : Nat) : Nat :=
 if 4 ≤ clsN f a ∨ 4 ≤ clsN f b then nanN f else if clsN f a = 3 ∧ clsN f b = 3 ∧ negN f a ≠ negN f b then nanN f else if clsN f a = 3 then infN f (negN f a) else if clsN f b = 3 then infN f (negN f b)
 else roundedN f mode (negN f a) (negN f b) (pairN f a b)
def sumX (f mode : Int) (a b : Nat) : Bool × Bool × Bool × Bool × Bool :=
 if 4 ≤ clsN f a ∨ 4 ≤ clsN f b then (isLoud f a || isLoud f b, false, false, false, false) else if clsN f a = 3 ∧ clsN f b = 3 ∧ negN f a ≠ negN f b then (true, false, false, false, false) else if clsN f a = 3 ∨ clsN f b = 3 then (false, false, false, false, false)
 else (false, false, roundedX f mode (pairN f a b))
/- Sums of which nothing is lost: plain numbers alone. -/

theorem pow_split (m E F : Int) (h1 : m ≤ E) (h2 : E ≤ F) : 2 ^ (F - m).toNat = 2 ^ (F - E).toNat * 2 ^ (E - m).toNat := by
 rw [← Nat.pow_add]; congr 1; omega
/- A rounding depends on the value alone: more bits of the same value make no difference. Quotients and roots to so many bits. Plain numbers alone. -/

theorem rest_refine (r h t P : Nat) (m : Bool) (ht : t < P) : restN (r * P + t) (h * P) m = restN r h (m || decide (t ≠ 0)) := by
 have h1 : r * P + t < h * P ↔ r < h := by
  constructor
  ·intro c; exact Nat.lt_of_mul_lt_mul_right (Nat.lt_of_le_of_lt (Nat.le_add_right _ _) c)
  ·intro c
   have := Nat.mul_le_mul_right P (show r + 1 ≤ h from c)
   rw [Nat.add_mul] at this; omega
 have h2 : r * P + t = h * P ↔ r = h ∧ t = 0 := by
  constructor
  ·intro c
   have a : ¬ r < h := fun l => by have := h1.mpr l; omega
   have b : ¬ h < r := fun l => by
    have := Nat.mul_le_mul_right P (show h + 1 ≤ r from l)
    rw [Nat.add_mul] at this; omega
   have e : r = h := by omega
   subst e; exact ⟨rfl, by omega⟩
  ·rintro ⟨rfl, rfl⟩; rfl
 have h3 : r * P + t = 0 ↔ r = 0 ∧ t = 0 := by
  constructor
  ·intro c
   have : r * P = 0 := by omega
   rw [Nat.mul_eq_zero] at this; omega
  ·rintro ⟨rfl, rfl⟩; simp
 unfold restN
 simp only [h1, h2, h3]
 by_cases c : t = 0
 ·subst c; simp
 ·simp [c]
theorem len_refine (s t j : Nat) (ht : t < 2 ^ j) (hs : s ≠ 0) : lenN (s * 2 ^ j + t) = lenN s + j := by
 have hp := Nat.two_pow_pos j
 have h1 : 2 ^ j ≤ s * 2 ^ j := Nat.le_mul_of_pos_left _ (by omega)
 have := lenN_div (s * 2 ^ j + t) j (by omega)
 rw [Nat.mul_comm, Nat.mul_add_div hp, Nat.div_eq_of_lt ht, Nat.add_zero] at this
 rw [Nat.mul_comm s]; omega
theorem some_refine (s t j : Nat) (hs : s ≠ 0) : s * 2 ^ j + t ≠ 0 := by
 have h1 : 2 ^ j ≤ s * 2 ^ j := Nat.le_mul_of_pos_left _ (by omega)
 have hp := Nat.two_pow_pos j
 omega
theorem rise_refine (f x : Int) (s t j : Nat) (ht : t < 2 ^ j) (hs : s ≠ 0) : riseN f x (s * 2 ^ j + t) = riseN f (x + j) s := by
 unfold riseN
 rw [if_neg (some_refine s t j hs), if_neg hs, len_refine s t j ht hs]
 congr 1; omega
theorem unit_refine (f x : Int) (s t j : Nat) (ht : t < 2 ^ j) (hs : s ≠ 0) : unitN f x (s * 2 ^ j + t) = unitN f (x + j) s := by
 unfold unitN; rw [rise_refine f x s t j ht hs]
theorem unit_above (f x : Int) (s : Nat) (hs : 2 ^ (fm f + 1) ≤ s) : 1 ≤ unitN f x s - x ∧ s ≠ 0 := by
 have hl := lenN_ge s (fm f + 1) hs
 have hp := Nat.two_pow_pos (fm f + 1)
 have h0 : s ≠ 0 := by omega
 refine ⟨?_, h0⟩
 unfold unitN riseN
 rw [if_neg h0]; omega
theorem left_refine (f x : Int) (s t j : Nat) (m : Bool) (ht : t < 2 ^ j) (hs : 2 ^ (fm f + 1) ≤ s) :
  quoN (s * 2 ^ j + t) (unitN f x (s * 2 ^ j + t) - x) = quoN s (unitN f (x + j) s - (x + j)) ∧
  leftN (s * 2 ^ j + t) (unitN f x (s * 2 ^ j + t) - x) m = leftN s (unitN f (x + j) s - (x + j)) (m || decide (t ≠ 0)) := by
 obtain ⟨hd, h0⟩ := unit_above f (x + j) s hs
 rw [unit_refine f x s t j ht h0]
 generalize unitN f (x + j) s = U at *
 obtain ⟨d, e⟩ := nat_of (show 0 ≤ U - (x + j) by omega)
 rw [e] at hd ⊢
 rw [show U - x = ((d + j : Nat) : Int) by omega]
 have hp := Nat.two_pow_pos j
 have hq : (s * 2 ^ j + t) / 2 ^ j = s := by rw [Nat.mul_comm, Nat.mul_add_div hp, Nat.div_eq_of_lt ht, Nat.add_zero]
 constructor
 ·unfold quoN
  rw [if_neg (by omega), if_neg (by omega), Int.toNat_natCast, Int.toNat_natCast, Nat.add_comm d j, Nat.pow_add, ← Nat.div_div_eq_div_mul, hq]
 ·rw [left_rest _ _ _ (show ¬ ((d + j : Nat) : Int) ≤ 0 by omega), left_rest _ _ _ (show ¬ (d : Int) ≤ 0 by omega), Int.toNat_natCast, Int.toNat_natCast]
  have h1 : (s * 2 ^ j + t) % 2 ^ (d + j) = s % 2 ^ d * 2 ^ j + t := by
   rw [Nat.add_comm d j, Nat.pow_add, Nat.mod_mul, hq, Nat.mul_comm s, Nat.mul_add_mod, Nat.mod_eq_of_lt ht]
   rw [Nat.add_comm, Nat.mul_comm (2 ^ j)]
  have h2 : 2 ^ (d + j - 1) = 2 ^ (d - 1) * 2 ^ j := by rw [← Nat.pow_add]; congr 1; omega
  rw [h1, h2, rest_refine _ _ _ _ _ ht]
theorem pack_refine (f mode : Int) (neg : Bool) (x : Int) (s t j : Nat) (m : Bool) (ht : t < 2 ^ j) (hs : 2 ^ (fm f + 1) ≤ s) :
  packN f mode neg x (s * 2 ^ j + t) m = packN f mode neg (x + j) s (m || decide (t ≠ 0)) ∧ excN f mode neg x (s * 2 ^ j + t) m = excN f mode neg (x + j) s (m || decide (t ≠ 0)) := by
 obtain ⟨h1, h2⟩ := left_refine f x s t j m ht hs
 have h0 := (unit_above f x s hs).2
 have h3 := rise_refine f x s t j ht h0
 have hk : keyN f mode neg x (s * 2 ^ j + t) m = keyN f mode neg (x + j) s (m || decide (t ≠ 0)) := by unfold keyN; rw [h1, h2, h3]
 have hi : inexN f x (s * 2 ^ j + t) m = inexN f (x + j) s (m || decide (t ≠ 0)) := by unfold inexN; rw [h2]
 have hu : underN f x (s * 2 ^ j + t) m = underN f (x + j) s (m || decide (t ≠ 0)) := by
  unfold underN
  rw [hi, len_refine s t j ht h0, decide_eq_false (some_refine s t j h0), decide_eq_false h0]
  congr 2; apply decide_eq_decide.mpr; omega
 unfold packN excN
 rw [hk, hi, hu]; exact ⟨rfl, rfl⟩
/- Amounts: what a number's bits without its sign stand for, in units of the least number; rounding depends on the amount alone. -/

def magN (f : Int) (v : Nat) : Nat := v % 2 ^ (fe f + fm f)
theorem rest_scale (r h j : Nat) : restN (r * 2 ^ j) (h * 2 ^ j) false = restN r h false := by
 have hp := Nat.two_pow_pos j
 unfold restN
 have h1 : r * 2 ^ j < h * 2 ^ j ↔ r < h := Nat.mul_lt_mul_right hp
 have h2 : r * 2 ^ j = 0 ↔ r = 0 := by rw [Nat.mul_eq_zero]; omega
 have h3 : r * 2 ^ j = h * 2 ^ j ↔ r = h := ⟨fun e => Nat.eq_of_mul_eq_mul_right hp e, fun e => by rw [e]⟩
 simp only [h1, h2, h3]
theorem left_exact (s : Nat) (d : Int) (h : d ≤ 0 ∨ s % 2 ^ d.toNat = 0) : leftN s d false = 0 := left_none false h
theorem quo_scale (s j : Nat) (d : Int) : quoN (s * 2 ^ j) d = quoN s (d - j) ∧ leftN (s * 2 ^ j) d false = leftN s (d - j) false := by
 by_cases c : d ≤ 0
 ·rw [left_exact _ _ (.inl c), left_exact _ _ (.inl (by omega))]
  refine ⟨?_, rfl⟩
  unfold quoN
  rw [if_pos c, if_pos (by omega), show (-(d - (j : Int))).toNat = j + (-d).toNat by omega, Nat.pow_add, Nat.mul_assoc]
 ·obtain ⟨n, rfl⟩ := nat_of (show 0 ≤ d by omega)
  by_cases c2 : (n : Int) - j ≤ 0
  ·obtain ⟨i, rfl⟩ : ∃ i, j = n + i := ⟨j - n, by omega⟩
   have e : s * 2 ^ (n + i) = s * 2 ^ i * 2 ^ n := by rw [Nat.add_comm, Nat.pow_add, Nat.mul_assoc]
   have hp := Nat.two_pow_pos n
   constructor
   ·unfold quoN
    rw [if_neg c, if_pos c2, Int.toNat_natCast, e, Nat.mul_div_cancel _ hp, show (-((n : Int) - ((n + i : Nat) : Int))).toNat = i by omega]
   ·rw [left_exact _ _ (.inr (by rw [Int.toNat_natCast, e, Nat.mul_mod_left])), left_exact _ _ (.inl c2)]
  ·obtain ⟨i, rfl⟩ : ∃ i, n = i + j := ⟨n - j, by omega⟩
   have hp := Nat.two_pow_pos j
   have e : ((i + j : Nat) : Int) - (j : Int) = (i : Int) := by omega
   rw [e] at c2 ⊢
   have hi : i ≠ 0 := by omega
   constructor
   ·unfold quoN
    rw [if_neg c, if_neg c2, Int.toNat_natCast, Int.toNat_natCast, Nat.pow_add, Nat.mul_div_mul_right _ _ hp]
   ·rw [left_rest _ _ _ c, left_rest _ _ _ c2, Int.toNat_natCast, Int.toNat_natCast, Nat.pow_add, Nat.mul_mod_mul_right, show i + j - 1 = i - 1 + j by omega, Nat.pow_add, rest_scale]
theorem rise_scale (f x : Int) (s j : Nat) : riseN f x (s * 2 ^ j) = riseN f (x + j) s := by
 unfold riseN
 by_cases c : s = 0
 ·subst c; rw [Nat.zero_mul, if_pos rfl, if_pos rfl]
 ·rw [if_neg (Nat.mul_ne_zero c (Nat.ne_of_gt (Nat.two_pow_pos j))), if_neg c, lenN_mul s j c]
  congr 1; omega
theorem key_scale (f mode : Int) (neg : Bool) (x : Int) (s j : Nat) : keyN f mode neg x (s * 2 ^ j) false = keyN f mode neg (x + j) s false := by
 have hr := rise_scale f x s j
 have hu : unitN f x (s * 2 ^ j) = unitN f (x + j) s := by unfold unitN; rw [hr]
 obtain ⟨hq, hl⟩ := quo_scale s j (unitN f (x + j) s - x)
 rw [show unitN f (x + j) s - x - j = unitN f (x + j) s - (x + j) by omega] at hq hl
 unfold keyN
 rw [hr, hu, hq, hl]
theorem mag_parts (f : Int) (v : Nat) : magN f v / 2 ^ fm f = expN f v ∧ magN f v % 2 ^ fm f = fracN f v := by
 unfold magN expN fracN
 rw [Nat.add_comm (fe f), Nat.pow_add]
 exact ⟨Nat.mod_mul_right_div_self .., Nat.mod_mul_right_mod ..⟩
/- Bits with a sign, beyond the greatest number: plain numbers alone (for rounds without chapter 9). -/

theorem sign_parts (f : Int) (P : Nat) (neg : Bool) (h : P < 2 ^ (fe f + fm f)) : negN f (P + signN f neg) = neg ∧ magN f (P + signN f neg) = P ∧ P + signN f neg < 2 ^ (fe f + fm f + 1) := by
 unfold negN magN signN
 have hp := Nat.two_pow_pos (fe f + fm f)
 cases neg
 ·simp only [Bool.false_eq_true, if_false, Nat.add_zero]
  rw [Nat.div_eq_of_lt h, Nat.mod_eq_of_lt h, Nat.pow_succ]
  exact ⟨rfl, rfl, by omega⟩
 ·simp only [if_true]
  rw [Nat.add_div_right _ hp, Nat.div_eq_of_lt h, Nat.add_mod_right, Nat.mod_eq_of_lt h, Nat.pow_succ]
  exact ⟨rfl, rfl, by omega⟩
theorem mag_sign (f : Int) (v : Nat) (h : v < 2 ^ (fe f + fm f + 1)) : v = magN f v + signN f (negN f v) := by
 unfold magN signN negN
 have h1 := Nat.div_add_mod v (2 ^ (fe f + fm f))
 have h2 : v / 2 ^ (fe f + fm f) < 2 := by rw [Nat.div_lt_iff_lt_mul (Nat.two_pow_pos _), Nat.mul_comm, ← Nat.pow_succ]; exact h
 rw [Nat.mod_eq_of_lt h2]
 generalize v / 2 ^ (fe f + fm f) = b at *
 have h3 : b = 0 ∨ b = 1 := by omega
 rcases h3 with rfl | rfl
 ·simp at h1 ⊢; omega
 ·simp at h1 ⊢; omega
/- Numbers near one, drawn: plain numbers. -/

def oneN (f : Int) : Nat := topN f / 2
theorem one_cases (f : Int) : fe f = 5 ∧ fm f = 10 ∧ oneN f = 15 ∧ leastN f = -14 ∧ topN f = 31 ∨ fe f = 8 ∧ fm f = 7 ∧ oneN f = 127 ∧ leastN f = -126 ∧ topN f = 255 ∨ fe f = 8 ∧ fm f = 23 ∧ oneN f = 127 ∧ leastN f = -126 ∧ topN f = 255 := by
 unfold oneN topN leastN
 rcases fcases f with ⟨h1, h2⟩ | ⟨h1, h2⟩ | ⟨h1, h2⟩ <;> rw [h1, h2] <;> simp
theorem mild_shl (f : Int) : shl .u32 4 (fm f : Int) = ((4 * 2 ^ fm f : Nat) : Int) ∧ shl .u32 2 (fm f : Int) = ((2 * 2 ^ fm f : Nat) : Int) ∧
  shl .u32 ((((shl .u32 1 (fe f : Int)) - 1) % 4294967296) / 2) (fm f : Int) = ((oneN f * 2 ^ fm f : Nat) : Int) := by
 rcases one_cases f with ⟨h1, h2, h3, _⟩ | ⟨h1, h2, h3, _⟩ | ⟨h1, h2, h3, _⟩ <;> rw [h1, h2, h3] <;> decide
theorem mild_range (f : Int) : 4 * 2 ^ fm f + oneN f * 2 ^ fm f < 2 ^ (fe f + fm f) ∧ 2 * 2 ^ fm f ≤ oneN f * 2 ^ fm f := by
 rcases one_cases f with ⟨h1, h2, h3, _⟩ | ⟨h1, h2, h3, _⟩ | ⟨h1, h2, h3, _⟩ <;> rw [h1, h2, h3] <;> decide
theorem mild_plain (O P a : Nat) (h : 2 * P ≤ O) (hO : O + 4 * P < 2147483648) (hP : 0 < P) : ((((O : Nat) : Int) - ((2 * P : Nat) : Int)) % 4294967296 + Int.tmod ((a : Int) / 8) ((4 * P : Nat) : Int)) % 4294967296 = ((O - 2 * P + a / 8 % (4 * P) : Nat) : Int) := by
 have e : Int.tmod ((a : Int) / 8) ((4 * P : Nat) : Int) = ((a / 8 % (4 * P) : Nat) : Int) := by
  rw [show (a : Int) / 8 = ((a / 8 : Nat) : Int) from rfl, Int.tmod_eq_emod_of_nonneg (Int.natCast_nonneg _)]; rfl
 have hm := Nat.mod_lt (a / 8) (show 4 * P > 0 by omega)
 rw [e]
 generalize a / 8 % (4 * P) = m at *
 omega
theorem or_sign (f : Int) (m : Nat) (h : m < 2 ^ (fe f + fm f)) : Go.bits .or .u32 (m : Int) (signN f true : Int) = ((m + signN f true : Nat) : Int) := by
 have hb := fbounds f
 have h31 := pow_le31 (show fe f + fm f ≤ 31 by omega)
 have hs : signN f true = 2 ^ (fe f + fm f) := rfl
 rw [or_u32 m _ (by omega) (by omega), Nat.or_comm, or_add _ _ (fe f + fm f) (by rw [hs, Nat.mod_self]) h, Nat.add_comm]
theorem mild_f (f : Int) (a : Nat) (ha : a < 4294967296) : ∃ m : Nat, ∃ neg : Bool, annealseat_Mild.f f (a : Int) = some ((m + signN f neg : Nat) : Int) ∧ (m = 0 ∧ neg = false ∨ (oneN f - 2) * 2 ^ fm f ≤ m ∧ m < (oneN f + 2) * 2 ^ fm f) := by
 unfold annealseat_Mild.f
 by_cases c : Int.tmod (a : Int) 7 = 0
 ·rw [if_pos c]
  exact ⟨0, false, rfl, .inl ⟨rfl, rfl⟩⟩
 ·rw [if_neg c, ref_widths_f, Option.bind_some]
  dsimp only
  obtain ⟨s1, s2, s3⟩ := mild_shl f
  obtain ⟨r1, r2⟩ := mild_range f
  have hb := fbounds f
  have h31 := pow_le31 (show fe f + fm f ≤ 31 by omega)
  have hp := Nat.two_pow_pos (fm f)
  rw [s1, s2, s3, if_pos (Int.natCast_nonneg _), if_pos (Int.natCast_nonneg _), if_neg (by omega), mild_plain _ _ _ r2 (by omega) hp]
  have hm := Nat.mod_lt (a / 8) (show 4 * 2 ^ fm f > 0 by omega)
  have h2 : (oneN f - 2) * 2 ^ fm f = oneN f * 2 ^ fm f - 2 * 2 ^ fm f := Nat.sub_mul _ _ _
  have h3 : (oneN f + 2) * 2 ^ fm f = oneN f * 2 ^ fm f + 2 * 2 ^ fm f := Nat.add_mul _ _ _
  generalize hM : oneN f * 2 ^ fm f - 2 * 2 ^ fm f + a / 8 % (4 * 2 ^ fm f) = m at *
  by_cases d : Go.bits .and .u32 (a : Int) 1 = 1
  ·rw [if_pos d, ref_zero_f, Option.bind_some, or_sign f m (by omega)]
   exact ⟨m, true, rfl, .inr ⟨by omega, by omega⟩⟩
  ·rw [if_neg d]
   exact ⟨m, false, rfl, .inr ⟨by omega, by omega⟩⟩
theorem mild_parts (f : Int) (m : Nat) (neg : Bool) (h1 : (oneN f - 2) * 2 ^ fm f ≤ m) (h2 : m < (oneN f + 2) * 2 ^ fm f) :
  negN f (m + signN f neg) = neg ∧ magN f (m + signN f neg) = m ∧ m + signN f neg < 2 ^ (fe f + fm f + 1) ∧ m + signN f neg < 4294967296 ∧ oneN f - 2 ≤ expN f (m + signN f neg) ∧ expN f (m + signN f neg) < oneN f + 2 ∧
  clsN f (m + signN f neg) = 2 ∧ wholeN f (m + signN f neg) = fracN f (m + signN f neg) + 2 ^ fm f ∧ m = expN f (m + signN f neg) * 2 ^ fm f + fracN f (m + signN f neg) := by
 obtain ⟨r1, r2⟩ := mild_range f
 have hb := fbounds f
 have h32 := pow_le32 (show fe f + fm f + 1 ≤ 32 by omega)
 have hp := Nat.two_pow_pos (fm f)
 have h3 : (oneN f + 2) * 2 ^ fm f = oneN f * 2 ^ fm f + 2 * 2 ^ fm f := Nat.add_mul _ _ _
 obtain ⟨p1, p2, p3⟩ := sign_parts f m neg (by omega)
 obtain ⟨q1, q2⟩ := mag_parts f (m + signN f neg)
 rw [p2] at q1 q2
 have e1 : oneN f - 2 ≤ m / 2 ^ fm f := (Nat.le_div_iff_mul_le hp).mpr h1
 have e2 : m / 2 ^ fm f < oneN f + 2 := (Nat.div_lt_iff_lt_mul hp).mpr h2
 have hd := Nat.div_add_mod m (2 ^ fm f)
 rw [q1, q2, Nat.mul_comm] at hd
 rw [q1] at e1 e2
 have hc : oneN f = 15 ∧ topN f = 31 ∨ oneN f = 127 ∧ topN f = 255 := by
  rcases one_cases f with ⟨_, _, h3, _, h4⟩ | ⟨_, _, h3, _, h4⟩ | ⟨_, _, h3, _, h4⟩ <;> omega
 refine ⟨p1, p2, p3, by omega, e1, e2, ?_, ?_, hd.symm⟩
 ·unfold clsN; rw [if_neg (by omega), if_pos (by omega)]
 ·unfold wholeN; rw [if_neg (by omega)]
/- Small whole numbers as numbers: plain numbers alone. -/

theorem pack_even (f mode : Int) (neg : Bool) (x : Int) (s j : Nat) : packN f mode neg x (s * 2 ^ j) false = packN f mode neg (x + j) s false ∧ excN f mode neg x (s * 2 ^ j) false = excN f mode neg (x + j) s false := by
 have hk := key_scale f mode neg x s j
 have hr := rise_scale f x s j
 have hu : unitN f x (s * 2 ^ j) = unitN f (x + j) s := by unfold unitN; rw [hr]
 have hl := (quo_scale s j (unitN f (x + j) s - x)).2
 rw [show unitN f (x + j) s - x - j = unitN f (x + j) s - (x + j) by omega] at hl
 have hi : inexN f x (s * 2 ^ j) false = inexN f (x + j) s false := by unfold inexN; rw [hu, hl]
 have hun : underN f x (s * 2 ^ j) false = underN f (x + j) s false := by
  unfold underN
  rw [hi]
  congr 1
  by_cases c : s = 0
  ·subst c; simp
  ·rw [decide_eq_false c, decide_eq_false (Nat.mul_ne_zero c (Nat.ne_of_gt (Nat.two_pow_pos j))), lenN_mul s j c]
   congr 1; apply decide_eq_decide.mpr; omega
 unfold packN excN
 rw [hk, hi, hun]; exact ⟨rfl, rfl⟩
/- Sums as whole numbers of many bits: plain numbers alone. -/

def wideN (n1 : Bool) (X : Nat) (n2 : Bool) (Y : Nat) : Bool × Nat := if n1 = n2 then (n1, X + Y) else if X < Y then (n2, Y - X) else (n1, X - Y)
theorem meet_add (f mode : Int) (n : Bool) (Ea Eb m : Int) (A B : Nat) (hm : m ≤ Eb) (h : Eb ≤ Ea) (a1 : 2305843009213693952 ≤ A) :
    (A * 2 ^ (Ea - m).toNat + B * 2 ^ (Eb - m).toNat ≠ 0) ∧ ¬ ((meetN n Ea A n Eb B).2.2 = (0, false)) ∧ (meetN n Ea A n Eb B).1 = n ∧
    packN f mode n (meetN n Ea A n Eb B).2.1 (meetN n Ea A n Eb B).2.2.1 (meetN n Ea A n Eb B).2.2.2 = packN f mode n m (A * 2 ^ (Ea - m).toNat + B * 2 ^ (Eb - m).toNat) false ∧
    excN f mode n (meetN n Ea A n Eb B).2.1 (meetN n Ea A n Eb B).2.2.1 (meetN n Ea A n Eb B).2.2.2 = excN f mode n m (A * 2 ^ (Ea - m).toNat + B * 2 ^ (Eb - m).toNat) false := by
  have hb := fbounds f
  have hp : 2 ^ (fm f + 1) ≤ 2 ^ 24 := Nat.pow_le_pow_right (by decide) (by omega)
  have hr : meetN n Ea A n Eb B = (n, Ea, A + B / 2 ^ (Ea - Eb).toNat, decide (B % 2 ^ (Ea - Eb).toNat ≠ 0)) := by unfold meetN; rw [if_pos rfl]
  have hs := pow_split m Eb Ea hm h
  rw [hr]
  dsimp only
  have hd : 0 < 2 ^ (Ea - Eb).toNat := Nat.two_pow_pos _
  have hu : 0 < 2 ^ (Eb - m).toNat := Nat.two_pow_pos _
  have hdm := Nat.div_add_mod B (2 ^ (Ea - Eb).toNat)
  have ht := Nat.mod_lt B hd
  obtain ⟨q, hq⟩ : ∃ q, B / 2 ^ (Ea - Eb).toNat = q := ⟨_, rfl⟩
  obtain ⟨t, htt⟩ : ∃ t, B % 2 ^ (Ea - Eb).toNat = t := ⟨_, rfl⟩
  rw [hq, htt] at hdm ⊢
  rw [htt] at ht
  have e : A * 2 ^ (Ea - m).toNat + B * 2 ^ (Eb - m).toNat = ((A + q) * 2 ^ (Ea - Eb).toNat + t) * 2 ^ (Eb - m).toNat := by
    rw [hs, ← Nat.mul_assoc, ← Nat.add_mul, Nat.add_mul A, Nat.add_assoc, Nat.mul_comm q, hdm]
  obtain ⟨p1, p2⟩ := pack_even f mode n m ((A + q) * 2 ^ (Ea - Eb).toNat + t) (Eb - m).toNat
  obtain ⟨q1, q2⟩ := pack_refine f mode n Eb (A + q) t (Ea - Eb).toNat false ht (by omega)
  rw [show m + ((Eb - m).toNat : Int) = Eb by omega] at p1 p2
  rw [show Eb + ((Ea - Eb).toNat : Int) = Ea by omega, Bool.false_or] at q1 q2
  refine ⟨?_, fun z => ?_, rfl, ?_, ?_⟩
  · have := Nat.mul_le_mul a1 (Nat.two_pow_pos (Ea - m).toNat); omega
  · have := (Prod.mk.inj z).1; omega
  · rw [e, p1, q1]
  · rw [e, p2, q2]
theorem meet_less (f mode : Int) (n n' : Bool) (hn : n ≠ n') (Ea Eb m : Int) (A B : Nat) (hm : m ≤ Eb) (h : Eb ≤ Ea) (_ : Ea = Eb → B ≤ A) (a1 : 2305843009213693952 ≤ A) (b2 : B < 4611686018427387904) (b4 : B % 4 = 0) :
    (A * 2 ^ (Ea - m).toNat - B * 2 ^ (Eb - m).toNat = 0 ↔ (meetN n Ea A n' Eb B).2.2 = (0, false)) ∧ (meetN n Ea A n' Eb B).1 = n ∧
    (A * 2 ^ (Ea - m).toNat - B * 2 ^ (Eb - m).toNat ≠ 0 → packN f mode n (meetN n Ea A n' Eb B).2.1 (meetN n Ea A n' Eb B).2.2.1 (meetN n Ea A n' Eb B).2.2.2 = packN f mode n m (A * 2 ^ (Ea - m).toNat - B * 2 ^ (Eb - m).toNat) false ∧
    excN f mode n (meetN n Ea A n' Eb B).2.1 (meetN n Ea A n' Eb B).2.2.1 (meetN n Ea A n' Eb B).2.2.2 = excN f mode n m (A * 2 ^ (Ea - m).toNat - B * 2 ^ (Eb - m).toNat) false) := by
  have hb := fbounds f
  have hp : 2 ^ (fm f + 1) ≤ 2 ^ 24 := Nat.pow_le_pow_right (by decide) (by omega)
  have hr : meetN n Ea A n' Eb B = (n, Ea, A - B / 2 ^ (Ea - Eb).toNat - (if B % 2 ^ (Ea - Eb).toNat ≠ 0 then 1 else 0), decide (B % 2 ^ (Ea - Eb).toNat ≠ 0)) := by unfold meetN; rw [if_neg hn]
  have hs := pow_split m Eb Ea hm h
  rw [hr]
  dsimp only
  have hd : 0 < 2 ^ (Ea - Eb).toNat := Nat.two_pow_pos _
  have hu : 0 < 2 ^ (Eb - m).toNat := Nat.two_pow_pos _
  have hdm := Nat.div_add_mod B (2 ^ (Ea - Eb).toNat)
  have ht := Nat.mod_lt B hd
  have hX : A * 2 ^ (Ea - m).toNat - B * 2 ^ (Eb - m).toNat = (A * 2 ^ (Ea - Eb).toNat - B) * 2 ^ (Eb - m).toNat := by rw [hs, ← Nat.mul_assoc, ← Nat.sub_mul]
  by_cases t0 : B % 2 ^ (Ea - Eb).toNat = 0
  · rw [if_neg (show ¬ (B % 2 ^ (Ea - Eb).toNat ≠ 0) by omega), decide_eq_false (show ¬ (B % 2 ^ (Ea - Eb).toNat ≠ 0) by omega), Nat.sub_zero]
    have e : A * 2 ^ (Ea - m).toNat - B * 2 ^ (Eb - m).toNat = (A - B / 2 ^ (Ea - Eb).toNat) * 2 ^ (Ea - m).toNat := by
      rw [hX, hs, ← Nat.mul_assoc, Nat.sub_mul A]
      congr 2
      rw [t0, Nat.add_zero, Nat.mul_comm] at hdm
      exact hdm.symm
    obtain ⟨p1, p2⟩ := pack_even f mode n m (A - B / 2 ^ (Ea - Eb).toNat) (Ea - m).toNat
    rw [show m + ((Ea - m).toNat : Int) = Ea by omega] at p1 p2
    rw [e]
    have hw : 0 < 2 ^ (Ea - m).toNat := Nat.two_pow_pos _
    refine ⟨⟨fun z => ?_, fun z => ?_⟩, rfl, fun _ => ⟨p1.symm, p2.symm⟩⟩
    · rcases Nat.mul_eq_zero.mp z with z | z
      · rw [z]
      · omega
    · rw [(Prod.mk.inj z).1, Nat.zero_mul]
  · rw [if_pos t0, decide_eq_true (show B % 2 ^ (Ea - Eb).toNat ≠ 0 from t0)]
    have h3 : 3 ≤ (Ea - Eb).toNat := by
      rcases Nat.lt_or_ge (Ea - Eb).toNat 3 with c | c
      · exfalso
        have : (Ea - Eb).toNat = 0 ∨ (Ea - Eb).toNat = 1 ∨ (Ea - Eb).toNat = 2 := by omega
        rcases this with c | c | c <;> rw [c] at t0 <;> simp at t0 <;> omega
      · exact c
    have h8 : 2 ^ 3 ≤ 2 ^ (Ea - Eb).toNat := Nat.pow_le_pow_right (by decide) h3
    have hq : B / 2 ^ (Ea - Eb).toNat ≤ B / 2 ^ 3 := Nat.div_le_div_left h8 (by decide)
    have e : A * 2 ^ (Ea - m).toNat - B * 2 ^ (Eb - m).toNat = ((A - B / 2 ^ (Ea - Eb).toNat - 1) * 2 ^ (Ea - Eb).toNat + (2 ^ (Ea - Eb).toNat - B % 2 ^ (Ea - Eb).toNat)) * 2 ^ (Eb - m).toNat := by
      rw [hX]
      congr 1
      generalize 2 ^ (Ea - Eb).toNat = D at *
      generalize hqq : B / D = q at *
      generalize B % D = t at *
      have h1 : (A - q - 1) * D + D = (A - q) * D := by
        rw [← Nat.succ_mul]; congr 1; omega
      have h2 : (A - q) * D = A * D - D * q := by rw [Nat.sub_mul, Nat.mul_comm q]
      have h4 : D * q + D ≤ A * D := by
        rw [← Nat.mul_succ, Nat.mul_comm A]; exact Nat.mul_le_mul_left _ (by omega)
      omega
    have hqb : B / 2 ^ (Ea - Eb).toNat ≤ 576460752303423488 := by omega
    obtain ⟨p1, p2⟩ := pack_even f mode n m ((A - B / 2 ^ (Ea - Eb).toNat - 1) * 2 ^ (Ea - Eb).toNat + (2 ^ (Ea - Eb).toNat - B % 2 ^ (Ea - Eb).toNat)) (Eb - m).toNat
    obtain ⟨q1, q2⟩ := pack_refine f mode n Eb (A - B / 2 ^ (Ea - Eb).toNat - 1) (2 ^ (Ea - Eb).toNat - B % 2 ^ (Ea - Eb).toNat) (Ea - Eb).toNat false (by omega) (by omega)
    rw [show m + ((Eb - m).toNat : Int) = Eb by omega] at p1 p2
    rw [show Eb + ((Ea - Eb).toNat : Int) = Ea by omega, Bool.false_or, decide_eq_true (show 2 ^ (Ea - Eb).toNat - B % 2 ^ (Ea - Eb).toNat ≠ 0 by omega)] at q1 q2
    rw [e]
    refine ⟨⟨fun z => ?_, fun z => ?_⟩, rfl, fun _ => ⟨by rw [p1, q1], by rw [p2, q2]⟩⟩
    · exfalso
      rcases Nat.mul_eq_zero.mp z with z | z <;> omega
    · have := (Prod.mk.inj z).2; cases this
theorem exact_wide (f mode : Int) (n1 : Bool) (e1 : Int) (s1 : Nat) (n2 : Bool) (e2 : Int) (s2 : Nat) (l1 : -298 ≤ e1) (l2 : -298 ≤ e2) (h1 : s1 < 1152921504606846976) (h2 : s2 < 1152921504606846976) :
    roundedN f mode n1 n2 (exactN n1 e1 s1 n2 e2 s2) = (if (wideN n1 (s1 * 2 ^ (e1 + 298).toNat) n2 (s2 * 2 ^ (e2 + 298).toNat)).2 = 0 then noughtN f mode n1 n2 else packN f mode (wideN n1 (s1 * 2 ^ (e1 + 298).toNat) n2 (s2 * 2 ^ (e2 + 298).toNat)).1 (-298) (wideN n1 (s1 * 2 ^ (e1 + 298).toNat) n2 (s2 * 2 ^ (e2 + 298).toNat)).2 false) ∧
    roundedX f mode (exactN n1 e1 s1 n2 e2 s2) = (if (wideN n1 (s1 * 2 ^ (e1 + 298).toNat) n2 (s2 * 2 ^ (e2 + 298).toNat)).2 = 0 then (false, false, false) else excN f mode (wideN n1 (s1 * 2 ^ (e1 + 298).toNat) n2 (s2 * 2 ^ (e2 + 298).toNat)).1 (-298) (wideN n1 (s1 * 2 ^ (e1 + 298).toNat) n2 (s2 * 2 ^ (e2 + 298).toNat)).2 false) := by
  have one : ∀ (n : Bool) (e : Int) (s : Nat), -298 ≤ e → packN f mode n (-298) (s * 2 ^ (e + 298).toNat) false = packN f mode n e s false ∧ excN f mode n (-298) (s * 2 ^ (e + 298).toNat) false = excN f mode n e s false := fun n e s h => by
    have := pack_even f mode n (-298) s (e + 298).toNat
    rwa [show (-298 : Int) + ((e + 298).toNat : Int) = e by omega] at this
  have pos : ∀ (e : Int) (s : Nat), s ≠ 0 → s * 2 ^ (e + 298).toNat ≠ 0 := fun e s h => Nat.mul_ne_zero h (by have := Nat.two_pow_pos (e + 298).toNat; omega)
  unfold exactN roundedN roundedX
  by_cases z1 : s1 = 0
  · subst z1
    rw [if_pos rfl, Nat.zero_mul]
    by_cases z2 : s2 = 0
    · subst z2
      have hw : (wideN n1 0 n2 (0 * 2 ^ (e2 + 298).toNat)).2 = 0 := by unfold wideN; rw [Nat.zero_mul]; split <;> rfl
      rw [if_pos rfl, if_pos hw, if_pos rfl, if_pos hw]; exact ⟨rfl, rfl⟩
    · have hw : wideN n1 0 n2 (s2 * 2 ^ (e2 + 298).toNat) = (n2, s2 * 2 ^ (e2 + 298).toNat) := by
        unfold wideN
        by_cases n : n1 = n2
        · rw [if_pos n, n, Nat.zero_add]
        · rw [if_neg n, if_pos (Nat.pos_of_ne_zero (pos e2 s2 z2)), Nat.sub_zero]
      have hne : ¬ (s2, false) = (0, false) := fun e => z2 (Prod.mk.inj e).1
      rw [hw, if_neg hne, if_neg hne, if_neg (pos e2 s2 z2), if_neg (pos e2 s2 z2)]
      exact ⟨(one n2 e2 s2 l2).1.symm, (one n2 e2 s2 l2).2.symm⟩
  · rw [if_neg z1]
    by_cases z2 : s2 = 0
    · subst z2
      have hw : wideN n1 (s1 * 2 ^ (e1 + 298).toNat) n2 (0 * 2 ^ (e2 + 298).toNat) = (n1, s1 * 2 ^ (e1 + 298).toNat) := by
        unfold wideN
        rw [Nat.zero_mul]
        by_cases n : n1 = n2
        · rw [if_pos n, Nat.add_zero]
        · rw [if_neg n, if_neg (Nat.not_lt_zero _), Nat.sub_zero]
      have hne : ¬ (s1, false) = (0, false) := fun e => z1 (Prod.mk.inj e).1
      rw [if_pos rfl, hw, if_neg hne, if_neg hne, if_neg (pos e1 s1 z1), if_neg (pos e1 s1 z1)]
      exact ⟨(one n1 e1 s1 l1).1.symm, (one n1 e1 s1 l1).2.symm⟩
    · rw [if_neg z2]
      obtain ⟨a1, a2, a3, a4⟩ := gap_bounds s1 z1 (by omega)
      obtain ⟨b1, b2, b3, b4⟩ := gap_bounds s2 z2 (by omega)
      have k1 := lenN_bound s1 60 h1
      have k2 := lenN_bound s2 60 h2
      have m1 : s1 * 2 ^ gapN s1 % 4 = 0 := by
        rw [show gapN s1 = (gapN s1 - 2) + 2 by omega, Nat.pow_add, ← Nat.mul_assoc]; exact Nat.mul_mod_left _ _
      have m2 : s2 * 2 ^ gapN s2 % 4 = 0 := by
        rw [show gapN s2 = (gapN s2 - 2) + 2 by omega, Nat.pow_add, ← Nat.mul_assoc]; exact Nat.mul_mod_left _ _
      have up1 : s1 * 2 ^ gapN s1 * 2 ^ (e1 - (gapN s1 : Int) - (-400)).toNat = s1 * 2 ^ (e1 + 298).toNat * 2 ^ 102 := by
        rw [Nat.mul_assoc, ← Nat.pow_add, Nat.mul_assoc, ← Nat.pow_add]; congr 2; omega
      have up2 : s2 * 2 ^ gapN s2 * 2 ^ (e2 - (gapN s2 : Int) - (-400)).toNat = s2 * 2 ^ (e2 + 298).toNat * 2 ^ 102 := by
        rw [Nat.mul_assoc, ← Nat.pow_add, Nat.mul_assoc, ← Nat.pow_add]; congr 2; omega
      have E1 : -400 ≤ e1 - (gapN s1 : Int) := by omega
      have E2 : -400 ≤ e2 - (gapN s2 : Int) := by omega
      have down : ∀ (n : Bool) (W : Nat), packN f mode n (-400) (W * 2 ^ 102) false = packN f mode n (-298) W false ∧ excN f mode n (-400) (W * 2 ^ 102) false = excN f mode n (-298) W false := fun n W => pack_even f mode n (-400) W 102
      clear one k1 k2 a1 a2 b1 b2
      have X0 := pos e1 s1 z1
      have Y0 := pos e2 s2 z2
      generalize s1 * 2 ^ (e1 + 298).toNat = X at *
      generalize s2 * 2 ^ (e2 + 298).toNat = Y at *
      generalize e1 - (gapN s1 : Int) = F at *
      generalize e2 - (gapN s2 : Int) = G at *
      generalize s1 * 2 ^ gapN s1 = A at *
      generalize s2 * 2 ^ gapN s2 = B at *
      have p102 : 0 < 2 ^ 102 := Nat.two_pow_pos _
      -- two that stand in their order
      have main : ∀ (n n' : Bool) (F G : Int) (A B X Y : Nat), G ≤ F → (F = G → B ≤ A) → -400 ≤ G → 2305843009213693952 ≤ A → B < 4611686018427387904 → B % 4 = 0 → A * 2 ^ (F - (-400)).toNat = X * 2 ^ 102 → B * 2 ^ (G - (-400)).toNat = Y * 2 ^ 102 → X ≠ 0 →
          ∀ (w : Bool × Nat), w = (if n = n' then (n, X + Y) else (n, X - Y)) → ∀ (a b : Bool),
          (if (meetN n F A n' G B).2.2 = (0, false) then noughtN f mode a b else packN f mode (meetN n F A n' G B).1 (meetN n F A n' G B).2.1 (meetN n F A n' G B).2.2.1 (meetN n F A n' G B).2.2.2) = (if w.2 = 0 then noughtN f mode a b else packN f mode w.1 (-298) w.2 false) ∧
          (if (meetN n F A n' G B).2.2 = (0, false) then (false, false, false) else excN f mode (meetN n F A n' G B).1 (meetN n F A n' G B).2.1 (meetN n F A n' G B).2.2.1 (meetN n F A n' G B).2.2.2) = (if w.2 = 0 then (false, false, false) else excN f mode w.1 (-298) w.2 false) := by
        intro n n' F G A B X Y hGF h0 hG hA hB hB4 hX hY hX0 w hw a b
        by_cases c : n = n'
        · subst c
          rw [if_pos rfl] at hw
          subst hw
          obtain ⟨r1, r2, r3, r4, r5⟩ := meet_add f mode n F G (-400) A B hG hGF hA
          rw [hX, hY, ← Nat.add_mul] at r4 r5
          rw [(down n (X + Y)).1] at r4
          rw [(down n (X + Y)).2] at r5
          rw [if_neg r2, if_neg r2, r3, r4, r5]
          dsimp only
          rw [if_neg (show ¬ X + Y = 0 by omega), if_neg (show ¬ X + Y = 0 by omega)]
          exact ⟨rfl, rfl⟩
        · rw [if_neg c] at hw
          subst hw
          obtain ⟨r1, r2, r3⟩ := meet_less f mode n n' c F G (-400) A B hG hGF h0 hA hB hB4
          rw [hX, hY, ← Nat.sub_mul] at r1 r3
          dsimp only
          by_cases z : X - Y = 0
          · rw [if_pos (r1.mp (by rw [z, Nat.zero_mul])), if_pos (r1.mp (by rw [z, Nat.zero_mul])), if_pos z, if_pos z]
            exact ⟨rfl, rfl⟩
          · have z' : (X - Y) * 2 ^ 102 ≠ 0 := Nat.mul_ne_zero z (by omega)
            obtain ⟨r4, r5⟩ := r3 z'
            rw [(down n (X - Y)).1] at r4
            rw [(down n (X - Y)).2] at r5
            rw [if_neg (fun e => z' (r1.mpr e)), if_neg (fun e => z' (r1.mpr e)), if_neg z, if_neg z, r2, r4, r5]
            exact ⟨rfl, rfl⟩
      have ord : ∀ (F G : Int) (A B X Y : Nat), 2305843009213693952 ≤ B → A < 4611686018427387904 → -400 ≤ F → A * 2 ^ (F - (-400)).toNat = X * 2 ^ 102 → B * 2 ^ (G - (-400)).toNat = Y * 2 ^ 102 → (F < G ∨ F = G ∧ A < B) → X < Y := by
        intro F G A B X Y hB hA hF hX hY c
        refine Nat.lt_of_mul_lt_mul_right (a := 2 ^ 102) ?_
        rw [← hX, ← hY]
        rcases c with c | ⟨rfl, c⟩
        · have hs : 2 ^ (G - (-400)).toNat = 2 ^ (G - F).toNat * 2 ^ (F - (-400)).toNat := pow_split (-400) F G hF (by omega)
          have h2 : 2 ^ 1 ≤ 2 ^ (G - F).toNat := Nat.pow_le_pow_right (by decide) (by omega)
          rw [hs, ← Nat.mul_assoc]
          refine Nat.mul_lt_mul_of_pos_right ?_ (Nat.two_pow_pos _)
          have := Nat.mul_le_mul hB h2
          omega
        · exact Nat.mul_lt_mul_of_pos_right c (Nat.two_pow_pos _)
      by_cases c : F < G ∨ F = G ∧ A < B
      · rw [if_pos c]
        have hlt := ord F G A B X Y b3 a4 E1 up1 up2 c
        have hw : wideN n1 X n2 Y = (if n2 = n1 then (n2, Y + X) else (n2, Y - X)) := by
          unfold wideN
          by_cases n : n1 = n2
          · rw [if_pos n, if_pos n.symm, n, Nat.add_comm]
          · rw [if_neg n, if_pos hlt, if_neg (show ¬ n2 = n1 from fun e => n e.symm)]
        exact main n2 n1 G F B A Y X (by omega) (by omega) E1 b3 a4 m1 up2 up1 Y0 _ hw n1 n2
      · rw [if_neg c]
        have hle : ¬ X < Y := by
          intro hlt
          by_cases c' : G < F ∨ G = F ∧ B < A
          · have := ord G F B A Y X a3 b4 E2 up2 up1 c'; omega
          · obtain rfl : F = G := by omega
            obtain rfl : A = B := by omega
            have h5 := up1.symm.trans up2
            have := Nat.eq_of_mul_eq_mul_right p102 h5
            omega
        have hw : wideN n1 X n2 Y = (if n1 = n2 then (n1, X + Y) else (n1, X - Y)) := by
          unfold wideN
          by_cases n : n1 = n2
          · rw [if_pos n, if_pos n]
          · rw [if_neg n, if_neg n, if_neg hle]
        exact main n1 n2 F G A B X Y (by omega) (by omega) E2 a3 b4 m2 up1 up2 X0 _ hw n1 n2
end Go.Proofs.Ytejkemahdincjaa.Round

/- The reference's loops of layer 1: how many bits, shifts. -/
namespace Go.Proofs.Ytejkemahdincjaa.BitsF
open Go.RowKit Go.Proofs.Ytejkemahdincjaa.P Go.Proofs.Ytejkemahdincjaa.Num Go.Proofs.YtejkemahdincjaaW.PrintWords Go.Proofs.YtejkemahdincjaaW.PrintLast Go.Proofs.YtejkemahdincjaaW.PrintMore

theorem ref_len_l0 (j : Nat) : ∀ v c k : Nat, v < 2 ^ j → c + j ≤ 64 → annealref1_Len.l0 (j + 1 + k) (v : Int) (c : Int) = some ((c + lenN v : Nat) : Int) := by
 induction j with
 |zero =>
  intro v c k h _
  obtain rfl : v = 0 := by rw [Nat.pow_zero] at h; omega
  rw [show 0 + 1 + k = k + 1 by omega, annealref1_Len.l0, if_neg (by decide)]; rfl
 |succ j ih =>
  intro v c k h hc
  rw [show j + 1 + 1 + k = (j + 1 + k) + 1 by omega, annealref1_Len.l0]
  by_cases hv : v = 0
  ·subst hv; rw [if_neg (by decide)]; rfl
  ·rw [if_pos (by omega), show (v : Int) / 2 = ((v / 2 : Nat) : Int) by omega, w64_id _ (by omega) (by omega), show (c : Int) + 1 = ((c + 1 : Nat) : Int) by omega, ih _ _ k (by rw [Nat.pow_succ] at h; omega) (by omega), lenN_half v hv]
   congr 2; omega
theorem ref_len_ev (v : Nat) (hv : v < 18446744073709551616) : Ev (fun k => annealref1_Len.f k (v : Int)) (lenN v : Int) :=
 Ev.of (annealref1_Len.mono _) (k := 65) (by
  have h := ref_len_l0 64 v 0 0 (by omega) (by decide)
  rw [Nat.zero_add, show 64 + 1 + 0 = 65 from rfl] at h
  unfold annealref1_Len.f
  exact h)
theorem half_pow (v j : Nat) : v / 2 / 2 ^ j = v / 2 ^ (j + 1) := by rw [Nat.div_div_eq_div_mul, Nat.pow_succ, Nat.mul_comm 2]
theorem out_right (v j : Nat) : (decide (v % 2 ≠ 0) || decide (v / 2 % 2 ^ j ≠ 0)) = decide (v % 2 ^ (j + 1) ≠ 0) := by
 have e : v % 2 ^ (j + 1) = v % 2 + 2 * (v / 2 % 2 ^ j) := by rw [Nat.pow_succ, Nat.mul_comm, Nat.mod_mul]
 rw [← Bool.decide_or]
 congr 1; apply propext
 have hz : ∀ z : Nat, v / 2 % 2 ^ j = z → (v % 2 ≠ 0 ∨ z ≠ 0 ↔ v % 2 + 2 * z ≠ 0) := by intro z _; omega
 rw [e]; exact hz _ rfl
theorem ref_shift_l1 (j : Nat) : ∀ (v k : Nat) (b : Bool), v < 18446744073709551616 → j ≤ 64 →
  annealref1_Shift.l1 (j + 1 + k) (v : Int) (-(j : Int)) b = some (((v * 2 ^ j % 18446744073709551616 : Nat) : Int), b || decide (18446744073709551616 ≤ v * 2 ^ j)) := by
 induction j with
 |zero =>
  intro v k b hv _
  rw [show 0 + 1 + k = k + 1 by omega, annealref1_Shift.l1, if_neg (by decide), Nat.pow_zero, Nat.mul_one, Nat.mod_eq_of_lt hv, decide_eq_false (by omega), Bool.or_false]
 |succ j ih =>
  intro v k b hv hj
  have e1 : wrap64 (-((j + 1 : Nat) : Int) + 1) = -(j : Int) := by rw [w64_id] <;> omega
  have e2 : IntKind.u64.wrap ((v : Int) * 2) = ((v * 2 % 18446744073709551616 : Nat) : Int) := by rw [show (v : Int) * 2 = ((v * 2 : Nat) : Int) by omega, u64_nat]
  have e3 : (((v : Int) / 9223372036854775808 == 1) : Bool) = decide (9223372036854775808 ≤ v) := by
   by_cases h : 9223372036854775808 ≤ v
   ·rw [decide_eq_true h, beq_iff_eq]; omega
   ·rw [decide_eq_false h, beq_eq_false_iff_ne]; omega
  have e4 : v * 2 % 18446744073709551616 * 2 ^ j % 18446744073709551616 = v * 2 ^ (j + 1) % 18446744073709551616 := by
   rw [Nat.mod_mul_mod, Nat.mul_assoc, ← Nat.pow_succ']
  have e5 : ∀ b : Bool, ((b || decide (9223372036854775808 ≤ v)) || decide (18446744073709551616 ≤ v * 2 % 18446744073709551616 * 2 ^ j)) = (b || decide (18446744073709551616 ≤ v * 2 ^ (j + 1))) := by
   intro b
   rw [Bool.or_assoc, ← Bool.decide_or]
   congr 2
   apply propext
   rw [show v * 2 ^ (j + 1) = v * 2 * 2 ^ j by rw [Nat.mul_assoc, ← Nat.pow_succ']]
   have hp := Nat.two_pow_pos j
   constructor
   ·rintro (h | h)
    ·calc 18446744073709551616 ≤ v * 2 * 1 := by omega
      _ ≤ v * 2 * 2 ^ j := Nat.mul_le_mul_left _ hp
    ·exact Nat.le_trans h (Nat.mul_le_mul_right _ (Nat.mod_le _ _))
   ·intro h
    by_cases h' : 9223372036854775808 ≤ v
    ·exact .inl h'
    ·right; rw [Nat.mod_eq_of_lt (by omega)]; exact h
  rw [show j + 1 + 1 + k = (j + 1 + k) + 1 by omega, annealref1_Shift.l1, if_pos (by omega), e1, e2, e3]
  by_cases hb : b = true
  ·subst hb
   rw [if_pos rfl, ih _ k true (Nat.mod_lt _ (by decide)) (by omega), e4]
   simp only [Bool.true_or]
  ·rw [if_neg hb, ih _ k _ (Nat.mod_lt _ (by decide)) (by omega), e4]
   have : b = false := by simpa using hb
   subst this
   have := e5 false
   simp only [Bool.false_or] at this ⊢
   rw [this]
theorem ref_shift_l0 (j : Nat) : ∀ (v k : Nat) (b : Bool), v < 18446744073709551616 → j ≤ 64 →
  annealref1_Shift.l0 (j + 2 + k) (v : Int) (j : Int) b = some (((v / 2 ^ j : Nat) : Int), b || decide (v % 2 ^ j ≠ 0)) := by
 induction j with
 |zero =>
  intro v k b hv _
  have h := ref_shift_l1 0 v k b hv (by decide)
  rw [show 0 + 2 + k = (0 + 1 + k) + 1 by omega, annealref1_Shift.l0, if_neg (by decide), show ((0 : Nat) : Int) = -((0 : Nat) : Int) by rfl, h]
  simp [Nat.mod_one]; omega
 |succ j ih =>
  intro v k b hv hj
  have e1 : wrap64 (((j + 1 : Nat) : Int) - 1) = (j : Int) := by rw [w64_id] <;> omega
  have e3 : ((Go.bits .and .u64 (v : Int) 1 == 1) : Bool) = decide (v % 2 ≠ 0) := by
   rw [and1_u64 v hv]
   by_cases h : v % 2 ≠ 0
   ·rw [decide_eq_true h, beq_iff_eq]; omega
   ·rw [decide_eq_false h, beq_eq_false_iff_ne]; omega
  rw [show j + 1 + 2 + k = (j + 2 + k) + 1 by omega, annealref1_Shift.l0, if_pos (by omega), e1, e3, show (v : Int) / 2 = ((v / 2 : Nat) : Int) by omega]
  have o := out_right v j
  by_cases hb : b = true
  ·subst hb
   rw [if_pos rfl, ih _ k true (by omega) (by omega), half_pow]
   simp only [Bool.true_or]
  ·rw [if_neg hb, ih _ k _ (by omega) (by omega), half_pow, o]
   have : b = false := by simpa using hb
   subst this
   rfl
theorem ref_shift_ev (v : Nat) (hv : v < 18446744073709551616) (n : Int) :
  Ev (fun k => annealref1_Shift.f k (v : Int) n) ((((shiftN v n).1 : Nat) : Int), (shiftN v n).2) := by
 refine Ev.of (annealref1_Shift.mono _ _) (k := 67) ?_
 unfold annealref1_Shift.f
 by_cases c : 0 ≤ n
 ·obtain ⟨m, rfl⟩ := nat_of c
  have e : mn (mx (m : Int) (-64)) 64 = ((min m 64 : Nat) : Int) := by unfold mn mx; split <;> split <;> omega
  have h := ref_shift_l0 (min m 64) v (65 - min m 64) false hv (by omega)
  rw [show min m 64 + 2 + (65 - min m 64) = 67 by omega] at h
  rw [e, h, shiftN_right]
  by_cases c' : m ≤ 64
  ·rw [Nat.min_eq_left c']; rfl
  ·have b1 := pow_big (show 64 ≤ m by omega)
   rw [Nat.min_eq_right (by omega), Nat.div_eq_of_lt (show v < 2 ^ 64 by omega), Nat.mod_eq_of_lt (show v < 2 ^ 64 by omega), Nat.div_eq_of_lt (show v < 2 ^ m by omega), Nat.mod_eq_of_lt (show v < 2 ^ m by omega)]; rfl
 ·obtain ⟨m, hm⟩ := nat_of (show 0 ≤ -n by omega)
  obtain rfl : n = -(m : Int) := by omega
  have e : mn (mx (-(m : Int)) (-64)) 64 = -((min m 64 : Nat) : Int) := by unfold mn mx; split <;> split <;> omega
  have h := ref_shift_l1 (min m 64) v (65 - min m 64) false hv (by omega)
  rw [show min m 64 + 1 + (65 - min m 64) = 66 by omega] at h
  rw [e, annealref1_Shift.l0, if_neg (by omega), h, shiftN_left _ _ hv]
  by_cases c' : m ≤ 64
  ·rw [Nat.min_eq_left c']; rfl
  ·rw [Nat.min_eq_right (by omega)]
   have b1 := pow_big (show 64 ≤ m by omega)
   have e : (2 : Nat) ^ m = 18446744073709551616 * 2 ^ (m - 64) := by rw [show 18446744073709551616 = 2 ^ 64 from rfl, ← Nat.pow_add]; congr 1; omega
   have e1 : v * 2 ^ m % 18446744073709551616 = 0 := by rw [e, ← Nat.mul_assoc, Nat.mul_comm v, Nat.mul_assoc, Nat.mul_mod_right]
   rw [e1, show v * 2 ^ 64 % 18446744073709551616 = 0 by omega, Bool.false_or]
   congr 2
   apply decide_eq_decide.mpr
   constructor
   ·intro h1
    have : v ≠ 0 := by intro h0; subst h0; omega
    exact Nat.le_trans b1 (Nat.le_mul_of_pos_left _ (by omega))
   ·intro h1
    have : v ≠ 0 := by intro h0; subst h0; omega
    omega
end Go.Proofs.Ytejkemahdincjaa.BitsF

/- What the reference's rounding computes: the same plain numbers. -/
namespace Go.Proofs.Ytejkemahdincjaa.Round
open Go.RowKit Go.Proofs.Ytejkemahdincjaa.P Go.Proofs.Ytejkemahdincjaa.Num Go.Proofs.Ytejkemahdincjaa.BitsF Go.Proofs.Ytejkemahdincjaa.Fmt Go.Proofs.YtejkemahdincjaaW.PrintWords Go.Proofs.YtejkemahdincjaaW.PrintLast Go.Proofs.YtejkemahdincjaaW.PrintMore

theorem ref_greatest_f (f : Int) (neg : Bool) : annealref1_Greatest.f f neg = some (greatN f neg : Int) := by
 unfold annealref1_Greatest.f greatN
 obtain ⟨hi, _⟩ := inf_lt f neg
 have ht := top_cases f
 have hp := Nat.two_pow_pos (fm f)
 have : 0 < topN f * 2 ^ fm f := Nat.mul_pos (by omega) hp
 rw [ref_inf_f]; simp only [Option.bind_some]
 unfold infN at *
 congr 1; omega
theorem ref_divide_f (s : Nat) (hs : s < 18446744073709551616) (d : Int) (h1 : -100000 ≤ d) (h2 : d ≤ 100000) (hq : d ≤ 0 → s * 2 ^ (-d).toNat < 18446744073709551616) :
  Ev (fun k => annealref1_divide.f k (s : Int) d) ((quoN s d : Int), decide (2 ≤ leftN s d false), decide (leftN s d false = 1 ∨ leftN s d false = 3)) := by
 unfold annealref1_divide.f
 by_cases c : d ≤ 0
 ·obtain ⟨m, hm⟩ := nat_of (show 0 ≤ -d by omega)
  have e : mn (wrap64 (-d)) 63 = ((min m 63 : Nat) : Int) := by rw [w64_id _ (by omega) (by omega), hm]; unfold mn; split <;> omega
  simp only [if_pos c, e, if_pos (show 0 ≤ ((min m 63 : Nat) : Int) by omega), left_none false (.inl c)]
  have hq' := hq c
  rw [hm, Int.toNat_natCast] at hq'
  have e2 : IntKind.u64.wrap ((s : Int) * 2 ^ ((min m 63 : Nat) : Int).toNat) = (quoN s d : Int) := by
   rw [Int.toNat_natCast, show (s : Int) * 2 ^ (min m 63) = ((s * 2 ^ (min m 63) : Nat) : Int) by simp, u64_nat]
   unfold quoN; rw [if_pos c, hm, Int.toNat_natCast]
   by_cases z : s = 0
   ·subst z; simp
   ·have : m ≤ 63 := by
     rcases Nat.lt_or_ge 63 m with h | h
     ·have := pow_big (show 64 ≤ m by omega)
      have : 2 ^ m ≤ s * 2 ^ m := Nat.le_mul_of_pos_left _ (by omega)
      omega
     ·exact h
    rw [Nat.min_eq_left this, Nat.mod_eq_of_lt hq']
  rw [e2]
  exact Ev.now _
 ·obtain ⟨m, rfl⟩ := nat_of (show 0 ≤ d by omega)
  have hqe : quoN s (m : Int) = s / 2 ^ m := by unfold quoN; rw [if_neg c, Int.toNat_natCast]
  rw [hqe]
  simp only [if_neg c]
  by_cases c' : (m : Int) > 64
  ·simp only [if_pos c']
   have hb := pow_big (show 64 ≤ m - 1 by omega)
   have hb2 := pow_big (show 64 ≤ m by omega)
   have hl : leftN s (m : Int) false = if s = 0 then 0 else 1 := by
    by_cases z : s = 0
    ·subst z; rw [left_none _ (.inr (by simp))]; rfl
    ·rw [left_some _ c (by rw [Int.toNat_natCast, Nat.mod_eq_of_lt (by omega)]; exact z), Int.toNat_natCast, Nat.div_eq_of_lt (show s < 2 ^ (m - 1) by omega), if_neg z]; rfl
   rw [Nat.div_eq_of_lt (show s < 2 ^ m by omega), hl, show (0 : Int) = ((0 : Nat) : Int) from rfl, bne_cast]
   by_cases z : s = 0
   ·subst z; exact Ev.now _
   ·rw [if_neg z, decide_eq_true z]; exact Ev.now _
  ·have e : wrap64 ((m : Int) - 1) = ((m - 1 : Nat) : Int) := by rw [w64_id] <;> omega
   simp only [if_neg c', e]
   have hd : s / 2 ^ (m - 1) < 18446744073709551616 := Nat.lt_of_le_of_lt (Nat.div_le_self _ _) hs
   have s1 := ref_shift_ev s hs (m : Int)
   have s2 := ref_shift_ev s hs ((m - 1 : Nat) : Int)
   rw [shiftN_right] at s1 s2
   refine Ev.bind s1 (Ev.bind s2 (Ev.bind s2 ?_))
   rw [and1_u64 _ hd]
   have em : s % 2 ^ m = s % 2 ^ (m - 1) + 2 ^ (m - 1) * (s / 2 ^ (m - 1) % 2) := by
    rw [show m = m - 1 + 1 by omega, Nat.pow_succ, Nat.mod_mul, Nat.add_sub_cancel]
   have hb1 : (((s / 2 ^ (m - 1) % 2 : Nat) : Int) == 1) = decide (2 ≤ leftN s (m : Int) false) ∧ decide (s % 2 ^ (m - 1) ≠ 0) = decide (leftN s (m : Int) false = 1 ∨ leftN s (m : Int) false = 3) := by
    have hp := Nat.two_pow_pos (m - 1)
    by_cases z : s % 2 ^ m = 0
    ·rw [left_none _ (.inr (by rw [Int.toNat_natCast]; exact z))]
     rw [z] at em
     have z1 : s % 2 ^ (m - 1) = 0 := by omega
     have z2 : s / 2 ^ (m - 1) % 2 = 0 := by
      have : 2 ^ (m - 1) * (s / 2 ^ (m - 1) % 2) = 0 := by omega
      rcases Nat.mul_eq_zero.mp this with h | h
      ·omega
      ·exact h
     rw [z1, z2]; exact ⟨rfl, rfl⟩
    ·rw [left_some _ c (by rw [Int.toNat_natCast]; exact z), Int.toNat_natCast]
     have hb : s / 2 ^ (m - 1) % 2 = 0 ∨ s / 2 ^ (m - 1) % 2 = 1 := by omega
     rcases hb with hb | hb
     ·rw [hb, Nat.mul_zero, Nat.add_zero] at em
      rw [em] at z
      rw [hb, decide_eq_true z]; exact ⟨rfl, rfl⟩
     ·rw [hb, if_neg (by decide)]
      by_cases w : s % 2 ^ (m - 1) = 0
      ·rw [w]; exact ⟨rfl, rfl⟩
      ·rw [if_pos (.inl w), decide_eq_true w]; exact ⟨rfl, rfl⟩
   simp only [hb1.1, hb1.2]
   exact Ev.now _
theorem left_more (s : Nat) (d : Int) : decide (2 ≤ leftN s d true) = decide (2 ≤ leftN s d false) ∧ (leftN s d true = 1 ∨ leftN s d true = 3) := by
 by_cases c : d ≤ 0 ∨ s % 2 ^ d.toNat = 0
 ·rw [left_none _ c, left_none _ c]; simp
 ·have c' := not_or.mp c
  rw [left_some _ c'.1 c'.2, left_some _ c'.1 c'.2]
  split
  ·simp
  ·simp; split <;> simp
theorem ref_up_f (mode : Int) (neg : Bool) (q left : Nat) (h : left ≤ 3) : annealref1_up.f mode neg (decide (q % 2 = 1)) (decide (2 ≤ left)) (decide (left = 1 ∨ left = 3)) = some (upN mode neg q left) := by
 unfold annealref1_up.f upN
 have hl : left = 0 ∨ left = 1 ∨ left = 2 ∨ left = 3 := by omega
 by_cases m1 : mode = 1
 ·rw [if_pos m1, if_pos m1]
 ·rw [if_neg m1, if_neg m1]
  by_cases m2 : mode = 2
  ·rw [if_pos m2, if_pos m2]; rcases hl with rfl | rfl | rfl | rfl <;> cases neg <;> rfl
  ·rw [if_neg m2, if_neg m2]
   by_cases m3 : mode = 3
   ·rw [if_pos m3, if_pos m3]; rcases hl with rfl | rfl | rfl | rfl <;> cases neg <;> rfl
   ·rw [if_neg m3, if_neg m3]
    by_cases m4 : mode = 4
    ·rw [if_pos m4, if_pos m4]
    ·rw [if_neg m4, if_neg m4]
     rcases hl with rfl | rfl | rfl | rfl <;> simp
theorem ref_over_f (k : Nat) (f mode : Int) (neg : Bool) : annealref1_over.f (k + 1) f mode neg = some (((if endless mode neg then infN f neg else greatN f neg : Nat) : Int)) := by
 unfold annealref1_over.f endless
 simp only [annealref1_over.j0, ref_greatest_f, ref_inf_f, Option.bind_some]
 by_cases m1 : mode = 1
 ·rw [if_pos m1, if_pos m1]; rfl
 ·rw [if_neg m1, if_neg m1]
  by_cases m2 : mode = 2
  ·rw [if_pos m2, if_pos m2]; subst m2; cases neg <;> rfl
  ·rw [if_neg m2, if_neg m2]
   by_cases m3 : mode = 3
   ·rw [if_pos m3, if_pos m3]; cases neg <;> rfl
   ·rw [if_neg m3, if_neg m3]; rfl
/- The reference's rounding computes the same numbers as the program's. -/

theorem sign_or (f : Int) (neg : Bool) (v : Nat) (h : v < 2 ^ (fe f + fm f)) : Go.bits .or .u32 (signN f neg : Int) (v : Int) = ((v + signN f neg : Nat) : Int) ∧ v + signN f neg < 4294967296 := by
 obtain ⟨b1, b2, b3, b4, b5⟩ := fbounds f
 have h31 := pow_le31 b5
 unfold signN
 cases neg
 ·simp only [Bool.false_eq_true, if_false]
  rw [or_u32 _ _ (by omega) (by omega), Nat.zero_or, Nat.add_zero]; exact ⟨rfl, by omega⟩
 ·simp only [if_true]
  rw [or_u32 _ _ (by omega) (by omega), or_add _ _ (fe f + fm f) (by simp) h, Nat.add_comm]; exact ⟨rfl, by omega⟩
theorem ref_pack_j5 (k : Nat) (f mode : Int) (neg : Bool) (q U : Nat) (hU : U ≤ 10300) (hq : q < 2 ^ (fm f + 1)) (hq' : U ≠ 0 → 2 ^ fm f ≤ q) (K : Nat) (hK : K = U * 2 ^ fm f + q) (c0 c1 c2 c3 c4 : Bool) :
  annealref1_Pack.j5 (k + 2) f mode neg (fm f : Int) (leastN f - fm f + U) (q : Int) c0 c1 c2 c3 c4 = some
   ((((if overN f K then (if endless mode neg then topN f * 2 ^ fm f else topN f * 2 ^ fm f - 1) else K) + signN f neg : Nat) : Int),
    if overN f K then (false, false, true, false, true) else (c0, c1, c2, c3, c4)) ∧
  annealref1_Pack.j6 (k + 2) f mode neg (fm f : Int) (leastN f - fm f + U) (q : Int) c0 c1 c2 c3 c4 = some
   ((((if overN f K then (if endless mode neg then topN f * 2 ^ fm f else topN f * 2 ^ fm f - 1) else K) + signN f neg : Nat) : Int),
    if overN f K then (false, false, true, false, true) else (c0, c1, c2, c3, c4)) := by
 obtain ⟨b1, b2, b3, b4, b5⟩ := fbounds f
 have hl := least_cases f
 have hp := Nat.two_pow_pos (fm f)
 have hpe := Nat.two_pow_pos (fe f)
 have h31 := pow_le31 (show fm f + 1 ≤ 31 by omega)
 have h8 := pow_le31 (show fe f ≤ 31 by omega)
 have hsucc : 2 ^ (fm f + 1) = 2 * 2 ^ fm f := by rw [Nat.pow_succ, Nat.mul_comm]
 have ht := top_cases f
 obtain ⟨_, hte⟩ := inf_lt f neg
 have e1 : shl .u64 1 (fm f : Int) = ((2 ^ fm f : Nat) : Int) := by rw [show (1 : Int) = ((1 : Nat) : Int) from rfl, shl_u64, Nat.one_mul, Nat.mod_eq_of_lt (by omega)]
 have e2 : wrap64 (wrap64 (leastN f - (fm f : Int) + (U : Int) + (fm f : Int)) + (1 - leastN f)) = ((U + 1 : Nat) : Int) := by
  rw [w64_id (leastN f - (fm f : Int) + (U : Int) + (fm f : Int)) (by omega) (by omega), w64_id _ (by omega) (by omega)]; omega
 have e3 : wrap64 (shl .i64 1 (fe f : Int) - 1) = ((topN f : Nat) : Int) := by
  rw [one_shl_i64 _ (by omega), w64_id _ (by omega) (by omega)]; unfold topN; omega
 rw [annealref1_Pack.j5, annealref1_Pack.j6, if_pos (by omega), e1, ref_bias_f, ref_widths_f, ref_sign_f]
 simp only [Option.bind_some]
 rw [if_pos (show (0 : Int) ≤ (fe f : Int) by omega), e2, e3, ref_over_f]
 simp only [Option.bind_some]
 by_cases c : q < 2 ^ fm f
 ·have hU0 : U = 0 := by
   rcases Nat.eq_zero_or_pos U with h | h
   ·exact h
   ·have := hq' (by omega); omega
  have ho : overN f K = false := by
   unfold overN
   rw [decide_eq_false_iff_not, hK, hU0]
   have : 1 * 2 ^ fm f ≤ topN f * 2 ^ fm f := Nat.mul_le_mul_right _ (by omega)
   omega
  obtain ⟨s1, s2⟩ := sign_or f neg q (by omega)
  rw [if_pos (show (q : Int) < ((2 ^ fm f : Nat) : Int) by omega), show (q : Int) % 4294967296 = (q : Int) by omega, s1, ho, hK, hU0]
  simp
 ·rw [if_neg (show ¬ (q : Int) < ((2 ^ fm f : Nat) : Int) by omega)]
  have ho : ((U + 1 : Nat) : Int) ≥ (topN f : Int) ↔ overN f K = true := by
   unfold overN
   rw [decide_eq_true_iff, hK]
   constructor
   ·intro h
    have : topN f * 2 ^ fm f ≤ (U + 1) * 2 ^ fm f := Nat.mul_le_mul_right _ (by omega)
    rw [Nat.add_mul, Nat.one_mul] at this; omega
   ·intro h
    rcases Nat.lt_or_ge (U + 1) (topN f) with d | d
    ·have : (U + 1 + 1) * 2 ^ fm f ≤ topN f * 2 ^ fm f := Nat.mul_le_mul_right _ d
     rw [Nat.add_mul, Nat.add_mul, Nat.one_mul] at this; omega
    ·omega
  by_cases c' : ((U + 1 : Nat) : Int) ≥ (topN f : Int)
  ·rw [if_pos c', ho.mp c']
   simp only [if_true]
   have : (if endless mode neg then infN f neg else greatN f neg) = (if endless mode neg then topN f * 2 ^ fm f else topN f * 2 ^ fm f - 1) + signN f neg := by
    unfold infN greatN; split <;> rfl
   rw [this]
   exact ⟨rfl, rfl⟩
  ·rw [if_neg c']
   have co : overN f K = false := by simpa using fun h => c' (ho.mpr h)
   have hmul : (U + 1) * 2 ^ fm f + 2 ^ fm f ≤ 2 ^ (fe f + fm f) := by
    have : (U + 1) * 2 ^ fm f ≤ topN f * 2 ^ fm f := Nat.mul_le_mul_right _ (by omega)
    omega
   have h32 := pow_le31 b5
   have hm1 : q % 2 ^ fm f = q - 2 ^ fm f := by
    have h1 : q / 2 ^ fm f = 1 := Nat.div_eq_of_lt_le (by omega) (by omega)
    have := Nat.div_add_mod q (2 ^ fm f)
    rw [h1, Nat.mul_one] at this; omega
   have e4 : shl .u32 (((U + 1 : Nat) : Int) % 4294967296) (fm f : Int) = (((U + 1) * 2 ^ fm f : Nat) : Int) := by
    rw [show ((U + 1 : Nat) : Int) % 4294967296 = ((U + 1 : Nat) : Int) by omega, shl_u32, Nat.mod_eq_of_lt (by omega)]
   have e5 : Go.bits .and .u64 (q : Int) (IntKind.u64.wrap (((2 ^ fm f : Nat) : Int) - 1)) % 4294967296 = ((q % 2 ^ fm f : Nat) : Int) := by
    rw [show ((2 ^ fm f : Nat) : Int) - 1 = ((2 ^ fm f - 1 : Nat) : Int) by omega, u64_id _ (by omega), mask_u64 _ _ (by omega) (by omega)]
    have := Nat.mod_lt q hp; omega
   have hKe : K + signN f neg = (U + 1) * 2 ^ fm f + signN f neg + q % 2 ^ fm f := by
    rw [hK, hm1, Nat.add_mul]; omega
   obtain ⟨s1, s2⟩ := sign_or f neg ((U + 1) * 2 ^ fm f) (by omega)
   have hq2 : q % 2 ^ fm f < 2 ^ fm f := Nat.mod_lt _ hp
   have e6 : Go.bits .or .u32 (((U + 1) * 2 ^ fm f + signN f neg : Nat) : Int) ((q % 2 ^ fm f : Nat) : Int) = (((U + 1) * 2 ^ fm f + signN f neg + q % 2 ^ fm f : Nat) : Int) := by
    rw [or_u32 _ _ s2 (by omega), or_add _ _ (fm f) ?_ hq2]
    unfold signN
    cases neg
    ·simp
    ·simp only [if_true]
     rw [Nat.pow_add, ← Nat.add_mul, Nat.mul_mod_left]
   rw [e4, s1, e5, e6, co]
   simp only [Bool.false_eq_true, if_false, hKe]
   exact ⟨trivial, trivial⟩
theorem step_ew (f : Int) : wrap64 ((fm f : Int) + 1) = ((fm f + 1 : Nat) : Int) := by
 obtain ⟨b1, b2, b3, b4, b5⟩ := fbounds f
 rw [w64_id] <;> omega
theorem step_es (f : Int) : shl .u64 1 ((fm f + 1 : Nat) : Int) = ((2 ^ (fm f + 1) : Nat) : Int) := by
 obtain ⟨b1, b2, b3, b4, b5⟩ := fbounds f
 have h31 := pow_le31 (show fm f + 1 ≤ 31 by omega)
 rw [show (1 : Int) = ((1 : Nat) : Int) from rfl, shl_u64, Nat.one_mul, Nat.mod_eq_of_lt (by omega)]
theorem step_e8 (f : Int) (U : Nat) (h : U ≤ 10200) : wrap64 (leastN f - (fm f : Int) + (U : Int) + 1) = leastN f - (fm f : Int) + ((U + 1 : Nat) : Int) := by
 obtain ⟨b1, b2, b3, b4, b5⟩ := fbounds f
 have hl := least_cases f
 rw [w64_id] <;> omega
theorem step_e9 (f : Int) : (((2 ^ (fm f + 1) : Nat) : Int)) / 2 = ((2 ^ fm f : Nat) : Int) := by
 have hsucc : 2 ^ (fm f + 1) = 2 * 2 ^ fm f := by rw [Nat.pow_succ, Nat.mul_comm]
 omega
theorem step_lt (f : Int) : 2 ^ fm f < 2 ^ (fm f + 1) := Nat.pow_lt_pow_right (by decide) (Nat.lt_succ_self _)
theorem step_key (U m q : Nat) (h : q = 2 * m) : (U + 1) * m + m = U * m + q := by rw [Nat.add_mul]; omega
theorem step_q {a b : Nat} (h : a ≤ b) (h' : ¬ a = b) : a < b := by omega
theorem step_i {a b : Nat} (h' : ¬ a = b) : ¬ ((a : Int) = (b : Int)) := by omega
theorem step_n {m : Nat} : (0 : Int) ≤ (m : Int) := by omega
theorem ref_pack_ev (f mode : Int) (neg : Bool) (x : Int) (s : Nat) (more : Bool) (hs : s < 18446744073709551616) :
  Ev (fun k => annealref1_Pack.f k f mode neg x (s : Int) more) ((packN f mode neg (clampE x) s more : Int), false, false, excN f mode neg (clampE x) s more) := by
 unfold annealref1_Pack.f
 have hc : mn (mx x (-10000)) 10000 = clampE x := rfl
 obtain ⟨h1, h2⟩ := clampE_bounds x
 rw [hc]
 generalize clampE x = x at *
 have hll := left_le s (unitN f x s - x) more
 by_cases z : s = 0 ∧ more = false
 ·obtain ⟨rfl, rfl⟩ := z
  simp only [if_pos (show ((0 : Nat) : Int) = 0 from rfl)]
  refine Ev.step (fun k => by rw [annealref1_Pack.j0]) ?_
  simp only [Bool.not_false, if_true, ref_zero_f, Option.bind_some]
  have h := pack_f 0 f mode neg x 0 false (by decide)
  rw [clampE_id x h1 h2] at h
  unfold round_Pack.f at h
  rw [if_pos (by rfl), show mn (mx x (-10000)) 10000 = x from clampE_id x h1 h2, round_Pack.j0] at h
  simp only [Bool.not_false, if_true, zero_f, Option.bind_some] at h
  rw [← Option.some.inj h]
  exact Ev.now _
 ·have hj : ∀ k, (if (s : Int) = 0 then annealref1_Pack.j0 k f mode neg x (s : Int) more (!more) else annealref1_Pack.j0 k f mode neg x (s : Int) more false) = annealref1_Pack.j0 k f mode neg x (s : Int) more false := by
   intro k
   by_cases c : (s : Int) = 0
   ·rw [if_pos c]
    cases more
    ·exact absurd ⟨by omega, rfl⟩ z
    ·rfl
   ·rw [if_neg c]
  refine Ev.congr hj ?_
  obtain ⟨u1, u2, u3⟩ := unit_bounds f x s hs h1 h2
  obtain ⟨q1, q2⟩ := quo_bounds f x s
  obtain ⟨b1, b2, b3, b4, b5⟩ := fbounds f
  have hl := least_cases f
  have hn := lenN_small s hs
  have h31 := pow_le31 (show fm f + 1 ≤ 31 by omega)
  have hp := Nat.two_pow_pos (fm f)
  have hsucc : 2 ^ (fm f + 1) = 2 * 2 ^ fm f := by rw [Nat.pow_succ, Nat.mul_comm]
  have hq64 : quoN s (unitN f x s - x) < 18446744073709551616 := by omega
  have hd : unitN f x s - x ≤ 0 → s * 2 ^ (-(unitN f x s - x)).toNat < 18446744073709551616 := by
   intro h; have := hq64; unfold quoN at this; rw [if_pos h] at this; exact this
  -- the exponent that the reference takes
  have hE : ∃ e : Int, (∀ k, (if (s : Int) = 0 then annealref1_Pack.j1 k f mode neg x (s : Int) more (fm f : Int) (leastN f) (-20000) else annealref1_Pack.j1 k f mode neg x (s : Int) more (fm f : Int) (leastN f) (wrap64 (wrap64 (x + (lenN s : Int)) - 1))) = annealref1_Pack.j1 k f mode neg x (s : Int) more (fm f : Int) (leastN f) e) ∧ wrap64 (mx e (leastN f) - (fm f : Int)) = unitN f x s ∧ (decide (e < leastN f) = (decide (s = 0) || decide (x + lenN s - 1 < leastN f))) := by
   by_cases c : s = 0
   ·subst c
    refine ⟨-20000, fun k => by rw [if_pos (show ((0 : Nat) : Int) = 0 from rfl)], ?_, ?_⟩
    ·have : riseN f x 0 = 0 := by unfold riseN; rw [if_pos rfl]
     have hm : mx (-20000) (leastN f) = leastN f := by unfold mx; split <;> omega
     rw [hm]
     unfold unitN; rw [this, w64_id _ (by omega) (by omega)]; omega
    ·rw [decide_eq_true (by omega)]; simp
   ·have e1 : wrap64 (wrap64 (x + (lenN s : Int)) - 1) = x + lenN s - 1 := by
     rw [w64_id (x + _) (by omega) (by omega), w64_id _ (by omega) (by omega)]
    refine ⟨x + lenN s - 1, fun k => by rw [if_neg (by omega), e1], ?_, ?_⟩
    ·have hr : riseN f x s = (x + lenN s - 1 - leastN f).toNat := by unfold riseN; rw [if_neg c]
     unfold unitN mx
     split
     ·rw [w64_id _ (by omega) (by omega)]; omega
     ·rw [w64_id _ (by omega) (by omega)]; omega
    ·rw [decide_eq_false c, Bool.false_or]
  obtain ⟨e, he1, he2, he3⟩ := hE
  refine Ev.step (fun k => by rw [annealref1_Pack.j0]) ?_
  simp only [Bool.false_eq_true, if_false, ref_widths_f, ref_bias_f, Option.bind_some]
  refine Ev.bind (ref_len_ev s hs) ?_
  rw [show (1 : Int) - (1 - leastN f) = leastN f by omega, w64_id (leastN f) (by omega) (by omega)]
  refine Ev.congr he1 ?_
  refine Ev.step (fun k => by rw [annealref1_Pack.j1]) ?_
  rw [he2, w64_id (unitN f x s - x) (by omega) (by omega)]
  refine Ev.bind (ref_divide_f s hs _ (by omega) (by omega) hd) ?_
  -- what is left, with the little more
  have hlm : leftN s (unitN f x s - x) false ≤ 3 := left_le s _ false
  have hcol : ∀ k (r : Option (Int × Bool × Bool × Bool × Bool × Bool)), annealref1_Pack.j2 k f mode neg (fm f : Int) (leastN f) e (unitN f x s) (quoN s (unitN f x s - x) : Int) (decide (2 ≤ leftN s (unitN f x s - x) more)) (decide (leftN s (unitN f x s - x) more = 1 ∨ leftN s (unitN f x s - x) more = 3)) = r →
    (if decide (leftN s (unitN f x s - x) false = 1 ∨ leftN s (unitN f x s - x) false = 3) = true then annealref1_Pack.j2 k f mode neg (fm f : Int) (leastN f) e (unitN f x s) (quoN s (unitN f x s - x) : Int) (decide (2 ≤ leftN s (unitN f x s - x) false)) true else annealref1_Pack.j2 k f mode neg (fm f : Int) (leastN f) e (unitN f x s) (quoN s (unitN f x s - x) : Int) (decide (2 ≤ leftN s (unitN f x s - x) false)) more) = r := by
   intro k r h
   cases more
   ·by_cases c : leftN s (unitN f x s - x) false = 1 ∨ leftN s (unitN f x s - x) false = 3
    ·rw [decide_eq_true c] at h ⊢; rw [if_pos rfl]; exact h
    ·rw [decide_eq_false c] at h ⊢; rw [if_neg (by decide)]; exact h
   ·obtain ⟨m1, m2⟩ := left_more s (unitN f x s - x)
    rw [decide_eq_true m2, m1] at h
    split <;> exact h
  refine Ev.congr (fun k => hcol k _ rfl) ?_
  generalize hL : leftN s (unitN f x s - x) more = L at *
  refine Ev.step (fun k => by rw [annealref1_Pack.j2]) ?_
  have hinx : decide (L ≠ 0) = inexN f x s more := by unfold inexN; rw [hL]
  have h2 : ∀ k, (if decide (2 ≤ L) = true then annealref1_Pack.j3 k f mode neg (fm f : Int) (leastN f) e (unitN f x s) (quoN s (unitN f x s - x) : Int) (decide (2 ≤ L)) (decide (L = 1 ∨ L = 3)) true else annealref1_Pack.j3 k f mode neg (fm f : Int) (leastN f) e (unitN f x s) (quoN s (unitN f x s - x) : Int) (decide (2 ≤ L)) (decide (L = 1 ∨ L = 3)) (decide (L = 1 ∨ L = 3))) = annealref1_Pack.j3 k f mode neg (fm f : Int) (leastN f) e (unitN f x s) (quoN s (unitN f x s - x) : Int) (decide (2 ≤ L)) (decide (L = 1 ∨ L = 3)) (inexN f x s more) := by
   intro k
   rw [← hinx]
   have : L = 0 ∨ L = 1 ∨ L = 2 ∨ L = 3 := by omega
   rcases this with h | h | h | h <;> subst h <;> rfl
  refine Ev.congr h2 ?_
  refine Ev.step (fun k => by rw [annealref1_Pack.j3]) ?_
  have hodd : ((Go.bits .and .u64 (quoN s (unitN f x s - x) : Int) 1 == 1) : Bool) = decide (quoN s (unitN f x s - x) % 2 = 1) := by
   rw [and1_u64 _ hq64, show (1 : Int) = ((1 : Nat) : Int) from rfl, beq_nn]
  simp only [hodd, ref_up_f mode neg _ L hll, Option.bind_some]
  -- the unit above
  have hK : keyN f mode neg x s more = riseN f x s * 2 ^ fm f + (quoN s (unitN f x s - x) + (if upN mode neg (quoN s (unitN f x s - x)) L then 1 else 0)) := by
   unfold keyN; rw [hL, Nat.add_assoc]
  have h3 : ∀ k, (if upN mode neg (quoN s (unitN f x s - x)) L = true then annealref1_Pack.j4 k f mode neg (fm f : Int) (leastN f) e (unitN f x s) (IntKind.u64.wrap ((quoN s (unitN f x s - x) : Int) + 1)) (inexN f x s more) else annealref1_Pack.j4 k f mode neg (fm f : Int) (leastN f) e (unitN f x s) (quoN s (unitN f x s - x) : Int) (inexN f x s more)) = annealref1_Pack.j4 k f mode neg (fm f : Int) (leastN f) e (unitN f x s) ((quoN s (unitN f x s - x) + (if upN mode neg (quoN s (unitN f x s - x)) L then 1 else 0) : Nat) : Int) (inexN f x s more) := by
   intro k
   by_cases c : upN mode neg (quoN s (unitN f x s - x)) L = true
   ·rw [if_pos c, if_pos c, show (quoN s (unitN f x s - x) : Int) + 1 = ((quoN s (unitN f x s - x) + 1 : Nat) : Int) by omega, u64_id _ (by omega)]
   ·rw [if_neg c, if_neg c, Nat.add_zero]
  refine Ev.congr h3 ?_
  have hqn : quoN s (unitN f x s - x) + (if upN mode neg (quoN s (unitN f x s - x)) L then 1 else 0) ≤ 2 ^ (fm f + 1) := by split <;> omega
  have hqm : riseN f x s ≠ 0 → 2 ^ fm f ≤ quoN s (unitN f x s - x) + (if upN mode neg (quoN s (unitN f x s - x)) L then 1 else 0) := fun h => Nat.le_trans (q2 h) (Nat.le_add_right _ _)
  generalize quoN s (unitN f x s - x) + (if upN mode neg (quoN s (unitN f x s - x)) L then 1 else 0) = Q at *
  have hun : unitN f x s = leastN f - fm f + (riseN f x s : Nat) := rfl
  rw [hun]
  have ew := step_ew f
  have es := step_es f
  have e8 := step_e8 f _ u3
  have e9 := step_e9 f
  have fin : ∀ r : Int × Bool × Bool × Bool × Bool × Bool, r = ((((if overN f (keyN f mode neg x s more) then (if endless mode neg then topN f * 2 ^ fm f else topN f * 2 ^ fm f - 1) else keyN f mode neg x s more) + signN f neg : Nat) : Int), if overN f (keyN f mode neg x s more) then (false, false, true, false, true) else (false, false, false, underN f x s more, inexN f x s more)) → r = ((packN f mode neg x s more : Int), false, false, excN f mode neg x s more) := by
   intro r hr
   rw [hr]
   unfold packN excN
   split <;> rfl
  have hund : underN f x s more = (inexN f x s more && decide (e < leastN f)) := by unfold underN; rw [he3]
  refine Ev.step (fun k => by rw [annealref1_Pack.j4]) ?_
  simp only [ew, es, e8, if_pos (step_n (m := fm f + 1))]
  by_cases cQ : Q = 2 ^ (fm f + 1)
  ·have g := fun k c3 => ref_pack_j5 k f mode neg (2 ^ fm f) (riseN f x s + 1) (Nat.le_trans (Nat.succ_le_succ u3) (by decide)) (step_lt f) (fun _ => Nat.le_refl _) (keyN f mode neg x s more) (by rw [hK]; exact (step_key _ _ _ (cQ.trans hsucc)).symm) false false false c3 (inexN f x s more)
   simp only [cQ, if_true, e9]
   by_cases ci : inexN f x s more = true
   ·simp only [ci, if_true] at g ⊢
    rw [ci, Bool.true_and] at hund
    rw [← fin _ rfl, hund, ci]
    exact ⟨2, fun n hn => by obtain ⟨m, rfl⟩ : ∃ m, n = m + 2 := ⟨n - 2, by omega⟩; exact (g m _).1⟩
   ·rw [Bool.not_eq_true] at ci
    simp only [ci, Bool.false_eq_true, if_false] at g ⊢
    rw [ci, Bool.false_and] at hund
    rw [← fin _ rfl, hund, ci]
    exact ⟨2, fun n hn => by obtain ⟨m, rfl⟩ : ∃ m, n = m + 2 := ⟨n - 2, by omega⟩; exact (g m _).2⟩
  ·have g := fun k c3 => ref_pack_j5 k f mode neg Q (riseN f x s) (Nat.le_trans u3 (by decide)) (step_q hqn cQ) hqm (keyN f mode neg x s more) hK false false false c3 (inexN f x s more)
   have cQ' : ¬ ((Q : Int) = ((2 ^ (fm f + 1) : Nat) : Int)) := step_i cQ
   simp only [cQ', if_false]
   by_cases ci : inexN f x s more = true
   ·simp only [ci, if_true] at g ⊢
    rw [ci, Bool.true_and] at hund
    rw [← fin _ rfl, hund, ci]
    exact ⟨2, fun n hn => by obtain ⟨m, rfl⟩ : ∃ m, n = m + 2 := ⟨n - 2, by omega⟩; exact (g m _).1⟩
   ·rw [Bool.not_eq_true] at ci
    simp only [ci, Bool.false_eq_true, if_false] at g ⊢
    rw [ci, Bool.false_and] at hund
    rw [← fin _ rfl, hund, ci]
    exact ⟨2, fun n hn => by obtain ⟨m, rfl⟩ : ∃ m, n = m + 2 := ⟨n - 2, by omega⟩; exact (g m _).2⟩
end Go.Proofs.Ytejkemahdincjaa.Round
