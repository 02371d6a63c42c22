import Derived.Test.YtejkemahdincjaaQstWMore
import Derived.Test.YtejkemahdincjaaQstM1
import Derived.Test.YtejkemahdincjaaQstM2
import Derived.Test.YtejkemahdincjaaQstM3
import Derived.Test.YtejkemahdincjaaQstM4
import Derived.Test.YtejkemahdincjaaQstM5
/- Plain facts about whole numbers in their kinds: wraps, shifts, bits, as numbers from nought on. -/
set_option linter.unusedVariables false
set_option linter.unusedSimpArgs false
namespace Go.Proofs.Ytejkemahdincjaa.Num
open Go.RowKit Go.Proofs.YtejkemahdincjaaW.PrintWords Go.Proofs.YtejkemahdincjaaW.PrintLast Go.Proofs.YtejkemahdincjaaW.PrintMore

theorem u64_wrap (n : Int) : IntKind.u64.wrap n = n % 18446744073709551616 := by simp [IntKind.wrap, IntKind.bits, IntKind.signed]
theorem u32_wrap (n : Int) : IntKind.u32.wrap n = n % 4294967296 := by simp [IntKind.wrap, IntKind.bits, IntKind.signed]
theorem i64_wrap (n : Int) : IntKind.i64.wrap n = wrap64 n := by rw [i64_w]
theorem u64_nat (n : Nat) : IntKind.u64.wrap (n : Int) = ((n % 18446744073709551616 : Nat) : Int) := by rw [u64_wrap]; omega
theorem u64_id (n : Nat) (h : n < 18446744073709551616) : IntKind.u64.wrap (n : Int) = (n : Int) := by rw [u64_wrap]; omega
theorem w64_id (n : Int) (h : -9223372036854775808 ≤ n) (h' : n ≤ 9223372036854775807) : wrap64 n = n := by unfold wrap64; omega
theorem wf_u32 {n : Int} (h : (Lit.int .u32 n).wf = true) : 0 ≤ n ∧ n < 4294967296 := by
 simp [Lit.wf, IntKind.min, IntKind.max, IntKind.bits, IntKind.signed] at h; omega
theorem wf_u8 {n : Int} (h : (Lit.int .u8 n).wf = true) : 0 ≤ n ∧ n < 256 := by
 simp [Lit.wf, IntKind.min, IntKind.max, IntKind.bits, IntKind.signed] at h; omega
theorem nat_of {n : Int} (h : 0 ≤ n) : ∃ m : Nat, n = (m : Int) := ⟨n.toNat, by omega⟩

theorem pow_cast (n : Nat) : ((2 ^ n : Nat) : Int) = (2 : Int) ^ n := by simp

theorem shr_nat (k : IntKind) (v n : Nat) (hv : v < 2 ^ k.bits) : shr k (v : Int) (n : Int) = ((v / 2 ^ n : Nat) : Int) := by
 unfold shr
 rw [Int.toNat_natCast]
 by_cases h : n ≤ k.bits
 ·rw [Nat.min_eq_left h]; simp
 ·rw [Nat.min_eq_right (by omega), Nat.div_eq_of_lt (show v < 2 ^ n from Nat.lt_of_lt_of_le hv (Nat.pow_le_pow_right (by decide) (by omega)))]
  have : v / 2 ^ k.bits = 0 := Nat.div_eq_of_lt hv
  have e : ((v : Int) / 2 ^ k.bits) = ((v / 2 ^ k.bits : Nat) : Int) := by simp
  rw [e, this]
theorem shr_u64 (v n : Nat) (hv : v < 18446744073709551616) : shr .u64 (v : Int) (n : Int) = ((v / 2 ^ n : Nat) : Int) := shr_nat .u64 v n hv
theorem shr_u32 (v n : Nat) (hv : v < 4294967296) : shr .u32 (v : Int) (n : Int) = ((v / 2 ^ n : Nat) : Int) := shr_nat .u32 v n hv
theorem shl_u64 (v n : Nat) : shl .u64 (v : Int) (n : Int) = ((v * 2 ^ n % 18446744073709551616 : Nat) : Int) := by
 unfold shl
 rw [Int.toNat_natCast]
 by_cases h : n ≤ 64
 ·rw [show IntKind.u64.bits = 64 from rfl, Nat.min_eq_left h, show (v : Int) * 2 ^ n = ((v * 2 ^ n : Nat) : Int) by simp, u64_nat]
 ·have e : (2 : Nat) ^ n = 18446744073709551616 * 2 ^ (n - 64) := by rw [show 18446744073709551616 = 2 ^ 64 from rfl, ← Nat.pow_add]; congr 1; omega
  rw [Nat.min_eq_right (show IntKind.u64.bits ≤ n by show 64 ≤ n; omega), show (v : Int) * 2 ^ IntKind.u64.bits = ((v * 18446744073709551616 : Nat) : Int) by simp [IntKind.bits], u64_nat, Nat.mul_mod_left, e, ← Nat.mul_assoc, Nat.mul_comm v, Nat.mul_assoc, Nat.mul_mod_right]
theorem shl_u32 (v n : Nat) : shl .u32 (v : Int) (n : Int) = ((v * 2 ^ n % 4294967296 : Nat) : Int) := by
 unfold shl
 rw [Int.toNat_natCast]
 by_cases h : n ≤ 32
 ·rw [show IntKind.u32.bits = 32 from rfl, Nat.min_eq_left h, show (v : Int) * 2 ^ n = ((v * 2 ^ n : Nat) : Int) by simp, u32_wrap]; omega
 ·have e : (2 : Nat) ^ n = 4294967296 * 2 ^ (n - 32) := by rw [show 4294967296 = 2 ^ 32 from rfl, ← Nat.pow_add]; congr 1; omega
  rw [Nat.min_eq_right (show IntKind.u32.bits ≤ n by show 32 ≤ n; omega), show (v : Int) * 2 ^ IntKind.u32.bits = ((v * 4294967296 : Nat) : Int) by simp [IntKind.bits], u32_wrap, e, ← Nat.mul_assoc, Nat.mul_comm v, Nat.mul_assoc, Nat.mul_mod_right]; omega

theorem wraps_u64 (n : Int) (h₀ : 0 ≤ n) (h₁ : n < 2 ^ 64) : IntKind.u64.wrap n = n := by rw [u64_wrap]; omega
theorem wraps_u32 (n : Int) (h₀ : 0 ≤ n) (h₁ : n < 2 ^ 32) : IntKind.u32.wrap n = n := by rw [u32_wrap]; omega
theorem and_u64 (a b : Nat) (ha : a < 18446744073709551616) (hb : b < 18446744073709551616) : Go.bits .and .u64 a b = ((a &&& b : Nat) : Int) := (bits_nat .u64 64 (by decide) wraps_u64 a b ha hb).1
theorem or_u64 (a b : Nat) (ha : a < 18446744073709551616) (hb : b < 18446744073709551616) : Go.bits .or .u64 a b = ((a ||| b : Nat) : Int) := (bits_nat .u64 64 (by decide) wraps_u64 a b ha hb).2
theorem and_u32 (a b : Nat) (ha : a < 4294967296) (hb : b < 4294967296) : Go.bits .and .u32 a b = ((a &&& b : Nat) : Int) := (bits_nat .u32 32 (by decide) wraps_u32 a b ha hb).1
theorem or_u32 (a b : Nat) (ha : a < 4294967296) (hb : b < 4294967296) : Go.bits .or .u32 a b = ((a ||| b : Nat) : Int) := (bits_nat .u32 32 (by decide) wraps_u32 a b ha hb).2
theorem xor_u32 (a b : Nat) (ha : a < 4294967296) (hb : b < 4294967296) : Go.bits .xor .u32 a b = ((a ^^^ b : Nat) : Int) := by
 have e : (BitVec.ofInt 32 (a : Int) ^^^ BitVec.ofInt 32 (b : Int)).toNat = a ^^^ b := by
  rw [BitVec.toNat_xor, BitVec.ofInt_natCast, BitVec.ofInt_natCast, BitVec.toNat_ofNat, BitVec.toNat_ofNat, Nat.mod_eq_of_lt ha, Nat.mod_eq_of_lt hb]
 show IntKind.u32.wrap (((BitVec.ofInt 32 (a : Int) ^^^ BitVec.ofInt 32 (b : Int)).toNat : Nat) : Int) = _
 rw [e]
 exact wraps_u32 _ (Int.natCast_nonneg _) (by exact_mod_cast Nat.xor_lt_two_pow (n := 32) ha hb)
theorem mask_u64 (a n : Nat) (ha : a < 18446744073709551616) (hn : n ≤ 64) : Go.bits .and .u64 a ((2 ^ n - 1 : Nat) : Int) = ((a % 2 ^ n : Nat) : Int) := by
 have h : 2 ^ n - 1 < 18446744073709551616 := by
  have := Nat.pow_le_pow_right (show 0 < 2 by decide) hn
  have : 0 < 2 ^ n := Nat.two_pow_pos n
  omega
 rw [and_u64 a _ ha h, Nat.and_two_pow_sub_one_eq_mod]
theorem and1_u64 (a : Nat) (ha : a < 18446744073709551616) : Go.bits .and .u64 a 1 = ((a % 2 : Nat) : Int) := mask_u64 a 1 ha (by decide)
theorem or_add (a b n : Nat) (ha : a % 2 ^ n = 0) (hb : b < 2 ^ n) : a ||| b = a + b := by
 have hq : a = 2 ^ n * (a / 2 ^ n) := by have := Nat.div_add_mod a (2 ^ n); omega
 have := Nat.two_pow_add_eq_or_of_lt hb (a / 2 ^ n)
 rw [← hq] at this
 exact this.symm
end Go.Proofs.Ytejkemahdincjaa.Num

/- What the functions of layer 1 compute, as plain numbers. -/
namespace Go.Proofs.Ytejkemahdincjaa.BitsF
open Go.RowKit Go.Proofs.Ytejkemahdincjaa.P Go.Proofs.Ytejkemahdincjaa.Num Go.Proofs.YtejkemahdincjaaW.PrintWords Go.Proofs.YtejkemahdincjaaW.PrintLast Go.Proofs.YtejkemahdincjaaW.PrintMore

def shiftN (v : Nat) (n : Int) : Nat × Bool :=
 if 0 ≤ n then (v / 2 ^ n.toNat, decide (v % 2 ^ n.toNat ≠ 0)) else (v * 2 ^ (-n).toNat % 18446744073709551616, decide (18446744073709551616 ≤ v * 2 ^ (-n).toNat))
theorem shiftN_right (v n : Nat) : shiftN v (n : Int) = (v / 2 ^ n, decide (v % 2 ^ n ≠ 0)) := by
 unfold shiftN; rw [if_pos (by omega)]; simp
theorem shiftN_left (v n : Nat) (hv : v < 18446744073709551616) : shiftN v (-(n : Int)) = (v * 2 ^ n % 18446744073709551616, decide (18446744073709551616 ≤ v * 2 ^ n)) := by
 unfold shiftN
 by_cases h : n = 0
 ·subst h; simp [Nat.mod_one]; omega
 ·rw [if_neg (by omega)]; simp

theorem pow_big {n : Nat} (h : 64 ≤ n) : 18446744073709551616 ≤ 2 ^ n := by
 have : 2 ^ 64 ≤ 2 ^ n := Nat.pow_le_pow_right (by decide) h
 omega
theorem pow_dvd {n : Nat} (h : n ≤ 64) : 2 ^ n * 2 ^ (64 - n) = 18446744073709551616 := by
 rw [← Nat.pow_add, show n + (64 - n) = 64 by omega]
theorem back_ne (v n : Nat) : decide (v / 2 ^ n * 2 ^ n ≠ v) = decide (v % 2 ^ n ≠ 0) := by
 have := Nat.div_add_mod v (2 ^ n)
 rw [Nat.mul_comm] at this
 congr 1
 apply propext
 constructor <;> intro h <;> omega
theorem left_back (v n : Nat) (hn : n ≤ 64) : decide ((v * 2 ^ n % 18446744073709551616) / 2 ^ n ≠ v) = decide (18446744073709551616 ≤ v * 2 ^ n) := by
 have hp : 0 < 2 ^ n := Nat.two_pow_pos n
 have e : v * 2 ^ n % 18446744073709551616 = (v % 2 ^ (64 - n)) * 2 ^ n := by
  rw [← pow_dvd hn, Nat.mul_comm (2 ^ n), Nat.mul_mod_mul_right]
 rw [e, Nat.mul_div_cancel _ hp]
 congr 1
 apply propext
 have hq : 0 < 2 ^ (64 - n) := Nat.two_pow_pos _
 have d := pow_dvd hn
 constructor
 ·intro h
  have : 2 ^ (64 - n) ≤ v := by
   apply Nat.le_of_not_lt; intro hlt; exact h (Nat.mod_eq_of_lt hlt)
  calc 18446744073709551616 = 2 ^ (64 - n) * 2 ^ n := by rw [Nat.mul_comm]; exact d.symm
   _ ≤ v * 2 ^ n := Nat.mul_le_mul_right _ this
 ·intro h h'
  have hlt : v < 2 ^ (64 - n) := by rw [← h']; exact Nat.mod_lt _ hq
  have : v * 2 ^ n < 2 ^ (64 - n) * 2 ^ n := Nat.mul_lt_mul_of_pos_right hlt hp
  rw [Nat.mul_comm (2 ^ (64 - n)), d] at this
  omega
theorem bne_cast (a b : Nat) : (((a : Int) != (b : Int)) : Bool) = decide (a ≠ b) := by
 by_cases h : a = b
 ·subst h; simp
 ·rw [bne_iff_ne.mpr (by omega)]; simp [h]

theorem shift_f (v : Nat) (hv : v < 18446744073709551616) (n : Int) (h1 : -9223372036854775808 ≤ n) (h2 : n ≤ 9223372036854775807) (k : Nat) :
  bits_Shift.f (k + 1) (v : Int) n = some ((((shiftN v n).1 : Nat) : Int), (shiftN v n).2) := by
 unfold bits_Shift.f
 by_cases c : n ≥ 64
 ·rw [if_pos c]
  simp only [bits_Shift.j0, if_true]
  obtain ⟨m, rfl⟩ := nat_of (show 0 ≤ n by omega)
  rw [shiftN_right]
  have := pow_big (show 64 ≤ m by omega)
  rw [Nat.div_eq_of_lt (by omega), Nat.mod_eq_of_lt (by omega), ← bne_cast]; rfl
 ·rw [if_neg c]
  by_cases c' : n ≤ -64
  ·rw [decide_eq_true c']
   simp only [bits_Shift.j0, if_true]
   obtain ⟨m, hm⟩ := nat_of (show 0 ≤ -n by omega)
   obtain rfl : n = -(m : Int) := by omega
   rw [shiftN_left _ _ hv]
   have hb := pow_big (show 64 ≤ m by omega)
   have e : (2 : Nat) ^ m = 18446744073709551616 * 2 ^ (m - 64) := by rw [show 18446744073709551616 = 2 ^ 64 from rfl, ← Nat.pow_add]; congr 1; omega
   have e1 : v * 2 ^ m % 18446744073709551616 = 0 := by rw [e, ← Nat.mul_assoc, Nat.mul_comm v, Nat.mul_assoc, Nat.mul_mod_right]
   have e2 : decide (18446744073709551616 ≤ v * 2 ^ m) = decide (v ≠ 0) := by
    congr 1; apply propext
    constructor
    ·intro h h0; subst h0; omega
    ·intro h
     calc 18446744073709551616 ≤ 2 ^ m := hb
      _ = 1 * 2 ^ m := (Nat.one_mul _).symm
      _ ≤ v * 2 ^ m := Nat.mul_le_mul_right _ (by omega)
   simp only [e1, e2]
   rw [← bne_cast]; rfl
  ·rw [decide_eq_false c']
   simp only [bits_Shift.j0, Bool.false_eq_true, if_false]
   by_cases c0 : n ≥ 0
   ·rw [if_pos c0]
    obtain ⟨m, rfl⟩ := nat_of c0
    rw [u64_id _ (by omega), if_pos (by omega), shr_u64 _ _ hv, shl_u64, bne_cast, shiftN_right]
    have hle : v / 2 ^ m * 2 ^ m ≤ v := Nat.div_mul_le_self _ _
    rw [Nat.mod_eq_of_lt (by omega), back_ne]
   ·rw [if_neg c0]
    obtain ⟨m, hm⟩ := nat_of (show 0 ≤ -n by omega)
    obtain rfl : n = -(m : Int) := by omega
    rw [Int.neg_neg, w64_id _ (by omega) (by omega), u64_id _ (by omega), if_pos (by omega), shl_u64, shr_u64 _ _ (Nat.mod_lt _ (by decide)), bne_cast, shiftN_left _ _ hv, left_back _ _ (by omega)]
theorem shift_ev (v : Nat) (hv : v < 18446744073709551616) (n : Int) (h1 : -9223372036854775808 ≤ n) (h2 : n ≤ 9223372036854775807) :
  Ev (fun k => bits_Shift.f k (v : Int) n) ((((shiftN v n).1 : Nat) : Int), (shiftN v n).2) := Ev.of (bits_Shift.mono _ _) (shift_f v hv n h1 h2 0)

def lenN (v : Nat) : Nat := if v = 0 then 0 else v.log2 + 1
theorem lenN_lt (v : Nat) : v < 2 ^ lenN v := by
 unfold lenN
 by_cases h : v = 0
 ·subst h; decide
 ·rw [if_neg h]; exact (Nat.log2_lt h).mp (Nat.lt_succ_self _)
theorem lenN_le (v : Nat) (h : v ≠ 0) : 2 ^ (lenN v - 1) ≤ v := by
 unfold lenN
 rw [if_neg h, Nat.add_sub_cancel]
 exact (Nat.le_log2 h).mp (Nat.le_refl _)
theorem lenN_pos (v : Nat) (h : v ≠ 0) : 1 ≤ lenN v := by unfold lenN; rw [if_neg h]; omega
theorem lenN_of (v n : Nat) (h : v < 2 ^ n) (h' : n = 0 ∨ 2 ^ (n - 1) ≤ v) : lenN v = n := by
 by_cases hv : v = 0
 ·subst hv
  rcases h' with h' | h'
  ·subst h'; rfl
  ·have := Nat.two_pow_pos (n - 1); omega
 ·have hn : n ≠ 0 := by intro e; subst e; simp at h; omega
  have h' := h'.resolve_left hn
  unfold lenN; rw [if_neg hv]
  have a := (Nat.log2_lt hv).mpr h
  have b := (Nat.le_log2 hv).mpr h'
  omega
theorem lenN_bound (v n : Nat) (h : v < 2 ^ n) : lenN v ≤ n := by
 by_cases hv : v = 0
 ·subst hv; exact Nat.zero_le _
 ·unfold lenN; rw [if_neg hv]; exact (Nat.log2_lt hv).mpr h
theorem lenN_ge (v n : Nat) (h : 2 ^ n ≤ v) : n < lenN v := by
 have hv : v ≠ 0 := by have := Nat.two_pow_pos n; omega
 unfold lenN; rw [if_neg hv]; have := (Nat.le_log2 hv).mpr h; omega
theorem lenN_div (v n : Nat) (h : 2 ^ n ≤ v) : lenN (v / 2 ^ n) + n = lenN v := by
 have hp := Nat.two_pow_pos n
 have hq : v / 2 ^ n ≠ 0 := by have := Nat.div_pos h hp; omega
 symm
 apply lenN_of
 ·rw [Nat.pow_add, Nat.mul_comm]
  exact Nat.lt_mul_of_div_lt (lenN_lt _) hp |> fun z => by rw [Nat.mul_comm] at z; exact z
 ·right
  have h1 := lenN_pos _ hq
  rw [show lenN (v / 2 ^ n) + n - 1 = lenN (v / 2 ^ n) - 1 + n by omega, Nat.pow_add]
  exact (Nat.le_div_iff_mul_le hp).mp (lenN_le _ hq)
theorem lenN_mul (v n : Nat) (h : v ≠ 0) : lenN (v * 2 ^ n) = lenN v + n := by
 have hp := Nat.two_pow_pos n
 have := lenN_div (v * 2 ^ n) n (Nat.le_mul_of_pos_left _ (by omega))
 rw [Nat.mul_div_cancel _ hp] at this
 omega
theorem lenN_half (v : Nat) (h : v ≠ 0) : lenN v = lenN (v / 2) + 1 := by
 by_cases h1 : v = 1
 ·subst h1; decide
 ·have := lenN_div v 1 (by omega)
  rw [Nat.pow_one] at this; omega
theorem tab_all : ∀ i : Fin 256, bt (⟨#[0, 1, 2, 2, 3, 3, 3, 3, 4, 4, 4, 4, 4, 4, 4, 4, 5, 5, 5, 5, 5, 5, 5, 5, 5, 5, 5, 5, 5, 5, 5, 5, 6, 6, 6, 6, 6, 6, 6, 6, 6, 6, 6, 6, 6, 6, 6, 6, 6, 6, 6, 6, 6, 6, 6, 6, 6, 6, 6, 6, 6, 6, 6, 6, 7, 7, 7, 7, 7, 7, 7, 7, 7, 7, 7, 7, 7, 7, 7, 7, 7, 7, 7, 7, 7, 7, 7, 7, 7, 7, 7, 7, 7, 7, 7, 7, 7, 7, 7, 7, 7, 7, 7, 7, 7, 7, 7, 7, 7, 7, 7, 7, 7, 7, 7, 7, 7, 7, 7, 7, 7, 7, 7, 7, 7, 7, 7, 7, 8, 8, 8, 8, 8, 8, 8, 8, 8, 8, 8, 8, 8, 8, 8, 8, 8, 8, 8, 8, 8, 8, 8, 8, 8, 8, 8, 8, 8, 8, 8, 8, 8, 8, 8, 8, 8, 8, 8, 8, 8, 8, 8, 8, 8, 8, 8, 8, 8, 8, 8, 8, 8, 8, 8, 8, 8, 8, 8, 8, 8, 8, 8, 8, 8, 8, 8, 8, 8, 8, 8, 8, 8, 8, 8, 8, 8, 8, 8, 8, 8, 8, 8, 8, 8, 8, 8, 8, 8, 8, 8, 8, 8, 8, 8, 8, 8, 8, 8, 8, 8, 8, 8, 8, 8, 8, 8, 8, 8, 8, 8, 8, 8, 8, 8, 8, 8, 8, 8, 8, 8, 8, 8, 8, 8, 8, 8, 8]⟩ : ByteArray) ((i.val : Nat) : Int) = (lenN i.val : Int) := by decide +kernel
theorem tab_len (i : Nat) (h : i < 256) : bt (⟨#[0, 1, 2, 2, 3, 3, 3, 3, 4, 4, 4, 4, 4, 4, 4, 4, 5, 5, 5, 5, 5, 5, 5, 5, 5, 5, 5, 5, 5, 5, 5, 5, 6, 6, 6, 6, 6, 6, 6, 6, 6, 6, 6, 6, 6, 6, 6, 6, 6, 6, 6, 6, 6, 6, 6, 6, 6, 6, 6, 6, 6, 6, 6, 6, 7, 7, 7, 7, 7, 7, 7, 7, 7, 7, 7, 7, 7, 7, 7, 7, 7, 7, 7, 7, 7, 7, 7, 7, 7, 7, 7, 7, 7, 7, 7, 7, 7, 7, 7, 7, 7, 7, 7, 7, 7, 7, 7, 7, 7, 7, 7, 7, 7, 7, 7, 7, 7, 7, 7, 7, 7, 7, 7, 7, 7, 7, 7, 7, 8, 8, 8, 8, 8, 8, 8, 8, 8, 8, 8, 8, 8, 8, 8, 8, 8, 8, 8, 8, 8, 8, 8, 8, 8, 8, 8, 8, 8, 8, 8, 8, 8, 8, 8, 8, 8, 8, 8, 8, 8, 8, 8, 8, 8, 8, 8, 8, 8, 8, 8, 8, 8, 8, 8, 8, 8, 8, 8, 8, 8, 8, 8, 8, 8, 8, 8, 8, 8, 8, 8, 8, 8, 8, 8, 8, 8, 8, 8, 8, 8, 8, 8, 8, 8, 8, 8, 8, 8, 8, 8, 8, 8, 8, 8, 8, 8, 8, 8, 8, 8, 8, 8, 8, 8, 8, 8, 8, 8, 8, 8, 8, 8, 8, 8, 8, 8, 8, 8, 8, 8, 8, 8, 8, 8, 8, 8, 8]⟩ : ByteArray) (i : Int) = (lenN i : Int) := tab_all ⟨i, h⟩
theorem lenN_small (v : Nat) (h : v < 18446744073709551616) : lenN v ≤ 64 := lenN_bound v 64 h
set_option maxRecDepth 100000 in
theorem len_j0 (k x c : Nat) (hx : x < 4294967296) (hc : c ≤ 64) : bits_Len64.j0 (k + 1) (x : Int) (c : Int) = some ((c + lenN x : Nat) : Int) := by
 rw [bits_Len64.j0]
 have e1 : (x : Int) / 65536 = ((x / 65536 : Nat) : Int) := by omega
 have e2 : (x : Int) / 65536 / 256 = ((x / 65536 / 256 : Nat) : Int) := by omega
 have e3 : (x : Int) / 256 = ((x / 256 : Nat) : Int) := by omega
 by_cases c1 : (x : Int) ≥ 65536
 ·rw [if_pos c1]
  by_cases c2 : (x : Int) / 65536 ≥ 256
  ·rw [if_pos c2, e2, show ((x / 65536 / 256 : Nat) : Int) % 256 = ((x / 65536 / 256 : Nat) : Int) by omega, if_pos (by omega), if_pos (by omega), tab_len _ (by omega)]
   have h := lenN_div x 24 (by omega)
   rw [show x / 2 ^ 24 = x / 65536 / 256 by omega] at h
   have b := lenN_bound (x / 65536 / 256) 8 (by omega)
   rw [w64_id (c + 16) (by omega) (by omega), w64_id (c + 16 + 8) (by omega) (by omega), w64_id (lenN _) (by omega) (by omega), w64_id _ (by omega) (by omega)]
   congr 1; omega
  ·rw [if_neg c2, e1, show ((x / 65536 : Nat) : Int) % 256 = ((x / 65536 : Nat) : Int) by omega, if_pos (by omega), if_pos (by omega), tab_len _ (by omega)]
   have h := lenN_div x 16 (by omega)
   rw [show x / 2 ^ 16 = x / 65536 by omega] at h
   have b := lenN_bound (x / 65536) 8 (by omega)
   rw [w64_id (c + 16) (by omega) (by omega), w64_id (lenN _) (by omega) (by omega), w64_id _ (by omega) (by omega)]
   congr 1; omega
 ·rw [if_neg c1]
  by_cases c2 : (x : Int) ≥ 256
  ·rw [if_pos c2, e3, show ((x / 256 : Nat) : Int) % 256 = ((x / 256 : Nat) : Int) by omega, if_pos (by omega), if_pos (by omega), tab_len _ (by omega)]
   have h := lenN_div x 8 (by omega)
   rw [show x / 2 ^ 8 = x / 256 by omega] at h
   have b := lenN_bound (x / 256) 8 (by omega)
   rw [w64_id (c + 8) (by omega) (by omega), w64_id (lenN _) (by omega) (by omega), w64_id _ (by omega) (by omega)]
   congr 1; omega
  ·rw [if_neg c2, show (x : Int) % 256 = (x : Int) by omega, if_pos (by omega), if_pos (by omega), tab_len _ (by omega)]
   have b := lenN_bound x 8 (by omega)
   rw [w64_id (lenN _) (by omega) (by omega), w64_id _ (by omega) (by omega)]
   congr 1
theorem len64_f (k v : Nat) (hv : v < 18446744073709551616) : bits_Len64.f (k + 1) (v : Int) = some (lenN v : Int) := by
 unfold bits_Len64.f
 by_cases c : (v : Int) ≥ 4294967296
 ·rw [if_pos c, show (v : Int) / 4294967296 = ((v / 4294967296 : Nat) : Int) by omega]
  have h := len_j0 k (v / 4294967296) 32 (by omega) (by decide)
  have e := lenN_div v 32 (by omega)
  rw [show v / 2 ^ 32 = v / 4294967296 by omega] at e
  rw [show ((32 : Nat) : Int) = 32 from rfl] at h
  rw [h]; congr 1; omega
 ·rw [if_neg c]
  have h := len_j0 k v 0 (by omega) (by decide)
  rw [show ((0 : Nat) : Int) = 0 from rfl] at h
  rw [h, Nat.zero_add]
theorem len_f (k v : Nat) (hv : v < 18446744073709551616) : bits_Len.f (k + 1) (v : Int) = some (lenN v : Int) := by
 unfold bits_Len.f; rw [len64_f k v hv]; rfl
theorem len_ev (v : Nat) (hv : v < 18446744073709551616) : Ev (fun k => bits_Len.f k (v : Int)) (lenN v : Int) := Ev.of (bits_Len.mono _) (len_f 0 v hv)

def cutN (v : Nat) (n : Int) : Nat := if n < 1 then 0 else v % 2 ^ n.toNat
theorem cut_mask (v n : Nat) (hv : v < 18446744073709551616) (hn : n < 64) : Go.bits .and .u64 (v : Int) (IntKind.u64.wrap (shl .u64 1 (n : Int) - 1)) = ((v % 2 ^ n : Nat) : Int) := by
 have hp : 2 ^ n ≤ 2 ^ 63 := Nat.pow_le_pow_right (by decide) (by omega)
 have h0 := Nat.two_pow_pos n
 rw [show (1 : Int) = ((1 : Nat) : Int) from rfl, shl_u64, Nat.one_mul, Nat.mod_eq_of_lt (by omega), show ((2 ^ n : Nat) : Int) - ((1 : Nat) : Int) = ((2 ^ n - 1 : Nat) : Int) by omega, u64_id _ (by omega), mask_u64 _ _ hv (by omega)]
theorem cut_f (v : Nat) (hv : v < 18446744073709551616) (n : Int) (h2 : n ≤ 9223372036854775807) : bits_Cut.f (v : Int) n = some (cutN v n : Int) := by
 unfold bits_Cut.f cutN
 by_cases c : n < 1
 ·rw [if_pos c, if_pos c]; rfl
 ·rw [if_neg c, if_neg c]
  obtain ⟨m, rfl⟩ := nat_of (show 0 ≤ n by omega)
  by_cases c' : (m : Int) ≥ 64
  ·rw [if_pos c', Int.toNat_natCast, Nat.mod_eq_of_lt (by have := pow_big (show 64 ≤ m by omega); omega)]
  ·rw [if_neg c', u64_id _ (by omega), if_pos (by omega), cut_mask _ _ hv (by omega), Int.toNat_natCast]
end Go.Proofs.Ytejkemahdincjaa.BitsF

/- What the program's package format computes, as plain numbers: widths, parts, classes, whole numbers and exponents. -/
namespace Go.Proofs.Ytejkemahdincjaa.Fmt
open Go.RowKit Go.Proofs.Ytejkemahdincjaa.P Go.Proofs.Ytejkemahdincjaa.Num Go.Proofs.Ytejkemahdincjaa.BitsF Go.Proofs.YtejkemahdincjaaW.PrintWords Go.Proofs.YtejkemahdincjaaW.PrintLast Go.Proofs.YtejkemahdincjaaW.PrintMore

def fe (f : Int) : Nat := if f = 0 then 5 else 8
def fm (f : Int) : Nat := if f = 0 then 10 else if f = 1 then 7 else 23
theorem fcases (f : Int) : (fe f = 5 ∧ fm f = 10) ∨ (fe f = 8 ∧ fm f = 7) ∨ (fe f = 8 ∧ fm f = 23) := by
 unfold fe fm
 split
 ·exact .inl ⟨rfl, rfl⟩
 ·split
  ·exact .inr (.inl ⟨rfl, rfl⟩)
  ·exact .inr (.inr ⟨rfl, rfl⟩)
theorem fbounds (f : Int) : 5 ≤ fe f ∧ fe f ≤ 8 ∧ 7 ≤ fm f ∧ fm f ≤ 23 ∧ fe f + fm f ≤ 31 := by
 rcases fcases f with ⟨h1, h2⟩ | ⟨h1, h2⟩ | ⟨h1, h2⟩ <;> rw [h1, h2] <;> decide
def topN (f : Int) : Nat := 2 ^ fe f - 1
def leastN (f : Int) : Int := 2 - 2 ^ (fe f - 1)
theorem least_cases (f : Int) : leastN f = -14 ∨ leastN f = -126 := by
 unfold leastN
 rcases fcases f with ⟨h1, _⟩ | ⟨h1, _⟩ | ⟨h1, _⟩ <;> rw [h1] <;> simp
theorem top_cases (f : Int) : topN f = 31 ∨ topN f = 255 := by
 unfold topN
 rcases fcases f with ⟨h1, _⟩ | ⟨h1, _⟩ | ⟨h1, _⟩ <;> rw [h1] <;> simp
def signN (f : Int) (neg : Bool) : Nat := if neg then 2 ^ (fe f + fm f) else 0
def negN (f : Int) (v : Nat) : Bool := decide (v / 2 ^ (fe f + fm f) % 2 = 1)
def expN (f : Int) (v : Nat) : Nat := v / 2 ^ fm f % 2 ^ fe f
def fracN (f : Int) (v : Nat) : Nat := v % 2 ^ fm f
theorem exp_le (f : Int) (v : Nat) : expN f v ≤ topN f := by
 unfold expN topN
 have := Nat.mod_lt (v / 2 ^ fm f) (Nat.two_pow_pos (fe f))
 omega
theorem frac_lt (f : Int) (v : Nat) : fracN f v < 2 ^ fm f := Nat.mod_lt _ (Nat.two_pow_pos _)

theorem wu (n : Nat) (h : n < 9223372036854775808) : IntKind.u64.wrap (wrap64 (n : Int)) = (n : Int) := by rw [w64_id _ (by omega) (by omega), u64_id _ (by omega)]
theorem pow_le31 {n : Nat} (h : n ≤ 31) : 2 ^ n ≤ 2147483648 := Nat.pow_le_pow_right (show 0 < 2 by decide) h
theorem pow_le32 {n : Nat} (h : n ≤ 32) : 2 ^ n ≤ 4294967296 := Nat.pow_le_pow_right (show 0 < 2 by decide) h
theorem one_shl (n : Nat) (h : n ≤ 31) : shl .u32 1 (n : Int) = ((2 ^ n : Nat) : Int) := by
 have := pow_le31 h
 rw [show (1 : Int) = ((1 : Nat) : Int) from rfl, shl_u32, Nat.one_mul, Nat.mod_eq_of_lt (by omega)]
theorem mask_u32 (a n : Nat) (ha : a < 4294967296) (hn : n ≤ 31) : Go.bits .and .u32 (a : Int) ((shl .u32 1 (n : Int) - 1) % 4294967296) = ((a % 2 ^ n : Nat) : Int) := by
 have h1 := pow_le31 hn
 have h0 := Nat.two_pow_pos n
 rw [one_shl n hn, show (((2 ^ n : Nat) : Int) - 1) % 4294967296 = ((2 ^ n - 1 : Nat) : Int) by omega, and_u32 _ _ ha (by omega), Nat.and_two_pow_sub_one_eq_mod]
theorem and1_u32 (a : Nat) (ha : a < 4294967296) : Go.bits .and .u32 (a : Int) 1 = ((a % 2 : Nat) : Int) := by
 rw [show (1 : Int) = ((2 ^ 1 - 1 : Nat) : Int) from rfl, and_u32 _ _ ha (by decide), Nat.and_two_pow_sub_one_eq_mod]
theorem one_shl_i64 (n : Nat) (h : n ≤ 31) : shl .i64 1 (n : Int) = ((2 ^ n : Nat) : Int) := by
 have := pow_le31 h
 have := Nat.two_pow_pos n
 unfold shl
 rw [Int.toNat_natCast, Nat.min_eq_left (show n ≤ IntKind.i64.bits by show n ≤ 64; omega), i64_wrap, Int.one_mul, ← pow_cast, w64_id _ (by omega) (by omega)]

theorem widths_f (f : Int) : format_Widths.f f = some ((fe f : Int), (fm f : Int)) := by
 unfold format_Widths.f fe fm
 by_cases h : f = 0
 ·subst h; rfl
 ·rw [if_neg h, if_neg h, if_neg h]
  by_cases h1 : f = 1
  ·subst h1; rfl
  ·rw [if_neg h1, if_neg h1]; rfl
def joinN (f : Int) (neg : Bool) (at_ frac : Nat) : Nat := at_ * 2 ^ fm f + frac + signN f neg
theorem join_f (f : Int) (neg : Bool) (a c : Nat) (ha : a ≤ topN f) (hc : c < 2 ^ fm f) : format_Join.f f neg (a : Int) (c : Int) = some (joinN f neg a c : Int) := by
 unfold format_Join.f joinN signN
 rw [widths_f]
 obtain ⟨b1, b2, b3, b4, b5⟩ := fbounds f
 have hp := Nat.two_pow_pos (fm f)
 have hle : a * 2 ^ fm f + 2 ^ fm f ≤ 2 ^ (fe f + fm f) := by
  rw [Nat.pow_add, ← Nat.succ_mul]
  apply Nat.mul_le_mul_right
  unfold topN at ha
  have := Nat.two_pow_pos (fe f); omega
 have h31 := pow_le31 b5
 have e1 : shl .u32 ((a : Int) % 4294967296) (fm f : Int) = ((a * 2 ^ fm f : Nat) : Int) := by
  have : a < 4294967296 := by have := top_cases f; omega
  rw [show (a : Int) % 4294967296 = ((a : Nat) : Int) by omega, shl_u32, Nat.mod_eq_of_lt (by omega)]
 have e2 : Go.bits .or .u32 ((a * 2 ^ fm f : Nat) : Int) (c : Int) = ((a * 2 ^ fm f + c : Nat) : Int) := by
  rw [or_u32 _ _ (by omega) (by omega), or_add _ _ (fm f) (Nat.mul_mod_left ..) hc]
 simp only [Option.bind_some]
 rw [u64_id (fm f) (by omega), if_pos (by omega), e1, e2]
 cases neg
 ·simp
 ·simp only [if_true]
  rw [show (fe f : Int) + (fm f : Int) = ((fe f + fm f : Nat) : Int) by omega, wu _ (by omega), if_pos (by omega), one_shl _ b5, or_u32 _ _ (by omega) (by omega), Nat.or_comm, or_add _ (a * 2 ^ fm f + c) (fe f + fm f) (by simp) (by omega)]
  congr 2; omega
theorem top_f (f : Int) : format_Top.f f = some (topN f : Int) := by
 unfold format_Top.f topN
 rw [widths_f]
 obtain ⟨b1, b2, b3, b4, b5⟩ := fbounds f
 have hp := Nat.two_pow_pos (fe f)
 have h31 := pow_le31 (show fe f ≤ 31 by omega)
 simp only [Option.bind_some]
 rw [u64_id (fe f) (by omega), if_pos (by omega), one_shl_i64 _ (by omega), w64_id _ (by omega) (by omega)]
 congr 1; omega
theorem least_f (f : Int) : format_Least.f f = some (leastN f) := by
 unfold format_Least.f leastN
 rw [widths_f]
 obtain ⟨b1, b2, b3, b4, b5⟩ := fbounds f
 have h31 := pow_le31 (show fe f - 1 ≤ 31 by omega)
 have h0 := Nat.two_pow_pos (fe f - 1)
 simp only [Option.bind_some]
 rw [show (fe f : Int) - 1 = ((fe f - 1 : Nat) : Int) by omega, wu _ (by omega), if_pos (by omega), one_shl_i64 _ (by omega), w64_id _ (by omega) (by omega), pow_cast]
theorem zero_f (f : Int) (neg : Bool) : format_Zero.f f neg = some (signN f neg : Int) := by
 unfold format_Zero.f
 have h := join_f f neg 0 0 (Nat.zero_le _) (Nat.two_pow_pos _)
 rw [show ((0 : Nat) : Int) = 0 from rfl] at h
 rw [h]; unfold joinN; simp
def infN (f : Int) (neg : Bool) : Nat := topN f * 2 ^ fm f + signN f neg
theorem inf_f (f : Int) (neg : Bool) : format_Inf.f f neg = some (infN f neg : Int) := by
 unfold format_Inf.f infN
 have h := join_f f neg (topN f) 0 (Nat.le_refl _) (Nat.two_pow_pos _)
 rw [show ((0 : Nat) : Int) = 0 from rfl] at h
 rw [top_f]; simp only [Option.bind_some]; rw [h]; unfold joinN; simp
def greatN (f : Int) (neg : Bool) : Nat := topN f * 2 ^ fm f - 1 + signN f neg
theorem greatest_f (f : Int) (neg : Bool) : format_Greatest.f f neg = some (greatN f neg : Int) := by
 unfold format_Greatest.f greatN
 obtain ⟨b1, b2, b3, b4, b5⟩ := fbounds f
 have hp := Nat.two_pow_pos (fm f)
 have h31 := pow_le31 (show fm f ≤ 31 by omega)
 have ht := top_cases f
 rw [widths_f, top_f]
 simp only [Option.bind_some]
 rw [u64_id (fm f) (by omega), if_pos (by omega), w64_id _ (by omega) (by omega), one_shl _ (by omega), show (((2 ^ fm f : Nat) : Int) - 1) % 4294967296 = ((2 ^ fm f - 1 : Nat) : Int) by omega, show (topN f : Int) - 1 = ((topN f - 1 : Nat) : Int) by omega, join_f f neg _ _ (by omega) (by omega)]
 simp only [Option.bind_some]
 unfold joinN
 congr 2
 have : topN f * 2 ^ fm f = (topN f - 1) * 2 ^ fm f + 2 ^ fm f := by rw [← Nat.succ_mul]; congr 1; omega
 omega
end Go.Proofs.Ytejkemahdincjaa.Fmt

/- What the reference's formats are: the same plain numbers. -/
namespace Go.Proofs.Ytejkemahdincjaa.Round
open Go.RowKit Go.Proofs.Ytejkemahdincjaa.P Go.Proofs.Ytejkemahdincjaa.Num Go.Proofs.Ytejkemahdincjaa.BitsF Go.Proofs.Ytejkemahdincjaa.Fmt Go.Proofs.YtejkemahdincjaaW.PrintWords Go.Proofs.YtejkemahdincjaaW.PrintLast Go.Proofs.YtejkemahdincjaaW.PrintMore

theorem beq_nn (a b : Nat) : (((a : Int) == (b : Int)) : Bool) = decide (a = b) := by
 by_cases h : a = b
 ·subst h; simp
 ·rw [beq_eq_false_iff_ne.mpr (by omega)]; simp [h]
theorem ref_widths_f (f : Int) : annealref1_Widths.f f = some ((fe f : Int), (fm f : Int)) := by
 unfold annealref1_Widths.f fe fm
 by_cases h : f = 0
 ·subst h; rfl
 ·rw [if_neg h, if_neg h, if_neg h]
  by_cases h1 : f = 1
  ·subst h1; rfl
  ·rw [if_neg h1, if_neg h1]; rfl
theorem ref_sign_f (f : Int) (neg : Bool) : annealref1_sign.f f neg = some (signN f neg : Int) := by
 unfold annealref1_sign.f signN
 obtain ⟨b1, b2, b3, b4, b5⟩ := fbounds f
 rw [ref_widths_f]; simp only [Option.bind_some]
 cases neg
 ·rfl
 ·simp only [if_true]
  rw [show (fe f : Int) + (fm f : Int) = ((fe f + fm f : Nat) : Int) by omega, w64_id _ (by omega) (by omega), if_pos (by omega), one_shl _ b5]
theorem ref_zero_f (f : Int) (neg : Bool) : annealref1_Zero.f f neg = some (signN f neg : Int) := by
 unfold annealref1_Zero.f; rw [ref_sign_f]; rfl
theorem ref_bias_f (f : Int) : annealref1_bias.f f = some (1 - leastN f) := by
 unfold annealref1_bias.f leastN
 obtain ⟨b1, b2, b3, b4, b5⟩ := fbounds f
 have h31 := pow_le31 (show fe f - 1 ≤ 31 by omega)
 have h0 := Nat.two_pow_pos (fe f - 1)
 rw [ref_widths_f]; simp only [Option.bind_some]
 rw [show (fe f : Int) - 1 = ((fe f - 1 : Nat) : Int) by omega, w64_id _ (by omega) (by omega), if_pos (by omega), one_shl_i64 _ (by omega), w64_id _ (by omega) (by omega), ← pow_cast]
 congr 1; omega
theorem inf_lt (f : Int) (neg : Bool) : infN f neg < 4294967296 ∧ topN f * 2 ^ fm f + 2 ^ fm f = 2 ^ (fe f + fm f) := by
 obtain ⟨b1, b2, b3, b4, b5⟩ := fbounds f
 have h31 := pow_le31 b5
 have hp := Nat.two_pow_pos (fm f)
 have e : topN f * 2 ^ fm f + 2 ^ fm f = 2 ^ (fe f + fm f) := by
  rw [Nat.pow_add, ← Nat.succ_mul]; congr 1
  unfold topN; have := Nat.two_pow_pos (fe f); omega
 refine ⟨?_, e⟩
 unfold infN signN; split <;> omega
theorem ref_inf_f (f : Int) (neg : Bool) : annealref1_Inf.f f neg = some (infN f neg : Int) := by
 unfold annealref1_Inf.f infN
 obtain ⟨b1, b2, b3, b4, b5⟩ := fbounds f
 obtain ⟨_, hi⟩ := inf_lt f neg
 have h31 := pow_le31 b5
 have hp := Nat.two_pow_pos (fm f)
 have hpe := Nat.two_pow_pos (fe f)
 have h8 := pow_le31 (show fe f ≤ 31 by omega)
 rw [ref_widths_f, ref_sign_f]; simp only [Option.bind_some]
 rw [if_pos (by omega), if_pos (by omega), one_shl _ (by omega), show (((2 ^ fe f : Nat) : Int) - 1) % 4294967296 = ((topN f : Nat) : Int) by unfold topN; omega, shl_u32, Nat.mod_eq_of_lt (by omega)]
 unfold signN
 cases neg
 ·simp only [Bool.false_eq_true, if_false]
  rw [or_u32 _ _ (by omega) (by omega), Nat.zero_or, Nat.add_zero]
 ·simp only [if_true]
  rw [or_u32 _ _ (by omega) (by omega), or_add _ _ (fe f + fm f) (by simp) (by omega), Nat.add_comm]
/- The reference's parts of a number, its class, its whole number and exponent, its place in the order: as plain numbers. -/

def lowN (f : Int) (v : Nat) : Nat := v % 2 ^ (fe f + fm f + 1)
theorem low_lt (f : Int) (v : Nat) : lowN f v < 2 ^ (fe f + fm f + 1) := Nat.mod_lt _ (Nat.two_pow_pos _)
theorem low_32 (f : Int) (v : Nat) : lowN f v < 4294967296 := by
 obtain ⟨b1, b2, b3, b4, b5⟩ := fbounds f
 have := low_lt f v
 have := pow_le32 (show fe f + fm f + 1 ≤ 32 by omega)
 omega
def maskN (f : Int) : Nat := 2 ^ (fe f + fm f + 1) - 1
theorem mask_lit (n : Nat) (hn : n ≤ 32) : (IntKind.u64.wrap (shl .u64 1 (n : Int) - 1)) % 4294967296 = ((2 ^ n - 1 : Nat) : Int) := by
 have h32 := pow_le32 hn
 have h0 := Nat.two_pow_pos n
 rw [show shl .u64 1 (n : Int) = _ from shl_u64 1 n, Nat.one_mul]
 generalize 2 ^ n = P at *
 rw [Nat.mod_eq_of_lt (by omega), u64_wrap]
 omega
theorem width_f (f : Int) : wrap64 ((wrap64 (1 + (fe f : Int))) + (fm f : Int)) = ((fe f + fm f + 1 : Nat) : Int) := by
 obtain ⟨b1, b2, b3, b4, b5⟩ := fbounds f
 rw [w64_id (1 + (fe f : Int)) (by omega) (by omega), w64_id _ (by omega) (by omega)]; omega
theorem ref_mask_f (f : Int) : annealref1_Mask.f f = some (maskN f : Int) := by
 unfold annealref1_Mask.f
 have h := fbounds f
 rw [ref_widths_f, Option.bind_some]
 dsimp only
 rw [width_f, mask_lit _ (by omega)]
 exact if_pos (Int.natCast_nonneg _)
theorem and_mask (f : Int) (v : Nat) (hv : v < 4294967296) : Go.bits .and .u32 (v : Int) (maskN f : Int) = (lowN f v : Int) := by
 unfold maskN lowN
 have h := fbounds f
 have h32 := pow_le32 (show fe f + fm f + 1 ≤ 32 by omega)
 generalize fe f + fm f + 1 = n at *
 have h0 := Nat.two_pow_pos n
 rw [and_u32 _ _ hv (by omega), Nat.and_two_pow_sub_one_eq_mod]
theorem top_bit (f : Int) (v : Nat) : ((((lowN f v / 2 ^ (fe f + fm f) : Nat) : Int) == 1) : Bool) = negN f (lowN f v) := by
 rw [show (1 : Int) = ((1 : Nat) : Int) from rfl, beq_nn]
 unfold negN
 have : lowN f v / 2 ^ (fe f + fm f) < 2 := by rw [Nat.div_lt_iff_lt_mul (Nat.two_pow_pos _), Nat.mul_comm, ← Nat.pow_succ]; exact low_lt f v
 rw [Nat.mod_eq_of_lt this]
theorem small_w64 (a n : Nat) (hn : n ≤ 31) : wrap64 ((a % 2 ^ n : Nat) : Int) = ((a % 2 ^ n : Nat) : Int) := by
 have h1 := pow_le31 hn
 have h2 := Nat.mod_lt a (Nat.two_pow_pos n)
 generalize a % 2 ^ n = q at *
 exact w64_id _ (by omega) (by omega)
theorem small_u64 (a n : Nat) (hn : n ≤ 31) : IntKind.u64.wrap ((a % 2 ^ n : Nat) : Int) = ((a % 2 ^ n : Nat) : Int) := by
 have h1 := pow_le31 hn
 have h2 := Nat.mod_lt a (Nat.two_pow_pos n)
 generalize a % 2 ^ n = q at *
 exact u64_id _ (by omega)
theorem ref_parts_f (f : Int) (v : Nat) (hv : v < 4294967296) : annealref1_parts.f f (v : Int) = some (negN f (lowN f v), (expN f (lowN f v) : Int), (fracN f (lowN f v) : Int)) := by
 unfold annealref1_parts.f
 obtain ⟨b1, b2, b3, b4, b5⟩ := fbounds f
 have hl := low_32 f v
 rw [ref_widths_f, Option.bind_some, ref_mask_f, Option.bind_some]
 dsimp only
 rw [and_mask f v hv, show (fe f : Int) + (fm f : Int) = ((fe f + fm f : Nat) : Int) by omega, w64_id _ (by omega) (by omega), if_pos (by omega), if_pos (by omega), if_pos (by omega), shr_u32 _ _ hl, shr_u32 _ _ hl, mask_u32 _ _ (Nat.lt_of_le_of_lt (Nat.div_le_self _ _) hl) (by omega), mask_u32 _ _ hl (by omega), top_bit, small_w64 _ _ (by omega), small_u64 _ _ (by omega)]
 unfold expN fracN
 exact Eq.refl _
def clsN (f : Int) (v : Nat) : Nat :=
 if expN f v = 0 then (if fracN f v = 0 then 0 else 1) else if expN f v < topN f then 2 else if fracN f v = 0 then 3 else if fracN f v / 2 ^ (fm f - 1) = 1 then 4 else 5
theorem ref_class_ev (f : Int) (v : Nat) (hv : v < 4294967296) : Ev (fun k => annealref1_Class.f k f (v : Int)) (clsN f (lowN f v) : Int) := by
 obtain ⟨b1, b2, b3, b4, b5⟩ := fbounds f
 have h31 := pow_le31 (show fe f ≤ 31 by omega)
 have h0 := Nat.two_pow_pos (fe f)
 have hfr := frac_lt f (lowN f v)
 have h31' := pow_le31 (show fm f ≤ 31 by omega)
 refine ⟨1, fun k hk => ?_⟩
 obtain ⟨k, rfl⟩ : ∃ j, k = j + 1 := ⟨k - 1, by omega⟩
 unfold annealref1_Class.f clsN
 rw [ref_widths_f, ref_parts_f f v hv]
 simp only [Option.bind_some]
 generalize expN f (lowN f v) = e
 generalize fracN f (lowN f v) = m at *
 have ht : wrap64 (((2 ^ fe f : Nat) : Int) - 1) = (topN f : Int) := by rw [w64_id _ (by omega) (by omega)]; unfold topN; omega
 by_cases c : e = 0
 ·subst c
  rw [if_pos (by rfl), annealref1_Class.j0, if_pos rfl]
  by_cases c2 : m = 0
  ·subst c2; rfl
  ·rw [if_neg (by simp; omega), if_pos (by rfl), if_neg c2]; rfl
 ·rw [if_neg (by omega), annealref1_Class.j0, if_neg (by decide), if_neg (by omega), if_pos (by omega), one_shl_i64 _ (by omega), ht, if_neg c]
  by_cases c2 : e < topN f
  ·rw [if_pos (by omega), if_pos c2]; rfl
  ·rw [if_neg (by omega), if_neg c2]
   by_cases c3 : m = 0
   ·rw [if_pos (by omega), if_pos c3]; rfl
   ·rw [if_neg (by omega), if_neg c3, w64_id _ (by omega) (by omega), if_pos (by omega), show (fm f : Int) - 1 = ((fm f - 1 : Nat) : Int) by omega, shr_u64 _ _ (by omega)]
    by_cases c4 : m / 2 ^ (fm f - 1) = 1
    ·rw [if_pos (by rw [c4]; rfl), if_pos c4]; rfl
    ·rw [if_neg (by omega), if_neg c4]; rfl
theorem cls_finite (f : Int) (v : Nat) : clsN f v < 3 ↔ expN f v < topN f := by
 have := top_cases f
 unfold clsN
 split
 ·split <;> omega
 ·split
  ·omega
  ·split
   ·omega
   ·split <;> omega
def wholeN (f : Int) (v : Nat) : Nat := if expN f v = 0 then fracN f v else fracN f v + 2 ^ fm f
def lowestN (f : Int) (v : Nat) : Int := leastN f - fm f + (expN f v - 1 : Nat)
theorem or_top (m n : Nat) (h : m < 2 ^ n) (hn : n ≤ 31) : Go.bits .or .u64 (m : Int) (shl .u64 1 (n : Int)) = ((m + 2 ^ n : Nat) : Int) := by
 have h31 := pow_le31 hn
 rw [show (1 : Int) = ((1 : Nat) : Int) from rfl, shl_u64, Nat.one_mul, Nat.mod_eq_of_lt (by omega), or_u64 _ _ (by omega) (by omega), Nat.or_comm, or_add _ _ n (by simp) h, Nat.add_comm]
theorem low_parts (f : Int) (v : Nat) : lowN f v = expN f (lowN f v) * 2 ^ fm f + fracN f (lowN f v) + signN f (negN f (lowN f v)) := by
 have hlt := low_lt f v
 generalize lowN f v = x at *
 unfold expN fracN signN negN
 have h1 : x / 2 ^ (fe f + fm f) < 2 := by rw [Nat.div_lt_iff_lt_mul (Nat.two_pow_pos _), Nat.mul_comm, ← Nat.pow_succ]; exact hlt
 have h2 : x / 2 ^ fm f / 2 ^ fe f = x / 2 ^ (fe f + fm f) := by rw [Nat.div_div_eq_div_mul, ← Nat.pow_add, Nat.add_comm]
 have h3 := Nat.div_add_mod x (2 ^ fm f)
 have h4 := Nat.div_add_mod (x / 2 ^ fm f) (2 ^ fe f)
 rw [h2] at h4
 have h5 : 2 ^ (fe f + fm f) = 2 ^ fm f * 2 ^ fe f := by rw [← Nat.pow_add, Nat.add_comm]
 rw [Nat.mod_eq_of_lt h1]
 generalize x / 2 ^ (fe f + fm f) = b at *
 generalize hq : x / 2 ^ fm f % 2 ^ fe f = q at *
 generalize x % 2 ^ fm f = r at *
 rw [← h4, Nat.mul_add] at h3
 have h6 : b = 0 ∨ b = 1 := by omega
 rcases h6 with rfl | rfl
 ·rw [if_neg (by decide)]; rw [Nat.mul_comm q]; omega
 ·rw [if_pos (by decide), h5, Nat.mul_comm q]
  rw [Nat.mul_one] at h3
  omega
theorem ref_neg_f (f : Int) (v : Nat) (hv : v < 4294967296) : annealref1_neg.f f (v : Int) = some (negN f (lowN f v)) := by
 unfold annealref1_neg.f; rw [ref_parts_f f v hv]; rfl
/- The reference's classes and order of any numbers: plain numbers. -/

theorem mod_part (v a b c : Nat) (h : b + c ≤ a) : v % 2 ^ a / 2 ^ b % 2 ^ c = v / 2 ^ b % 2 ^ c := by
 apply Nat.eq_of_testBit_eq
 intro i
 rw [Nat.testBit_mod_two_pow, Nat.testBit_mod_two_pow, Nat.testBit_div_two_pow, Nat.testBit_div_two_pow, Nat.testBit_mod_two_pow]
 by_cases h1 : i < c
 ·have : i + b < a := by omega
  simp [h1, this]
 ·simp [h1]
theorem neg_low (f : Int) (v : Nat) : negN f (lowN f v) = negN f v := by
 unfold negN lowN
 have := mod_part v (fe f + fm f + 1) (fe f + fm f) 1 (Nat.le_refl _)
 rw [Nat.pow_one] at this
 rw [this]
theorem exp_low (f : Int) (v : Nat) : expN f (lowN f v) = expN f v := mod_part v (fe f + fm f + 1) (fm f) (fe f) (by omega)
theorem frac_low (f : Int) (v : Nat) : fracN f (lowN f v) = fracN f v := by
 have := mod_part v (fe f + fm f + 1) 0 (fm f) (by omega)
 rw [Nat.pow_zero, Nat.div_one, Nat.div_one] at this
 exact this
theorem cls_low (f : Int) (v : Nat) : clsN f (lowN f v) = clsN f v := by unfold clsN; rw [exp_low, frac_low]
theorem whole_low (f : Int) (v : Nat) : wholeN f (lowN f v) = wholeN f v := by unfold wholeN; rw [exp_low, frac_low]
theorem lowest_low (f : Int) (v : Nat) : lowestN f (lowN f v) = lowestN f v := by unfold lowestN; rw [exp_low]

theorem rclass_ev (f : Int) (v : Nat) (hv : v < 4294967296) : Ev (fun k => annealref1_Class.f k f (v : Int)) (clsN f v : Int) := by
 have := ref_class_ev f v hv; rw [cls_low] at this; exact this
theorem rneg_f (f : Int) (v : Nat) (hv : v < 4294967296) : annealref1_neg.f f (v : Int) = some (negN f v) := by rw [ref_neg_f f v hv, neg_low]
theorem rzero_ev (f : Int) (v : Nat) (hv : v < 4294967296) : Ev (fun k => annealref1_zero.f k f (v : Int)) (decide (clsN f v = 0)) := by
 refine Ev.congr (fun k => by unfold annealref1_zero.f; rfl) (Ev.bind (rclass_ev f v hv) (Ev.congr (fun k => ?_) (Ev.now _)))
 rw [show (0 : Int) = ((0 : Nat) : Int) from rfl, beq_nn]
def isNan (f : Int) (v : Nat) : Bool := decide (4 ≤ clsN f v)
def isLoud (f : Int) (v : Nat) : Bool := decide (clsN f v = 5)
theorem cls_le (f : Int) (v : Nat) : clsN f v ≤ 5 := by
 unfold clsN
 repeat' split
 all_goals omega
theorem nans_step (f : Int) (L : List Int) (i v : Nat) (b c : Bool) (r : Bool × Bool) (hi : i < L.length) (hn : L.length ≤ 100) (hv : v < 4294967296) (hr : rd L (i : Int) = (v : Int))
  (h : Ev (fun k => annealref1_nans.l0 k f L (b || isNan f v) (c || isLoud f v) ((i + 1 : Nat) : Int)) r) : Ev (fun k => annealref1_nans.l0 k f L b c (i : Int)) r := by
 have hw : wrap64 ((i : Int) + 1) = ((i + 1 : Nat) : Int) := by rw [w64_id _ (by omega) (by omega)]; omega
 have hc := cls_le f v
 refine Ev.step (fun k => by rw [annealref1_nans.l0, if_pos (by omega), if_pos (Int.natCast_nonneg _), hr, hw]) (Ev.bind (rclass_ev f v hv) (Ev.congr (fun k => ?_) h))
 have e5 : (((clsN f v : Nat) : Int) == 5) = isLoud f v := by rw [show (5 : Int) = ((5 : Nat) : Int) from rfl, beq_nn]; rfl
 rw [e5]
 cases b
 ·by_cases c4 : clsN f v = 4
  ·have n4 : isNan f v = true := by unfold isNan; rw [c4]; rfl
   rw [if_neg (by decide), if_pos (by omega), n4]
   cases c <;> simp
  ·have n4 : isNan f v = isLoud f v := by unfold isNan isLoud; apply decide_eq_decide.mpr; omega
   rw [if_neg (by decide), if_neg (by omega), n4]
   cases c <;> simp
 ·cases c <;> simp
theorem nans_end (f : Int) (L : List Int) (b c : Bool) : Ev (fun k => annealref1_nans.l0 k f L b c (L.length : Int)) (b, c) :=
 Ev.step (fun k => by rw [annealref1_nans.l0, if_neg (by omega)]) (Ev.now _)
theorem nans1_ev (f : Int) (v : Nat) (hv : v < 4294967296) : Ev (fun k => annealref1_nans.f k f [(v : Int)]) (isNan f v, isLoud f v) := by
 refine Ev.congr (fun k => by unfold annealref1_nans.f; rfl) (nans_step f _ 0 v false false _ (by simp) (by simp) hv rfl ?_)
 rw [Bool.false_or, Bool.false_or]
 exact nans_end f [(v : Int)] _ _
theorem nans2_ev (f : Int) (a b : Nat) (ha : a < 4294967296) (hb : b < 4294967296) : Ev (fun k => annealref1_nans.f k f [(a : Int), (b : Int)]) (isNan f a || isNan f b, isLoud f a || isLoud f b) := by
 refine Ev.congr (fun k => by unfold annealref1_nans.f; rfl) (nans_step f _ 0 a false false _ (by simp) (by simp) ha rfl (nans_step f _ 1 b _ _ _ (by simp) (by simp) hb rfl ?_))
 rw [Bool.false_or, Bool.false_or]
 exact nans_end f [(a : Int), (b : Int)] _ _
/- The reference's finite numbers: their whole numbers and exponents. -/

theorem ref_unpack_ev (f : Int) (v : Nat) (hv : v < 4294967296) (h : expN f (lowN f v) < topN f) :
  Ev (fun k => annealref1_Unpack.f k f (v : Int)) (negN f (lowN f v), lowestN f (lowN f v), (wholeN f (lowN f v) : Int)) := by
 obtain ⟨b1, b2, b3, b4, b5⟩ := fbounds f
 have hfr := frac_lt f (lowN f v)
 have hls := least_cases f
 have htp := top_cases f
 obtain ⟨K, hK⟩ := ref_class_ev f v hv
 refine ⟨K, fun k hk => ?_⟩
 show annealref1_Unpack.f k f (v : Int) = _
 unfold annealref1_Unpack.f
 rw [ref_widths_f, ref_parts_f f v hv, show annealref1_Class.f k f (v : Int) = _ from hK k hk, ref_bias_f]
 simp only [Option.bind_some]
 unfold lowestN wholeN clsN
 generalize expN f (lowN f v) = e at *
 generalize fracN f (lowN f v) = m at *
 by_cases c : e = 0
 ·subst c
  have e1 : wrap64 ((wrap64 (1 - (1 - leastN f))) - (fm f : Int)) = leastN f - fm f + ((0 - 1 : Nat) : Int) := by
   rw [w64_id (1 - (1 - leastN f)) (by omega) (by omega), w64_id _ (by omega) (by omega)]; omega
  rw [e1]
  by_cases c2 : m = 0
  ·subst c2; rfl
  ·simp only [if_true, if_neg c2]; rfl
 ·rw [if_neg c, if_pos h, if_neg c]
  have e1 : wrap64 ((wrap64 ((e : Int) - (1 - leastN f))) - (fm f : Int)) = leastN f - fm f + ((e - 1 : Nat) : Int) := by
   rw [w64_id ((e : Int) - (1 - leastN f)) (by omega) (by omega), w64_id _ (by omega) (by omega)]; omega
  rw [e1, or_top m _ hfr (by omega), if_pos (by rfl), if_pos (by omega)]
/- The program's parts of a number, its class, its whole number and exponent: as plain numbers; the reference's are the same. -/

theorem sum_w (f : Int) : IntKind.u64.wrap (wrap64 ((fe f : Int) + (fm f : Int))) = ((fe f + fm f : Nat) : Int) := by
 have h := fbounds f
 rw [show (fe f : Int) + (fm f : Int) = ((fe f + fm f : Nat) : Int) by omega, wu _ (by omega)]
theorem parts_f (f : Int) (v : Nat) (hv : v < 4294967296) : format_Parts.f f (v : Int) = some (negN f v, (expN f v : Int), (fracN f v : Int)) := by
 unfold format_Parts.f
 have h := fbounds f
 have hd : v / 2 ^ (fe f + fm f) < 4294967296 := Nat.lt_of_le_of_lt (Nat.div_le_self _ _) hv
 have hd' : v / 2 ^ fm f < 4294967296 := Nat.lt_of_le_of_lt (Nat.div_le_self _ _) hv
 rw [widths_f, Option.bind_some]
 dsimp only
 rw [sum_w, u64_id (fm f) (by omega), u64_id (fe f) (by omega), if_pos (Int.natCast_nonneg _), if_pos (Int.natCast_nonneg _), if_pos (Int.natCast_nonneg _), shr_u32 _ _ hv, shr_u32 _ _ hv, and1_u32 _ hd, mask_u32 _ _ hd' (by omega), mask_u32 _ _ hv (by omega), small_w64 _ _ (by omega)]
 rw [show (1 : Int) = ((1 : Nat) : Int) from rfl, beq_nn]
 unfold negN expN fracN
 exact Eq.refl _
theorem class_j0 (k : Nat) (f : Int) (e m : Nat) (he : e ≤ topN f) (hm : m < 2 ^ fm f) (hz : ¬ (e = 0 ∧ m = 0)) :
  format_Class.j0 (k + 1) f (fm f : Int) (e : Int) (m : Int) false = some (((if e = 0 then (if m = 0 then 0 else 1) else if e < topN f then 2 else if m = 0 then 3 else if m / 2 ^ (fm f - 1) = 1 then 4 else 5 : Nat)) : Int) := by
 have h := fbounds f
 have h31 := pow_le31 (show fm f ≤ 31 by omega)
 rw [format_Class.j0, if_neg (by decide)]
 by_cases c : e = 0
 ·subst c
  rw [if_pos (by rfl), if_pos rfl, if_neg (fun h => hz ⟨rfl, h⟩)]; rfl
 ·rw [if_neg (by omega), if_neg c, top_f, Option.bind_some]
  by_cases c2 : e < topN f
  ·rw [if_pos (by omega), if_pos c2]; rfl
  ·rw [if_neg (by omega), if_neg c2]
   by_cases c3 : m = 0
   ·rw [if_pos (by omega), if_pos c3]; rfl
   ·rw [if_neg (by omega), if_neg c3, show (fm f : Int) - 1 = ((fm f - 1 : Nat) : Int) by omega, wu _ (by omega), if_pos (Int.natCast_nonneg _), shr_u32 _ _ (by omega)]
    by_cases c4 : m / 2 ^ (fm f - 1) = 1
    ·rw [if_pos (by rw [c4]; rfl), if_pos c4]; rfl
    ·rw [if_neg (by omega), if_neg c4]; rfl
theorem class_ev (f : Int) (v : Nat) (hv : v < 4294967296) : Ev (fun k => format_Class.f k f (v : Int)) (clsN f v : Int) := by
 have he := exp_le f v
 have hm := frac_lt f v
 refine ⟨1, fun k hk => ?_⟩
 obtain ⟨k, rfl⟩ : ∃ j, k = j + 1 := ⟨k - 1, by omega⟩
 show format_Class.f (k + 1) f (v : Int) = _
 unfold format_Class.f clsN
 rw [widths_f, Option.bind_some, parts_f f v hv, Option.bind_some]
 dsimp only
 generalize expN f v = e at *
 generalize fracN f v = m at *
 by_cases c : e = 0 ∧ m = 0
 ·obtain ⟨rfl, rfl⟩ := c
  rw [if_pos (by rfl), format_Class.j0, if_pos (by rfl), if_pos rfl, if_pos rfl]; rfl
 ·by_cases c2 : e = 0
  ·have e2 : (((m : Int) == 0) : Bool) = false := by simp; omega
   rw [if_pos (by omega), e2, class_j0 k f e m he hm c]
  ·rw [if_neg (by omega), class_j0 k f e m he hm c]
theorem neg_f (f : Int) (v : Nat) (hv : v < 4294967296) : format_Neg.f f (v : Int) = some (negN f v) := by
 unfold format_Neg.f; rw [parts_f f v hv]; rfl
def nanN (f : Int) : Nat := topN f * 2 ^ fm f + 2 ^ (fm f - 1)
theorem half_frac (f : Int) : 2 ^ (fm f - 1) < 2 ^ fm f := by
 have h := fbounds f
 exact Nat.pow_lt_pow_right (by decide) (by omega)
theorem nan_f (f : Int) : format_Nan.f f = some (nanN f : Int) := by
 unfold format_Nan.f
 have h := fbounds f
 rw [widths_f, Option.bind_some, top_f, Option.bind_some]
 dsimp only
 rw [show (fm f : Int) - 1 = ((fm f - 1 : Nat) : Int) by omega, wu _ (by omega), if_pos (Int.natCast_nonneg _), one_shl _ (by omega), join_f f false _ _ (Nat.le_refl _) (half_frac f), Option.bind_some]
 unfold joinN nanN
 simp [signN]
theorem bad_f (f : Int) : sum_Bad.f f = some ((nanN f : Int), true, false, false, false, false) := by
 unfold sum_Bad.f; rw [nan_f]; rfl
theorem ref_nan_f (f : Int) : annealref1_Nan.f f = some (nanN f : Int) := by
 unfold annealref1_Nan.f
 have h := fbounds f
 obtain ⟨hi, _⟩ := inf_lt f false
 have hh := half_frac f
 have h31 := pow_le31 (show fm f ≤ 31 by omega)
 rw [ref_widths_f, Option.bind_some, ref_inf_f, Option.bind_some]
 dsimp only
 rw [show (fm f : Int) - 1 = ((fm f - 1 : Nat) : Int) by omega, w64_id _ (by omega) (by omega), if_pos (Int.natCast_nonneg _), one_shl _ (by omega), or_u32 _ _ hi (by omega)]
 unfold infN nanN
 rw [show signN f false = 0 from rfl, Nat.add_zero, or_add _ _ (fm f) (Nat.mul_mod_left ..) hh]
theorem unpack_f (f : Int) (v : Nat) (hv : v < 4294967296) (h : expN f v < topN f) : format_Unpack.f f (v : Int) = some (negN f v, lowestN f v, (wholeN f v : Int)) := by
 unfold format_Unpack.f lowestN wholeN
 obtain ⟨b1, b2, b3, b4, b5⟩ := fbounds f
 have hm := frac_lt f v
 have h31 := pow_le31 (show fm f ≤ 31 by omega)
 have hl := least_cases f
 have ht := top_cases f
 rw [widths_f, Option.bind_some, parts_f f v hv, Option.bind_some]
 dsimp only
 generalize expN f v = e at *
 generalize fracN f v = m at *
 by_cases c : e = 0
 ·subst c
  rw [if_pos (by rfl), least_f, Option.bind_some, if_pos rfl, w64_id (leastN f - fm f) (by omega) (by omega), u64_id m (by omega)]
  simp
 ·rw [if_neg (by omega), top_f, Option.bind_some, if_neg (by omega), least_f, Option.bind_some, if_neg c, u64_id (fm f) (by omega), if_pos (Int.natCast_nonneg _), u64_id m (by omega), or_top m _ hm (by omega), w64_id (leastN f - fm f) (by omega) (by omega), w64_id (leastN f - fm f + e) (by omega) (by omega), w64_id _ (by omega) (by omega), show leastN f - (fm f : Int) + (e : Int) - 1 = leastN f - fm f + ((e - 1 : Nat) : Int) by omega]
theorem of_f (f : Int) (v : Nat) (hv : v < 4294967296) (h : expN f v < topN f) : sum_Of.f f (v : Int) = some (negN f v, lowestN f v, (wholeN f v : Int), false) := by
 unfold sum_Of.f; rw [unpack_f f v hv h]; rfl

theorem runpack_ev (f : Int) (v : Nat) (hv : v < 4294967296) (h : expN f v < topN f) : Ev (fun k => annealref1_Unpack.f k f (v : Int)) (negN f v, lowestN f v, (wholeN f v : Int)) := by
 have := ref_unpack_ev f v hv (by rw [exp_low]; exact h); rw [neg_low, lowest_low, whole_low] at this; exact this
theorem rinf_ev (f : Int) (v : Nat) (hv : v < 4294967296) : Ev (fun k => annealref1_inf.f k f (v : Int)) (decide (clsN f v = 3)) := by
 refine Ev.congr (fun k => by unfold annealref1_inf.f; rfl) (Ev.bind (rclass_ev f v hv) (Ev.congr (fun k => ?_) (Ev.now _)))
 rw [show (3 : Int) = ((3 : Nat) : Int) from rfl, beq_nn]
/- What the program's rounding computes, as plain numbers. -/

def quoN (s : Nat) (d : Int) : Nat := if d ≤ 0 then s * 2 ^ (-d).toNat else s / 2 ^ d.toNat
def leftN (s : Nat) (d : Int) (more : Bool) : Nat :=
 if d ≤ 0 ∨ s % 2 ^ d.toNat = 0 then (if more then 1 else 0)
 else if s / 2 ^ (d.toNat - 1) % 2 = 0 then 1 else if s % 2 ^ (d.toNat - 1) ≠ 0 ∨ more = true then 3 else 2
def upN (mode : Int) (neg : Bool) (q left : Nat) : Bool :=
 if mode = 1 then false else if mode = 2 then (!neg && decide (left ≠ 0)) else if mode = 3 then (neg && decide (left ≠ 0))
 else if mode = 4 then decide (2 ≤ left) else (decide (left = 3) || (decide (left = 2) && decide (q % 2 = 1)))
def riseN (f : Int) (x : Int) (s : Nat) : Nat := if s = 0 then 0 else (x + lenN s - 1 - leastN f).toNat
def unitN (f : Int) (x : Int) (s : Nat) : Int := leastN f - fm f + riseN f x s
def keyN (f mode : Int) (neg : Bool) (x : Int) (s : Nat) (more : Bool) : Nat :=
 riseN f x s * 2 ^ fm f + quoN s (unitN f x s - x) + (if upN mode neg (quoN s (unitN f x s - x)) (leftN s (unitN f x s - x) more) then 1 else 0)
def overN (f : Int) (k : Nat) : Bool := decide (topN f * 2 ^ fm f ≤ k)
def endless (mode : Int) (neg : Bool) : Bool := if mode = 1 then false else if mode = 2 then !neg else if mode = 3 then neg else true
def inexN (f : Int) (x : Int) (s : Nat) (more : Bool) : Bool := decide (leftN s (unitN f x s - x) more ≠ 0)
def underN (f : Int) (x : Int) (s : Nat) (more : Bool) : Bool := inexN f x s more && (decide (s = 0) || decide (x + lenN s - 1 < leastN f))
def packN (f mode : Int) (neg : Bool) (x : Int) (s : Nat) (more : Bool) : Nat :=
 (if overN f (keyN f mode neg x s more) then (if endless mode neg then topN f * 2 ^ fm f else topN f * 2 ^ fm f - 1) else keyN f mode neg x s more) + signN f neg
def excN (f mode : Int) (neg : Bool) (x : Int) (s : Nat) (more : Bool) : Bool × Bool × Bool :=
 if overN f (keyN f mode neg x s more) then (true, false, true) else (false, underN f x s more, inexN f x s more)
def clampE (x : Int) : Int := mn (mx x (-10000)) 10000
theorem clampE_bounds (x : Int) : -10000 ≤ clampE x ∧ clampE x ≤ 10000 := by
 unfold clampE mn mx; split <;> split <;> omega
theorem clampE_id (x : Int) (h : -10000 ≤ x) (h' : x ≤ 10000) : clampE x = x := by
 unfold clampE mn mx; split <;> split <;> omega

theorem unit_f (k : Nat) (f x : Int) (s : Nat) (hs : s < 18446744073709551616) (h1 : -10000 ≤ x) (h2 : x ≤ 10000) : round_Unit.f (k + 1) f x (s : Int) = some (unitN f x s) := by
 unfold round_Unit.f unitN riseN
 obtain ⟨b1, b2, b3, b4, b5⟩ := fbounds f
 have hl := least_cases f
 have hn := lenN_small s hs
 simp only [widths_f, least_f, Option.bind_some]
 by_cases c : s = 0
 ·subst c
  rw [if_neg (by decide), if_pos rfl, w64_id _ (by omega) (by omega)]; simp
 ·rw [if_pos (by omega), if_neg c, len_f k s hs]
  simp only [Option.bind_some]
  rw [w64_id (x + _) (by omega) (by omega), w64_id (x + _ - 1) (by omega) (by omega)]
  unfold mx
  split
  ·rw [w64_id _ (by omega) (by omega)]; congr 1; omega
  ·rw [w64_id _ (by omega) (by omega)]; congr 1; omega
theorem quo_lt (s : Nat) (d : Int) (h : d ≤ 0) (h' : s * 2 ^ (-d).toNat < 18446744073709551616) : s * 2 ^ (-d).toNat % 18446744073709551616 = quoN s d := by
 unfold quoN; rw [if_pos h, Nat.mod_eq_of_lt h']
theorem left_le (s : Nat) (d : Int) (more : Bool) : leftN s d more ≤ 3 := by
 unfold leftN; split
 ·split <;> omega
 ·split
  ·omega
  ·split <;> omega
theorem shiftN_fst (v : Nat) (n : Int) : (shiftN v n).1 = if 0 ≤ n then v / 2 ^ n.toNat else v * 2 ^ (-n).toNat % 18446744073709551616 := by
 unfold shiftN; split <;> rfl
theorem left_none {s : Nat} {d : Int} (more : Bool) (h : d ≤ 0 ∨ s % 2 ^ d.toNat = 0) : leftN s d more = if more then 1 else 0 := by
 unfold leftN; rw [if_pos h]
theorem left_some {s : Nat} {d : Int} (more : Bool) (h : ¬ d ≤ 0) (h' : ¬ s % 2 ^ d.toNat = 0) :
  leftN s d more = if s / 2 ^ (d.toNat - 1) % 2 = 0 then 1 else if s % 2 ^ (d.toNat - 1) ≠ 0 ∨ more = true then 3 else 2 := by
 unfold leftN; rw [if_neg (not_or.mpr ⟨h, h'⟩)]
theorem units_f (k : Nat) (s : Nat) (hs : s < 18446744073709551616) (d : Int) (h1 : -100000 ≤ d) (h2 : d ≤ 100000) (more : Bool) (hq : d ≤ 0 → s * 2 ^ (-d).toNat < 18446744073709551616) :
  round_Units.f (k + 1) (s : Int) d more = some ((quoN s d : Int), (leftN s d more : Int)) := by
 unfold round_Units.f
 by_cases c : d ≤ 0
 ·rw [if_pos c, shift_f s hs d (by omega) (by omega)]
  have e : (shiftN s d).1 = quoN s d := by
   rw [shiftN_fst]
   by_cases c0 : 0 ≤ d
   ·obtain rfl : d = 0 := by omega
    unfold quoN; simp
   ·rw [if_neg c0]; exact quo_lt s d c (hq c)
  simp only [Option.bind_some, e]
  rw [left_none more (.inl c)]
  cases more <;> rfl
 ·rw [if_neg c]
  obtain ⟨m, rfl⟩ := nat_of (show 0 ≤ d by omega)
  have hm : (m : Int) - 1 = ((m - 1 : Nat) : Int) := by omega
  rw [shift_f s hs _ (by omega) (by omega), w64_id _ (by omega) (by omega), hm, shift_f s hs _ (by omega) (by omega)]
  simp only [Option.bind_some, shiftN_right]
  have hqe : quoN s (m : Int) = s / 2 ^ m := by unfold quoN; rw [if_neg c, Int.toNat_natCast]
  have hd : s / 2 ^ (m - 1) < 18446744073709551616 := Nat.lt_of_le_of_lt (Nat.div_le_self _ _) hs
  rw [hqe]
  by_cases z : s % 2 ^ m = 0
  ·have hl : leftN s (m : Int) more = if more then 1 else 0 := left_none more (.inr (by rw [Int.toNat_natCast]; exact z))
   rw [hl, if_neg (by simp [z])]
   cases more <;> rfl
  ·have hl : leftN s (m : Int) more = _ := left_some more c (by rw [Int.toNat_natCast]; exact z)
   rw [Int.toNat_natCast] at hl
   rw [hl, if_pos (by simp [z]), and1_u64 _ hd]
   by_cases y : s / 2 ^ (m - 1) % 2 = 0
   ·simp only [y, if_true, Int.natCast_zero]; rfl
   ·simp only [y, if_false]
    rw [if_neg (by omega)]
    by_cases w : s % 2 ^ (m - 1) = 0
    ·simp only [w, ne_eq, not_true_eq_false, decide_false, Bool.false_eq_true, if_false, false_or]
     cases more <;> rfl
    ·simp only [w, ne_eq, not_false_eq_true, decide_true, if_true, true_or]; rfl
theorem up_f (mode : Int) (neg : Bool) (q left : Nat) (hq : q < 18446744073709551616) : round_Up.f mode neg (q : Int) (left : Int) = some (upN mode neg q left) := by
 unfold round_Up.f upN
 have eb : (((left : Int) != 0) : Bool) = decide (left ≠ 0) := by rw [show (0 : Int) = ((0 : Nat) : Int) from rfl, bne_cast]
 have e1 : ((Go.bits .and .u64 (q : Int) 1 == 1) : Bool) = decide (q % 2 = 1) := by
  rw [and1_u64 q hq, show (1 : Int) = ((1 : Nat) : Int) from rfl]
  by_cases h : q % 2 = 1
  ·rw [h]; rfl
  ·rw [decide_eq_false h, beq_eq_false_iff_ne]; omega
 rw [eb, e1]
 by_cases m1 : mode = 1
 ·rw [if_pos m1, if_pos m1]
 ·rw [if_neg m1, if_neg m1]
  by_cases m2 : mode = 2
  ·rw [if_pos m2, if_pos m2]; cases neg <;> simp
  ·rw [if_neg m2, if_neg m2]
   by_cases m3 : mode = 3
   ·rw [if_pos m3, if_pos m3]; cases neg <;> simp
   ·rw [if_neg m3, if_neg m3]
    by_cases m4 : mode = 4
    ·rw [if_pos m4, if_pos m4]; congr 1; apply decide_eq_decide.mpr; omega
    ·rw [if_neg m4, if_neg m4]
     by_cases l3 : left = 3
     ·subst l3; rfl
     ·rw [if_neg (by omega), decide_eq_false l3, Bool.false_or]
      by_cases l2 : left = 2
      ·subst l2; simp
      ·rw [if_neg (by omega), decide_eq_false l2, Bool.false_and]
theorem beyond_f (f mode : Int) (neg : Bool) : round_beyond.f f mode neg = some (((if endless mode neg then infN f neg else greatN f neg : Nat) : Int), false, false, true, false, true) := by
 unfold round_beyond.f endless
 simp only [greatest_f, inf_f, Option.bind_some]
 by_cases m1 : mode = 1
 ·rw [if_pos m1, if_pos m1]; rfl
 ·rw [if_neg m1, if_neg m1]
  by_cases m2 : mode = 2
  ·rw [if_pos m2, if_pos m2]; cases neg <;> rfl
  ·rw [if_neg m2, if_neg m2]
   by_cases m3 : mode = 3
   ·rw [if_pos m3, if_pos m3]; cases neg <;> rfl
   ·rw [if_neg m3, if_neg m3]; rfl

theorem quo_bounds (f x : Int) (s : Nat) : quoN s (unitN f x s - x) < 2 ^ (fm f + 1) ∧ (riseN f x s ≠ 0 → 2 ^ fm f ≤ quoN s (unitN f x s - x)) := by
 obtain ⟨b1, b2, b3, b4, b5⟩ := fbounds f
 by_cases c : s = 0
 ·subst c
  have : riseN f x 0 = 0 := by unfold riseN; rw [if_pos rfl]
  refine ⟨?_, fun h => absurd this h⟩
  have h0 := Nat.two_pow_pos (fm f + 1)
  unfold quoN; split <;> simp [h0]
 ·have hlt := lenN_lt s
  have hle := lenN_le s c
  have hpos := lenN_pos s c
  have hr : riseN f x s = (x + lenN s - 1 - leastN f).toNat := by unfold riseN; rw [if_neg c]
  unfold unitN quoN
  generalize lenN s = L at *
  by_cases d : leastN f - (fm f : Int) + (riseN f x s : Int) - x ≤ 0
  ·rw [if_pos d]
   obtain ⟨j, hj⟩ := nat_of (show 0 ≤ -(leastN f - (fm f : Int) + (riseN f x s : Int) - x) by omega)
   rw [hj, Int.toNat_natCast]
   have hjL : L + j ≤ fm f + 1 := by omega
   constructor
   ·calc s * 2 ^ j < 2 ^ L * 2 ^ j := Nat.mul_lt_mul_of_pos_right hlt (Nat.two_pow_pos _)
     _ = 2 ^ (L + j) := (Nat.pow_add ..).symm
     _ ≤ 2 ^ (fm f + 1) := Nat.pow_le_pow_right (by decide) hjL
   ·intro h
    calc 2 ^ fm f = 2 ^ (L - 1) * 2 ^ j := by rw [← Nat.pow_add]; congr 1; omega
     _ ≤ s * 2 ^ j := Nat.mul_le_mul_right _ hle
  ·rw [if_neg d]
   obtain ⟨j, hj⟩ := nat_of (show 0 ≤ leastN f - (fm f : Int) + (riseN f x s : Int) - x by omega)
   rw [hj, Int.toNat_natCast]
   constructor
   ·rw [Nat.div_lt_iff_lt_mul (Nat.two_pow_pos _), ← Nat.pow_add]
    exact Nat.lt_of_lt_of_le hlt (Nat.pow_le_pow_right (by decide) (by omega))
   ·intro h
    rw [Nat.le_div_iff_mul_le (Nat.two_pow_pos _), ← Nat.pow_add]
    exact Nat.le_trans (Nat.pow_le_pow_right (by decide) (by omega)) hle
theorem unit_bounds (f x : Int) (s : Nat) (hs : s < 18446744073709551616) (h1 : -10000 ≤ x) (h2 : x ≤ 10000) : -200 ≤ unitN f x s ∧ unitN f x s ≤ 10100 ∧ riseN f x s ≤ 10200 := by
 obtain ⟨b1, b2, b3, b4, b5⟩ := fbounds f
 have hl := least_cases f
 have hn := lenN_small s hs
 unfold unitN
 have hr : riseN f x s = 0 ∨ (riseN f x s : Int) = x + lenN s - 1 - leastN f := by
  unfold riseN; split
  ·left; rfl
  ·omega
 omega
theorem exc_cast (l : Nat) : (((l : Int) != 0) : Bool) = decide (l ≠ 0) := by rw [show (0 : Int) = ((0 : Nat) : Int) from rfl, bne_cast]

theorem pack_j3 (k : Nat) (f mode : Int) (neg : Bool) (x : Int) (s q l a : Nat) (hs : s < 18446744073709551616) (hq : q < 18446744073709551616) (h1 : -10000 ≤ x) (h2 : x ≤ 10000) (K : Nat)
  (hK : K = a * 2 ^ fm f + q % 2 ^ fm f) :
  round_Pack.j3 (k + 2) f mode neg x (s : Int) (fm f : Int) (q : Int) (l : Int) (a : Int) = some
   ((((if overN f K then (if endless mode neg then topN f * 2 ^ fm f else topN f * 2 ^ fm f - 1) else K) + signN f neg : Nat) : Int), false, false,
    overN f K, !overN f K && (decide (l ≠ 0) && (decide (s = 0) || decide (x + lenN s - 1 < leastN f))), overN f K || decide (l ≠ 0)) := by
 obtain ⟨b1, b2, b3, b4, b5⟩ := fbounds f
 have hp := Nat.two_pow_pos (fm f)
 have hm : q % 2 ^ fm f < 2 ^ fm f := Nat.mod_lt _ hp
 have h31 := pow_le31 (show fm f ≤ 31 by omega)
 have ho : (a : Int) ≥ (topN f : Int) ↔ overN f K = true := by
  unfold overN
  rw [decide_eq_true_iff, hK]
  constructor
  ·intro h
   have : topN f * 2 ^ fm f ≤ a * 2 ^ fm f := Nat.mul_le_mul_right _ (by omega)
   omega
  ·intro h
   rcases Nat.lt_or_ge a (topN f) with c | c
   ·have : (a + 1) * 2 ^ fm f ≤ topN f * 2 ^ fm f := Nat.mul_le_mul_right _ c
    rw [Nat.add_mul, Nat.one_mul] at this; omega
   ·omega
 rw [round_Pack.j3, top_f]
 simp only [Option.bind_some]
 by_cases c : (a : Int) ≥ (topN f : Int)
 ·rw [if_pos c, beyond_f, ho.mp c]
  simp only [Option.bind_some, if_true, Bool.not_true, Bool.false_and, Bool.true_or]
  congr 2
  unfold infN greatN
  split <;> rfl
 ·rw [if_neg c]
  have co : overN f K = false := by simpa using fun h => c (ho.mpr h)
  have ec : bits_Cut.f (q : Int) (fm f : Int) = some ((q % 2 ^ fm f : Nat) : Int) := by
   rw [cut_f q hq _ (by omega)]; unfold cutN; rw [if_neg (by omega), Int.toNat_natCast]
  have ej : format_Join.f f neg (a : Int) (((q % 2 ^ fm f : Nat) : Int) % 4294967296) = some ((K + signN f neg : Nat) : Int) := by
   rw [show ((q % 2 ^ fm f : Nat) : Int) % 4294967296 = ((q % 2 ^ fm f : Nat) : Int) by omega, join_f f neg _ _ (by omega) hm, hK]; rfl
  rw [co, ec]
  simp only [Option.bind_some, ej, Bool.false_eq_true, if_false, Bool.not_false, Bool.true_and, Bool.false_or, exc_cast]
  by_cases l0 : l = 0
  ·subst l0; simp
  ·rw [if_neg (by omega)]
   by_cases s0 : s = 0
   ·subst s0; simp [l0]
   ·have hn := lenN_small s hs
    rw [if_neg (by omega), len_f (k) s hs, least_f]
    simp only [Option.bind_some]
    rw [w64_id (x + _) (by omega) (by omega), w64_id _ (by omega) (by omega)]
    simp [l0, s0]
theorem pack_j1 (k : Nat) (f mode : Int) (neg : Bool) (x : Int) (s q l : Nat) (U : Nat) (hU : U ≤ 10200) (hs : s < 18446744073709551616) (hq : q ≤ 2 ^ (fm f + 1)) (hq' : U ≠ 0 → 2 ^ fm f ≤ q) (h1 : -10000 ≤ x) (h2 : x ≤ 10000) (K : Nat)
  (hK : K = U * 2 ^ fm f + q) :
  round_Pack.j1 (k + 4) f mode neg x (s : Int) (fm f : Int) (leastN f - fm f + U) (q : Int) (l : Int) = some
   ((((if overN f K then (if endless mode neg then topN f * 2 ^ fm f else topN f * 2 ^ fm f - 1) else K) + signN f neg : Nat) : Int), false, false,
    overN f K, !overN f K && (decide (l ≠ 0) && (decide (s = 0) || decide (x + lenN s - 1 < leastN f))), overN f K || decide (l ≠ 0)) := by
 obtain ⟨b1, b2, b3, b4, b5⟩ := fbounds f
 have hl := least_cases f
 have hp := Nat.two_pow_pos (fm f)
 have h31 := pow_le31 (show fm f + 1 ≤ 31 by omega)
 have hq64 : q < 18446744073709551616 := by omega
 have e1 : wrap64 ((fm f : Int) + 1) = ((fm f + 1 : Nat) : Int) := by rw [w64_id] <;> omega
 have hsucc : 2 ^ (fm f + 1) = 2 * 2 ^ fm f := by rw [Nat.pow_succ, Nat.mul_comm]
 rw [round_Pack.j1, e1, u64_id _ (by omega), if_pos (by omega), shr_u64 _ _ hq64]
 by_cases c : q = 2 ^ (fm f + 1)
 ·have hd : q / 2 ^ (fm f + 1) = 1 := by rw [c, Nat.div_self (by omega)]
  rw [hd, if_neg (by decide), w64_id _ (by omega) (by omega), show (q : Int) / 2 = ((2 ^ fm f : Nat) : Int) by omega, round_Pack.j2, least_f]
  simp only [Option.bind_some]
  rw [u64_id _ (by omega), if_pos (by omega), shr_u64 _ _ (by omega), Nat.div_self hp, if_neg (by decide)]
  rw [show leastN f - (fm f : Int) + (U : Int) + 1 + (fm f : Int) = leastN f + (U : Int) + 1 by omega, w64_id (leastN f + (U : Int) + 1) (by omega) (by omega), w64_id (leastN f + (U : Int) + 1 - leastN f) (by omega) (by omega), w64_id _ (by omega) (by omega), show leastN f + (U : Int) + 1 - leastN f + 1 = ((U + 2 : Nat) : Int) by omega]
  exact pack_j3 k f mode neg x s _ l (U + 2) hs (by omega) h1 h2 K (by rw [hK, c, hsucc, Nat.mod_self, Nat.add_mul]; omega)
 ·have hd : q / 2 ^ (fm f + 1) = 0 := Nat.div_eq_of_lt (by omega)
  rw [hd, if_pos (by decide), round_Pack.j2, least_f]
  simp only [Option.bind_some]
  rw [u64_id _ (by omega), if_pos (by omega), shr_u64 _ _ hq64]
  by_cases c2 : q < 2 ^ fm f
  ·have hU0 : U = 0 := by
    rcases Nat.eq_zero_or_pos U with h | h
    ·exact h
    ·have := hq' (by omega); omega
   subst hU0
   rw [Nat.div_eq_of_lt c2, if_pos (by decide)]
   have h := pack_j3 k f mode neg x s q l 0 hs hq64 h1 h2 K (by rw [hK, Nat.mod_eq_of_lt c2])
   rw [show ((0 : Nat) : Int) = 0 from rfl] at h
   exact h
  ·have hd1 : q / 2 ^ fm f = 1 := Nat.div_eq_of_lt_le (by omega) (by omega)
   rw [hd1, if_neg (by decide)]
   rw [show leastN f - (fm f : Int) + (U : Int) + (fm f : Int) = leastN f + (U : Int) by omega, w64_id (leastN f + (U : Int)) (by omega) (by omega), w64_id (leastN f + (U : Int) - leastN f) (by omega) (by omega), w64_id _ (by omega) (by omega), show leastN f + (U : Int) - leastN f + 1 = ((U + 1 : Nat) : Int) by omega]
   have hm1 : q % 2 ^ fm f = q - 2 ^ fm f := by
    have := Nat.div_add_mod q (2 ^ fm f)
    rw [hd1, Nat.mul_one] at this; omega
   exact pack_j3 k f mode neg x s q l (U + 1) hs hq64 h1 h2 K (by rw [hK, hm1, Nat.add_mul]; omega)
theorem pack_f (k : Nat) (f mode : Int) (neg : Bool) (x : Int) (s : Nat) (more : Bool) (hs : s < 18446744073709551616) :
  round_Pack.f (k + 5) f mode neg x (s : Int) more = some ((packN f mode neg (clampE x) s more : Int), false, false, excN f mode neg (clampE x) s more) := by
 unfold round_Pack.f
 have hc : mn (mx x (-10000)) 10000 = clampE x := rfl
 obtain ⟨h1, h2⟩ := clampE_bounds x
 rw [hc]
 generalize clampE x = x at *
 by_cases z : s = 0 ∧ more = false
 ·obtain ⟨rfl, rfl⟩ := z
  rw [if_pos (by decide), round_Pack.j0]
  simp only [Bool.not_false, if_true]
  rw [zero_f]
  have hk : keyN f mode neg x 0 false = 0 := by
   unfold keyN
   have hr : riseN f x 0 = 0 := by unfold riseN; rw [if_pos rfl]
   have hq : quoN 0 (unitN f x 0 - x) = 0 := by unfold quoN; split <;> simp
   have hl : leftN 0 (unitN f x 0 - x) false = 0 := by rw [left_none _ (.inr (by simp))]; rfl
   rw [hr, hq, hl]
   have : upN mode neg 0 0 = false := by unfold upN; simp
   rw [this]; simp
  have hl : leftN 0 (unitN f x 0 - x) false = 0 := by rw [left_none _ (.inr (by simp))]; rfl
  have ho : overN f 0 = false := by
   unfold overN
   have := top_cases f
   have := Nat.two_pow_pos (fm f)
   rw [decide_eq_false_iff_not]
   have : 0 < topN f * 2 ^ fm f := Nat.mul_pos (by omega) (by omega)
   omega
  unfold packN excN underN inexN
  rw [hk, ho, hl]; simp
 ·have hj : (if (s : Int) = 0 then round_Pack.j0 (k + 5) f mode neg x (s : Int) more (!more) else round_Pack.j0 (k + 5) f mode neg x (s : Int) more false) = round_Pack.j0 (k + 5) f mode neg x (s : Int) more false := by
   by_cases c : (s : Int) = 0
   ·rw [if_pos c]
    cases more
    ·exact absurd ⟨by omega, rfl⟩ z
    ·rfl
   ·rw [if_neg c]
  rw [hj, round_Pack.j0, if_neg (by decide), widths_f]
  obtain ⟨u1, u2, u3⟩ := unit_bounds f x s hs h1 h2
  obtain ⟨q1, q2⟩ := quo_bounds f x s
  obtain ⟨b1, b2, b3, b4, b5⟩ := fbounds f
  have h31 := pow_le31 (show fm f + 1 ≤ 31 by omega)
  have hll := left_le s (unitN f x s - x) more
  have hq64 : quoN s (unitN f x s - x) < 18446744073709551616 := by omega
  have hd : unitN f x s - x ≤ 0 → s * 2 ^ (-(unitN f x s - x)).toNat < 18446744073709551616 := by
   intro h; have := hq64; unfold quoN at this; rw [if_pos h] at this; exact this
  simp only [Option.bind_some]
  rw [unit_f _ f x s hs h1 h2]
  simp only [Option.bind_some]
  rw [w64_id _ (by omega) (by omega), units_f _ s hs _ (by omega) (by omega) more hd]
  simp only [Option.bind_some]
  rw [up_f _ _ _ _ hq64]
  simp only [Option.bind_some]
  have hun : unitN f x s = leastN f - fm f + (riseN f x s : Nat) := rfl
  have key : ∀ up : Bool, round_Pack.j1 (k + 4) f mode neg x (s : Int) (fm f : Int) (unitN f x s) ((quoN s (unitN f x s - x) + (if up then 1 else 0) : Nat) : Int) (leftN s (unitN f x s - x) more : Int) = _ :=
   fun up => pack_j1 k f mode neg x s _ _ (riseN f x s) u3 hs (by split <;> omega) (fun h => Nat.le_trans (q2 h) (Nat.le_add_right _ _)) h1 h2 _ rfl
  have res : ∀ up : Bool, up = upN mode neg (quoN s (unitN f x s - x)) (leftN s (unitN f x s - x) more) → round_Pack.j1 (k + 4) f mode neg x (s : Int) (fm f : Int) (unitN f x s) ((quoN s (unitN f x s - x) + (if up then 1 else 0) : Nat) : Int) (leftN s (unitN f x s - x) more : Int) = some ((packN f mode neg x s more : Int), false, false, excN f mode neg x s more) := by
   intro up hup
   rw [key up]
   subst hup
   unfold packN excN underN inexN keyN
   rw [← Nat.add_assoc]
   by_cases o : overN f (riseN f x s * 2 ^ fm f + quoN s (unitN f x s - x) + if upN mode neg (quoN s (unitN f x s - x)) (leftN s (unitN f x s - x) more) = true then 1 else 0) = true
   ·rw [o]; simp
   ·rw [Bool.not_eq_true] at o; rw [o]; simp
  by_cases hu : upN mode neg (quoN s (unitN f x s - x)) (leftN s (unitN f x s - x) more) = true
  ·rw [if_pos hu]
   have h := res true hu.symm
   rw [if_pos rfl] at h
   rw [show ((quoN s (unitN f x s - x) : Nat) : Int) + 1 = ((quoN s (unitN f x s - x) + 1 : Nat) : Int) by omega, u64_id _ (by omega)]
   exact h
  ·rw [if_neg hu]
   rw [Bool.not_eq_true] at hu
   have h := res false hu.symm
   rw [if_neg (by decide), Nat.add_zero] at h
   exact h
/- What is a number already is rounded to it; a greater number isn't rounded to a lesser one: of the plain numbers that the rounding computes. -/

theorem whole_lt (f : Int) (v : Nat) : wholeN f v < 2 ^ (fm f + 1) := by
 have hf := frac_lt f v
 have hs : 2 ^ (fm f + 1) = 2 * 2 ^ fm f := by rw [Nat.pow_succ, Nat.mul_comm]
 unfold wholeN; split <;> omega

def restN (r h : Nat) (more : Bool) : Nat := if r < h then (if r = 0 ∧ more = false then 0 else 1) else if r = h ∧ more = false then 2 else 3
theorem left_rest (s : Nat) (d : Int) (more : Bool) (hd : ¬ d ≤ 0) : leftN s d more = restN (s % 2 ^ d.toNat) (2 ^ (d.toNat - 1)) more := by
 obtain ⟨m, hm⟩ : ∃ m, d.toNat = m + 1 := ⟨d.toNat - 1, by omega⟩
 have hh := Nat.two_pow_pos m
 have hs : 2 ^ (m + 1) = 2 ^ m * 2 := Nat.pow_succ ..
 have h1 := Nat.mod_lt s (Nat.two_pow_pos (m + 1))
 have h3 : s / 2 ^ m = (s / 2 ^ (m + 1)) * 2 + (s % 2 ^ (m + 1)) / 2 ^ m := by
  have h2 := Nat.div_add_mod s (2 ^ (m + 1))
  rw [hs] at h2 ⊢
  have e : s = 2 ^ m * (s / (2 ^ m * 2) * 2) + s % (2 ^ m * 2) := by
   rw [← Nat.mul_assoc, Nat.mul_right_comm]; exact h2.symm
  exact (congrArg (· / 2 ^ m) e).trans (Nat.mul_add_div hh _ _)
 have h4 : s % 2 ^ m = s % 2 ^ (m + 1) % 2 ^ m := by rw [hs, Nat.mod_mul_right_mod]
 have hz : ¬ s % 2 ^ (m + 1) = 0 → leftN s d more = if s / 2 ^ m % 2 = 0 then 1 else if s % 2 ^ m ≠ 0 ∨ more = true then 3 else 2 := by
  intro h'
  have := left_some more hd (by rw [hm]; exact h')
  rw [hm, Nat.add_sub_cancel] at this; exact this
 rw [hm, Nat.add_sub_cancel]
 by_cases c : s % 2 ^ (m + 1) = 0
 ·rw [left_none _ (.inr (by rw [hm]; exact c)), c]
  unfold restN
  rw [if_pos hh]
  cases more <;> simp
 ·rw [hz c, h3, h4]
  generalize s % 2 ^ (m + 1) = r at *
  unfold restN
  by_cases lt : r < 2 ^ m
  ·rw [if_pos lt, Nat.div_eq_of_lt lt, if_pos (by omega), if_neg (by omega)]
  ·have e1 : r / 2 ^ m = 1 := Nat.div_eq_of_lt_le (by omega) (by omega)
   have e2 : r % 2 ^ m = r - 2 ^ m := by rw [Nat.mod_eq_sub_mod (by omega), Nat.mod_eq_of_lt (by omega)]
   rw [if_neg lt, e1, e2, if_neg (by omega)]
   by_cases e3 : r = 2 ^ m
   ·subst e3; cases more <;> simp
   ·rw [if_pos (.inl (by omega)), if_neg (by omega)]
/- Which numbers are none, infinite, nought; bits of a format alone: the program's, as plain numbers. -/

theorem pinf_ev (f : Int) (v : Nat) (hv : v < 4294967296) : Ev (fun k => format_IsInf.f k f (v : Int)) (decide (clsN f v = 3)) := by
 refine Ev.congr (fun k => by unfold format_IsInf.f; rfl) (Ev.bind (class_ev f v hv) (Ev.congr (fun k => ?_) (Ev.now _)))
 rw [show (3 : Int) = ((3 : Nat) : Int) from rfl, beq_nn]
theorem pmask_f (f : Int) : format_Mask.f f = some (maskN f : Int) := by
 unfold format_Mask.f maskN
 have h := fbounds f
 rw [widths_f, Option.bind_some]
 dsimp only
 rw [show (fe f : Int) + (fm f : Int) = ((fe f + fm f : Nat) : Int) by omega, w64_id ((fe f + fm f : Nat) : Int) (by omega) (by omega), show ((fe f + fm f : Nat) : Int) + 1 = ((fe f + fm f + 1 : Nat) : Int) by omega, wu _ (by omega), if_pos (Int.natCast_nonneg _)]
 have e := shl_u32 1 (fe f + fm f + 1)
 rw [Nat.one_mul] at e
 rw [show (1 : Int) = ((1 : Nat) : Int) from rfl, e]
 have h32 := pow_le32 (show fe f + fm f + 1 ≤ 32 by omega)
 have h0 := Nat.two_pow_pos (fe f + fm f + 1)
 generalize 2 ^ (fe f + fm f + 1) = P at *
 congr 1; omega
theorem pnans_step (f : Int) (L : List Int) (i v : Nat) (b c : Bool) (r : Int × Bool × Bool × Bool × Bool × Bool × Bool) (hi : i < L.length) (hn : L.length ≤ 100) (hv : v < 4294967296) (hr : rd L (i : Int) = (v : Int))
  (h : Ev (fun k => sum_Nans.l0 k f (b || isNan f v) L (L.length : Int) ((i + 1 : Nat) : Int) (c || isLoud f v) false false false false) r) : Ev (fun k => sum_Nans.l0 k f b L (L.length : Int) (i : Int) c false false false false) r := by
 have hw : wrap64 ((i : Int) + 1) = ((i + 1 : Nat) : Int) := by rw [w64_id _ (by omega) (by omega)]; omega
 refine Ev.step (fun k => by rw [sum_Nans.l0, if_pos (by omega), if_pos (Int.natCast_nonneg _), if_pos (by omega), hr, hw]) (Ev.bind (class_ev f v hv) (Ev.congr (fun k => ?_) h))
 have e5 : (((clsN f v : Nat) : Int) == 5) = isLoud f v := by rw [show (5 : Int) = ((5 : Nat) : Int) from rfl, beq_nn]; rfl
 have e4 : decide (((clsN f v : Nat) : Int) ≥ 4) = isNan f v := by unfold isNan; apply decide_eq_decide.mpr; omega
 rw [e5, e4]
 cases b <;> cases c <;> simp
theorem pnans_end (f : Int) (L : List Int) (b c : Bool) : Ev (fun k => sum_Nans.l0 k f b L (L.length : Int) (L.length : Int) c false false false false) ((nanN f : Int), c, false, false, false, false, b) :=
 Ev.step (fun k => by rw [sum_Nans.l0, if_neg (by omega), nan_f]; rfl) (Ev.now _)
theorem pnans2_ev (f : Int) (a b : Nat) (ha : a < 4294967296) (hb : b < 4294967296) : Ev (fun k => sum_Nans.f k f [(a : Int), (b : Int)]) ((nanN f : Int), isLoud f a || isLoud f b, false, false, false, false, isNan f a || isNan f b) := by
 refine Ev.congr (fun k => by unfold sum_Nans.f; rfl) (pnans_step f _ 0 a false false _ (by simp) (by simp) ha rfl (pnans_step f _ 1 b _ _ _ (by simp) (by simp) hb rfl ?_))
 rw [Bool.false_or, Bool.false_or]
 exact pnans_end f [(a : Int), (b : Int)] _ _
theorem none_low (f : Int) (v : Nat) (h : clsN f v = 0) : lowN f v = signN f (negN f v) ∧ wholeN f v = 0 := by
 have hz : expN f v = 0 ∧ fracN f v = 0 := by
  unfold clsN at h
  by_cases c : expN f v = 0
  ·rw [if_pos c] at h
   by_cases d : fracN f v = 0
   ·exact ⟨c, d⟩
   ·rw [if_neg d] at h; omega
  ·rw [if_neg c] at h
   split at h
   ·omega
   ·split at h
    ·omega
    ·split at h <;> omega
 have hp := low_parts f v
 rw [exp_low, frac_low, neg_low, hz.1, hz.2] at hp
 refine ⟨by omega, ?_⟩
 unfold wholeN; rw [if_pos hz.1, hz.2]
theorem inf_low (f : Int) (v : Nat) (h : clsN f v = 3) : lowN f v = infN f (negN f v) := by
 have hz : expN f v = topN f ∧ fracN f v = 0 := by
  have he := exp_le f v
  unfold clsN at h
  by_cases c : expN f v = 0
  ·rw [if_pos c] at h
   split at h <;> omega
  ·rw [if_neg c] at h
   by_cases d : expN f v < topN f
   ·rw [if_pos d] at h; omega
   ·rw [if_neg d] at h
    by_cases z : fracN f v = 0
    ·exact ⟨by omega, z⟩
    ·rw [if_neg z] at h; split at h <;> omega
 have hp := low_parts f v
 rw [exp_low, frac_low, neg_low, hz.1, hz.2] at hp
 unfold infN; omega
theorem lowest_near (f : Int) (v : Nat) : -200 ≤ lowestN f v ∧ lowestN f v ≤ 300 := by
 have := least_cases f; have := top_cases f; have := fbounds f; have := exp_le f v
 unfold lowestN; omega
theorem cls_exp (f : Int) (v : Nat) (h : clsN f v < 3) : expN f v < topN f := (cls_finite f v).mp h
/- Sums to all bits that rounding asks for: plain numbers alone. -/

def gapN (s : Nat) : Nat := 62 - lenN s
def meetN (na : Bool) (Ea : Int) (A : Nat) (nb : Bool) (Eb : Int) (B : Nat) : Bool × Int × Nat × Bool :=
 if na = nb then (na, Ea, A + B / 2 ^ (Ea - Eb).toNat, decide (B % 2 ^ (Ea - Eb).toNat ≠ 0))
 else (na, Ea, A - B / 2 ^ (Ea - Eb).toNat - (if B % 2 ^ (Ea - Eb).toNat ≠ 0 then 1 else 0), decide (B % 2 ^ (Ea - Eb).toNat ≠ 0))
def exactN (n1 : Bool) (e1 : Int) (s1 : Nat) (n2 : Bool) (e2 : Int) (s2 : Nat) : Bool × Int × Nat × Bool :=
 if s1 = 0 then (n2, e2, s2, false) else if s2 = 0 then (n1, e1, s1, false)
 else if e1 - (gapN s1 : Int) < e2 - (gapN s2 : Int) ∨ e1 - (gapN s1 : Int) = e2 - (gapN s2 : Int) ∧ s1 * 2 ^ gapN s1 < s2 * 2 ^ gapN s2 then meetN n2 (e2 - (gapN s2 : Int)) (s2 * 2 ^ gapN s2) n1 (e1 - (gapN s1 : Int)) (s1 * 2 ^ gapN s1)
 else meetN n1 (e1 - (gapN s1 : Int)) (s1 * 2 ^ gapN s1) n2 (e2 - (gapN s2 : Int)) (s2 * 2 ^ gapN s2)
theorem gap_bounds (s : Nat) (h : s ≠ 0) (h' : s < 4611686018427387904) : gapN s ≤ 61 ∧ lenN s + gapN s = 62 ∧ 2305843009213693952 ≤ s * 2 ^ gapN s ∧ s * 2 ^ gapN s < 4611686018427387904 := by
 have h1 := lenN_bound s 62 h'
 have h2 := lenN_pos s h
 have e : lenN s + gapN s = 62 := by unfold gapN; omega
 have hp := Nat.two_pow_pos (gapN s)
 have l1 := Nat.mul_le_mul_right (2 ^ gapN s) (lenN_le s h)
 have l2 := Nat.mul_lt_mul_of_pos_right (lenN_lt s) hp
 rw [← Nat.pow_add, show lenN s - 1 + gapN s = 61 by omega] at l1
 rw [← Nat.pow_add, e] at l2
 exact ⟨by omega, e, l1, l2⟩
theorem exact_self (n : Bool) (e : Int) (s : Nat) : (exactN n e s (!n) e s).2.2 = (0, false) := by
 unfold exactN
 by_cases h : s = 0
 ·rw [if_pos h, h]
 ·rw [if_neg h, if_neg h, if_neg (by omega)]
  unfold meetN
  rw [Int.sub_self, show (0 : Int).toNat = 0 from rfl, Nat.pow_zero, Nat.div_one, Nat.mod_one, if_neg (by cases n <;> decide)]
  simp
/- Sums, rounded: plain numbers alone. -/

def noughtN (f mode : Int) (a b : Bool) : Nat := if a = b then signN f a else signN f (decide (mode = 3))
def roundedN (f mode : Int) (a b : Bool) (r : Bool × Int × Nat × Bool) : Nat := if r.2.2 = (0, false) then noughtN f mode a b else packN f mode r.1 r.2.1 r.2.2.1 r.2.2.2
def roundedX (f mode : Int) (r : Bool × Int × Nat × Bool) : Bool × Bool × Bool := if r.2.2 = (0, false) then (false, false, false) else excN f mode r.1 r.2.1 r.2.2.1 r.2.2.2
def pairN (f : Int) (a b : Nat) : Bool × Int × Nat × Bool := exactN (negN f a) (lowestN f a) (wholeN f a) (negN f b) (lowestN f b) (wholeN f b)
def sumN (f mode : Int) (a b : Nat) : Nat :=
 if 4 ≤ clsN f a ∨ 4 ≤ clsN f b then nanN f else if clsN f a = 3 ∧ clsN f b = 3 ∧ negN f a ≠ negN f b then nanN f else if clsN f a = 3 then infN f (negN f a) else if clsN f b = 3 then infN f (negN f b)
 else roundedN f mode (negN f a) (negN f b) (pairN f a b)
def sumX (f mode : Int) (a b : Nat) : Bool × Bool × Bool × Bool × Bool :=
 if 4 ≤ clsN f a ∨ 4 ≤ clsN f b then (isLoud f a || isLoud f b, false, false, false, false) else if clsN f a = 3 ∧ clsN f b = 3 ∧ negN f a ≠ negN f b then (true, false, false, false, false) else if clsN f a = 3 ∨ clsN f b = 3 then (false, false, false, false, false)
 else (false, false, roundedX f mode (pairN f a b))
/- Sums to all bits that rounding asks for: the program's, as plain numbers. -/

theorem up_shift (v n : Nat) (h : v * 2 ^ n < 18446744073709551616) : (shiftN v (-(n : Int))).1 = v * 2 ^ n := by
 have hp := Nat.two_pow_pos n
 have hv : v < 18446744073709551616 := Nat.lt_of_le_of_lt (Nat.le_mul_of_pos_right v hp) h
 rw [shiftN_left v n hv]
 exact Nat.mod_eq_of_lt h
theorem full_ev (n : Bool) (e : Int) (s : Nat) (m : Bool) (h : s ≠ 0) (h' : s < 4611686018427387904) (l : -100000 ≤ e) (l' : e ≤ 100000) : Ev (fun k => sum_full.f k n e (s : Int) m) (n, e - (gapN s : Int), ((s * 2 ^ gapN s : Nat) : Int), m) := by
 obtain ⟨a1, a2, a3, a4⟩ := gap_bounds s h h'
 have hw : wrap64 (62 - (lenN s : Int)) = (gapN s : Int) := by rw [w64_id _ (by omega) (by omega)]; omega
 refine Ev.congr (fun k => by unfold sum_full.f; rfl) (Ev.bind (len_ev s (by omega)) ?_)
 rw [hw, w64_id (-(gapN s : Int)) (by omega) (by omega), w64_id (e - (gapN s : Int)) (by omega) (by omega)]
 refine Ev.bind (shift_ev s (by omega) (-(gapN s : Int)) (by omega) (by omega)) ?_
 dsimp only
 rw [up_shift _ _ (by omega)]
 exact Ev.now _
def castE (r : Bool × Int × Nat × Bool) : Bool × Int × Int × Bool := (r.1, r.2.1, (r.2.2.1 : Int), r.2.2.2)
theorem sub_w (A L : Nat) (h : L ≤ A) (hA : A < 18446744073709551616) : IntKind.u64.wrap ((A : Int) - (L : Int)) = ((A - L : Nat) : Int) := by rw [u64_wrap]; omega
theorem sub_one_w (A L : Nat) (h : L + 1 ≤ A) (hA : A < 18446744073709551616) : IntKind.u64.wrap (((A - L : Nat) : Int) - 1) = ((A - L - 1 : Nat) : Int) := by rw [u64_wrap]; omega
theorem meet_ev (na : Bool) (Ea : Int) (A : Nat) (nb : Bool) (Eb : Int) (B : Nat) (h : Eb ≤ Ea) (h0 : Ea = Eb → B ≤ A) (a1 : 2305843009213693952 ≤ A) (a2 : A < 4611686018427387904) (b2 : B < 4611686018427387904) (l1 : -200000 ≤ Eb) (l2 : Ea ≤ 200000) :
  Ev (fun k => sum_Exact.j1 k na Ea (A : Int) false nb Eb (B : Int) false) (castE (meetN na Ea A nb Eb B)) := by
 obtain ⟨d, hd⟩ : ∃ d : Nat, Ea - Eb = (d : Int) := ⟨(Ea - Eb).toNat, by omega⟩
 have hlow : B / 2 ^ d ≤ A ∧ (B % 2 ^ d ≠ 0 → B / 2 ^ d + 1 ≤ A) := by
  rcases Nat.eq_zero_or_pos d with c | c
  ·subst c
   have := h0 (by omega)
   rw [Nat.pow_zero, Nat.div_one, Nat.mod_one]; omega
  ·have h2 : 2 ^ 1 ≤ 2 ^ d := Nat.pow_le_pow_right (by decide) c
   have h3 : B / 2 ^ d ≤ B / 2 := Nat.div_le_div_left h2 (by decide)
   omega
 have hl62 : B / 2 ^ d < 4611686018427387904 := Nat.lt_of_le_of_lt (Nat.div_le_self _ _) b2
 refine Ev.step (fun k => by rw [sum_Exact.j1, w64_id (Ea - Eb) (by omega) (by omega), hd]) (Ev.bind (shift_ev B (by omega) (d : Int) (by omega) (by omega)) ?_)
 rw [shiftN_right]
 dsimp only
 unfold meetN castE
 rw [hd, Int.toNat_natCast]
 by_cases n : na = nb
 ·subst n
  rw [if_pos rfl]
  refine Ev.congr (fun k => ?_) (Ev.now _)
  rw [if_pos (beq_self_eq_true na), ← Int.natCast_add, u64_id _ (by omega)]
 ·rw [if_neg n]
  have hb : ¬ (na == nb) = true := by rw [beq_iff_eq]; exact n
  by_cases o : B % 2 ^ d ≠ 0
  ·have := hlow.2 o
   rw [if_pos o]
   refine Ev.congr (fun k => ?_) (show Ev (fun k => sum_Exact.j2 k na Ea ((A - B / 2 ^ d - 1 : Nat) : Int) (decide (B % 2 ^ d ≠ 0))) (na, Ea, ((A - B / 2 ^ d - 1 : Nat) : Int), decide (B % 2 ^ d ≠ 0)) from Ev.step (fun k => by rw [sum_Exact.j2]) (Ev.now _))
   rw [if_neg hb, if_pos (decide_eq_true o)]
   rw [sub_w A _ hlow.1 (by omega), sub_one_w A _ this (by omega)]
  ·rw [if_neg o, Nat.sub_zero]
   refine Ev.congr (fun k => ?_) (show Ev (fun k => sum_Exact.j2 k na Ea ((A - B / 2 ^ d : Nat) : Int) (decide (B % 2 ^ d ≠ 0))) (na, Ea, ((A - B / 2 ^ d : Nat) : Int), decide (B % 2 ^ d ≠ 0)) from Ev.step (fun k => by rw [sum_Exact.j2]) (Ev.now _))
   rw [if_neg hb, if_neg (show ¬ decide (B % 2 ^ d ≠ 0) = true by rw [decide_eq_true_iff]; exact o)]
   rw [sub_w A _ hlow.1 (by omega)]
theorem exact_ev (n1 : Bool) (e1 : Int) (s1 : Nat) (n2 : Bool) (e2 : Int) (s2 : Nat) (h1 : s1 < 4611686018427387904) (h2 : s2 < 4611686018427387904) (l1 : -100000 ≤ e1) (l1' : e1 ≤ 100000) (l2 : -100000 ≤ e2) (l2' : e2 ≤ 100000) :
  Ev (fun k => sum_Exact.f k n1 e1 (s1 : Int) false n2 e2 (s2 : Int) false) (castE (exactN n1 e1 s1 n2 e2 s2)) := by
 refine Ev.congr (fun k => by unfold sum_Exact.f; rfl) ?_
 unfold exactN
 by_cases z1 : s1 = 0
 ·rw [if_pos z1]
  exact Ev.congr (fun k => by rw [if_pos (by omega)]; rfl) (Ev.now _)
 ·rw [if_neg z1]
  by_cases z2 : s2 = 0
  ·rw [if_pos z2]
   exact Ev.congr (fun k => by rw [if_neg (by omega), if_pos (by omega)]; rfl) (Ev.now _)
  ·rw [if_neg z2]
   obtain ⟨a1, a2, a3, a4⟩ := gap_bounds s1 z1 h1
   obtain ⟨b1, b2, b3, b4⟩ := gap_bounds s2 z2 h2
   refine Ev.congr (fun k => by rw [if_neg (by omega), if_neg (by omega)]) (Ev.bind (full_ev n1 e1 s1 false z1 h1 l1 l1') (Ev.bind (full_ev n2 e2 s2 false z2 h2 l2 l2') ?_))
   dsimp only
   generalize hE1 : e1 - (gapN s1 : Int) = E1 at *
   generalize hE2 : e2 - (gapN s2 : Int) = E2 at *
   generalize s1 * 2 ^ gapN s1 = A at *
   generalize s2 * 2 ^ gapN s2 = B at *
   have swap : (E1 < E2 ∨ E1 = E2 ∧ A < B) → Ev (fun k => sum_Exact.j0 k true n1 E1 (A : Int) false n2 E2 (B : Int) false) (castE (if E1 < E2 ∨ E1 = E2 ∧ A < B then meetN n2 E2 B n1 E1 A else meetN n1 E1 A n2 E2 B)) := by
    intro c
    rw [if_pos c]
    exact Ev.step (fun k => by rw [sum_Exact.j0, if_pos rfl]) (meet_ev n2 E2 B n1 E1 A (by omega) (by omega) b3 b4 a4 (by omega) (by omega))
   have stay : ¬ (E1 < E2 ∨ E1 = E2 ∧ A < B) → Ev (fun k => sum_Exact.j0 k false n1 E1 (A : Int) false n2 E2 (B : Int) false) (castE (if E1 < E2 ∨ E1 = E2 ∧ A < B then meetN n2 E2 B n1 E1 A else meetN n1 E1 A n2 E2 B)) := by
    intro c
    rw [if_neg c]
    exact Ev.step (fun k => by rw [sum_Exact.j0, if_neg (by decide)]) (meet_ev n1 E1 A n2 E2 B (by omega) (by omega) a3 a4 b4 (by omega) (by omega))
   by_cases c1 : E1 < E2
   ·exact Ev.congr (fun k => by rw [if_pos c1]) (swap (.inl c1))
   ·by_cases c2 : E1 = E2
    ·by_cases c3 : A < B
     ·exact Ev.congr (fun k => by rw [if_neg c1, if_pos c2, decide_eq_true (show (A : Int) < (B : Int) by omega)]) (swap (.inr ⟨c2, c3⟩))
     ·exact Ev.congr (fun k => by rw [if_neg c1, if_pos c2, decide_eq_false (show ¬ (A : Int) < (B : Int) by omega)]) (stay (by omega))
    ·exact Ev.congr (fun k => by rw [if_neg c1, if_neg c2]) (stay (by omega))
theorem exact_bounds (n1 : Bool) (e1 : Int) (s1 : Nat) (n2 : Bool) (e2 : Int) (s2 : Nat) (h1 : s1 < 4611686018427387904) (h2 : s2 < 4611686018427387904) (l1 : -1000 ≤ e1) (l1' : e1 ≤ 1000) (l2 : -1000 ≤ e2) (l2' : e2 ≤ 1000) :
  -1100 ≤ (exactN n1 e1 s1 n2 e2 s2).2.1 ∧ (exactN n1 e1 s1 n2 e2 s2).2.1 ≤ 1000 ∧ (exactN n1 e1 s1 n2 e2 s2).2.2.1 < 9223372036854775808 := by
 have meet : ∀ (na : Bool) (Ea : Int) (A : Nat) (nb : Bool) (Eb : Int) (B : Nat), A < 4611686018427387904 → B < 4611686018427387904 → (meetN na Ea A nb Eb B).2.1 = Ea ∧ (meetN na Ea A nb Eb B).2.2.1 < 9223372036854775808 := by
  intro na Ea A nb Eb B ha hb
  have hl := Nat.div_le_self B (2 ^ (Ea - Eb).toNat)
  unfold meetN
  by_cases n : na = nb
  ·rw [if_pos n]; exact ⟨rfl, by show A + B / 2 ^ (Ea - Eb).toNat < _; omega⟩
  ·rw [if_neg n]; exact ⟨rfl, Nat.lt_of_le_of_lt (Nat.le_trans (Nat.sub_le _ _) (Nat.sub_le _ _)) (show A < 9223372036854775808 by omega)⟩
 unfold exactN
 by_cases z1 : s1 = 0
 ·rw [if_pos z1]; dsimp only; omega
 ·rw [if_neg z1]
  by_cases z2 : s2 = 0
  ·rw [if_pos z2]; dsimp only; omega
  ·rw [if_neg z2]
   obtain ⟨a1, a2, a3, a4⟩ := gap_bounds s1 z1 h1
   obtain ⟨b1, b2, b3, b4⟩ := gap_bounds s2 z2 h2
   split
   ·have := meet n2 (e2 - (gapN s2 : Int)) _ n1 (e1 - (gapN s1 : Int)) _ b4 a4; omega
   ·have := meet n1 (e1 - (gapN s1 : Int)) _ n2 (e2 - (gapN s2 : Int)) _ a4 b4; omega
end Go.Proofs.Ytejkemahdincjaa.Round
