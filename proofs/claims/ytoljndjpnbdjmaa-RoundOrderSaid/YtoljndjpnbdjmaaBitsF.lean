/- What the functions of layer 1 compute, as plain numbers. -/
import Derived.Test.YtoljndjpnbdjmaaNum
import Derived.Test.YtoljndjpnbdjmaaPx2
import Derived.Test.YtoljndjpnbdjmaaPx3
import Derived.Test.YtoljndjpnbdjmaaPx6
namespace Go.Proofs.Ytoljndjpnbdjmaa.BitsF
open Go.RowKit Go.Proofs.Ytoljndjpnbdjmaa.P Go.Proofs.Ytoljndjpnbdjmaa.Num Go.Proofs.YtoljndjpnbdjmaaW.PrintWords Go.Proofs.YtoljndjpnbdjmaaW.PrintLast Go.Proofs.YtoljndjpnbdjmaaW.PrintMore

/-- A shift, and whether ones go out. -/
def shiftN (v : Nat) (n : Int) : Nat × Bool :=
  if 0 ≤ n then (v / 2 ^ n.toNat, decide (v % 2 ^ n.toNat ≠ 0)) else (v * 2 ^ (-n).toNat % 18446744073709551616, decide (18446744073709551616 ≤ v * 2 ^ (-n).toNat))
theorem shiftN_right (v n : Nat) : shiftN v (n : Int) = (v / 2 ^ n, decide (v % 2 ^ n ≠ 0)) := by
  unfold shiftN; rw [if_pos (by omega)]; simp
theorem shiftN_left (v n : Nat) (hv : v < 18446744073709551616) : shiftN v (-(n : Int)) = (v * 2 ^ n % 18446744073709551616, decide (18446744073709551616 ≤ v * 2 ^ n)) := by
  unfold shiftN
  by_cases h : n = 0
  · subst h; simp [Nat.mod_one]; omega
  · rw [if_neg (by omega)]; simp

theorem pow_big {n : Nat} (h : 64 ≤ n) : 18446744073709551616 ≤ 2 ^ n := by
  have : 2 ^ 64 ≤ 2 ^ n := Nat.pow_le_pow_right (by decide) h
  omega
theorem pow_dvd {n : Nat} (h : n ≤ 64) : 2 ^ n * 2 ^ (64 - n) = 18446744073709551616 := by
  rw [← Nat.pow_add, show n + (64 - n) = 64 by omega]
/-- Moved back, a number is as it was just when nothing went out. -/
theorem back_ne (v n : Nat) : decide (v / 2 ^ n * 2 ^ n ≠ v) = decide (v % 2 ^ n ≠ 0) := by
  have := Nat.div_add_mod v (2 ^ n)
  rw [Nat.mul_comm] at this
  congr 1
  apply propext
  constructor <;> intro h <;> omega
theorem left_back (v n : Nat) (hn : n ≤ 64) : decide ((v * 2 ^ n % 18446744073709551616) / 2 ^ n ≠ v) = decide (18446744073709551616 ≤ v * 2 ^ n) := by
  have hp : 0 < 2 ^ n := Nat.two_pow_pos n
  have e : v * 2 ^ n % 18446744073709551616 = (v % 2 ^ (64 - n)) * 2 ^ n := by
    rw [← pow_dvd hn, Nat.mul_comm (2 ^ n), Nat.mul_mod_mul_right]
  rw [e, Nat.mul_div_cancel _ hp]
  congr 1
  apply propext
  have hq : 0 < 2 ^ (64 - n) := Nat.two_pow_pos _
  have d := pow_dvd hn
  constructor
  · intro h
    have : 2 ^ (64 - n) ≤ v := by
      apply Nat.le_of_not_lt; intro hlt; exact h (Nat.mod_eq_of_lt hlt)
    calc 18446744073709551616 = 2 ^ (64 - n) * 2 ^ n := by rw [Nat.mul_comm]; exact d.symm
      _ ≤ v * 2 ^ n := Nat.mul_le_mul_right _ this
  · intro h h'
    have hlt : v < 2 ^ (64 - n) := by rw [← h']; exact Nat.mod_lt _ hq
    have : v * 2 ^ n < 2 ^ (64 - n) * 2 ^ n := Nat.mul_lt_mul_of_pos_right hlt hp
    rw [Nat.mul_comm (2 ^ (64 - n)), d] at this
    omega
theorem bne_cast (a b : Nat) : (((a : Int) != (b : Int)) : Bool) = decide (a ≠ b) := by
  by_cases h : a = b
  · subst h; simp
  · rw [bne_iff_ne.mpr (by omega)]; simp [h]

theorem shift_f (v : Nat) (hv : v < 18446744073709551616) (n : Int) (h1 : -9223372036854775808 ≤ n) (h2 : n ≤ 9223372036854775807) (k : Nat) :
    bits_Shift.f (k + 1) (v : Int) n = some ((((shiftN v n).1 : Nat) : Int), (shiftN v n).2) := by
  unfold bits_Shift.f
  by_cases c : n ≥ 64
  · rw [if_pos c]
    simp only [bits_Shift.j0, if_true]
    obtain ⟨m, rfl⟩ := nat_of (show 0 ≤ n by omega)
    rw [shiftN_right]
    have := pow_big (show 64 ≤ m by omega)
    rw [Nat.div_eq_of_lt (by omega), Nat.mod_eq_of_lt (by omega), ← bne_cast]; rfl
  · rw [if_neg c]
    by_cases c' : n ≤ -64
    · rw [decide_eq_true c']
      simp only [bits_Shift.j0, if_true]
      obtain ⟨m, hm⟩ := nat_of (show 0 ≤ -n by omega)
      obtain rfl : n = -(m : Int) := by omega
      rw [shiftN_left _ _ hv]
      have hb := pow_big (show 64 ≤ m by omega)
      have e : (2 : Nat) ^ m = 18446744073709551616 * 2 ^ (m - 64) := by rw [show 18446744073709551616 = 2 ^ 64 from rfl, ← Nat.pow_add]; congr 1; omega
      have e1 : v * 2 ^ m % 18446744073709551616 = 0 := by rw [e, ← Nat.mul_assoc, Nat.mul_comm v, Nat.mul_assoc, Nat.mul_mod_right]
      have e2 : decide (18446744073709551616 ≤ v * 2 ^ m) = decide (v ≠ 0) := by
        congr 1; apply propext
        constructor
        · intro h h0; subst h0; omega
        · intro h
          calc 18446744073709551616 ≤ 2 ^ m := hb
            _ = 1 * 2 ^ m := (Nat.one_mul _).symm
            _ ≤ v * 2 ^ m := Nat.mul_le_mul_right _ (by omega)
      simp only [e1, e2]
      rw [← bne_cast]; rfl
    · rw [decide_eq_false c']
      simp only [bits_Shift.j0, Bool.false_eq_true, if_false]
      by_cases c0 : n ≥ 0
      · rw [if_pos c0]
        obtain ⟨m, rfl⟩ := nat_of c0
        rw [u64_id _ (by omega), if_pos (by omega), shr_u64 _ _ hv, shl_u64, bne_cast, shiftN_right]
        have hle : v / 2 ^ m * 2 ^ m ≤ v := Nat.div_mul_le_self _ _
        rw [Nat.mod_eq_of_lt (by omega), back_ne]
      · rw [if_neg c0]
        obtain ⟨m, hm⟩ := nat_of (show 0 ≤ -n by omega)
        obtain rfl : n = -(m : Int) := by omega
        rw [Int.neg_neg, w64_id _ (by omega) (by omega), u64_id _ (by omega), if_pos (by omega), shl_u64, shr_u64 _ _ (Nat.mod_lt _ (by decide)), bne_cast, shiftN_left _ _ hv, left_back _ _ (by omega)]
theorem shift_ev (v : Nat) (hv : v < 18446744073709551616) (n : Int) (h1 : -9223372036854775808 ≤ n) (h2 : n ≤ 9223372036854775807) :
    Ev (fun k => bits_Shift.f k (v : Int) n) ((((shiftN v n).1 : Nat) : Int), (shiftN v n).2) := Ev.of (bits_Shift.mono _ _) (shift_f v hv n h1 h2 0)

/-- How many bits a number has. -/
def lenN (v : Nat) : Nat := if v = 0 then 0 else v.log2 + 1
theorem lenN_lt (v : Nat) : v < 2 ^ lenN v := by
  unfold lenN
  by_cases h : v = 0
  · subst h; decide
  · rw [if_neg h]; exact (Nat.log2_lt h).mp (Nat.lt_succ_self _)
theorem lenN_le (v : Nat) (h : v ≠ 0) : 2 ^ (lenN v - 1) ≤ v := by
  unfold lenN
  rw [if_neg h, Nat.add_sub_cancel]
  exact (Nat.le_log2 h).mp (Nat.le_refl _)
theorem lenN_pos (v : Nat) (h : v ≠ 0) : 1 ≤ lenN v := by unfold lenN; rw [if_neg h]; omega
theorem lenN_of (v n : Nat) (h : v < 2 ^ n) (h' : n = 0 ∨ 2 ^ (n - 1) ≤ v) : lenN v = n := by
  by_cases hv : v = 0
  · subst hv
    rcases h' with h' | h'
    · subst h'; rfl
    · have := Nat.two_pow_pos (n - 1); omega
  · have hn : n ≠ 0 := by intro e; subst e; simp at h; omega
    have h' := h'.resolve_left hn
    unfold lenN; rw [if_neg hv]
    have a := (Nat.log2_lt hv).mpr h
    have b := (Nat.le_log2 hv).mpr h'
    omega
theorem lenN_bound (v n : Nat) (h : v < 2 ^ n) : lenN v ≤ n := by
  by_cases hv : v = 0
  · subst hv; exact Nat.zero_le _
  · unfold lenN; rw [if_neg hv]; exact (Nat.log2_lt hv).mpr h
theorem lenN_ge (v n : Nat) (h : 2 ^ n ≤ v) : n < lenN v := by
  have hv : v ≠ 0 := by have := Nat.two_pow_pos n; omega
  unfold lenN; rw [if_neg hv]; have := (Nat.le_log2 hv).mpr h; omega
theorem lenN_div (v n : Nat) (h : 2 ^ n ≤ v) : lenN (v / 2 ^ n) + n = lenN v := by
  have hp := Nat.two_pow_pos n
  have hq : v / 2 ^ n ≠ 0 := by have := Nat.div_pos h hp; omega
  symm
  apply lenN_of
  · rw [Nat.pow_add, Nat.mul_comm]
    exact Nat.lt_mul_of_div_lt (lenN_lt _) hp |> fun z => by rw [Nat.mul_comm] at z; exact z
  · right
    have h1 := lenN_pos _ hq
    rw [show lenN (v / 2 ^ n) + n - 1 = lenN (v / 2 ^ n) - 1 + n by omega, Nat.pow_add]
    exact (Nat.le_div_iff_mul_le hp).mp (lenN_le _ hq)
theorem lenN_mul (v n : Nat) (h : v ≠ 0) : lenN (v * 2 ^ n) = lenN v + n := by
  have hp := Nat.two_pow_pos n
  have := lenN_div (v * 2 ^ n) n (Nat.le_mul_of_pos_left _ (by omega))
  rw [Nat.mul_div_cancel _ hp] at this
  omega
theorem lenN_half (v : Nat) (h : v ≠ 0) : lenN v = lenN (v / 2) + 1 := by
  by_cases h1 : v = 1
  · subst h1; decide
  · have := lenN_div v 1 (by omega)
    rw [Nat.pow_one] at this; omega
theorem lenN_zero : lenN 0 = 0 := rfl

theorem tab_all : ∀ i : Fin 256, bt (⟨#[0, 1, 2, 2, 3, 3, 3, 3, 4, 4, 4, 4, 4, 4, 4, 4, 5, 5, 5, 5, 5, 5, 5, 5, 5, 5, 5, 5, 5, 5, 5, 5, 6, 6, 6, 6, 6, 6, 6, 6, 6, 6, 6, 6, 6, 6, 6, 6, 6, 6, 6, 6, 6, 6, 6, 6, 6, 6, 6, 6, 6, 6, 6, 6, 7, 7, 7, 7, 7, 7, 7, 7, 7, 7, 7, 7, 7, 7, 7, 7, 7, 7, 7, 7, 7, 7, 7, 7, 7, 7, 7, 7, 7, 7, 7, 7, 7, 7, 7, 7, 7, 7, 7, 7, 7, 7, 7, 7, 7, 7, 7, 7, 7, 7, 7, 7, 7, 7, 7, 7, 7, 7, 7, 7, 7, 7, 7, 7, 8, 8, 8, 8, 8, 8, 8, 8, 8, 8, 8, 8, 8, 8, 8, 8, 8, 8, 8, 8, 8, 8, 8, 8, 8, 8, 8, 8, 8, 8, 8, 8, 8, 8, 8, 8, 8, 8, 8, 8, 8, 8, 8, 8, 8, 8, 8, 8, 8, 8, 8, 8, 8, 8, 8, 8, 8, 8, 8, 8, 8, 8, 8, 8, 8, 8, 8, 8, 8, 8, 8, 8, 8, 8, 8, 8, 8, 8, 8, 8, 8, 8, 8, 8, 8, 8, 8, 8, 8, 8, 8, 8, 8, 8, 8, 8, 8, 8, 8, 8, 8, 8, 8, 8, 8, 8, 8, 8, 8, 8, 8, 8, 8, 8, 8, 8, 8, 8, 8, 8, 8, 8, 8, 8, 8, 8, 8, 8]⟩ : ByteArray) ((i.val : Nat) : Int) = (lenN i.val : Int) := by decide +kernel
theorem tab_len (i : Nat) (h : i < 256) : bt (⟨#[0, 1, 2, 2, 3, 3, 3, 3, 4, 4, 4, 4, 4, 4, 4, 4, 5, 5, 5, 5, 5, 5, 5, 5, 5, 5, 5, 5, 5, 5, 5, 5, 6, 6, 6, 6, 6, 6, 6, 6, 6, 6, 6, 6, 6, 6, 6, 6, 6, 6, 6, 6, 6, 6, 6, 6, 6, 6, 6, 6, 6, 6, 6, 6, 7, 7, 7, 7, 7, 7, 7, 7, 7, 7, 7, 7, 7, 7, 7, 7, 7, 7, 7, 7, 7, 7, 7, 7, 7, 7, 7, 7, 7, 7, 7, 7, 7, 7, 7, 7, 7, 7, 7, 7, 7, 7, 7, 7, 7, 7, 7, 7, 7, 7, 7, 7, 7, 7, 7, 7, 7, 7, 7, 7, 7, 7, 7, 7, 8, 8, 8, 8, 8, 8, 8, 8, 8, 8, 8, 8, 8, 8, 8, 8, 8, 8, 8, 8, 8, 8, 8, 8, 8, 8, 8, 8, 8, 8, 8, 8, 8, 8, 8, 8, 8, 8, 8, 8, 8, 8, 8, 8, 8, 8, 8, 8, 8, 8, 8, 8, 8, 8, 8, 8, 8, 8, 8, 8, 8, 8, 8, 8, 8, 8, 8, 8, 8, 8, 8, 8, 8, 8, 8, 8, 8, 8, 8, 8, 8, 8, 8, 8, 8, 8, 8, 8, 8, 8, 8, 8, 8, 8, 8, 8, 8, 8, 8, 8, 8, 8, 8, 8, 8, 8, 8, 8, 8, 8, 8, 8, 8, 8, 8, 8, 8, 8, 8, 8, 8, 8, 8, 8, 8, 8, 8, 8]⟩ : ByteArray) (i : Int) = (lenN i : Int) := tab_all ⟨i, h⟩
theorem lenN_small (v : Nat) (h : v < 18446744073709551616) : lenN v ≤ 64 := lenN_bound v 64 h
set_option maxRecDepth 100000 in
theorem len_j0 (k x c : Nat) (hx : x < 4294967296) (hc : c ≤ 64) : bits_Len64.j0 (k + 1) (x : Int) (c : Int) = some ((c + lenN x : Nat) : Int) := by
  rw [bits_Len64.j0]
  have e1 : (x : Int) / 65536 = ((x / 65536 : Nat) : Int) := by omega
  have e2 : (x : Int) / 65536 / 256 = ((x / 65536 / 256 : Nat) : Int) := by omega
  have e3 : (x : Int) / 256 = ((x / 256 : Nat) : Int) := by omega
  by_cases c1 : (x : Int) ≥ 65536
  · rw [if_pos c1]
    by_cases c2 : (x : Int) / 65536 ≥ 256
    · rw [if_pos c2, e2, show ((x / 65536 / 256 : Nat) : Int) % 256 = ((x / 65536 / 256 : Nat) : Int) by omega, if_pos (by omega), if_pos (by omega), tab_len _ (by omega)]
      have h := lenN_div x 24 (by omega)
      rw [show x / 2 ^ 24 = x / 65536 / 256 by omega] at h
      have b := lenN_bound (x / 65536 / 256) 8 (by omega)
      rw [w64_id (c + 16) (by omega) (by omega), w64_id (c + 16 + 8) (by omega) (by omega), w64_id (lenN _) (by omega) (by omega), w64_id _ (by omega) (by omega)]
      congr 1; omega
    · rw [if_neg c2, e1, show ((x / 65536 : Nat) : Int) % 256 = ((x / 65536 : Nat) : Int) by omega, if_pos (by omega), if_pos (by omega), tab_len _ (by omega)]
      have h := lenN_div x 16 (by omega)
      rw [show x / 2 ^ 16 = x / 65536 by omega] at h
      have b := lenN_bound (x / 65536) 8 (by omega)
      rw [w64_id (c + 16) (by omega) (by omega), w64_id (lenN _) (by omega) (by omega), w64_id _ (by omega) (by omega)]
      congr 1; omega
  · rw [if_neg c1]
    by_cases c2 : (x : Int) ≥ 256
    · rw [if_pos c2, e3, show ((x / 256 : Nat) : Int) % 256 = ((x / 256 : Nat) : Int) by omega, if_pos (by omega), if_pos (by omega), tab_len _ (by omega)]
      have h := lenN_div x 8 (by omega)
      rw [show x / 2 ^ 8 = x / 256 by omega] at h
      have b := lenN_bound (x / 256) 8 (by omega)
      rw [w64_id (c + 8) (by omega) (by omega), w64_id (lenN _) (by omega) (by omega), w64_id _ (by omega) (by omega)]
      congr 1; omega
    · rw [if_neg c2, show (x : Int) % 256 = (x : Int) by omega, if_pos (by omega), if_pos (by omega), tab_len _ (by omega)]
      have b := lenN_bound x 8 (by omega)
      rw [w64_id (lenN _) (by omega) (by omega), w64_id _ (by omega) (by omega)]
      congr 1
theorem len64_f (k v : Nat) (hv : v < 18446744073709551616) : bits_Len64.f (k + 1) (v : Int) = some (lenN v : Int) := by
  unfold bits_Len64.f
  by_cases c : (v : Int) ≥ 4294967296
  · rw [if_pos c, show (v : Int) / 4294967296 = ((v / 4294967296 : Nat) : Int) by omega]
    have h := len_j0 k (v / 4294967296) 32 (by omega) (by decide)
    have e := lenN_div v 32 (by omega)
    rw [show v / 2 ^ 32 = v / 4294967296 by omega] at e
    rw [show ((32 : Nat) : Int) = 32 from rfl] at h
    rw [h]; congr 1; omega
  · rw [if_neg c]
    have h := len_j0 k v 0 (by omega) (by decide)
    rw [show ((0 : Nat) : Int) = 0 from rfl] at h
    rw [h, Nat.zero_add]
theorem len_f (k v : Nat) (hv : v < 18446744073709551616) : bits_Len.f (k + 1) (v : Int) = some (lenN v : Int) := by
  unfold bits_Len.f; rw [len64_f k v hv]; rfl
theorem len_ev (v : Nat) (hv : v < 18446744073709551616) : Ev (fun k => bits_Len.f k (v : Int)) (lenN v : Int) := Ev.of (bits_Len.mono _) (len_f 0 v hv)

/-- The lowest bits, n of them. -/
def cutN (v : Nat) (n : Int) : Nat := if n < 1 then 0 else v % 2 ^ n.toNat
theorem cut_mask (v n : Nat) (hv : v < 18446744073709551616) (hn : n < 64) : Go.bits .and .u64 (v : Int) (IntKind.u64.wrap (shl .u64 1 (n : Int) - 1)) = ((v % 2 ^ n : Nat) : Int) := by
  have hp : 2 ^ n ≤ 2 ^ 63 := Nat.pow_le_pow_right (by decide) (by omega)
  have h0 := Nat.two_pow_pos n
  rw [show (1 : Int) = ((1 : Nat) : Int) from rfl, shl_u64, Nat.one_mul, Nat.mod_eq_of_lt (by omega), show ((2 ^ n : Nat) : Int) - ((1 : Nat) : Int) = ((2 ^ n - 1 : Nat) : Int) by omega, u64_id _ (by omega), mask_u64 _ _ hv (by omega)]
theorem cut_f (v : Nat) (hv : v < 18446744073709551616) (n : Int) (h2 : n ≤ 9223372036854775807) : bits_Cut.f (v : Int) n = some (cutN v n : Int) := by
  unfold bits_Cut.f cutN
  by_cases c : n < 1
  · rw [if_pos c, if_pos c]; rfl
  · rw [if_neg c, if_neg c]
    obtain ⟨m, rfl⟩ := nat_of (show 0 ≤ n by omega)
    by_cases c' : (m : Int) ≥ 64
    · rw [if_pos c', Int.toNat_natCast, Nat.mod_eq_of_lt (by have := pow_big (show 64 ≤ m by omega); omega)]
    · rw [if_neg c', u64_id _ (by omega), if_pos (by omega), cut_mask _ _ hv (by omega), Int.toNat_natCast]
end Go.Proofs.Ytoljndjpnbdjmaa.BitsF
