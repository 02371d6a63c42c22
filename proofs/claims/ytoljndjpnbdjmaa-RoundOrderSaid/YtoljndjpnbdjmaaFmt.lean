/- What the program's package format computes, as plain numbers: widths, parts, classes, whole numbers and exponents. -/
import Derived.Test.YtoljndjpnbdjmaaBitsF
import Derived.Test.YtoljndjpnbdjmaaPx2
import Derived.Test.YtoljndjpnbdjmaaPx4
namespace Go.Proofs.Ytoljndjpnbdjmaa.Fmt
open Go.RowKit Go.Proofs.Ytoljndjpnbdjmaa.P Go.Proofs.Ytoljndjpnbdjmaa.Num Go.Proofs.Ytoljndjpnbdjmaa.BitsF Go.Proofs.YtoljndjpnbdjmaaW.PrintWords Go.Proofs.YtoljndjpnbdjmaaW.PrintLast Go.Proofs.YtoljndjpnbdjmaaW.PrintMore

/-- A format's exponent's bits, and its fraction's. -/
def fe (f : Int) : Nat := if f = 0 then 5 else 8
def fm (f : Int) : Nat := if f = 0 then 10 else if f = 1 then 7 else 23
theorem fcases (f : Int) : (fe f = 5 ∧ fm f = 10) ∨ (fe f = 8 ∧ fm f = 7) ∨ (fe f = 8 ∧ fm f = 23) := by
  unfold fe fm
  split
  · exact .inl ⟨rfl, rfl⟩
  · split
    · exact .inr (.inl ⟨rfl, rfl⟩)
    · exact .inr (.inr ⟨rfl, rfl⟩)
theorem fbounds (f : Int) : 5 ≤ fe f ∧ fe f ≤ 8 ∧ 7 ≤ fm f ∧ fm f ≤ 23 ∧ fe f + fm f ≤ 31 := by
  rcases fcases f with ⟨h1, h2⟩ | ⟨h1, h2⟩ | ⟨h1, h2⟩ <;> rw [h1, h2] <;> decide
/-- The exponent, as it stands, of what isn't finite; the exponent of the least normal number. -/
def topN (f : Int) : Nat := 2 ^ fe f - 1
def leastN (f : Int) : Int := 2 - 2 ^ (fe f - 1)
theorem least_cases (f : Int) : leastN f = -14 ∨ leastN f = -126 := by
  unfold leastN
  rcases fcases f with ⟨h1, _⟩ | ⟨h1, _⟩ | ⟨h1, _⟩ <;> rw [h1] <;> simp
theorem top_cases (f : Int) : topN f = 31 ∨ topN f = 255 := by
  unfold topN
  rcases fcases f with ⟨h1, _⟩ | ⟨h1, _⟩ | ⟨h1, _⟩ <;> rw [h1] <;> simp
theorem top_least (f : Int) : (topN f : Int) = 3 - 2 * leastN f := by
  unfold topN leastN
  rcases fcases f with ⟨h1, _⟩ | ⟨h1, _⟩ | ⟨h1, _⟩ <;> rw [h1] <;> decide
def signN (f : Int) (neg : Bool) : Nat := if neg then 2 ^ (fe f + fm f) else 0
def negN (f : Int) (v : Nat) : Bool := decide (v / 2 ^ (fe f + fm f) % 2 = 1)
def expN (f : Int) (v : Nat) : Nat := v / 2 ^ fm f % 2 ^ fe f
def fracN (f : Int) (v : Nat) : Nat := v % 2 ^ fm f
theorem exp_le (f : Int) (v : Nat) : expN f v ≤ topN f := by
  unfold expN topN
  have := Nat.mod_lt (v / 2 ^ fm f) (Nat.two_pow_pos (fe f))
  omega
theorem frac_lt (f : Int) (v : Nat) : fracN f v < 2 ^ fm f := Nat.mod_lt _ (Nat.two_pow_pos _)

theorem wu (n : Nat) (h : n < 9223372036854775808) : IntKind.u64.wrap (wrap64 (n : Int)) = (n : Int) := by rw [w64_id _ (by omega) (by omega), u64_id _ (by omega)]
theorem pow_le31 {n : Nat} (h : n ≤ 31) : 2 ^ n ≤ 2147483648 := Nat.pow_le_pow_right (show 0 < 2 by decide) h
theorem pow_le32 {n : Nat} (h : n ≤ 32) : 2 ^ n ≤ 4294967296 := Nat.pow_le_pow_right (show 0 < 2 by decide) h
theorem one_shl (n : Nat) (h : n ≤ 31) : shl .u32 1 (n : Int) = ((2 ^ n : Nat) : Int) := by
  have := pow_le31 h
  rw [show (1 : Int) = ((1 : Nat) : Int) from rfl, shl_u32, Nat.one_mul, Nat.mod_eq_of_lt (by omega)]
theorem mask_u32 (a n : Nat) (ha : a < 4294967296) (hn : n ≤ 31) : Go.bits .and .u32 (a : Int) ((shl .u32 1 (n : Int) - 1) % 4294967296) = ((a % 2 ^ n : Nat) : Int) := by
  have h1 := pow_le31 hn
  have h0 := Nat.two_pow_pos n
  rw [one_shl n hn, show (((2 ^ n : Nat) : Int) - 1) % 4294967296 = ((2 ^ n - 1 : Nat) : Int) by omega, and_u32 _ _ ha (by omega), Nat.and_two_pow_sub_one_eq_mod]
theorem and1_u32 (a : Nat) (ha : a < 4294967296) : Go.bits .and .u32 (a : Int) 1 = ((a % 2 : Nat) : Int) := by
  rw [show (1 : Int) = ((2 ^ 1 - 1 : Nat) : Int) from rfl, and_u32 _ _ ha (by decide), Nat.and_two_pow_sub_one_eq_mod]
theorem one_shl_i64 (n : Nat) (h : n ≤ 31) : shl .i64 1 (n : Int) = ((2 ^ n : Nat) : Int) := by
  have := pow_le31 h
  have := Nat.two_pow_pos n
  unfold shl
  rw [Int.toNat_natCast, Nat.min_eq_left (show n ≤ IntKind.i64.bits by show n ≤ 64; omega), i64_wrap, Int.one_mul, ← pow_cast, w64_id _ (by omega) (by omega)]

theorem widths_f (f : Int) : format_Widths.f f = some ((fe f : Int), (fm f : Int)) := by
  unfold format_Widths.f fe fm
  by_cases h : f = 0
  · subst h; rfl
  · rw [if_neg h, if_neg h, if_neg h]
    by_cases h1 : f = 1
    · subst h1; rfl
    · rw [if_neg h1, if_neg h1]; rfl
/-- A number put together of its parts. -/
def joinN (f : Int) (neg : Bool) (at_ frac : Nat) : Nat := at_ * 2 ^ fm f + frac + signN f neg
theorem join_f (f : Int) (neg : Bool) (a c : Nat) (ha : a ≤ topN f) (hc : c < 2 ^ fm f) : format_Join.f f neg (a : Int) (c : Int) = some (joinN f neg a c : Int) := by
  unfold format_Join.f joinN signN
  rw [widths_f]
  obtain ⟨b1, b2, b3, b4, b5⟩ := fbounds f
  have hp := Nat.two_pow_pos (fm f)
  have hle : a * 2 ^ fm f + 2 ^ fm f ≤ 2 ^ (fe f + fm f) := by
    rw [Nat.pow_add, ← Nat.succ_mul]
    apply Nat.mul_le_mul_right
    unfold topN at ha
    have := Nat.two_pow_pos (fe f); omega
  have h31 := pow_le31 b5
  have e1 : shl .u32 ((a : Int) % 4294967296) (fm f : Int) = ((a * 2 ^ fm f : Nat) : Int) := by
    have : a < 4294967296 := by have := top_cases f; omega
    rw [show (a : Int) % 4294967296 = ((a : Nat) : Int) by omega, shl_u32, Nat.mod_eq_of_lt (by omega)]
  have e2 : Go.bits .or .u32 ((a * 2 ^ fm f : Nat) : Int) (c : Int) = ((a * 2 ^ fm f + c : Nat) : Int) := by
    rw [or_u32 _ _ (by omega) (by omega), or_add _ _ (fm f) (Nat.mul_mod_left ..) hc]
  simp only [Option.bind_some]
  rw [u64_id (fm f) (by omega), if_pos (by omega), e1, e2]
  cases neg
  · simp
  · simp only [if_true]
    rw [show (fe f : Int) + (fm f : Int) = ((fe f + fm f : Nat) : Int) by omega, wu _ (by omega), if_pos (by omega), one_shl _ b5, or_u32 _ _ (by omega) (by omega), Nat.or_comm, or_add _ (a * 2 ^ fm f + c) (fe f + fm f) (by simp) (by omega)]
    congr 2; omega
theorem top_f (f : Int) : format_Top.f f = some (topN f : Int) := by
  unfold format_Top.f topN
  rw [widths_f]
  obtain ⟨b1, b2, b3, b4, b5⟩ := fbounds f
  have hp := Nat.two_pow_pos (fe f)
  have h31 := pow_le31 (show fe f ≤ 31 by omega)
  simp only [Option.bind_some]
  rw [u64_id (fe f) (by omega), if_pos (by omega), one_shl_i64 _ (by omega), w64_id _ (by omega) (by omega)]
  congr 1; omega
theorem least_f (f : Int) : format_Least.f f = some (leastN f) := by
  unfold format_Least.f leastN
  rw [widths_f]
  obtain ⟨b1, b2, b3, b4, b5⟩ := fbounds f
  have h31 := pow_le31 (show fe f - 1 ≤ 31 by omega)
  have h0 := Nat.two_pow_pos (fe f - 1)
  simp only [Option.bind_some]
  rw [show (fe f : Int) - 1 = ((fe f - 1 : Nat) : Int) by omega, wu _ (by omega), if_pos (by omega), one_shl_i64 _ (by omega), w64_id _ (by omega) (by omega), pow_cast]
theorem top_lt (f : Int) : topN f - 1 ≤ topN f := by omega
theorem zero_f (f : Int) (neg : Bool) : format_Zero.f f neg = some (signN f neg : Int) := by
  unfold format_Zero.f
  have h := join_f f neg 0 0 (Nat.zero_le _) (Nat.two_pow_pos _)
  rw [show ((0 : Nat) : Int) = 0 from rfl] at h
  rw [h]; unfold joinN; simp
def infN (f : Int) (neg : Bool) : Nat := topN f * 2 ^ fm f + signN f neg
theorem inf_f (f : Int) (neg : Bool) : format_Inf.f f neg = some (infN f neg : Int) := by
  unfold format_Inf.f infN
  have h := join_f f neg (topN f) 0 (Nat.le_refl _) (Nat.two_pow_pos _)
  rw [show ((0 : Nat) : Int) = 0 from rfl] at h
  rw [top_f]; simp only [Option.bind_some]; rw [h]; unfold joinN; simp
def greatN (f : Int) (neg : Bool) : Nat := topN f * 2 ^ fm f - 1 + signN f neg
theorem greatest_f (f : Int) (neg : Bool) : format_Greatest.f f neg = some (greatN f neg : Int) := by
  unfold format_Greatest.f greatN
  obtain ⟨b1, b2, b3, b4, b5⟩ := fbounds f
  have hp := Nat.two_pow_pos (fm f)
  have h31 := pow_le31 (show fm f ≤ 31 by omega)
  have ht := top_cases f
  rw [widths_f, top_f]
  simp only [Option.bind_some]
  rw [u64_id (fm f) (by omega), if_pos (by omega), w64_id _ (by omega) (by omega), one_shl _ (by omega), show (((2 ^ fm f : Nat) : Int) - 1) % 4294967296 = ((2 ^ fm f - 1 : Nat) : Int) by omega, show (topN f : Int) - 1 = ((topN f - 1 : Nat) : Int) by omega, join_f f neg _ _ (by omega) (by omega)]
  simp only [Option.bind_some]
  unfold joinN
  congr 2
  have : topN f * 2 ^ fm f = (topN f - 1) * 2 ^ fm f + 2 ^ fm f := by rw [← Nat.succ_mul]; congr 1; omega
  omega
end Go.Proofs.Ytoljndjpnbdjmaa.Fmt
