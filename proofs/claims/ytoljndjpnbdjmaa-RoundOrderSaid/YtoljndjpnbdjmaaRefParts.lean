/- The reference's parts of a number, its class, its whole number and exponent, its place in the order: as plain numbers. -/
import Derived.Test.YtoljndjpnbdjmaaRefRound
import Derived.Test.YtoljndjpnbdjmaaPx15
import Derived.Test.YtoljndjpnbdjmaaPx16
namespace Go.Proofs.Ytoljndjpnbdjmaa.Round
open Go.RowKit Go.Proofs.Ytoljndjpnbdjmaa.P Go.Proofs.Ytoljndjpnbdjmaa.Num Go.Proofs.Ytoljndjpnbdjmaa.BitsF Go.Proofs.Ytoljndjpnbdjmaa.Fmt Go.Proofs.YtoljndjpnbdjmaaW.PrintWords Go.Proofs.YtoljndjpnbdjmaaW.PrintLast Go.Proofs.YtoljndjpnbdjmaaW.PrintMore

/-- A number's bits: the lowest of a format's width. -/
def lowN (f : Int) (v : Nat) : Nat := v % 2 ^ (fe f + fm f + 1)
theorem low_lt (f : Int) (v : Nat) : lowN f v < 2 ^ (fe f + fm f + 1) := Nat.mod_lt _ (Nat.two_pow_pos _)
theorem low_32 (f : Int) (v : Nat) : lowN f v < 4294967296 := by
  obtain ⟨b1, b2, b3, b4, b5⟩ := fbounds f
  have := low_lt f v
  have := pow_le32 (show fe f + fm f + 1 ≤ 32 by omega)
  omega
theorem low_id (f : Int) (v : Nat) (h : v < 2 ^ (fe f + fm f + 1)) : lowN f v = v := Nat.mod_eq_of_lt h
theorem low_low (f : Int) (v : Nat) : lowN f (lowN f v) = lowN f v := low_id f _ (low_lt f v)
def maskN (f : Int) : Nat := 2 ^ (fe f + fm f + 1) - 1
theorem mask_lit (n : Nat) (hn : n ≤ 32) : (IntKind.u64.wrap (shl .u64 1 (n : Int) - 1)) % 4294967296 = ((2 ^ n - 1 : Nat) : Int) := by
  have h32 := pow_le32 hn
  have h0 := Nat.two_pow_pos n
  rw [show shl .u64 1 (n : Int) = _ from shl_u64 1 n, Nat.one_mul]
  generalize 2 ^ n = P at *
  rw [Nat.mod_eq_of_lt (by omega), u64_wrap]
  omega
theorem width_f (f : Int) : wrap64 ((wrap64 (1 + (fe f : Int))) + (fm f : Int)) = ((fe f + fm f + 1 : Nat) : Int) := by
  obtain ⟨b1, b2, b3, b4, b5⟩ := fbounds f
  rw [w64_id (1 + (fe f : Int)) (by omega) (by omega), w64_id _ (by omega) (by omega)]; omega
theorem ref_mask_f (f : Int) : annealref1_Mask.f f = some (maskN f : Int) := by
  unfold annealref1_Mask.f
  have h := fbounds f
  rw [ref_widths_f, Option.bind_some]
  dsimp only
  rw [width_f, mask_lit _ (by omega)]
  exact if_pos (Int.natCast_nonneg _)
theorem and_mask (f : Int) (v : Nat) (hv : v < 4294967296) : Go.bits .and .u32 (v : Int) (maskN f : Int) = (lowN f v : Int) := by
  unfold maskN lowN
  have h := fbounds f
  have h32 := pow_le32 (show fe f + fm f + 1 ≤ 32 by omega)
  generalize fe f + fm f + 1 = n at *
  have h0 := Nat.two_pow_pos n
  rw [and_u32 _ _ hv (by omega), Nat.and_two_pow_sub_one_eq_mod]
theorem top_bit (f : Int) (v : Nat) : ((((lowN f v / 2 ^ (fe f + fm f) : Nat) : Int) == 1) : Bool) = negN f (lowN f v) := by
  rw [show (1 : Int) = ((1 : Nat) : Int) from rfl, beq_nn]
  unfold negN
  have : lowN f v / 2 ^ (fe f + fm f) < 2 := by rw [Nat.div_lt_iff_lt_mul (Nat.two_pow_pos _), Nat.mul_comm, ← Nat.pow_succ]; exact low_lt f v
  rw [Nat.mod_eq_of_lt this]
theorem small_w64 (a n : Nat) (hn : n ≤ 31) : wrap64 ((a % 2 ^ n : Nat) : Int) = ((a % 2 ^ n : Nat) : Int) := by
  have h1 := pow_le31 hn
  have h2 := Nat.mod_lt a (Nat.two_pow_pos n)
  generalize a % 2 ^ n = q at *
  exact w64_id _ (by omega) (by omega)
theorem small_u64 (a n : Nat) (hn : n ≤ 31) : IntKind.u64.wrap ((a % 2 ^ n : Nat) : Int) = ((a % 2 ^ n : Nat) : Int) := by
  have h1 := pow_le31 hn
  have h2 := Nat.mod_lt a (Nat.two_pow_pos n)
  generalize a % 2 ^ n = q at *
  exact u64_id _ (by omega)
theorem ref_parts_f (f : Int) (v : Nat) (hv : v < 4294967296) : annealref1_parts.f f (v : Int) = some (negN f (lowN f v), (expN f (lowN f v) : Int), (fracN f (lowN f v) : Int)) := by
  unfold annealref1_parts.f
  obtain ⟨b1, b2, b3, b4, b5⟩ := fbounds f
  have hl := low_32 f v
  rw [ref_widths_f, Option.bind_some, ref_mask_f, Option.bind_some]
  dsimp only
  rw [and_mask f v hv, show (fe f : Int) + (fm f : Int) = ((fe f + fm f : Nat) : Int) by omega, w64_id _ (by omega) (by omega), if_pos (by omega), if_pos (by omega), if_pos (by omega), shr_u32 _ _ hl, shr_u32 _ _ hl, mask_u32 _ _ (Nat.lt_of_le_of_lt (Nat.div_le_self _ _) hl) (by omega), mask_u32 _ _ hl (by omega), top_bit, small_w64 _ _ (by omega), small_u64 _ _ (by omega)]
  unfold expN fracN
  exact Eq.refl _
/-- The class of a number: 0 nought, 1 small, 2 normal, 3 infinite, 4 quiet, 5 signal. -/
def clsN (f : Int) (v : Nat) : Nat :=
  if expN f v = 0 then (if fracN f v = 0 then 0 else 1) else if expN f v < topN f then 2 else if fracN f v = 0 then 3 else if fracN f v / 2 ^ (fm f - 1) = 1 then 4 else 5
theorem ref_class_ev (f : Int) (v : Nat) (hv : v < 4294967296) : Ev (fun k => annealref1_Class.f k f (v : Int)) (clsN f (lowN f v) : Int) := by
  obtain ⟨b1, b2, b3, b4, b5⟩ := fbounds f
  have h31 := pow_le31 (show fe f ≤ 31 by omega)
  have h0 := Nat.two_pow_pos (fe f)
  have hfr := frac_lt f (lowN f v)
  have h31' := pow_le31 (show fm f ≤ 31 by omega)
  refine ⟨1, fun k hk => ?_⟩
  obtain ⟨k, rfl⟩ : ∃ j, k = j + 1 := ⟨k - 1, by omega⟩
  unfold annealref1_Class.f clsN
  rw [ref_widths_f, ref_parts_f f v hv]
  simp only [Option.bind_some]
  generalize expN f (lowN f v) = e
  generalize fracN f (lowN f v) = m at *
  have ht : wrap64 (((2 ^ fe f : Nat) : Int) - 1) = (topN f : Int) := by rw [w64_id _ (by omega) (by omega)]; unfold topN; omega
  by_cases c : e = 0
  · subst c
    rw [if_pos (by rfl), annealref1_Class.j0, if_pos rfl]
    by_cases c2 : m = 0
    · subst c2; rfl
    · rw [if_neg (by simp; omega), if_pos (by rfl), if_neg c2]; rfl
  · rw [if_neg (by omega), annealref1_Class.j0, if_neg (by decide), if_neg (by omega), if_pos (by omega), one_shl_i64 _ (by omega), ht, if_neg c]
    by_cases c2 : e < topN f
    · rw [if_pos (by omega), if_pos c2]; rfl
    · rw [if_neg (by omega), if_neg c2]
      by_cases c3 : m = 0
      · rw [if_pos (by omega), if_pos c3]; rfl
      · rw [if_neg (by omega), if_neg c3, w64_id _ (by omega) (by omega), if_pos (by omega), show (fm f : Int) - 1 = ((fm f - 1 : Nat) : Int) by omega, shr_u64 _ _ (by omega)]
        by_cases c4 : m / 2 ^ (fm f - 1) = 1
        · rw [if_pos (by rw [c4]; rfl), if_pos c4]; rfl
        · rw [if_neg (by omega), if_neg c4]; rfl
theorem cls_finite (f : Int) (v : Nat) : clsN f v < 3 ↔ expN f v < topN f := by
  have := top_cases f
  unfold clsN
  split
  · split <;> omega
  · split
    · omega
    · split
      · omega
      · split <;> omega
theorem ref_finite_ev (f : Int) (v : Nat) (hv : v < 4294967296) : Ev (fun k => annealref1_Finite.f k f (v : Int)) (decide (expN f (lowN f v) < topN f)) := by
  refine Ev.congr (fun k => by unfold annealref1_Finite.f; rfl) (Ev.bind (ref_class_ev f v hv) (Ev.congr (fun k => ?_) (Ev.now _)))
  congr 1
  apply decide_eq_decide.mpr
  rw [← cls_finite]; omega
/-- A finite number's whole number, the exponent of its lowest bit. -/
def wholeN (f : Int) (v : Nat) : Nat := if expN f v = 0 then fracN f v else fracN f v + 2 ^ fm f
def lowestN (f : Int) (v : Nat) : Int := leastN f - fm f + (expN f v - 1 : Nat)
theorem or_top (m n : Nat) (h : m < 2 ^ n) (hn : n ≤ 31) : Go.bits .or .u64 (m : Int) (shl .u64 1 (n : Int)) = ((m + 2 ^ n : Nat) : Int) := by
  have h31 := pow_le31 hn
  rw [show (1 : Int) = ((1 : Nat) : Int) from rfl, shl_u64, Nat.one_mul, Nat.mod_eq_of_lt (by omega), or_u64 _ _ (by omega) (by omega), Nat.or_comm, or_add _ _ n (by simp) h, Nat.add_comm]
theorem ref_unpack_ev (f : Int) (v : Nat) (hv : v < 4294967296) (h : expN f (lowN f v) < topN f) :
    Ev (fun k => annealref1_Unpack.f k f (v : Int)) (negN f (lowN f v), lowestN f (lowN f v), (wholeN f (lowN f v) : Int)) := by
  obtain ⟨b1, b2, b3, b4, b5⟩ := fbounds f
  have hfr := frac_lt f (lowN f v)
  have hls := least_cases f
  have htp := top_cases f
  obtain ⟨K, hK⟩ := ref_class_ev f v hv
  refine ⟨K, fun k hk => ?_⟩
  show annealref1_Unpack.f k f (v : Int) = _
  unfold annealref1_Unpack.f
  rw [ref_widths_f, ref_parts_f f v hv, show annealref1_Class.f k f (v : Int) = _ from hK k hk, ref_bias_f]
  simp only [Option.bind_some]
  unfold lowestN wholeN clsN
  generalize expN f (lowN f v) = e at *
  generalize fracN f (lowN f v) = m at *
  by_cases c : e = 0
  · subst c
    have e1 : wrap64 ((wrap64 (1 - (1 - leastN f))) - (fm f : Int)) = leastN f - fm f + ((0 - 1 : Nat) : Int) := by
      rw [w64_id (1 - (1 - leastN f)) (by omega) (by omega), w64_id _ (by omega) (by omega)]; omega
    rw [e1]
    by_cases c2 : m = 0
    · subst c2; rfl
    · simp only [if_true, if_neg c2]; rfl
  · rw [if_neg c, if_pos h, if_neg c]
    have e1 : wrap64 ((wrap64 ((e : Int) - (1 - leastN f))) - (fm f : Int)) = leastN f - fm f + ((e - 1 : Nat) : Int) := by
      rw [w64_id ((e : Int) - (1 - leastN f)) (by omega) (by omega), w64_id _ (by omega) (by omega)]; omega
    rw [e1, or_top m _ hfr (by omega), if_pos (by rfl), if_pos (by omega)]
/-- A number put together again. -/
theorem low_parts (f : Int) (v : Nat) : lowN f v = expN f (lowN f v) * 2 ^ fm f + fracN f (lowN f v) + signN f (negN f (lowN f v)) := by
  have hlt := low_lt f v
  generalize lowN f v = x at *
  unfold expN fracN signN negN
  have h1 : x / 2 ^ (fe f + fm f) < 2 := by rw [Nat.div_lt_iff_lt_mul (Nat.two_pow_pos _), Nat.mul_comm, ← Nat.pow_succ]; exact hlt
  have h2 : x / 2 ^ fm f / 2 ^ fe f = x / 2 ^ (fe f + fm f) := by rw [Nat.div_div_eq_div_mul, ← Nat.pow_add, Nat.add_comm]
  have h3 := Nat.div_add_mod x (2 ^ fm f)
  have h4 := Nat.div_add_mod (x / 2 ^ fm f) (2 ^ fe f)
  rw [h2] at h4
  have h5 : 2 ^ (fe f + fm f) = 2 ^ fm f * 2 ^ fe f := by rw [← Nat.pow_add, Nat.add_comm]
  rw [Nat.mod_eq_of_lt h1]
  generalize x / 2 ^ (fe f + fm f) = b at *
  generalize hq : x / 2 ^ fm f % 2 ^ fe f = q at *
  generalize x % 2 ^ fm f = r at *
  rw [← h4, Nat.mul_add] at h3
  have h6 : b = 0 ∨ b = 1 := by omega
  rcases h6 with rfl | rfl
  · rw [if_neg (by decide)]; rw [Nat.mul_comm q]; omega
  · rw [if_pos (by decide), h5, Nat.mul_comm q]
    rw [Nat.mul_one] at h3
    omega
theorem clear_top (a n : Nat) (h : a < 2 ^ (n + 1)) (hn : n ≤ 31) : Go.bits .andNot .u32 (a : Int) ((2 ^ n : Nat) : Int) = ((a % 2 ^ n : Nat) : Int) := by
  have h32 := pow_le32 (show n + 1 ≤ 32 by omega)
  have h31 := pow_le31 hn
  have e : (BitVec.ofInt 32 (a : Int) &&& ~~~ BitVec.ofInt 32 ((2 ^ n : Nat) : Int)).toNat = a % 2 ^ n := by
    rw [BitVec.ofInt_natCast, BitVec.ofInt_natCast]
    apply Nat.eq_of_testBit_eq
    intro i
    rw [BitVec.testBit_toNat, BitVec.getLsbD_and, BitVec.getLsbD_not, BitVec.getLsbD_ofNat, BitVec.getLsbD_ofNat, Nat.testBit_mod_two_pow, Nat.testBit_two_pow]
    by_cases c : i < n
    · have c1 : i < 32 := by omega
      have c2 : ¬ n = i := by omega
      simp [c, c1, c2]
    · by_cases c3 : n = i
      · subst c3; simp
      · have : a.testBit i = false := Nat.testBit_lt_two_pow (Nat.lt_of_lt_of_le h (Nat.pow_le_pow_right (by decide) (by omega)))
        simp [c, this]
  show IntKind.u32.wrap (((BitVec.ofInt 32 (a : Int) &&& ~~~ BitVec.ofInt 32 ((2 ^ n : Nat) : Int)).toNat : Nat) : Int) = _
  rw [e]
  have : a % 2 ^ n ≤ a := Nat.mod_le _ _
  rw [u32_wrap]; omega
theorem ref_neg_f (f : Int) (v : Nat) (hv : v < 4294967296) : annealref1_neg.f f (v : Int) = some (negN f (lowN f v)) := by
  unfold annealref1_neg.f; rw [ref_parts_f f v hv]; rfl
/-- A number's place in the order. -/
def placeN (f : Int) (v : Nat) : Int := if negN f v then -1 - ((v % 2 ^ (fe f + fm f) : Nat) : Int) else ((v % 2 ^ (fe f + fm f) : Nat) : Int)
theorem ref_key_f (f : Int) (v : Nat) (hv : v < 4294967296) : annealref1_Key.f f (v : Int) = some (placeN f (lowN f v)) := by
  unfold annealref1_Key.f placeN
  obtain ⟨b1, b2, b3, b4, b5⟩ := fbounds f
  have h31 := pow_le31 b5
  have hm := Nat.mod_lt (lowN f v) (Nat.two_pow_pos (fe f + fm f))
  rw [ref_mask_f, ref_sign_f, ref_neg_f f v hv]
  simp only [Option.bind_some]
  rw [and_mask f v hv, show signN f true = 2 ^ (fe f + fm f) from rfl, clear_top _ _ (low_lt f v) b5]
  generalize lowN f v % 2 ^ (fe f + fm f) = q at *
  rw [w64_id (q : Int) (by omega) (by omega), w64_id _ (by omega) (by omega)]
  split <;> rfl
end Go.Proofs.Ytoljndjpnbdjmaa.Round
