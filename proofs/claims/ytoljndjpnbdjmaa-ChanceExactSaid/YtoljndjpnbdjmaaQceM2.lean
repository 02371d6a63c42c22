import Derived.Test.YtoljndjpnbdjmaaQceM1
import Derived.Test.YtoljndjpnbdjmaaQcePx23
import Derived.Test.YtoljndjpnbdjmaaQcePx26
import Derived.Test.YtoljndjpnbdjmaaQcePx15
import Derived.Test.YtoljndjpnbdjmaaQcePx16
import Derived.Test.YtoljndjpnbdjmaaQcePx19
import Derived.Test.YtoljndjpnbdjmaaQcePx20
import Derived.Test.YtoljndjpnbdjmaaQcePx24
import Derived.Test.YtoljndjpnbdjmaaQcePx8
import Derived.Test.YtoljndjpnbdjmaaQcePx9
import Derived.Test.YtoljndjpnbdjmaaQcePx10
import Derived.Test.YtoljndjpnbdjmaaQcePx11
import Derived.Test.YtoljndjpnbdjmaaQcePx12
import Derived.Test.YtoljndjpnbdjmaaQcePx7
import Derived.Test.YtoljndjpnbdjmaaQcePx22
import Derived.Test.YtoljndjpnbdjmaaQcePx28
import Derived.Test.YtoljndjpnbdjmaaQcePx29
import Derived.Test.YtoljndjpnbdjmaaQcePx30
import Derived.Test.YtoljndjpnbdjmaaQcePx31
import Derived.Test.YtoljndjpnbdjmaaQcePx34
/- The reference's classes and order of any numbers: plain numbers. -/
namespace Go.Proofs.Ytoljndjpnbdjmaa.Round
open Go.RowKit Go.Proofs.Ytoljndjpnbdjmaa.P Go.Proofs.Ytoljndjpnbdjmaa.Num Go.Proofs.Ytoljndjpnbdjmaa.BitsF Go.Proofs.Ytoljndjpnbdjmaa.Fmt Go.Proofs.YtoljndjpnbdjmaaW.PrintWords Go.Proofs.YtoljndjpnbdjmaaW.PrintLast Go.Proofs.YtoljndjpnbdjmaaW.PrintMore

theorem mod_part (v a b c : Nat) (h : b + c ≤ a) : v % 2 ^ a / 2 ^ b % 2 ^ c = v / 2 ^ b % 2 ^ c := by
  apply Nat.eq_of_testBit_eq
  intro i
  rw [Nat.testBit_mod_two_pow, Nat.testBit_mod_two_pow, Nat.testBit_div_two_pow, Nat.testBit_div_two_pow, Nat.testBit_mod_two_pow]
  by_cases h1 : i < c
  · have : i + b < a := by omega
    simp [h1, this]
  · simp [h1]
theorem neg_low (f : Int) (v : Nat) : negN f (lowN f v) = negN f v := by
  unfold negN lowN
  have := mod_part v (fe f + fm f + 1) (fe f + fm f) 1 (Nat.le_refl _)
  rw [Nat.pow_one] at this
  rw [this]
theorem exp_low (f : Int) (v : Nat) : expN f (lowN f v) = expN f v := mod_part v (fe f + fm f + 1) (fm f) (fe f) (by omega)
theorem frac_low (f : Int) (v : Nat) : fracN f (lowN f v) = fracN f v := by
  have := mod_part v (fe f + fm f + 1) 0 (fm f) (by omega)
  rw [Nat.pow_zero, Nat.div_one, Nat.div_one] at this
  exact this
theorem cls_low (f : Int) (v : Nat) : clsN f (lowN f v) = clsN f v := by unfold clsN; rw [exp_low, frac_low]
theorem whole_low (f : Int) (v : Nat) : wholeN f (lowN f v) = wholeN f v := by unfold wholeN; rw [exp_low, frac_low]
theorem lowest_low (f : Int) (v : Nat) : lowestN f (lowN f v) = lowestN f v := by unfold lowestN; rw [exp_low]

theorem rclass_ev (f : Int) (v : Nat) (hv : v < 4294967296) : Ev (fun k => annealref1_Class.f k f (v : Int)) (clsN f v : Int) := by
  have := ref_class_ev f v hv; rw [cls_low] at this; exact this
theorem rneg_f (f : Int) (v : Nat) (hv : v < 4294967296) : annealref1_neg.f f (v : Int) = some (negN f v) := by rw [ref_neg_f f v hv, neg_low]
def isNan (f : Int) (v : Nat) : Bool := decide (4 ≤ clsN f v)
def isLoud (f : Int) (v : Nat) : Bool := decide (clsN f v = 5)
theorem cls_le (f : Int) (v : Nat) : clsN f v ≤ 5 := by
  unfold clsN
  repeat' split
  all_goals omega
theorem nans_step (f : Int) (L : List Int) (i v : Nat) (b c : Bool) (r : Bool × Bool) (hi : i < L.length) (hn : L.length ≤ 100) (hv : v < 4294967296) (hr : rd L (i : Int) = (v : Int))
    (h : Ev (fun k => annealref1_nans.l0 k f L (b || isNan f v) (c || isLoud f v) ((i + 1 : Nat) : Int)) r) : Ev (fun k => annealref1_nans.l0 k f L b c (i : Int)) r := by
  have hw : wrap64 ((i : Int) + 1) = ((i + 1 : Nat) : Int) := by rw [w64_id _ (by omega) (by omega)]; omega
  have hc := cls_le f v
  refine Ev.step (fun k => by rw [annealref1_nans.l0, if_pos (by omega), if_pos (Int.natCast_nonneg _), hr, hw]) (Ev.bind (rclass_ev f v hv) (Ev.congr (fun k => ?_) h))
  have e5 : (((clsN f v : Nat) : Int) == 5) = isLoud f v := by rw [show (5 : Int) = ((5 : Nat) : Int) from rfl, beq_nn]; rfl
  rw [e5]
  cases b
  · by_cases c4 : clsN f v = 4
    · have n4 : isNan f v = true := by unfold isNan; rw [c4]; rfl
      rw [if_neg (by decide), if_pos (by omega), n4]
      cases c <;> simp
    · have n4 : isNan f v = isLoud f v := by unfold isNan isLoud; apply decide_eq_decide.mpr; omega
      rw [if_neg (by decide), if_neg (by omega), n4]
      cases c <;> simp
  · cases c <;> simp
theorem nans_end (f : Int) (L : List Int) (b c : Bool) : Ev (fun k => annealref1_nans.l0 k f L b c (L.length : Int)) (b, c) :=
  Ev.step (fun k => by rw [annealref1_nans.l0, if_neg (by omega)]) (Ev.now _)
theorem nans1_ev (f : Int) (v : Nat) (hv : v < 4294967296) : Ev (fun k => annealref1_nans.f k f [(v : Int)]) (isNan f v, isLoud f v) := by
  refine Ev.congr (fun k => by unfold annealref1_nans.f; rfl) (nans_step f _ 0 v false false _ (by simp) (by simp) hv rfl ?_)
  rw [Bool.false_or, Bool.false_or]
  exact nans_end f [(v : Int)] _ _
/-- How two numbers stand to one another. -/
def cmpN (f : Int) (a b : Nat) : Int × Bool :=
  if (isNan f a || isNan f b) = true then (0, false) else if clsN f a = 0 ∧ clsN f b = 0 then (0, true)
  else if placeN f (lowN f a) < placeN f (lowN f b) then (-1, true) else if placeN f (lowN f a) > placeN f (lowN f b) then (1, true) else (0, true)
end Go.Proofs.Ytoljndjpnbdjmaa.Round

/- The reference's finite numbers: their whole numbers and exponents. -/
namespace Go.Proofs.Ytoljndjpnbdjmaa.Round
open Go.RowKit Go.Proofs.Ytoljndjpnbdjmaa.P Go.Proofs.Ytoljndjpnbdjmaa.Num Go.Proofs.Ytoljndjpnbdjmaa.BitsF Go.Proofs.Ytoljndjpnbdjmaa.Fmt Go.Proofs.YtoljndjpnbdjmaaW.PrintWords Go.Proofs.YtoljndjpnbdjmaaW.PrintLast Go.Proofs.YtoljndjpnbdjmaaW.PrintMore

theorem ref_unpack_ev (f : Int) (v : Nat) (hv : v < 4294967296) (h : expN f (lowN f v) < topN f) :
    Ev (fun k => annealref1_Unpack.f k f (v : Int)) (negN f (lowN f v), lowestN f (lowN f v), (wholeN f (lowN f v) : Int)) := by
  obtain ⟨b1, b2, b3, b4, b5⟩ := fbounds f
  have hfr := frac_lt f (lowN f v)
  have hls := least_cases f
  have htp := top_cases f
  obtain ⟨K, hK⟩ := ref_class_ev f v hv
  refine ⟨K, fun k hk => ?_⟩
  show annealref1_Unpack.f k f (v : Int) = _
  unfold annealref1_Unpack.f
  rw [ref_widths_f, ref_parts_f f v hv, show annealref1_Class.f k f (v : Int) = _ from hK k hk, ref_bias_f]
  simp only [Option.bind_some]
  unfold lowestN wholeN clsN
  generalize expN f (lowN f v) = e at *
  generalize fracN f (lowN f v) = m at *
  by_cases c : e = 0
  · subst c
    have e1 : wrap64 ((wrap64 (1 - (1 - leastN f))) - (fm f : Int)) = leastN f - fm f + ((0 - 1 : Nat) : Int) := by
      rw [w64_id (1 - (1 - leastN f)) (by omega) (by omega), w64_id _ (by omega) (by omega)]; omega
    rw [e1]
    by_cases c2 : m = 0
    · subst c2; rfl
    · simp only [if_true, if_neg c2]; rfl
  · rw [if_neg c, if_pos h, if_neg c]
    have e1 : wrap64 ((wrap64 ((e : Int) - (1 - leastN f))) - (fm f : Int)) = leastN f - fm f + ((e - 1 : Nat) : Int) := by
      rw [w64_id ((e : Int) - (1 - leastN f)) (by omega) (by omega), w64_id _ (by omega) (by omega)]; omega
    rw [e1, or_top m _ hfr (by omega), if_pos (by rfl), if_pos (by omega)]
end Go.Proofs.Ytoljndjpnbdjmaa.Round

/- The program's parts of a number, its class, its whole number and exponent: as plain numbers; the reference's are the same. -/
namespace Go.Proofs.Ytoljndjpnbdjmaa.Round
open Go.RowKit Go.Proofs.Ytoljndjpnbdjmaa.P Go.Proofs.Ytoljndjpnbdjmaa.Num Go.Proofs.Ytoljndjpnbdjmaa.BitsF Go.Proofs.Ytoljndjpnbdjmaa.Fmt Go.Proofs.YtoljndjpnbdjmaaW.PrintWords Go.Proofs.YtoljndjpnbdjmaaW.PrintLast Go.Proofs.YtoljndjpnbdjmaaW.PrintMore

theorem sum_w (f : Int) : IntKind.u64.wrap (wrap64 ((fe f : Int) + (fm f : Int))) = ((fe f + fm f : Nat) : Int) := by
  have h := fbounds f
  rw [show (fe f : Int) + (fm f : Int) = ((fe f + fm f : Nat) : Int) by omega, wu _ (by omega)]
theorem parts_f (f : Int) (v : Nat) (hv : v < 4294967296) : format_Parts.f f (v : Int) = some (negN f v, (expN f v : Int), (fracN f v : Int)) := by
  unfold format_Parts.f
  have h := fbounds f
  have hd : v / 2 ^ (fe f + fm f) < 4294967296 := Nat.lt_of_le_of_lt (Nat.div_le_self _ _) hv
  have hd' : v / 2 ^ fm f < 4294967296 := Nat.lt_of_le_of_lt (Nat.div_le_self _ _) hv
  rw [widths_f, Option.bind_some]
  dsimp only
  rw [sum_w, u64_id (fm f) (by omega), u64_id (fe f) (by omega), if_pos (Int.natCast_nonneg _), if_pos (Int.natCast_nonneg _), if_pos (Int.natCast_nonneg _), shr_u32 _ _ hv, shr_u32 _ _ hv, and1_u32 _ hd, mask_u32 _ _ hd' (by omega), mask_u32 _ _ hv (by omega), small_w64 _ _ (by omega)]
  rw [show (1 : Int) = ((1 : Nat) : Int) from rfl, beq_nn]
  unfold negN expN fracN
  exact Eq.refl _
theorem class_j0 (k : Nat) (f : Int) (e m : Nat) (he : e ≤ topN f) (hm : m < 2 ^ fm f) (hz : ¬ (e = 0 ∧ m = 0)) :
    format_Class.j0 (k + 1) f (fm f : Int) (e : Int) (m : Int) false = some (((if e = 0 then (if m = 0 then 0 else 1) else if e < topN f then 2 else if m = 0 then 3 else if m / 2 ^ (fm f - 1) = 1 then 4 else 5 : Nat)) : Int) := by
  have h := fbounds f
  have h31 := pow_le31 (show fm f ≤ 31 by omega)
  rw [format_Class.j0, if_neg (by decide)]
  by_cases c : e = 0
  · subst c
    rw [if_pos (by rfl), if_pos rfl, if_neg (fun h => hz ⟨rfl, h⟩)]; rfl
  · rw [if_neg (by omega), if_neg c, top_f, Option.bind_some]
    by_cases c2 : e < topN f
    · rw [if_pos (by omega), if_pos c2]; rfl
    · rw [if_neg (by omega), if_neg c2]
      by_cases c3 : m = 0
      · rw [if_pos (by omega), if_pos c3]; rfl
      · rw [if_neg (by omega), if_neg c3, show (fm f : Int) - 1 = ((fm f - 1 : Nat) : Int) by omega, wu _ (by omega), if_pos (Int.natCast_nonneg _), shr_u32 _ _ (by omega)]
        by_cases c4 : m / 2 ^ (fm f - 1) = 1
        · rw [if_pos (by rw [c4]; rfl), if_pos c4]; rfl
        · rw [if_neg (by omega), if_neg c4]; rfl
theorem class_ev (f : Int) (v : Nat) (hv : v < 4294967296) : Ev (fun k => format_Class.f k f (v : Int)) (clsN f v : Int) := by
  have he := exp_le f v
  have hm := frac_lt f v
  refine ⟨1, fun k hk => ?_⟩
  obtain ⟨k, rfl⟩ : ∃ j, k = j + 1 := ⟨k - 1, by omega⟩
  show format_Class.f (k + 1) f (v : Int) = _
  unfold format_Class.f clsN
  rw [widths_f, Option.bind_some, parts_f f v hv, Option.bind_some]
  dsimp only
  generalize expN f v = e at *
  generalize fracN f v = m at *
  by_cases c : e = 0 ∧ m = 0
  · obtain ⟨rfl, rfl⟩ := c
    rw [if_pos (by rfl), format_Class.j0, if_pos (by rfl), if_pos rfl, if_pos rfl]; rfl
  · by_cases c2 : e = 0
    · have e2 : (((m : Int) == 0) : Bool) = false := by simp; omega
      rw [if_pos (by omega), e2, class_j0 k f e m he hm c]
    · rw [if_neg (by omega), class_j0 k f e m he hm c]
theorem neg_f (f : Int) (v : Nat) (hv : v < 4294967296) : format_Neg.f f (v : Int) = some (negN f v) := by
  unfold format_Neg.f; rw [parts_f f v hv]; rfl
/-- The plain one that is no number. -/
def nanN (f : Int) : Nat := topN f * 2 ^ fm f + 2 ^ (fm f - 1)
theorem half_frac (f : Int) : 2 ^ (fm f - 1) < 2 ^ fm f := by
  have h := fbounds f
  exact Nat.pow_lt_pow_right (by decide) (by omega)
theorem nan_f (f : Int) : format_Nan.f f = some (nanN f : Int) := by
  unfold format_Nan.f
  have h := fbounds f
  rw [widths_f, Option.bind_some, top_f, Option.bind_some]
  dsimp only
  rw [show (fm f : Int) - 1 = ((fm f - 1 : Nat) : Int) by omega, wu _ (by omega), if_pos (Int.natCast_nonneg _), one_shl _ (by omega), join_f f false _ _ (Nat.le_refl _) (half_frac f), Option.bind_some]
  unfold joinN nanN
  simp [signN]
theorem bad_f (f : Int) : sum_Bad.f f = some ((nanN f : Int), true, false, false, false, false) := by
  unfold sum_Bad.f; rw [nan_f]; rfl
theorem ref_nan_f (f : Int) : annealref1_Nan.f f = some (nanN f : Int) := by
  unfold annealref1_Nan.f
  have h := fbounds f
  obtain ⟨hi, _⟩ := inf_lt f false
  have hh := half_frac f
  have h31 := pow_le31 (show fm f ≤ 31 by omega)
  rw [ref_widths_f, Option.bind_some, ref_inf_f, Option.bind_some]
  dsimp only
  rw [show (fm f : Int) - 1 = ((fm f - 1 : Nat) : Int) by omega, w64_id _ (by omega) (by omega), if_pos (Int.natCast_nonneg _), one_shl _ (by omega), or_u32 _ _ hi (by omega)]
  unfold infN nanN
  rw [show signN f false = 0 from rfl, Nat.add_zero, or_add _ _ (fm f) (Nat.mul_mod_left ..) hh]
theorem unpack_f (f : Int) (v : Nat) (hv : v < 4294967296) (h : expN f v < topN f) : format_Unpack.f f (v : Int) = some (negN f v, lowestN f v, (wholeN f v : Int)) := by
  unfold format_Unpack.f lowestN wholeN
  obtain ⟨b1, b2, b3, b4, b5⟩ := fbounds f
  have hm := frac_lt f v
  have h31 := pow_le31 (show fm f ≤ 31 by omega)
  have hl := least_cases f
  have ht := top_cases f
  rw [widths_f, Option.bind_some, parts_f f v hv, Option.bind_some]
  dsimp only
  generalize expN f v = e at *
  generalize fracN f v = m at *
  by_cases c : e = 0
  · subst c
    rw [if_pos (by rfl), least_f, Option.bind_some, if_pos rfl, w64_id (leastN f - fm f) (by omega) (by omega), u64_id m (by omega)]
    simp
  · rw [if_neg (by omega), top_f, Option.bind_some, if_neg (by omega), least_f, Option.bind_some, if_neg c, u64_id (fm f) (by omega), if_pos (Int.natCast_nonneg _), u64_id m (by omega), or_top m _ hm (by omega), w64_id (leastN f - fm f) (by omega) (by omega), w64_id (leastN f - fm f + e) (by omega) (by omega), w64_id _ (by omega) (by omega), show leastN f - (fm f : Int) + (e : Int) - 1 = leastN f - fm f + ((e - 1 : Nat) : Int) by omega]
theorem of_f (f : Int) (v : Nat) (hv : v < 4294967296) (h : expN f v < topN f) : sum_Of.f f (v : Int) = some (negN f v, lowestN f v, (wholeN f v : Int), false) := by
  unfold sum_Of.f; rw [unpack_f f v hv h]; rfl

theorem runpack_ev (f : Int) (v : Nat) (hv : v < 4294967296) (h : expN f v < topN f) : Ev (fun k => annealref1_Unpack.f k f (v : Int)) (negN f v, lowestN f v, (wholeN f v : Int)) := by
  have := ref_unpack_ev f v hv (by rw [exp_low]; exact h); rw [neg_low, lowest_low, whole_low] at this; exact this
theorem rinf_ev (f : Int) (v : Nat) (hv : v < 4294967296) : Ev (fun k => annealref1_inf.f k f (v : Int)) (decide (clsN f v = 3)) := by
  refine Ev.congr (fun k => by unfold annealref1_inf.f; rfl) (Ev.bind (rclass_ev f v hv) (Ev.congr (fun k => ?_) (Ev.now _)))
  rw [show (3 : Int) = ((3 : Nat) : Int) from rfl, beq_nn]
end Go.Proofs.Ytoljndjpnbdjmaa.Round

/- The reference's loops of layer 1: how many bits, shifts. -/
namespace Go.Proofs.Ytoljndjpnbdjmaa.BitsF
open Go.RowKit Go.Proofs.Ytoljndjpnbdjmaa.P Go.Proofs.Ytoljndjpnbdjmaa.Num Go.Proofs.YtoljndjpnbdjmaaW.PrintWords Go.Proofs.YtoljndjpnbdjmaaW.PrintLast Go.Proofs.YtoljndjpnbdjmaaW.PrintMore

/-! ### the reference's loops -/
theorem ref_len_l0 (j : Nat) : ∀ v c k : Nat, v < 2 ^ j → c + j ≤ 64 → annealref1_Len.l0 (j + 1 + k) (v : Int) (c : Int) = some ((c + lenN v : Nat) : Int) := by
  induction j with
  | zero =>
    intro v c k h _
    obtain rfl : v = 0 := by rw [Nat.pow_zero] at h; omega
    rw [show 0 + 1 + k = k + 1 by omega, annealref1_Len.l0, if_neg (by decide)]; rfl
  | succ j ih =>
    intro v c k h hc
    rw [show j + 1 + 1 + k = (j + 1 + k) + 1 by omega, annealref1_Len.l0]
    by_cases hv : v = 0
    · subst hv; rw [if_neg (by decide)]; rfl
    · rw [if_pos (by omega), show (v : Int) / 2 = ((v / 2 : Nat) : Int) by omega, w64_id _ (by omega) (by omega), show (c : Int) + 1 = ((c + 1 : Nat) : Int) by omega, ih _ _ k (by rw [Nat.pow_succ] at h; omega) (by omega), lenN_half v hv]
      congr 2; omega
theorem ref_len_ev (v : Nat) (hv : v < 18446744073709551616) : Ev (fun k => annealref1_Len.f k (v : Int)) (lenN v : Int) :=
  Ev.of (annealref1_Len.mono _) (k := 65) (by
    have h := ref_len_l0 64 v 0 0 (by omega) (by decide)
    rw [Nat.zero_add, show 64 + 1 + 0 = 65 from rfl] at h
    unfold annealref1_Len.f
    exact h)
theorem half_pow (v j : Nat) : v / 2 / 2 ^ j = v / 2 ^ (j + 1) := by rw [Nat.div_div_eq_div_mul, Nat.pow_succ, Nat.mul_comm 2]
theorem out_right (v j : Nat) : (decide (v % 2 ≠ 0) || decide (v / 2 % 2 ^ j ≠ 0)) = decide (v % 2 ^ (j + 1) ≠ 0) := by
  have e : v % 2 ^ (j + 1) = v % 2 + 2 * (v / 2 % 2 ^ j) := by rw [Nat.pow_succ, Nat.mul_comm, Nat.mod_mul]
  rw [← Bool.decide_or]
  congr 1; apply propext
  have hz : ∀ z : Nat, v / 2 % 2 ^ j = z → (v % 2 ≠ 0 ∨ z ≠ 0 ↔ v % 2 + 2 * z ≠ 0) := by intro z _; omega
  rw [e]; exact hz _ rfl
theorem ref_shift_l1 (j : Nat) : ∀ (v k : Nat) (b : Bool), v < 18446744073709551616 → j ≤ 64 →
    annealref1_Shift.l1 (j + 1 + k) (v : Int) (-(j : Int)) b = some (((v * 2 ^ j % 18446744073709551616 : Nat) : Int), b || decide (18446744073709551616 ≤ v * 2 ^ j)) := by
  induction j with
  | zero =>
    intro v k b hv _
    rw [show 0 + 1 + k = k + 1 by omega, annealref1_Shift.l1, if_neg (by decide), Nat.pow_zero, Nat.mul_one, Nat.mod_eq_of_lt hv, decide_eq_false (by omega), Bool.or_false]
  | succ j ih =>
    intro v k b hv hj
    have e1 : wrap64 (-((j + 1 : Nat) : Int) + 1) = -(j : Int) := by rw [w64_id] <;> omega
    have e2 : IntKind.u64.wrap ((v : Int) * 2) = ((v * 2 % 18446744073709551616 : Nat) : Int) := by rw [show (v : Int) * 2 = ((v * 2 : Nat) : Int) by omega, u64_nat]
    have e3 : (((v : Int) / 9223372036854775808 == 1) : Bool) = decide (9223372036854775808 ≤ v) := by
      by_cases h : 9223372036854775808 ≤ v
      · rw [decide_eq_true h, beq_iff_eq]; omega
      · rw [decide_eq_false h, beq_eq_false_iff_ne]; omega
    have e4 : v * 2 % 18446744073709551616 * 2 ^ j % 18446744073709551616 = v * 2 ^ (j + 1) % 18446744073709551616 := by
      rw [Nat.mod_mul_mod, Nat.mul_assoc, ← Nat.pow_succ']
    have e5 : ∀ b : Bool, ((b || decide (9223372036854775808 ≤ v)) || decide (18446744073709551616 ≤ v * 2 % 18446744073709551616 * 2 ^ j)) = (b || decide (18446744073709551616 ≤ v * 2 ^ (j + 1))) := by
      intro b
      rw [Bool.or_assoc, ← Bool.decide_or]
      congr 2
      apply propext
      rw [show v * 2 ^ (j + 1) = v * 2 * 2 ^ j by rw [Nat.mul_assoc, ← Nat.pow_succ']]
      have hp := Nat.two_pow_pos j
      constructor
      · rintro (h | h)
        · calc 18446744073709551616 ≤ v * 2 * 1 := by omega
            _ ≤ v * 2 * 2 ^ j := Nat.mul_le_mul_left _ hp
        · exact Nat.le_trans h (Nat.mul_le_mul_right _ (Nat.mod_le _ _))
      · intro h
        by_cases h' : 9223372036854775808 ≤ v
        · exact .inl h'
        · right; rw [Nat.mod_eq_of_lt (by omega)]; exact h
    rw [show j + 1 + 1 + k = (j + 1 + k) + 1 by omega, annealref1_Shift.l1, if_pos (by omega), e1, e2, e3]
    by_cases hb : b = true
    · subst hb
      rw [if_pos rfl, ih _ k true (Nat.mod_lt _ (by decide)) (by omega), e4]
      simp only [Bool.true_or]
    · rw [if_neg hb, ih _ k _ (Nat.mod_lt _ (by decide)) (by omega), e4]
      have : b = false := by simpa using hb
      subst this
      have := e5 false
      simp only [Bool.false_or] at this ⊢
      rw [this]
theorem ref_shift_l0 (j : Nat) : ∀ (v k : Nat) (b : Bool), v < 18446744073709551616 → j ≤ 64 →
    annealref1_Shift.l0 (j + 2 + k) (v : Int) (j : Int) b = some (((v / 2 ^ j : Nat) : Int), b || decide (v % 2 ^ j ≠ 0)) := by
  induction j with
  | zero =>
    intro v k b hv _
    have h := ref_shift_l1 0 v k b hv (by decide)
    rw [show 0 + 2 + k = (0 + 1 + k) + 1 by omega, annealref1_Shift.l0, if_neg (by decide), show ((0 : Nat) : Int) = -((0 : Nat) : Int) by rfl, h]
    simp [Nat.mod_one]; omega
  | succ j ih =>
    intro v k b hv hj
    have e1 : wrap64 (((j + 1 : Nat) : Int) - 1) = (j : Int) := by rw [w64_id] <;> omega
    have e3 : ((Go.bits .and .u64 (v : Int) 1 == 1) : Bool) = decide (v % 2 ≠ 0) := by
      rw [and1_u64 v hv]
      by_cases h : v % 2 ≠ 0
      · rw [decide_eq_true h, beq_iff_eq]; omega
      · rw [decide_eq_false h, beq_eq_false_iff_ne]; omega
    rw [show j + 1 + 2 + k = (j + 2 + k) + 1 by omega, annealref1_Shift.l0, if_pos (by omega), e1, e3, show (v : Int) / 2 = ((v / 2 : Nat) : Int) by omega]
    have o := out_right v j
    by_cases hb : b = true
    · subst hb
      rw [if_pos rfl, ih _ k true (by omega) (by omega), half_pow]
      simp only [Bool.true_or]
    · rw [if_neg hb, ih _ k _ (by omega) (by omega), half_pow, o]
      have : b = false := by simpa using hb
      subst this
      rfl
theorem ref_shift_ev (v : Nat) (hv : v < 18446744073709551616) (n : Int) :
    Ev (fun k => annealref1_Shift.f k (v : Int) n) ((((shiftN v n).1 : Nat) : Int), (shiftN v n).2) := by
  refine Ev.of (annealref1_Shift.mono _ _) (k := 67) ?_
  unfold annealref1_Shift.f
  by_cases c : 0 ≤ n
  · obtain ⟨m, rfl⟩ := nat_of c
    have e : mn (mx (m : Int) (-64)) 64 = ((min m 64 : Nat) : Int) := by unfold mn mx; split <;> split <;> omega
    have h := ref_shift_l0 (min m 64) v (65 - min m 64) false hv (by omega)
    rw [show min m 64 + 2 + (65 - min m 64) = 67 by omega] at h
    rw [e, h, shiftN_right]
    by_cases c' : m ≤ 64
    · rw [Nat.min_eq_left c']; rfl
    · have b1 := pow_big (show 64 ≤ m by omega)
      rw [Nat.min_eq_right (by omega), Nat.div_eq_of_lt (show v < 2 ^ 64 by omega), Nat.mod_eq_of_lt (show v < 2 ^ 64 by omega), Nat.div_eq_of_lt (show v < 2 ^ m by omega), Nat.mod_eq_of_lt (show v < 2 ^ m by omega)]; rfl
  · obtain ⟨m, hm⟩ := nat_of (show 0 ≤ -n by omega)
    obtain rfl : n = -(m : Int) := by omega
    have e : mn (mx (-(m : Int)) (-64)) 64 = -((min m 64 : Nat) : Int) := by unfold mn mx; split <;> split <;> omega
    have h := ref_shift_l1 (min m 64) v (65 - min m 64) false hv (by omega)
    rw [show min m 64 + 1 + (65 - min m 64) = 66 by omega] at h
    rw [e, annealref1_Shift.l0, if_neg (by omega), h, shiftN_left _ _ hv]
    by_cases c' : m ≤ 64
    · rw [Nat.min_eq_left c']; rfl
    · rw [Nat.min_eq_right (by omega)]
      have b1 := pow_big (show 64 ≤ m by omega)
      have e : (2 : Nat) ^ m = 18446744073709551616 * 2 ^ (m - 64) := by rw [show 18446744073709551616 = 2 ^ 64 from rfl, ← Nat.pow_add]; congr 1; omega
      have e1 : v * 2 ^ m % 18446744073709551616 = 0 := by rw [e, ← Nat.mul_assoc, Nat.mul_comm v, Nat.mul_assoc, Nat.mul_mod_right]
      rw [e1, show v * 2 ^ 64 % 18446744073709551616 = 0 by omega, Bool.false_or]
      congr 2
      apply decide_eq_decide.mpr
      constructor
      · intro h1
        have : v ≠ 0 := by intro h0; subst h0; omega
        exact Nat.le_trans b1 (Nat.le_mul_of_pos_left _ (by omega))
      · intro h1
        have : v ≠ 0 := by intro h0; subst h0; omega
        omega
end Go.Proofs.Ytoljndjpnbdjmaa.BitsF

/- What the reference's rounding computes: the same plain numbers. -/
namespace Go.Proofs.Ytoljndjpnbdjmaa.Round
open Go.RowKit Go.Proofs.Ytoljndjpnbdjmaa.P Go.Proofs.Ytoljndjpnbdjmaa.Num Go.Proofs.Ytoljndjpnbdjmaa.BitsF Go.Proofs.Ytoljndjpnbdjmaa.Fmt Go.Proofs.YtoljndjpnbdjmaaW.PrintWords Go.Proofs.YtoljndjpnbdjmaaW.PrintLast Go.Proofs.YtoljndjpnbdjmaaW.PrintMore

theorem ref_greatest_f (f : Int) (neg : Bool) : annealref1_Greatest.f f neg = some (greatN f neg : Int) := by
  unfold annealref1_Greatest.f greatN
  obtain ⟨hi, _⟩ := inf_lt f neg
  have ht := top_cases f
  have hp := Nat.two_pow_pos (fm f)
  have : 0 < topN f * 2 ^ fm f := Nat.mul_pos (by omega) hp
  rw [ref_inf_f]; simp only [Option.bind_some]
  unfold infN at *
  congr 1; omega
theorem ref_divide_f (s : Nat) (hs : s < 18446744073709551616) (d : Int) (h1 : -100000 ≤ d) (h2 : d ≤ 100000) (hq : d ≤ 0 → s * 2 ^ (-d).toNat < 18446744073709551616) :
    Ev (fun k => annealref1_divide.f k (s : Int) d) ((quoN s d : Int), decide (2 ≤ leftN s d false), decide (leftN s d false = 1 ∨ leftN s d false = 3)) := by
  unfold annealref1_divide.f
  by_cases c : d ≤ 0
  · obtain ⟨m, hm⟩ := nat_of (show 0 ≤ -d by omega)
    have e : mn (wrap64 (-d)) 63 = ((min m 63 : Nat) : Int) := by rw [w64_id _ (by omega) (by omega), hm]; unfold mn; split <;> omega
    simp only [if_pos c, e, if_pos (show 0 ≤ ((min m 63 : Nat) : Int) by omega), left_none false (.inl c)]
    have hq' := hq c
    rw [hm, Int.toNat_natCast] at hq'
    have e2 : IntKind.u64.wrap ((s : Int) * 2 ^ ((min m 63 : Nat) : Int).toNat) = (quoN s d : Int) := by
      rw [Int.toNat_natCast, show (s : Int) * 2 ^ (min m 63) = ((s * 2 ^ (min m 63) : Nat) : Int) by simp, u64_nat]
      unfold quoN; rw [if_pos c, hm, Int.toNat_natCast]
      by_cases z : s = 0
      · subst z; simp
      · have : m ≤ 63 := by
          rcases Nat.lt_or_ge 63 m with h | h
          · have := pow_big (show 64 ≤ m by omega)
            have : 2 ^ m ≤ s * 2 ^ m := Nat.le_mul_of_pos_left _ (by omega)
            omega
          · exact h
        rw [Nat.min_eq_left this, Nat.mod_eq_of_lt hq']
    rw [e2]
    exact Ev.now _
  · obtain ⟨m, rfl⟩ := nat_of (show 0 ≤ d by omega)
    have hqe : quoN s (m : Int) = s / 2 ^ m := by unfold quoN; rw [if_neg c, Int.toNat_natCast]
    rw [hqe]
    simp only [if_neg c]
    by_cases c' : (m : Int) > 64
    · simp only [if_pos c']
      have hb := pow_big (show 64 ≤ m - 1 by omega)
      have hb2 := pow_big (show 64 ≤ m by omega)
      have hl : leftN s (m : Int) false = if s = 0 then 0 else 1 := by
        by_cases z : s = 0
        · subst z; rw [left_none _ (.inr (by simp))]; rfl
        · rw [left_some _ c (by rw [Int.toNat_natCast, Nat.mod_eq_of_lt (by omega)]; exact z), Int.toNat_natCast, Nat.div_eq_of_lt (show s < 2 ^ (m - 1) by omega), if_neg z]; rfl
      rw [Nat.div_eq_of_lt (show s < 2 ^ m by omega), hl, show (0 : Int) = ((0 : Nat) : Int) from rfl, bne_cast]
      by_cases z : s = 0
      · subst z; exact Ev.now _
      · rw [if_neg z, decide_eq_true z]; exact Ev.now _
    · have e : wrap64 ((m : Int) - 1) = ((m - 1 : Nat) : Int) := by rw [w64_id] <;> omega
      simp only [if_neg c', e]
      have hd : s / 2 ^ (m - 1) < 18446744073709551616 := Nat.lt_of_le_of_lt (Nat.div_le_self _ _) hs
      have s1 := ref_shift_ev s hs (m : Int)
      have s2 := ref_shift_ev s hs ((m - 1 : Nat) : Int)
      rw [shiftN_right] at s1 s2
      refine Ev.bind s1 (Ev.bind s2 (Ev.bind s2 ?_))
      rw [and1_u64 _ hd]
      have em : s % 2 ^ m = s % 2 ^ (m - 1) + 2 ^ (m - 1) * (s / 2 ^ (m - 1) % 2) := by
        rw [show m = m - 1 + 1 by omega, Nat.pow_succ, Nat.mod_mul, Nat.add_sub_cancel]
      have hb1 : (((s / 2 ^ (m - 1) % 2 : Nat) : Int) == 1) = decide (2 ≤ leftN s (m : Int) false) ∧ decide (s % 2 ^ (m - 1) ≠ 0) = decide (leftN s (m : Int) false = 1 ∨ leftN s (m : Int) false = 3) := by
        have hp := Nat.two_pow_pos (m - 1)
        by_cases z : s % 2 ^ m = 0
        · rw [left_none _ (.inr (by rw [Int.toNat_natCast]; exact z))]
          rw [z] at em
          have z1 : s % 2 ^ (m - 1) = 0 := by omega
          have z2 : s / 2 ^ (m - 1) % 2 = 0 := by
            have : 2 ^ (m - 1) * (s / 2 ^ (m - 1) % 2) = 0 := by omega
            rcases Nat.mul_eq_zero.mp this with h | h
            · omega
            · exact h
          rw [z1, z2]; exact ⟨rfl, rfl⟩
        · rw [left_some _ c (by rw [Int.toNat_natCast]; exact z), Int.toNat_natCast]
          have hb : s / 2 ^ (m - 1) % 2 = 0 ∨ s / 2 ^ (m - 1) % 2 = 1 := by omega
          rcases hb with hb | hb
          · rw [hb, Nat.mul_zero, Nat.add_zero] at em
            rw [em] at z
            rw [hb, decide_eq_true z]; exact ⟨rfl, rfl⟩
          · rw [hb, if_neg (by decide)]
            by_cases w : s % 2 ^ (m - 1) = 0
            · rw [w]; exact ⟨rfl, rfl⟩
            · rw [if_pos (.inl w), decide_eq_true w]; exact ⟨rfl, rfl⟩
      simp only [hb1.1, hb1.2]
      exact Ev.now _
theorem left_more (s : Nat) (d : Int) : decide (2 ≤ leftN s d true) = decide (2 ≤ leftN s d false) ∧ (leftN s d true = 1 ∨ leftN s d true = 3) := by
  by_cases c : d ≤ 0 ∨ s % 2 ^ d.toNat = 0
  · rw [left_none _ c, left_none _ c]; simp
  · have c' := not_or.mp c
    rw [left_some _ c'.1 c'.2, left_some _ c'.1 c'.2]
    split
    · simp
    · simp; split <;> simp
theorem ref_up_f (mode : Int) (neg : Bool) (q left : Nat) (h : left ≤ 3) : annealref1_up.f mode neg (decide (q % 2 = 1)) (decide (2 ≤ left)) (decide (left = 1 ∨ left = 3)) = some (upN mode neg q left) := by
  unfold annealref1_up.f upN
  have hl : left = 0 ∨ left = 1 ∨ left = 2 ∨ left = 3 := by omega
  by_cases m1 : mode = 1
  · rw [if_pos m1, if_pos m1]
  · rw [if_neg m1, if_neg m1]
    by_cases m2 : mode = 2
    · rw [if_pos m2, if_pos m2]; rcases hl with rfl | rfl | rfl | rfl <;> cases neg <;> rfl
    · rw [if_neg m2, if_neg m2]
      by_cases m3 : mode = 3
      · rw [if_pos m3, if_pos m3]; rcases hl with rfl | rfl | rfl | rfl <;> cases neg <;> rfl
      · rw [if_neg m3, if_neg m3]
        by_cases m4 : mode = 4
        · rw [if_pos m4, if_pos m4]
        · rw [if_neg m4, if_neg m4]
          rcases hl with rfl | rfl | rfl | rfl <;> simp
theorem ref_over_f (k : Nat) (f mode : Int) (neg : Bool) : annealref1_over.f (k + 1) f mode neg = some (((if endless mode neg then infN f neg else greatN f neg : Nat) : Int)) := by
  unfold annealref1_over.f endless
  simp only [annealref1_over.j0, ref_greatest_f, ref_inf_f, Option.bind_some]
  by_cases m1 : mode = 1
  · rw [if_pos m1, if_pos m1]; rfl
  · rw [if_neg m1, if_neg m1]
    by_cases m2 : mode = 2
    · rw [if_pos m2, if_pos m2]; subst m2; cases neg <;> rfl
    · rw [if_neg m2, if_neg m2]
      by_cases m3 : mode = 3
      · rw [if_pos m3, if_pos m3]; cases neg <;> rfl
      · rw [if_neg m3, if_neg m3]; rfl
end Go.Proofs.Ytoljndjpnbdjmaa.Round

/- The reference's rounding computes the same numbers as the program's. -/
namespace Go.Proofs.Ytoljndjpnbdjmaa.Round
open Go.RowKit Go.Proofs.Ytoljndjpnbdjmaa.P Go.Proofs.Ytoljndjpnbdjmaa.Num Go.Proofs.Ytoljndjpnbdjmaa.BitsF Go.Proofs.Ytoljndjpnbdjmaa.Fmt Go.Proofs.YtoljndjpnbdjmaaW.PrintWords Go.Proofs.YtoljndjpnbdjmaaW.PrintLast Go.Proofs.YtoljndjpnbdjmaaW.PrintMore

/-- A sign beside an amount. -/
theorem sign_or (f : Int) (neg : Bool) (v : Nat) (h : v < 2 ^ (fe f + fm f)) : Go.bits .or .u32 (signN f neg : Int) (v : Int) = ((v + signN f neg : Nat) : Int) ∧ v + signN f neg < 4294967296 := by
  obtain ⟨b1, b2, b3, b4, b5⟩ := fbounds f
  have h31 := pow_le31 b5
  unfold signN
  cases neg
  · simp only [Bool.false_eq_true, if_false]
    rw [or_u32 _ _ (by omega) (by omega), Nat.zero_or, Nat.add_zero]; exact ⟨rfl, by omega⟩
  · simp only [if_true]
    rw [or_u32 _ _ (by omega) (by omega), or_add _ _ (fe f + fm f) (by simp) h, Nat.add_comm]; exact ⟨rfl, by omega⟩
theorem ref_pack_j5 (k : Nat) (f mode : Int) (neg : Bool) (q U : Nat) (hU : U ≤ 10300) (hq : q < 2 ^ (fm f + 1)) (hq' : U ≠ 0 → 2 ^ fm f ≤ q) (K : Nat) (hK : K = U * 2 ^ fm f + q) (c0 c1 c2 c3 c4 : Bool) :
    annealref1_Pack.j5 (k + 2) f mode neg (fm f : Int) (leastN f - fm f + U) (q : Int) c0 c1 c2 c3 c4 = some
      ((((if overN f K then (if endless mode neg then topN f * 2 ^ fm f else topN f * 2 ^ fm f - 1) else K) + signN f neg : Nat) : Int),
        if overN f K then (false, false, true, false, true) else (c0, c1, c2, c3, c4)) ∧
    annealref1_Pack.j6 (k + 2) f mode neg (fm f : Int) (leastN f - fm f + U) (q : Int) c0 c1 c2 c3 c4 = some
      ((((if overN f K then (if endless mode neg then topN f * 2 ^ fm f else topN f * 2 ^ fm f - 1) else K) + signN f neg : Nat) : Int),
        if overN f K then (false, false, true, false, true) else (c0, c1, c2, c3, c4)) := by
  obtain ⟨b1, b2, b3, b4, b5⟩ := fbounds f
  have hl := least_cases f
  have hp := Nat.two_pow_pos (fm f)
  have hpe := Nat.two_pow_pos (fe f)
  have h31 := pow_le31 (show fm f + 1 ≤ 31 by omega)
  have h8 := pow_le31 (show fe f ≤ 31 by omega)
  have hsucc : 2 ^ (fm f + 1) = 2 * 2 ^ fm f := by rw [Nat.pow_succ, Nat.mul_comm]
  have ht := top_cases f
  obtain ⟨_, hte⟩ := inf_lt f neg
  have e1 : shl .u64 1 (fm f : Int) = ((2 ^ fm f : Nat) : Int) := by rw [show (1 : Int) = ((1 : Nat) : Int) from rfl, shl_u64, Nat.one_mul, Nat.mod_eq_of_lt (by omega)]
  have e2 : wrap64 (wrap64 (leastN f - (fm f : Int) + (U : Int) + (fm f : Int)) + (1 - leastN f)) = ((U + 1 : Nat) : Int) := by
    rw [w64_id (leastN f - (fm f : Int) + (U : Int) + (fm f : Int)) (by omega) (by omega), w64_id _ (by omega) (by omega)]; omega
  have e3 : wrap64 (shl .i64 1 (fe f : Int) - 1) = ((topN f : Nat) : Int) := by
    rw [one_shl_i64 _ (by omega), w64_id _ (by omega) (by omega)]; unfold topN; omega
  rw [annealref1_Pack.j5, annealref1_Pack.j6, if_pos (by omega), e1, ref_bias_f, ref_widths_f, ref_sign_f]
  simp only [Option.bind_some]
  rw [if_pos (show (0 : Int) ≤ (fe f : Int) by omega), e2, e3, ref_over_f]
  simp only [Option.bind_some]
  by_cases c : q < 2 ^ fm f
  · have hU0 : U = 0 := by
      rcases Nat.eq_zero_or_pos U with h | h
      · exact h
      · have := hq' (by omega); omega
    have ho : overN f K = false := by
      unfold overN
      rw [decide_eq_false_iff_not, hK, hU0]
      have : 1 * 2 ^ fm f ≤ topN f * 2 ^ fm f := Nat.mul_le_mul_right _ (by omega)
      omega
    obtain ⟨s1, s2⟩ := sign_or f neg q (by omega)
    rw [if_pos (show (q : Int) < ((2 ^ fm f : Nat) : Int) by omega), show (q : Int) % 4294967296 = (q : Int) by omega, s1, ho, hK, hU0]
    simp
  · rw [if_neg (show ¬ (q : Int) < ((2 ^ fm f : Nat) : Int) by omega)]
    have ho : ((U + 1 : Nat) : Int) ≥ (topN f : Int) ↔ overN f K = true := by
      unfold overN
      rw [decide_eq_true_iff, hK]
      constructor
      · intro h
        have : topN f * 2 ^ fm f ≤ (U + 1) * 2 ^ fm f := Nat.mul_le_mul_right _ (by omega)
        rw [Nat.add_mul, Nat.one_mul] at this; omega
      · intro h
        rcases Nat.lt_or_ge (U + 1) (topN f) with d | d
        · have : (U + 1 + 1) * 2 ^ fm f ≤ topN f * 2 ^ fm f := Nat.mul_le_mul_right _ d
          rw [Nat.add_mul, Nat.add_mul, Nat.one_mul] at this; omega
        · omega
    by_cases c' : ((U + 1 : Nat) : Int) ≥ (topN f : Int)
    · rw [if_pos c', ho.mp c']
      simp only [if_true]
      have : (if endless mode neg then infN f neg else greatN f neg) = (if endless mode neg then topN f * 2 ^ fm f else topN f * 2 ^ fm f - 1) + signN f neg := by
        unfold infN greatN; split <;> rfl
      rw [this]
      exact ⟨rfl, rfl⟩
    · rw [if_neg c']
      have co : overN f K = false := by simpa using fun h => c' (ho.mpr h)
      have hmul : (U + 1) * 2 ^ fm f + 2 ^ fm f ≤ 2 ^ (fe f + fm f) := by
        have : (U + 1) * 2 ^ fm f ≤ topN f * 2 ^ fm f := Nat.mul_le_mul_right _ (by omega)
        omega
      have h32 := pow_le31 b5
      have hm1 : q % 2 ^ fm f = q - 2 ^ fm f := by
        have h1 : q / 2 ^ fm f = 1 := Nat.div_eq_of_lt_le (by omega) (by omega)
        have := Nat.div_add_mod q (2 ^ fm f)
        rw [h1, Nat.mul_one] at this; omega
      have e4 : shl .u32 (((U + 1 : Nat) : Int) % 4294967296) (fm f : Int) = (((U + 1) * 2 ^ fm f : Nat) : Int) := by
        rw [show ((U + 1 : Nat) : Int) % 4294967296 = ((U + 1 : Nat) : Int) by omega, shl_u32, Nat.mod_eq_of_lt (by omega)]
      have e5 : Go.bits .and .u64 (q : Int) (IntKind.u64.wrap (((2 ^ fm f : Nat) : Int) - 1)) % 4294967296 = ((q % 2 ^ fm f : Nat) : Int) := by
        rw [show ((2 ^ fm f : Nat) : Int) - 1 = ((2 ^ fm f - 1 : Nat) : Int) by omega, u64_id _ (by omega), mask_u64 _ _ (by omega) (by omega)]
        have := Nat.mod_lt q hp; omega
      have hKe : K + signN f neg = (U + 1) * 2 ^ fm f + signN f neg + q % 2 ^ fm f := by
        rw [hK, hm1, Nat.add_mul]; omega
      obtain ⟨s1, s2⟩ := sign_or f neg ((U + 1) * 2 ^ fm f) (by omega)
      have hq2 : q % 2 ^ fm f < 2 ^ fm f := Nat.mod_lt _ hp
      have e6 : Go.bits .or .u32 (((U + 1) * 2 ^ fm f + signN f neg : Nat) : Int) ((q % 2 ^ fm f : Nat) : Int) = (((U + 1) * 2 ^ fm f + signN f neg + q % 2 ^ fm f : Nat) : Int) := by
        rw [or_u32 _ _ s2 (by omega), or_add _ _ (fm f) ?_ hq2]
        unfold signN
        cases neg
        · simp
        · simp only [if_true]
          rw [Nat.pow_add, ← Nat.add_mul, Nat.mul_mod_left]
      rw [e4, s1, e5, e6, co]
      simp only [Bool.false_eq_true, if_false, hKe]
      exact ⟨trivial, trivial⟩
theorem step_ew (f : Int) : wrap64 ((fm f : Int) + 1) = ((fm f + 1 : Nat) : Int) := by
  obtain ⟨b1, b2, b3, b4, b5⟩ := fbounds f
  rw [w64_id] <;> omega
theorem step_es (f : Int) : shl .u64 1 ((fm f + 1 : Nat) : Int) = ((2 ^ (fm f + 1) : Nat) : Int) := by
  obtain ⟨b1, b2, b3, b4, b5⟩ := fbounds f
  have h31 := pow_le31 (show fm f + 1 ≤ 31 by omega)
  rw [show (1 : Int) = ((1 : Nat) : Int) from rfl, shl_u64, Nat.one_mul, Nat.mod_eq_of_lt (by omega)]
theorem step_e8 (f : Int) (U : Nat) (h : U ≤ 10200) : wrap64 (leastN f - (fm f : Int) + (U : Int) + 1) = leastN f - (fm f : Int) + ((U + 1 : Nat) : Int) := by
  obtain ⟨b1, b2, b3, b4, b5⟩ := fbounds f
  have hl := least_cases f
  rw [w64_id] <;> omega
theorem step_e9 (f : Int) : (((2 ^ (fm f + 1) : Nat) : Int)) / 2 = ((2 ^ fm f : Nat) : Int) := by
  have hsucc : 2 ^ (fm f + 1) = 2 * 2 ^ fm f := by rw [Nat.pow_succ, Nat.mul_comm]
  omega
theorem step_lt (f : Int) : 2 ^ fm f < 2 ^ (fm f + 1) := Nat.pow_lt_pow_right (by decide) (Nat.lt_succ_self _)
theorem step_key (U m q : Nat) (h : q = 2 * m) : (U + 1) * m + m = U * m + q := by rw [Nat.add_mul]; omega
theorem step_q {a b : Nat} (h : a ≤ b) (h' : ¬ a = b) : a < b := by omega
theorem step_i {a b : Nat} (h' : ¬ a = b) : ¬ ((a : Int) = (b : Int)) := by omega
theorem step_n {m : Nat} : (0 : Int) ≤ (m : Int) := by omega
theorem ref_pack_ev (f mode : Int) (neg : Bool) (x : Int) (s : Nat) (more : Bool) (hs : s < 18446744073709551616) :
    Ev (fun k => annealref1_Pack.f k f mode neg x (s : Int) more) ((packN f mode neg (clampE x) s more : Int), false, false, excN f mode neg (clampE x) s more) := by
  unfold annealref1_Pack.f
  have hc : mn (mx x (-10000)) 10000 = clampE x := rfl
  obtain ⟨h1, h2⟩ := clampE_bounds x
  rw [hc]
  generalize clampE x = x at *
  have hll := left_le s (unitN f x s - x) more
  by_cases z : s = 0 ∧ more = false
  · obtain ⟨rfl, rfl⟩ := z
    simp only [if_pos (show ((0 : Nat) : Int) = 0 from rfl)]
    refine Ev.step (fun k => by rw [annealref1_Pack.j0]) ?_
    simp only [Bool.not_false, if_true, ref_zero_f, Option.bind_some]
    have h := pack_f 0 f mode neg x 0 false (by decide)
    rw [clampE_id x h1 h2] at h
    unfold round_Pack.f at h
    rw [if_pos (by rfl), show mn (mx x (-10000)) 10000 = x from clampE_id x h1 h2, round_Pack.j0] at h
    simp only [Bool.not_false, if_true, zero_f, Option.bind_some] at h
    rw [← Option.some.inj h]
    exact Ev.now _
  · have hj : ∀ k, (if (s : Int) = 0 then annealref1_Pack.j0 k f mode neg x (s : Int) more (!more) else annealref1_Pack.j0 k f mode neg x (s : Int) more false) = annealref1_Pack.j0 k f mode neg x (s : Int) more false := by
      intro k
      by_cases c : (s : Int) = 0
      · rw [if_pos c]
        cases more
        · exact absurd ⟨by omega, rfl⟩ z
        · rfl
      · rw [if_neg c]
    refine Ev.congr hj ?_
    obtain ⟨u1, u2, u3⟩ := unit_bounds f x s hs h1 h2
    obtain ⟨q1, q2⟩ := quo_bounds f x s
    obtain ⟨b1, b2, b3, b4, b5⟩ := fbounds f
    have hl := least_cases f
    have hn := lenN_small s hs
    have h31 := pow_le31 (show fm f + 1 ≤ 31 by omega)
    have hp := Nat.two_pow_pos (fm f)
    have hsucc : 2 ^ (fm f + 1) = 2 * 2 ^ fm f := by rw [Nat.pow_succ, Nat.mul_comm]
    have hq64 : quoN s (unitN f x s - x) < 18446744073709551616 := by omega
    have hd : unitN f x s - x ≤ 0 → s * 2 ^ (-(unitN f x s - x)).toNat < 18446744073709551616 := by
      intro h; have := hq64; unfold quoN at this; rw [if_pos h] at this; exact this
    -- the exponent that the reference takes
    have hE : ∃ e : Int, (∀ k, (if (s : Int) = 0 then annealref1_Pack.j1 k f mode neg x (s : Int) more (fm f : Int) (leastN f) (-20000) else annealref1_Pack.j1 k f mode neg x (s : Int) more (fm f : Int) (leastN f) (wrap64 (wrap64 (x + (lenN s : Int)) - 1))) = annealref1_Pack.j1 k f mode neg x (s : Int) more (fm f : Int) (leastN f) e) ∧ wrap64 (mx e (leastN f) - (fm f : Int)) = unitN f x s ∧ (decide (e < leastN f) = (decide (s = 0) || decide (x + lenN s - 1 < leastN f))) := by
      by_cases c : s = 0
      · subst c
        refine ⟨-20000, fun k => by rw [if_pos (show ((0 : Nat) : Int) = 0 from rfl)], ?_, ?_⟩
        · have : riseN f x 0 = 0 := by unfold riseN; rw [if_pos rfl]
          have hm : mx (-20000) (leastN f) = leastN f := by unfold mx; split <;> omega
          rw [hm]
          unfold unitN; rw [this, w64_id _ (by omega) (by omega)]; omega
        · rw [decide_eq_true (by omega)]; simp
      · have e1 : wrap64 (wrap64 (x + (lenN s : Int)) - 1) = x + lenN s - 1 := by
          rw [w64_id (x + _) (by omega) (by omega), w64_id _ (by omega) (by omega)]
        refine ⟨x + lenN s - 1, fun k => by rw [if_neg (by omega), e1], ?_, ?_⟩
        · have hr : riseN f x s = (x + lenN s - 1 - leastN f).toNat := by unfold riseN; rw [if_neg c]
          unfold unitN mx
          split
          · rw [w64_id _ (by omega) (by omega)]; omega
          · rw [w64_id _ (by omega) (by omega)]; omega
        · rw [decide_eq_false c, Bool.false_or]
    obtain ⟨e, he1, he2, he3⟩ := hE
    refine Ev.step (fun k => by rw [annealref1_Pack.j0]) ?_
    simp only [Bool.false_eq_true, if_false, ref_widths_f, ref_bias_f, Option.bind_some]
    refine Ev.bind (ref_len_ev s hs) ?_
    rw [show (1 : Int) - (1 - leastN f) = leastN f by omega, w64_id (leastN f) (by omega) (by omega)]
    refine Ev.congr he1 ?_
    refine Ev.step (fun k => by rw [annealref1_Pack.j1]) ?_
    rw [he2, w64_id (unitN f x s - x) (by omega) (by omega)]
    refine Ev.bind (ref_divide_f s hs _ (by omega) (by omega) hd) ?_
    -- what is left, with the little more
    have hlm : leftN s (unitN f x s - x) false ≤ 3 := left_le s _ false
    have hcol : ∀ k (r : Option (Int × Bool × Bool × Bool × Bool × Bool)), annealref1_Pack.j2 k f mode neg (fm f : Int) (leastN f) e (unitN f x s) (quoN s (unitN f x s - x) : Int) (decide (2 ≤ leftN s (unitN f x s - x) more)) (decide (leftN s (unitN f x s - x) more = 1 ∨ leftN s (unitN f x s - x) more = 3)) = r →
        (if decide (leftN s (unitN f x s - x) false = 1 ∨ leftN s (unitN f x s - x) false = 3) = true then annealref1_Pack.j2 k f mode neg (fm f : Int) (leastN f) e (unitN f x s) (quoN s (unitN f x s - x) : Int) (decide (2 ≤ leftN s (unitN f x s - x) false)) true else annealref1_Pack.j2 k f mode neg (fm f : Int) (leastN f) e (unitN f x s) (quoN s (unitN f x s - x) : Int) (decide (2 ≤ leftN s (unitN f x s - x) false)) more) = r := by
      intro k r h
      cases more
      · by_cases c : leftN s (unitN f x s - x) false = 1 ∨ leftN s (unitN f x s - x) false = 3
        · rw [decide_eq_true c] at h ⊢; rw [if_pos rfl]; exact h
        · rw [decide_eq_false c] at h ⊢; rw [if_neg (by decide)]; exact h
      · obtain ⟨m1, m2⟩ := left_more s (unitN f x s - x)
        rw [decide_eq_true m2, m1] at h
        split <;> exact h
    refine Ev.congr (fun k => hcol k _ rfl) ?_
    generalize hL : leftN s (unitN f x s - x) more = L at *
    refine Ev.step (fun k => by rw [annealref1_Pack.j2]) ?_
    have hinx : decide (L ≠ 0) = inexN f x s more := by unfold inexN; rw [hL]
    have h2 : ∀ k, (if decide (2 ≤ L) = true then annealref1_Pack.j3 k f mode neg (fm f : Int) (leastN f) e (unitN f x s) (quoN s (unitN f x s - x) : Int) (decide (2 ≤ L)) (decide (L = 1 ∨ L = 3)) true else annealref1_Pack.j3 k f mode neg (fm f : Int) (leastN f) e (unitN f x s) (quoN s (unitN f x s - x) : Int) (decide (2 ≤ L)) (decide (L = 1 ∨ L = 3)) (decide (L = 1 ∨ L = 3))) = annealref1_Pack.j3 k f mode neg (fm f : Int) (leastN f) e (unitN f x s) (quoN s (unitN f x s - x) : Int) (decide (2 ≤ L)) (decide (L = 1 ∨ L = 3)) (inexN f x s more) := by
      intro k
      rw [← hinx]
      have : L = 0 ∨ L = 1 ∨ L = 2 ∨ L = 3 := by omega
      rcases this with h | h | h | h <;> subst h <;> rfl
    refine Ev.congr h2 ?_
    refine Ev.step (fun k => by rw [annealref1_Pack.j3]) ?_
    have hodd : ((Go.bits .and .u64 (quoN s (unitN f x s - x) : Int) 1 == 1) : Bool) = decide (quoN s (unitN f x s - x) % 2 = 1) := by
      rw [and1_u64 _ hq64, show (1 : Int) = ((1 : Nat) : Int) from rfl, beq_nn]
    simp only [hodd, ref_up_f mode neg _ L hll, Option.bind_some]
    -- the unit above
    have hK : keyN f mode neg x s more = riseN f x s * 2 ^ fm f + (quoN s (unitN f x s - x) + (if upN mode neg (quoN s (unitN f x s - x)) L then 1 else 0)) := by
      unfold keyN; rw [hL, Nat.add_assoc]
    have h3 : ∀ k, (if upN mode neg (quoN s (unitN f x s - x)) L = true then annealref1_Pack.j4 k f mode neg (fm f : Int) (leastN f) e (unitN f x s) (IntKind.u64.wrap ((quoN s (unitN f x s - x) : Int) + 1)) (inexN f x s more) else annealref1_Pack.j4 k f mode neg (fm f : Int) (leastN f) e (unitN f x s) (quoN s (unitN f x s - x) : Int) (inexN f x s more)) = annealref1_Pack.j4 k f mode neg (fm f : Int) (leastN f) e (unitN f x s) ((quoN s (unitN f x s - x) + (if upN mode neg (quoN s (unitN f x s - x)) L then 1 else 0) : Nat) : Int) (inexN f x s more) := by
      intro k
      by_cases c : upN mode neg (quoN s (unitN f x s - x)) L = true
      · rw [if_pos c, if_pos c, show (quoN s (unitN f x s - x) : Int) + 1 = ((quoN s (unitN f x s - x) + 1 : Nat) : Int) by omega, u64_id _ (by omega)]
      · rw [if_neg c, if_neg c, Nat.add_zero]
    refine Ev.congr h3 ?_
    have hqn : quoN s (unitN f x s - x) + (if upN mode neg (quoN s (unitN f x s - x)) L then 1 else 0) ≤ 2 ^ (fm f + 1) := by split <;> omega
    have hqm : riseN f x s ≠ 0 → 2 ^ fm f ≤ quoN s (unitN f x s - x) + (if upN mode neg (quoN s (unitN f x s - x)) L then 1 else 0) := fun h => Nat.le_trans (q2 h) (Nat.le_add_right _ _)
    generalize quoN s (unitN f x s - x) + (if upN mode neg (quoN s (unitN f x s - x)) L then 1 else 0) = Q at *
    have hun : unitN f x s = leastN f - fm f + (riseN f x s : Nat) := rfl
    rw [hun]
    have ew := step_ew f
    have es := step_es f
    have e8 := step_e8 f _ u3
    have e9 := step_e9 f
    have fin : ∀ r : Int × Bool × Bool × Bool × Bool × Bool, r = ((((if overN f (keyN f mode neg x s more) then (if endless mode neg then topN f * 2 ^ fm f else topN f * 2 ^ fm f - 1) else keyN f mode neg x s more) + signN f neg : Nat) : Int), if overN f (keyN f mode neg x s more) then (false, false, true, false, true) else (false, false, false, underN f x s more, inexN f x s more)) → r = ((packN f mode neg x s more : Int), false, false, excN f mode neg x s more) := by
      intro r hr
      rw [hr]
      unfold packN excN
      split <;> rfl
    have hund : underN f x s more = (inexN f x s more && decide (e < leastN f)) := by unfold underN; rw [he3]
    refine Ev.step (fun k => by rw [annealref1_Pack.j4]) ?_
    simp only [ew, es, e8, if_pos (step_n (m := fm f + 1))]
    by_cases cQ : Q = 2 ^ (fm f + 1)
    · have g := fun k c3 => ref_pack_j5 k f mode neg (2 ^ fm f) (riseN f x s + 1) (Nat.le_trans (Nat.succ_le_succ u3) (by decide)) (step_lt f) (fun _ => Nat.le_refl _) (keyN f mode neg x s more) (by rw [hK]; exact (step_key _ _ _ (cQ.trans hsucc)).symm) false false false c3 (inexN f x s more)
      simp only [cQ, if_true, e9]
      by_cases ci : inexN f x s more = true
      · simp only [ci, if_true] at g ⊢
        rw [ci, Bool.true_and] at hund
        rw [← fin _ rfl, hund, ci]
        exact ⟨2, fun n hn => by obtain ⟨m, rfl⟩ : ∃ m, n = m + 2 := ⟨n - 2, by omega⟩; exact (g m _).1⟩
      · rw [Bool.not_eq_true] at ci
        simp only [ci, Bool.false_eq_true, if_false] at g ⊢
        rw [ci, Bool.false_and] at hund
        rw [← fin _ rfl, hund, ci]
        exact ⟨2, fun n hn => by obtain ⟨m, rfl⟩ : ∃ m, n = m + 2 := ⟨n - 2, by omega⟩; exact (g m _).2⟩
    · have g := fun k c3 => ref_pack_j5 k f mode neg Q (riseN f x s) (Nat.le_trans u3 (by decide)) (step_q hqn cQ) hqm (keyN f mode neg x s more) hK false false false c3 (inexN f x s more)
      have cQ' : ¬ ((Q : Int) = ((2 ^ (fm f + 1) : Nat) : Int)) := step_i cQ
      simp only [cQ', if_false]
      by_cases ci : inexN f x s more = true
      · simp only [ci, if_true] at g ⊢
        rw [ci, Bool.true_and] at hund
        rw [← fin _ rfl, hund, ci]
        exact ⟨2, fun n hn => by obtain ⟨m, rfl⟩ : ∃ m, n = m + 2 := ⟨n - 2, by omega⟩; exact (g m _).1⟩
      · rw [Bool.not_eq_true] at ci
        simp only [ci, Bool.false_eq_true, if_false] at g ⊢
        rw [ci, Bool.false_and] at hund
        rw [← fin _ rfl, hund, ci]
        exact ⟨2, fun n hn => by obtain ⟨m, rfl⟩ : ∃ m, n = m + 2 := ⟨n - 2, by omega⟩; exact (g m _).2⟩
end Go.Proofs.Ytoljndjpnbdjmaa.Round

/- A number in another format: the program's and the reference's, as plain numbers. -/
namespace Go.Proofs.Ytoljndjpnbdjmaa.Round
open Go.RowKit Go.Proofs.Ytoljndjpnbdjmaa.P Go.Proofs.Ytoljndjpnbdjmaa.Num Go.Proofs.Ytoljndjpnbdjmaa.BitsF Go.Proofs.Ytoljndjpnbdjmaa.Fmt Go.Proofs.YtoljndjpnbdjmaaW.PrintWords Go.Proofs.YtoljndjpnbdjmaaW.PrintLast Go.Proofs.YtoljndjpnbdjmaaW.PrintMore

theorem packs_ev (f mode : Int) (neg : Bool) (x : Int) (s : Nat) (more : Bool) (hs : s < 18446744073709551616) :
    Ev (fun k => round_Pack.f k f mode neg x (s : Int) more) ((packN f mode neg (clampE x) s more : Int), false, false, excN f mode neg (clampE x) s more) :=
  Ev.of (round_Pack.mono _ _ _ _ _ _) (pack_f 0 f mode neg x s more hs)
theorem whole_64 (f : Int) (v : Nat) : wholeN f v < 18446744073709551616 := by
  have h := fbounds f
  have h1 := whole_lt f v
  have h2 := pow_le31 (show fm f + 1 ≤ 31 by omega)
  omega
theorem lowest_in (f : Int) (v : Nat) : -10000 ≤ lowestN f v ∧ lowestN f v ≤ 10000 := by
  have := least_cases f; have := top_cases f; have := fbounds f; have := exp_le f v
  unfold lowestN; omega
theorem cls_exp (f : Int) (v : Nat) (h : clsN f v < 3) : expN f v < topN f := (cls_finite f v).mp h
/-- A number in another format, with what is told beside it. -/
def toN (g f mode : Int) (v : Nat) : Nat :=
  if 4 ≤ clsN g v then nanN f else if clsN g v = 3 then infN f (negN g v) else packN f mode (negN g v) (lowestN g v) (wholeN g v) false
def toX (g f mode : Int) (v : Nat) : Bool × Bool × Bool × Bool × Bool :=
  if 4 ≤ clsN g v then (isLoud g v, false, false, false, false) else if clsN g v = 3 then (false, false, false, false, false) else (false, false, excN f mode (negN g v) (lowestN g v) (wholeN g v) false)
theorem to_ev (g f mode : Int) (v : Nat) (hv : v < 4294967296) : Ev (fun k => conv_To.f k g f mode (v : Int)) ((toN g f mode v : Int), toX g f mode v) := by
  refine Ev.congr (fun k => by unfold conv_To.f; rfl) (Ev.bind (class_ev g v hv) ?_)
  have hc := cls_le g v
  unfold toN toX
  by_cases c4 : clsN g v = 4
  · have e : isLoud g v = false := by unfold isLoud; rw [c4]; rfl
    rw [if_pos (by omega), if_pos (by omega), e]
    exact Ev.congr (fun k => by rw [if_pos (by omega), nan_f]; rfl) (Ev.now _)
  · by_cases c5 : clsN g v = 5
    · have e : isLoud g v = true := by unfold isLoud; rw [c5]; rfl
      rw [if_pos (by omega), if_pos (by omega), e]
      exact Ev.congr (fun k => by rw [if_neg (by omega), if_pos (by omega), bad_f]; rfl) (Ev.now _)
    · rw [if_neg (show ¬ 4 ≤ clsN g v by omega), if_neg (show ¬ 4 ≤ clsN g v by omega)]
      by_cases c3 : clsN g v = 3
      · rw [if_pos c3, if_pos c3]
        exact Ev.congr (fun k => by rw [if_neg (by omega), if_neg (by omega), if_pos (by omega), neg_f g v hv, Option.bind_some, inf_f]; rfl) (Ev.now _)
      · rw [if_neg c3, if_neg c3]
        obtain ⟨l1, l2⟩ := lowest_in g v
        have hp := packs_ev f mode (negN g v) (lowestN g v) (wholeN g v) false (whole_64 g v)
        rw [clampE_id _ l1 l2] at hp
        exact Ev.congr (fun k => by rw [if_neg (by omega), if_neg (by omega), if_neg (by omega), of_f g v hv (cls_exp g v (by omega)), Option.bind_some]) (Ev.bind hp (Ev.now _))
theorem ref_to_ev (g f mode : Int) (v : Nat) (hv : v < 4294967296) : Ev (fun k => annealref1_To.f k g f mode (v : Int)) ((toN g f mode v : Int), toX g f mode v) := by
  refine Ev.congr (fun k => by unfold annealref1_To.f; rfl) (Ev.bind (nans1_ev g v hv) ?_)
  have hc := cls_le g v
  unfold toN toX
  by_cases c4 : 4 ≤ clsN g v
  · rw [if_pos c4, if_pos c4]
    exact Ev.congr (fun k => by rw [if_pos (show isNan g v = true from decide_eq_true c4), ref_nan_f]; rfl) (Ev.now _)
  · rw [if_neg c4, if_neg c4]
    have n4 : ¬ isNan g v = true := by unfold isNan; simp; omega
    refine Ev.congr (fun k => by rw [if_neg n4]) (Ev.bind (rinf_ev g v hv) ?_)
    by_cases c3 : clsN g v = 3
    · rw [if_pos c3, if_pos c3]
      exact Ev.congr (fun k => by rw [if_pos (decide_eq_true c3), rneg_f g v hv, Option.bind_some, ref_inf_f]; rfl) (Ev.now _)
    · rw [if_neg c3, if_neg c3]
      have hp := ref_pack_ev f mode (negN g v) (lowestN g v) (wholeN g v) false (whole_64 g v)
      obtain ⟨l1, l2⟩ := lowest_in g v
      rw [clampE_id _ l1 l2] at hp
      exact Ev.congr (fun k => by rw [if_neg (by simp [c3])]) (Ev.bind (runpack_ev g v hv (cls_exp g v (by omega))) (Ev.bind hp (Ev.now _)))
theorem narrow_ev (f : Int) (v : Nat) (hv : v < 4294967296) : Ev (fun k => conv_Narrow.f k f (v : Int)) (toN 2 f 0 v : Int) :=
  Ev.congr (fun k => by unfold conv_Narrow.f; rfl) (Ev.bind (to_ev 2 f 0 v hv) (Ev.now _))
theorem ref_widen_ev (g : Int) (v : Nat) (hv : v < 4294967296) : Ev (fun k => annealref1_Widen.f k g (v : Int)) (toN g 2 0 v : Int) :=
  Ev.congr (fun k => by unfold annealref1_Widen.f; rfl) (Ev.bind (ref_to_ev g 2 0 v hv) (Ev.now _))
end Go.Proofs.Ytoljndjpnbdjmaa.Round

/- Narrowing and widening again: on which side of a number its narrowed one stands. Plain numbers alone. -/
namespace Go.Proofs.Ytoljndjpnbdjmaa.Round
open Go.RowKit Go.Proofs.Ytoljndjpnbdjmaa.P Go.Proofs.Ytoljndjpnbdjmaa.Num Go.Proofs.Ytoljndjpnbdjmaa.BitsF Go.Proofs.Ytoljndjpnbdjmaa.Fmt Go.Proofs.YtoljndjpnbdjmaaW.PrintWords Go.Proofs.YtoljndjpnbdjmaaW.PrintLast Go.Proofs.YtoljndjpnbdjmaaW.PrintMore

/-- How many more bits below a single number's least unit has than another format's. -/
def cN (f : Int) : Nat := (leastN f - fm f + 149).toNat
theorem c_is (f : Int) : leastN f - (fm f : Int) = -149 + cN f := by
  unfold cN
  have : fe f = 5 ∧ fm f = 10 ∨ fe f = 8 ∧ fm f = 7 ∨ fe f = 8 ∧ fm f = 23 := fcases f
  unfold leastN
  rcases this with ⟨h1, h2⟩ | ⟨h1, h2⟩ | ⟨h1, h2⟩ <;> rw [h1, h2] <;> decide
def infK (f : Int) : Nat := topN f * 2 ^ fm f
theorem infK_lt (f : Int) : infK f < 2 ^ (fe f + fm f) ∧ 0 < infK f := by
  obtain ⟨_, hi⟩ := inf_lt f false
  have hp := Nat.two_pow_pos (fm f)
  have ht : 0 < topN f * 2 ^ fm f := Nat.mul_pos (by have := top_cases f; omega) hp
  unfold infK; omega
/-- Bits with a sign. -/
theorem sign_parts (f : Int) (P : Nat) (neg : Bool) (h : P < 2 ^ (fe f + fm f)) : negN f (P + signN f neg) = neg ∧ magN f (P + signN f neg) = P ∧ P + signN f neg < 2 ^ (fe f + fm f + 1) := by
  unfold negN magN signN
  have hp := Nat.two_pow_pos (fe f + fm f)
  cases neg
  · simp only [Bool.false_eq_true, if_false, Nat.add_zero]
    rw [Nat.div_eq_of_lt h, Nat.mod_eq_of_lt h, Nat.pow_succ]
    exact ⟨rfl, rfl, by omega⟩
  · simp only [if_true]
    rw [Nat.add_div_right _ hp, Nat.div_eq_of_lt h, Nat.add_mod_right, Nat.mod_eq_of_lt h, Nat.pow_succ]
    exact ⟨rfl, rfl, by omega⟩
theorem place_sign (f : Int) (P : Nat) (neg : Bool) (h : P < 2 ^ (fe f + fm f)) : placeN f (lowN f (P + signN f neg)) = if neg then -1 - (P : Int) else (P : Int) := by
  obtain ⟨h1, h2, h3⟩ := sign_parts f P neg h
  rw [low_id f _ h3]
  unfold placeN
  unfold magN at h2
  rw [h1, h2]
theorem mag_exp (f : Int) (v : Nat) : expN f v < topN f ↔ magN f v < infK f := by
  obtain ⟨h1, _⟩ := mag_parts f v
  unfold infK
  rw [← h1, Nat.div_lt_iff_lt_mul (Nat.two_pow_pos _)]
theorem mag_cls (f : Int) (v : Nat) (h : magN f v = infK f) : clsN f v = 3 := by
  obtain ⟨h1, h2⟩ := mag_parts f v
  have ht := top_cases f
  unfold clsN
  rw [← h1, ← h2, h]
  unfold infK
  rw [Nat.mul_div_cancel _ (Nat.two_pow_pos _), Nat.mul_mod_left, if_neg (by omega), if_neg (by omega), if_pos rfl]
def capN (f mode : Int) (neg : Bool) (K : Nat) : Nat := if infK f ≤ K then (if endless mode neg then infK f else infK f - 1) else K
theorem pack_cap (f mode : Int) (neg : Bool) (x : Int) (s : Nat) (more : Bool) : packN f mode neg x s more = capN f mode neg (keyN f mode neg x s more) + signN f neg := by
  unfold packN capN overN infK; simp only [decide_eq_true_iff]
theorem cap_le (f mode : Int) (neg : Bool) (K : Nat) : capN f mode neg K ≤ infK f ∧ capN f mode neg K ≤ K := by
  unfold capN
  by_cases h : infK f ≤ K
  · rw [if_pos h]; split <;> omega
  · rw [if_neg h]; omega
/-- A finite number in another format. -/
theorem to_finite (g f mode : Int) (v : Nat) (h : magN g v < infK g) : toN g f mode v = capN f mode (negN g v) (keyN f mode (negN g v) (-149) (amtN g (magN g v) * 2 ^ cN g) false) + signN f (negN g v) := by
  have hc := (cls_finite g v).mpr ((mag_exp g v).mpr h)
  unfold toN
  rw [if_neg (by omega), if_neg (by omega), pack_cap, key_whole, c_is, key_scale]
theorem to_infinite (g f mode : Int) (v : Nat) (h : magN g v = infK g) : toN g f mode v = infK f + signN f (negN g v) := by
  have hc := mag_cls g v h
  unfold toN
  rw [if_neg (by omega), if_pos hc]; rfl
theorem to_lt (g f mode : Int) (v : Nat) : toN g f mode v < 2 ^ (fe f + fm f + 1) ∧ toN g f mode v < 4294967296 := by
  have h : toN g f mode v < 2 ^ (fe f + fm f + 1) := by
    obtain ⟨i1, _⟩ := infK_lt f
    obtain ⟨_, hi⟩ := inf_lt f false
    have hh := half_frac f
    unfold toN
    split
    · unfold nanN; rw [Nat.pow_succ]; omega
    · split
      · exact (sign_parts f (infK f) (negN g v) i1).2.2
      · rw [pack_cap]
        exact (sign_parts f _ (negN g v) (Nat.lt_of_le_of_lt (cap_le f mode _ _).1 i1)).2.2
  have hb := fbounds f
  have := pow_le32 (show fe f + fm f + 1 ≤ 32 by omega)
  exact ⟨h, by omega⟩
theorem amount_cut (f : Int) (q r : Nat) : q * 2 ^ r * 2 ^ cN f = q * 2 ^ (r + cN f) := by rw [Nat.mul_assoc, ← Nat.pow_add]
end Go.Proofs.Ytoljndjpnbdjmaa.Round

/- Widening is exact: a number of a narrow format as a single one, and back. Plain numbers alone. -/
namespace Go.Proofs.Ytoljndjpnbdjmaa.Round
open Go.RowKit Go.Proofs.Ytoljndjpnbdjmaa.P Go.Proofs.Ytoljndjpnbdjmaa.Num Go.Proofs.Ytoljndjpnbdjmaa.BitsF Go.Proofs.Ytoljndjpnbdjmaa.Fmt Go.Proofs.YtoljndjpnbdjmaaW.PrintWords Go.Proofs.YtoljndjpnbdjmaaW.PrintLast Go.Proofs.YtoljndjpnbdjmaaW.PrintMore

/-- A narrow number's bits without its sign, as a single one's. -/
def wideK (f : Int) (K : Nat) : Nat := keyN 2 0 false (-149) (amtN f K * 2 ^ cN f) false
theorem key_parts' (f mode : Int) (neg : Bool) (A : Nat) (h : A % 2 ^ (riseN f (-149) A + cN f) = 0) : amtN f (keyN f mode neg (-149) A false) * 2 ^ cN f = A := by
  have hu : unitN f (-149) A - (-149) = ((riseN f (-149) A + cN f : Nat) : Int) := by
    unfold unitN; rw [c_is]; omega
  obtain ⟨q1, q2⟩ := quo_bounds f (-149) A
  rw [hu] at q1 q2
  have hq : quoN A ((riseN f (-149) A + cN f : Nat) : Int) = A / 2 ^ (riseN f (-149) A + cN f) := by
    unfold quoN
    by_cases c : ((riseN f (-149) A + cN f : Nat) : Int) ≤ 0
    · rw [if_pos c, show riseN f (-149) A + cN f = 0 by omega]; simp
    · rw [if_neg c, Int.toNat_natCast]
  have hl : leftN A ((riseN f (-149) A + cN f : Nat) : Int) false = 0 := left_exact _ _ (.inr (by rw [Int.toNat_natCast]; exact h))
  have hk : keyN f mode neg (-149) A false = riseN f (-149) A * 2 ^ fm f + A / 2 ^ (riseN f (-149) A + cN f) := by
    unfold keyN; rw [hu, hl, up_none, hq]; simp
  rw [hq] at q1 q2
  rw [hk, amt_key f _ _ (by omega) (by rcases Nat.eq_zero_or_pos (riseN f (-149) A) with c | c; exact .inl c; exact .inr (q2 (by omega))), amount_cut]
  exact Nat.div_mul_cancel (Nat.dvd_of_mod_eq_zero h)
theorem wide_exact (f : Int) (mode : Int) (neg : Bool) (K : Nat) : amtN 2 (keyN 2 mode neg (-149) (amtN f K * 2 ^ cN f) false) = amtN f K * 2 ^ cN f := by
  have hc : cN 2 = 0 := by decide
  have hb := fbounds f
  have hm := Nat.mod_lt K (Nat.two_pow_pos (fm f))
  have hs : 2 ^ (fm f + 1) = 2 * 2 ^ fm f := by rw [Nat.pow_succ, Nat.mul_comm]
  have key : ∀ M j : Nat, M < 2 ^ (fm f + 1) → M * 2 ^ j % 2 ^ (riseN 2 (-149) (M * 2 ^ j) + cN 2) = 0 := by
    intro M j hM
    by_cases c : M = 0
    · subst c; simp
    · have h1 := lenN_bound M (fm f + 1) hM
      have hr : riseN 2 (-149) (M * 2 ^ j) ≤ j := by
        unfold riseN
        rw [if_neg (Nat.mul_ne_zero c (Nat.ne_of_gt (Nat.two_pow_pos j))), lenN_mul M j c, show leastN 2 = -126 from rfl]
        omega
      rw [hc, Nat.add_zero]
      obtain ⟨i, hi⟩ : ∃ i, j = i + riseN 2 (-149) (M * 2 ^ j) := ⟨j - riseN 2 (-149) (M * 2 ^ j), by omega⟩
      generalize riseN 2 (-149) (M * 2 ^ j) = r at *
      rw [hi, Nat.pow_add, ← Nat.mul_assoc, Nat.mul_mod_left]
  have h : (amtN f K * 2 ^ cN f) % 2 ^ (riseN 2 (-149) (amtN f K * 2 ^ cN f) + cN 2) = 0 := by
    unfold amtN
    rw [Nat.mul_assoc, ← Nat.pow_add]
    exact key _ _ (by split <;> omega)
  have := key_parts' 2 mode neg _ h
  rw [hc, Nat.pow_zero, Nat.mul_one] at this
  exact this
theorem key_sign (f mode : Int) (n n' : Bool) (x : Int) (s : Nat) (h : ∀ q, upN mode n q (leftN s (unitN f x s - x) false) = upN mode n' q (leftN s (unitN f x s - x) false)) : keyN f mode n x s false = keyN f mode n' x s false := by
  unfold keyN; rw [h]
theorem near_sign (f : Int) (n n' : Bool) (x : Int) (s : Nat) : keyN f 0 n x s false = keyN f 0 n' x s false := key_sign f 0 n n' x s (fun q => rfl)
theorem amt_inf (f : Int) (K : Nat) (h : K < infK f) : amtN f K < 2 ^ fm f * 2 ^ (topN f - 1) := by
  have h1 := amt_lt f K
  have h2 : K / 2 ^ fm f ≤ topN f - 1 := by
    have : K / 2 ^ fm f < topN f := by rw [Nat.div_lt_iff_lt_mul (Nat.two_pow_pos _)]; exact h
    omega
  exact Nat.lt_of_lt_of_le h1 (Nat.mul_le_mul_left _ (Nat.pow_le_pow_right (by decide) h2))
theorem inf_amt (f : Int) : amtN f (infK f) = 2 ^ fm f * 2 ^ (topN f - 1) := by
  have ht := top_cases f
  unfold amtN infK
  rw [Nat.mul_div_cancel _ (Nat.two_pow_pos _), Nat.mul_mod_left, if_neg (by omega), Nat.zero_add]
theorem wide_top (f : Int) : fm f + (topN f - 1) + cN f ≤ fm 2 + (topN 2 - 1) := by
  have h := c_is f
  have ht := top_least f
  have ht2 : topN 2 = 255 := rfl
  have hm2 : fm 2 = 23 := rfl
  have hl := least_cases f
  have htc := top_cases f
  have hb := fbounds f
  omega
/-- What is finite is finite as a single number. -/
theorem wide_lt (f : Int) (K : Nat) (h : K < infK f) : wideK f K < infK 2 := by
  rcases Nat.lt_or_ge (wideK f K) (infK 2) with c | c
  · exact c
  · have h1 := amt_mono 2 c
    unfold wideK at h1
    rw [wide_exact, inf_amt] at h1
    have h2 := Nat.mul_lt_mul_of_pos_right (amt_inf f K h) (Nat.two_pow_pos (cN f))
    rw [← Nat.pow_add, ← Nat.pow_add] at h2
    rw [← Nat.pow_add] at h1
    have h3 := Nat.pow_le_pow_right (show 0 < 2 by decide) (wide_top f)
    omega
theorem wide_le (f : Int) {K L : Nat} (h : K ≤ L) : wideK f K ≤ wideK f L :=
  key_mono 2 0 false (-149) (Nat.mul_le_mul_right _ (amt_mono f h)) (fun _ h => h)
theorem wide_back (f : Int) (K : Nat) : keyN f 0 false (-149) (amtN 2 (wideK f K)) false = K := by
  unfold wideK
  rw [wide_exact, key_scale, ← c_is, key_amt]
theorem wide_le_iff (f : Int) (K L : Nat) : wideK f K ≤ wideK f L ↔ K ≤ L := by
  refine ⟨fun h => ?_, wide_le f⟩
  have := key_mono f 0 false (-149) (a := amtN 2 (wideK f K)) (b := amtN 2 (wideK f L)) (more := false) (less := false) (amt_mono 2 h) (fun _ h => h)
  rw [wide_back, wide_back] at this; exact this
/-- A number's bits without its sign, as a single one's; infinity too. -/
def wideM (f : Int) (K : Nat) : Nat := if K = infK f then infK 2 else wideK f K
theorem wideM_le_iff (f : Int) {K L : Nat} (hK : K ≤ infK f) (hL : L ≤ infK f) : wideM f K ≤ wideM f L ↔ K ≤ L := by
  unfold wideM
  by_cases a : K = infK f <;> by_cases b : L = infK f
  · rw [if_pos a, if_pos b]; omega
  · rw [if_pos a, if_neg b]
    have := wide_lt f L (by omega); omega
  · rw [if_neg a, if_pos b]
    have := wide_lt f K (by omega); omega
  · rw [if_neg a, if_neg b]; exact wide_le_iff f K L
theorem wideM_bound (f : Int) {K : Nat} (hK : K ≤ infK f) : wideM f K ≤ infK 2 := by
  unfold wideM
  split
  · exact Nat.le_refl _
  · exact Nat.le_of_lt (wide_lt f K (by omega))
theorem mag_nan (f : Int) (v : Nat) : isNan f v = true ↔ infK f < magN f v := by
  obtain ⟨h1, h2⟩ := mag_parts f v
  have hd := Nat.div_add_mod (magN f v) (2 ^ fm f)
  have he := exp_le f v
  have hf := frac_lt f v
  rw [h1, h2] at hd
  unfold isNan infK
  rw [decide_eq_true_iff, ← Nat.not_lt (a := clsN f v)]
  have hc := cls_le f v
  have hx := cls_finite f v
  by_cases c : expN f v < topN f
  · have h3 := hx.mpr c
    have h4 : (expN f v + 1) * 2 ^ fm f ≤ topN f * 2 ^ fm f := Nat.mul_le_mul_right _ c
    rw [Nat.add_mul, Nat.one_mul, Nat.mul_comm] at h4
    constructor
    · intro h; omega
    · intro h; omega
  · have e : expN f v = topN f := by omega
    have ht := top_cases f
    rw [e, Nat.mul_comm] at hd
    have h3 : clsN f v = 3 ↔ fracN f v = 0 := by
      unfold clsN
      rw [if_neg (by omega), if_neg c]
      constructor
      · intro h; split at h
        · assumption
        · split at h <;> omega
      · intro h; rw [if_pos h]
    have h4 : ¬ clsN f v < 3 := fun h => c (hx.mp h)
    constructor
    · intro h
      have : fracN f v ≠ 0 := fun z => by have := h3.mpr z; omega
      omega
    · intro h
      have : clsN f v ≠ 3 := fun z => by have := h3.mp z; omega
      omega
/-- A number that is one, widened. -/
theorem widen_is (f : Int) (v : Nat) (h : magN f v ≤ infK f) : toN f 2 0 v = wideM f (magN f v) + signN 2 (negN f v) := by
  unfold wideM
  by_cases c : magN f v = infK f
  · rw [if_pos c, to_infinite _ _ _ _ c]
  · rw [if_neg c, to_finite _ _ _ _ (by omega), near_sign 2 (negN f v) false]
    have := wide_lt f (magN f v) (by omega)
    unfold wideK at this ⊢
    unfold capN; rw [if_neg (by omega)]
/-- And narrowed again. -/
theorem narrow_is (f : Int) (K : Nat) (neg : Bool) (h : K ≤ infK f) : toN 2 f 0 (wideM f K + signN 2 neg) = K + signN f neg := by
  have hb := wideM_bound f h
  obtain ⟨j1, _⟩ := infK_lt 2
  obtain ⟨h1, h2, _⟩ := sign_parts 2 (wideM f K) neg (by omega)
  unfold wideM at *
  by_cases c : K = infK f
  · rw [if_pos c] at *
    rw [to_infinite _ _ _ _ h2, h1, c]
  · rw [if_neg c] at *
    rw [to_finite _ _ _ _ (by rw [h2]; exact wide_lt f K (by omega)), h1, h2, show cN 2 = 0 from by decide, Nat.pow_zero, Nat.mul_one, near_sign f neg false, wide_back]
    unfold capN; rw [if_neg (by omega)]
theorem mag_sign (f : Int) (v : Nat) (h : v < 2 ^ (fe f + fm f + 1)) : v = magN f v + signN f (negN f v) := by
  unfold magN signN negN
  have h1 := Nat.div_add_mod v (2 ^ (fe f + fm f))
  have h2 : v / 2 ^ (fe f + fm f) < 2 := by rw [Nat.div_lt_iff_lt_mul (Nat.two_pow_pos _), Nat.mul_comm, ← Nat.pow_succ]; exact h
  rw [Nat.mod_eq_of_lt h2]
  generalize v / 2 ^ (fe f + fm f) = b at *
  have h3 : b = 0 ∨ b = 1 := by omega
  rcases h3 with rfl | rfl
  · simp at h1 ⊢; omega
  · simp at h1 ⊢; omega
end Go.Proofs.Ytoljndjpnbdjmaa.Round

/- A single number narrowed by chance: the program's, as a plain number. -/
namespace Go.Proofs.Ytoljndjpnbdjmaa.Round
open Go.RowKit Go.Proofs.Ytoljndjpnbdjmaa.P Go.Proofs.Ytoljndjpnbdjmaa.Num Go.Proofs.Ytoljndjpnbdjmaa.BitsF Go.Proofs.Ytoljndjpnbdjmaa.Fmt Go.Proofs.YtoljndjpnbdjmaaW.PrintWords Go.Proofs.YtoljndjpnbdjmaaW.PrintLast Go.Proofs.YtoljndjpnbdjmaaW.PrintMore

theorem finite_f (f : Int) (v : Nat) (hv : v < 4294967296) : format_Finite.f f (v : Int) = some (decide (expN f v < topN f)) := by
  unfold format_Finite.f
  rw [parts_f f v hv, Option.bind_some, top_f, Option.bind_some]
  dsimp only
  congr 1; apply decide_eq_decide.mpr; omega
theorem iszero_ev (f : Int) (v : Nat) (hv : v < 4294967296) : Ev (fun k => format_IsZero.f k f (v : Int)) (decide (clsN f v = 0)) := by
  refine Ev.congr (fun k => by unfold format_IsZero.f; rfl) (Ev.bind (class_ev f v hv) (Ev.congr (fun k => ?_) (Ev.now _)))
  rw [show (0 : Int) = ((0 : Nat) : Int) from rfl, beq_nn]
/-- How many bits a single number has below a format's unit. -/
def dropN (f : Int) (a : Nat) : Int := unitN f (lowestN 2 a) (wholeN 2 a) - lowestN 2 a
/-- What these are of a unit, in parts of 2^32. -/
def partN (s : Nat) (d : Int) : Nat := (shiftN (s % 2 ^ d.toNat) (d - 32)).1
/-- Nothing is to be rounded. -/
def keepsN (f : Int) (a : Nat) : Bool := decide (topN 2 ≤ expN 2 a ∨ clsN 2 a = 0 ∨ dropN f a ≤ 0 ∨ wholeN 2 a % 2 ^ (dropN f a).toNat = 0)
/-- The neighbour below, or that above it, without its sign. -/
def stepN (f : Int) (a w : Nat) : Nat := riseN f (lowestN 2 a) (wholeN 2 a) * 2 ^ fm f + (wholeN 2 a / 2 ^ (dropN f a).toNat + if w < partN (wholeN 2 a) (dropN f a) then 1 else 0)
def chanN (f : Int) (a w : Nat) : Nat := if keepsN f a then toN 2 f 0 a else capN f 0 (negN 2 a) (stepN f a w) + signN f (negN 2 a)
theorem unit_key (f mode : Int) (neg : Bool) (r q : Nat) (hq : q ≤ 2 ^ (fm f + 1)) (hr : r = 0 ∨ 2 ^ fm f ≤ q) : keyN f mode neg (leastN f - fm f + r) q false = r * 2 ^ fm f + q := by
  have hs : 2 ^ (fm f + 1) = 2 * 2 ^ fm f := by rw [Nat.pow_succ, Nat.mul_comm]
  have hp := Nat.two_pow_pos (fm f)
  by_cases c : q = 2 ^ (fm f + 1)
  · have := exact_key f mode neg (2 ^ fm f) 1 (r + 1) (by omega) (.inr (Nat.le_refl _))
    rw [show leastN f - (fm f : Int) + ((r + 1 : Nat) : Int) - ((1 : Nat) : Int) = leastN f - fm f + r by omega, show 2 ^ fm f * 2 ^ 1 = q by omega] at this
    rw [this, Nat.add_mul]; omega
  · have := exact_key f mode neg q 0 r (by omega) hr
    rw [Nat.pow_zero, Nat.mul_one, show leastN f - (fm f : Int) + (r : Int) - ((0 : Nat) : Int) = leastN f - fm f + r by omega] at this
    exact this
theorem drop_quo (f : Int) (a : Nat) (h : ¬ dropN f a ≤ 0) : wholeN 2 a / 2 ^ (dropN f a).toNat = quoN (wholeN 2 a) (unitN f (lowestN 2 a) (wholeN 2 a) - lowestN 2 a) := by
  unfold quoN; unfold dropN at *; rw [if_neg h]
theorem drop_in (f : Int) (a : Nat) : -20000 ≤ dropN f a ∧ dropN f a ≤ 21000 := by
  obtain ⟨l1, l2⟩ := lowest_in 2 a
  obtain ⟨u1, u2, _⟩ := unit_bounds f (lowestN 2 a) (wholeN 2 a) (whole_64 2 a) l1 l2
  unfold dropN; omega
theorem single_unit (f : Int) (a : Nat) : -200 ≤ unitN f (lowestN 2 a) (wholeN 2 a) ∧ unitN f (lowestN 2 a) (wholeN 2 a) ≤ 300 := by
  have hl := lenN_bound _ _ (whole_lt 2 a)
  have hm : fm 2 = 23 := rfl
  have he := exp_le 2 a
  have ht : topN 2 = 255 := rfl
  have hl2 : leastN 2 = -126 := rfl
  have := least_cases f
  have := fbounds f
  unfold unitN riseN lowestN
  rw [hm] at hl
  rw [hm, hl2]
  split <;> omega
theorem part_ev (s : Nat) (hs : s < 18446744073709551616) (d : Int) (h1 : -100000 ≤ d) (h2 : d ≤ 100000) : Ev (fun k => chance_part.f k ((s % 2 ^ d.toNat : Nat) : Int) d) (partN s d : Int) := by
  refine Ev.congr (fun k => by unfold chance_part.f; rw [w64_id _ (by omega) (by omega)]) (Ev.bind (shift_ev _ (Nat.lt_of_le_of_lt (Nat.mod_le _ _) hs) (d - 32) (by omega) (by omega)) (Ev.now _))
theorem chance_keep (f : Int) (a w : Nat) (ha : a < 4294967296) (h : keepsN f a = true) : Ev (fun k => chance_Narrow.j0 k f (a : Int) (w : Int) true) (chanN f a w : Int) := by
  unfold chanN; rw [if_pos h]
  exact Ev.step (fun k => by rw [chance_Narrow.j0, if_pos rfl]) (Ev.bind (narrow_ev f a ha) (Ev.now _))
theorem chance_ev (f : Int) (a w : Nat) (ha : a < 4294967296) (hw : w < 4294967296) : Ev (fun k => chance_Narrow.f k f (a : Int) (w : Int)) (chanN f a w : Int) := by
  refine Ev.congr (fun k => by unfold chance_Narrow.f; rw [finite_f 2 a ha, Option.bind_some]) ?_
  by_cases c : expN 2 a < topN 2
  · refine Ev.congr (fun k => by rw [if_pos (decide_eq_true c)]) (Ev.bind (iszero_ev 2 a ha) ?_)
    by_cases z : clsN 2 a = 0
    · rw [decide_eq_true z]; exact chance_keep f a w ha (decide_eq_true (.inr (.inl z)))
    · rw [decide_eq_false z]
      have hs := whole_64 2 a
      obtain ⟨l1, l2⟩ := lowest_in 2 a
      obtain ⟨u1, u2, u3⟩ := unit_bounds f (lowestN 2 a) (wholeN 2 a) hs l1 l2
      have hd := drop_in f a
      refine Ev.step (fun k => by rw [chance_Narrow.j0, if_neg (by decide), of_f 2 a ha c, Option.bind_some]) (Ev.bind (Ev.of (round_Unit.mono _ _ _) (unit_f 0 f (lowestN 2 a) (wholeN 2 a) hs l1 l2)) ?_)
      dsimp only
      rw [w64_id _ (by omega) (by omega), show unitN f (lowestN 2 a) (wholeN 2 a) - lowestN 2 a = dropN f a from rfl]
      refine Ev.bind (shift_ev _ hs (dropN f a) (by omega) (by omega)) ?_
      have keep : keepsN f a = true → Ev (fun k => chance_Narrow.j1 k f (a : Int) (w : Int) (unitN f (lowestN 2 a) (wholeN 2 a)) (dropN f a) ((shiftN (wholeN 2 a) (dropN f a)).1 : Int) true (negN 2 a) (lowestN 2 a) (wholeN 2 a : Int) false) (chanN f a w : Int) := by
        intro h
        unfold chanN; rw [if_pos h]
        exact Ev.step (fun k => by rw [chance_Narrow.j1, if_pos rfl]) (Ev.bind (narrow_ev f a ha) (Ev.now _))
      by_cases d : dropN f a ≤ 0
      · exact Ev.congr (fun k => by rw [if_pos d]) (keep (decide_eq_true (.inr (.inr (.inl d)))))
      · refine Ev.congr (fun k => by rw [if_neg d]) ?_
        have e2 : shiftN (wholeN 2 a) (dropN f a) = (wholeN 2 a / 2 ^ (dropN f a).toNat, decide (wholeN 2 a % 2 ^ (dropN f a).toNat ≠ 0)) := by
          have := shiftN_right (wholeN 2 a) (dropN f a).toNat
          rwa [Int.toNat_of_nonneg (by omega)] at this
        by_cases m : wholeN 2 a % 2 ^ (dropN f a).toNat = 0
        · have := keep (decide_eq_true (.inr (.inr (.inr m))))
          rw [e2] at this ⊢
          rw [show (!decide (wholeN 2 a % 2 ^ (dropN f a).toNat ≠ 0)) = true from by rw [decide_eq_false (by omega)]; rfl]
          exact this
        · rw [e2]
          dsimp only
          rw [show (!decide (wholeN 2 a % 2 ^ (dropN f a).toNat ≠ 0)) = false from by rw [decide_eq_true m]; rfl]
          have hk : keepsN f a = false := decide_eq_false (by omega)
          have hc : cutN (wholeN 2 a) (dropN f a) = wholeN 2 a % 2 ^ (dropN f a).toNat := by unfold cutN; rw [if_neg (by omega)]
          refine Ev.step (fun k => by rw [chance_Narrow.j1, if_neg (by decide), cut_f _ hs _ (by omega), Option.bind_some, hc]) (Ev.bind (part_ev _ hs _ (by omega) (by omega)) ?_)
          obtain ⟨q1, q2⟩ := quo_bounds f (lowestN 2 a) (wholeN 2 a)
          have hb := fbounds f
          have hp := pow_le32 (show fm f + 1 ≤ 32 by omega)
          rw [← drop_quo f a d] at q1 q2
          have hw' := u64_id w (by omega)
          obtain ⟨v1, v2⟩ := single_unit f a
          have hu : unitN f (lowestN 2 a) (wholeN 2 a) = leastN f - fm f + (riseN f (lowestN 2 a) (wholeN 2 a) : Nat) := rfl
          have fin : ∀ q : Nat, q ≤ 2 ^ (fm f + 1) → (riseN f (lowestN 2 a) (wholeN 2 a) = 0 ∨ 2 ^ fm f ≤ q) → Ev (fun k => chance_Narrow.j2 k f (unitN f (lowestN 2 a) (wholeN 2 a)) (q : Int) (negN 2 a) (lowestN 2 a) (wholeN 2 a : Int) false) ((capN f 0 (negN 2 a) (riseN f (lowestN 2 a) (wholeN 2 a) * 2 ^ fm f + q) + signN f (negN 2 a) : Nat) : Int) := by
            intro q h1 h2
            have hk := unit_key f 0 (negN 2 a) _ q h1 h2
            have hpk := packs_ev f 0 (negN 2 a) (unitN f (lowestN 2 a) (wholeN 2 a)) q false (by omega)
            rw [clampE_id _ (by omega) (by omega)] at hpk
            unfold packN excN overN at hpk
            rw [hu, hk] at hpk
            rw [hu]
            refine Ev.step (fun k => by rw [chance_Narrow.j2]) (Ev.bind hpk ?_)
            unfold capN
            by_cases o : infK f ≤ riseN f (lowestN 2 a) (wholeN 2 a) * 2 ^ fm f + q
            · rw [if_pos o, show decide (topN f * 2 ^ fm f ≤ riseN f (lowestN 2 a) (wholeN 2 a) * 2 ^ fm f + q) = true from decide_eq_true o]
              exact Ev.congr (fun k => by rw [if_pos rfl, inf_f]; rfl) (Ev.now _)
            · rw [if_neg o, show decide (topN f * 2 ^ fm f ≤ riseN f (lowestN 2 a) (wholeN 2 a) * 2 ^ fm f + q) = false from decide_eq_false o]
              exact Ev.congr (fun k => by rw [if_neg (show ¬ false = true by decide)]; rfl) (Ev.now _)
          rw [hw']
          have hr : riseN f (lowestN 2 a) (wholeN 2 a) = 0 ∨ 2 ^ fm f ≤ wholeN 2 a / 2 ^ (dropN f a).toNat := by
            by_cases r0 : riseN f (lowestN 2 a) (wholeN 2 a) = 0
            · exact .inl r0
            · exact .inr (q2 r0)
          unfold chanN stepN
          rw [hk, if_neg (by decide)]
          by_cases p : w < partN (wholeN 2 a) (dropN f a)
          · rw [if_pos p]
            have := fin (wholeN 2 a / 2 ^ (dropN f a).toNat + 1) (by omega) (by omega)
            refine Ev.congr (fun k => ?_) this
            rw [if_pos (by omega), show ((wholeN 2 a / 2 ^ (dropN f a).toNat : Nat) : Int) + 1 = ((wholeN 2 a / 2 ^ (dropN f a).toNat + 1 : Nat) : Int) from rfl, u64_id _ (by omega)]
          · rw [if_neg p]
            have := fin (wholeN 2 a / 2 ^ (dropN f a).toNat) (by omega) hr
            refine Ev.congr (fun k => ?_) this
            rw [if_neg (by omega)]
  · refine Ev.congr (fun k => by rw [if_neg (by simp [c])]) (chance_keep f a w ha (decide_eq_true (.inl (by omega))))
end Go.Proofs.Ytoljndjpnbdjmaa.Round

/- What is widened is narrowed to itself, and order stays: plain numbers alone. -/
namespace Go.Proofs.Ytoljndjpnbdjmaa.Round
open Go.RowKit Go.Proofs.Ytoljndjpnbdjmaa.P Go.Proofs.Ytoljndjpnbdjmaa.Num Go.Proofs.Ytoljndjpnbdjmaa.BitsF Go.Proofs.Ytoljndjpnbdjmaa.Fmt Go.Proofs.YtoljndjpnbdjmaaW.PrintWords Go.Proofs.YtoljndjpnbdjmaaW.PrintLast Go.Proofs.YtoljndjpnbdjmaaW.PrintMore

theorem key_none (f mode : Int) (neg : Bool) (x : Int) : keyN f mode neg x 0 false = 0 := by
  unfold keyN
  have hr : riseN f x 0 = 0 := by unfold riseN; rw [if_pos rfl]
  have hq : quoN 0 (unitN f x 0 - x) = 0 := by unfold quoN; split <;> simp
  have hl : leftN 0 (unitN f x 0 - x) false = 0 := left_none _ (.inr (by simp))
  rw [hr, hq, hl, up_none]; simp
theorem nan_single : clsN 2 (nanN 2) = 4 := by decide
theorem wide_none (f : Int) : wideM f 0 = 0 := by
  have := (infK_lt f).2
  unfold wideM wideK
  rw [if_neg (by omega)]
  have : amtN f 0 = 0 := by unfold amtN; simp
  rw [this, Nat.zero_mul]; exact key_none _ _ _ _
theorem cls_none (f : Int) (v : Nat) : clsN f v = 0 ↔ magN f v = 0 := by
  obtain ⟨h1, h2⟩ := mag_parts f v
  have hd := Nat.div_add_mod (magN f v) (2 ^ fm f)
  have hp := Nat.two_pow_pos (fm f)
  constructor
  · intro h
    unfold clsN at h
    by_cases c : expN f v = 0
    · rw [if_pos c] at h
      by_cases d : fracN f v = 0
      · rw [h1, h2, c, d] at hd; omega
      · rw [if_neg d] at h; omega
    · rw [if_neg c] at h
      split at h
      · omega
      · split at h
        · omega
        · split at h <;> omega
  · intro h
    rw [h, Nat.zero_div] at h1
    rw [h, Nat.zero_mod] at h2
    unfold clsN
    rw [if_pos h1.symm, if_pos h2.symm]
theorem not_nan (f : Int) (v : Nat) (h : isNan f v = false) : magN f v ≤ infK f := by
  rcases Nat.lt_or_ge (infK f) (magN f v) with c | c
  · rw [(mag_nan f v).mpr c] at h; exact absurd h (by decide)
  · exact c
theorem nan_not (f : Int) (v : Nat) (h : magN f v ≤ infK f) : isNan f v = false := by
  cases c : isNan f v
  · rfl
  · have := (mag_nan f v).mp c; omega
/-- A number that is none, widened. -/
theorem widen_nan (f : Int) (v : Nat) (h : isNan f v = true) : toN f 2 0 v = nanN 2 := by
  unfold toN; rw [if_pos (of_decide_eq_true h)]
theorem single_nan : isNan 2 (nanN 2) = true := by decide
/-- Any one's parts, widened. -/
theorem widen_parts (f : Int) (v : Nat) (h : isNan f v = false) : isNan 2 (toN f 2 0 v) = false ∧ (clsN 2 (toN f 2 0 v) = 0 ↔ clsN f v = 0) ∧
    placeN 2 (lowN 2 (toN f 2 0 v)) = if negN f v then -1 - (wideM f (magN f v) : Int) else (wideM f (magN f v) : Int) := by
  have hm := not_nan f v h
  have hb := wideM_bound f hm
  have hl := (infK_lt 2).1
  obtain ⟨s1, s2, s3⟩ := sign_parts 2 (wideM f (magN f v)) (negN f v) (by omega)
  rw [widen_is f v hm]
  refine ⟨nan_not 2 _ (by rw [s2]; exact hb), ?_, place_sign 2 _ _ (by omega)⟩
  rw [cls_none, cls_none, s2]
  have h0 := wideM_le_iff f hm (Nat.zero_le (infK f))
  rw [wide_none] at h0
  omega
theorem back (f : Int) (x : Nat) (h : x < 2 ^ (fe f + fm f + 1)) : toN 2 f 0 (toN f 2 0 x) = if isNan f x then nanN f else x := by
  cases c : isNan f x
  · have hm := not_nan f x c
    rw [widen_is f x hm, narrow_is f _ _ hm, ← mag_sign f x h]; rfl
  · rw [widen_nan f x c]
    unfold toN; rw [if_pos (by rw [nan_single]; exact Nat.le_refl 4)]; rfl
theorem order (f : Int) (a b : Nat) : cmpN 2 (toN f 2 0 a) (toN f 2 0 b) = cmpN f a b := by
  cases ca : isNan f a
  · cases cb : isNan f b
    · obtain ⟨a1, a2, a3⟩ := widen_parts f a ca
      obtain ⟨b1, b2, b3⟩ := widen_parts f b cb
      have hA : placeN f (lowN f a) = if negN f a then -1 - (magN f a : Int) else (magN f a : Int) := by
        show (if negN f (lowN f a) then -1 - (magN f (lowN f a) : Int) else (magN f (lowN f a) : Int)) = _
        rw [neg_low, show magN f (lowN f a) = magN f a from by unfold magN lowN; rw [Nat.mod_mod_of_dvd]; exact Nat.pow_dvd_pow 2 (by omega)]
      have hB : placeN f (lowN f b) = if negN f b then -1 - (magN f b : Int) else (magN f b : Int) := by
        show (if negN f (lowN f b) then -1 - (magN f (lowN f b) : Int) else (magN f (lowN f b) : Int)) = _
        rw [neg_low, show magN f (lowN f b) = magN f b from by unfold magN lowN; rw [Nat.mod_mod_of_dvd]; exact Nat.pow_dvd_pow 2 (by omega)]
      have w1 := wideM_le_iff f (not_nan f a ca) (not_nan f b cb)
      have w2 := wideM_le_iff f (not_nan f b cb) (not_nan f a ca)
      have w3 := wideM_le_iff f (Nat.zero_le _) (not_nan f a ca)
      unfold cmpN
      rw [a1, b1, ca, cb, a3, b3, hA, hB, if_neg (show ¬ (false || false) = true by decide), if_neg (show ¬ (false || false) = true by decide)]
      generalize magN f a = A at *
      generalize magN f b = B at *
      generalize wideM f A = U at *
      generalize wideM f B = V at *
      by_cases z : clsN f a = 0 ∧ clsN f b = 0
      · rw [if_pos z, if_pos ⟨a2.mpr z.1, b2.mpr z.2⟩]
      · rw [if_neg z, if_neg (fun h => z ⟨a2.mp h.1, b2.mp h.2⟩)]
        cases negN f a <;> cases negN f b <;> simp only [Bool.false_eq_true, if_false, if_true] <;> repeat' split
        all_goals first | rfl | (exfalso; omega)
    · rw [widen_nan f b cb]; unfold cmpN; rw [single_nan, cb, Bool.or_true, Bool.or_true, if_pos rfl, if_pos rfl]
  · rw [widen_nan f a ca]; unfold cmpN; rw [single_nan, ca, Bool.true_or, Bool.true_or, if_pos rfl, if_pos rfl]
end Go.Proofs.Ytoljndjpnbdjmaa.Round

/- What is a number of a format stays it; parts of a brain float's unit: plain numbers alone. -/
namespace Go.Proofs.Ytoljndjpnbdjmaa.Round
open Go.RowKit Go.Proofs.Ytoljndjpnbdjmaa.P Go.Proofs.Ytoljndjpnbdjmaa.Num Go.Proofs.Ytoljndjpnbdjmaa.BitsF Go.Proofs.Ytoljndjpnbdjmaa.Fmt Go.Proofs.YtoljndjpnbdjmaaW.PrintWords Go.Proofs.YtoljndjpnbdjmaaW.PrintLast Go.Proofs.YtoljndjpnbdjmaaW.PrintMore

theorem left_zero (s : Nat) (d : Int) (h : leftN s d false = 0) : d ≤ 0 ∨ s % 2 ^ d.toNat = 0 := by
  unfold leftN at h
  by_cases c : d ≤ 0 ∨ s % 2 ^ d.toNat = 0
  · exact c
  · rw [if_neg c] at h
    split at h
    · omega
    · split at h <;> omega
/-- What is left of a single number below a format's unit. -/
theorem left_drop (f : Int) (a : Nat) : leftN (wholeN 2 a) (dropN f a) false = leftN (amtN 2 (magN 2 a)) (unitN f (-149) (amtN 2 (magN 2 a)) - (-149)) false := by
  rw [amt_whole]
  have hr := rise_scale f (-149) (wholeN 2 a) (expN 2 a - 1)
  have hl := (quo_scale (wholeN 2 a) (expN 2 a - 1) (unitN f (-149) (wholeN 2 a * 2 ^ (expN 2 a - 1)) - (-149))).2
  rw [hl]
  have he : lowestN 2 a = -149 + ((expN 2 a - 1 : Nat) : Int) := rfl
  unfold dropN unitN
  rw [he, ← hr]
  congr 1; omega
theorem left_wide (f : Int) (K : Nat) : leftN (amtN f K * 2 ^ cN f) (unitN f (-149) (amtN f K * 2 ^ cN f) - (-149)) false = 0 := by
  have hm := Nat.mod_lt K (Nat.two_pow_pos (fm f))
  have hs : 2 ^ (fm f + 1) = 2 * 2 ^ fm f := by rw [Nat.pow_succ, Nat.mul_comm]
  have hc := c_is f
  unfold amtN
  generalize K % 2 ^ fm f = m at *
  generalize K / 2 ^ fm f = E at *
  rw [Nat.mul_assoc, ← Nat.pow_add]
  have h := (exact_all f (if E = 0 then m else m + 2 ^ fm f) (E - 1 + cN f) (E - 1) (by split <;> omega) (by split <;> omega)).2.2
  rw [show leastN f - (fm f : Int) + ((E - 1 : Nat) : Int) - ((E - 1 + cN f : Nat) : Int) = -149 by omega] at h
  exact h
theorem wide_keeps (f : Int) (x : Nat) : keepsN f (toN f 2 0 x) = true := by
  unfold keepsN
  rw [decide_eq_true_iff]
  cases c : isNan f x
  · have hm := not_nan f x c
    have hb := wideM_bound f hm
    obtain ⟨j1, _⟩ := infK_lt 2
    rw [widen_is f x hm]
    obtain ⟨h1, h2, _⟩ := sign_parts 2 (wideM f (magN f x)) (negN f x) (by omega)
    generalize hW : wideM f (magN f x) + signN 2 (negN f x) = W at *
    by_cases e : magN f x = infK f
    · left
      have := mag_exp 2 W
      rw [h2] at this
      unfold wideM at this; rw [if_pos e] at this
      omega
    · right; right
      apply left_zero
      rw [left_drop, h2]
      unfold wideM; rw [if_neg e]
      unfold wideK; rw [wide_exact]
      exact left_wide f _
  · left
    rw [widen_nan f x c]; decide
theorem chance_back (f : Int) (x w : Nat) (h : x < 2 ^ (fe f + fm f + 1)) : chanN f (toN f 2 0 x) w = if isNan f x then nanN f else x := by
  unfold chanN; rw [if_pos (wide_keeps f x), back f x h]
end Go.Proofs.Ytoljndjpnbdjmaa.Round

/- ChanceExact: what is a number of the format already stays it, by any word: for every number of each format, every word. -/
namespace Go.Proofs.Ytoljndjpnbdjmaa.Pure
open Go.RowKit Go.Proofs.Ytoljndjpnbdjmaa.P Go.Proofs.Ytoljndjpnbdjmaa.Num Go.Proofs.Ytoljndjpnbdjmaa.BitsF Go.Proofs.Ytoljndjpnbdjmaa.Fmt Go.Proofs.Ytoljndjpnbdjmaa.Round Go.Proofs.YtoljndjpnbdjmaaW.PrintWords Go.Proofs.YtoljndjpnbdjmaaW.PrintLast Go.Proofs.YtoljndjpnbdjmaaW.PrintMore
theorem known11_ev : Ev (fun k => anneallaw11_known.f k) true := Ev.of anneallaw11_known.mono (k := 60) (by kernel_rfl)
theorem form3 (c : Nat) : 0 ≤ Int.tmod (c : Int) 3 ∧ Int.tmod (c : Int) 3 < 3 := by
  rw [Int.tmod_eq_emod_of_nonneg (Int.natCast_nonneg c)]; omega
theorem ChanceExact : anneallaw11_ChanceExact.Pure := by
  intro a0 a1 a2 h0 h1 h2
  obtain ⟨p0, q0⟩ := wf_u8 h0
  obtain ⟨p1, q1⟩ := wf_u32 h1
  obtain ⟨p2, q2⟩ := wf_u32 h2
  obtain ⟨c, rfl⟩ := nat_of p0
  obtain ⟨a, rfl⟩ := nat_of p1
  obtain ⟨w, rfl⟩ := nat_of p2
  obtain ⟨t0, t1⟩ := form3 c
  apply Ev.rounds
  unfold anneallaw11_ChanceExact.f
  refine Ev.bind known11_ev ?_
  refine Ev.congr (fun k => by rw [if_pos rfl, Option.bind_some, if_pos t0, if_pos (by exact t1)]) ?_
  generalize rd ([0, 1, 2] : List Int) (Int.tmod (c : Int) 3) = f
  have hx := low_lt f a
  have xv := low_32 f a
  refine Ev.congr (fun k => by rw [ref_mask_f, Option.bind_some, and_mask f a (by omega)]) ?_
  generalize lowN f a = x at *
  have hw := (to_lt f 2 0 x).2
  have hb := chance_back f x w hx
  refine Ev.bind (rclass_ev f x xv) ?_
  by_cases c4 : 4 ≤ clsN f x
  · rw [show isNan f x = true from decide_eq_true c4, if_pos rfl] at hb
    refine Ev.congr (fun k => by rw [if_pos (by omega), ref_nan_f, Option.bind_some]) (Ev.bind (ref_widen_ev f x xv) (Ev.bind (chance_ev f _ w hw (by omega)) (Ev.congr (fun k => ?_) (Ev.now true))))
    rw [hb, beq_self_eq_true]
  · rw [show isNan f x = false from decide_eq_false c4, if_neg (by decide)] at hb
    refine Ev.congr (fun k => by rw [if_neg (by omega)]) (Ev.bind (ref_widen_ev f x xv) (Ev.bind (chance_ev f _ w hw (by omega)) (Ev.congr (fun k => ?_) (Ev.now true))))
    rw [hb, beq_self_eq_true]
end Go.Proofs.Ytoljndjpnbdjmaa.Pure
