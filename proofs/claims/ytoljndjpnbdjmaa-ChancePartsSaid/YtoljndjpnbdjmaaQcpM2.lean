import Derived.Test.YtoljndjpnbdjmaaQcpM1
import Derived.Test.YtoljndjpnbdjmaaQcpPx23
import Derived.Test.YtoljndjpnbdjmaaQcpPx26
import Derived.Test.YtoljndjpnbdjmaaQcpPx15
import Derived.Test.YtoljndjpnbdjmaaQcpPx16
import Derived.Test.YtoljndjpnbdjmaaQcpPx19
import Derived.Test.YtoljndjpnbdjmaaQcpPx20
import Derived.Test.YtoljndjpnbdjmaaQcpPx24
import Derived.Test.YtoljndjpnbdjmaaQcpPx8
import Derived.Test.YtoljndjpnbdjmaaQcpPx9
import Derived.Test.YtoljndjpnbdjmaaQcpPx10
import Derived.Test.YtoljndjpnbdjmaaQcpPx11
import Derived.Test.YtoljndjpnbdjmaaQcpPx12
import Derived.Test.YtoljndjpnbdjmaaQcpPx7
import Derived.Test.YtoljndjpnbdjmaaQcpPx22
import Derived.Test.YtoljndjpnbdjmaaQcpPx28
import Derived.Test.YtoljndjpnbdjmaaQcpPx29
import Derived.Test.YtoljndjpnbdjmaaQcpPx30
import Derived.Test.YtoljndjpnbdjmaaQcpPx31
import Derived.Test.YtoljndjpnbdjmaaQcpPx34
/- The reference's classes and order of any numbers: plain numbers. -/
namespace Go.Proofs.Ytoljndjpnbdjmaa.Round
open Go.RowKit Go.Proofs.Ytoljndjpnbdjmaa.P Go.Proofs.Ytoljndjpnbdjmaa.Num Go.Proofs.Ytoljndjpnbdjmaa.BitsF Go.Proofs.Ytoljndjpnbdjmaa.Fmt Go.Proofs.YtoljndjpnbdjmaaW.PrintWords Go.Proofs.YtoljndjpnbdjmaaW.PrintLast Go.Proofs.YtoljndjpnbdjmaaW.PrintMore

theorem mod_part (v a b c : Nat) (h : b + c ≤ a) : v % 2 ^ a / 2 ^ b % 2 ^ c = v / 2 ^ b % 2 ^ c := by
  apply Nat.eq_of_testBit_eq
  intro i
  rw [Nat.testBit_mod_two_pow, Nat.testBit_mod_two_pow, Nat.testBit_div_two_pow, Nat.testBit_div_two_pow, Nat.testBit_mod_two_pow]
  by_cases h1 : i < c
  · have : i + b < a := by omega
    simp [h1, this]
  · simp [h1]
theorem neg_low (f : Int) (v : Nat) : negN f (lowN f v) = negN f v := by
  unfold negN lowN
  have := mod_part v (fe f + fm f + 1) (fe f + fm f) 1 (Nat.le_refl _)
  rw [Nat.pow_one] at this
  rw [this]
def isNan (f : Int) (v : Nat) : Bool := decide (4 ≤ clsN f v)
def isLoud (f : Int) (v : Nat) : Bool := decide (clsN f v = 5)
theorem cls_le (f : Int) (v : Nat) : clsN f v ≤ 5 := by
  unfold clsN
  repeat' split
  all_goals omega
/-- How two numbers stand to one another. -/
def cmpN (f : Int) (a b : Nat) : Int × Bool :=
  if (isNan f a || isNan f b) = true then (0, false) else if clsN f a = 0 ∧ clsN f b = 0 then (0, true)
  else if placeN f (lowN f a) < placeN f (lowN f b) then (-1, true) else if placeN f (lowN f a) > placeN f (lowN f b) then (1, true) else (0, true)
end Go.Proofs.Ytoljndjpnbdjmaa.Round

/- The reference's finite numbers: their whole numbers and exponents. -/
namespace Go.Proofs.Ytoljndjpnbdjmaa.Round
open Go.RowKit Go.Proofs.Ytoljndjpnbdjmaa.P Go.Proofs.Ytoljndjpnbdjmaa.Num Go.Proofs.Ytoljndjpnbdjmaa.BitsF Go.Proofs.Ytoljndjpnbdjmaa.Fmt Go.Proofs.YtoljndjpnbdjmaaW.PrintWords Go.Proofs.YtoljndjpnbdjmaaW.PrintLast Go.Proofs.YtoljndjpnbdjmaaW.PrintMore

end Go.Proofs.Ytoljndjpnbdjmaa.Round

/- The program's parts of a number, its class, its whole number and exponent: as plain numbers; the reference's are the same. -/
namespace Go.Proofs.Ytoljndjpnbdjmaa.Round
open Go.RowKit Go.Proofs.Ytoljndjpnbdjmaa.P Go.Proofs.Ytoljndjpnbdjmaa.Num Go.Proofs.Ytoljndjpnbdjmaa.BitsF Go.Proofs.Ytoljndjpnbdjmaa.Fmt Go.Proofs.YtoljndjpnbdjmaaW.PrintWords Go.Proofs.YtoljndjpnbdjmaaW.PrintLast Go.Proofs.YtoljndjpnbdjmaaW.PrintMore

theorem sum_w (f : Int) : IntKind.u64.wrap (wrap64 ((fe f : Int) + (fm f : Int))) = ((fe f + fm f : Nat) : Int) := by
  have h := fbounds f
  rw [show (fe f : Int) + (fm f : Int) = ((fe f + fm f : Nat) : Int) by omega, wu _ (by omega)]
theorem parts_f (f : Int) (v : Nat) (hv : v < 4294967296) : format_Parts.f f (v : Int) = some (negN f v, (expN f v : Int), (fracN f v : Int)) := by
  unfold format_Parts.f
  have h := fbounds f
  have hd : v / 2 ^ (fe f + fm f) < 4294967296 := Nat.lt_of_le_of_lt (Nat.div_le_self _ _) hv
  have hd' : v / 2 ^ fm f < 4294967296 := Nat.lt_of_le_of_lt (Nat.div_le_self _ _) hv
  rw [widths_f, Option.bind_some]
  dsimp only
  rw [sum_w, u64_id (fm f) (by omega), u64_id (fe f) (by omega), if_pos (Int.natCast_nonneg _), if_pos (Int.natCast_nonneg _), if_pos (Int.natCast_nonneg _), shr_u32 _ _ hv, shr_u32 _ _ hv, and1_u32 _ hd, mask_u32 _ _ hd' (by omega), mask_u32 _ _ hv (by omega), small_w64 _ _ (by omega)]
  rw [show (1 : Int) = ((1 : Nat) : Int) from rfl, beq_nn]
  unfold negN expN fracN
  exact Eq.refl _
theorem class_j0 (k : Nat) (f : Int) (e m : Nat) (he : e ≤ topN f) (hm : m < 2 ^ fm f) (hz : ¬ (e = 0 ∧ m = 0)) :
    format_Class.j0 (k + 1) f (fm f : Int) (e : Int) (m : Int) false = some (((if e = 0 then (if m = 0 then 0 else 1) else if e < topN f then 2 else if m = 0 then 3 else if m / 2 ^ (fm f - 1) = 1 then 4 else 5 : Nat)) : Int) := by
  have h := fbounds f
  have h31 := pow_le31 (show fm f ≤ 31 by omega)
  rw [format_Class.j0, if_neg (by decide)]
  by_cases c : e = 0
  · subst c
    rw [if_pos (by rfl), if_pos rfl, if_neg (fun h => hz ⟨rfl, h⟩)]; rfl
  · rw [if_neg (by omega), if_neg c, top_f, Option.bind_some]
    by_cases c2 : e < topN f
    · rw [if_pos (by omega), if_pos c2]; rfl
    · rw [if_neg (by omega), if_neg c2]
      by_cases c3 : m = 0
      · rw [if_pos (by omega), if_pos c3]; rfl
      · rw [if_neg (by omega), if_neg c3, show (fm f : Int) - 1 = ((fm f - 1 : Nat) : Int) by omega, wu _ (by omega), if_pos (Int.natCast_nonneg _), shr_u32 _ _ (by omega)]
        by_cases c4 : m / 2 ^ (fm f - 1) = 1
        · rw [if_pos (by rw [c4]; rfl), if_pos c4]; rfl
        · rw [if_neg (by omega), if_neg c4]; rfl
theorem class_ev (f : Int) (v : Nat) (hv : v < 4294967296) : Ev (fun k => format_Class.f k f (v : Int)) (clsN f v : Int) := by
  have he := exp_le f v
  have hm := frac_lt f v
  refine ⟨1, fun k hk => ?_⟩
  obtain ⟨k, rfl⟩ : ∃ j, k = j + 1 := ⟨k - 1, by omega⟩
  show format_Class.f (k + 1) f (v : Int) = _
  unfold format_Class.f clsN
  rw [widths_f, Option.bind_some, parts_f f v hv, Option.bind_some]
  dsimp only
  generalize expN f v = e at *
  generalize fracN f v = m at *
  by_cases c : e = 0 ∧ m = 0
  · obtain ⟨rfl, rfl⟩ := c
    rw [if_pos (by rfl), format_Class.j0, if_pos (by rfl), if_pos rfl, if_pos rfl]; rfl
  · by_cases c2 : e = 0
    · have e2 : (((m : Int) == 0) : Bool) = false := by simp; omega
      rw [if_pos (by omega), e2, class_j0 k f e m he hm c]
    · rw [if_neg (by omega), class_j0 k f e m he hm c]
theorem neg_f (f : Int) (v : Nat) (hv : v < 4294967296) : format_Neg.f f (v : Int) = some (negN f v) := by
  unfold format_Neg.f; rw [parts_f f v hv]; rfl
/-- The plain one that is no number. -/
def nanN (f : Int) : Nat := topN f * 2 ^ fm f + 2 ^ (fm f - 1)
theorem half_frac (f : Int) : 2 ^ (fm f - 1) < 2 ^ fm f := by
  have h := fbounds f
  exact Nat.pow_lt_pow_right (by decide) (by omega)
theorem nan_f (f : Int) : format_Nan.f f = some (nanN f : Int) := by
  unfold format_Nan.f
  have h := fbounds f
  rw [widths_f, Option.bind_some, top_f, Option.bind_some]
  dsimp only
  rw [show (fm f : Int) - 1 = ((fm f - 1 : Nat) : Int) by omega, wu _ (by omega), if_pos (Int.natCast_nonneg _), one_shl _ (by omega), join_f f false _ _ (Nat.le_refl _) (half_frac f), Option.bind_some]
  unfold joinN nanN
  simp [signN]
theorem bad_f (f : Int) : sum_Bad.f f = some ((nanN f : Int), true, false, false, false, false) := by
  unfold sum_Bad.f; rw [nan_f]; rfl
theorem unpack_f (f : Int) (v : Nat) (hv : v < 4294967296) (h : expN f v < topN f) : format_Unpack.f f (v : Int) = some (negN f v, lowestN f v, (wholeN f v : Int)) := by
  unfold format_Unpack.f lowestN wholeN
  obtain ⟨b1, b2, b3, b4, b5⟩ := fbounds f
  have hm := frac_lt f v
  have h31 := pow_le31 (show fm f ≤ 31 by omega)
  have hl := least_cases f
  have ht := top_cases f
  rw [widths_f, Option.bind_some, parts_f f v hv, Option.bind_some]
  dsimp only
  generalize expN f v = e at *
  generalize fracN f v = m at *
  by_cases c : e = 0
  · subst c
    rw [if_pos (by rfl), least_f, Option.bind_some, if_pos rfl, w64_id (leastN f - fm f) (by omega) (by omega), u64_id m (by omega)]
    simp
  · rw [if_neg (by omega), top_f, Option.bind_some, if_neg (by omega), least_f, Option.bind_some, if_neg c, u64_id (fm f) (by omega), if_pos (Int.natCast_nonneg _), u64_id m (by omega), or_top m _ hm (by omega), w64_id (leastN f - fm f) (by omega) (by omega), w64_id (leastN f - fm f + e) (by omega) (by omega), w64_id _ (by omega) (by omega), show leastN f - (fm f : Int) + (e : Int) - 1 = leastN f - fm f + ((e - 1 : Nat) : Int) by omega]
theorem of_f (f : Int) (v : Nat) (hv : v < 4294967296) (h : expN f v < topN f) : sum_Of.f f (v : Int) = some (negN f v, lowestN f v, (wholeN f v : Int), false) := by
  unfold sum_Of.f; rw [unpack_f f v hv h]; rfl

end Go.Proofs.Ytoljndjpnbdjmaa.Round

/- The reference's loops of layer 1: how many bits, shifts. -/
namespace Go.Proofs.Ytoljndjpnbdjmaa.BitsF
open Go.RowKit Go.Proofs.Ytoljndjpnbdjmaa.P Go.Proofs.Ytoljndjpnbdjmaa.Num Go.Proofs.YtoljndjpnbdjmaaW.PrintWords Go.Proofs.YtoljndjpnbdjmaaW.PrintLast Go.Proofs.YtoljndjpnbdjmaaW.PrintMore

/-! ### the reference's loops -/
end Go.Proofs.Ytoljndjpnbdjmaa.BitsF

/- What the reference's rounding computes: the same plain numbers. -/
namespace Go.Proofs.Ytoljndjpnbdjmaa.Round
open Go.RowKit Go.Proofs.Ytoljndjpnbdjmaa.P Go.Proofs.Ytoljndjpnbdjmaa.Num Go.Proofs.Ytoljndjpnbdjmaa.BitsF Go.Proofs.Ytoljndjpnbdjmaa.Fmt Go.Proofs.YtoljndjpnbdjmaaW.PrintWords Go.Proofs.YtoljndjpnbdjmaaW.PrintLast Go.Proofs.YtoljndjpnbdjmaaW.PrintMore

end Go.Proofs.Ytoljndjpnbdjmaa.Round

/- The reference's rounding computes the same numbers as the program's. -/
namespace Go.Proofs.Ytoljndjpnbdjmaa.Round
open Go.RowKit Go.Proofs.Ytoljndjpnbdjmaa.P Go.Proofs.Ytoljndjpnbdjmaa.Num Go.Proofs.Ytoljndjpnbdjmaa.BitsF Go.Proofs.Ytoljndjpnbdjmaa.Fmt Go.Proofs.YtoljndjpnbdjmaaW.PrintWords Go.Proofs.YtoljndjpnbdjmaaW.PrintLast Go.Proofs.YtoljndjpnbdjmaaW.PrintMore

end Go.Proofs.Ytoljndjpnbdjmaa.Round

/- A number in another format: the program's and the reference's, as plain numbers. -/
namespace Go.Proofs.Ytoljndjpnbdjmaa.Round
open Go.RowKit Go.Proofs.Ytoljndjpnbdjmaa.P Go.Proofs.Ytoljndjpnbdjmaa.Num Go.Proofs.Ytoljndjpnbdjmaa.BitsF Go.Proofs.Ytoljndjpnbdjmaa.Fmt Go.Proofs.YtoljndjpnbdjmaaW.PrintWords Go.Proofs.YtoljndjpnbdjmaaW.PrintLast Go.Proofs.YtoljndjpnbdjmaaW.PrintMore

theorem packs_ev (f mode : Int) (neg : Bool) (x : Int) (s : Nat) (more : Bool) (hs : s < 18446744073709551616) :
    Ev (fun k => round_Pack.f k f mode neg x (s : Int) more) ((packN f mode neg (clampE x) s more : Int), false, false, excN f mode neg (clampE x) s more) :=
  Ev.of (round_Pack.mono _ _ _ _ _ _) (pack_f 0 f mode neg x s more hs)
theorem whole_64 (f : Int) (v : Nat) : wholeN f v < 18446744073709551616 := by
  have h := fbounds f
  have h1 := whole_lt f v
  have h2 := pow_le31 (show fm f + 1 ≤ 31 by omega)
  omega
theorem lowest_in (f : Int) (v : Nat) : -10000 ≤ lowestN f v ∧ lowestN f v ≤ 10000 := by
  have := least_cases f; have := top_cases f; have := fbounds f; have := exp_le f v
  unfold lowestN; omega
theorem cls_exp (f : Int) (v : Nat) (h : clsN f v < 3) : expN f v < topN f := (cls_finite f v).mp h
/-- A number in another format, with what is told beside it. -/
def toN (g f mode : Int) (v : Nat) : Nat :=
  if 4 ≤ clsN g v then nanN f else if clsN g v = 3 then infN f (negN g v) else packN f mode (negN g v) (lowestN g v) (wholeN g v) false
def toX (g f mode : Int) (v : Nat) : Bool × Bool × Bool × Bool × Bool :=
  if 4 ≤ clsN g v then (isLoud g v, false, false, false, false) else if clsN g v = 3 then (false, false, false, false, false) else (false, false, excN f mode (negN g v) (lowestN g v) (wholeN g v) false)
theorem to_ev (g f mode : Int) (v : Nat) (hv : v < 4294967296) : Ev (fun k => conv_To.f k g f mode (v : Int)) ((toN g f mode v : Int), toX g f mode v) := by
  refine Ev.congr (fun k => by unfold conv_To.f; rfl) (Ev.bind (class_ev g v hv) ?_)
  have hc := cls_le g v
  unfold toN toX
  by_cases c4 : clsN g v = 4
  · have e : isLoud g v = false := by unfold isLoud; rw [c4]; rfl
    rw [if_pos (by omega), if_pos (by omega), e]
    exact Ev.congr (fun k => by rw [if_pos (by omega), nan_f]; rfl) (Ev.now _)
  · by_cases c5 : clsN g v = 5
    · have e : isLoud g v = true := by unfold isLoud; rw [c5]; rfl
      rw [if_pos (by omega), if_pos (by omega), e]
      exact Ev.congr (fun k => by rw [if_neg (by omega), if_pos (by omega), bad_f]; rfl) (Ev.now _)
    · rw [if_neg (show ¬ 4 ≤ clsN g v by omega), if_neg (show ¬ 4 ≤ clsN g v by omega)]
      by_cases c3 : clsN g v = 3
      · rw [if_pos c3, if_pos c3]
        exact Ev.congr (fun k => by rw [if_neg (by omega), if_neg (by omega), if_pos (by omega), neg_f g v hv, Option.bind_some, inf_f]; rfl) (Ev.now _)
      · rw [if_neg c3, if_neg c3]
        obtain ⟨l1, l2⟩ := lowest_in g v
        have hp := packs_ev f mode (negN g v) (lowestN g v) (wholeN g v) false (whole_64 g v)
        rw [clampE_id _ l1 l2] at hp
        exact Ev.congr (fun k => by rw [if_neg (by omega), if_neg (by omega), if_neg (by omega), of_f g v hv (cls_exp g v (by omega)), Option.bind_some]) (Ev.bind hp (Ev.now _))
theorem narrow_ev (f : Int) (v : Nat) (hv : v < 4294967296) : Ev (fun k => conv_Narrow.f k f (v : Int)) (toN 2 f 0 v : Int) :=
  Ev.congr (fun k => by unfold conv_Narrow.f; rfl) (Ev.bind (to_ev 2 f 0 v hv) (Ev.now _))
end Go.Proofs.Ytoljndjpnbdjmaa.Round

/- Narrowing and widening again: on which side of a number its narrowed one stands. Plain numbers alone. -/
namespace Go.Proofs.Ytoljndjpnbdjmaa.Round
open Go.RowKit Go.Proofs.Ytoljndjpnbdjmaa.P Go.Proofs.Ytoljndjpnbdjmaa.Num Go.Proofs.Ytoljndjpnbdjmaa.BitsF Go.Proofs.Ytoljndjpnbdjmaa.Fmt Go.Proofs.YtoljndjpnbdjmaaW.PrintWords Go.Proofs.YtoljndjpnbdjmaaW.PrintLast Go.Proofs.YtoljndjpnbdjmaaW.PrintMore

/-- How many more bits below a single number's least unit has than another format's. -/
def cN (f : Int) : Nat := (leastN f - fm f + 149).toNat
theorem c_is (f : Int) : leastN f - (fm f : Int) = -149 + cN f := by
  unfold cN
  have : fe f = 5 ∧ fm f = 10 ∨ fe f = 8 ∧ fm f = 7 ∨ fe f = 8 ∧ fm f = 23 := fcases f
  unfold leastN
  rcases this with ⟨h1, h2⟩ | ⟨h1, h2⟩ | ⟨h1, h2⟩ <;> rw [h1, h2] <;> decide
def infK (f : Int) : Nat := topN f * 2 ^ fm f
theorem infK_lt (f : Int) : infK f < 2 ^ (fe f + fm f) ∧ 0 < infK f := by
  obtain ⟨_, hi⟩ := inf_lt f false
  have hp := Nat.two_pow_pos (fm f)
  have ht : 0 < topN f * 2 ^ fm f := Nat.mul_pos (by have := top_cases f; omega) hp
  unfold infK; omega
/-- Bits with a sign. -/
theorem sign_parts (f : Int) (P : Nat) (neg : Bool) (h : P < 2 ^ (fe f + fm f)) : negN f (P + signN f neg) = neg ∧ magN f (P + signN f neg) = P ∧ P + signN f neg < 2 ^ (fe f + fm f + 1) := by
  unfold negN magN signN
  have hp := Nat.two_pow_pos (fe f + fm f)
  cases neg
  · simp only [Bool.false_eq_true, if_false, Nat.add_zero]
    rw [Nat.div_eq_of_lt h, Nat.mod_eq_of_lt h, Nat.pow_succ]
    exact ⟨rfl, rfl, by omega⟩
  · simp only [if_true]
    rw [Nat.add_div_right _ hp, Nat.div_eq_of_lt h, Nat.add_mod_right, Nat.mod_eq_of_lt h, Nat.pow_succ]
    exact ⟨rfl, rfl, by omega⟩
theorem place_sign (f : Int) (P : Nat) (neg : Bool) (h : P < 2 ^ (fe f + fm f)) : placeN f (lowN f (P + signN f neg)) = if neg then -1 - (P : Int) else (P : Int) := by
  obtain ⟨h1, h2, h3⟩ := sign_parts f P neg h
  rw [low_id f _ h3]
  unfold placeN
  unfold magN at h2
  rw [h1, h2]
theorem mag_exp (f : Int) (v : Nat) : expN f v < topN f ↔ magN f v < infK f := by
  obtain ⟨h1, _⟩ := mag_parts f v
  unfold infK
  rw [← h1, Nat.div_lt_iff_lt_mul (Nat.two_pow_pos _)]
theorem mag_cls (f : Int) (v : Nat) (h : magN f v = infK f) : clsN f v = 3 := by
  obtain ⟨h1, h2⟩ := mag_parts f v
  have ht := top_cases f
  unfold clsN
  rw [← h1, ← h2, h]
  unfold infK
  rw [Nat.mul_div_cancel _ (Nat.two_pow_pos _), Nat.mul_mod_left, if_neg (by omega), if_neg (by omega), if_pos rfl]
def capN (f mode : Int) (neg : Bool) (K : Nat) : Nat := if infK f ≤ K then (if endless mode neg then infK f else infK f - 1) else K
theorem pack_cap (f mode : Int) (neg : Bool) (x : Int) (s : Nat) (more : Bool) : packN f mode neg x s more = capN f mode neg (keyN f mode neg x s more) + signN f neg := by
  unfold packN capN overN infK; simp only [decide_eq_true_iff]
/-- A finite number in another format. -/
theorem to_finite (g f mode : Int) (v : Nat) (h : magN g v < infK g) : toN g f mode v = capN f mode (negN g v) (keyN f mode (negN g v) (-149) (amtN g (magN g v) * 2 ^ cN g) false) + signN f (negN g v) := by
  have hc := (cls_finite g v).mpr ((mag_exp g v).mpr h)
  unfold toN
  rw [if_neg (by omega), if_neg (by omega), pack_cap, key_whole, c_is, key_scale]
theorem to_infinite (g f mode : Int) (v : Nat) (h : magN g v = infK g) : toN g f mode v = infK f + signN f (negN g v) := by
  have hc := mag_cls g v h
  unfold toN
  rw [if_neg (by omega), if_pos hc]; rfl
theorem amount_cut (f : Int) (q r : Nat) : q * 2 ^ r * 2 ^ cN f = q * 2 ^ (r + cN f) := by rw [Nat.mul_assoc, ← Nat.pow_add]
end Go.Proofs.Ytoljndjpnbdjmaa.Round

/- Widening is exact: a number of a narrow format as a single one, and back. Plain numbers alone. -/
namespace Go.Proofs.Ytoljndjpnbdjmaa.Round
open Go.RowKit Go.Proofs.Ytoljndjpnbdjmaa.P Go.Proofs.Ytoljndjpnbdjmaa.Num Go.Proofs.Ytoljndjpnbdjmaa.BitsF Go.Proofs.Ytoljndjpnbdjmaa.Fmt Go.Proofs.YtoljndjpnbdjmaaW.PrintWords Go.Proofs.YtoljndjpnbdjmaaW.PrintLast Go.Proofs.YtoljndjpnbdjmaaW.PrintMore

/-- A narrow number's bits without its sign, as a single one's. -/
def wideK (f : Int) (K : Nat) : Nat := keyN 2 0 false (-149) (amtN f K * 2 ^ cN f) false
theorem key_parts' (f mode : Int) (neg : Bool) (A : Nat) (h : A % 2 ^ (riseN f (-149) A + cN f) = 0) : amtN f (keyN f mode neg (-149) A false) * 2 ^ cN f = A := by
  have hu : unitN f (-149) A - (-149) = ((riseN f (-149) A + cN f : Nat) : Int) := by
    unfold unitN; rw [c_is]; omega
  obtain ⟨q1, q2⟩ := quo_bounds f (-149) A
  rw [hu] at q1 q2
  have hq : quoN A ((riseN f (-149) A + cN f : Nat) : Int) = A / 2 ^ (riseN f (-149) A + cN f) := by
    unfold quoN
    by_cases c : ((riseN f (-149) A + cN f : Nat) : Int) ≤ 0
    · rw [if_pos c, show riseN f (-149) A + cN f = 0 by omega]; simp
    · rw [if_neg c, Int.toNat_natCast]
  have hl : leftN A ((riseN f (-149) A + cN f : Nat) : Int) false = 0 := left_exact _ _ (.inr (by rw [Int.toNat_natCast]; exact h))
  have hk : keyN f mode neg (-149) A false = riseN f (-149) A * 2 ^ fm f + A / 2 ^ (riseN f (-149) A + cN f) := by
    unfold keyN; rw [hu, hl, up_none, hq]; simp
  rw [hq] at q1 q2
  rw [hk, amt_key f _ _ (by omega) (by rcases Nat.eq_zero_or_pos (riseN f (-149) A) with c | c; exact .inl c; exact .inr (q2 (by omega))), amount_cut]
  exact Nat.div_mul_cancel (Nat.dvd_of_mod_eq_zero h)
theorem wide_exact (f : Int) (mode : Int) (neg : Bool) (K : Nat) : amtN 2 (keyN 2 mode neg (-149) (amtN f K * 2 ^ cN f) false) = amtN f K * 2 ^ cN f := by
  have hc : cN 2 = 0 := by decide
  have hb := fbounds f
  have hm := Nat.mod_lt K (Nat.two_pow_pos (fm f))
  have hs : 2 ^ (fm f + 1) = 2 * 2 ^ fm f := by rw [Nat.pow_succ, Nat.mul_comm]
  have key : ∀ M j : Nat, M < 2 ^ (fm f + 1) → M * 2 ^ j % 2 ^ (riseN 2 (-149) (M * 2 ^ j) + cN 2) = 0 := by
    intro M j hM
    by_cases c : M = 0
    · subst c; simp
    · have h1 := lenN_bound M (fm f + 1) hM
      have hr : riseN 2 (-149) (M * 2 ^ j) ≤ j := by
        unfold riseN
        rw [if_neg (Nat.mul_ne_zero c (Nat.ne_of_gt (Nat.two_pow_pos j))), lenN_mul M j c, show leastN 2 = -126 from rfl]
        omega
      rw [hc, Nat.add_zero]
      obtain ⟨i, hi⟩ : ∃ i, j = i + riseN 2 (-149) (M * 2 ^ j) := ⟨j - riseN 2 (-149) (M * 2 ^ j), by omega⟩
      generalize riseN 2 (-149) (M * 2 ^ j) = r at *
      rw [hi, Nat.pow_add, ← Nat.mul_assoc, Nat.mul_mod_left]
  have h : (amtN f K * 2 ^ cN f) % 2 ^ (riseN 2 (-149) (amtN f K * 2 ^ cN f) + cN 2) = 0 := by
    unfold amtN
    rw [Nat.mul_assoc, ← Nat.pow_add]
    exact key _ _ (by split <;> omega)
  have := key_parts' 2 mode neg _ h
  rw [hc, Nat.pow_zero, Nat.mul_one] at this
  exact this
theorem key_sign (f mode : Int) (n n' : Bool) (x : Int) (s : Nat) (h : ∀ q, upN mode n q (leftN s (unitN f x s - x) false) = upN mode n' q (leftN s (unitN f x s - x) false)) : keyN f mode n x s false = keyN f mode n' x s false := by
  unfold keyN; rw [h]
theorem near_sign (f : Int) (n n' : Bool) (x : Int) (s : Nat) : keyN f 0 n x s false = keyN f 0 n' x s false := key_sign f 0 n n' x s (fun q => rfl)
theorem amt_inf (f : Int) (K : Nat) (h : K < infK f) : amtN f K < 2 ^ fm f * 2 ^ (topN f - 1) := by
  have h1 := amt_lt f K
  have h2 : K / 2 ^ fm f ≤ topN f - 1 := by
    have : K / 2 ^ fm f < topN f := by rw [Nat.div_lt_iff_lt_mul (Nat.two_pow_pos _)]; exact h
    omega
  exact Nat.lt_of_lt_of_le h1 (Nat.mul_le_mul_left _ (Nat.pow_le_pow_right (by decide) h2))
theorem inf_amt (f : Int) : amtN f (infK f) = 2 ^ fm f * 2 ^ (topN f - 1) := by
  have ht := top_cases f
  unfold amtN infK
  rw [Nat.mul_div_cancel _ (Nat.two_pow_pos _), Nat.mul_mod_left, if_neg (by omega), Nat.zero_add]
theorem wide_top (f : Int) : fm f + (topN f - 1) + cN f ≤ fm 2 + (topN 2 - 1) := by
  have h := c_is f
  have ht := top_least f
  have ht2 : topN 2 = 255 := rfl
  have hm2 : fm 2 = 23 := rfl
  have hl := least_cases f
  have htc := top_cases f
  have hb := fbounds f
  omega
/-- What is finite is finite as a single number. -/
theorem wide_lt (f : Int) (K : Nat) (h : K < infK f) : wideK f K < infK 2 := by
  rcases Nat.lt_or_ge (wideK f K) (infK 2) with c | c
  · exact c
  · have h1 := amt_mono 2 c
    unfold wideK at h1
    rw [wide_exact, inf_amt] at h1
    have h2 := Nat.mul_lt_mul_of_pos_right (amt_inf f K h) (Nat.two_pow_pos (cN f))
    rw [← Nat.pow_add, ← Nat.pow_add] at h2
    rw [← Nat.pow_add] at h1
    have h3 := Nat.pow_le_pow_right (show 0 < 2 by decide) (wide_top f)
    omega
theorem wide_le (f : Int) {K L : Nat} (h : K ≤ L) : wideK f K ≤ wideK f L :=
  key_mono 2 0 false (-149) (Nat.mul_le_mul_right _ (amt_mono f h)) (fun _ h => h)
theorem wide_back (f : Int) (K : Nat) : keyN f 0 false (-149) (amtN 2 (wideK f K)) false = K := by
  unfold wideK
  rw [wide_exact, key_scale, ← c_is, key_amt]
theorem wide_le_iff (f : Int) (K L : Nat) : wideK f K ≤ wideK f L ↔ K ≤ L := by
  refine ⟨fun h => ?_, wide_le f⟩
  have := key_mono f 0 false (-149) (a := amtN 2 (wideK f K)) (b := amtN 2 (wideK f L)) (more := false) (less := false) (amt_mono 2 h) (fun _ h => h)
  rw [wide_back, wide_back] at this; exact this
/-- A number's bits without its sign, as a single one's; infinity too. -/
def wideM (f : Int) (K : Nat) : Nat := if K = infK f then infK 2 else wideK f K
theorem wideM_le_iff (f : Int) {K L : Nat} (hK : K ≤ infK f) (hL : L ≤ infK f) : wideM f K ≤ wideM f L ↔ K ≤ L := by
  unfold wideM
  by_cases a : K = infK f <;> by_cases b : L = infK f
  · rw [if_pos a, if_pos b]; omega
  · rw [if_pos a, if_neg b]
    have := wide_lt f L (by omega); omega
  · rw [if_neg a, if_pos b]
    have := wide_lt f K (by omega); omega
  · rw [if_neg a, if_neg b]; exact wide_le_iff f K L
theorem wideM_bound (f : Int) {K : Nat} (hK : K ≤ infK f) : wideM f K ≤ infK 2 := by
  unfold wideM
  split
  · exact Nat.le_refl _
  · exact Nat.le_of_lt (wide_lt f K (by omega))
theorem mag_nan (f : Int) (v : Nat) : isNan f v = true ↔ infK f < magN f v := by
  obtain ⟨h1, h2⟩ := mag_parts f v
  have hd := Nat.div_add_mod (magN f v) (2 ^ fm f)
  have he := exp_le f v
  have hf := frac_lt f v
  rw [h1, h2] at hd
  unfold isNan infK
  rw [decide_eq_true_iff, ← Nat.not_lt (a := clsN f v)]
  have hc := cls_le f v
  have hx := cls_finite f v
  by_cases c : expN f v < topN f
  · have h3 := hx.mpr c
    have h4 : (expN f v + 1) * 2 ^ fm f ≤ topN f * 2 ^ fm f := Nat.mul_le_mul_right _ c
    rw [Nat.add_mul, Nat.one_mul, Nat.mul_comm] at h4
    constructor
    · intro h; omega
    · intro h; omega
  · have e : expN f v = topN f := by omega
    have ht := top_cases f
    rw [e, Nat.mul_comm] at hd
    have h3 : clsN f v = 3 ↔ fracN f v = 0 := by
      unfold clsN
      rw [if_neg (by omega), if_neg c]
      constructor
      · intro h; split at h
        · assumption
        · split at h <;> omega
      · intro h; rw [if_pos h]
    have h4 : ¬ clsN f v < 3 := fun h => c (hx.mp h)
    constructor
    · intro h
      have : fracN f v ≠ 0 := fun z => by have := h3.mpr z; omega
      omega
    · intro h
      have : clsN f v ≠ 3 := fun z => by have := h3.mp z; omega
      omega
/-- A number that is one, widened. -/
theorem widen_is (f : Int) (v : Nat) (h : magN f v ≤ infK f) : toN f 2 0 v = wideM f (magN f v) + signN 2 (negN f v) := by
  unfold wideM
  by_cases c : magN f v = infK f
  · rw [if_pos c, to_infinite _ _ _ _ c]
  · rw [if_neg c, to_finite _ _ _ _ (by omega), near_sign 2 (negN f v) false]
    have := wide_lt f (magN f v) (by omega)
    unfold wideK at this ⊢
    unfold capN; rw [if_neg (by omega)]
/-- And narrowed again. -/
theorem narrow_is (f : Int) (K : Nat) (neg : Bool) (h : K ≤ infK f) : toN 2 f 0 (wideM f K + signN 2 neg) = K + signN f neg := by
  have hb := wideM_bound f h
  obtain ⟨j1, _⟩ := infK_lt 2
  obtain ⟨h1, h2, _⟩ := sign_parts 2 (wideM f K) neg (by omega)
  unfold wideM at *
  by_cases c : K = infK f
  · rw [if_pos c] at *
    rw [to_infinite _ _ _ _ h2, h1, c]
  · rw [if_neg c] at *
    rw [to_finite _ _ _ _ (by rw [h2]; exact wide_lt f K (by omega)), h1, h2, show cN 2 = 0 from by decide, Nat.pow_zero, Nat.mul_one, near_sign f neg false, wide_back]
    unfold capN; rw [if_neg (by omega)]
theorem mag_sign (f : Int) (v : Nat) (h : v < 2 ^ (fe f + fm f + 1)) : v = magN f v + signN f (negN f v) := by
  unfold magN signN negN
  have h1 := Nat.div_add_mod v (2 ^ (fe f + fm f))
  have h2 : v / 2 ^ (fe f + fm f) < 2 := by rw [Nat.div_lt_iff_lt_mul (Nat.two_pow_pos _), Nat.mul_comm, ← Nat.pow_succ]; exact h
  rw [Nat.mod_eq_of_lt h2]
  generalize v / 2 ^ (fe f + fm f) = b at *
  have h3 : b = 0 ∨ b = 1 := by omega
  rcases h3 with rfl | rfl
  · simp at h1 ⊢; omega
  · simp at h1 ⊢; omega
end Go.Proofs.Ytoljndjpnbdjmaa.Round

/- A single number narrowed by chance: the program's, as a plain number. -/
namespace Go.Proofs.Ytoljndjpnbdjmaa.Round
open Go.RowKit Go.Proofs.Ytoljndjpnbdjmaa.P Go.Proofs.Ytoljndjpnbdjmaa.Num Go.Proofs.Ytoljndjpnbdjmaa.BitsF Go.Proofs.Ytoljndjpnbdjmaa.Fmt Go.Proofs.YtoljndjpnbdjmaaW.PrintWords Go.Proofs.YtoljndjpnbdjmaaW.PrintLast Go.Proofs.YtoljndjpnbdjmaaW.PrintMore

theorem finite_f (f : Int) (v : Nat) (hv : v < 4294967296) : format_Finite.f f (v : Int) = some (decide (expN f v < topN f)) := by
  unfold format_Finite.f
  rw [parts_f f v hv, Option.bind_some, top_f, Option.bind_some]
  dsimp only
  congr 1; apply decide_eq_decide.mpr; omega
theorem iszero_ev (f : Int) (v : Nat) (hv : v < 4294967296) : Ev (fun k => format_IsZero.f k f (v : Int)) (decide (clsN f v = 0)) := by
  refine Ev.congr (fun k => by unfold format_IsZero.f; rfl) (Ev.bind (class_ev f v hv) (Ev.congr (fun k => ?_) (Ev.now _)))
  rw [show (0 : Int) = ((0 : Nat) : Int) from rfl, beq_nn]
/-- How many bits a single number has below a format's unit. -/
def dropN (f : Int) (a : Nat) : Int := unitN f (lowestN 2 a) (wholeN 2 a) - lowestN 2 a
/-- What these are of a unit, in parts of 2^32. -/
def partN (s : Nat) (d : Int) : Nat := (shiftN (s % 2 ^ d.toNat) (d - 32)).1
/-- Nothing is to be rounded. -/
def keepsN (f : Int) (a : Nat) : Bool := decide (topN 2 ≤ expN 2 a ∨ clsN 2 a = 0 ∨ dropN f a ≤ 0 ∨ wholeN 2 a % 2 ^ (dropN f a).toNat = 0)
/-- The neighbour below, or that above it, without its sign. -/
def stepN (f : Int) (a w : Nat) : Nat := riseN f (lowestN 2 a) (wholeN 2 a) * 2 ^ fm f + (wholeN 2 a / 2 ^ (dropN f a).toNat + if w < partN (wholeN 2 a) (dropN f a) then 1 else 0)
def chanN (f : Int) (a w : Nat) : Nat := if keepsN f a then toN 2 f 0 a else capN f 0 (negN 2 a) (stepN f a w) + signN f (negN 2 a)
theorem unit_key (f mode : Int) (neg : Bool) (r q : Nat) (hq : q ≤ 2 ^ (fm f + 1)) (hr : r = 0 ∨ 2 ^ fm f ≤ q) : keyN f mode neg (leastN f - fm f + r) q false = r * 2 ^ fm f + q := by
  have hs : 2 ^ (fm f + 1) = 2 * 2 ^ fm f := by rw [Nat.pow_succ, Nat.mul_comm]
  have hp := Nat.two_pow_pos (fm f)
  by_cases c : q = 2 ^ (fm f + 1)
  · have := exact_key f mode neg (2 ^ fm f) 1 (r + 1) (by omega) (.inr (Nat.le_refl _))
    rw [show leastN f - (fm f : Int) + ((r + 1 : Nat) : Int) - ((1 : Nat) : Int) = leastN f - fm f + r by omega, show 2 ^ fm f * 2 ^ 1 = q by omega] at this
    rw [this, Nat.add_mul]; omega
  · have := exact_key f mode neg q 0 r (by omega) hr
    rw [Nat.pow_zero, Nat.mul_one, show leastN f - (fm f : Int) + (r : Int) - ((0 : Nat) : Int) = leastN f - fm f + r by omega] at this
    exact this
theorem drop_quo (f : Int) (a : Nat) (h : ¬ dropN f a ≤ 0) : wholeN 2 a / 2 ^ (dropN f a).toNat = quoN (wholeN 2 a) (unitN f (lowestN 2 a) (wholeN 2 a) - lowestN 2 a) := by
  unfold quoN; unfold dropN at *; rw [if_neg h]
theorem drop_in (f : Int) (a : Nat) : -20000 ≤ dropN f a ∧ dropN f a ≤ 21000 := by
  obtain ⟨l1, l2⟩ := lowest_in 2 a
  obtain ⟨u1, u2, _⟩ := unit_bounds f (lowestN 2 a) (wholeN 2 a) (whole_64 2 a) l1 l2
  unfold dropN; omega
theorem single_unit (f : Int) (a : Nat) : -200 ≤ unitN f (lowestN 2 a) (wholeN 2 a) ∧ unitN f (lowestN 2 a) (wholeN 2 a) ≤ 300 := by
  have hl := lenN_bound _ _ (whole_lt 2 a)
  have hm : fm 2 = 23 := rfl
  have he := exp_le 2 a
  have ht : topN 2 = 255 := rfl
  have hl2 : leastN 2 = -126 := rfl
  have := least_cases f
  have := fbounds f
  unfold unitN riseN lowestN
  rw [hm] at hl
  rw [hm, hl2]
  split <;> omega
theorem part_ev (s : Nat) (hs : s < 18446744073709551616) (d : Int) (h1 : -100000 ≤ d) (h2 : d ≤ 100000) : Ev (fun k => chance_part.f k ((s % 2 ^ d.toNat : Nat) : Int) d) (partN s d : Int) := by
  refine Ev.congr (fun k => by unfold chance_part.f; rw [w64_id _ (by omega) (by omega)]) (Ev.bind (shift_ev _ (Nat.lt_of_le_of_lt (Nat.mod_le _ _) hs) (d - 32) (by omega) (by omega)) (Ev.now _))
theorem chance_keep (f : Int) (a w : Nat) (ha : a < 4294967296) (h : keepsN f a = true) : Ev (fun k => chance_Narrow.j0 k f (a : Int) (w : Int) true) (chanN f a w : Int) := by
  unfold chanN; rw [if_pos h]
  exact Ev.step (fun k => by rw [chance_Narrow.j0, if_pos rfl]) (Ev.bind (narrow_ev f a ha) (Ev.now _))
theorem chance_ev (f : Int) (a w : Nat) (ha : a < 4294967296) (hw : w < 4294967296) : Ev (fun k => chance_Narrow.f k f (a : Int) (w : Int)) (chanN f a w : Int) := by
  refine Ev.congr (fun k => by unfold chance_Narrow.f; rw [finite_f 2 a ha, Option.bind_some]) ?_
  by_cases c : expN 2 a < topN 2
  · refine Ev.congr (fun k => by rw [if_pos (decide_eq_true c)]) (Ev.bind (iszero_ev 2 a ha) ?_)
    by_cases z : clsN 2 a = 0
    · rw [decide_eq_true z]; exact chance_keep f a w ha (decide_eq_true (.inr (.inl z)))
    · rw [decide_eq_false z]
      have hs := whole_64 2 a
      obtain ⟨l1, l2⟩ := lowest_in 2 a
      obtain ⟨u1, u2, u3⟩ := unit_bounds f (lowestN 2 a) (wholeN 2 a) hs l1 l2
      have hd := drop_in f a
      refine Ev.step (fun k => by rw [chance_Narrow.j0, if_neg (by decide), of_f 2 a ha c, Option.bind_some]) (Ev.bind (Ev.of (round_Unit.mono _ _ _) (unit_f 0 f (lowestN 2 a) (wholeN 2 a) hs l1 l2)) ?_)
      dsimp only
      rw [w64_id _ (by omega) (by omega), show unitN f (lowestN 2 a) (wholeN 2 a) - lowestN 2 a = dropN f a from rfl]
      refine Ev.bind (shift_ev _ hs (dropN f a) (by omega) (by omega)) ?_
      have keep : keepsN f a = true → Ev (fun k => chance_Narrow.j1 k f (a : Int) (w : Int) (unitN f (lowestN 2 a) (wholeN 2 a)) (dropN f a) ((shiftN (wholeN 2 a) (dropN f a)).1 : Int) true (negN 2 a) (lowestN 2 a) (wholeN 2 a : Int) false) (chanN f a w : Int) := by
        intro h
        unfold chanN; rw [if_pos h]
        exact Ev.step (fun k => by rw [chance_Narrow.j1, if_pos rfl]) (Ev.bind (narrow_ev f a ha) (Ev.now _))
      by_cases d : dropN f a ≤ 0
      · exact Ev.congr (fun k => by rw [if_pos d]) (keep (decide_eq_true (.inr (.inr (.inl d)))))
      · refine Ev.congr (fun k => by rw [if_neg d]) ?_
        have e2 : shiftN (wholeN 2 a) (dropN f a) = (wholeN 2 a / 2 ^ (dropN f a).toNat, decide (wholeN 2 a % 2 ^ (dropN f a).toNat ≠ 0)) := by
          have := shiftN_right (wholeN 2 a) (dropN f a).toNat
          rwa [Int.toNat_of_nonneg (by omega)] at this
        by_cases m : wholeN 2 a % 2 ^ (dropN f a).toNat = 0
        · have := keep (decide_eq_true (.inr (.inr (.inr m))))
          rw [e2] at this ⊢
          rw [show (!decide (wholeN 2 a % 2 ^ (dropN f a).toNat ≠ 0)) = true from by rw [decide_eq_false (by omega)]; rfl]
          exact this
        · rw [e2]
          dsimp only
          rw [show (!decide (wholeN 2 a % 2 ^ (dropN f a).toNat ≠ 0)) = false from by rw [decide_eq_true m]; rfl]
          have hk : keepsN f a = false := decide_eq_false (by omega)
          have hc : cutN (wholeN 2 a) (dropN f a) = wholeN 2 a % 2 ^ (dropN f a).toNat := by unfold cutN; rw [if_neg (by omega)]
          refine Ev.step (fun k => by rw [chance_Narrow.j1, if_neg (by decide), cut_f _ hs _ (by omega), Option.bind_some, hc]) (Ev.bind (part_ev _ hs _ (by omega) (by omega)) ?_)
          obtain ⟨q1, q2⟩ := quo_bounds f (lowestN 2 a) (wholeN 2 a)
          have hb := fbounds f
          have hp := pow_le32 (show fm f + 1 ≤ 32 by omega)
          rw [← drop_quo f a d] at q1 q2
          have hw' := u64_id w (by omega)
          obtain ⟨v1, v2⟩ := single_unit f a
          have hu : unitN f (lowestN 2 a) (wholeN 2 a) = leastN f - fm f + (riseN f (lowestN 2 a) (wholeN 2 a) : Nat) := rfl
          have fin : ∀ q : Nat, q ≤ 2 ^ (fm f + 1) → (riseN f (lowestN 2 a) (wholeN 2 a) = 0 ∨ 2 ^ fm f ≤ q) → Ev (fun k => chance_Narrow.j2 k f (unitN f (lowestN 2 a) (wholeN 2 a)) (q : Int) (negN 2 a) (lowestN 2 a) (wholeN 2 a : Int) false) ((capN f 0 (negN 2 a) (riseN f (lowestN 2 a) (wholeN 2 a) * 2 ^ fm f + q) + signN f (negN 2 a) : Nat) : Int) := by
            intro q h1 h2
            have hk := unit_key f 0 (negN 2 a) _ q h1 h2
            have hpk := packs_ev f 0 (negN 2 a) (unitN f (lowestN 2 a) (wholeN 2 a)) q false (by omega)
            rw [clampE_id _ (by omega) (by omega)] at hpk
            unfold packN excN overN at hpk
            rw [hu, hk] at hpk
            rw [hu]
            refine Ev.step (fun k => by rw [chance_Narrow.j2]) (Ev.bind hpk ?_)
            unfold capN
            by_cases o : infK f ≤ riseN f (lowestN 2 a) (wholeN 2 a) * 2 ^ fm f + q
            · rw [if_pos o, show decide (topN f * 2 ^ fm f ≤ riseN f (lowestN 2 a) (wholeN 2 a) * 2 ^ fm f + q) = true from decide_eq_true o]
              exact Ev.congr (fun k => by rw [if_pos rfl, inf_f]; rfl) (Ev.now _)
            · rw [if_neg o, show decide (topN f * 2 ^ fm f ≤ riseN f (lowestN 2 a) (wholeN 2 a) * 2 ^ fm f + q) = false from decide_eq_false o]
              exact Ev.congr (fun k => by rw [if_neg (show ¬ false = true by decide)]; rfl) (Ev.now _)
          rw [hw']
          have hr : riseN f (lowestN 2 a) (wholeN 2 a) = 0 ∨ 2 ^ fm f ≤ wholeN 2 a / 2 ^ (dropN f a).toNat := by
            by_cases r0 : riseN f (lowestN 2 a) (wholeN 2 a) = 0
            · exact .inl r0
            · exact .inr (q2 r0)
          unfold chanN stepN
          rw [hk, if_neg (by decide)]
          by_cases p : w < partN (wholeN 2 a) (dropN f a)
          · rw [if_pos p]
            have := fin (wholeN 2 a / 2 ^ (dropN f a).toNat + 1) (by omega) (by omega)
            refine Ev.congr (fun k => ?_) this
            rw [if_pos (by omega), show ((wholeN 2 a / 2 ^ (dropN f a).toNat : Nat) : Int) + 1 = ((wholeN 2 a / 2 ^ (dropN f a).toNat + 1 : Nat) : Int) from rfl, u64_id _ (by omega)]
          · rw [if_neg p]
            have := fin (wholeN 2 a / 2 ^ (dropN f a).toNat) (by omega) hr
            refine Ev.congr (fun k => ?_) this
            rw [if_neg (by omega)]
  · refine Ev.congr (fun k => by rw [if_neg (by simp [c])]) (chance_keep f a w ha (decide_eq_true (.inl (by omega))))
end Go.Proofs.Ytoljndjpnbdjmaa.Round

/- What is widened is narrowed to itself, and order stays: plain numbers alone. -/
namespace Go.Proofs.Ytoljndjpnbdjmaa.Round
open Go.RowKit Go.Proofs.Ytoljndjpnbdjmaa.P Go.Proofs.Ytoljndjpnbdjmaa.Num Go.Proofs.Ytoljndjpnbdjmaa.BitsF Go.Proofs.Ytoljndjpnbdjmaa.Fmt Go.Proofs.YtoljndjpnbdjmaaW.PrintWords Go.Proofs.YtoljndjpnbdjmaaW.PrintLast Go.Proofs.YtoljndjpnbdjmaaW.PrintMore

theorem key_none (f mode : Int) (neg : Bool) (x : Int) : keyN f mode neg x 0 false = 0 := by
  unfold keyN
  have hr : riseN f x 0 = 0 := by unfold riseN; rw [if_pos rfl]
  have hq : quoN 0 (unitN f x 0 - x) = 0 := by unfold quoN; split <;> simp
  have hl : leftN 0 (unitN f x 0 - x) false = 0 := left_none _ (.inr (by simp))
  rw [hr, hq, hl, up_none]; simp
theorem nan_single : clsN 2 (nanN 2) = 4 := by decide
theorem wide_none (f : Int) : wideM f 0 = 0 := by
  have := (infK_lt f).2
  unfold wideM wideK
  rw [if_neg (by omega)]
  have : amtN f 0 = 0 := by unfold amtN; simp
  rw [this, Nat.zero_mul]; exact key_none _ _ _ _
theorem cls_none (f : Int) (v : Nat) : clsN f v = 0 ↔ magN f v = 0 := by
  obtain ⟨h1, h2⟩ := mag_parts f v
  have hd := Nat.div_add_mod (magN f v) (2 ^ fm f)
  have hp := Nat.two_pow_pos (fm f)
  constructor
  · intro h
    unfold clsN at h
    by_cases c : expN f v = 0
    · rw [if_pos c] at h
      by_cases d : fracN f v = 0
      · rw [h1, h2, c, d] at hd; omega
      · rw [if_neg d] at h; omega
    · rw [if_neg c] at h
      split at h
      · omega
      · split at h
        · omega
        · split at h <;> omega
  · intro h
    rw [h, Nat.zero_div] at h1
    rw [h, Nat.zero_mod] at h2
    unfold clsN
    rw [if_pos h1.symm, if_pos h2.symm]
theorem not_nan (f : Int) (v : Nat) (h : isNan f v = false) : magN f v ≤ infK f := by
  rcases Nat.lt_or_ge (infK f) (magN f v) with c | c
  · rw [(mag_nan f v).mpr c] at h; exact absurd h (by decide)
  · exact c
theorem nan_not (f : Int) (v : Nat) (h : magN f v ≤ infK f) : isNan f v = false := by
  cases c : isNan f v
  · rfl
  · have := (mag_nan f v).mp c; omega
/-- A number that is none, widened. -/
theorem widen_nan (f : Int) (v : Nat) (h : isNan f v = true) : toN f 2 0 v = nanN 2 := by
  unfold toN; rw [if_pos (of_decide_eq_true h)]
theorem single_nan : isNan 2 (nanN 2) = true := by decide
/-- Any one's parts, widened. -/
theorem widen_parts (f : Int) (v : Nat) (h : isNan f v = false) : isNan 2 (toN f 2 0 v) = false ∧ (clsN 2 (toN f 2 0 v) = 0 ↔ clsN f v = 0) ∧
    placeN 2 (lowN 2 (toN f 2 0 v)) = if negN f v then -1 - (wideM f (magN f v) : Int) else (wideM f (magN f v) : Int) := by
  have hm := not_nan f v h
  have hb := wideM_bound f hm
  have hl := (infK_lt 2).1
  obtain ⟨s1, s2, s3⟩ := sign_parts 2 (wideM f (magN f v)) (negN f v) (by omega)
  rw [widen_is f v hm]
  refine ⟨nan_not 2 _ (by rw [s2]; exact hb), ?_, place_sign 2 _ _ (by omega)⟩
  rw [cls_none, cls_none, s2]
  have h0 := wideM_le_iff f hm (Nat.zero_le (infK f))
  rw [wide_none] at h0
  omega
theorem back (f : Int) (x : Nat) (h : x < 2 ^ (fe f + fm f + 1)) : toN 2 f 0 (toN f 2 0 x) = if isNan f x then nanN f else x := by
  cases c : isNan f x
  · have hm := not_nan f x c
    rw [widen_is f x hm, narrow_is f _ _ hm, ← mag_sign f x h]; rfl
  · rw [widen_nan f x c]
    unfold toN; rw [if_pos (by rw [nan_single]; exact Nat.le_refl 4)]; rfl
theorem order (f : Int) (a b : Nat) : cmpN 2 (toN f 2 0 a) (toN f 2 0 b) = cmpN f a b := by
  cases ca : isNan f a
  · cases cb : isNan f b
    · obtain ⟨a1, a2, a3⟩ := widen_parts f a ca
      obtain ⟨b1, b2, b3⟩ := widen_parts f b cb
      have hA : placeN f (lowN f a) = if negN f a then -1 - (magN f a : Int) else (magN f a : Int) := by
        show (if negN f (lowN f a) then -1 - (magN f (lowN f a) : Int) else (magN f (lowN f a) : Int)) = _
        rw [neg_low, show magN f (lowN f a) = magN f a from by unfold magN lowN; rw [Nat.mod_mod_of_dvd]; exact Nat.pow_dvd_pow 2 (by omega)]
      have hB : placeN f (lowN f b) = if negN f b then -1 - (magN f b : Int) else (magN f b : Int) := by
        show (if negN f (lowN f b) then -1 - (magN f (lowN f b) : Int) else (magN f (lowN f b) : Int)) = _
        rw [neg_low, show magN f (lowN f b) = magN f b from by unfold magN lowN; rw [Nat.mod_mod_of_dvd]; exact Nat.pow_dvd_pow 2 (by omega)]
      have w1 := wideM_le_iff f (not_nan f a ca) (not_nan f b cb)
      have w2 := wideM_le_iff f (not_nan f b cb) (not_nan f a ca)
      have w3 := wideM_le_iff f (Nat.zero_le _) (not_nan f a ca)
      unfold cmpN
      rw [a1, b1, ca, cb, a3, b3, hA, hB, if_neg (show ¬ (false || false) = true by decide), if_neg (show ¬ (false || false) = true by decide)]
      generalize magN f a = A at *
      generalize magN f b = B at *
      generalize wideM f A = U at *
      generalize wideM f B = V at *
      by_cases z : clsN f a = 0 ∧ clsN f b = 0
      · rw [if_pos z, if_pos ⟨a2.mpr z.1, b2.mpr z.2⟩]
      · rw [if_neg z, if_neg (fun h => z ⟨a2.mp h.1, b2.mp h.2⟩)]
        cases negN f a <;> cases negN f b <;> simp only [Bool.false_eq_true, if_false, if_true] <;> repeat' split
        all_goals first | rfl | (exfalso; omega)
    · rw [widen_nan f b cb]; unfold cmpN; rw [single_nan, cb, Bool.or_true, Bool.or_true, if_pos rfl, if_pos rfl]
  · rw [widen_nan f a ca]; unfold cmpN; rw [single_nan, ca, Bool.true_or, Bool.true_or, if_pos rfl, if_pos rfl]
end Go.Proofs.Ytoljndjpnbdjmaa.Round

/- What is a number of a format stays it; parts of a brain float's unit: plain numbers alone. -/
namespace Go.Proofs.Ytoljndjpnbdjmaa.Round
open Go.RowKit Go.Proofs.Ytoljndjpnbdjmaa.P Go.Proofs.Ytoljndjpnbdjmaa.Num Go.Proofs.Ytoljndjpnbdjmaa.BitsF Go.Proofs.Ytoljndjpnbdjmaa.Fmt Go.Proofs.YtoljndjpnbdjmaaW.PrintWords Go.Proofs.YtoljndjpnbdjmaaW.PrintLast Go.Proofs.YtoljndjpnbdjmaaW.PrintMore

/-- A number from 1 to below 2, of either sign, by chance as a brain float. -/
theorem one_parts (b : Bool) (r : Nat) (hr : r < 8388608) : negN 2 (1065353216 + r + signN 2 b) = b ∧ expN 2 (1065353216 + r + signN 2 b) = 127 ∧ wholeN 2 (1065353216 + r + signN 2 b) = 8388608 + r := by
  obtain ⟨h1, h2, _⟩ := sign_parts 2 (1065353216 + r) b (by show 1065353216 + r < 2147483648; omega)
  obtain ⟨m1, m2⟩ := mag_parts 2 (1065353216 + r + signN 2 b)
  rw [h2, show fm 2 = 23 from rfl] at m1 m2
  have e : expN 2 (1065353216 + r + signN 2 b) = 127 := by omega
  refine ⟨h1, e, ?_⟩
  unfold wholeN
  rw [e, if_neg (by decide), ← m2, show fm 2 = 23 from rfl]
  omega
theorem one_len (r : Nat) (hr : r < 8388608) : lenN (8388608 + r) = 24 := lenN_of _ 24 (by omega) (.inr (by omega))
theorem one_rise (r : Nat) (hr : r < 8388608) : riseN 1 (-23) (8388608 + r) = 126 := by
  unfold riseN
  rw [if_neg (by omega), one_len r hr]; rfl
theorem one_chance (b : Bool) (r i : Nat) (hr : r < 8388608) (hi : i < 65536) : chanN 1 (1065353216 + r + signN 2 b) (i * 65536) = (1065353216 + r + signN 2 b) / 65536 + if i < r % 65536 then 1 else 0 := by
  obtain ⟨p1, p2, p3⟩ := one_parts b r hr
  have hl : lowestN 2 (1065353216 + r + signN 2 b) = -23 := by unfold lowestN; rw [p2]; rfl
  have hrise := one_rise r hr
  have hu : unitN 1 (-23) (8388608 + r) = -7 := by unfold unitN; rw [hrise]; rfl
  have hd : dropN 1 (1065353216 + r + signN 2 b) = 16 := by unfold dropN; rw [hl, p3, hu]; rfl
  have hx : (1065353216 + r + signN 2 b) / 65536 = 16256 + r / 65536 + signN 1 b := by
    unfold signN; cases b
    · simp only [Bool.false_eq_true, if_false]; omega
    · simp only [if_true]
      rw [show (2 : Nat) ^ (fe 2 + fm 2) = 2147483648 from rfl, show (2 : Nat) ^ (fe 1 + fm 1) = 32768 from rfl]; omega
  have hpart : partN (8388608 + r) 16 = r % 65536 * 65536 := by
    unfold partN
    rw [show (16 : Int).toNat = 16 from rfl, show (16 : Int) - 32 = -((16 : Nat) : Int) from rfl, shiftN_left _ _ (by omega)]
    omega
  have hcap : ∀ K, K < 32640 → capN 1 0 b K = K := by
    intro K h; unfold capN; rw [if_neg (by show ¬ 32640 ≤ K; omega)]
  have hcls : clsN 2 (1065353216 + r + signN 2 b) = 2 := by
    unfold clsN; rw [p2, if_neg (by decide), if_pos (by decide)]
  have ht : topN 2 = 255 := rfl
  unfold chanN keepsN
  rw [hd, p2, hcls, p3, hx, show (16 : Int).toNat = 16 from rfl]
  by_cases z : r % 65536 = 0
  · rw [if_pos (by rw [decide_eq_true_iff]; right; right; right; omega), if_neg (by omega)]
    unfold toN
    rw [hcls, if_neg (by decide), if_neg (by decide), p1, hl, p3, pack_cap]
    have hq : quoN (8388608 + r) (-7 - -23) = 128 + r / 65536 := by
      unfold quoN; rw [if_neg (by decide), show (-7 - -23 : Int).toNat = 16 from rfl]; omega
    have hlf : leftN (8388608 + r) (-7 - -23) false = 0 := left_exact _ _ (.inr (by rw [show (-7 - -23 : Int).toNat = 16 from rfl]; omega))
    have hk : keyN 1 0 b (-23) (8388608 + r) false = 16256 + r / 65536 := by
      unfold keyN; rw [hu, hlf, up_none, hrise, hq, show fm 1 = 7 from rfl]; simp; omega
    rw [hk, hcap _ (by omega)]; omega
  · rw [if_neg (by rw [decide_eq_true_iff]; omega)]
    unfold stepN
    rw [hd, hl, p1, p3, hrise, hpart, show (16 : Int).toNat = 16 from rfl, show fm 1 = 7 from rfl]
    by_cases p : i < r % 65536
    · rw [if_pos p, if_pos (by omega), hcap _ (by omega)]; omega
    · rw [if_neg p, if_neg (by omega), hcap _ (by omega)]; omega
end Go.Proofs.Ytoljndjpnbdjmaa.Round

/- ChanceParts: as many words of 65536 steps make a number from 1 to below 2 the upper brain float as its part says: for every such number of either sign, every first step. -/
namespace Go.Proofs.Ytoljndjpnbdjmaa.Pure
open Go.RowKit Go.Proofs.Ytoljndjpnbdjmaa.P Go.Proofs.Ytoljndjpnbdjmaa.Num Go.Proofs.Ytoljndjpnbdjmaa.BitsF Go.Proofs.Ytoljndjpnbdjmaa.Fmt Go.Proofs.Ytoljndjpnbdjmaa.Round Go.Proofs.YtoljndjpnbdjmaaW.PrintWords Go.Proofs.YtoljndjpnbdjmaaW.PrintLast Go.Proofs.YtoljndjpnbdjmaaW.PrintMore
theorem known11_ev : Ev (fun k => anneallaw11_known.f k) true := Ev.of anneallaw11_known.mono (k := 60) (by kernel_rfl)
theorem parts_l0 (b : Bool) (r : Nat) (hr : r < 8388608) (n : Nat) : ∀ i : Nat, 65536 ≤ i + n * 4099 → i < 100000 →
    Ev (fun k => anneallaw11_ChanceParts.l0 k ((1065353216 + r + signN 2 b : Nat) : Int) ((r % 65536 : Nat) : Int) (((1065353216 + r + signN 2 b) / 65536 : Nat) : Int) (i : Int)) true := by
  have hs : signN 2 b ≤ 2147483648 := by unfold signN; cases b <;> decide
  induction n with
  | zero => intro i h _; exact Ev.step (fun k => by rw [anneallaw11_ChanceParts.l0, if_neg (by omega)]) (Ev.now _)
  | succ n ih =>
    intro i h h'
    by_cases c : i < 65536
    · have hc := one_chance b r i hr c
      have he := chance_ev 1 (1065353216 + r + signN 2 b) (i * 65536) (by omega) (by omega)
      have hw : ((i : Int) * 65536) % 4294967296 = ((i * 65536 : Nat) : Int) := by omega
      have hn : ((i : Int) + 4099) % 4294967296 = ((i + 4099 : Nat) : Int) := by omega
      have := ih (i + 4099) (by omega) (by omega)
      rw [← hw] at he
      rw [← hn] at this
      by_cases p : i < r % 65536
      · rw [if_pos p] at hc
        refine Ev.step (fun k => by rw [anneallaw11_ChanceParts.l0, if_pos (by omega), if_pos (by omega)]) (Ev.bind he ?_)
        exact Ev.congr (fun k => by rw [if_pos (by rw [hc]; omega)]) this
      · rw [if_neg p] at hc
        refine Ev.step (fun k => by rw [anneallaw11_ChanceParts.l0, if_pos (by omega), if_neg (by omega)]) (Ev.bind he ?_)
        exact Ev.congr (fun k => by rw [if_pos (by rw [hc]; omega)]) this
    · exact Ev.step (fun k => by rw [anneallaw11_ChanceParts.l0, if_neg (by omega)]) (Ev.now _)
theorem one_or (m : Nat) (hm : m < 4294967296) : Go.bits .or .u32 1065353216 (Go.bits .and .u32 (m : Int) 8388607) = ((1065353216 + m % 8388608 : Nat) : Int) := by
  have h1 : Go.bits .and .u32 (m : Int) 8388607 = ((m % 8388608 : Nat) : Int) := by
    have := and_u32 m 8388607 hm (by decide)
    rw [show (8388607 : Nat) = 2 ^ 23 - 1 from rfl, Nat.and_two_pow_sub_one_eq_mod] at this
    exact this
  rw [h1]
  have h2 := or_u32 1065353216 (m % 8388608) (by decide) (by omega)
  rw [or_add 1065353216 (m % 8388608) 23 (by decide) (by omega)] at h2
  exact h2
theorem low_and (r : Nat) (hr : r < 8388608) : Go.bits .and .u32 ((1065353216 + r : Nat) : Int) 65535 = ((r % 65536 : Nat) : Int) := by
  have := and_u32 (1065353216 + r) 65535 (by omega) (by decide)
  rw [show (65535 : Nat) = 2 ^ 16 - 1 from rfl, Nat.and_two_pow_sub_one_eq_mod] at this
  rw [show (1065353216 + r) % 2 ^ 16 = r % 65536 by omega] at this
  exact this
theorem sign_bit (r : Nat) (hr : r < 8388608) : Go.bits .or .u32 ((1065353216 + r : Nat) : Int) 2147483648 = ((1065353216 + r + signN 2 true : Nat) : Int) := by
  have h := or_u32 (1065353216 + r) 2147483648 (by omega) (by omega)
  have h2 := or_add 2147483648 (1065353216 + r) 31 (by omega) (by omega)
  rw [Nat.or_comm, h2] at h
  have e : 1065353216 + r + signN 2 true = 2147483648 + (1065353216 + r) := by rw [show signN 2 true = 2147483648 from rfl]; omega
  rw [e, ← h]; rfl
theorem parts_j0 (b : Bool) (r s : Nat) (hr : r < 8388608) (hs : s < 256) : Ev (fun k => anneallaw11_ChanceParts.j0 k (s : Int) ((1065353216 + r + signN 2 b : Nat) : Int) ((r % 65536 : Nat) : Int)) true := by
  refine Ev.step (fun k => by rw [anneallaw11_ChanceParts.j0, show (s : Int) % 4294967296 = (s : Int) by omega, show ((1065353216 + r + signN 2 b : Nat) : Int) / 65536 = (((1065353216 + r + signN 2 b) / 65536 : Nat) : Int) from rfl]) (parts_l0 b r hr 20 s (by omega) (by omega))
theorem ChanceParts : anneallaw11_ChanceParts.Pure := by
  intro a0 a1 a2 h1 h2
  obtain ⟨p1, q1⟩ := wf_u32 h1
  obtain ⟨p2, q2⟩ := wf_u8 h2
  obtain ⟨m, rfl⟩ := nat_of p1
  obtain ⟨s, rfl⟩ := nat_of p2
  have hr : m % 8388608 < 8388608 := by omega
  apply Ev.rounds
  unfold anneallaw11_ChanceParts.f
  refine Ev.bind known11_ev ?_
  refine Ev.congr (fun k => by rw [if_pos rfl, one_or m (by omega)]) ?_
  generalize m % 8388608 = r at *
  rw [low_and r hr, sign_bit r hr]
  cases a0
  · exact Ev.congr (fun k => by rw [if_neg (by decide), show signN 2 false = 0 from rfl, Nat.add_zero]) (parts_j0 false r s hr (by omega))
  · exact Ev.congr (fun k => by rw [if_pos rfl]) (parts_j0 true r s hr (by omega))
end Go.Proofs.Ytoljndjpnbdjmaa.Pure
