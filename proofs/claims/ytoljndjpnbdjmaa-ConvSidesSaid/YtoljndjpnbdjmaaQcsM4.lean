import Derived.Test.YtoljndjpnbdjmaaQcsM3
import Derived.Test.YtoljndjpnbdjmaaQcsPx19
import Derived.Test.YtoljndjpnbdjmaaQcsPx20
import Derived.Test.YtoljndjpnbdjmaaQcsPx23
import Derived.Test.YtoljndjpnbdjmaaQcsPx24
import Derived.Test.YtoljndjpnbdjmaaQcsM1
import Derived.Test.YtoljndjpnbdjmaaQcsPx8
import Derived.Test.YtoljndjpnbdjmaaQcsPx9
import Derived.Test.YtoljndjpnbdjmaaQcsM2
import Derived.Test.YtoljndjpnbdjmaaQcsPx10
import Derived.Test.YtoljndjpnbdjmaaQcsPx11
import Derived.Test.YtoljndjpnbdjmaaQcsPx12
import Derived.Test.YtoljndjpnbdjmaaQcsPx7
import Derived.Test.YtoljndjpnbdjmaaQcsPx22
/- The program's parts of a number, its class, its whole number and exponent: as plain numbers; the reference's are the same. -/
namespace Go.Proofs.Ytoljndjpnbdjmaa.Round
open Go.RowKit Go.Proofs.Ytoljndjpnbdjmaa.P Go.Proofs.Ytoljndjpnbdjmaa.Num Go.Proofs.Ytoljndjpnbdjmaa.BitsF Go.Proofs.Ytoljndjpnbdjmaa.Fmt Go.Proofs.YtoljndjpnbdjmaaW.PrintWords Go.Proofs.YtoljndjpnbdjmaaW.PrintLast Go.Proofs.YtoljndjpnbdjmaaW.PrintMore

theorem sum_w (f : Int) : IntKind.u64.wrap (wrap64 ((fe f : Int) + (fm f : Int))) = ((fe f + fm f : Nat) : Int) := by
  have h := fbounds f
  rw [show (fe f : Int) + (fm f : Int) = ((fe f + fm f : Nat) : Int) by omega, wu _ (by omega)]
theorem parts_f (f : Int) (v : Nat) (hv : v < 4294967296) : format_Parts.f f (v : Int) = some (negN f v, (expN f v : Int), (fracN f v : Int)) := by
  unfold format_Parts.f
  have h := fbounds f
  have hd : v / 2 ^ (fe f + fm f) < 4294967296 := Nat.lt_of_le_of_lt (Nat.div_le_self _ _) hv
  have hd' : v / 2 ^ fm f < 4294967296 := Nat.lt_of_le_of_lt (Nat.div_le_self _ _) hv
  rw [widths_f, Option.bind_some]
  dsimp only
  rw [sum_w, u64_id (fm f) (by omega), u64_id (fe f) (by omega), if_pos (Int.natCast_nonneg _), if_pos (Int.natCast_nonneg _), if_pos (Int.natCast_nonneg _), shr_u32 _ _ hv, shr_u32 _ _ hv, and1_u32 _ hd, mask_u32 _ _ hd' (by omega), mask_u32 _ _ hv (by omega), small_w64 _ _ (by omega)]
  rw [show (1 : Int) = ((1 : Nat) : Int) from rfl, beq_nn]
  unfold negN expN fracN
  exact Eq.refl _
theorem class_j0 (k : Nat) (f : Int) (e m : Nat) (he : e ≤ topN f) (hm : m < 2 ^ fm f) (hz : ¬ (e = 0 ∧ m = 0)) :
    format_Class.j0 (k + 1) f (fm f : Int) (e : Int) (m : Int) false = some (((if e = 0 then (if m = 0 then 0 else 1) else if e < topN f then 2 else if m = 0 then 3 else if m / 2 ^ (fm f - 1) = 1 then 4 else 5 : Nat)) : Int) := by
  have h := fbounds f
  have h31 := pow_le31 (show fm f ≤ 31 by omega)
  rw [format_Class.j0, if_neg (by decide)]
  by_cases c : e = 0
  · subst c
    rw [if_pos (by rfl), if_pos rfl, if_neg (fun h => hz ⟨rfl, h⟩)]; rfl
  · rw [if_neg (by omega), if_neg c, top_f, Option.bind_some]
    by_cases c2 : e < topN f
    · rw [if_pos (by omega), if_pos c2]; rfl
    · rw [if_neg (by omega), if_neg c2]
      by_cases c3 : m = 0
      · rw [if_pos (by omega), if_pos c3]; rfl
      · rw [if_neg (by omega), if_neg c3, show (fm f : Int) - 1 = ((fm f - 1 : Nat) : Int) by omega, wu _ (by omega), if_pos (Int.natCast_nonneg _), shr_u32 _ _ (by omega)]
        by_cases c4 : m / 2 ^ (fm f - 1) = 1
        · rw [if_pos (by rw [c4]; rfl), if_pos c4]; rfl
        · rw [if_neg (by omega), if_neg c4]; rfl
theorem class_ev (f : Int) (v : Nat) (hv : v < 4294967296) : Ev (fun k => format_Class.f k f (v : Int)) (clsN f v : Int) := by
  have he := exp_le f v
  have hm := frac_lt f v
  refine ⟨1, fun k hk => ?_⟩
  obtain ⟨k, rfl⟩ : ∃ j, k = j + 1 := ⟨k - 1, by omega⟩
  show format_Class.f (k + 1) f (v : Int) = _
  unfold format_Class.f clsN
  rw [widths_f, Option.bind_some, parts_f f v hv, Option.bind_some]
  dsimp only
  generalize expN f v = e at *
  generalize fracN f v = m at *
  by_cases c : e = 0 ∧ m = 0
  · obtain ⟨rfl, rfl⟩ := c
    rw [if_pos (by rfl), format_Class.j0, if_pos (by rfl), if_pos rfl, if_pos rfl]; rfl
  · by_cases c2 : e = 0
    · have e2 : (((m : Int) == 0) : Bool) = false := by simp; omega
      rw [if_pos (by omega), e2, class_j0 k f e m he hm c]
    · rw [if_neg (by omega), class_j0 k f e m he hm c]
theorem neg_f (f : Int) (v : Nat) (hv : v < 4294967296) : format_Neg.f f (v : Int) = some (negN f v) := by
  unfold format_Neg.f; rw [parts_f f v hv]; rfl
/-- The plain one that is no number. -/
def nanN (f : Int) : Nat := topN f * 2 ^ fm f + 2 ^ (fm f - 1)
theorem half_frac (f : Int) : 2 ^ (fm f - 1) < 2 ^ fm f := by
  have h := fbounds f
  exact Nat.pow_lt_pow_right (by decide) (by omega)
theorem nan_f (f : Int) : format_Nan.f f = some (nanN f : Int) := by
  unfold format_Nan.f
  have h := fbounds f
  rw [widths_f, Option.bind_some, top_f, Option.bind_some]
  dsimp only
  rw [show (fm f : Int) - 1 = ((fm f - 1 : Nat) : Int) by omega, wu _ (by omega), if_pos (Int.natCast_nonneg _), one_shl _ (by omega), join_f f false _ _ (Nat.le_refl _) (half_frac f), Option.bind_some]
  unfold joinN nanN
  simp [signN]
theorem bad_f (f : Int) : sum_Bad.f f = some ((nanN f : Int), true, false, false, false, false) := by
  unfold sum_Bad.f; rw [nan_f]; rfl
theorem unpack_f (f : Int) (v : Nat) (hv : v < 4294967296) (h : expN f v < topN f) : format_Unpack.f f (v : Int) = some (negN f v, lowestN f v, (wholeN f v : Int)) := by
  unfold format_Unpack.f lowestN wholeN
  obtain ⟨b1, b2, b3, b4, b5⟩ := fbounds f
  have hm := frac_lt f v
  have h31 := pow_le31 (show fm f ≤ 31 by omega)
  have hl := least_cases f
  have ht := top_cases f
  rw [widths_f, Option.bind_some, parts_f f v hv, Option.bind_some]
  dsimp only
  generalize expN f v = e at *
  generalize fracN f v = m at *
  by_cases c : e = 0
  · subst c
    rw [if_pos (by rfl), least_f, Option.bind_some, if_pos rfl, w64_id (leastN f - fm f) (by omega) (by omega), u64_id m (by omega)]
    simp
  · rw [if_neg (by omega), top_f, Option.bind_some, if_neg (by omega), least_f, Option.bind_some, if_neg c, u64_id (fm f) (by omega), if_pos (Int.natCast_nonneg _), u64_id m (by omega), or_top m _ hm (by omega), w64_id (leastN f - fm f) (by omega) (by omega), w64_id (leastN f - fm f + e) (by omega) (by omega), w64_id _ (by omega) (by omega), show leastN f - (fm f : Int) + (e : Int) - 1 = leastN f - fm f + ((e - 1 : Nat) : Int) by omega]
theorem of_f (f : Int) (v : Nat) (hv : v < 4294967296) (h : expN f v < topN f) : sum_Of.f f (v : Int) = some (negN f v, lowestN f v, (wholeN f v : Int), false) := by
  unfold sum_Of.f; rw [unpack_f f v hv h]; rfl

theorem rfinite_ev (f : Int) (v : Nat) (hv : v < 4294967296) : Ev (fun k => annealref1_Finite.f k f (v : Int)) (decide (expN f v < topN f)) := by
  have := ref_finite_ev f v hv; rw [exp_low] at this; exact this
end Go.Proofs.Ytoljndjpnbdjmaa.Round

/- The reference's loops of layer 1: how many bits, shifts. -/
namespace Go.Proofs.Ytoljndjpnbdjmaa.BitsF
open Go.RowKit Go.Proofs.Ytoljndjpnbdjmaa.P Go.Proofs.Ytoljndjpnbdjmaa.Num Go.Proofs.YtoljndjpnbdjmaaW.PrintWords Go.Proofs.YtoljndjpnbdjmaaW.PrintLast Go.Proofs.YtoljndjpnbdjmaaW.PrintMore

/-! ### the reference's loops -/
end Go.Proofs.Ytoljndjpnbdjmaa.BitsF

/- What the reference's rounding computes: the same plain numbers. -/
namespace Go.Proofs.Ytoljndjpnbdjmaa.Round
open Go.RowKit Go.Proofs.Ytoljndjpnbdjmaa.P Go.Proofs.Ytoljndjpnbdjmaa.Num Go.Proofs.Ytoljndjpnbdjmaa.BitsF Go.Proofs.Ytoljndjpnbdjmaa.Fmt Go.Proofs.YtoljndjpnbdjmaaW.PrintWords Go.Proofs.YtoljndjpnbdjmaaW.PrintLast Go.Proofs.YtoljndjpnbdjmaaW.PrintMore

end Go.Proofs.Ytoljndjpnbdjmaa.Round

/- The reference's rounding computes the same numbers as the program's. -/
namespace Go.Proofs.Ytoljndjpnbdjmaa.Round
open Go.RowKit Go.Proofs.Ytoljndjpnbdjmaa.P Go.Proofs.Ytoljndjpnbdjmaa.Num Go.Proofs.Ytoljndjpnbdjmaa.BitsF Go.Proofs.Ytoljndjpnbdjmaa.Fmt Go.Proofs.YtoljndjpnbdjmaaW.PrintWords Go.Proofs.YtoljndjpnbdjmaaW.PrintLast Go.Proofs.YtoljndjpnbdjmaaW.PrintMore

end Go.Proofs.Ytoljndjpnbdjmaa.Round

/- A number in another format: the program's and the reference's, as plain numbers. -/
namespace Go.Proofs.Ytoljndjpnbdjmaa.Round
open Go.RowKit Go.Proofs.Ytoljndjpnbdjmaa.P Go.Proofs.Ytoljndjpnbdjmaa.Num Go.Proofs.Ytoljndjpnbdjmaa.BitsF Go.Proofs.Ytoljndjpnbdjmaa.Fmt Go.Proofs.YtoljndjpnbdjmaaW.PrintWords Go.Proofs.YtoljndjpnbdjmaaW.PrintLast Go.Proofs.YtoljndjpnbdjmaaW.PrintMore

theorem packs_ev (f mode : Int) (neg : Bool) (x : Int) (s : Nat) (more : Bool) (hs : s < 18446744073709551616) :
    Ev (fun k => round_Pack.f k f mode neg x (s : Int) more) ((packN f mode neg (clampE x) s more : Int), false, false, excN f mode neg (clampE x) s more) :=
  Ev.of (round_Pack.mono _ _ _ _ _ _) (pack_f 0 f mode neg x s more hs)
theorem whole_64 (f : Int) (v : Nat) : wholeN f v < 18446744073709551616 := by
  have h := fbounds f
  have h1 := whole_lt f v
  have h2 := pow_le31 (show fm f + 1 ≤ 31 by omega)
  omega
theorem lowest_in (f : Int) (v : Nat) : -10000 ≤ lowestN f v ∧ lowestN f v ≤ 10000 := by
  have := least_cases f; have := top_cases f; have := fbounds f; have := exp_le f v
  unfold lowestN; omega
theorem cls_exp (f : Int) (v : Nat) (h : clsN f v < 3) : expN f v < topN f := (cls_finite f v).mp h
/-- A number in another format, with what is told beside it. -/
def toN (g f mode : Int) (v : Nat) : Nat :=
  if 4 ≤ clsN g v then nanN f else if clsN g v = 3 then infN f (negN g v) else packN f mode (negN g v) (lowestN g v) (wholeN g v) false
def toX (g f mode : Int) (v : Nat) : Bool × Bool × Bool × Bool × Bool :=
  if 4 ≤ clsN g v then (isLoud g v, false, false, false, false) else if clsN g v = 3 then (false, false, false, false, false) else (false, false, excN f mode (negN g v) (lowestN g v) (wholeN g v) false)
theorem to_ev (g f mode : Int) (v : Nat) (hv : v < 4294967296) : Ev (fun k => conv_To.f k g f mode (v : Int)) ((toN g f mode v : Int), toX g f mode v) := by
  refine Ev.congr (fun k => by unfold conv_To.f; rfl) (Ev.bind (class_ev g v hv) ?_)
  have hc := cls_le g v
  unfold toN toX
  by_cases c4 : clsN g v = 4
  · have e : isLoud g v = false := by unfold isLoud; rw [c4]; rfl
    rw [if_pos (by omega), if_pos (by omega), e]
    exact Ev.congr (fun k => by rw [if_pos (by omega), nan_f]; rfl) (Ev.now _)
  · by_cases c5 : clsN g v = 5
    · have e : isLoud g v = true := by unfold isLoud; rw [c5]; rfl
      rw [if_pos (by omega), if_pos (by omega), e]
      exact Ev.congr (fun k => by rw [if_neg (by omega), if_pos (by omega), bad_f]; rfl) (Ev.now _)
    · rw [if_neg (show ¬ 4 ≤ clsN g v by omega), if_neg (show ¬ 4 ≤ clsN g v by omega)]
      by_cases c3 : clsN g v = 3
      · rw [if_pos c3, if_pos c3]
        exact Ev.congr (fun k => by rw [if_neg (by omega), if_neg (by omega), if_pos (by omega), neg_f g v hv, Option.bind_some, inf_f]; rfl) (Ev.now _)
      · rw [if_neg c3, if_neg c3]
        obtain ⟨l1, l2⟩ := lowest_in g v
        have hp := packs_ev f mode (negN g v) (lowestN g v) (wholeN g v) false (whole_64 g v)
        rw [clampE_id _ l1 l2] at hp
        exact Ev.congr (fun k => by rw [if_neg (by omega), if_neg (by omega), if_neg (by omega), of_f g v hv (cls_exp g v (by omega)), Option.bind_some]) (Ev.bind hp (Ev.now _))
theorem widen_ev (g : Int) (v : Nat) (hv : v < 4294967296) : Ev (fun k => conv_Widen.f k g (v : Int)) (toN g 2 0 v : Int) :=
  Ev.congr (fun k => by unfold conv_Widen.f; rfl) (Ev.bind (to_ev g 2 0 v hv) (Ev.now _))
end Go.Proofs.Ytoljndjpnbdjmaa.Round

/- Narrowing and widening again: on which side of a number its narrowed one stands. Plain numbers alone. -/
namespace Go.Proofs.Ytoljndjpnbdjmaa.Round
open Go.RowKit Go.Proofs.Ytoljndjpnbdjmaa.P Go.Proofs.Ytoljndjpnbdjmaa.Num Go.Proofs.Ytoljndjpnbdjmaa.BitsF Go.Proofs.Ytoljndjpnbdjmaa.Fmt Go.Proofs.YtoljndjpnbdjmaaW.PrintWords Go.Proofs.YtoljndjpnbdjmaaW.PrintLast Go.Proofs.YtoljndjpnbdjmaaW.PrintMore

/-- How many more bits below a single number's least unit has than another format's. -/
def cN (f : Int) : Nat := (leastN f - fm f + 149).toNat
theorem c_is (f : Int) : leastN f - (fm f : Int) = -149 + cN f := by
  unfold cN
  have : fe f = 5 ∧ fm f = 10 ∨ fe f = 8 ∧ fm f = 7 ∨ fe f = 8 ∧ fm f = 23 := fcases f
  unfold leastN
  rcases this with ⟨h1, h2⟩ | ⟨h1, h2⟩ | ⟨h1, h2⟩ <;> rw [h1, h2] <;> decide
theorem single_base : leastN 2 - (fm 2 : Int) = -149 := by decide
def infK (f : Int) : Nat := topN f * 2 ^ fm f
theorem infK_lt (f : Int) : infK f < 2 ^ (fe f + fm f) ∧ 0 < infK f := by
  obtain ⟨_, hi⟩ := inf_lt f false
  have hp := Nat.two_pow_pos (fm f)
  have ht : 0 < topN f * 2 ^ fm f := Nat.mul_pos (by have := top_cases f; omega) hp
  unfold infK; omega
/-- Bits with a sign. -/
theorem sign_parts (f : Int) (P : Nat) (neg : Bool) (h : P < 2 ^ (fe f + fm f)) : negN f (P + signN f neg) = neg ∧ magN f (P + signN f neg) = P ∧ P + signN f neg < 2 ^ (fe f + fm f + 1) := by
  unfold negN magN signN
  have hp := Nat.two_pow_pos (fe f + fm f)
  cases neg
  · simp only [Bool.false_eq_true, if_false, Nat.add_zero]
    rw [Nat.div_eq_of_lt h, Nat.mod_eq_of_lt h, Nat.pow_succ]
    exact ⟨rfl, rfl, by omega⟩
  · simp only [if_true]
    rw [Nat.add_div_right _ hp, Nat.div_eq_of_lt h, Nat.add_mod_right, Nat.mod_eq_of_lt h, Nat.pow_succ]
    exact ⟨rfl, rfl, by omega⟩
theorem place_sign (f : Int) (P : Nat) (neg : Bool) (h : P < 2 ^ (fe f + fm f)) : placeN f (lowN f (P + signN f neg)) = if neg then -1 - (P : Int) else (P : Int) := by
  obtain ⟨h1, h2, h3⟩ := sign_parts f P neg h
  rw [low_id f _ h3]
  unfold placeN
  unfold magN at h2
  rw [h1, h2]
theorem mag_exp (f : Int) (v : Nat) : expN f v < topN f ↔ magN f v < infK f := by
  obtain ⟨h1, _⟩ := mag_parts f v
  unfold infK
  rw [← h1, Nat.div_lt_iff_lt_mul (Nat.two_pow_pos _)]
theorem mag_cls (f : Int) (v : Nat) (h : magN f v = infK f) : clsN f v = 3 := by
  obtain ⟨h1, h2⟩ := mag_parts f v
  have ht := top_cases f
  unfold clsN
  rw [← h1, ← h2, h]
  unfold infK
  rw [Nat.mul_div_cancel _ (Nat.two_pow_pos _), Nat.mul_mod_left, if_neg (by omega), if_neg (by omega), if_pos rfl]
def capN (f mode : Int) (neg : Bool) (K : Nat) : Nat := if infK f ≤ K then (if endless mode neg then infK f else infK f - 1) else K
theorem pack_cap (f mode : Int) (neg : Bool) (x : Int) (s : Nat) (more : Bool) : packN f mode neg x s more = capN f mode neg (keyN f mode neg x s more) + signN f neg := by
  unfold packN capN overN infK; simp only [decide_eq_true_iff]
theorem cap_le (f mode : Int) (neg : Bool) (K : Nat) : capN f mode neg K ≤ infK f ∧ capN f mode neg K ≤ K := by
  unfold capN
  by_cases h : infK f ≤ K
  · rw [if_pos h]; split <;> omega
  · rw [if_neg h]; omega
/-- A finite number in another format. -/
theorem to_finite (g f mode : Int) (v : Nat) (h : magN g v < infK g) : toN g f mode v = capN f mode (negN g v) (keyN f mode (negN g v) (-149) (amtN g (magN g v) * 2 ^ cN g) false) + signN f (negN g v) := by
  have hc := (cls_finite g v).mpr ((mag_exp g v).mpr h)
  unfold toN
  rw [if_neg (by omega), if_neg (by omega), pack_cap, key_whole, c_is, key_scale]
theorem to_infinite (g f mode : Int) (v : Nat) (h : magN g v = infK g) : toN g f mode v = infK f + signN f (negN g v) := by
  have hc := mag_cls g v h
  unfold toN
  rw [if_neg (by omega), if_pos hc]; rfl
theorem to_lt (g f mode : Int) (v : Nat) : toN g f mode v < 2 ^ (fe f + fm f + 1) ∧ toN g f mode v < 4294967296 := by
  have h : toN g f mode v < 2 ^ (fe f + fm f + 1) := by
    obtain ⟨i1, _⟩ := infK_lt f
    obtain ⟨_, hi⟩ := inf_lt f false
    have hh := half_frac f
    unfold toN
    split
    · unfold nanN; rw [Nat.pow_succ]; omega
    · split
      · exact (sign_parts f (infK f) (negN g v) i1).2.2
      · rw [pack_cap]
        exact (sign_parts f _ (negN g v) (Nat.lt_of_le_of_lt (cap_le f mode _ _).1 i1)).2.2
  have hb := fbounds f
  have := pow_le32 (show fe f + fm f + 1 ≤ 32 by omega)
  exact ⟨h, by omega⟩
/-- What a number's amount makes of a format, unbounded: whole units, rounded. -/
theorem key_parts (f mode : Int) (neg : Bool) (A : Nat) : ∃ r q : Nat, ∃ up : Bool, keyN f mode neg (-149) A false = r * 2 ^ fm f + (q + if up then 1 else 0) ∧ (up = upN mode neg q (leftN A ((r + cN f : Nat) : Int) false)) ∧
    q = A / 2 ^ (r + cN f) ∧ (leftN A ((r + cN f : Nat) : Int) false = 0 ↔ A % 2 ^ (r + cN f) = 0) ∧ amtN f (r * 2 ^ fm f + (q + if up then 1 else 0)) = (q + if up then 1 else 0) * 2 ^ r := by
  have hu : unitN f (-149) A - (-149) = ((riseN f (-149) A + cN f : Nat) : Int) := by
    unfold unitN; rw [c_is]; omega
  obtain ⟨q1, q2⟩ := quo_bounds f (-149) A
  rw [hu] at q1 q2
  generalize hr : riseN f (-149) A = r at *
  have hq : quoN A ((r + cN f : Nat) : Int) = A / 2 ^ (r + cN f) := by
    unfold quoN
    by_cases c : ((r + cN f : Nat) : Int) ≤ 0
    · rw [if_pos c, show r + cN f = 0 by omega]; simp
    · rw [if_neg c, Int.toNat_natCast]
  refine ⟨r, quoN A ((r + cN f : Nat) : Int), upN mode neg (quoN A ((r + cN f : Nat) : Int)) (leftN A ((r + cN f : Nat) : Int) false), ?_, rfl, hq, ?_, ?_⟩
  · unfold keyN; rw [hu, hr, Nat.add_assoc]
  · by_cases c : ((r + cN f : Nat) : Int) ≤ 0
    · rw [left_exact _ _ (.inl c), show r + cN f = 0 by omega]; simp [Nat.mod_one]
    · rw [left_rest _ _ _ c, Int.toNat_natCast]
      unfold restN
      have hh := Nat.two_pow_pos (r + cN f - 1)
      constructor
      · intro h; split at h
        · split at h
          · next h' => exact h'.1
          · omega
        · split at h <;> omega
      · intro h; rw [h, if_pos hh]; simp
  · apply amt_key
    · split <;> omega
    · rcases Nat.eq_zero_or_pos r with c | c
      · exact .inl c
      · have := q2 (by omega); right; split <;> omega
theorem amount_cut (f : Int) (q r : Nat) : q * 2 ^ r * 2 ^ cN f = q * 2 ^ (r + cN f) := by rw [Nat.mul_assoc, ← Nat.pow_add]
/-- Towards nought: not above. -/
theorem toward (f mode : Int) (neg : Bool) (A : Nat) (h : ∀ q l, upN mode neg q l = false) : amtN f (keyN f mode neg (-149) A false) * 2 ^ cN f ≤ A := by
  obtain ⟨r, q, up, hk, hup, hq, hl, ha⟩ := key_parts f mode neg A
  rw [h] at hup
  subst hup
  rw [hk, ha, amount_cut, if_neg (by decide), Nat.add_zero, hq]
  exact Nat.div_mul_le_self _ _
/-- Away from it: not below. -/
theorem away (f mode : Int) (neg : Bool) (A : Nat) (h : ∀ q l, upN mode neg q l = decide (l ≠ 0)) : A ≤ amtN f (keyN f mode neg (-149) A false) * 2 ^ cN f := by
  obtain ⟨r, q, up, hk, hup, hq, hl, ha⟩ := key_parts f mode neg A
  rw [h] at hup
  rw [hk, ha, amount_cut]
  have hd := Nat.div_add_mod A (2 ^ (r + cN f))
  have hm := Nat.mod_lt A (Nat.two_pow_pos (r + cN f))
  rw [← hq, Nat.mul_comm] at hd
  by_cases c : A % 2 ^ (r + cN f) = 0
  · exact Nat.le_trans (by omega) (Nat.mul_le_mul_right _ (Nat.le_add_right q _))
  · have hu : up = true := by rw [hup]; exact decide_eq_true (fun e => c (hl.mp e))
    subst hu
    rw [if_pos rfl, Nat.add_mul, Nat.one_mul]; omega
/-- A narrowed number, widened again. -/
theorem widen_cap (f mode : Int) (neg : Bool) (K : Nat) : toN f 2 0 (capN f mode neg K + signN f neg) =
    (if capN f mode neg K = infK f then infK 2 else capN 2 0 neg (keyN 2 0 neg (-149) (amtN f (capN f mode neg K) * 2 ^ cN f) false)) + signN 2 neg := by
  obtain ⟨c1, _⟩ := cap_le f mode neg K
  obtain ⟨i1, i2⟩ := infK_lt f
  generalize capN f mode neg K = P at *
  obtain ⟨h1, h2, _⟩ := sign_parts f P neg (by omega)
  by_cases c : P = infK f
  · rw [if_pos c, to_infinite _ _ _ _ (by rw [h2, c]), h1]
  · rw [if_neg c, to_finite _ _ _ _ (by rw [h2]; omega), h1, h2]
theorem single_key (mode : Int) (neg : Bool) (K : Nat) : keyN 2 mode neg (-149) (amtN 2 K) false = K := by
  have := key_amt 2 mode neg K; rw [single_base] at this; exact this
/-- The place of a narrowed number that was widened, by that of the number: X its bits without its sign. -/
theorem side_toward (f mode : Int) (neg : Bool) (X : Nat) (hX : X < infK 2) (h : ∀ q l, upN mode neg q l = false) (he : endless mode neg = false) :
    ∃ P, P < 2 ^ (fe 2 + fm 2) ∧ P ≤ X ∧ toN f 2 0 (capN f mode neg (keyN f mode neg (-149) (amtN 2 X) false) + signN f neg) = P + signN 2 neg := by
  have ht := toward f mode neg (amtN 2 X) h
  generalize keyN f mode neg (-149) (amtN 2 X) false = K at *
  obtain ⟨i1, i2⟩ := infK_lt f
  obtain ⟨j1, j2⟩ := infK_lt 2
  obtain ⟨c1, c2⟩ := cap_le f mode neg K
  have cn : capN f mode neg K ≠ infK f := by
    unfold capN; rw [he]; split
    · simp; omega
    · omega
  rw [widen_cap, if_neg cn]
  have hk : keyN 2 0 neg (-149) (amtN f (capN f mode neg K) * 2 ^ cN f) false ≤ X := by
    have hm := Nat.mul_le_mul_right (2 ^ cN f) (amt_mono f c2)
    have := key_mono 2 0 neg (-149) (a := amtN f (capN f mode neg K) * 2 ^ cN f) (b := amtN 2 X) (more := false) (less := false) (by omega) (fun _ h => h)
    rw [single_key] at this; exact this
  obtain ⟨d1, d2⟩ := cap_le 2 0 neg (keyN 2 0 neg (-149) (amtN f (capN f mode neg K) * 2 ^ cN f) false)
  exact ⟨_, by omega, by omega, rfl⟩
theorem side_away (f mode : Int) (neg : Bool) (X : Nat) (hX : X < infK 2) (h : ∀ q l, upN mode neg q l = decide (l ≠ 0)) (he : endless mode neg = true) :
    ∃ P, P < 2 ^ (fe 2 + fm 2) ∧ X ≤ P ∧ toN f 2 0 (capN f mode neg (keyN f mode neg (-149) (amtN 2 X) false) + signN f neg) = P + signN 2 neg := by
  have ht := away f mode neg (amtN 2 X) h
  generalize keyN f mode neg (-149) (amtN 2 X) false = K at *
  obtain ⟨i1, i2⟩ := infK_lt f
  obtain ⟨j1, j2⟩ := infK_lt 2
  rw [widen_cap]
  by_cases c : infK f ≤ K
  · have e : capN f mode neg K = infK f := by unfold capN; rw [if_pos c, he, if_pos rfl]
    rw [if_pos e]
    exact ⟨_, j1, by omega, rfl⟩
  · have e : capN f mode neg K = K := by unfold capN; rw [if_neg c]
    rw [e, if_neg (by omega)]
    have hk : X ≤ keyN 2 0 neg (-149) (amtN f K * 2 ^ cN f) false := by
      have := key_mono 2 0 neg (-149) (a := amtN 2 X) (b := amtN f K * 2 ^ cN f) (more := false) (less := false) ht (fun _ h => h)
      rw [single_key] at this; exact this
    obtain ⟨d1, d2⟩ := cap_le 2 0 neg (keyN 2 0 neg (-149) (amtN f K * 2 ^ cN f) false)
    refine ⟨_, by omega, ?_, rfl⟩
    unfold capN
    by_cases o : infK 2 ≤ keyN 2 0 neg (-149) (amtN f K * 2 ^ cN f) false
    · rw [if_pos o, show endless 0 neg = true from rfl, if_pos rfl]; omega
    · rw [if_neg o]; exact hk
end Go.Proofs.Ytoljndjpnbdjmaa.Round

/- The program's rounding and the reference's, from some round on; small facts about lists. -/
namespace Go.Proofs.Ytoljndjpnbdjmaa.Round
open Go.RowKit Go.Proofs.Ytoljndjpnbdjmaa.P Go.Proofs.Ytoljndjpnbdjmaa.Num Go.Proofs.Ytoljndjpnbdjmaa.BitsF Go.Proofs.Ytoljndjpnbdjmaa.Fmt Go.Proofs.YtoljndjpnbdjmaaW.PrintWords Go.Proofs.YtoljndjpnbdjmaaW.PrintLast Go.Proofs.YtoljndjpnbdjmaaW.PrintMore

theorem pack_ev (f mode : Int) (neg : Bool) (x : Int) (s : Nat) (more : Bool) (hs : s < 18446744073709551616) :
    Ev (fun k => round_Pack.f k f mode neg x (s : Int) more) ((packN f mode neg (clampE x) s more : Int), false, false, excN f mode neg (clampE x) s more) :=
  Ev.of (round_Pack.mono _ _ _ _ _ _) (pack_f 0 f mode neg x s more hs)
theorem known3_ev : Ev (fun k => anneallaw3_known.f k) true := Ev.of anneallaw3_known.mono (k := 20) (by kernel_rfl)
theorem form_f (a : Int) (h : 0 ≤ a) : ∃ f : Int, anneallaw3_form.f a = some f ∧ (f = 0 ∨ f = 1 ∨ f = 2) := by
  unfold anneallaw3_form.f
  have e := Int.tmod_eq_emod_of_nonneg (b := 3) h
  have : a % 3 = 0 ∨ a % 3 = 1 ∨ a % 3 = 2 := by omega
  simp only [Option.bind_some, e]
  rcases this with h | h | h <;> rw [h]
  · exact ⟨0, rfl, .inl rfl⟩
  · exact ⟨1, rfl, .inr (.inl rfl)⟩
  · exact ⟨2, rfl, .inr (.inr rfl)⟩
end Go.Proofs.Ytoljndjpnbdjmaa.Round
