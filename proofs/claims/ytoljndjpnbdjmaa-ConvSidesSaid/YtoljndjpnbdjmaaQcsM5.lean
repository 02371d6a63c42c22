import Derived.Test.YtoljndjpnbdjmaaQcsM4
import Derived.Test.YtoljndjpnbdjmaaQcsPx14
import Derived.Test.YtoljndjpnbdjmaaQcsPx20
import Derived.Test.YtoljndjpnbdjmaaQcsPx22
import Derived.Test.YtoljndjpnbdjmaaQcsPx28
/- RoundModes: towards nought, up, down stand on either side, and the nearest is one of them: of each format, for every exponent and number. -/
namespace Go.Proofs.Ytoljndjpnbdjmaa.Pure
open Go.RowKit Go.Proofs.Ytoljndjpnbdjmaa.P Go.Proofs.Ytoljndjpnbdjmaa.Num Go.Proofs.Ytoljndjpnbdjmaa.BitsF Go.Proofs.Ytoljndjpnbdjmaa.Fmt Go.Proofs.Ytoljndjpnbdjmaa.Round Go.Proofs.YtoljndjpnbdjmaaW.PrintWords Go.Proofs.YtoljndjpnbdjmaaW.PrintLast Go.Proofs.YtoljndjpnbdjmaaW.PrintMore

/-- Without a sign: what each mode makes of the units and of what is left. -/
def amountN (f : Int) (up inf : Bool) (base : Nat) : Nat :=
  if overN f (base + if up then 1 else 0) then (if inf then topN f * 2 ^ fm f else topN f * 2 ^ fm f - 1) else base + if up then 1 else 0
theorem pack_amount (f mode : Int) (neg : Bool) (x : Int) (s : Nat) (more : Bool) :
    packN f mode neg x s more = amountN f (upN mode neg (quoN s (unitN f x s - x)) (leftN s (unitN f x s - x) more)) (endless mode neg) (riseN f x s * 2 ^ fm f + quoN s (unitN f x s - x)) + signN f neg := rfl
theorem exc_inexact (f mode : Int) (neg : Bool) (x : Int) (s : Nat) (more : Bool) :
    (excN f mode neg x s more).2.2 = (overN f (keyN f mode neg x s more) || inexN f x s more) := by
  unfold excN; split <;> simp_all
theorem amount_out (f : Int) (B : Nat) : amountN f false false B = if topN f * 2 ^ fm f ≤ B then topN f * 2 ^ fm f - 1 else B := by
  unfold amountN overN; simp
theorem amount_in (f : Int) (up : Bool) (B : Nat) : amountN f up true B = if topN f * 2 ^ fm f ≤ B then topN f * 2 ^ fm f else B + if up then 1 else 0 := by
  unfold amountN overN
  simp only [if_true, decide_eq_true_iff]
  split <;> split <;> cases up <;> simp at * <;> omega
theorem up_left (mode : Int) (neg : Bool) (q l : Nat) (h : upN mode neg q l = true) : l ≠ 0 := by
  rintro rfl; unfold upN at h; simp at h
/-- What the statement asks, of amounts with a sign. -/
theorem modes (f : Int) (neg more : Bool) (x : Int) (s : Nat) (mo mi : Int) (ho : mo = if neg then 2 else 3) (hi : mi = if neg then 3 else 2) :
    packN f 1 neg x s more = packN f mo neg x s more ∧ (excN f 1 neg x s more).2.2 = (excN f mo neg x s more).2.2 ∧ (excN f mo neg x s more).2.2 = (excN f mi neg x s more).2.2 ∧ (excN f mi neg x s more).2.2 = (excN f 0 neg x s more).2.2 ∧
    ((excN f 1 neg x s more).2.2 = false → packN f 1 neg x s more = packN f mi neg x s more ∧ packN f 1 neg x s more = packN f 0 neg x s more ∧ packN f 0 neg x s more = packN f 4 neg x s more) ∧
    ((excN f 1 neg x s more).2.2 = true → packN f mi neg x s more ≠ packN f 1 neg x s more ∧ (packN f 0 neg x s more = packN f mi neg x s more ∨ packN f 0 neg x s more = packN f 1 neg x s more) ∧ (packN f 4 neg x s more = packN f mi neg x s more ∨ packN f 4 neg x s more = packN f 1 neg x s more)) := by
  have ht : 0 < topN f * 2 ^ fm f := Nat.mul_pos (by have := top_cases f; omega) (Nat.two_pow_pos _)
  have u1 : ∀ q l, upN 1 neg q l = false := fun q l => rfl
  have uo : ∀ q l, upN mo neg q l = false := fun q l => by subst ho; cases neg <;> rfl
  have ui : ∀ q l, upN mi neg q l = decide (l ≠ 0) := fun q l => by subst hi; cases neg <;> simp [upN]
  have n1 : endless 1 neg = false := rfl
  have no : endless mo neg = false := by subst ho; cases neg <;> rfl
  have ni : endless mi neg = true := by subst hi; cases neg <;> rfl
  have n0 : endless 0 neg = true := rfl
  have n4 : endless 4 neg = true := rfl
  have w0 := up_left 0 neg (quoN s (unitN f x s - x)) (leftN s (unitN f x s - x) more)
  have w4 := up_left 4 neg (quoN s (unitN f x s - x)) (leftN s (unitN f x s - x) more)
  have key : ∀ m, keyN f m neg x s more = (riseN f x s * 2 ^ fm f + quoN s (unitN f x s - x)) + if upN m neg (quoN s (unitN f x s - x)) (leftN s (unitN f x s - x) more) then 1 else 0 := fun m => rfl
  have inx : inexN f x s more = decide (leftN s (unitN f x s - x) more ≠ 0) := rfl
  simp only [exc_inexact, pack_amount, key, inx, u1, uo, ui, n1, no, ni, n0, n4]
  generalize upN 0 neg (quoN s (unitN f x s - x)) (leftN s (unitN f x s - x) more) = a at *
  generalize upN 4 neg (quoN s (unitN f x s - x)) (leftN s (unitN f x s - x) more) = b at *
  generalize riseN f x s * 2 ^ fm f + quoN s (unitN f x s - x) = B at *
  generalize leftN s (unitN f x s - x) more = l at *
  simp only [amount_out, amount_in]
  unfold overN
  generalize topN f * 2 ^ fm f = T at *
  by_cases l0 : l = 0
  · subst l0
    have ha : a = false := by cases a <;> simp_all
    have hb : b = false := by cases b <;> simp_all
    subst ha hb
    simp
    constructor
    · intro h; rw [if_neg (by omega), if_neg (by omega)]
    · intro h; rw [if_pos h, if_pos h]; omega
  · simp [l0]
    by_cases h : T ≤ B
    · simp [h]; try omega
    · simp [h] <;> cases a <;> cases b <;> simp
theorem RoundModes : anneallaw3_RoundModes.Pure := by
  intro a0 a1 a2 a3 a4 h0 h1 h2
  obtain ⟨p0, q0⟩ := wf_u8 h0
  obtain ⟨p1, q1⟩ := wf_i16 h1
  obtain ⟨p2, q2⟩ := wf_u64 h2
  obtain ⟨s, rfl⟩ := nat_of p2
  apply Ev.rounds
  unfold anneallaw3_RoundModes.f
  refine Ev.bind known3_ev ?_
  obtain ⟨f, hf, _⟩ := form_f a0 p0
  simp only [if_true, hf, Option.bind_some]
  generalize Int.tmod (wrap64 a1) 300 = e
  have pk := fun m => pack_ev f m a3 e s a4 (by omega)
  refine Ev.bind (pk 1) (Ev.bind (pk 2) (Ev.bind (pk 3) (Ev.bind (pk 0) (Ev.bind (pk 4) ?_))))
  have last : ∀ (v1 v0 v4 vi : Nat) (b0 b1 b2 b3 b4 : Bool), (b4 = false → v1 = vi ∧ v1 = v0 ∧ v0 = v4) → (b4 = true → vi ≠ v1 ∧ (v0 = vi ∨ v0 = v1) ∧ (v4 = vi ∨ v4 = v1)) → Ev (fun k => anneallaw3_RoundModes.j1 k (v1 : Int) (v0 : Int) (v4 : Int) (vi : Int) false b0 b1 b2 b3 b4) true := by
    intro v1 v0 v4 vi b0 b1 b2 b3 b4 hf ht
    refine Ev.step (fun k => by rw [anneallaw3_RoundModes.j1]) ?_
    simp only [Bool.false_eq_true, if_false]
    cases b4
    · obtain ⟨e1, e2, e3⟩ := hf rfl
      subst e1 e2 e3
      simp only [Bool.false_eq_true, if_false, if_true, beq_self_eq_true]
      exact Ev.now true
    · obtain ⟨e1, e2, e3⟩ := ht rfl
      have n1 : ¬ ((vi : Int) = (v1 : Int)) := by omega
      have n2 : ((v4 : Int) = (vi : Int)) ∨ ((v4 : Int) = (v1 : Int)) := by omega
      simp only [if_true, if_neg n1]
      have fin : Ev (fun _ : Nat => if (v4 : Int) = (vi : Int) then some true else some ((v4 : Int) == (v1 : Int))) true := by
        by_cases h : (v4 : Int) = (vi : Int)
        · simp only [if_pos h]; exact Ev.now true
        · simp only [if_neg h]; simp only [n2.resolve_left h, beq_self_eq_true]; exact Ev.now true
      by_cases h : (v0 : Int) = (vi : Int)
      · simp only [if_pos h]; exact fin
      · have h' : (v0 : Int) = (v1 : Int) := by omega
        simp only [if_neg h, if_pos h']; exact fin
  cases a3
  · have M := modes f false a4 (clampE e) s 3 2 rfl rfl
    generalize excN f 1 false (clampE e) s a4 = x1 at *
    generalize excN f 0 false (clampE e) s a4 = x0 at *
    generalize packN f 1 false (clampE e) s a4 = v1 at *
    generalize packN f 0 false (clampE e) s a4 = v0 at *
    generalize packN f 4 false (clampE e) s a4 = v4 at *
    generalize excN f 2 false (clampE e) s a4 = x2 at *
    generalize excN f 3 false (clampE e) s a4 = x3 at *
    generalize packN f 2 false (clampE e) s a4 = v2 at *
    generalize packN f 3 false (clampE e) s a4 = v3 at *
    obtain ⟨m1, m2, m3, m4, m5, m6⟩ := M
    subst m1
    simp only [Bool.false_eq_true, if_false]
    refine Ev.step (fun k => by rw [anneallaw3_RoundModes.j0, if_pos rfl]) ?_
    simp only [← m4, ← m3, ← m2, bne_self_eq_false, Bool.false_eq_true, if_false]
    exact last _ _ _ _ _ _ _ _ _ m5 m6
  · have M := modes f true a4 (clampE e) s 2 3 rfl rfl
    generalize excN f 1 true (clampE e) s a4 = x1 at *
    generalize excN f 0 true (clampE e) s a4 = x0 at *
    generalize packN f 1 true (clampE e) s a4 = v1 at *
    generalize packN f 0 true (clampE e) s a4 = v0 at *
    generalize packN f 4 true (clampE e) s a4 = v4 at *
    generalize excN f 2 true (clampE e) s a4 = x2 at *
    generalize excN f 3 true (clampE e) s a4 = x3 at *
    generalize packN f 2 true (clampE e) s a4 = v2 at *
    generalize packN f 3 true (clampE e) s a4 = v3 at *
    obtain ⟨m1, m2, m3, m4, m5, m6⟩ := M
    subst m1
    simp only [if_true]
    refine Ev.step (fun k => by rw [anneallaw3_RoundModes.j0, if_pos rfl]) ?_
    simp only [← m4, ← m3, ← m2, bne_self_eq_false, Bool.false_eq_true, if_false]
    exact last _ _ _ _ _ _ _ _ _ m5 m6
end Go.Proofs.Ytoljndjpnbdjmaa.Pure

/- ConvSides: a number that is narrowed down isn't above, one narrowed up isn't below, for every single number and both narrow formats. -/
namespace Go.Proofs.Ytoljndjpnbdjmaa.Pure
open Go.RowKit Go.Proofs.Ytoljndjpnbdjmaa.P Go.Proofs.Ytoljndjpnbdjmaa.Num Go.Proofs.Ytoljndjpnbdjmaa.BitsF Go.Proofs.Ytoljndjpnbdjmaa.Fmt Go.Proofs.Ytoljndjpnbdjmaa.Round Go.Proofs.YtoljndjpnbdjmaaW.PrintWords Go.Proofs.YtoljndjpnbdjmaaW.PrintLast Go.Proofs.YtoljndjpnbdjmaaW.PrintMore
theorem known9_ev : Ev (fun k => anneallaw9_known.f k) true := Ev.of anneallaw9_known.mono (k := 40) (by kernel_rfl)
theorem u32_in (n : Int) : ∃ m : Nat, IntKind.u32.wrap n = (m : Int) ∧ m < 4294967296 := by
  rw [u32_wrap]
  exact ⟨(n % 4294967296).toNat, by omega, by omega⟩
theorem bits_in (op : BinOp) (a b : Int) (h : op = .and ∨ op = .or) : ∃ m : Nat, Go.bits op .u32 a b = (m : Int) ∧ m < 4294967296 := by
  rcases h with rfl | rfl
  · exact u32_in _
  · exact u32_in _
/-- A number that is drawn: some 32 bits. -/
theorem num_f (a : Nat) (ha : a < 4294967296) : ∃ x : Nat, annealseat_Num.f 2 (a : Int) = some (x : Int) ∧ x < 4294967296 := by
  have e := Int.tmod_eq_emod_of_nonneg (b := 15) (Int.natCast_nonneg a)
  have hp : 0 ≤ Int.tmod (a : Int) 15 ∧ Int.tmod (a : Int) 15 < 15 := by rw [e]; omega
  unfold annealseat_Num.f
  rw [show annealref1_Widths.f 2 = some (8, 23) from rfl, Option.bind_some]
  dsimp only
  rw [if_pos (by decide), if_pos (by decide), if_neg (by decide), if_pos (show (0 : Int) ≤ wrap64 (23 - 1) by unfold wrap64; omega), if_neg (by decide), Option.bind_some, if_pos hp.1, if_pos (by exact hp.2), ref_mask_f, Option.bind_some, ref_zero_f]
  generalize rd _ _ = y
  by_cases c : (a : Int) / 2147483648 = 1
  · rw [if_pos c, Option.bind_some]
    obtain ⟨m, h1, h2⟩ := bits_in .or (Go.bits .and .u32 y (maskN 2 : Int)) (signN 2 true : Int) (.inr rfl)
    exact ⟨m, by rw [h1], h2⟩
  · rw [if_neg c]
    obtain ⟨m, h1, h2⟩ := bits_in .and y (maskN 2 : Int) (.inl rfl)
    exact ⟨m, by rw [h1], h2⟩
theorem key_none (f mode : Int) (neg : Bool) (x : Int) : keyN f mode neg x 0 false = 0 := by
  unfold keyN
  have hr : riseN f x 0 = 0 := by unfold riseN; rw [if_pos rfl]
  have hq : quoN 0 (unitN f x 0 - x) = 0 := by unfold quoN; split <;> simp
  have hl : leftN 0 (unitN f x 0 - x) false = 0 := left_none _ (.inr (by simp))
  rw [hr, hq, hl, up_none]; simp
theorem num_bits (v : Nat) (hv : v < 4294967296) : lowN 2 v = v := low_id 2 v hv
/-- The number that is narrowed, in each mode. -/
theorem to_parts (f mode : Int) (x : Nat) (hx : magN 2 x < infK 2) : toN 2 f mode x = capN f mode (negN 2 x) (keyN f mode (negN 2 x) (-149) (amtN 2 (magN 2 x)) false) + signN f (negN 2 x) := by
  have := to_finite 2 f mode x hx
  rw [show cN 2 = 0 from by decide, Nat.pow_zero, Nat.mul_one] at this
  exact this
theorem to_exc (f mode : Int) (x : Nat) (hx : magN 2 x < infK 2) : toX 2 f mode x = (false, false, excN f mode (negN 2 x) (lowestN 2 x) (wholeN 2 x) false) := by
  have hc := (cls_finite 2 x).mpr ((mag_exp 2 x).mpr hx)
  unfold toX; rw [if_neg (by omega), if_neg (by omega)]
theorem to_pack (f mode : Int) (x : Nat) (hx : magN 2 x < infK 2) : toN 2 f mode x = packN f mode (negN 2 x) (lowestN 2 x) (wholeN 2 x) false := by
  have hc := (cls_finite 2 x).mpr ((mag_exp 2 x).mpr hx)
  unfold toN; rw [if_neg (by omega), if_neg (by omega)]
theorem to_32 (f mode : Int) (x : Nat) (hx : magN 2 x < infK 2) : toN 2 f mode x < 4294967296 := by
  rw [to_parts f mode x hx]
  obtain ⟨c1, _⟩ := cap_le f mode (negN 2 x) (keyN f mode (negN 2 x) (-149) (amtN 2 (magN 2 x)) false)
  obtain ⟨i1, _⟩ := infK_lt f
  obtain ⟨_, _, h⟩ := sign_parts f _ (negN 2 x) (Nat.lt_of_le_of_lt c1 i1)
  have hb := fbounds f
  have := pow_le32 (show fe f + fm f + 1 ≤ 32 by omega)
  omega
/-- The sides: lower first. -/
theorem sides (f : Int) (x : Nat) (hv : x < 4294967296) (hx : magN 2 x < infK 2) :
    placeN 2 (lowN 2 (toN f 2 0 (toN 2 f 3 x))) ≤ placeN 2 x ∧ placeN 2 (lowN 2 (toN f 2 0 (toN 2 f 2 x))) ≥ placeN 2 x := by
  have hp : placeN 2 x = if negN 2 x then -1 - (magN 2 x : Int) else (magN 2 x : Int) := rfl
  rw [to_parts f 3 x hx, to_parts f 2 x hx, hp]
  generalize magN 2 x = X at *
  cases negN 2 x
  · obtain ⟨P, p1, p2, p3⟩ := side_toward f 3 false X hx (fun q l => rfl) rfl
    obtain ⟨Q, q1, q2, q3⟩ := side_away f 2 false X hx (fun q l => by simp [upN]) rfl
    rw [p3, q3, place_sign 2 P false p1, place_sign 2 Q false q1]
    simp only [Bool.false_eq_true, if_false]
    omega
  · obtain ⟨P, p1, p2, p3⟩ := side_away f 3 true X hx (fun q l => by simp [upN]) rfl
    obtain ⟨Q, q1, q2, q3⟩ := side_toward f 2 true X hx (fun q l => rfl) rfl
    rw [p3, q3, place_sign 2 P true p1, place_sign 2 Q true q1]
    simp only [if_true]
    omega
/-- What is told of the modes: with lo (down), hi (up), n (nearest). -/
theorem sides_told (f : Int) (x : Nat) (hx : magN 2 x < infK 2) :
    (excN f 3 (negN 2 x) (lowestN 2 x) (wholeN 2 x) false).2.2 = (excN f 2 (negN 2 x) (lowestN 2 x) (wholeN 2 x) false).2.2 ∧
    (toN 2 f 0 x = toN 2 f 3 x ∨ toN 2 f 0 x = toN 2 f 2 x) ∧ ((excN f 3 (negN 2 x) (lowestN 2 x) (wholeN 2 x) false).2.2 = false → toN 2 f 3 x = toN 2 f 2 x) := by
  rw [to_pack f 0 x hx, to_pack f 3 x hx, to_pack f 2 x hx]
  cases negN 2 x
  · obtain ⟨m1, m2, m3, m4, m5, m6⟩ := modes f false false (lowestN 2 x) (wholeN 2 x) 3 2 rfl rfl
    refine ⟨m3, ?_, fun h => ?_⟩
    · cases h : (excN f 1 false (lowestN 2 x) (wholeN 2 x) false).2.2
      · obtain ⟨a, b, _⟩ := m5 h; left; rw [← b, m1]
      · obtain ⟨_, b, _⟩ := m6 h
        rcases b with b | b
        · exact .inr b
        · left; rw [b, m1]
    · obtain ⟨a, b, _⟩ := m5 (by rw [m2, h]); rw [← m1, a]
  · obtain ⟨m1, m2, m3, m4, m5, m6⟩ := modes f true false (lowestN 2 x) (wholeN 2 x) 2 3 rfl rfl
    refine ⟨m3.symm, ?_, fun h => ?_⟩
    · cases h : (excN f 1 true (lowestN 2 x) (wholeN 2 x) false).2.2
      · obtain ⟨a, b, _⟩ := m5 h; right; rw [← b, m1]
      · obtain ⟨_, b, _⟩ := m6 h
        rcases b with b | b
        · exact .inl b
        · right; rw [b, m1]
    · obtain ⟨a, b, _⟩ := m5 (by rw [m2, m3, h]); rw [← a, m1]
theorem none_same (f mode : Int) (x : Nat) (hx : magN 2 x < infK 2) (h : clsN 2 x = 0) : toN 2 f mode x = signN f (negN 2 x) := by
  have hw : wholeN 2 x = 0 := by
    unfold clsN at h
    unfold wholeN
    by_cases c : expN 2 x = 0
    · rw [if_pos c] at h ⊢
      by_cases d : fracN 2 x = 0
      · exact d
      · rw [if_neg d] at h; omega
    · rw [if_neg c] at h
      split at h
      · omega
      · split at h
        · omega
        · split at h <;> omega
  have hi := (infK_lt f).2
  rw [to_pack f mode x hx, hw, pack_cap, key_none]
  unfold capN; rw [if_neg (by omega)]; omega
theorem conv_sides (f : Int) (a : Nat) (ha : a < 4294967296) : Ev (fun k => anneallaw9_ConvSides.j0 k (a : Int) f) true := by
  obtain ⟨x, hx, hv⟩ := num_f a ha
  refine Ev.step (fun k => by rw [anneallaw9_ConvSides.j0, hx, Option.bind_some]) (Ev.bind (rfinite_ev 2 x hv) ?_)
  by_cases c : expN 2 x < topN 2
  · have hm := (mag_exp 2 x).mp c
    rw [decide_eq_true c]
    refine Ev.congr (fun k => by rw [if_pos rfl]) (Ev.bind (to_ev 2 f 3 x hv) (Ev.bind (to_ev 2 f 2 x hv) (Ev.bind (to_ev 2 f 0 x hv) ?_)))
    rw [to_exc f 3 x hm, to_exc f 2 x hm]
    dsimp only
    have e3 := to_32 f 3 x hm
    have e2 := to_32 f 2 x hm
    obtain ⟨s1, s2⟩ := sides f x hv hm
    obtain ⟨t1, t2, t3⟩ := sides_told f x hm
    refine Ev.bind (a := placeN 2 x) (Ev.congr (fun k => by rw [ref_key_f 2 x hv, num_bits x hv]) (Ev.now _)) (Ev.bind (rclass_ev 2 x hv) ?_)
    by_cases z : clsN 2 x = 0
    · refine Ev.congr (fun k => ?_) (Ev.now true)
      rw [if_pos (by omega), none_same f 3 x hm z, none_same f 2 x hm z, none_same f 0 x hm z, if_pos rfl, beq_self_eq_true]
    · refine Ev.congr (fun k => by rw [if_neg (by omega)]) (Ev.bind (widen_ev f _ e3) ?_)
      have w3 := (to_lt f 2 0 (toN 2 f 3 x)).2
      have w2 := (to_lt f 2 0 (toN 2 f 2 x)).2
      refine Ev.congr (fun k => by rw [ref_key_f 2 _ w3, Option.bind_some, if_pos s1]) (Ev.bind (widen_ev f _ e2) (Ev.congr (fun k => by rw [ref_key_f 2 _ w2, Option.bind_some, if_pos s2, t1, beq_self_eq_true, if_pos rfl]) ?_))
      generalize (excN f 2 (negN 2 x) (lowestN 2 x) (wholeN 2 x) false).2.2 = i at *
      rw [t1] at t3
      refine Ev.congr (fun k => ?_) (Ev.now true)
      cases i
      · rw [t3 rfl, or_self] at t2
        rw [t2, t3 rfl, if_pos rfl, if_neg (by decide), beq_self_eq_true]
      · rcases t2 with t | t
        · rw [t, if_pos rfl, if_pos rfl]
        · rw [t]; split
          · rfl
          · rw [if_pos rfl, if_pos rfl]
  · rw [decide_eq_false c]
    exact Ev.congr (fun k => by rw [if_neg (by decide)]) (Ev.now _)
theorem ConvSides : anneallaw9_ConvSides.Pure := by
  intro a0 a1 h1
  obtain ⟨p1, q1⟩ := wf_u32 h1
  obtain ⟨a, rfl⟩ := nat_of p1
  apply Ev.rounds
  unfold anneallaw9_ConvSides.f
  refine Ev.bind known9_ev ?_
  simp only [if_true]
  cases a0
  · exact Ev.congr (fun k => by rw [if_neg (by decide)]) (conv_sides 1 a (by omega))
  · exact Ev.congr (fun k => by rw [if_pos rfl]) (conv_sides 0 a (by omega))
end Go.Proofs.Ytoljndjpnbdjmaa.Pure
