/- RoundModes: towards nought, up, down stand on either side, and the nearest is one of them: of each format, for every exponent and number. -/
import Derived.Test.YtoljndjpnbdjmaaRoundE
import Derived.Test.YtoljndjpnbdjmaaPx14
namespace Go.Proofs.Ytoljndjpnbdjmaa.Pure
open Go.RowKit Go.Proofs.Ytoljndjpnbdjmaa.P Go.Proofs.Ytoljndjpnbdjmaa.Num Go.Proofs.Ytoljndjpnbdjmaa.BitsF Go.Proofs.Ytoljndjpnbdjmaa.Fmt Go.Proofs.Ytoljndjpnbdjmaa.Round Go.Proofs.YtoljndjpnbdjmaaW.PrintWords Go.Proofs.YtoljndjpnbdjmaaW.PrintLast Go.Proofs.YtoljndjpnbdjmaaW.PrintMore

/-- Without a sign: what each mode makes of the units and of what is left. -/
def amountN (f : Int) (up inf : Bool) (base : Nat) : Nat :=
  if overN f (base + if up then 1 else 0) then (if inf then topN f * 2 ^ fm f else topN f * 2 ^ fm f - 1) else base + if up then 1 else 0
theorem pack_amount (f mode : Int) (neg : Bool) (x : Int) (s : Nat) (more : Bool) :
    packN f mode neg x s more = amountN f (upN mode neg (quoN s (unitN f x s - x)) (leftN s (unitN f x s - x) more)) (endless mode neg) (riseN f x s * 2 ^ fm f + quoN s (unitN f x s - x)) + signN f neg := rfl
theorem exc_inexact (f mode : Int) (neg : Bool) (x : Int) (s : Nat) (more : Bool) :
    (excN f mode neg x s more).2.2 = (overN f (keyN f mode neg x s more) || inexN f x s more) := by
  unfold excN; split <;> simp_all
theorem amount_out (f : Int) (B : Nat) : amountN f false false B = if topN f * 2 ^ fm f ≤ B then topN f * 2 ^ fm f - 1 else B := by
  unfold amountN overN; simp
theorem amount_in (f : Int) (up : Bool) (B : Nat) : amountN f up true B = if topN f * 2 ^ fm f ≤ B then topN f * 2 ^ fm f else B + if up then 1 else 0 := by
  unfold amountN overN
  simp only [if_true, decide_eq_true_iff]
  split <;> split <;> cases up <;> simp at * <;> omega
theorem up_left (mode : Int) (neg : Bool) (q l : Nat) (h : upN mode neg q l = true) : l ≠ 0 := by
  rintro rfl; unfold upN at h; simp at h
/-- What the statement asks, of amounts with a sign. -/
theorem modes (f : Int) (neg more : Bool) (x : Int) (s : Nat) (mo mi : Int) (ho : mo = if neg then 2 else 3) (hi : mi = if neg then 3 else 2) :
    packN f 1 neg x s more = packN f mo neg x s more ∧ (excN f 1 neg x s more).2.2 = (excN f mo neg x s more).2.2 ∧ (excN f mo neg x s more).2.2 = (excN f mi neg x s more).2.2 ∧ (excN f mi neg x s more).2.2 = (excN f 0 neg x s more).2.2 ∧
    ((excN f 1 neg x s more).2.2 = false → packN f 1 neg x s more = packN f mi neg x s more ∧ packN f 1 neg x s more = packN f 0 neg x s more ∧ packN f 0 neg x s more = packN f 4 neg x s more) ∧
    ((excN f 1 neg x s more).2.2 = true → packN f mi neg x s more ≠ packN f 1 neg x s more ∧ (packN f 0 neg x s more = packN f mi neg x s more ∨ packN f 0 neg x s more = packN f 1 neg x s more) ∧ (packN f 4 neg x s more = packN f mi neg x s more ∨ packN f 4 neg x s more = packN f 1 neg x s more)) := by
  have ht : 0 < topN f * 2 ^ fm f := Nat.mul_pos (by have := top_cases f; omega) (Nat.two_pow_pos _)
  have u1 : ∀ q l, upN 1 neg q l = false := fun q l => rfl
  have uo : ∀ q l, upN mo neg q l = false := fun q l => by subst ho; cases neg <;> rfl
  have ui : ∀ q l, upN mi neg q l = decide (l ≠ 0) := fun q l => by subst hi; cases neg <;> simp [upN]
  have n1 : endless 1 neg = false := rfl
  have no : endless mo neg = false := by subst ho; cases neg <;> rfl
  have ni : endless mi neg = true := by subst hi; cases neg <;> rfl
  have n0 : endless 0 neg = true := rfl
  have n4 : endless 4 neg = true := rfl
  have w0 := up_left 0 neg (quoN s (unitN f x s - x)) (leftN s (unitN f x s - x) more)
  have w4 := up_left 4 neg (quoN s (unitN f x s - x)) (leftN s (unitN f x s - x) more)
  have key : ∀ m, keyN f m neg x s more = (riseN f x s * 2 ^ fm f + quoN s (unitN f x s - x)) + if upN m neg (quoN s (unitN f x s - x)) (leftN s (unitN f x s - x) more) then 1 else 0 := fun m => rfl
  have inx : inexN f x s more = decide (leftN s (unitN f x s - x) more ≠ 0) := rfl
  simp only [exc_inexact, pack_amount, key, inx, u1, uo, ui, n1, no, ni, n0, n4]
  generalize upN 0 neg (quoN s (unitN f x s - x)) (leftN s (unitN f x s - x) more) = a at *
  generalize upN 4 neg (quoN s (unitN f x s - x)) (leftN s (unitN f x s - x) more) = b at *
  generalize riseN f x s * 2 ^ fm f + quoN s (unitN f x s - x) = B at *
  generalize leftN s (unitN f x s - x) more = l at *
  simp only [amount_out, amount_in]
  unfold overN
  generalize topN f * 2 ^ fm f = T at *
  by_cases l0 : l = 0
  · subst l0
    have ha : a = false := by cases a <;> simp_all
    have hb : b = false := by cases b <;> simp_all
    subst ha hb
    simp
    constructor
    · intro h; rw [if_neg (by omega), if_neg (by omega)]
    · intro h; rw [if_pos h, if_pos h]; omega
  · simp [l0]
    by_cases h : T ≤ B
    · simp [h]; try omega
    · simp [h] <;> cases a <;> cases b <;> simp
theorem RoundModes : anneallaw3_RoundModes.Pure := by
  intro a0 a1 a2 a3 a4 h0 h1 h2
  obtain ⟨p0, q0⟩ := wf_u8 h0
  obtain ⟨p1, q1⟩ := wf_i16 h1
  obtain ⟨p2, q2⟩ := wf_u64 h2
  obtain ⟨s, rfl⟩ := nat_of p2
  apply Ev.rounds
  unfold anneallaw3_RoundModes.f
  refine Ev.bind known3_ev ?_
  obtain ⟨f, hf, _⟩ := form_f a0 p0
  simp only [if_true, hf, Option.bind_some]
  generalize Int.tmod (wrap64 a1) 300 = e
  have pk := fun m => pack_ev f m a3 e s a4 (by omega)
  refine Ev.bind (pk 1) (Ev.bind (pk 2) (Ev.bind (pk 3) (Ev.bind (pk 0) (Ev.bind (pk 4) ?_))))
  have last : ∀ (v1 v0 v4 vi : Nat) (b0 b1 b2 b3 b4 : Bool), (b4 = false → v1 = vi ∧ v1 = v0 ∧ v0 = v4) → (b4 = true → vi ≠ v1 ∧ (v0 = vi ∨ v0 = v1) ∧ (v4 = vi ∨ v4 = v1)) → Ev (fun k => anneallaw3_RoundModes.j1 k (v1 : Int) (v0 : Int) (v4 : Int) (vi : Int) false b0 b1 b2 b3 b4) true := by
    intro v1 v0 v4 vi b0 b1 b2 b3 b4 hf ht
    refine Ev.step (fun k => by rw [anneallaw3_RoundModes.j1]) ?_
    simp only [Bool.false_eq_true, if_false]
    cases b4
    · obtain ⟨e1, e2, e3⟩ := hf rfl
      subst e1 e2 e3
      simp only [Bool.false_eq_true, if_false, if_true, beq_self_eq_true]
      exact Ev.now true
    · obtain ⟨e1, e2, e3⟩ := ht rfl
      have n1 : ¬ ((vi : Int) = (v1 : Int)) := by omega
      have n2 : ((v4 : Int) = (vi : Int)) ∨ ((v4 : Int) = (v1 : Int)) := by omega
      simp only [if_true, if_neg n1]
      have fin : Ev (fun _ : Nat => if (v4 : Int) = (vi : Int) then some true else some ((v4 : Int) == (v1 : Int))) true := by
        by_cases h : (v4 : Int) = (vi : Int)
        · simp only [if_pos h]; exact Ev.now true
        · simp only [if_neg h]; simp only [n2.resolve_left h, beq_self_eq_true]; exact Ev.now true
      by_cases h : (v0 : Int) = (vi : Int)
      · simp only [if_pos h]; exact fin
      · have h' : (v0 : Int) = (v1 : Int) := by omega
        simp only [if_neg h, if_pos h']; exact fin
  cases a3
  · have M := modes f false a4 (clampE e) s 3 2 rfl rfl
    generalize excN f 1 false (clampE e) s a4 = x1 at *
    generalize excN f 0 false (clampE e) s a4 = x0 at *
    generalize packN f 1 false (clampE e) s a4 = v1 at *
    generalize packN f 0 false (clampE e) s a4 = v0 at *
    generalize packN f 4 false (clampE e) s a4 = v4 at *
    generalize excN f 2 false (clampE e) s a4 = x2 at *
    generalize excN f 3 false (clampE e) s a4 = x3 at *
    generalize packN f 2 false (clampE e) s a4 = v2 at *
    generalize packN f 3 false (clampE e) s a4 = v3 at *
    obtain ⟨m1, m2, m3, m4, m5, m6⟩ := M
    subst m1
    simp only [Bool.false_eq_true, if_false]
    refine Ev.step (fun k => by rw [anneallaw3_RoundModes.j0, if_pos rfl]) ?_
    simp only [← m4, ← m3, ← m2, bne_self_eq_false, Bool.false_eq_true, if_false]
    exact last _ _ _ _ _ _ _ _ _ m5 m6
  · have M := modes f true a4 (clampE e) s 2 3 rfl rfl
    generalize excN f 1 true (clampE e) s a4 = x1 at *
    generalize excN f 0 true (clampE e) s a4 = x0 at *
    generalize packN f 1 true (clampE e) s a4 = v1 at *
    generalize packN f 0 true (clampE e) s a4 = v0 at *
    generalize packN f 4 true (clampE e) s a4 = v4 at *
    generalize excN f 2 true (clampE e) s a4 = x2 at *
    generalize excN f 3 true (clampE e) s a4 = x3 at *
    generalize packN f 2 true (clampE e) s a4 = v2 at *
    generalize packN f 3 true (clampE e) s a4 = v3 at *
    obtain ⟨m1, m2, m3, m4, m5, m6⟩ := M
    subst m1
    simp only [if_true]
    refine Ev.step (fun k => by rw [anneallaw3_RoundModes.j0, if_pos rfl]) ?_
    simp only [← m4, ← m3, ← m2, bne_self_eq_false, Bool.false_eq_true, if_false]
    exact last _ _ _ _ _ _ _ _ _ m5 m6
end Go.Proofs.Ytoljndjpnbdjmaa.Pure
