/- RoundTiny: what becomes of what is below all numbers, in each mode, of each format, with either sign, at any exponent. -/
import Derived.Test.YtoljndjpnbdjmaaRoundE
import Derived.Test.YtoljndjpnbdjmaaPx18
namespace Go.Proofs.Ytoljndjpnbdjmaa.Pure
open Go.RowKit Go.Proofs.Ytoljndjpnbdjmaa.P Go.Proofs.Ytoljndjpnbdjmaa.Num Go.Proofs.Ytoljndjpnbdjmaa.BitsF Go.Proofs.Ytoljndjpnbdjmaa.Fmt Go.Proofs.Ytoljndjpnbdjmaa.Round Go.Proofs.YtoljndjpnbdjmaaW.PrintWords Go.Proofs.YtoljndjpnbdjmaaW.PrintLast Go.Proofs.YtoljndjpnbdjmaaW.PrintMore

theorem over_small (f : Int) (k : Nat) (h : k ≤ 1) : overN f k = false := by
  unfold overN
  rw [decide_eq_false_iff_not]
  have := top_cases f
  have h7 : 2 ^ 7 ≤ 2 ^ fm f := Nat.pow_le_pow_right (by decide) (fbounds f).2.2.1
  have : 2 * 2 ^ 7 ≤ topN f * 2 ^ fm f := Nat.mul_le_mul (by omega) h7
  omega
theorem tiny_more (f mode : Int) (neg : Bool) (x : Int) : packN f mode neg x 0 true = (if mode = 2 ∧ neg = false ∨ mode = 3 ∧ neg = true then 1 else 0) + signN f neg ∧ excN f mode neg x 0 true = (false, true, true) := by
  have hr : riseN f x 0 = 0 := by unfold riseN; rw [if_pos rfl]
  have hq : quoN 0 (unitN f x 0 - x) = 0 := by unfold quoN; split <;> simp
  have hl : leftN 0 (unitN f x 0 - x) true = 1 := by rw [left_none _ (.inr (by simp))]; rfl
  have hk : keyN f mode neg x 0 true = if mode = 2 ∧ neg = false ∨ mode = 3 ∧ neg = true then 1 else 0 := by
    unfold keyN
    rw [hr, hq, hl]
    unfold upN
    by_cases m1 : mode = 1
    · subst m1; simp
    · by_cases m2 : mode = 2
      · subst m2; cases neg <;> simp
      · by_cases m3 : mode = 3
        · subst m3; cases neg <;> simp
        · simp [m1, m2, m3]
  have ho : overN f (keyN f mode neg x 0 true) = false := by rw [hk]; exact over_small f _ (by split <;> omega)
  unfold packN excN underN inexN
  rw [ho, hk, hl]
  exact ⟨rfl, rfl⟩
theorem tiny_none (f mode : Int) (neg : Bool) (x : Int) : packN f mode neg x 0 false = signN f neg ∧ excN f mode neg x 0 false = (false, false, false) := by
  have hr : riseN f x 0 = 0 := by unfold riseN; rw [if_pos rfl]
  have hq : quoN 0 (unitN f x 0 - x) = 0 := by unfold quoN; split <;> simp
  have hl : leftN 0 (unitN f x 0 - x) false = 0 := by rw [left_none _ (.inr (by simp))]; rfl
  have hk : keyN f mode neg x 0 false = 0 := by
    unfold keyN
    rw [hr, hq, hl]
    have : upN mode neg 0 0 = false := by unfold upN; simp
    rw [this]; simp
  have ho : overN f (keyN f mode neg x 0 false) = false := by rw [hk]; exact over_small f _ (by omega)
  unfold packN excN underN inexN
  rw [ho, hk, hl]
  simp
theorem tiny_l0 (f : Int) (neg : Bool) (x : Int) (d : Nat) : ∀ i : Nat, i + d = 5 → Ev (fun k => anneallaw3_RoundTiny.l0 k neg x f (signN f neg : Int) (i : Int)) true := by
  have hs : (signN f neg : Int) + 1 < 4294967296 := by
    have h31 := pow_le31 (fbounds f).2.2.2.2
    unfold signN; split <;> omega
  induction d with
  | zero =>
    intro i hi
    refine Ev.step (fun k => by rw [anneallaw3_RoundTiny.l0]) ?_
    simp only [if_neg (show ¬ ((i : Int) < 5) by omega)]
    exact Ev.now true
  | succ d ih =>
    intro i hi
    have p1 := pack_ev f i neg x 0 true (by decide)
    have p2 := pack_ev f i neg x 0 false (by decide)
    obtain ⟨t1, t2⟩ := tiny_more f i neg (clampE x)
    obtain ⟨t3, t4⟩ := tiny_none f i neg (clampE x)
    rw [t1, t2] at p1
    rw [t3, t4] at p2
    have nx := ih (i + 1) (by omega)
    rw [← next_i i 5 (by omega) (by decide)] at nx
    refine Ev.step (fun k => by rw [anneallaw3_RoundTiny.l0]) ?_
    simp only [if_pos (show ((i : Int) < 5) by omega)]
    refine Ev.bind p1 ?_
    have g : ∀ c : Bool, c = decide ((i : Int) = 2 ∧ neg = false ∨ (i : Int) = 3 ∧ neg = true) → Ev (fun k => anneallaw3_RoundTiny.j1 k neg x f (signN f neg : Int) (i : Int) (((if (i : Int) = 2 ∧ neg = false ∨ (i : Int) = 3 ∧ neg = true then 1 else 0) + signN f neg : Nat) : Int) (signN f neg : Int) c false false false true true) true := by
      intro c hc
      refine Ev.step (fun k => by rw [anneallaw3_RoundTiny.j1]) ?_
      by_cases h : (i : Int) = 2 ∧ neg = false ∨ (i : Int) = 3 ∧ neg = true
      · rw [decide_eq_true h] at hc
        subst hc
        simp only [if_true, if_pos h]
        refine Ev.bind p2 ?_
        simp only [show ((1 + signN f neg : Nat) : Int) = ((signN f neg : Int) + 1) % 4294967296 by omega, if_true, Bool.false_or, Bool.not_true, Bool.false_eq_true, if_false]
        exact nx
      · rw [decide_eq_false h] at hc
        subst hc
        simp only [Bool.false_eq_true, if_false, if_neg h]
        refine Ev.bind p2 ?_
        simp only [Nat.zero_add, if_true, Bool.false_or, Bool.not_true, Bool.false_eq_true, if_false]
        exact nx
    have hi5 : (i : Int) = 0 ∨ (i : Int) = 1 ∨ (i : Int) = 2 ∨ (i : Int) = 3 ∨ (i : Int) = 4 := by omega
    rcases hi5 with h | h | h | h | h <;> rw [h] at g ⊢ <;> cases neg <;> exact g _ rfl
theorem RoundTiny : anneallaw3_RoundTiny.Pure := by
  intro a0 a1 a2 h0 _
  obtain ⟨p0, q0⟩ := wf_u8 h0
  apply Ev.rounds
  unfold anneallaw3_RoundTiny.f
  refine Ev.bind known3_ev ?_
  obtain ⟨f, hf, _⟩ := form_f a0 p0
  simp only [if_true, hf, ref_zero_f, Option.bind_some]
  exact tiny_l0 f a1 a2 5 0 rfl
end Go.Proofs.Ytoljndjpnbdjmaa.Pure
