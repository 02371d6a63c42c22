import Derived.Test.YtlkjoibpfhjhcaaQstM5
import Derived.Test.YtlkjoibpfhjhcaaQstM1
import Derived.Test.YtlkjoibpfhjhcaaQstPx7
/- Sums, rounded: plain numbers alone. -/
namespace Go.Proofs.Ytlkjoibpfhjhcaa.Round
open Go.RowKit Go.Proofs.Ytlkjoibpfhjhcaa.P Go.Proofs.Ytlkjoibpfhjhcaa.Num Go.Proofs.Ytlkjoibpfhjhcaa.BitsF Go.Proofs.Ytlkjoibpfhjhcaa.Fmt Go.Proofs.YtlkjoibpfhjhcaaW.PrintWords Go.Proofs.YtlkjoibpfhjhcaaW.PrintLast Go.Proofs.YtlkjoibpfhjhcaaW.PrintMore

/-- A sum that is nought. -/
def noughtN (f mode : Int) (a b : Bool) : Nat := if a = b then signN f a else signN f (decide (mode = 3))
def roundedN (f mode : Int) (a b : Bool) (r : Bool × Int × Nat × Bool) : Nat := if r.2.2 = (0, false) then noughtN f mode a b else packN f mode r.1 r.2.1 r.2.2.1 r.2.2.2
def roundedX (f mode : Int) (r : Bool × Int × Nat × Bool) : Bool × Bool × Bool := if r.2.2 = (0, false) then (false, false, false) else excN f mode r.1 r.2.1 r.2.2.1 r.2.2.2
/-- The exact sum of two finite numbers. -/
def pairN (f : Int) (a b : Nat) : Bool × Int × Nat × Bool := exactN (negN f a) (lowestN f a) (wholeN f a) (negN f b) (lowestN f b) (wholeN f b)
def sumN (f mode : Int) (a b : Nat) : Nat :=
  if 4 ≤ clsN f a ∨ 4 ≤ clsN f b then nanN f else if clsN f a = 3 ∧ clsN f b = 3 ∧ negN f a ≠ negN f b then nanN f else if clsN f a = 3 then infN f (negN f a) else if clsN f b = 3 then infN f (negN f b)
  else roundedN f mode (negN f a) (negN f b) (pairN f a b)
def sumX (f mode : Int) (a b : Nat) : Bool × Bool × Bool × Bool × Bool :=
  if 4 ≤ clsN f a ∨ 4 ≤ clsN f b then (isLoud f a || isLoud f b, false, false, false, false) else if clsN f a = 3 ∧ clsN f b = 3 ∧ negN f a ≠ negN f b then (true, false, false, false, false) else if clsN f a = 3 ∨ clsN f b = 3 then (false, false, false, false, false)
  else (false, false, roundedX f mode (pairN f a b))
theorem nought_turn (f mode : Int) (a b : Bool) : noughtN f mode a b = noughtN f mode b a := by
  unfold noughtN; cases a <;> cases b <;> rfl
theorem sum_turn (f mode : Int) (a b : Nat) : sumN f mode a b = sumN f mode b a ∧ sumX f mode a b = sumX f mode b a := by
  have key : roundedN f mode (negN f a) (negN f b) (pairN f a b) = roundedN f mode (negN f b) (negN f a) (pairN f b a) ∧ roundedX f mode (pairN f a b) = roundedX f mode (pairN f b a) := by
    have := exact_turn (negN f a) (lowestN f a) (wholeN f a) (negN f b) (lowestN f b) (wholeN f b)
    unfold pairN roundedN roundedX
    rcases this with h | ⟨h1, h2⟩
    · rw [h, nought_turn]; exact ⟨rfl, rfl⟩
    · rw [if_pos h1, if_pos h2, if_pos h1, if_pos h2, nought_turn]; exact ⟨rfl, rfl⟩
  unfold sumN sumX
  rw [key.1, key.2, Bool.or_comm (isLoud f a)]
  by_cases n : 4 ≤ clsN f a ∨ 4 ≤ clsN f b
  · rw [if_pos n, if_pos n, if_pos n.symm, if_pos n.symm]; exact ⟨rfl, rfl⟩
  · rw [if_neg n, if_neg n, if_neg (show ¬ (4 ≤ clsN f b ∨ 4 ≤ clsN f a) from fun h => n h.symm), if_neg (show ¬ (4 ≤ clsN f b ∨ 4 ≤ clsN f a) from fun h => n h.symm)]
    by_cases t : clsN f a = 3 ∧ clsN f b = 3 ∧ negN f a ≠ negN f b
    · have t' : clsN f b = 3 ∧ clsN f a = 3 ∧ negN f b ≠ negN f a := ⟨t.2.1, t.1, fun h => t.2.2 h.symm⟩
      rw [if_pos t, if_pos t, if_pos t', if_pos t']; exact ⟨rfl, rfl⟩
    · have t' : ¬ (clsN f b = 3 ∧ clsN f a = 3 ∧ negN f b ≠ negN f a) := fun h => t ⟨h.2.1, h.1, fun e => h.2.2 e.symm⟩
      rw [if_neg t, if_neg t, if_neg t', if_neg t']
      by_cases a3 : clsN f a = 3
      · by_cases b3 : clsN f b = 3
        · have e : negN f a = negN f b := Decidable.not_not.mp (fun h => t ⟨a3, b3, h⟩)
          rw [if_pos a3, if_pos b3, if_pos (.inl a3), if_pos (.inl b3), e]; exact ⟨rfl, rfl⟩
        · rw [if_pos a3, if_neg b3, if_pos a3, if_pos (.inl a3), if_pos (.inr a3)]; exact ⟨rfl, rfl⟩
      · by_cases b3 : clsN f b = 3
        · rw [if_neg a3, if_pos b3, if_pos b3, if_pos (.inr b3), if_pos (.inl b3)]; exact ⟨rfl, rfl⟩
        · rw [if_neg a3, if_neg b3, if_neg b3, if_neg a3, if_neg (show ¬ (clsN f a = 3 ∨ clsN f b = 3) by omega), if_neg (show ¬ (clsN f b = 3 ∨ clsN f a = 3) by omega)]; exact ⟨rfl, rfl⟩
end Go.Proofs.Ytlkjoibpfhjhcaa.Round

/- Sums to all bits that rounding asks for: the program's, as plain numbers. -/
namespace Go.Proofs.Ytlkjoibpfhjhcaa.Round
open Go.RowKit Go.Proofs.Ytlkjoibpfhjhcaa.P Go.Proofs.Ytlkjoibpfhjhcaa.Num Go.Proofs.Ytlkjoibpfhjhcaa.BitsF Go.Proofs.Ytlkjoibpfhjhcaa.Fmt Go.Proofs.YtlkjoibpfhjhcaaW.PrintWords Go.Proofs.YtlkjoibpfhjhcaaW.PrintLast Go.Proofs.YtlkjoibpfhjhcaaW.PrintMore

theorem up_shift (v n : Nat) (h : v * 2 ^ n < 18446744073709551616) : (shiftN v (-(n : Int))).1 = v * 2 ^ n := by
  have hp := Nat.two_pow_pos n
  have hv : v < 18446744073709551616 := Nat.lt_of_le_of_lt (Nat.le_mul_of_pos_right v hp) h
  rw [shiftN_left v n hv]
  exact Nat.mod_eq_of_lt h
theorem full_ev (n : Bool) (e : Int) (s : Nat) (m : Bool) (h : s ≠ 0) (h' : s < 4611686018427387904) (l : -100000 ≤ e) (l' : e ≤ 100000) : Ev (fun k => sum_full.f k n e (s : Int) m) (n, e - (gapN s : Int), ((s * 2 ^ gapN s : Nat) : Int), m) := by
  obtain ⟨a1, a2, a3, a4⟩ := gap_bounds s h h'
  have hw : wrap64 (62 - (lenN s : Int)) = (gapN s : Int) := by rw [w64_id _ (by omega) (by omega)]; omega
  refine Ev.congr (fun k => by unfold sum_full.f; rfl) (Ev.bind (len_ev s (by omega)) ?_)
  rw [hw, w64_id (-(gapN s : Int)) (by omega) (by omega), w64_id (e - (gapN s : Int)) (by omega) (by omega)]
  refine Ev.bind (shift_ev s (by omega) (-(gapN s : Int)) (by omega) (by omega)) ?_
  dsimp only
  rw [up_shift _ _ (by omega)]
  exact Ev.now _
def castE (r : Bool × Int × Nat × Bool) : Bool × Int × Int × Bool := (r.1, r.2.1, (r.2.2.1 : Int), r.2.2.2)
theorem sub_w (A L : Nat) (h : L ≤ A) (hA : A < 18446744073709551616) : IntKind.u64.wrap ((A : Int) - (L : Int)) = ((A - L : Nat) : Int) := by rw [u64_wrap]; omega
theorem sub_one_w (A L : Nat) (h : L + 1 ≤ A) (hA : A < 18446744073709551616) : IntKind.u64.wrap (((A - L : Nat) : Int) - 1) = ((A - L - 1 : Nat) : Int) := by rw [u64_wrap]; omega
theorem meet_ev (na : Bool) (Ea : Int) (A : Nat) (nb : Bool) (Eb : Int) (B : Nat) (h : Eb ≤ Ea) (h0 : Ea = Eb → B ≤ A) (a1 : 2305843009213693952 ≤ A) (a2 : A < 4611686018427387904) (b2 : B < 4611686018427387904) (l1 : -200000 ≤ Eb) (l2 : Ea ≤ 200000) :
    Ev (fun k => sum_Exact.j1 k na Ea (A : Int) false nb Eb (B : Int) false) (castE (meetN na Ea A nb Eb B)) := by
  obtain ⟨d, hd⟩ : ∃ d : Nat, Ea - Eb = (d : Int) := ⟨(Ea - Eb).toNat, by omega⟩
  have hlow : B / 2 ^ d ≤ A ∧ (B % 2 ^ d ≠ 0 → B / 2 ^ d + 1 ≤ A) := by
    rcases Nat.eq_zero_or_pos d with c | c
    · subst c
      have := h0 (by omega)
      rw [Nat.pow_zero, Nat.div_one, Nat.mod_one]; omega
    · have h2 : 2 ^ 1 ≤ 2 ^ d := Nat.pow_le_pow_right (by decide) c
      have h3 : B / 2 ^ d ≤ B / 2 := Nat.div_le_div_left h2 (by decide)
      omega
  have hl62 : B / 2 ^ d < 4611686018427387904 := Nat.lt_of_le_of_lt (Nat.div_le_self _ _) b2
  refine Ev.step (fun k => by rw [sum_Exact.j1, w64_id (Ea - Eb) (by omega) (by omega), hd]) (Ev.bind (shift_ev B (by omega) (d : Int) (by omega) (by omega)) ?_)
  rw [shiftN_right]
  dsimp only
  unfold meetN castE
  rw [hd, Int.toNat_natCast]
  by_cases n : na = nb
  · subst n
    rw [if_pos rfl]
    refine Ev.congr (fun k => ?_) (Ev.now _)
    rw [if_pos (beq_self_eq_true na), ← Int.natCast_add, u64_id _ (by omega)]
  · rw [if_neg n]
    have hb : ¬ (na == nb) = true := by rw [beq_iff_eq]; exact n
    by_cases o : B % 2 ^ d ≠ 0
    · have := hlow.2 o
      rw [if_pos o]
      refine Ev.congr (fun k => ?_) (show Ev (fun k => sum_Exact.j2 k na Ea ((A - B / 2 ^ d - 1 : Nat) : Int) (decide (B % 2 ^ d ≠ 0))) (na, Ea, ((A - B / 2 ^ d - 1 : Nat) : Int), decide (B % 2 ^ d ≠ 0)) from Ev.step (fun k => by rw [sum_Exact.j2]) (Ev.now _))
      rw [if_neg hb, if_pos (decide_eq_true o)]
      rw [sub_w A _ hlow.1 (by omega), sub_one_w A _ this (by omega)]
    · rw [if_neg o, Nat.sub_zero]
      refine Ev.congr (fun k => ?_) (show Ev (fun k => sum_Exact.j2 k na Ea ((A - B / 2 ^ d : Nat) : Int) (decide (B % 2 ^ d ≠ 0))) (na, Ea, ((A - B / 2 ^ d : Nat) : Int), decide (B % 2 ^ d ≠ 0)) from Ev.step (fun k => by rw [sum_Exact.j2]) (Ev.now _))
      rw [if_neg hb, if_neg (show ¬ decide (B % 2 ^ d ≠ 0) = true by rw [decide_eq_true_iff]; exact o)]
      rw [sub_w A _ hlow.1 (by omega)]
theorem exact_ev (n1 : Bool) (e1 : Int) (s1 : Nat) (n2 : Bool) (e2 : Int) (s2 : Nat) (h1 : s1 < 4611686018427387904) (h2 : s2 < 4611686018427387904) (l1 : -100000 ≤ e1) (l1' : e1 ≤ 100000) (l2 : -100000 ≤ e2) (l2' : e2 ≤ 100000) :
    Ev (fun k => sum_Exact.f k n1 e1 (s1 : Int) false n2 e2 (s2 : Int) false) (castE (exactN n1 e1 s1 n2 e2 s2)) := by
  refine Ev.congr (fun k => by unfold sum_Exact.f; rfl) ?_
  unfold exactN
  by_cases z1 : s1 = 0
  · rw [if_pos z1]
    exact Ev.congr (fun k => by rw [if_pos (by omega)]; rfl) (Ev.now _)
  · rw [if_neg z1]
    by_cases z2 : s2 = 0
    · rw [if_pos z2]
      exact Ev.congr (fun k => by rw [if_neg (by omega), if_pos (by omega)]; rfl) (Ev.now _)
    · rw [if_neg z2]
      obtain ⟨a1, a2, a3, a4⟩ := gap_bounds s1 z1 h1
      obtain ⟨b1, b2, b3, b4⟩ := gap_bounds s2 z2 h2
      refine Ev.congr (fun k => by rw [if_neg (by omega), if_neg (by omega)]) (Ev.bind (full_ev n1 e1 s1 false z1 h1 l1 l1') (Ev.bind (full_ev n2 e2 s2 false z2 h2 l2 l2') ?_))
      dsimp only
      generalize hE1 : e1 - (gapN s1 : Int) = E1 at *
      generalize hE2 : e2 - (gapN s2 : Int) = E2 at *
      generalize s1 * 2 ^ gapN s1 = A at *
      generalize s2 * 2 ^ gapN s2 = B at *
      have swap : (E1 < E2 ∨ E1 = E2 ∧ A < B) → Ev (fun k => sum_Exact.j0 k true n1 E1 (A : Int) false n2 E2 (B : Int) false) (castE (if E1 < E2 ∨ E1 = E2 ∧ A < B then meetN n2 E2 B n1 E1 A else meetN n1 E1 A n2 E2 B)) := by
        intro c
        rw [if_pos c]
        exact Ev.step (fun k => by rw [sum_Exact.j0, if_pos rfl]) (meet_ev n2 E2 B n1 E1 A (by omega) (by omega) b3 b4 a4 (by omega) (by omega))
      have stay : ¬ (E1 < E2 ∨ E1 = E2 ∧ A < B) → Ev (fun k => sum_Exact.j0 k false n1 E1 (A : Int) false n2 E2 (B : Int) false) (castE (if E1 < E2 ∨ E1 = E2 ∧ A < B then meetN n2 E2 B n1 E1 A else meetN n1 E1 A n2 E2 B)) := by
        intro c
        rw [if_neg c]
        exact Ev.step (fun k => by rw [sum_Exact.j0, if_neg (by decide)]) (meet_ev n1 E1 A n2 E2 B (by omega) (by omega) a3 a4 b4 (by omega) (by omega))
      by_cases c1 : E1 < E2
      · exact Ev.congr (fun k => by rw [if_pos c1]) (swap (.inl c1))
      · by_cases c2 : E1 = E2
        · by_cases c3 : A < B
          · exact Ev.congr (fun k => by rw [if_neg c1, if_pos c2, decide_eq_true (show (A : Int) < (B : Int) by omega)]) (swap (.inr ⟨c2, c3⟩))
          · exact Ev.congr (fun k => by rw [if_neg c1, if_pos c2, decide_eq_false (show ¬ (A : Int) < (B : Int) by omega)]) (stay (by omega))
        · exact Ev.congr (fun k => by rw [if_neg c1, if_neg c2]) (stay (by omega))
/-- How great it may be. -/
theorem exact_bounds (n1 : Bool) (e1 : Int) (s1 : Nat) (n2 : Bool) (e2 : Int) (s2 : Nat) (h1 : s1 < 4611686018427387904) (h2 : s2 < 4611686018427387904) (l1 : -1000 ≤ e1) (l1' : e1 ≤ 1000) (l2 : -1000 ≤ e2) (l2' : e2 ≤ 1000) :
    -1100 ≤ (exactN n1 e1 s1 n2 e2 s2).2.1 ∧ (exactN n1 e1 s1 n2 e2 s2).2.1 ≤ 1000 ∧ (exactN n1 e1 s1 n2 e2 s2).2.2.1 < 9223372036854775808 := by
  have meet : ∀ (na : Bool) (Ea : Int) (A : Nat) (nb : Bool) (Eb : Int) (B : Nat), A < 4611686018427387904 → B < 4611686018427387904 → (meetN na Ea A nb Eb B).2.1 = Ea ∧ (meetN na Ea A nb Eb B).2.2.1 < 9223372036854775808 := by
    intro na Ea A nb Eb B ha hb
    have hl := Nat.div_le_self B (2 ^ (Ea - Eb).toNat)
    unfold meetN
    by_cases n : na = nb
    · rw [if_pos n]; exact ⟨rfl, by show A + B / 2 ^ (Ea - Eb).toNat < _; omega⟩
    · rw [if_neg n]; exact ⟨rfl, Nat.lt_of_le_of_lt (Nat.le_trans (Nat.sub_le _ _) (Nat.sub_le _ _)) (show A < 9223372036854775808 by omega)⟩
  unfold exactN
  by_cases z1 : s1 = 0
  · rw [if_pos z1]; dsimp only; omega
  · rw [if_neg z1]
    by_cases z2 : s2 = 0
    · rw [if_pos z2]; dsimp only; omega
    · rw [if_neg z2]
      obtain ⟨a1, a2, a3, a4⟩ := gap_bounds s1 z1 h1
      obtain ⟨b1, b2, b3, b4⟩ := gap_bounds s2 z2 h2
      split
      · have := meet n2 (e2 - (gapN s2 : Int)) _ n1 (e1 - (gapN s1 : Int)) _ b4 a4; omega
      · have := meet n1 (e1 - (gapN s1 : Int)) _ n2 (e2 - (gapN s2 : Int)) _ a4 b4; omega
end Go.Proofs.Ytlkjoibpfhjhcaa.Round
