import Derived.Test.YtlkjoibpfhjhcaaQfeM5
import Derived.Test.YtlkjoibpfhjhcaaQfeM1
import Derived.Test.YtlkjoibpfhjhcaaQfePx7
import Derived.Test.YtlkjoibpfhjhcaaQfePackE
import Derived.Test.YtlkjoibpfhjhcaaQfeM4
import Derived.Test.YtlkjoibpfhjhcaaQfeM2
import Derived.Test.YtlkjoibpfhjhcaaQfeProdF
import Derived.Test.YtlkjoibpfhjhcaaQfePx28
/- Sums to all bits that rounding asks for: plain numbers alone. -/
namespace Go.Proofs.Ytlkjoibpfhjhcaa.Round
open Go.RowKit Go.Proofs.Ytlkjoibpfhjhcaa.P Go.Proofs.Ytlkjoibpfhjhcaa.Num Go.Proofs.Ytlkjoibpfhjhcaa.BitsF Go.Proofs.Ytlkjoibpfhjhcaa.Fmt Go.Proofs.YtlkjoibpfhjhcaaW.PrintWords Go.Proofs.YtlkjoibpfhjhcaaW.PrintLast Go.Proofs.YtlkjoibpfhjhcaaW.PrintMore

/-- How many bits a whole number lacks of 62. -/
def gapN (s : Nat) : Nat := 62 - lenN s
/-- Two numbers of 62 bits, the greater first. -/
def meetN (na : Bool) (Ea : Int) (A : Nat) (nb : Bool) (Eb : Int) (B : Nat) : Bool × Int × Nat × Bool :=
  if na = nb then (na, Ea, A + B / 2 ^ (Ea - Eb).toNat, decide (B % 2 ^ (Ea - Eb).toNat ≠ 0))
  else (na, Ea, A - B / 2 ^ (Ea - Eb).toNat - (if B % 2 ^ (Ea - Eb).toNat ≠ 0 then 1 else 0), decide (B % 2 ^ (Ea - Eb).toNat ≠ 0))
def exactN (n1 : Bool) (e1 : Int) (s1 : Nat) (n2 : Bool) (e2 : Int) (s2 : Nat) : Bool × Int × Nat × Bool :=
  if s1 = 0 then (n2, e2, s2, false) else if s2 = 0 then (n1, e1, s1, false)
  else if e1 - (gapN s1 : Int) < e2 - (gapN s2 : Int) ∨ e1 - (gapN s1 : Int) = e2 - (gapN s2 : Int) ∧ s1 * 2 ^ gapN s1 < s2 * 2 ^ gapN s2 then meetN n2 (e2 - (gapN s2 : Int)) (s2 * 2 ^ gapN s2) n1 (e1 - (gapN s1 : Int)) (s1 * 2 ^ gapN s1)
  else meetN n1 (e1 - (gapN s1 : Int)) (s1 * 2 ^ gapN s1) n2 (e2 - (gapN s2 : Int)) (s2 * 2 ^ gapN s2)
theorem gap_bounds (s : Nat) (h : s ≠ 0) (h' : s < 4611686018427387904) : gapN s ≤ 61 ∧ lenN s + gapN s = 62 ∧ 2305843009213693952 ≤ s * 2 ^ gapN s ∧ s * 2 ^ gapN s < 4611686018427387904 := by
  have h1 := lenN_bound s 62 h'
  have h2 := lenN_pos s h
  have e : lenN s + gapN s = 62 := by unfold gapN; omega
  have hp := Nat.two_pow_pos (gapN s)
  have l1 := Nat.mul_le_mul_right (2 ^ gapN s) (lenN_le s h)
  have l2 := Nat.mul_lt_mul_of_pos_right (lenN_lt s) hp
  rw [← Nat.pow_add, show lenN s - 1 + gapN s = 61 by omega] at l1
  rw [← Nat.pow_add, e] at l2
  exact ⟨by omega, e, l1, l2⟩
end Go.Proofs.Ytlkjoibpfhjhcaa.Round

/- Sums, rounded: plain numbers alone. -/
namespace Go.Proofs.Ytlkjoibpfhjhcaa.Round
open Go.RowKit Go.Proofs.Ytlkjoibpfhjhcaa.P Go.Proofs.Ytlkjoibpfhjhcaa.Num Go.Proofs.Ytlkjoibpfhjhcaa.BitsF Go.Proofs.Ytlkjoibpfhjhcaa.Fmt Go.Proofs.YtlkjoibpfhjhcaaW.PrintWords Go.Proofs.YtlkjoibpfhjhcaaW.PrintLast Go.Proofs.YtlkjoibpfhjhcaaW.PrintMore

/-- A sum that is nought. -/
def noughtN (f mode : Int) (a b : Bool) : Nat := if a = b then signN f a else signN f (decide (mode = 3))
def roundedN (f mode : Int) (a b : Bool) (r : Bool × Int × Nat × Bool) : Nat := if r.2.2 = (0, false) then noughtN f mode a b else packN f mode r.1 r.2.1 r.2.2.1 r.2.2.2
def roundedX (f mode : Int) (r : Bool × Int × Nat × Bool) : Bool × Bool × Bool := if r.2.2 = (0, false) then (false, false, false) else excN f mode r.1 r.2.1 r.2.2.1 r.2.2.2
end Go.Proofs.Ytlkjoibpfhjhcaa.Round

/- Sums to all bits that rounding asks for: the program's, as plain numbers. -/
namespace Go.Proofs.Ytlkjoibpfhjhcaa.Round
open Go.RowKit Go.Proofs.Ytlkjoibpfhjhcaa.P Go.Proofs.Ytlkjoibpfhjhcaa.Num Go.Proofs.Ytlkjoibpfhjhcaa.BitsF Go.Proofs.Ytlkjoibpfhjhcaa.Fmt Go.Proofs.YtlkjoibpfhjhcaaW.PrintWords Go.Proofs.YtlkjoibpfhjhcaaW.PrintLast Go.Proofs.YtlkjoibpfhjhcaaW.PrintMore

theorem up_shift (v n : Nat) (h : v * 2 ^ n < 18446744073709551616) : (shiftN v (-(n : Int))).1 = v * 2 ^ n := by
  have hp := Nat.two_pow_pos n
  have hv : v < 18446744073709551616 := Nat.lt_of_le_of_lt (Nat.le_mul_of_pos_right v hp) h
  rw [shiftN_left v n hv]
  exact Nat.mod_eq_of_lt h
theorem full_ev (n : Bool) (e : Int) (s : Nat) (m : Bool) (h : s ≠ 0) (h' : s < 4611686018427387904) (l : -100000 ≤ e) (l' : e ≤ 100000) : Ev (fun k => sum_full.f k n e (s : Int) m) (n, e - (gapN s : Int), ((s * 2 ^ gapN s : Nat) : Int), m) := by
  obtain ⟨a1, a2, a3, a4⟩ := gap_bounds s h h'
  have hw : wrap64 (62 - (lenN s : Int)) = (gapN s : Int) := by rw [w64_id _ (by omega) (by omega)]; omega
  refine Ev.congr (fun k => by unfold sum_full.f; rfl) (Ev.bind (len_ev s (by omega)) ?_)
  rw [hw, w64_id (-(gapN s : Int)) (by omega) (by omega), w64_id (e - (gapN s : Int)) (by omega) (by omega)]
  refine Ev.bind (shift_ev s (by omega) (-(gapN s : Int)) (by omega) (by omega)) ?_
  dsimp only
  rw [up_shift _ _ (by omega)]
  exact Ev.now _
def castE (r : Bool × Int × Nat × Bool) : Bool × Int × Int × Bool := (r.1, r.2.1, (r.2.2.1 : Int), r.2.2.2)
theorem sub_w (A L : Nat) (h : L ≤ A) (hA : A < 18446744073709551616) : IntKind.u64.wrap ((A : Int) - (L : Int)) = ((A - L : Nat) : Int) := by rw [u64_wrap]; omega
theorem sub_one_w (A L : Nat) (h : L + 1 ≤ A) (hA : A < 18446744073709551616) : IntKind.u64.wrap (((A - L : Nat) : Int) - 1) = ((A - L - 1 : Nat) : Int) := by rw [u64_wrap]; omega
theorem meet_ev (na : Bool) (Ea : Int) (A : Nat) (nb : Bool) (Eb : Int) (B : Nat) (h : Eb ≤ Ea) (h0 : Ea = Eb → B ≤ A) (a1 : 2305843009213693952 ≤ A) (a2 : A < 4611686018427387904) (b2 : B < 4611686018427387904) (l1 : -200000 ≤ Eb) (l2 : Ea ≤ 200000) :
    Ev (fun k => sum_Exact.j1 k na Ea (A : Int) false nb Eb (B : Int) false) (castE (meetN na Ea A nb Eb B)) := by
  obtain ⟨d, hd⟩ : ∃ d : Nat, Ea - Eb = (d : Int) := ⟨(Ea - Eb).toNat, by omega⟩
  have hlow : B / 2 ^ d ≤ A ∧ (B % 2 ^ d ≠ 0 → B / 2 ^ d + 1 ≤ A) := by
    rcases Nat.eq_zero_or_pos d with c | c
    · subst c
      have := h0 (by omega)
      rw [Nat.pow_zero, Nat.div_one, Nat.mod_one]; omega
    · have h2 : 2 ^ 1 ≤ 2 ^ d := Nat.pow_le_pow_right (by decide) c
      have h3 : B / 2 ^ d ≤ B / 2 := Nat.div_le_div_left h2 (by decide)
      omega
  have hl62 : B / 2 ^ d < 4611686018427387904 := Nat.lt_of_le_of_lt (Nat.div_le_self _ _) b2
  refine Ev.step (fun k => by rw [sum_Exact.j1, w64_id (Ea - Eb) (by omega) (by omega), hd]) (Ev.bind (shift_ev B (by omega) (d : Int) (by omega) (by omega)) ?_)
  rw [shiftN_right]
  dsimp only
  unfold meetN castE
  rw [hd, Int.toNat_natCast]
  by_cases n : na = nb
  · subst n
    rw [if_pos rfl]
    refine Ev.congr (fun k => ?_) (Ev.now _)
    rw [if_pos (beq_self_eq_true na), ← Int.natCast_add, u64_id _ (by omega)]
  · rw [if_neg n]
    have hb : ¬ (na == nb) = true := by rw [beq_iff_eq]; exact n
    by_cases o : B % 2 ^ d ≠ 0
    · have := hlow.2 o
      rw [if_pos o]
      refine Ev.congr (fun k => ?_) (show Ev (fun k => sum_Exact.j2 k na Ea ((A - B / 2 ^ d - 1 : Nat) : Int) (decide (B % 2 ^ d ≠ 0))) (na, Ea, ((A - B / 2 ^ d - 1 : Nat) : Int), decide (B % 2 ^ d ≠ 0)) from Ev.step (fun k => by rw [sum_Exact.j2]) (Ev.now _))
      rw [if_neg hb, if_pos (decide_eq_true o)]
      rw [sub_w A _ hlow.1 (by omega), sub_one_w A _ this (by omega)]
    · rw [if_neg o, Nat.sub_zero]
      refine Ev.congr (fun k => ?_) (show Ev (fun k => sum_Exact.j2 k na Ea ((A - B / 2 ^ d : Nat) : Int) (decide (B % 2 ^ d ≠ 0))) (na, Ea, ((A - B / 2 ^ d : Nat) : Int), decide (B % 2 ^ d ≠ 0)) from Ev.step (fun k => by rw [sum_Exact.j2]) (Ev.now _))
      rw [if_neg hb, if_neg (show ¬ decide (B % 2 ^ d ≠ 0) = true by rw [decide_eq_true_iff]; exact o)]
      rw [sub_w A _ hlow.1 (by omega)]
theorem exact_ev (n1 : Bool) (e1 : Int) (s1 : Nat) (n2 : Bool) (e2 : Int) (s2 : Nat) (h1 : s1 < 4611686018427387904) (h2 : s2 < 4611686018427387904) (l1 : -100000 ≤ e1) (l1' : e1 ≤ 100000) (l2 : -100000 ≤ e2) (l2' : e2 ≤ 100000) :
    Ev (fun k => sum_Exact.f k n1 e1 (s1 : Int) false n2 e2 (s2 : Int) false) (castE (exactN n1 e1 s1 n2 e2 s2)) := by
  refine Ev.congr (fun k => by unfold sum_Exact.f; rfl) ?_
  unfold exactN
  by_cases z1 : s1 = 0
  · rw [if_pos z1]
    exact Ev.congr (fun k => by rw [if_pos (by omega)]; rfl) (Ev.now _)
  · rw [if_neg z1]
    by_cases z2 : s2 = 0
    · rw [if_pos z2]
      exact Ev.congr (fun k => by rw [if_neg (by omega), if_pos (by omega)]; rfl) (Ev.now _)
    · rw [if_neg z2]
      obtain ⟨a1, a2, a3, a4⟩ := gap_bounds s1 z1 h1
      obtain ⟨b1, b2, b3, b4⟩ := gap_bounds s2 z2 h2
      refine Ev.congr (fun k => by rw [if_neg (by omega), if_neg (by omega)]) (Ev.bind (full_ev n1 e1 s1 false z1 h1 l1 l1') (Ev.bind (full_ev n2 e2 s2 false z2 h2 l2 l2') ?_))
      dsimp only
      generalize hE1 : e1 - (gapN s1 : Int) = E1 at *
      generalize hE2 : e2 - (gapN s2 : Int) = E2 at *
      generalize s1 * 2 ^ gapN s1 = A at *
      generalize s2 * 2 ^ gapN s2 = B at *
      have swap : (E1 < E2 ∨ E1 = E2 ∧ A < B) → Ev (fun k => sum_Exact.j0 k true n1 E1 (A : Int) false n2 E2 (B : Int) false) (castE (if E1 < E2 ∨ E1 = E2 ∧ A < B then meetN n2 E2 B n1 E1 A else meetN n1 E1 A n2 E2 B)) := by
        intro c
        rw [if_pos c]
        exact Ev.step (fun k => by rw [sum_Exact.j0, if_pos rfl]) (meet_ev n2 E2 B n1 E1 A (by omega) (by omega) b3 b4 a4 (by omega) (by omega))
      have stay : ¬ (E1 < E2 ∨ E1 = E2 ∧ A < B) → Ev (fun k => sum_Exact.j0 k false n1 E1 (A : Int) false n2 E2 (B : Int) false) (castE (if E1 < E2 ∨ E1 = E2 ∧ A < B then meetN n2 E2 B n1 E1 A else meetN n1 E1 A n2 E2 B)) := by
        intro c
        rw [if_neg c]
        exact Ev.step (fun k => by rw [sum_Exact.j0, if_neg (by decide)]) (meet_ev n1 E1 A n2 E2 B (by omega) (by omega) a3 a4 b4 (by omega) (by omega))
      by_cases c1 : E1 < E2
      · exact Ev.congr (fun k => by rw [if_pos c1]) (swap (.inl c1))
      · by_cases c2 : E1 = E2
        · by_cases c3 : A < B
          · exact Ev.congr (fun k => by rw [if_neg c1, if_pos c2, decide_eq_true (show (A : Int) < (B : Int) by omega)]) (swap (.inr ⟨c2, c3⟩))
          · exact Ev.congr (fun k => by rw [if_neg c1, if_pos c2, decide_eq_false (show ¬ (A : Int) < (B : Int) by omega)]) (stay (by omega))
        · exact Ev.congr (fun k => by rw [if_neg c1, if_neg c2]) (stay (by omega))
/-- How great it may be. -/
theorem exact_bounds (n1 : Bool) (e1 : Int) (s1 : Nat) (n2 : Bool) (e2 : Int) (s2 : Nat) (h1 : s1 < 4611686018427387904) (h2 : s2 < 4611686018427387904) (l1 : -1000 ≤ e1) (l1' : e1 ≤ 1000) (l2 : -1000 ≤ e2) (l2' : e2 ≤ 1000) :
    -1100 ≤ (exactN n1 e1 s1 n2 e2 s2).2.1 ∧ (exactN n1 e1 s1 n2 e2 s2).2.1 ≤ 1000 ∧ (exactN n1 e1 s1 n2 e2 s2).2.2.1 < 9223372036854775808 := by
  have meet : ∀ (na : Bool) (Ea : Int) (A : Nat) (nb : Bool) (Eb : Int) (B : Nat), A < 4611686018427387904 → B < 4611686018427387904 → (meetN na Ea A nb Eb B).2.1 = Ea ∧ (meetN na Ea A nb Eb B).2.2.1 < 9223372036854775808 := by
    intro na Ea A nb Eb B ha hb
    have hl := Nat.div_le_self B (2 ^ (Ea - Eb).toNat)
    unfold meetN
    by_cases n : na = nb
    · rw [if_pos n]; exact ⟨rfl, by show A + B / 2 ^ (Ea - Eb).toNat < _; omega⟩
    · rw [if_neg n]; exact ⟨rfl, Nat.lt_of_le_of_lt (Nat.le_trans (Nat.sub_le _ _) (Nat.sub_le _ _)) (show A < 9223372036854775808 by omega)⟩
  unfold exactN
  by_cases z1 : s1 = 0
  · rw [if_pos z1]; dsimp only; omega
  · rw [if_neg z1]
    by_cases z2 : s2 = 0
    · rw [if_pos z2]; dsimp only; omega
    · rw [if_neg z2]
      obtain ⟨a1, a2, a3, a4⟩ := gap_bounds s1 z1 h1
      obtain ⟨b1, b2, b3, b4⟩ := gap_bounds s2 z2 h2
      split
      · have := meet n2 (e2 - (gapN s2 : Int)) _ n1 (e1 - (gapN s1 : Int)) _ b4 a4; omega
      · have := meet n1 (e1 - (gapN s1 : Int)) _ n2 (e2 - (gapN s2 : Int)) _ a4 b4; omega
end Go.Proofs.Ytlkjoibpfhjhcaa.Round

/- Sums and differences: the program's, as plain numbers. -/
namespace Go.Proofs.Ytlkjoibpfhjhcaa.Round
open Go.RowKit Go.Proofs.Ytlkjoibpfhjhcaa.P Go.Proofs.Ytlkjoibpfhjhcaa.Num Go.Proofs.Ytlkjoibpfhjhcaa.BitsF Go.Proofs.Ytlkjoibpfhjhcaa.Fmt Go.Proofs.YtlkjoibpfhjhcaaW.PrintWords Go.Proofs.YtlkjoibpfhjhcaaW.PrintLast Go.Proofs.YtlkjoibpfhjhcaaW.PrintMore

theorem nought_f (f mode : Int) (a b : Bool) : sum_Nought.f f mode a b = some (noughtN f mode a b : Int) := by
  unfold sum_Nought.f noughtN
  have e3 : ((mode == 3) : Bool) = decide (mode = 3) := by
    by_cases c : mode = 3
    · subst c; rfl
    · rw [decide_eq_false c]; exact beq_eq_false_iff_ne.mpr c
  rw [e3]
  by_cases c : a = b
  · subst c; rw [if_pos (beq_self_eq_true a), if_pos rfl, zero_f]; rfl
  · rw [if_neg (show ¬ (a == b) = true by rw [beq_iff_eq]; exact c), if_neg c, zero_f]; rfl
theorem whole_62 (f : Int) (v : Nat) : wholeN f v < 4611686018427387904 := by
  have h := fbounds f
  have h1 := whole_lt f v
  have h2 := pow_le31 (show fm f + 1 ≤ 31 by omega)
  omega
end Go.Proofs.Ytlkjoibpfhjhcaa.Round

/- A product and a number together: the program's, of finite numbers, as plain numbers. -/
namespace Go.Proofs.Ytlkjoibpfhjhcaa.Round
open Go.RowKit Go.Proofs.Ytlkjoibpfhjhcaa.P Go.Proofs.Ytlkjoibpfhjhcaa.Num Go.Proofs.Ytlkjoibpfhjhcaa.BitsF Go.Proofs.Ytlkjoibpfhjhcaa.Fmt Go.Proofs.YtlkjoibpfhjhcaaW.PrintWords Go.Proofs.YtlkjoibpfhjhcaaW.PrintLast Go.Proofs.YtlkjoibpfhjhcaaW.PrintMore

theorem pnans3_ev (f : Int) (a b c : Nat) (ha : a < 4294967296) (hb : b < 4294967296) (hc : c < 4294967296) : Ev (fun k => sum_Nans.f k f [(a : Int), (b : Int), (c : Int)]) ((nanN f : Int), isLoud f a || isLoud f b || isLoud f c, false, false, false, false, isNan f a || isNan f b || isNan f c) := by
  refine Ev.congr (fun k => by unfold sum_Nans.f; rfl) (pnans_step f _ 0 a false false _ (by simp) (by simp) ha rfl (pnans_step f _ 1 b _ _ _ (by simp) (by simp) hb rfl (pnans_step f _ 2 c _ _ _ (by simp) (by simp) hc rfl ?_)))
  rw [Bool.false_or, Bool.false_or]
  exact pnans_end f [(a : Int), (b : Int), (c : Int)] _ _
/-- The exact product and a number together. -/
def trioN (f : Int) (a b c : Nat) : Bool × Int × Nat × Bool := exactN (negN f a != negN f b) (lowestN f a + lowestN f b) (wholeN f a * wholeN f b) (negN f c) (lowestN f c) (wholeN f c)
theorem mul_62 (f : Int) (a b : Nat) : wholeN f a * wholeN f b < 4611686018427387904 := by
  have wa := whole_lt f a
  have wb := whole_lt f b
  have hbd := fbounds f
  have hp24 : 2 ^ (fm f + 1) ≤ 16777216 := Nat.pow_le_pow_right (show 0 < 2 by decide) (show fm f + 1 ≤ 24 by omega)
  have := Nat.mul_le_mul (show wholeN f a ≤ 16777216 by omega) (show wholeN f b ≤ 16777216 by omega)
  omega
theorem fma_ev (f mode : Int) (a b c : Nat) (ha : a < 4294967296) (hb : b < 4294967296) (hc : c < 4294967296) (ca : clsN f a < 3) (cb : clsN f b < 3) (cc : clsN f c < 3) :
    Ev (fun k => prod_Fma.f k f mode (a : Int) (b : Int) (c : Int)) ((roundedN f mode (negN f a != negN f b) (negN f c) (trioN f a b c) : Int), false, false, roundedX f mode (trioN f a b c)) := by
  have ht : tornN f a b = false := by unfold tornN; exact decide_eq_false (by omega)
  have hto := torn_ev f a b ha hb
  rw [ht] at hto
  have hn := pnans3_ev f a b c ha hb hc
  have n0 : (isNan f a || isNan f b || isNan f c) = false := by
    unfold isNan
    rw [decide_eq_false (show ¬ 4 ≤ clsN f a by omega), decide_eq_false (show ¬ 4 ≤ clsN f b by omega), decide_eq_false (show ¬ 4 ≤ clsN f c by omega)]; rfl
  rw [n0] at hn
  obtain ⟨l1, l2⟩ := lowest_near f a
  obtain ⟨m1, m2⟩ := lowest_near f b
  obtain ⟨o1, o2⟩ := lowest_near f c
  have fa := cls_exp f a ca
  have fb := cls_exp f b cb
  have fc := cls_exp f c cc
  have hx := exact_ev (negN f a != negN f b) (lowestN f a + lowestN f b) (wholeN f a * wholeN f b) (negN f c) (lowestN f c) (wholeN f c) (mul_62 f a b) (whole_62 f c) (by omega) (by omega) (by omega) (by omega)
  obtain ⟨x1, x2, x3⟩ := exact_bounds (negN f a != negN f b) (lowestN f a + lowestN f b) (wholeN f a * wholeN f b) (negN f c) (lowestN f c) (wholeN f c) (mul_62 f a b) (whole_62 f c) (by omega) (by omega) (by omega) (by omega)
  refine Ev.congr (fun k => by unfold prod_Fma.f; rfl) (Ev.bind hto (Ev.bind hn ?_))
  dsimp only
  refine Ev.congr (fun k => by rw [if_neg (show ¬ false = true by decide), if_neg (show ¬ false = true by decide), neg_f f a ha, Option.bind_some, neg_f f b hb, Option.bind_some]) (Ev.bind (pinf_ev f a ha) ?_)
  refine Ev.congr (fun k => by rw [if_neg (by simp; omega)]) (Ev.bind (pinf_ev f b hb) (Ev.bind (pinf_ev f c hc) ?_))
  rw [decide_eq_false (show ¬ clsN f b = 3 by omega), decide_eq_false (show ¬ clsN f c = 3 by omega)]
  refine Ev.step (fun k => by rw [prod_Fma.j0, if_neg (by decide)]) (Ev.step (fun k => by rw [prod_Fma.j1, if_neg (by decide), product_f f a b ha hb fa fb, Option.bind_some, of_f f c hc fc, Option.bind_some]) ?_)
  dsimp only
  refine Ev.bind hx ?_
  unfold trioN castE
  generalize exactN (negN f a != negN f b) (lowestN f a + lowestN f b) (wholeN f a * wholeN f b) (negN f c) (lowestN f c) (wholeN f c) = r at *
  obtain ⟨rn, re, rs, rm⟩ := r
  dsimp only at *
  have hp := packs_ev f mode rn re rs rm (by omega)
  rw [clampE_id _ (by omega) (by omega)] at hp
  have pack : ¬ (rs = 0 ∧ rm = false) → Ev (fun k => prod_Fma.j2 k f mode (negN f a != negN f b) false (negN f c) (lowestN f c) (wholeN f c : Int) false rn re (rs : Int) rm) ((roundedN f mode (negN f a != negN f b) (negN f c) (rn, re, rs, rm) : Int), false, false, roundedX f mode (rn, re, rs, rm)) := by
    intro z
    have zz : ¬ (rs, rm) = (0, false) := fun e => z ⟨(Prod.mk.inj e).1, (Prod.mk.inj e).2⟩
    unfold roundedN roundedX
    rw [if_neg zz, if_neg zz]
    exact Ev.step (fun k => by rw [prod_Fma.j2, if_neg (by decide)]) (Ev.bind hp (Ev.now _))
  by_cases s0 : rs = 0
  · cases rm
    · have zz : (rs, false) = (0, false) := by rw [s0]
      refine Ev.congr (fun k => by rw [if_pos (by omega)]) (Ev.step (fun k => by rw [prod_Fma.j2, if_pos (by decide), nought_f]) (Ev.congr (fun k => ?_) (Ev.now _)))
      unfold roundedN roundedX
      rw [if_pos zz, if_pos zz]; rfl
    · exact Ev.congr (fun k => by rw [if_pos (by omega)]; rfl) (pack (by simp))
  · exact Ev.congr (fun k => by rw [if_neg (by omega)]) (pack (fun h => s0 h.1))
end Go.Proofs.Ytlkjoibpfhjhcaa.Round

/- Sums of which nothing is lost: plain numbers alone. -/
namespace Go.Proofs.Ytlkjoibpfhjhcaa.Round
open Go.RowKit Go.Proofs.Ytlkjoibpfhjhcaa.P Go.Proofs.Ytlkjoibpfhjhcaa.Num Go.Proofs.Ytlkjoibpfhjhcaa.BitsF Go.Proofs.Ytlkjoibpfhjhcaa.Fmt Go.Proofs.YtlkjoibpfhjhcaaW.PrintWords Go.Proofs.YtlkjoibpfhjhcaaW.PrintLast Go.Proofs.YtlkjoibpfhjhcaaW.PrintMore

theorem pow_split (m E F : Int) (h1 : m ≤ E) (h2 : E ≤ F) : 2 ^ (F - m).toNat = 2 ^ (F - E).toNat * 2 ^ (E - m).toNat := by
  rw [← Nat.pow_add]; congr 1; omega
/-- The greater first, with nothing of the lesser lost: by units of 2 to the m. -/
theorem meet_even (na : Bool) (Ea : Int) (A : Nat) (nb : Bool) (Eb : Int) (sb gb : Nat) (m : Int) (h1 : Eb ≤ Ea) (h2 : Ea - Eb ≤ (gb : Int)) (hm : m ≤ Eb) (hA : 2305843009213693952 ≤ A) (hA' : A < 4611686018427387904) (hB : sb * 2 ^ gb < 4611686018427387904) (h0 : Ea = Eb → sb * 2 ^ gb ≤ A) :
    ∃ S : Nat, meetN na Ea A nb Eb (sb * 2 ^ gb) = (na, Ea, S, false) ∧ S < 9223372036854775808 ∧ sb * 2 ^ gb * 2 ^ (Eb - m).toNat ≤ A * 2 ^ (Ea - m).toNat ∧
      (na = nb → S * 2 ^ (Ea - m).toNat = A * 2 ^ (Ea - m).toNat + sb * 2 ^ gb * 2 ^ (Eb - m).toNat) ∧ (na ≠ nb → S * 2 ^ (Ea - m).toNat = A * 2 ^ (Ea - m).toNat - sb * 2 ^ gb * 2 ^ (Eb - m).toNat) := by
  obtain ⟨d, hd⟩ : ∃ d : Nat, (Ea - Eb).toNat = d := ⟨_, rfl⟩
  have hpd := Nat.two_pow_pos d
  have hs := pow_split m Eb Ea hm h1
  rw [hd] at hs
  obtain ⟨l, hl⟩ : ∃ l, sb * 2 ^ gb = l * 2 ^ d := ⟨sb * 2 ^ (gb - d), by rw [Nat.mul_assoc, ← Nat.pow_add]; congr 2; omega⟩
  have hlow : sb * 2 ^ gb / 2 ^ d = l := by rw [hl, Nat.mul_div_cancel _ hpd]
  have hrest : sb * 2 ^ gb % 2 ^ d = 0 := by rw [hl, Nat.mul_mod_left]
  have hle : l ≤ A := by
    rcases Nat.eq_zero_or_pos d with c | c
    · have := h0 (by omega)
      rw [c, Nat.pow_zero, Nat.mul_one] at hl; omega
    · have h2 : 2 ^ 1 ≤ 2 ^ d := Nat.pow_le_pow_right (by decide) c
      have := Nat.mul_le_mul_left l h2
      omega
  have hv : sb * 2 ^ gb * 2 ^ (Eb - m).toNat = l * 2 ^ (Ea - m).toNat := by rw [hl, hs, Nat.mul_assoc]
  have hl62 : l < 4611686018427387904 := Nat.lt_of_le_of_lt (show l ≤ sb * 2 ^ gb by rw [hl]; exact Nat.le_mul_of_pos_right _ hpd) hB
  unfold meetN
  rw [hd, hlow, hrest, hv]
  by_cases n : na = nb
  · rw [if_pos n]
    exact ⟨A + l, rfl, by omega, Nat.mul_le_mul_right _ hle, fun _ => Nat.add_mul _ _ _, fun h => absurd n h⟩
  · rw [if_neg n]
    exact ⟨A - l, by simp, by omega, Nat.mul_le_mul_right _ hle, fun h => absurd h n, fun _ => Nat.sub_mul _ _ _⟩
/-- Two numbers that stand near one another: their sum is exact. -/
theorem exact_even (n1 : Bool) (e1 : Int) (s1 : Nat) (n2 : Bool) (e2 : Int) (s2 : Nat) (h1 : s1 ≠ 0) (h1' : s1 < 4611686018427387904) (h2 : s2 ≠ 0) (h2' : s2 < 4611686018427387904) (d1 : e1 - (gapN s1 : Int) ≤ e2) (d2 : e2 - (gapN s2 : Int) ≤ e1) (m : Int) (m1 : m ≤ e1 - (gapN s1 : Int)) (m2 : m ≤ e2 - (gapN s2 : Int)) :
    ∃ (sg : Bool) (E : Int) (S : Nat), exactN n1 e1 s1 n2 e2 s2 = (sg, E, S, false) ∧ m ≤ E ∧ (E = e1 - (gapN s1 : Int) ∨ E = e2 - (gapN s2 : Int)) ∧ S < 9223372036854775808 ∧
      (n1 = n2 → sg = n1 ∧ S * 2 ^ (E - m).toNat = s1 * 2 ^ (e1 - m).toNat + s2 * 2 ^ (e2 - m).toNat) ∧
      (n1 ≠ n2 → (s2 * 2 ^ (e2 - m).toNat ≤ s1 * 2 ^ (e1 - m).toNat → S * 2 ^ (E - m).toNat = s1 * 2 ^ (e1 - m).toNat - s2 * 2 ^ (e2 - m).toNat ∧ (s2 * 2 ^ (e2 - m).toNat < s1 * 2 ^ (e1 - m).toNat → sg = n1)) ∧
        (s1 * 2 ^ (e1 - m).toNat ≤ s2 * 2 ^ (e2 - m).toNat → S * 2 ^ (E - m).toNat = s2 * 2 ^ (e2 - m).toNat - s1 * 2 ^ (e1 - m).toNat ∧ (s1 * 2 ^ (e1 - m).toNat < s2 * 2 ^ (e2 - m).toNat → sg = n2))) := by
  obtain ⟨a1, a2, a3, a4⟩ := gap_bounds s1 h1 h1'
  obtain ⟨b1, b2, b3, b4⟩ := gap_bounds s2 h2 h2'
  have v1 : s1 * 2 ^ (e1 - m).toNat = s1 * 2 ^ gapN s1 * 2 ^ (e1 - (gapN s1 : Int) - m).toNat := by
    rw [Nat.mul_assoc, ← Nat.pow_add]; congr 2; omega
  have v2 : s2 * 2 ^ (e2 - m).toNat = s2 * 2 ^ gapN s2 * 2 ^ (e2 - (gapN s2 : Int) - m).toNat := by
    rw [Nat.mul_assoc, ← Nat.pow_add]; congr 2; omega
  rw [v1, v2]
  unfold exactN
  rw [if_neg h1, if_neg h2]
  by_cases c : e1 - (gapN s1 : Int) < e2 - (gapN s2 : Int) ∨ e1 - (gapN s1 : Int) = e2 - (gapN s2 : Int) ∧ s1 * 2 ^ gapN s1 < s2 * 2 ^ gapN s2
  · rw [if_pos c]
    obtain ⟨S, k1, k2, k3, k4, k5⟩ := meet_even n2 (e2 - (gapN s2 : Int)) (s2 * 2 ^ gapN s2) n1 (e1 - (gapN s1 : Int)) s1 (gapN s1) m (by omega) (by omega) m1 b3 b4 a4 (by omega)
    refine ⟨n2, _, S, k1, m2, .inr rfl, k2, fun h => ⟨h.symm, by rw [k4 h.symm, Nat.add_comm]⟩, fun h => ⟨fun hle => ?_, fun hle => ⟨k5 (fun e => h e.symm), fun _ => rfl⟩⟩⟩
    rw [k5 (fun e => h e.symm)]
    exact ⟨by omega, fun hlt => by omega⟩
  · rw [if_neg c]
    obtain ⟨S, k1, k2, k3, k4, k5⟩ := meet_even n1 (e1 - (gapN s1 : Int)) (s1 * 2 ^ gapN s1) n2 (e2 - (gapN s2 : Int)) s2 (gapN s2) m (by omega) (by omega) m2 a3 a4 b4 (by omega)
    refine ⟨n1, _, S, k1, m1, .inl rfl, k2, fun h => ⟨rfl, k4 h⟩, fun h => ⟨fun hle => ⟨k5 h, fun _ => rfl⟩, fun hle => ?_⟩⟩
    rw [k5 h]
    exact ⟨by omega, fun hlt => by omega⟩
end Go.Proofs.Ytlkjoibpfhjhcaa.Round

/- Amounts: what a number's bits without its sign stand for, in units of the least number; rounding depends on the amount alone. -/
namespace Go.Proofs.Ytlkjoibpfhjhcaa.Round
open Go.RowKit Go.Proofs.Ytlkjoibpfhjhcaa.P Go.Proofs.Ytlkjoibpfhjhcaa.Num Go.Proofs.Ytlkjoibpfhjhcaa.BitsF Go.Proofs.Ytlkjoibpfhjhcaa.Fmt Go.Proofs.YtlkjoibpfhjhcaaW.PrintWords Go.Proofs.YtlkjoibpfhjhcaaW.PrintLast Go.Proofs.YtlkjoibpfhjhcaaW.PrintMore

def magN (f : Int) (v : Nat) : Nat := v % 2 ^ (fe f + fm f)
/-- The same number, with noughts behind. -/
theorem rest_scale (r h j : Nat) : restN (r * 2 ^ j) (h * 2 ^ j) false = restN r h false := by
  have hp := Nat.two_pow_pos j
  unfold restN
  have h1 : r * 2 ^ j < h * 2 ^ j ↔ r < h := Nat.mul_lt_mul_right hp
  have h2 : r * 2 ^ j = 0 ↔ r = 0 := by rw [Nat.mul_eq_zero]; omega
  have h3 : r * 2 ^ j = h * 2 ^ j ↔ r = h := ⟨fun e => Nat.eq_of_mul_eq_mul_right hp e, fun e => by rw [e]⟩
  simp only [h1, h2, h3]
theorem left_exact (s : Nat) (d : Int) (h : d ≤ 0 ∨ s % 2 ^ d.toNat = 0) : leftN s d false = 0 := left_none false h
theorem quo_scale (s j : Nat) (d : Int) : quoN (s * 2 ^ j) d = quoN s (d - j) ∧ leftN (s * 2 ^ j) d false = leftN s (d - j) false := by
  by_cases c : d ≤ 0
  · rw [left_exact _ _ (.inl c), left_exact _ _ (.inl (by omega))]
    refine ⟨?_, rfl⟩
    unfold quoN
    rw [if_pos c, if_pos (by omega), show (-(d - (j : Int))).toNat = j + (-d).toNat by omega, Nat.pow_add, Nat.mul_assoc]
  · obtain ⟨n, rfl⟩ := nat_of (show 0 ≤ d by omega)
    by_cases c2 : (n : Int) - j ≤ 0
    · obtain ⟨i, rfl⟩ : ∃ i, j = n + i := ⟨j - n, by omega⟩
      have e : s * 2 ^ (n + i) = s * 2 ^ i * 2 ^ n := by rw [Nat.add_comm, Nat.pow_add, Nat.mul_assoc]
      have hp := Nat.two_pow_pos n
      constructor
      · unfold quoN
        rw [if_neg c, if_pos c2, Int.toNat_natCast, e, Nat.mul_div_cancel _ hp, show (-((n : Int) - ((n + i : Nat) : Int))).toNat = i by omega]
      · rw [left_exact _ _ (.inr (by rw [Int.toNat_natCast, e, Nat.mul_mod_left])), left_exact _ _ (.inl c2)]
    · obtain ⟨i, rfl⟩ : ∃ i, n = i + j := ⟨n - j, by omega⟩
      have hp := Nat.two_pow_pos j
      have e : ((i + j : Nat) : Int) - (j : Int) = (i : Int) := by omega
      rw [e] at c2 ⊢
      have hi : i ≠ 0 := by omega
      constructor
      · unfold quoN
        rw [if_neg c, if_neg c2, Int.toNat_natCast, Int.toNat_natCast, Nat.pow_add, Nat.mul_div_mul_right _ _ hp]
      · rw [left_rest _ _ _ c, left_rest _ _ _ c2, Int.toNat_natCast, Int.toNat_natCast, Nat.pow_add, Nat.mul_mod_mul_right, show i + j - 1 = i - 1 + j by omega, Nat.pow_add, rest_scale]
theorem rise_scale (f x : Int) (s j : Nat) : riseN f x (s * 2 ^ j) = riseN f (x + j) s := by
  unfold riseN
  by_cases c : s = 0
  · subst c; rw [Nat.zero_mul, if_pos rfl, if_pos rfl]
  · rw [if_neg (Nat.mul_ne_zero c (Nat.ne_of_gt (Nat.two_pow_pos j))), if_neg c, lenN_mul s j c]
    congr 1; omega
theorem key_scale (f mode : Int) (neg : Bool) (x : Int) (s j : Nat) : keyN f mode neg x (s * 2 ^ j) false = keyN f mode neg (x + j) s false := by
  have hr := rise_scale f x s j
  have hu : unitN f x (s * 2 ^ j) = unitN f (x + j) s := by unfold unitN; rw [hr]
  obtain ⟨hq, hl⟩ := quo_scale s j (unitN f (x + j) s - x)
  rw [show unitN f (x + j) s - x - j = unitN f (x + j) s - (x + j) by omega] at hq hl
  unfold keyN
  rw [hr, hu, hq, hl]
/-- A number's amount, by its whole number. -/
theorem mag_parts (f : Int) (v : Nat) : magN f v / 2 ^ fm f = expN f v ∧ magN f v % 2 ^ fm f = fracN f v := by
  unfold magN expN fracN
  rw [Nat.add_comm (fe f), Nat.pow_add]
  exact ⟨Nat.mod_mul_right_div_self .., Nat.mod_mul_right_mod ..⟩
end Go.Proofs.Ytlkjoibpfhjhcaa.Round

/- Bits with a sign, beyond the greatest number: plain numbers alone (for rounds without chapter 9). -/
namespace Go.Proofs.Ytlkjoibpfhjhcaa.Round
open Go.RowKit Go.Proofs.Ytlkjoibpfhjhcaa.P Go.Proofs.Ytlkjoibpfhjhcaa.Num Go.Proofs.Ytlkjoibpfhjhcaa.BitsF Go.Proofs.Ytlkjoibpfhjhcaa.Fmt Go.Proofs.YtlkjoibpfhjhcaaW.PrintWords Go.Proofs.YtlkjoibpfhjhcaaW.PrintLast Go.Proofs.YtlkjoibpfhjhcaaW.PrintMore

def infK (f : Int) : Nat := topN f * 2 ^ fm f
theorem infK_lt (f : Int) : infK f < 2 ^ (fe f + fm f) ∧ 0 < infK f := by
  obtain ⟨_, hi⟩ := inf_lt f false
  have hp := Nat.two_pow_pos (fm f)
  have ht : 0 < topN f * 2 ^ fm f := Nat.mul_pos (by have := top_cases f; omega) hp
  unfold infK; omega
/-- Bits with a sign. -/
theorem sign_parts (f : Int) (P : Nat) (neg : Bool) (h : P < 2 ^ (fe f + fm f)) : negN f (P + signN f neg) = neg ∧ magN f (P + signN f neg) = P ∧ P + signN f neg < 2 ^ (fe f + fm f + 1) := by
  unfold negN magN signN
  have hp := Nat.two_pow_pos (fe f + fm f)
  cases neg
  · simp only [Bool.false_eq_true, if_false, Nat.add_zero]
    rw [Nat.div_eq_of_lt h, Nat.mod_eq_of_lt h, Nat.pow_succ]
    exact ⟨rfl, rfl, by omega⟩
  · simp only [if_true]
    rw [Nat.add_div_right _ hp, Nat.div_eq_of_lt h, Nat.add_mod_right, Nat.mod_eq_of_lt h, Nat.pow_succ]
    exact ⟨rfl, rfl, by omega⟩
theorem mag_exp (f : Int) (v : Nat) : expN f v < topN f ↔ magN f v < infK f := by
  obtain ⟨h1, _⟩ := mag_parts f v
  unfold infK
  rw [← h1, Nat.div_lt_iff_lt_mul (Nat.two_pow_pos _)]
def capN (f mode : Int) (neg : Bool) (K : Nat) : Nat := if infK f ≤ K then (if endless mode neg then infK f else infK f - 1) else K
theorem pack_cap (f mode : Int) (neg : Bool) (x : Int) (s : Nat) (more : Bool) : packN f mode neg x s more = capN f mode neg (keyN f mode neg x s more) + signN f neg := by
  unfold packN capN overN infK; simp only [decide_eq_true_iff]
theorem mag_sign (f : Int) (v : Nat) (h : v < 2 ^ (fe f + fm f + 1)) : v = magN f v + signN f (negN f v) := by
  unfold magN signN negN
  have h1 := Nat.div_add_mod v (2 ^ (fe f + fm f))
  have h2 : v / 2 ^ (fe f + fm f) < 2 := by rw [Nat.div_lt_iff_lt_mul (Nat.two_pow_pos _), Nat.mul_comm, ← Nat.pow_succ]; exact h
  rw [Nat.mod_eq_of_lt h2]
  generalize v / 2 ^ (fe f + fm f) = b at *
  have h3 : b = 0 ∨ b = 1 := by omega
  rcases h3 with rfl | rfl
  · simp at h1 ⊢; omega
  · simp at h1 ⊢; omega
end Go.Proofs.Ytlkjoibpfhjhcaa.Round

/- Numbers near one, drawn: plain numbers. -/
namespace Go.Proofs.Ytlkjoibpfhjhcaa.Round
open Go.RowKit Go.Proofs.Ytlkjoibpfhjhcaa.P Go.Proofs.Ytlkjoibpfhjhcaa.Num Go.Proofs.Ytlkjoibpfhjhcaa.BitsF Go.Proofs.Ytlkjoibpfhjhcaa.Fmt Go.Proofs.YtlkjoibpfhjhcaaW.PrintWords Go.Proofs.YtlkjoibpfhjhcaaW.PrintLast Go.Proofs.YtlkjoibpfhjhcaaW.PrintMore

/-- The exponent's bits of one. -/
def oneN (f : Int) : Nat := topN f / 2
theorem one_cases (f : Int) : fe f = 5 ∧ fm f = 10 ∧ oneN f = 15 ∧ leastN f = -14 ∧ topN f = 31 ∨ fe f = 8 ∧ fm f = 7 ∧ oneN f = 127 ∧ leastN f = -126 ∧ topN f = 255 ∨ fe f = 8 ∧ fm f = 23 ∧ oneN f = 127 ∧ leastN f = -126 ∧ topN f = 255 := by
  unfold oneN topN leastN
  rcases fcases f with ⟨h1, h2⟩ | ⟨h1, h2⟩ | ⟨h1, h2⟩ <;> rw [h1, h2] <;> simp
theorem mild_shl (f : Int) : shl .u32 4 (fm f : Int) = ((4 * 2 ^ fm f : Nat) : Int) ∧ shl .u32 2 (fm f : Int) = ((2 * 2 ^ fm f : Nat) : Int) ∧
    shl .u32 ((((shl .u32 1 (fe f : Int)) - 1) % 4294967296) / 2) (fm f : Int) = ((oneN f * 2 ^ fm f : Nat) : Int) := by
  rcases one_cases f with ⟨h1, h2, h3, _⟩ | ⟨h1, h2, h3, _⟩ | ⟨h1, h2, h3, _⟩ <;> rw [h1, h2, h3] <;> decide
theorem mild_range (f : Int) : 4 * 2 ^ fm f + oneN f * 2 ^ fm f < 2 ^ (fe f + fm f) ∧ 2 * 2 ^ fm f ≤ oneN f * 2 ^ fm f := by
  rcases one_cases f with ⟨h1, h2, h3, _⟩ | ⟨h1, h2, h3, _⟩ | ⟨h1, h2, h3, _⟩ <;> rw [h1, h2, h3] <;> decide
theorem mild_plain (O P a : Nat) (h : 2 * P ≤ O) (hO : O + 4 * P < 2147483648) (hP : 0 < P) : ((((O : Nat) : Int) - ((2 * P : Nat) : Int)) % 4294967296 + Int.tmod ((a : Int) / 8) ((4 * P : Nat) : Int)) % 4294967296 = ((O - 2 * P + a / 8 % (4 * P) : Nat) : Int) := by
  have e : Int.tmod ((a : Int) / 8) ((4 * P : Nat) : Int) = ((a / 8 % (4 * P) : Nat) : Int) := by
    rw [show (a : Int) / 8 = ((a / 8 : Nat) : Int) from rfl, Int.tmod_eq_emod_of_nonneg (Int.natCast_nonneg _)]; rfl
  have hm := Nat.mod_lt (a / 8) (show 4 * P > 0 by omega)
  rw [e]
  generalize a / 8 % (4 * P) = m at *
  omega
theorem or_sign (f : Int) (m : Nat) (h : m < 2 ^ (fe f + fm f)) : Go.bits .or .u32 (m : Int) (signN f true : Int) = ((m + signN f true : Nat) : Int) := by
  have hb := fbounds f
  have h31 := pow_le31 (show fe f + fm f ≤ 31 by omega)
  have hs : signN f true = 2 ^ (fe f + fm f) := rfl
  rw [or_u32 m _ (by omega) (by omega), Nat.or_comm, or_add _ _ (fe f + fm f) (by rw [hs, Nat.mod_self]) h, Nat.add_comm]
/-- Nought, or a number of either sign from a quarter to below four. -/
theorem mild_f (f : Int) (a : Nat) (ha : a < 4294967296) : ∃ m : Nat, ∃ neg : Bool, annealseat_Mild.f f (a : Int) = some ((m + signN f neg : Nat) : Int) ∧ (m = 0 ∧ neg = false ∨ (oneN f - 2) * 2 ^ fm f ≤ m ∧ m < (oneN f + 2) * 2 ^ fm f) := by
  unfold annealseat_Mild.f
  by_cases c : Int.tmod (a : Int) 7 = 0
  · rw [if_pos c]
    exact ⟨0, false, rfl, .inl ⟨rfl, rfl⟩⟩
  · rw [if_neg c, ref_widths_f, Option.bind_some]
    dsimp only
    obtain ⟨s1, s2, s3⟩ := mild_shl f
    obtain ⟨r1, r2⟩ := mild_range f
    have hb := fbounds f
    have h31 := pow_le31 (show fe f + fm f ≤ 31 by omega)
    have hp := Nat.two_pow_pos (fm f)
    rw [s1, s2, s3, if_pos (Int.natCast_nonneg _), if_pos (Int.natCast_nonneg _), if_neg (by omega), mild_plain _ _ _ r2 (by omega) hp]
    have hm := Nat.mod_lt (a / 8) (show 4 * 2 ^ fm f > 0 by omega)
    have h2 : (oneN f - 2) * 2 ^ fm f = oneN f * 2 ^ fm f - 2 * 2 ^ fm f := Nat.sub_mul _ _ _
    have h3 : (oneN f + 2) * 2 ^ fm f = oneN f * 2 ^ fm f + 2 * 2 ^ fm f := Nat.add_mul _ _ _
    generalize hM : oneN f * 2 ^ fm f - 2 * 2 ^ fm f + a / 8 % (4 * 2 ^ fm f) = m at *
    by_cases d : Go.bits .and .u32 (a : Int) 1 = 1
    · rw [if_pos d, ref_zero_f, Option.bind_some, or_sign f m (by omega)]
      exact ⟨m, true, rfl, .inr ⟨by omega, by omega⟩⟩
    · rw [if_neg d]
      exact ⟨m, false, rfl, .inr ⟨by omega, by omega⟩⟩
/-- The parts of such a number. -/
theorem mild_parts (f : Int) (m : Nat) (neg : Bool) (h1 : (oneN f - 2) * 2 ^ fm f ≤ m) (h2 : m < (oneN f + 2) * 2 ^ fm f) :
    negN f (m + signN f neg) = neg ∧ magN f (m + signN f neg) = m ∧ m + signN f neg < 2 ^ (fe f + fm f + 1) ∧ m + signN f neg < 4294967296 ∧ oneN f - 2 ≤ expN f (m + signN f neg) ∧ expN f (m + signN f neg) < oneN f + 2 ∧
    clsN f (m + signN f neg) = 2 ∧ wholeN f (m + signN f neg) = fracN f (m + signN f neg) + 2 ^ fm f ∧ m = expN f (m + signN f neg) * 2 ^ fm f + fracN f (m + signN f neg) := by
  obtain ⟨r1, r2⟩ := mild_range f
  have hb := fbounds f
  have h32 := pow_le32 (show fe f + fm f + 1 ≤ 32 by omega)
  have hp := Nat.two_pow_pos (fm f)
  have h3 : (oneN f + 2) * 2 ^ fm f = oneN f * 2 ^ fm f + 2 * 2 ^ fm f := Nat.add_mul _ _ _
  obtain ⟨p1, p2, p3⟩ := sign_parts f m neg (by omega)
  obtain ⟨q1, q2⟩ := mag_parts f (m + signN f neg)
  rw [p2] at q1 q2
  have e1 : oneN f - 2 ≤ m / 2 ^ fm f := (Nat.le_div_iff_mul_le hp).mpr h1
  have e2 : m / 2 ^ fm f < oneN f + 2 := (Nat.div_lt_iff_lt_mul hp).mpr h2
  have hd := Nat.div_add_mod m (2 ^ fm f)
  rw [q1, q2, Nat.mul_comm] at hd
  rw [q1] at e1 e2
  have hc : oneN f = 15 ∧ topN f = 31 ∨ oneN f = 127 ∧ topN f = 255 := by
    rcases one_cases f with ⟨_, _, h3, _, h4⟩ | ⟨_, _, h3, _, h4⟩ | ⟨_, _, h3, _, h4⟩ <;> omega
  refine ⟨p1, p2, p3, by omega, e1, e2, ?_, ?_, hd.symm⟩
  · unfold clsN; rw [if_neg (by omega), if_pos (by omega)]
  · unfold wholeN; rw [if_neg (by omega)]
end Go.Proofs.Ytlkjoibpfhjhcaa.Round

/- Small whole numbers as numbers: plain numbers alone. -/
namespace Go.Proofs.Ytlkjoibpfhjhcaa.Round
open Go.RowKit Go.Proofs.Ytlkjoibpfhjhcaa.P Go.Proofs.Ytlkjoibpfhjhcaa.Num Go.Proofs.Ytlkjoibpfhjhcaa.BitsF Go.Proofs.Ytlkjoibpfhjhcaa.Fmt Go.Proofs.YtlkjoibpfhjhcaaW.PrintWords Go.Proofs.YtlkjoibpfhjhcaaW.PrintLast Go.Proofs.YtlkjoibpfhjhcaaW.PrintMore

/-- Noughts behind make no difference. -/
theorem pack_even (f mode : Int) (neg : Bool) (x : Int) (s j : Nat) : packN f mode neg x (s * 2 ^ j) false = packN f mode neg (x + j) s false ∧ excN f mode neg x (s * 2 ^ j) false = excN f mode neg (x + j) s false := by
  have hk := key_scale f mode neg x s j
  have hr := rise_scale f x s j
  have hu : unitN f x (s * 2 ^ j) = unitN f (x + j) s := by unfold unitN; rw [hr]
  have hl := (quo_scale s j (unitN f (x + j) s - x)).2
  rw [show unitN f (x + j) s - x - j = unitN f (x + j) s - (x + j) by omega] at hl
  have hi : inexN f x (s * 2 ^ j) false = inexN f (x + j) s false := by unfold inexN; rw [hu, hl]
  have hun : underN f x (s * 2 ^ j) false = underN f (x + j) s false := by
    unfold underN
    rw [hi]
    congr 1
    by_cases c : s = 0
    · subst c; simp
    · rw [decide_eq_false c, decide_eq_false (Nat.mul_ne_zero c (Nat.ne_of_gt (Nat.two_pow_pos j))), lenN_mul s j c]
      congr 1; apply decide_eq_decide.mpr; omega
  unfold packN excN
  rw [hk, hi, hun]; exact ⟨rfl, rfl⟩
theorem norm_under (f : Int) (e r : Nat) (h : e < topN f) (hr : r < 2 ^ fm f) : e * 2 ^ fm f + r < infK f := by
  have := Nat.mul_le_mul_right (2 ^ fm f) (show e + 1 ≤ topN f from h)
  rw [Nat.add_mul] at this
  unfold infK; omega
/-- A normal number's parts, by its exponent's bits and its fraction. -/
theorem norm_all (f : Int) (neg : Bool) (e r : Nat) (h0 : 1 ≤ e) (h1 : e < topN f) (hr : r < 2 ^ fm f) :
    negN f (e * 2 ^ fm f + r + signN f neg) = neg ∧ magN f (e * 2 ^ fm f + r + signN f neg) = e * 2 ^ fm f + r ∧ e * 2 ^ fm f + r + signN f neg < 2 ^ (fe f + fm f + 1) ∧ e * 2 ^ fm f + r + signN f neg < 4294967296 ∧
    expN f (e * 2 ^ fm f + r + signN f neg) = e ∧ fracN f (e * 2 ^ fm f + r + signN f neg) = r ∧ clsN f (e * 2 ^ fm f + r + signN f neg) = 2 ∧ wholeN f (e * 2 ^ fm f + r + signN f neg) = r + 2 ^ fm f ∧
    lowestN f (e * 2 ^ fm f + r + signN f neg) = leastN f - fm f + ((e - 1 : Nat) : Int) := by
  have hl := norm_under f e r h1 hr
  have hi := (infK_lt f).1
  have hb := fbounds f
  have h32 := pow_le32 (show fe f + fm f + 1 ≤ 32 by omega)
  have hp := Nat.two_pow_pos (fm f)
  obtain ⟨p1, p2, p3⟩ := sign_parts f (e * 2 ^ fm f + r) neg (by omega)
  obtain ⟨q1, q2⟩ := mag_parts f (e * 2 ^ fm f + r + signN f neg)
  rw [p2, Nat.mul_comm, Nat.mul_add_div hp, Nat.div_eq_of_lt hr, Nat.add_zero, Nat.mul_comm] at q1
  rw [p2, Nat.mul_comm, Nat.mul_add_mod, Nat.mod_eq_of_lt hr, Nat.mul_comm] at q2
  refine ⟨p1, p2, p3, by omega, q1.symm, q2.symm, ?_, ?_, ?_⟩
  · unfold clsN; rw [← q1, if_neg (by omega), if_pos h1]
  · unfold wholeN; rw [← q1, ← q2, if_neg (by omega)]
  · unfold lowestN; rw [← q1]
theorem zero_all (f : Int) (b : Bool) : clsN f (signN f b) = 0 ∧ negN f (signN f b) = b ∧ signN f b < 4294967296 := by
  have hb := fbounds f
  have h31 := pow_le31 (show fe f + fm f ≤ 31 by omega)
  have hp := Nat.two_pow_pos (fm f)
  obtain ⟨p1, p2, p3⟩ := sign_parts f 0 b (Nat.two_pow_pos _)
  obtain ⟨q1, q2⟩ := mag_parts f (0 + signN f b)
  rw [p2] at q1 q2
  rw [Nat.zero_add] at *
  refine ⟨?_, p1, ?_⟩
  · unfold clsN; rw [← q1, ← q2, Nat.zero_div, Nat.zero_mod]; rfl
  · unfold signN; split <;> omega
end Go.Proofs.Ytlkjoibpfhjhcaa.Round

/- Numbers of few bits, at any exponent of the normal ones: plain numbers alone. -/
namespace Go.Proofs.Ytlkjoibpfhjhcaa.Round
open Go.RowKit Go.Proofs.Ytlkjoibpfhjhcaa.P Go.Proofs.Ytlkjoibpfhjhcaa.Num Go.Proofs.Ytlkjoibpfhjhcaa.BitsF Go.Proofs.Ytlkjoibpfhjhcaa.Fmt Go.Proofs.YtlkjoibpfhjhcaaW.PrintWords Go.Proofs.YtlkjoibpfhjhcaaW.PrintLast Go.Proofs.YtlkjoibpfhjhcaaW.PrintMore

theorem exact_at (f c : Int) (D : Nat) (h0 : D ≠ 0) (h : D < 2 ^ (fm f + 1)) (lo : 1 + leastN f ≤ c + lenN D) (hi : c + lenN D - leastN f < topN f) : ∃ e r j : Nat, 1 ≤ e ∧ e < topN f ∧ r < 2 ^ fm f ∧ r + 2 ^ fm f = D * 2 ^ j ∧ leastN f - fm f + ((e - 1 : Nat) : Int) = c - (j : Int) ∧ lenN D + j = fm f + 1 ∧
    ∀ (mode : Int) (neg : Bool), packN f mode neg c D false = e * 2 ^ fm f + r + signN f neg ∧ excN f mode neg c D false = (false, false, false) := by
  have hl := lenN_bound D (fm f + 1) h
  have hp := lenN_pos D h0
  obtain ⟨j, hj⟩ : ∃ j, lenN D + j = fm f + 1 := ⟨fm f + 1 - lenN D, by omega⟩
  have hpj := Nat.two_pow_pos j
  have hpm := Nat.two_pow_pos (fm f)
  have m1 : 2 ^ fm f ≤ D * 2 ^ j := by
    have := Nat.mul_le_mul_right (2 ^ j) (lenN_le D h0)
    rw [← Nat.pow_add, show lenN D - 1 + j = fm f by omega] at this; exact this
  have m2 : D * 2 ^ j < 2 ^ (fm f + 1) := by
    have := Nat.mul_lt_mul_of_pos_right (lenN_lt D) hpj
    rw [← Nat.pow_add, hj] at this; exact this
  have hs : 2 ^ (fm f + 1) = 2 * 2 ^ fm f := by rw [Nat.pow_succ, Nat.mul_comm]
  obtain ⟨R, hR⟩ : ∃ R : Nat, (R : Int) = c + lenN D - 1 - leastN f := ⟨(c + lenN D - 1 - leastN f : Int).toNat, by omega⟩
  have hfin := norm_under f (R + 1) (D * 2 ^ j - 2 ^ fm f) (by omega) (by omega)
  have hk : R * 2 ^ fm f + D * 2 ^ j = (R + 1) * 2 ^ fm f + (D * 2 ^ j - 2 ^ fm f) := by rw [Nat.add_mul]; omega
  refine ⟨R + 1, D * 2 ^ j - 2 ^ fm f, j, by omega, by omega, by omega, by omega, by rw [show R + 1 - 1 = R by omega]; omega, hj, fun mode neg => ?_⟩
  obtain ⟨x1, x2⟩ := exact_pack f mode neg (D * 2 ^ j) 0 R m2 (.inr m1) (by rw [hk]; exact hfin)
  rw [hk] at x1
  rw [Nat.pow_zero, Nat.mul_one, show leastN f - (fm f : Int) + (R : Int) - ((0 : Nat) : Int) = c - (j : Int) by omega] at x1 x2
  obtain ⟨s1, s2⟩ := pack_even f mode neg (c - (j : Int)) D j
  rw [show c - (j : Int) + (j : Int) = c by omega] at s1 s2
  rw [s1] at x1
  rw [s2] at x2
  exact ⟨x1, x2⟩
end Go.Proofs.Ytlkjoibpfhjhcaa.Round

/- A number less one near it is exact, and with it again it is itself: plain numbers alone. -/
namespace Go.Proofs.Ytlkjoibpfhjhcaa.Round
open Go.RowKit Go.Proofs.Ytlkjoibpfhjhcaa.P Go.Proofs.Ytlkjoibpfhjhcaa.Num Go.Proofs.Ytlkjoibpfhjhcaa.BitsF Go.Proofs.Ytlkjoibpfhjhcaa.Fmt Go.Proofs.YtlkjoibpfhjhcaaW.PrintWords Go.Proofs.YtlkjoibpfhjhcaaW.PrintLast Go.Proofs.YtlkjoibpfhjhcaaW.PrintMore

/-- What rounding makes of an exact sum, by units of 2 to the m. -/
theorem rounded_units (f mode : Int) (a b sg : Bool) (E m c : Int) (S D : Nat) (h1 : m ≤ E) (h2 : m ≤ c) (h : S * 2 ^ (E - m).toNat = D * 2 ^ (c - m).toNat) (hD : D ≠ 0) :
    roundedN f mode a b (sg, E, S, false) = packN f mode sg c D false ∧ roundedX f mode (sg, E, S, false) = excN f mode sg c D false := by
  have hp := Nat.two_pow_pos (c - m).toNat
  have hS : S ≠ 0 := by
    intro z; subst z; rw [Nat.zero_mul] at h
    exact Nat.mul_ne_zero hD (by omega) h.symm
  obtain ⟨p1, p2⟩ := pack_even f mode sg m S (E - m).toNat
  obtain ⟨q1, q2⟩ := pack_even f mode sg m D (c - m).toNat
  rw [show m + ((E - m).toNat : Int) = E by omega] at p1 p2
  rw [show m + ((c - m).toNat : Int) = c by omega] at q1 q2
  rw [h] at p1 p2
  unfold roundedN roundedX
  rw [if_neg (show ¬ (S, false) = (0, false) from fun e => hS (Prod.mk.inj e).1), if_neg (show ¬ (S, false) = (0, false) from fun e => hS (Prod.mk.inj e).1)]
  exact ⟨p1.symm.trans q1, p2.symm.trans q2⟩
end Go.Proofs.Ytlkjoibpfhjhcaa.Round

/- Whole units of a binade as a number (for rounds without chapter 6): plain numbers alone. -/
namespace Go.Proofs.Ytlkjoibpfhjhcaa.Round
open Go.RowKit Go.Proofs.Ytlkjoibpfhjhcaa.P Go.Proofs.Ytlkjoibpfhjhcaa.Num Go.Proofs.Ytlkjoibpfhjhcaa.BitsF Go.Proofs.Ytlkjoibpfhjhcaa.Fmt Go.Proofs.YtlkjoibpfhjhcaaW.PrintWords Go.Proofs.YtlkjoibpfhjhcaaW.PrintLast Go.Proofs.YtlkjoibpfhjhcaaW.PrintMore

/-- Whole units of a binade, as a number. -/
theorem unit_whole (f : Int) (neg : Bool) (r q : Nat) (hq : q < 2 ^ (fm f + 1)) (hr : r = 0 ∨ 2 ^ fm f ≤ q) (h : r * 2 ^ fm f + q < infK f) :
    wholeN f (r * 2 ^ fm f + q + signN f neg) = q ∧ lowestN f (r * 2 ^ fm f + q + signN f neg) = leastN f - fm f + r ∧ expN f (r * 2 ^ fm f + q + signN f neg) < topN f ∧
    r * 2 ^ fm f + q + signN f neg < 2 ^ (fe f + fm f + 1) ∧ r * 2 ^ fm f + q + signN f neg < 4294967296 ∧ magN f (r * 2 ^ fm f + q + signN f neg) = r * 2 ^ fm f + q ∧ negN f (r * 2 ^ fm f + q + signN f neg) = neg := by
  have hp := Nat.two_pow_pos (fm f)
  have hs : 2 ^ (fm f + 1) = 2 * 2 ^ fm f := by rw [Nat.pow_succ, Nat.mul_comm]
  have hb := fbounds f
  have h32 := pow_le32 (show fe f + fm f + 1 ≤ 32 by omega)
  obtain ⟨i1, _⟩ := infK_lt f
  obtain ⟨p1, p2, p3⟩ := sign_parts f (r * 2 ^ fm f + q) neg (by omega)
  obtain ⟨m1, m2⟩ := mag_parts f (r * 2 ^ fm f + q + signN f neg)
  have he : expN f (r * 2 ^ fm f + q + signN f neg) < topN f := (mag_exp f _).mpr (by rw [p2]; exact h)
  have k1 : (r * 2 ^ fm f + q) / 2 ^ fm f = r + q / 2 ^ fm f := by rw [Nat.mul_comm, Nat.mul_add_div hp]
  have k2 : (r * 2 ^ fm f + q) % 2 ^ fm f = q % 2 ^ fm f := by rw [Nat.mul_comm, Nat.mul_add_mod]
  rw [p2, k1] at m1
  rw [p2, k2] at m2
  refine ⟨?_, ?_, he, p3, by omega, p2, p1⟩
  · unfold wholeN
    rw [← m1, ← m2]
    by_cases c : q < 2 ^ fm f
    · rw [Nat.div_eq_of_lt c, Nat.mod_eq_of_lt c]
      rcases hr with h' | h'
      · subst h'; rw [if_pos rfl]
      · omega
    · have d : q / 2 ^ fm f = 1 := Nat.div_eq_of_lt_le (by omega) (by omega)
      have hm := Nat.div_add_mod q (2 ^ fm f)
      rw [d] at hm ⊢
      rw [if_neg (by omega)]; omega
  · unfold lowestN
    rw [← m1]
    by_cases c : q < 2 ^ fm f
    · rw [Nat.div_eq_of_lt c]
      rcases hr with h' | h'
      · subst h'; rfl
      · omega
    · have d : q / 2 ^ fm f = 1 := Nat.div_eq_of_lt_le (by omega) (by omega)
      rw [d]; omega
theorem left_all (s : Nat) (d : Int) (more : Bool) (h : leftN s d more = 0) : more = false ∧ (d ≤ 0 ∨ s % 2 ^ d.toNat = 0) := by
  unfold leftN at h
  by_cases c : d ≤ 0 ∨ s % 2 ^ d.toNat = 0
  · rw [if_pos c] at h
    cases more
    · exact ⟨rfl, c⟩
    · exact absurd h (by decide)
  · rw [if_neg c] at h
    split at h
    · omega
    · split at h <;> omega
end Go.Proofs.Ytlkjoibpfhjhcaa.Round

/- What is left of a rounded product of single numbers is exact: plain numbers alone. -/
namespace Go.Proofs.Ytlkjoibpfhjhcaa.Round
open Go.RowKit Go.Proofs.Ytlkjoibpfhjhcaa.P Go.Proofs.Ytlkjoibpfhjhcaa.Num Go.Proofs.Ytlkjoibpfhjhcaa.BitsF Go.Proofs.Ytlkjoibpfhjhcaa.Fmt Go.Proofs.YtlkjoibpfhjhcaaW.PrintWords Go.Proofs.YtlkjoibpfhjhcaaW.PrintLast Go.Proofs.YtlkjoibpfhjhcaaW.PrintMore

theorem mul_rest (s a b : Bool) (X : Int) (W L : Nat) (hL : lenN W = L) (hL1 : 47 ≤ L) (hL2 : L ≤ 48) (hW : W ≠ 0) (hX : -60 ≤ X) (hX' : X ≤ -40) :
    ∃ p : Nat, ∃ ix : Bool, packN 2 0 s X W false = p ∧ excN 2 0 s X W false = (false, false, ix) ∧ p < 2 ^ (fe 2 + fm 2 + 1) ∧ clsN 2 p < 3 ∧ negN 2 p = s ∧
      (ix = false → (exactN s X W (!s) (lowestN 2 p) (wholeN 2 p)).2.2 = (0, false)) ∧
      (ix = true → ∃ sg : Bool, ∃ D : Nat, D ≠ 0 ∧ D < 2 ^ 24 ∧ roundedN 2 0 a b (exactN s X W (!s) (lowestN 2 p) (wholeN 2 p)) = packN 2 0 sg X D false ∧ roundedX 2 0 (exactN s X W (!s) (lowestN 2 p) (wholeN 2 p)) = excN 2 0 sg X D false) := by
  have m2 : fm 2 = 23 := rfl
  have l2 : leastN 2 = -126 := rfl
  have t2 : topN 2 = 255 := rfl
  have k2 : infK 2 = 255 * 2 ^ 23 := rfl
  obtain ⟨d, hd⟩ : ∃ d, L = d + 24 := ⟨L - 24, by omega⟩
  have hrise : riseN 2 X W = (X + L + 125).toNat := by unfold riseN; rw [if_neg hW, hL, l2]; congr 1; omega
  obtain ⟨R, hR⟩ : ∃ R : Nat, (X + L + 125).toNat = R := ⟨_, rfl⟩
  rw [hR] at hrise
  have hRb : 1 ≤ R ∧ R ≤ 140 ∧ (R : Int) = X + L + 125 := by omega
  have hU : unitN 2 X W - X = (d : Int) := by unfold unitN; rw [hrise, l2, m2]; omega
  obtain ⟨q1, q2⟩ := quo_bounds 2 X W
  have hq : quoN W (d : Int) = W / 2 ^ d := by unfold quoN; rw [if_neg (by omega), Int.toNat_natCast]
  rw [hU, hq, m2] at q1 q2
  have hq2 := q2 (by rw [hrise]; omega)
  have hpd := Nat.two_pow_pos d
  have hdm := Nat.div_add_mod W (2 ^ d)
  have hml := Nat.mod_lt W hpd
  rw [Nat.mul_comm] at hdm
  obtain ⟨up, hup⟩ : ∃ up : Bool, upN 0 s (W / 2 ^ d) (leftN W (d : Int) false) = up := ⟨_, rfl⟩
  have hkey : keyN 2 0 s X W false = R * 2 ^ 23 + (W / 2 ^ d + if up then 1 else 0) := by
    unfold keyN; rw [hU, hrise, hq, hup, m2, Nat.add_assoc]
  have hu1 : (if up then 1 else 0 : Nat) ≤ 1 := by split <;> omega
  have hov : ¬ 255 * 2 ^ 23 ≤ R * 2 ^ 23 + (W / 2 ^ d + if up then 1 else 0) := by omega
  have hpk : packN 2 0 s X W false = R * 2 ^ 23 + (W / 2 ^ d + if up then 1 else 0) + signN 2 s := by
    rw [pack_cap, hkey]; unfold capN; rw [k2, if_neg hov]
  obtain ⟨ix, hix⟩ : ∃ ix : Bool, decide (leftN W (d : Int) false ≠ 0) = ix := ⟨_, rfl⟩
  have hexc : excN 2 0 s X W false = (false, false, ix) := by
    have ho : overN 2 (keyN 2 0 s X W false) = false := by rw [hkey]; exact decide_eq_false hov
    have hi : inexN 2 X W false = ix := by unfold inexN; rw [hU]; exact hix
    have hun : underN 2 X W false = false := by
      unfold underN; rw [decide_eq_false hW, hL, l2, decide_eq_false (by omega)]; simp
    unfold excN; rw [ho, hi, hun]; rfl
  have hhi : ∃ g : Nat, g ≤ 1 ∧ wholeN 2 (R * 2 ^ 23 + (W / 2 ^ d + if up then 1 else 0) + signN 2 s) * 2 ^ g = W / 2 ^ d + (if up then 1 else 0) ∧ lowestN 2 (R * 2 ^ 23 + (W / 2 ^ d + if up then 1 else 0) + signN 2 s) = -149 + (R : Int) + g ∧
      expN 2 (R * 2 ^ 23 + (W / 2 ^ d + if up then 1 else 0) + signN 2 s) < topN 2 ∧ R * 2 ^ 23 + (W / 2 ^ d + if up then 1 else 0) + signN 2 s < 2 ^ (fe 2 + fm 2 + 1) ∧ negN 2 (R * 2 ^ 23 + (W / 2 ^ d + if up then 1 else 0) + signN 2 s) = s ∧
      2 ^ 23 ≤ wholeN 2 (R * 2 ^ 23 + (W / 2 ^ d + if up then 1 else 0) + signN 2 s) ∧ wholeN 2 (R * 2 ^ 23 + (W / 2 ^ d + if up then 1 else 0) + signN 2 s) < 2 ^ 24 := by
    by_cases c : W / 2 ^ d + (if up then 1 else 0) < 2 ^ 24
    · obtain ⟨y1, y2, y3, y4, y5, y6, y7⟩ := unit_whole 2 s R (W / 2 ^ d + if up then 1 else 0) (by rw [m2]; exact c) (.inr (by rw [m2]; omega)) (by rw [k2, m2]; omega)
      rw [m2] at y1 y2 y3 y4 y7
      rw [l2] at y2
      exact ⟨0, by omega, by rw [y1]; simp, by rw [y2]; omega, y3, y4, y7, by rw [y1]; omega, by rw [y1]; exact c⟩
    · have eq : W / 2 ^ d + (if up then 1 else 0) = 2 ^ 24 := by omega
      obtain ⟨y1, y2, y3, y4, y5, y6, y7⟩ := unit_whole 2 s (R + 1) (2 ^ 23) (by rw [m2]; decide) (.inr (Nat.le_refl _)) (by rw [k2, m2]; omega)
      rw [m2, show (R + 1) * 2 ^ 23 + 2 ^ 23 = R * 2 ^ 23 + (W / 2 ^ d + if up then 1 else 0) by rw [eq]; omega] at y1 y2 y3 y4 y7
      rw [l2] at y2
      exact ⟨1, by omega, by rw [y1, eq], by rw [y2]; omega, y3, y4, y7, by rw [y1]; exact Nat.le_refl _, by rw [y1]; decide⟩
  obtain ⟨g, g0, g1, g2, g3, g4, g5, g6, g7⟩ := hhi
  obtain ⟨p, hp⟩ : ∃ p, R * 2 ^ 23 + (W / 2 ^ d + if up then 1 else 0) + signN 2 s = p := ⟨_, rfl⟩
  rw [hp] at hpk g1 g2 g3 g4 g5 g6 g7
  have hcls := (cls_finite 2 p).mpr g3
  refine ⟨p, ix, hpk, hexc, g4, hcls, g5, ?_⟩
  generalize hw : wholeN 2 p = w at *
  rw [g2]
  have gW : gapN W = 62 - L := by unfold gapN; rw [hL]
  have gw : gapN w = 38 ∧ w ≠ 0 ∧ w < 4611686018427387904 := by
    have hl : lenN w = 24 := lenN_of _ _ g7 (.inr g6)
    unfold gapN; rw [hl]; omega
  have hWb : W < 4611686018427387904 := by
    have := lenN_lt W
    rw [hL] at this
    have h48 : 2 ^ L ≤ 2 ^ 48 := Nat.pow_le_pow_right (by decide) hL2
    omega
  have e1 : X - (gapN W : Int) ≤ -149 + (R : Int) + g := by rw [gW]; omega
  have e2 : -149 + (R : Int) + g - (gapN w : Int) ≤ X := by rw [gw.1]; omega
  have f1 : X - 100 ≤ X - (gapN W : Int) := by rw [gW]; omega
  have f2 : X - 100 ≤ -149 + (R : Int) + g - (gapN w : Int) := by rw [gw.1]; omega
  obtain ⟨sg, E, S, k1, k3, _, _, _, k6⟩ := exact_even s X W (!s) (-149 + (R : Int) + g) w hW hWb gw.2.1 gw.2.2 e1 e2 (X - 100) f1 f2
  obtain ⟨k7, k8⟩ := k6 (by cases s <;> decide)
  have v1 : W * 2 ^ (X - (X - 100)).toNat = W * 2 ^ 100 := by congr 2; omega
  have v2 : w * 2 ^ (-149 + (R : Int) + g - (X - 100)).toNat = (W / 2 ^ d + if up then 1 else 0) * 2 ^ d * 2 ^ 100 := by
    rw [← g1, Nat.mul_assoc, Nat.mul_assoc, ← Nat.pow_add, ← Nat.pow_add]; congr 2; omega
  rw [v1, v2] at k7 k8
  have p100 : 0 < 2 ^ 100 := Nat.two_pow_pos _
  have hc100 : ∀ D : Nat, D * 2 ^ 100 = D * 2 ^ (X - (X - 100)).toNat := by intro D; congr 2; omega
  rw [k1]
  have hd24 : 2 ^ d ≤ 2 ^ 24 := Nat.pow_le_pow_right (by decide) (by omega)
  have hleft : leftN W (d : Int) false = 0 → W % 2 ^ d = 0 := by
    intro h
    have := (left_all W (d : Int) false h).2
    rw [Int.toNat_natCast] at this
    rcases this with c | c
    · omega
    · exact c
  cases up
  · rw [if_neg (show ¬ false = true by decide), Nat.add_zero] at k7 k8
    have hle : W / 2 ^ d * 2 ^ d ≤ W := Nat.div_mul_le_self _ _
    obtain ⟨h1, h2⟩ := k7 (Nat.mul_le_mul_right _ hle)
    rw [← Nat.sub_mul, show W - W / 2 ^ d * 2 ^ d = W % 2 ^ d by omega] at h1
    constructor
    · intro hxf
      have hz : W % 2 ^ d = 0 := by
        apply hleft
        rw [hxf, decide_eq_false_iff_not] at hix
        omega
      rw [hz, Nat.zero_mul] at h1
      have hS : S = 0 := by
        rcases Nat.mul_eq_zero.mp h1 with z | z
        · exact z
        · have := Nat.two_pow_pos (E - (X - 100)).toNat; omega
      rw [hS]
    · intro hxt
      have hD : W % 2 ^ d ≠ 0 := by
        intro z
        have : leftN W (d : Int) false = 0 := left_exact _ _ (.inr (by rw [Int.toNat_natCast]; exact z))
        rw [this] at hix; rw [← hix] at hxt; exact absurd hxt (by decide)
      rw [hc100] at h1
      obtain ⟨r1, r2⟩ := rounded_units 2 0 a b sg E (X - 100) X S (W % 2 ^ d) k3 (by omega) h1 hD
      exact ⟨sg, W % 2 ^ d, hD, by omega, r1, r2⟩
  · rw [if_pos rfl] at k7 k8
    have hrest : W % 2 ^ d ≠ 0 := by
      intro z
      have : leftN W (d : Int) false = 0 := left_exact _ _ (.inr (by rw [Int.toNat_natCast]; exact z))
      rw [this, up_none] at hup; exact absurd hup (by decide)
    have hsum : (W / 2 ^ d + 1) * 2 ^ d = W / 2 ^ d * 2 ^ d + 2 ^ d := by rw [Nat.add_mul, Nat.one_mul]
    have hle : W ≤ (W / 2 ^ d + 1) * 2 ^ d := by omega
    obtain ⟨h1, h2⟩ := k8 (Nat.mul_le_mul_right _ hle)
    rw [← Nat.sub_mul, show (W / 2 ^ d + 1) * 2 ^ d - W = 2 ^ d - W % 2 ^ d by omega] at h1
    have hixt : ix = true := by
      rw [← hix]
      apply decide_eq_true
      intro z
      exact hrest (hleft z)
    constructor
    · intro hxf; rw [hixt] at hxf; exact absurd hxf (by decide)
    · intro _
      rw [hc100] at h1
      obtain ⟨r1, r2⟩ := rounded_units 2 0 a b sg E (X - 100) X S (2 ^ d - W % 2 ^ d) k3 (by omega) h1 (by omega)
      exact ⟨sg, 2 ^ d - W % 2 ^ d, by omega, by omega, r1, r2⟩
end Go.Proofs.Ytlkjoibpfhjhcaa.Round

/- Differences: the program's, as plain numbers. -/
namespace Go.Proofs.Ytlkjoibpfhjhcaa.Round
open Go.RowKit Go.Proofs.Ytlkjoibpfhjhcaa.P Go.Proofs.Ytlkjoibpfhjhcaa.Num Go.Proofs.Ytlkjoibpfhjhcaa.BitsF Go.Proofs.Ytlkjoibpfhjhcaa.Fmt Go.Proofs.YtlkjoibpfhjhcaaW.PrintWords Go.Proofs.YtlkjoibpfhjhcaaW.PrintLast Go.Proofs.YtlkjoibpfhjhcaaW.PrintMore

/-- With the other sign. -/
def turnN (f : Int) (v : Nat) : Nat := magN f v + signN f (!negN f v)
theorem xor_off (m n : Nat) (h : m < 2 ^ n) : m ^^^ 2 ^ n = m + 2 ^ n ∧ (m + 2 ^ n) ^^^ 2 ^ n = m := by
  have ho : m + 2 ^ n = 2 ^ n ||| m := by rw [or_add (2 ^ n) m n (Nat.mod_self _) h, Nat.add_comm]
  have hn : m.testBit n = false := Nat.testBit_lt_two_pow h
  rw [ho]
  constructor
  · apply Nat.eq_of_testBit_eq
    intro i
    rw [Nat.testBit_xor, Nat.testBit_or, Nat.testBit_two_pow]
    by_cases e : n = i
    · subst e; rw [hn]; simp
    · rw [decide_eq_false e]; simp
  · apply Nat.eq_of_testBit_eq
    intro i
    rw [Nat.testBit_xor, Nat.testBit_or, Nat.testBit_two_pow]
    by_cases e : n = i
    · subst e; rw [hn]; simp
    · rw [decide_eq_false e]; simp
theorem mag_lt (f : Int) (v : Nat) : magN f v < 2 ^ (fe f + fm f) := Nat.mod_lt _ (Nat.two_pow_pos _)
theorem low_mag (f : Int) (v : Nat) : lowN f v = magN f v + signN f (negN f v) := by
  have h := mag_sign f (lowN f v) (low_lt f v)
  have e : magN f (lowN f v) = magN f v := by
    unfold magN lowN
    exact Nat.mod_mod_of_dvd _ (Nat.pow_dvd_pow 2 (by omega))
  rw [neg_low, e] at h
  exact h
theorem turn_parts (f : Int) (v : Nat) : negN f (turnN f v) = !negN f v ∧ clsN f (turnN f v) = clsN f v ∧ wholeN f (turnN f v) = wholeN f v ∧ lowestN f (turnN f v) = lowestN f v ∧ turnN f v < 4294967296 := by
  have hb := fbounds f
  have h32 := pow_le32 (show fe f + fm f + 1 ≤ 32 by omega)
  obtain ⟨p1, p2, p3⟩ := sign_parts f (magN f v) (!negN f v) (mag_lt f v)
  obtain ⟨m1, m2⟩ := mag_parts f (turnN f v)
  obtain ⟨n1, n2⟩ := mag_parts f v
  have hm : magN f (turnN f v) = magN f v := p2
  rw [hm] at m1 m2
  have he : expN f (turnN f v) = expN f v := by rw [← m1, n1]
  have hf : fracN f (turnN f v) = fracN f v := by rw [← m2, n2]
  refine ⟨p1, ?_, ?_, ?_, by unfold turnN; omega⟩
  · unfold clsN; rw [he, hf]
  · unfold wholeN; rw [he, hf]
  · unfold lowestN; rw [he]
end Go.Proofs.Ytlkjoibpfhjhcaa.Round

/- With the other sign: the reference's, as plain numbers. -/
namespace Go.Proofs.Ytlkjoibpfhjhcaa.Round
open Go.RowKit Go.Proofs.Ytlkjoibpfhjhcaa.P Go.Proofs.Ytlkjoibpfhjhcaa.Num Go.Proofs.Ytlkjoibpfhjhcaa.BitsF Go.Proofs.Ytlkjoibpfhjhcaa.Fmt Go.Proofs.YtlkjoibpfhjhcaaW.PrintWords Go.Proofs.YtlkjoibpfhjhcaaW.PrintLast Go.Proofs.YtlkjoibpfhjhcaaW.PrintMore

theorem minus_ev (f : Int) (v : Nat) (hv : v < 2 ^ (fe f + fm f + 1)) (hc : ¬ 4 ≤ clsN f v) : Ev (fun k => annealref1_Minus.f k f (v : Int)) (turnN f v : Int) := by
  have hb := fbounds f
  have h31 := pow_le31 (show fe f + fm f ≤ 31 by omega)
  have h32 := pow_le32 (show fe f + fm f + 1 ≤ 32 by omega)
  have hm := mag_lt f v
  have hs : signN f true = 2 ^ (fe f + fm f) := rfl
  have hs0 : signN f false = 0 := rfl
  have n4 : ¬ isNan f v = true := by unfold isNan; rw [decide_eq_true_iff]; exact hc
  obtain ⟨x1, x2⟩ := xor_off (magN f v) (fe f + fm f) hm
  have hvm := low_mag f v
  rw [low_id f v hv] at hvm
  have hx : Go.bits .xor .u32 (v : Int) (signN f true : Int) = (turnN f v : Int) := by
    rw [xor_u32 v _ (by omega) (by omega), hs]
    unfold turnN
    generalize magN f v = m at *
    cases hn : negN f v
    · rw [hn, hs0, Nat.add_zero] at hvm
      rw [hvm, Bool.not_false, hs, x1]
    · rw [hn, hs] at hvm
      rw [hvm, Bool.not_true, hs0, Nat.add_zero, x2]
  obtain ⟨t1, t2, t3, t4, t5⟩ := turn_parts f v
  have hl : lowN f (turnN f v) = turnN f v := low_id f _ (sign_parts f (magN f v) (!negN f v) hm).2.2
  refine Ev.congr (fun k => by unfold annealref1_Minus.f; rfl) (Ev.bind (nans1_ev f v (by omega)) (Ev.congr (fun k => ?_) (Ev.now _)))
  rw [if_neg n4, ref_sign_f, Option.bind_some, ref_mask_f, Option.bind_some, hx, and_mask f _ t5, hl]
end Go.Proofs.Ytlkjoibpfhjhcaa.Round

/- FmaErrors: a product's own error is told by a product and sum behind it: for any two single numbers near one. -/
namespace Go.Proofs.Ytlkjoibpfhjhcaa.Pure
open Go.RowKit Go.Proofs.Ytlkjoibpfhjhcaa.P Go.Proofs.Ytlkjoibpfhjhcaa.Num Go.Proofs.Ytlkjoibpfhjhcaa.BitsF Go.Proofs.Ytlkjoibpfhjhcaa.Fmt Go.Proofs.Ytlkjoibpfhjhcaa.Round Go.Proofs.YtlkjoibpfhjhcaaW.PrintWords Go.Proofs.YtlkjoibpfhjhcaaW.PrintLast Go.Proofs.YtlkjoibpfhjhcaaW.PrintMore

theorem known5_ev : Ev (fun k => anneallaw5_known.f k) true := Ev.of anneallaw5_known.mono (k := 60) (by kernel_rfl)
/-- What is left is told, and is a nought just where nothing was lost. -/
theorem errors_all (x y : Nat) (sx sy : Bool) (hx : x = signN 2 sx ∧ sx = false ∨ ∃ e r : Nat, 125 ≤ e ∧ e < 129 ∧ r < 2 ^ 23 ∧ x = e * 2 ^ 23 + r + signN 2 sx) (hy : y = signN 2 sy ∧ sy = false ∨ ∃ e r : Nat, 125 ≤ e ∧ e < 129 ∧ r < 2 ^ 23 ∧ y = e * 2 ^ 23 + r + signN 2 sy) :
    x < 4294967296 ∧ y < 4294967296 ∧ ∃ p : Nat, ∃ ix : Bool, mulN 2 0 x y = p ∧ mulX 2 0 x y = (false, false, false, false, ix) ∧ p < 2 ^ (fe 2 + fm 2 + 1) ∧ p < 4294967296 ∧ ¬ 4 ≤ clsN 2 p ∧ clsN 2 x < 3 ∧ clsN 2 y < 3 ∧ clsN 2 (turnN 2 p) < 3 ∧
      roundedX 2 0 (trioN 2 x y (turnN 2 p)) = (false, false, false) ∧ ∃ r : Nat, r < 4294967296 ∧ roundedN 2 0 (negN 2 x != negN 2 y) (negN 2 (turnN 2 p)) (trioN 2 x y (turnN 2 p)) = r ∧ (clsN 2 r = 0 ↔ ix = false) := by
  have m2 : fm 2 = 23 := rfl
  have l2 : leastN 2 = -126 := rfl
  have t2 : topN 2 = 255 := rfl
  -- the parts of one
  have part : ∀ (v : Nat) (s : Bool), (v = signN 2 s ∧ s = false ∨ ∃ e r : Nat, 125 ≤ e ∧ e < 129 ∧ r < 2 ^ 23 ∧ v = e * 2 ^ 23 + r + signN 2 s) →
      v < 4294967296 ∧ clsN 2 v < 3 ∧ negN 2 v = s ∧ (wholeN 2 v = 0 ∨ 2 ^ 23 ≤ wholeN 2 v ∧ wholeN 2 v < 2 ^ 24 ∧ -30 ≤ lowestN 2 v ∧ lowestN 2 v ≤ -20) := by
    intro v s h
    rcases h with ⟨h, h'⟩ | ⟨e, r, h1, h2, h3, h4⟩
    · obtain ⟨z1, z2, z3⟩ := zero_all 2 s
      rw [h]
      exact ⟨z3, by rw [z1]; decide, z2, .inl (none_low 2 _ z1).2⟩
    · obtain ⟨a1, a2, a3, a4, a5, a6, a7, a8, a9⟩ := norm_all 2 s e r (by omega) (by rw [t2]; omega) (by rw [m2]; exact h3)
      rw [m2, ← h4] at a1 a4 a7 a8 a9
      refine ⟨a4, by rw [a7]; decide, a1, .inr ⟨by rw [a8]; omega, by rw [a8]; omega, ?_, ?_⟩⟩
      · rw [a9, l2]; omega
      · rw [a9, l2]; omega
  obtain ⟨xv, xc, xn, xw⟩ := part x sx hx
  obtain ⟨yv, yc, yn, yw⟩ := part y sy hy
  refine ⟨xv, yv, ?_⟩
  have ht : tornN 2 x y = false := by unfold tornN; exact decide_eq_false (by omega)
  have hmul : mulN 2 0 x y = packN 2 0 (negN 2 x != negN 2 y) (lowestN 2 x + lowestN 2 y) (wholeN 2 x * wholeN 2 y) false ∧ mulX 2 0 x y = (false, false, excN 2 0 (negN 2 x != negN 2 y) (lowestN 2 x + lowestN 2 y) (wholeN 2 x * wholeN 2 y) false) := by
    unfold mulN mulX
    rw [ht, if_neg (show ¬ (4 ≤ clsN 2 x ∨ 4 ≤ clsN 2 y) by omega), if_neg (show ¬ (4 ≤ clsN 2 x ∨ 4 ≤ clsN 2 y) by omega), if_neg (show ¬ false = true by decide), if_neg (show ¬ false = true by decide), if_neg (show ¬ (clsN 2 x = 3 ∨ clsN 2 y = 3) by omega), if_neg (show ¬ (clsN 2 x = 3 ∨ clsN 2 y = 3) by omega)]
    exact ⟨rfl, rfl⟩
  rw [hmul.1, hmul.2]
  unfold trioN
  generalize (negN 2 x != negN 2 y) = s
  by_cases z : wholeN 2 x * wholeN 2 y = 0
  · obtain ⟨q1, q2⟩ := pack_none 2 0 s (lowestN 2 x + lowestN 2 y)
    obtain ⟨z1, z2, z3⟩ := zero_all 2 s
    obtain ⟨t1, t2', t3, t4, t5⟩ := turn_parts 2 (signN 2 s)
    have hw := (none_low 2 _ z1).2
    rw [z, q1, q2]
    have hr : (exactN s (lowestN 2 x + lowestN 2 y) 0 (negN 2 (turnN 2 (signN 2 s))) (lowestN 2 (turnN 2 (signN 2 s))) (wholeN 2 (turnN 2 (signN 2 s)))).2.2 = (0, false) := by
      unfold exactN; rw [t3, hw, if_pos rfl]
    refine ⟨_, false, rfl, rfl, ?_, z3, by rw [z1]; decide, xc, yc, by rw [t2', z1]; decide, ?_, _, ?_, rfl, ?_⟩
    · have := (sign_parts 2 0 s (Nat.two_pow_pos _)).2.2; rwa [Nat.zero_add] at this
    · unfold roundedX; rw [if_pos hr]
    · unfold roundedN noughtN; rw [if_pos hr]; split <;> exact (zero_all 2 _).2.2
    · unfold roundedN noughtN
      rw [if_pos hr, t1, z2, if_neg (by cases s <;> decide)]
      exact ⟨fun _ => rfl, fun _ => (zero_all 2 _).1⟩
  · have wx : wholeN 2 x ≠ 0 := fun h => z (by rw [h, Nat.zero_mul])
    have wy : wholeN 2 y ≠ 0 := fun h => z (by rw [h, Nat.mul_zero])
    obtain ⟨x1, x2, x3, x4⟩ := xw.resolve_left wx
    obtain ⟨y1, y2, y3, y4⟩ := yw.resolve_left wy
    have w1 : 2 ^ 46 ≤ wholeN 2 x * wholeN 2 y := by
      have := Nat.mul_le_mul x1 y1
      rwa [← Nat.pow_add] at this
    have w2 : wholeN 2 x * wholeN 2 y < 2 ^ 48 := by
      have := Nat.mul_lt_mul'' x2 y2
      rwa [← Nat.pow_add] at this
    generalize wholeN 2 x * wholeN 2 y = W at *
    have hL1 : 47 ≤ lenN W := lenN_ge W 46 w1
    have hL2 : lenN W ≤ 48 := lenN_bound W 48 w2
    obtain ⟨p, ix, r1, r2, r3, r4, r5, r6, r7⟩ := mul_rest s s (!s) (lowestN 2 x + lowestN 2 y) W (lenN W) rfl hL1 hL2 z (by omega) (by omega)
    obtain ⟨t1, t2', t3, t4, t5⟩ := turn_parts 2 p
    have pv : p < 4294967296 := r3
    rw [r1, r2]
    refine ⟨p, ix, rfl, rfl, r3, pv, by omega, xc, yc, by rw [t2']; exact r4, ?_⟩
    rw [t1, t3, t4, r5]
    cases ix
    · have hr := r6 rfl
      refine ⟨by unfold roundedX; rw [if_pos hr], _, ?_, rfl, ?_⟩
      · unfold roundedN noughtN; rw [if_pos hr]; split <;> exact (zero_all 2 _).2.2
      · unfold roundedN noughtN
        rw [if_pos hr, if_neg (by cases s <;> decide)]
        exact ⟨fun _ => rfl, fun _ => (zero_all 2 _).1⟩
    · obtain ⟨sg, D, d1, d2, d3, d4⟩ := r7 rfl
      have hl1 := lenN_pos D d1
      have hl2 := lenN_bound D 24 d2
      obtain ⟨e, r, j, e1, e2, e3, e4, e5, e6, e7⟩ := exact_at 2 (lowestN 2 x + lowestN 2 y) D d1 (by rw [m2]; exact d2) (by rw [l2]; omega) (by rw [l2, t2]; omega)
      obtain ⟨a1, a2, a3, a4, a5, a6, a7, a8, a9⟩ := norm_all 2 sg e r e1 e2 e3
      rw [d3, d4, (e7 0 sg).1, (e7 0 sg).2]
      refine ⟨rfl, _, a4, rfl, ?_⟩
      rw [a7]; simp
theorem FmaErrors : anneallaw5_FmaErrors.Pure := by
  intro a0 a1 h0 h1
  obtain ⟨p0, q0⟩ := wf_u32 h0
  obtain ⟨p1, q1⟩ := wf_u32 h1
  obtain ⟨a, rfl⟩ := nat_of p0
  obtain ⟨b, rfl⟩ := nat_of p1
  obtain ⟨m, s, hm, hmr⟩ := mild_f 2 a (by omega)
  obtain ⟨n, t, hn, hnr⟩ := mild_f 2 b (by omega)
  have one : ∀ (m : Nat) (s : Bool), (m = 0 ∧ s = false ∨ (oneN 2 - 2) * 2 ^ fm 2 ≤ m ∧ m < (oneN 2 + 2) * 2 ^ fm 2) → (m + signN 2 s = signN 2 s ∧ s = false ∨ ∃ e r : Nat, 125 ≤ e ∧ e < 129 ∧ r < 2 ^ 23 ∧ m + signN 2 s = e * 2 ^ 23 + r + signN 2 s) := by
    intro m s h
    rcases h with ⟨rfl, rfl⟩ | h
    · exact .inl ⟨Nat.zero_add _, rfl⟩
    · obtain ⟨_, _, _, _, m5, m6, _, _, m9⟩ := mild_parts 2 m s h.1 h.2
      have ho : oneN 2 = 127 := by decide
      exact .inr ⟨expN 2 (m + signN 2 s), fracN 2 (m + signN 2 s), by omega, by omega, frac_lt 2 _, by rw [← show fm 2 = 23 from rfl, ← m9]⟩
  obtain ⟨xv, yv, p, ix, e1, e2, pl, pv, pc, cx, cy, ct, e3, r, rv, e4, e5⟩ := errors_all (m + signN 2 s) (n + signN 2 t) s t (one m s hmr) (one n t hnr)
  have t1 := mul_ev 2 0 _ _ xv yv
  rw [e1, e2] at t1
  have t2 := minus_ev 2 p pl pc
  have t3 := fma_ev 2 0 _ _ _ xv yv (turn_parts 2 p).2.2.2.2 cx cy ct
  rw [e3, e4] at t3
  apply Ev.rounds
  unfold anneallaw5_FmaErrors.f
  refine Ev.bind known5_ev ?_
  refine Ev.congr (fun k => by rw [if_pos rfl, hm, Option.bind_some, hn, Option.bind_some]) (Ev.bind t1 (Ev.bind t2 (Ev.bind t3 ?_)))
  dsimp only
  refine Ev.congr (fun k => by rw [if_pos (by decide)]) (Ev.bind (rclass_ev 2 r rv) (Ev.congr (fun k => ?_) (Ev.now true)))
  have e0 : (((clsN 2 r : Nat) : Int) == 0) = !ix := by
    rw [show (0 : Int) = ((0 : Nat) : Int) from rfl, beq_nn]
    cases ix
    · rw [decide_eq_true (e5.mpr rfl)]; rfl
    · rw [decide_eq_false (fun h => absurd (e5.mp h) (by decide))]; rfl
  rw [e0, beq_self_eq_true]
end Go.Proofs.Ytlkjoibpfhjhcaa.Pure
