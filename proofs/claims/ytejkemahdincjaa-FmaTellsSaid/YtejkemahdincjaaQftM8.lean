import Derived.Test.YtejkemahdincjaaQftM6
import Derived.Test.YtejkemahdincjaaQftM7
import Derived.Test.YtejkemahdincjaaQftM2
/- The reference's whole numbers of 640 bits: what its functions answer. -/
set_option linter.unusedVariables false
set_option linter.unusedSimpArgs false
namespace Go.Proofs.Ytejkemahdincjaa.Round
open Go.RowKit Go.Proofs.Ytejkemahdincjaa.P Go.Proofs.Ytejkemahdincjaa.E Go.Proofs.Ytejkemahdincjaa.Num Go.Proofs.Ytejkemahdincjaa.BitsF Go.Proofs.Ytejkemahdincjaa.Fmt Go.Proofs.YtejkemahdincjaaW.PrintWords Go.Proofs.YtejkemahdincjaaW.PrintLast Go.Proofs.YtejkemahdincjaaW.PrintMore

theorem below_l2 (xn yn : Bool) {xs ys : List Int} (hx : Lims xs) (hy : Lims ys) (j : Nat) (hj : j ≤ 10) : Ev2 (fun k n => annealref1_below.l2 k n ((j : Int) - 1) yn ys xn xs) (decide (lo xs j < lo ys j)) := by
  induction j with
  | zero => exact Ev2.step (fun k n => by rw [annealref1_below.l2_eq, if_neg (by omega), lo_none, lo_none]; rfl) (Ev2.now _)
  | succ j ih =>
    have a := lo_lt hx j
    have b := lo_lt hy j
    have q0 : (0 : Int) ≤ ((j + 1 : Nat) : Int) - 1 := by omega
    have q1 : ((j + 1 : Nat) : Int) - 1 < 10 := by omega
    have e : ((j + 1 : Nat) : Int) - 1 = (j : Int) := by omega
    refine Ev2.step (fun k n => by rw [annealref1_below.l2_eq, if_pos q0, if_pos q0, if_pos q1, if_pos q0, if_pos q1, e, hx.rd j, hy.rd j]) ?_
    rw [lo_succ, lo_succ]
    by_cases c : lim xs j = lim ys j
    · refine Ev2.congr (fun k n => by rw [if_pos (by rw [c]), w64_id _ (by omega) (by omega)]) ?_
      rw [c]
      simp only [Nat.add_lt_add_iff_right]
      exact ih (by omega)
    · refine Ev2.congr (fun k n => by rw [if_neg (by omega), if_pos (by omega), if_pos (by omega), if_pos (by omega), if_pos (by omega)]) ?_
      have h : decide ((lim xs j : Int) < (lim ys j : Int)) = decide (lo xs j + lim xs j * 2 ^ (64 * j) < lo ys j + lim ys j * 2 ^ (64 * j)) := by
        apply decide_eq_decide.mpr
        rcases Nat.lt_or_gt_of_ne c with c | c
        · have := Nat.mul_le_mul_right (2 ^ (64 * j)) (show lim xs j + 1 ≤ lim ys j from c)
          rw [Nat.add_mul] at this; omega
        · have := Nat.mul_le_mul_right (2 ^ (64 * j)) (show lim ys j + 1 ≤ lim xs j from c)
          rw [Nat.add_mul] at this; omega
      rw [← h]; exact Ev2.now _
theorem below_ev (xn yn : Bool) {xs ys : List Int} (hx : Lims xs) (hy : Lims ys) : Ev (fun n => E.annealref1_below.f n xn xs yn ys) (decide (lo xs 10 < lo ys 10)) :=
  Ev.congr (fun n => annealref1_below.eq n xn xs yn ys) (below_l2 xn yn hx hy 10 (by decide)).diag

theorem limb_sub (x y b : Nat) (hx : x < 18446744073709551616) (hy : y < 18446744073709551616) (hb : b ≤ 1) :
    ∃ d c : Nat, d < 18446744073709551616 ∧ c ≤ 1 ∧ d + y + b = x + c * 18446744073709551616 ∧ IntKind.u64.wrap (IntKind.u64.wrap ((x : Int) - (y : Int)) - (b : Int)) = (d : Int) ∧
      (c = 1 ↔ ((x : Int) < (y : Int) ∨ IntKind.u64.wrap ((x : Int) - (y : Int)) < (b : Int))) := by
  rw [u64_wrap, u64_wrap]
  by_cases c : x < y + b
  · exact ⟨x + 18446744073709551616 - y - b, 1, by omega, by omega, by omega, by omega, by omega⟩
  · exact ⟨x - y - b, 0, by omega, by omega, by omega, by omega, by omega⟩
theorem limb_add (x y b : Nat) (hx : x < 18446744073709551616) (hy : y < 18446744073709551616) (hb : b ≤ 1) :
    ∃ d c : Nat, d < 18446744073709551616 ∧ c ≤ 1 ∧ x + y + b = d + c * 18446744073709551616 ∧ IntKind.u64.wrap (IntKind.u64.wrap ((x : Int) + (y : Int)) + (b : Int)) = (d : Int) ∧
      (c = 1 ↔ (IntKind.u64.wrap ((x : Int) + (y : Int)) < (x : Int) ∨ IntKind.u64.wrap (IntKind.u64.wrap ((x : Int) + (y : Int)) + (b : Int)) < IntKind.u64.wrap ((x : Int) + (y : Int)))) := by
  rw [u64_wrap, u64_wrap]
  by_cases c : x + y + b < 18446744073709551616
  · exact ⟨x + y + b, 0, by omega, by omega, by omega, by omega, by omega⟩
  · exact ⟨x + y + b - 18446744073709551616, 1, by omega, by omega, by omega, by omega, by omega⟩
theorem minus_l5 (ln xn yn : Bool) (z : List Int) {xs ys : List Int} (hx : Lims xs) (hy : Lims ys) (m : Nat) : ∀ (i : Nat) (b : Nat) (L : List Int), i + m = 10 → Lims L → b ≤ 1 → lo L i + lo ys i = lo xs i + b * 2 ^ (64 * i) → (∀ j, i ≤ j → lim L j = lim xs j) →
    ∃ (R : List Int) (c : Nat), Ev2 (fun k n => annealref1_minus.l5 k n (i : Int) (b : Int) ln z yn ys xn L) (xn, R) ∧ Lims R ∧ lo R 10 + lo ys 10 = lo xs 10 + c * T640 := by
  induction m with
  | zero =>
    intro i b L hi hL hb h1 h2
    obtain rfl : i = 10 := by omega
    exact ⟨L, b, Ev2.step (fun k n => by rw [annealref1_minus.l5_eq, if_neg (by omega)]) (Ev2.now _), hL, by rw [← T640_eq]; exact h1⟩
  | succ m ih =>
    intro i b L hi hL hb h1 h2
    have i1 : (i : Int) < 10 := by omega
    have i0 : (0 : Int) ≤ (i : Int) := by omega
    have e := h2 i (Nat.le_refl _)
    obtain ⟨d, c, d1, c1, d2, d3, d4⟩ := limb_sub (lim xs i) (lim ys i) b (hx.lt i) (hy.lt i) hb
    have hlen : i < L.length := by rw [hL.len]; omega
    have key : lo (L.set i (d : Int)) (i + 1) + lo ys (i + 1) = lo xs (i + 1) + c * 2 ^ (64 * (i + 1)) := by
      rw [lo_succ, lo_succ, lo_succ, lo_set L i _ hlen, lim_set L i i _ hlen, if_pos rfl, Int.toNat_natCast, show 64 * (i + 1) = 64 * i + 64 by omega, Nat.pow_add, show (2 : Nat) ^ 64 = 18446744073709551616 by decide, Nat.mul_comm (2 ^ (64 * i)), ← Nat.mul_assoc]
      have := congrArg (· * 2 ^ (64 * i)) d2
      simp only [Nat.add_mul] at this
      omega
    obtain ⟨R, q, r1, r2, r3⟩ := ih (i + 1) c (L.set i (d : Int)) (by omega) (hL.set i d (by omega) d1) c1 key (fun j hj => by rw [lim_set L i j _ hlen, if_neg (by omega)]; exact h2 j (by omega))
    refine ⟨R, q, ?_, r2, r3⟩
    refine Ev2.step (fun k n => by
      rw [annealref1_minus.l5_eq, if_pos i1, if_pos i0, if_pos i1, if_pos i0, if_pos i1, if_pos i0, if_pos i1, if_pos i0, if_pos i1, hL.rd i, hy.rd i, e, d3, Int.toNat_natCast, w64_id _ (by omega) (by omega), if_pos i0, if_pos i1]) ?_
    rw [show ((i : Int) + 1) = ((i + 1 : Nat) : Int) by omega]
    rcases Nat.lt_or_ge c 1 with c0 | c0
    · obtain rfl : c = 0 := by omega
      refine Ev2.congr (fun k n => by rw [if_neg (fun h => absurd (d4.mpr (.inl h)) (by decide)), if_neg (fun h => absurd (d4.mpr (.inr h)) (by decide)), if_pos i0, if_pos i1]) ?_
      exact r1
    · obtain rfl : c = 1 := by omega
      refine Ev2.congr (fun k n => ?_) r1
      by_cases t : (lim xs i : Int) < (lim ys i : Int)
      · rw [if_pos t]; rfl
      · rw [if_neg t, if_pos ((d4.mp rfl).resolve_left t)]; rfl
theorem plus_l5 (ln xn yn : Bool) (z : List Int) {xs ys : List Int} (hx : Lims xs) (hy : Lims ys) (m : Nat) : ∀ (i : Nat) (b : Nat) (L : List Int), i + m = 10 → Lims L → b ≤ 1 → lo L i + b * 2 ^ (64 * i) = lo xs i + lo ys i → (∀ j, i ≤ j → lim L j = lim xs j) →
    ∃ (R : List Int) (c : Nat), Ev2 (fun k n => annealref1_plus.l5 k n (i : Int) (b : Int) ln z yn ys xn L) (xn, R) ∧ Lims R ∧ lo R 10 + c * T640 = lo xs 10 + lo ys 10 := by
  induction m with
  | zero =>
    intro i b L hi hL hb h1 h2
    obtain rfl : i = 10 := by omega
    exact ⟨L, b, Ev2.step (fun k n => by rw [annealref1_plus.l5_eq, if_neg (by omega)]) (Ev2.now _), hL, by rw [← T640_eq]; exact h1⟩
  | succ m ih =>
    intro i b L hi hL hb h1 h2
    have i1 : (i : Int) < 10 := by omega
    have i0 : (0 : Int) ≤ (i : Int) := by omega
    have e := h2 i (Nat.le_refl _)
    obtain ⟨d, c, d1, c1, d2, d3, d4⟩ := limb_add (lim xs i) (lim ys i) b (hx.lt i) (hy.lt i) hb
    have hlen : i < L.length := by rw [hL.len]; omega
    have key : lo (L.set i (d : Int)) (i + 1) + c * 2 ^ (64 * (i + 1)) = lo xs (i + 1) + lo ys (i + 1) := by
      rw [lo_succ, lo_succ, lo_succ, lo_set L i _ hlen, lim_set L i i _ hlen, if_pos rfl, Int.toNat_natCast, show 64 * (i + 1) = 64 * i + 64 by omega, Nat.pow_add, show (2 : Nat) ^ 64 = 18446744073709551616 by decide, Nat.mul_comm (2 ^ (64 * i)), ← Nat.mul_assoc]
      have := congrArg (· * 2 ^ (64 * i)) d2
      simp only [Nat.add_mul] at this
      omega
    obtain ⟨R, q, r1, r2, r3⟩ := ih (i + 1) c (L.set i (d : Int)) (by omega) (hL.set i d (by omega) d1) c1 key (fun j hj => by rw [lim_set L i j _ hlen, if_neg (by omega)]; exact h2 j (by omega))
    refine ⟨R, q, ?_, r2, r3⟩
    refine Ev2.step (fun k n => by
      rw [annealref1_plus.l5_eq, if_pos i1, if_pos i0, if_pos i1, if_pos i0, if_pos i1, if_pos i0, if_pos i1, hL.rd i, hy.rd i, e, d3, Int.toNat_natCast, w64_id _ (by omega) (by omega), if_pos i0, if_pos i1]) ?_
    rw [show ((i : Int) + 1) = ((i + 1 : Nat) : Int) by omega]
    rw [d3] at d4
    rcases Nat.lt_or_ge c 1 with c0 | c0
    · obtain rfl : c = 0 := by omega
      refine Ev2.congr (fun k n => by rw [if_neg (fun h => absurd (d4.mpr (.inl h)) (by decide)), if_neg (fun h => absurd (d4.mpr (.inr h)) (by decide)), if_pos i0, if_pos i1]) ?_
      exact r1
    · obtain rfl : c = 1 := by omega
      refine Ev2.congr (fun k n => ?_) r1
      by_cases t : IntKind.u64.wrap ((lim xs i : Int) + (lim ys i : Int)) < (lim xs i : Int)
      · rw [if_pos t]; rfl
      · rw [if_neg t, if_pos ((d4.mp rfl).resolve_left t)]; rfl
theorem wminus_ev (xn yn : Bool) {xs ys : List Int} (hx : Lims xs) (hy : Lims ys) : ∃ R, Lims R ∧ lo R 10 = (if lo xs 10 < lo ys 10 then lo ys 10 - lo xs 10 else lo xs 10 - lo ys 10) ∧
    Ev (fun n => E.annealref1_minus.f n xn xs yn ys) ((if lo xs 10 < lo ys 10 then yn else xn), R) := by
  have hb := below_ev xn yn hx hy
  have fin : ∀ (R : List Int) (c X Y : Nat), Lims R → lo R 10 + Y = X + c * T640 → Y ≤ X → lo R 10 = X - Y := by
    intro R c X Y hR h hle
    have hl := lo_top hR
    rcases Nat.eq_zero_or_pos c with c0 | c0
    · rw [c0, Nat.zero_mul] at h; omega
    · have : 1 * T640 ≤ _ := Nat.mul_le_mul_right T640 c0
      rw [Nat.one_mul] at this; omega
  by_cases c : lo xs 10 < lo ys 10
  · obtain ⟨R, q, r1, r2, r3⟩ := minus_l5 false yn xn (0 :: List.replicate 9 0) hy hx 10 0 0 ys (by decide) hy (by decide) (by rw [lo_none, lo_none]) (fun _ _ => rfl)
    refine ⟨R, r2, by rw [if_pos c]; exact fin R q _ _ r2 r3 (by omega), ?_⟩
    refine Ev.congr (fun n => annealref1_minus.eq n xn xs yn ys) (Ev.bind hb ?_)
    rw [if_pos c, decide_eq_true c]
    exact Ev.congr (fun n => by rw [if_pos rfl]; rfl) r1.diag
  · obtain ⟨R, q, r1, r2, r3⟩ := minus_l5 false xn yn (0 :: List.replicate 9 0) hx hy 10 0 0 xs (by decide) hx (by decide) (by rw [lo_none, lo_none]) (fun _ _ => rfl)
    refine ⟨R, r2, by rw [if_neg c]; exact fin R q _ _ r2 r3 (by omega), ?_⟩
    refine Ev.congr (fun n => annealref1_minus.eq n xn xs yn ys) (Ev.bind hb ?_)
    rw [if_neg c, decide_eq_false c]
    exact Ev.congr (fun n => by rw [if_neg (by decide)]; rfl) r1.diag
theorem plus_same (xn : Bool) {xs ys : List Int} (hx : Lims xs) (hy : Lims ys) (h : lo xs 10 + lo ys 10 < T640) : ∃ R, Lims R ∧ lo R 10 = lo xs 10 + lo ys 10 ∧
    Ev (fun n => E.annealref1_plus.f n xn xs xn ys) (xn, R) := by
  obtain ⟨R, q, r1, r2, r3⟩ := plus_l5 false xn xn (0 :: List.replicate 9 0) hx hy 10 0 0 xs (by decide) hx (by decide) (by rw [lo_none, lo_none]) (fun _ _ => rfl)
  refine ⟨R, r2, ?_, ?_⟩
  · rcases Nat.eq_zero_or_pos q with c0 | c0
    · rw [c0, Nat.zero_mul, Nat.add_zero] at r3; exact r3
    · have : 1 * T640 ≤ _ := Nat.mul_le_mul_right T640 c0
      rw [Nat.one_mul] at this; omega
  · exact Ev.congr (fun n => by rw [annealref1_plus.eq, if_pos (beq_self_eq_true _)]; rfl) r1.diag
theorem plus_diff (xn yn : Bool) (e : xn ≠ yn) {xs ys : List Int} (hx : Lims xs) (hy : Lims ys) : ∃ R, Lims R ∧ lo R 10 = (if lo xs 10 < lo ys 10 then lo ys 10 - lo xs 10 else lo xs 10 - lo ys 10) ∧
    Ev (fun n => E.annealref1_plus.f n xn xs yn ys) ((if lo xs 10 < lo ys 10 then yn else xn), R) := by
  obtain ⟨R, r1, r2, r3⟩ := wminus_ev xn yn hx hy
  refine ⟨R, r1, r2, ?_⟩
  refine Ev.congr (fun n => by rw [annealref1_plus.eq, if_neg (by rw [beq_iff_eq]; exact e)]) (Ev.bind r3 (Ev.now _))
theorem plus_ev (xn yn : Bool) {xs ys : List Int} (hx : Lims xs) (hy : Lims ys) (h : lo xs 10 + lo ys 10 < T640) : ∃ R, Lims R ∧ lo R 10 = (wideN xn (lo xs 10) yn (lo ys 10)).2 ∧
    Ev (fun n => E.annealref1_plus.f n xn xs yn ys) ((wideN xn (lo xs 10) yn (lo ys 10)).1, R) := by
  by_cases e : xn = yn
  · subst e
    obtain ⟨R, r1, r2, r3⟩ := plus_same xn hx hy h
    have w : wideN xn (lo xs 10) xn (lo ys 10) = (xn, lo xs 10 + lo ys 10) := if_pos rfl
    rw [w]
    exact ⟨R, r1, r2, r3⟩
  · obtain ⟨R, r1, r2, r3⟩ := plus_diff xn yn e hx hy
    have w : wideN xn (lo xs 10) yn (lo ys 10) = ((if lo xs 10 < lo ys 10 then yn else xn), (if lo xs 10 < lo ys 10 then lo ys 10 - lo xs 10 else lo xs 10 - lo ys 10)) := by
      unfold wideN
      rw [if_neg e]
      split <;> rfl
    rw [w]
    exact ⟨R, r1, r2, r3⟩
theorem spread_ev (neg : Bool) (e : Int) (s : Nat) (h1 : -298 ≤ e) (h2 : e ≤ 250) (hs : s < 1152921504606846976) : ∃ R, Lims R ∧ lo R 10 = s * 2 ^ (e + 298).toNat ∧ Ev (fun n => E.annealref1_spread.f n neg e (s : Int)) (neg, R) := by
  obtain ⟨a, ha⟩ : ∃ a : Nat, e + 298 = (a : Int) := ⟨(e + 298).toNat, by omega⟩
  have hz := lims_zero
  have at1 : wrap64 (e + 298) = (a : Int) := by rw [w64_id _ (by omega) (by omega)]; exact ha
  have at2 : Int.tmod (a : Int) 64 = ((a % 64 : Nat) : Int) := by rw [Int.tmod_eq_emod_of_nonneg (by omega)]; omega
  have at3 : wrap64 (Int.tdiv (a : Int) 64) = ((a / 64 : Nat) : Int) := by rw [Int.tdiv_eq_ediv_of_nonneg (by omega), w64_id _ (by omega) (by omega)]; omega
  have hq : a / 64 ≤ 8 := by omega
  have hr : a % 64 < 64 := Nat.mod_lt _ (by decide)
  have hm : a = 64 * (a / 64) + a % 64 := by omega
  have ev : s * 2 ^ (e + 298).toNat = s * 2 ^ (a % 64) * 2 ^ (64 * (a / 64)) := by
    rw [Nat.mul_assoc, ← Nat.pow_add]; congr 2; omega
  rw [ev]
  have l0 : (List.replicate 10 (0 : Int)).length = 10 := rfl
  have z0 : lo (List.replicate 10 (0 : Int)) 10 = 0 := (lo_zero 10).mpr fun i _ => lim_zero i
  generalize hqq : a / 64 = q at *
  generalize hrr : a % 64 = r at *
  have iq : q < 10 := by omega
  have iq1 : q + 1 < 10 := by omega
  have iqn : ¬ q + 1 = q := by omega
  have i1 : (0 : Int) ≤ (r : Int) := by omega
  have i2 : (0 : Int) ≤ (q : Int) := by omega
  have i3 : (q : Int) < 10 := by omega
  have hs64 : s < 18446744073709551616 := by omega
  have M : s * 2 ^ r % 18446744073709551616 < 18446744073709551616 := Nat.mod_lt _ (by decide)
  have b1 := hz.set q (s * 2 ^ r % 18446744073709551616) iq M
  have b2 := lo_set0 (List.replicate 10 (0 : Int)) q (s * 2 ^ r % 18446744073709551616) (by rw [l0]; exact iq) (lim_zero q) 10 iq
  rw [z0, Nat.zero_add] at b2
  by_cases r0 : r = 0
  · have i4 : ¬ (0 : Int) < (r : Int) := by omega
    refine ⟨_, b1, ?_, Ev.congr (fun n => annealref1_spread.eq n neg e (s : Int)) (Ev.congr (fun n => ?_) (Ev.now _))⟩
    · rw [b2, r0, Nat.pow_zero, Nat.mul_one, Nat.mod_eq_of_lt (by omega)]
    · rw [at1, at2, at3, if_pos i1, if_pos i2, if_pos i3, if_neg i4, shl_u64, Int.toNat_natCast]
  · have i4 : (0 : Int) < (r : Int) := by omega
    have i5 : (q : Int) < 9 := by omega
    have i6 : (0 : Int) ≤ ((64 - r : Nat) : Int) := by omega
    have i7 : (0 : Int) ≤ ((q + 1 : Nat) : Int) := by omega
    have i8 : ((q + 1 : Nat) : Int) < 10 := by omega
    have S : s / 2 ^ (64 - r) < 18446744073709551616 := Nat.lt_of_le_of_lt (Nat.div_le_self _ _) (by omega)
    have b3 := b1.set (q + 1) (s / 2 ^ (64 - r)) iq1 S
    have l1 : (List.set (List.replicate 10 (0 : Int)) q ((s * 2 ^ r % 18446744073709551616 : Nat) : Int)).length = 10 := by rw [List.length_set]; rfl
    have b4 := lo_set0 (List.set (List.replicate 10 (0 : Int)) q ((s * 2 ^ r % 18446744073709551616 : Nat) : Int)) (q + 1) (s / 2 ^ (64 - r)) (by rw [l1]; exact iq1) (by rw [lim_set _ _ _ _ (by rw [l0]; exact iq), if_neg iqn]; exact lim_zero _) 10 iq1
    refine ⟨_, b3, ?_, Ev.congr (fun n => annealref1_spread.eq n neg e (s : Int)) (Ev.congr (fun n => ?_) (Ev.now _))⟩
    · rw [b4, b2, show 64 * (q + 1) = 64 + 64 * q by omega, Nat.pow_add, ← Nat.mul_assoc, ← Nat.add_mul]
      refine congrArg (· * 2 ^ (64 * q)) ?_
      have h64 : (2 : Nat) ^ 64 = 18446744073709551616 := by decide
      have hd : s * 2 ^ r / 18446744073709551616 = s / 2 ^ (64 - r) := by
        rw [← h64, show (2 : Nat) ^ 64 = 2 ^ (64 - r) * 2 ^ r by rw [← Nat.pow_add]; congr 1; omega]
        exact Nat.mul_div_mul_right _ _ (Nat.two_pow_pos r)
      rw [← hd, h64]
      have := Nat.div_add_mod (s * 2 ^ r) 18446744073709551616
      clear b1 b2 b3 b4 ev
      generalize s * 2 ^ r = Q at *
      omega
    · have t1 : wrap64 (64 - (r : Int)) = ((64 - r : Nat) : Int) := by rw [w64_id _ (by omega) (by omega)]; omega
      have t2 : wrap64 ((q : Int) + 1) = ((q + 1 : Nat) : Int) := by rw [w64_id _ (by omega) (by omega)]; omega
      rw [at1, at2, at3, if_pos i1, if_pos i2, if_pos i3, if_pos i4, if_pos i5, t1, t2, if_pos i6, if_pos i7, if_pos i8, shl_u64, shr_u64 _ _ hs64, Int.toNat_natCast, Int.toNat_natCast]
def anyL (xs : List Int) : Nat → Nat → Bool
  | _, 0 => false
  | j, m + 1 => decide (lim xs j ≠ 0) || anyL xs (j + 1) m
theorem anyL_false (xs : List Int) (m : Nat) : ∀ j, anyL xs j m = false ↔ ∀ q, j ≤ q → q < j + m → lim xs q = 0 := by
  induction m with
  | zero => exact fun j => ⟨fun _ q h1 h2 => by omega, fun _ => rfl⟩
  | succ m ih =>
    intro j
    unfold anyL
    rw [Bool.or_eq_false_iff, ih (j + 1), decide_eq_false_iff_not]
    constructor
    · rintro ⟨h1, h2⟩ q h3 h4
      by_cases c : q = j
      · rw [c]; exact Decidable.not_not.mp h1
      · exact h2 q (by omega) (by omega)
    · intro h
      exact ⟨fun c => c (h j (Nat.le_refl _) (by omega)), fun q h1 h2 => h q (by omega) (by omega)⟩
theorem anyL_lo (xs : List Int) (m : Nat) : anyL xs 0 m = decide (lo xs m ≠ 0) := by
  cases h : anyL xs 0 m
  · have := (anyL_false xs m 0).mp h
    rw [decide_eq_false (show ¬ lo xs m ≠ 0 from fun c => c ((lo_zero m).mpr fun i hi => this i (Nat.zero_le _) (by omega)))]
  · have hne : lo xs m ≠ 0 := fun c => by
      have := (anyL_false xs m 0).mpr (fun q _ hq => (lo_zero m).mp c q (by omega))
      rw [h] at this; cases this
    rw [decide_eq_true hne]
theorem rounded_l19 (f mode e sig top : Int) (i : Nat) (neg c0 c1 c2 c3 c4 : Bool) {xs : List Int} (hx : Lims xs) (r : Int × Bool × Bool × Bool × Bool × Bool) (ht : top = (i : Int) + 1) (hi : i < 10) (m : Nat) : ∀ (j : Nat) (more : Bool), j + m = i →
    Ev (fun n => (annealref1_Pack.f n f mode neg e sig (more || anyL xs j m))) r →
    Ev2 (fun k n => annealref1_rounded.l19 k n (j : Int) more e sig top mode f c0 c1 c2 c3 c4 neg xs) r := by
  induction m with
  | zero =>
    intro j more hj h
    obtain rfl : j = i := by omega
    have h : Ev (fun n => annealref1_Pack.f n f mode neg e sig (more || false)) r := h
    rw [Bool.or_false] at h
    refine Ev2.step (fun k n => by rw [annealref1_rounded.l19_eq, ht, w64_id _ (by omega) (by omega), if_neg (by omega)]) ?_
    exact Ev2.bind h (Ev2.now _)
  | succ m ih =>
    intro j more hj h
    have j0 : (0 : Int) ≤ (j : Int) := by omega
    have j1 : (j : Int) < 10 := by omega
    have next : ∀ b : Bool, (more || anyL xs j (m + 1)) = (b || anyL xs (j + 1) m) → Ev2 (fun k n => annealref1_rounded.l19 k n ((j + 1 : Nat) : Int) b e sig top mode f c0 c1 c2 c3 c4 neg xs) r := fun b hb => ih (j + 1) b (by omega) (by rw [← hb]; exact h)
    have hw : wrap64 ((j : Int) + 1) = ((j + 1 : Nat) : Int) := by rw [w64_id _ (by omega) (by omega)]; omega
    refine Ev2.step (fun k n => by rw [annealref1_rounded.l19_eq, ht, w64_id ((i : Int) + 1 - 1) (by omega) (by omega), if_pos (by omega), hw, ← ht]) ?_
    cases more
    · refine Ev2.congr (fun k n => by rw [if_neg (by decide), if_pos j0, if_pos j1, hx.rd j]) ?_
      by_cases z : lim xs j = 0
      · rw [z]
        refine next false ?_
        show (false || (decide (lim xs j ≠ 0) || anyL xs (j + 1) m)) = _
        rw [z]; rfl
      · have hb : ((lim xs j : Int) == 0) = false := beq_eq_false_iff_ne.mpr (by omega)
        rw [hb]
        refine next true ?_
        show (false || (decide (lim xs j ≠ 0) || anyL xs (j + 1) m)) = _
        rw [decide_eq_true z]; rfl
    · exact Ev2.congr (fun k n => by rw [if_pos rfl]) (next true rfl)
theorem rounded_low (f mode : Int) (i : Nat) (neg : Bool) {xs : List Int} (hx : Lims xs) (hi : i + 1 < 10) (h0 : lim xs (i + 1) ≠ 0) :
    packN f mode neg (-298) (lo xs (i + 2)) false = packN f mode neg (64 * ((i : Int) + 1) - 298 - (64 - (lenN (lim xs (i + 1)) : Int))) (lim xs (i + 1) * 2 ^ (64 - lenN (lim xs (i + 1))) + lim xs i / 2 ^ lenN (lim xs (i + 1))) (decide (lim xs i % 2 ^ lenN (lim xs (i + 1)) ≠ 0) || decide (lo xs i ≠ 0)) ∧
    excN f mode neg (-298) (lo xs (i + 2)) false = excN f mode neg (64 * ((i : Int) + 1) - 298 - (64 - (lenN (lim xs (i + 1)) : Int))) (lim xs (i + 1) * 2 ^ (64 - lenN (lim xs (i + 1))) + lim xs i / 2 ^ lenN (lim xs (i + 1))) (decide (lim xs i % 2 ^ lenN (lim xs (i + 1)) ≠ 0) || decide (lo xs i ≠ 0)) ∧
    lim xs (i + 1) * 2 ^ (64 - lenN (lim xs (i + 1))) + lim xs i / 2 ^ lenN (lim xs (i + 1)) < 18446744073709551616 := by
  have hb := fbounds f
  have hp : 2 ^ (fm f + 1) ≤ 2 ^ 24 := Nat.pow_le_pow_right (by decide) (by omega)
  have hl := lo_lt hx i
  have ha := hx.lt (i + 1)
  have hc := hx.lt i
  rw [lo_succ, lo_succ]
  generalize lo xs i = W at *
  generalize lim xs (i + 1) = a at *
  generalize lim xs i = c at *
  have n1 := lenN_bound a 64 ha
  have n2 := lenN_pos a h0
  have n3 := lenN_le a h0
  have n4 := lenN_lt a
  generalize lenN a = n at *
  have pk : 2 ^ n * 2 ^ (64 - n) = 18446744073709551616 := by
    rw [← Nat.pow_add, show n + (64 - n) = 64 by omega]
  have pn := Nat.two_pow_pos n
  have pk0 := Nat.two_pow_pos (64 - n)
  have cd : c / 2 ^ n < 2 ^ (64 - n) := (Nat.div_lt_iff_lt_mul pn).mpr (by rw [Nat.mul_comm, pk]; exact hc)
  have cm := Nat.mod_lt c pn
  have cdm := Nat.div_add_mod c (2 ^ n)
  have a63 : 9223372036854775808 ≤ a * 2 ^ (64 - n) := by
    have h := Nat.mul_le_mul_right (2 ^ (64 - n)) n3
    rw [← Nat.pow_add, show n - 1 + (64 - n) = 63 by omega] at h
    have : (2 : Nat) ^ 63 = 9223372036854775808 := by decide
    omega
  have a64 : a * 2 ^ (64 - n) + 2 ^ (64 - n) ≤ 18446744073709551616 := by
    have h := Nat.mul_le_mul_right (2 ^ (64 - n)) n4
    rw [pk, Nat.succ_mul] at h; exact h
  have e : W + c * 2 ^ (64 * i) + a * 2 ^ (64 * (i + 1)) = (a * 2 ^ (64 - n) + c / 2 ^ n) * 2 ^ (n + 64 * i) + (c % 2 ^ n * 2 ^ (64 * i) + W) := by
    rw [Nat.pow_add, show 64 * (i + 1) = 64 + 64 * i by omega, Nat.pow_add, show (2 : Nat) ^ 64 = 2 ^ n * 2 ^ (64 - n) by rw [pk], ← Nat.mul_assoc, ← Nat.mul_assoc, ← Nat.mul_assoc, Nat.add_mul]
    have h1 : c * 2 ^ (64 * i) = c / 2 ^ n * 2 ^ n * 2 ^ (64 * i) + c % 2 ^ n * 2 ^ (64 * i) := by
      rw [← Nat.add_mul, Nat.mul_comm (c / 2 ^ n), cdm]
    rw [h1, Nat.add_mul, Nat.mul_right_comm a (2 ^ n)]
    generalize a * 2 ^ (64 - n) * 2 ^ n * 2 ^ (64 * i) = Z1
    generalize c / 2 ^ n * 2 ^ n * 2 ^ (64 * i) = Z2
    generalize c % 2 ^ n * 2 ^ (64 * i) = Z3
    omega
  have small : c % 2 ^ n * 2 ^ (64 * i) + W < 2 ^ (n + 64 * i) := by
    have h := Nat.mul_le_mul_right (2 ^ (64 * i)) (show c % 2 ^ n + 1 ≤ 2 ^ n from cm)
    rw [Nat.add_mul, Nat.one_mul, ← Nat.pow_add] at h
    exact Nat.lt_of_lt_of_le (Nat.add_lt_add_left hl _) h
  obtain ⟨q1, q2⟩ := pack_refine f mode neg (-298) (a * 2 ^ (64 - n) + c / 2 ^ n) (c % 2 ^ n * 2 ^ (64 * i) + W) (n + 64 * i) false small (Nat.le_trans hp (Nat.le_trans (show 2 ^ 24 ≤ a * 2 ^ (64 - n) by omega) (Nat.le_add_right _ _)))
  have t : decide (c % 2 ^ n * 2 ^ (64 * i) + W ≠ 0) = (decide (c % 2 ^ n ≠ 0) || decide (W ≠ 0)) := by
    have pi := Nat.two_pow_pos (64 * i)
    by_cases c0 : c % 2 ^ n = 0
    · rw [c0, Nat.zero_mul, Nat.zero_add]; simp
    · have : c % 2 ^ n * 2 ^ (64 * i) ≠ 0 := Nat.mul_ne_zero c0 (by omega)
      rw [decide_eq_true (show c % 2 ^ n * 2 ^ (64 * i) + W ≠ 0 by omega), decide_eq_true (show c % 2 ^ n ≠ 0 from c0)]; rfl
  rw [e, q1, q2, Bool.false_or, t, show (-298 : Int) + ((n + 64 * i : Nat) : Int) = 64 * ((i : Int) + 1) - 298 - (64 - (n : Int)) by omega]
  exact ⟨rfl, rfl, by omega⟩
theorem wide_exp (i L : Nat) (hi : i < 10) (h1 : L ≤ 64) : wrap64 (wrap64 (wrap64 (64 * ((i + 1 : Nat) : Int)) - 298) - ((64 - L : Nat) : Int)) = 64 * ((i : Int) + 1) - 298 - (64 - (L : Int)) ∧ -10000 ≤ 64 * ((i : Int) + 1) - 298 - (64 - (L : Int)) ∧ 64 * ((i : Int) + 1) - 298 - (64 - (L : Int)) ≤ 10000 := by
  rw [w64_id (64 * _) (by omega) (by omega), w64_id (64 * _ - 298) (by omega) (by omega), w64_id _ (by omega) (by omega)]; omega
theorem full_more (c : Nat) (hc : c < 18446744073709551616) : (!((c : Int) == 0)) = decide (c % 2 ^ 64 ≠ 0) := by
  rw [show c % 2 ^ 64 = c from Nat.mod_eq_of_lt (by rw [show (2 : Nat) ^ 64 = 18446744073709551616 by decide]; exact hc)]
  by_cases c0 : c = 0
  · rw [c0]; rfl
  · rw [beq_eq_false_iff_ne.mpr (show (c : Int) ≠ 0 by omega), decide_eq_true c0]; rfl
theorem full_sig (a c : Nat) (hc : c < 18446744073709551616) : a * 2 ^ (64 - 64) + c / 2 ^ 64 = a := by
  rw [Nat.div_eq_of_lt (by rw [show (2 : Nat) ^ 64 = 18446744073709551616 by decide]; exact hc), Nat.sub_self, Nat.pow_zero, Nat.mul_one, Nat.add_zero]
theorem part_sig (a c L : Nat) (hL : L ≤ 64) (hc : c < 18446744073709551616) (n4 : a < 2 ^ L) : Go.bits .or .u64 (shl .u64 (a : Int) ((64 - L : Nat) : Int)) (shr .u64 (c : Int) (L : Int)) = ((a * 2 ^ (64 - L) + c / 2 ^ L : Nat) : Int) := by
  have e64 : L + (64 - L) = 64 := by clear n4 hc; omega
  have pn := Nat.two_pow_pos L
  have cd : c / 2 ^ L < 2 ^ (64 - L) := (Nat.div_lt_iff_lt_mul pn).mpr (by
    rw [← Nat.pow_add, Nat.add_comm, e64]; exact hc)
  have a64 : a * 2 ^ (64 - L) < 18446744073709551616 := by
    have h := Nat.mul_lt_mul_of_pos_right n4 (Nat.two_pow_pos (64 - L))
    rw [← Nat.pow_add, e64] at h; exact h
  rw [shl_u64, shr_u64 _ _ hc, Nat.mod_eq_of_lt a64, or_u64 _ _ a64 (Nat.lt_of_le_of_lt (Nat.div_le_self _ _) hc), or_add _ _ (64 - L) (Nat.mul_mod_left _ _) cd]
theorem part_more (c L : Nat) (hL : L ≤ 64) : (!(shl .u64 (c : Int) ((64 - L : Nat) : Int) == 0)) = decide (c % 2 ^ L ≠ 0) := by
  have e64 : L + (64 - L) = 64 := by omega
  have h1 : c * 2 ^ (64 - L) % 18446744073709551616 = c % 2 ^ L * 2 ^ (64 - L) := by
    rw [show (18446744073709551616 : Nat) = 2 ^ L * 2 ^ (64 - L) by rw [← Nat.pow_add, e64]]
    exact Nat.mul_mod_mul_right _ _ _
  rw [shl_u64, h1]
  by_cases c0 : c % 2 ^ L = 0
  · rw [c0, Nat.zero_mul]; rfl
  · have : c % 2 ^ L * 2 ^ (64 - L) ≠ 0 := Nat.mul_ne_zero c0 (Nat.ne_of_gt (Nat.two_pow_pos _))
    rw [beq_eq_false_iff_ne.mpr (show ((c % 2 ^ L * 2 ^ (64 - L) : Nat) : Int) ≠ 0 from fun e => this (Int.ofNat.inj e)), decide_eq_true c0]; rfl
theorem len_small (L : Nat) (n1 : L ≤ 64) : wrap64 (64 - (L : Int)) = ((64 - L : Nat) : Int) ∧ (0 : Int) ≤ (L : Int) ∧ (0 : Int) ≤ ((64 - L : Nat) : Int) := by
  rw [w64_id _ (by omega) (by omega)]; omega
theorem idx_small (i : Nat) (h : i + 1 < 10) : (0 : Int) ≤ ((i + 1 : Nat) : Int) ∧ ((i + 1 : Nat) : Int) < 10 ∧ (0 : Int) < ((i + 1 : Nat) : Int) ∧ wrap64 (((i + 1 : Nat) : Int) - 1) = (i : Int) ∧ (0 : Int) ≤ (i : Int) ∧ (i : Int) < 10 ∧ ((i + 1 : Nat) : Int) = (i : Int) + 1 := by
  rw [w64_id _ (by omega) (by omega)]; omega
theorem natCast_ne {a : Nat} (h : a ≠ 0) : ¬ ((a : Int) = 0) := by omega
theorem rounded_one (f mode : Int) (neg c0 c1 c2 c3 c4 : Bool) {xs : List Int} (i : Nat) (hi : i + 1 < 10) (a c L : Nat) (r : Int × Bool × Bool × Bool × Bool × Bool) (ra : rd xs ((i + 1 : Nat) : Int) = (a : Int)) (rc : rd xs (i : Int) = (c : Int)) (ha : a ≠ 0) (hc : c < 18446744073709551616) (n1 : L ≤ 64) (n4 : a < 2 ^ L)
    (hln : Ev (fun n => annealref1_Len.f n (a : Int)) (L : Int))
    (fin : ∀ (more : Bool) (top : Int), top = (i : Int) + 1 → more = decide (c % 2 ^ L ≠ 0) →
          Ev2 (fun k n => annealref1_rounded.l19 k n ((0 : Nat) : Int) more (64 * ((i : Int) + 1) - 298 - (64 - (L : Int))) ((a * 2 ^ (64 - L) + c / 2 ^ L : Nat) : Int) top mode f c0 c1 c2 c3 c4 neg xs) r) :
    Ev2 (fun k n => annealref1_rounded.l2 k n ((i + 1 : Nat) : Int) mode f c0 c1 c2 c3 c4 neg xs) r := by
  obtain ⟨j0, j1, jp, hw, k0, k1, tp⟩ := idx_small i hi
  obtain ⟨w1, l0, l1⟩ := len_small L n1
  have za := natCast_ne ha
  have w2 := (wide_exp i L (Nat.lt_of_succ_lt hi) n1).1
  refine Ev2.step (fun k n => by rw [annealref1_rounded.l2_eq, if_pos j0, if_pos j1, ra, if_neg za, if_pos j0, if_pos j1]) (Ev2.bind hln ?_)
  by_cases full : L = 64
  · have f1 : ((L : Int) = 64) := by rw [full]; rfl
    have f2 : ¬ ((L : Int) < 64) := by rw [f1]; decide
    have sg : a * 2 ^ (64 - L) + c / 2 ^ L = a := by rw [full]; exact full_sig a c hc
    have more : (!((c : Int) == 0)) = decide (c % 2 ^ L ≠ 0) := by rw [full]; exact full_more c hc
    rw [sg] at fin
    refine Ev2.congr (fun k n => by
      rw [if_pos j0, if_pos j1, if_pos jp, w1, if_pos l1, hw, if_pos k0, if_pos k1, if_pos l0, if_pos f1, if_pos j0, if_pos j1, if_pos k0, if_pos k1, if_neg f2, w2, rc, more]) ?_
    exact (fin _ _ tp rfl).inner
  · have f1 : ¬ ((L : Int) = 64) := fun e => full (by clear n4 fin hln; omega)
    have f2 : (L : Int) < 64 := by clear n4 fin hln; omega
    have sg := part_sig a c L n1 hc n4
    have more := part_more c L n1
    refine Ev2.congr (fun k n => by
      rw [if_pos j0, if_pos j1, if_pos jp, w1, if_pos l1, hw, if_pos k0, if_pos k1, if_pos l0, if_neg f1, if_pos k0, if_pos k1, if_pos f2, if_pos l1, w2, rc, sg, more]) ?_
    exact (fin _ _ tp rfl).inner
theorem rounded_l2 (f mode : Int) (neg c0 c1 c2 c3 c4 : Bool) {xs : List Int} (hx : Lims xs) (j : Nat) : j < 10 → lo xs (j + 1) ≠ 0 →
    Ev2 (fun k n => annealref1_rounded.l2 k n (j : Int) mode f c0 c1 c2 c3 c4 neg xs) ((packN f mode neg (-298) (lo xs (j + 1)) false : Int), false, false, excN f mode neg (-298) (lo xs (j + 1)) false) := by
  induction j with
  | zero =>
    intro _ h
    rw [lo_succ, lo_none, Nat.zero_add, Nat.mul_zero, Nat.pow_zero, Nat.mul_one] at h ⊢
    have h1 := hx.lt 0
    have hp := ref_pack_ev f mode neg (-298) (lim xs 0) false h1
    rw [clampE_id _ (by omega) (by omega)] at hp
    have w0 : wrap64 (wrap64 (64 * ((0 : Nat) : Int)) - 298) = -298 := by unfold wrap64; omega
    have r0 := hx.rd 0
    refine Ev2.step (fun k n => by rw [annealref1_rounded.l2_eq, if_pos (by decide), if_pos (by decide), r0, if_neg (by omega), if_pos (by decide), if_pos (by decide)]) ?_
    refine Ev2.bind (ref_len_ev _ h1) ?_
    refine Ev2.congr (fun k n => by rw [if_pos (by decide), if_pos (by decide), if_neg (by decide), w0]) ?_
    exact Ev2.bind hp (Ev2.now _)
  | succ i ih =>
    intro hj h
    have j0 : (0 : Int) ≤ ((i + 1 : Nat) : Int) := by omega
    have j1 : ((i + 1 : Nat) : Int) < 10 := by omega
    have jp : (0 : Int) < ((i + 1 : Nat) : Int) := by omega
    have hw : wrap64 (((i + 1 : Nat) : Int) - 1) = (i : Int) := by rw [w64_id _ (by omega) (by omega)]; omega
    have k0 : (0 : Int) ≤ (i : Int) := by omega
    have k1 : (i : Int) < 10 := by omega
    by_cases z : lim xs (i + 1) = 0
    · have e : lo xs (i + 1 + 1) = lo xs (i + 1) := by rw [lo_succ xs (i + 1), z, Nat.zero_mul, Nat.add_zero]
      rw [e] at h ⊢
      refine Ev2.step (fun k n => by rw [annealref1_rounded.l2_eq, if_pos j0, if_pos j1, hx.rd (i + 1), if_pos (by rw [z]; rfl), hw]) ?_
      exact ih (by omega) h
    · obtain ⟨p1, p2, p3⟩ := rounded_low f mode i neg hx (by omega) z
      have ha := hx.lt (i + 1)
      have hc := hx.lt i
      have ra := hx.rd (i + 1)
      have rc := hx.rd i
      have n1 := lenN_bound _ 64 ha
      have n2 := lenN_pos _ z
      have n4 := lenN_lt (lim xs (i + 1))
      have hln := ref_len_ev _ ha
      have fin : ∀ (more : Bool) (top : Int), top = (i : Int) + 1 → more = decide (lim xs i % 2 ^ lenN (lim xs (i + 1)) ≠ 0) →
          Ev2 (fun k n => annealref1_rounded.l19 k n ((0 : Nat) : Int) more (64 * ((i : Int) + 1) - 298 - (64 - (lenN (lim xs (i + 1)) : Int))) ((lim xs (i + 1) * 2 ^ (64 - lenN (lim xs (i + 1))) + lim xs i / 2 ^ lenN (lim xs (i + 1)) : Nat) : Int) top mode f c0 c1 c2 c3 c4 neg xs) ((packN f mode neg (-298) (lo xs (i + 1 + 1)) false : Int), false, false, excN f mode neg (-298) (lo xs (i + 1 + 1)) false) := by
        intro more top ht hm
        refine rounded_l19 f mode _ _ top i neg c0 c1 c2 c3 c4 hx _ ht (by omega) i 0 more (by omega) ?_
        rw [anyL_lo, hm, p1, p2]
        have hp := ref_pack_ev f mode neg (64 * ((i : Int) + 1) - 298 - (64 - (lenN (lim xs (i + 1)) : Int))) (lim xs (i + 1) * 2 ^ (64 - lenN (lim xs (i + 1))) + lim xs i / 2 ^ lenN (lim xs (i + 1))) (decide (lim xs i % 2 ^ lenN (lim xs (i + 1)) ≠ 0) || decide (lo xs i ≠ 0)) p3
        have we := wide_exp i (lenN (lim xs (i + 1))) (Nat.lt_of_succ_lt hj) n1
        rw [clampE_id _ we.2.1 we.2.2] at hp
        exact hp
      exact rounded_one f mode neg c0 c1 c2 c3 c4 i hj _ _ _ _ (hx.rd (i + 1)) (hx.rd i) z hc n1 n4 hln fin
end Go.Proofs.Ytejkemahdincjaa.Round

/- Sums to all bits that rounding asks for: the program's, as plain numbers. -/
namespace Go.Proofs.Ytejkemahdincjaa.Round
open Go.RowKit Go.Proofs.Ytejkemahdincjaa.P Go.Proofs.Ytejkemahdincjaa.Num Go.Proofs.Ytejkemahdincjaa.BitsF Go.Proofs.Ytejkemahdincjaa.Fmt Go.Proofs.YtejkemahdincjaaW.PrintWords Go.Proofs.YtejkemahdincjaaW.PrintLast Go.Proofs.YtejkemahdincjaaW.PrintMore

theorem up_shift (v n : Nat) (h : v * 2 ^ n < 18446744073709551616) : (shiftN v (-(n : Int))).1 = v * 2 ^ n := by
 have hp := Nat.two_pow_pos n
 have hv : v < 18446744073709551616 := Nat.lt_of_le_of_lt (Nat.le_mul_of_pos_right v hp) h
 rw [shiftN_left v n hv]
 exact Nat.mod_eq_of_lt h
theorem full_ev (n : Bool) (e : Int) (s : Nat) (m : Bool) (h : s ≠ 0) (h' : s < 4611686018427387904) (l : -100000 ≤ e) (l' : e ≤ 100000) : Ev (fun k => sum_full.f k n e (s : Int) m) (n, e - (gapN s : Int), ((s * 2 ^ gapN s : Nat) : Int), m) := by
 obtain ⟨a1, a2, a3, a4⟩ := gap_bounds s h h'
 have hw : wrap64 (62 - (lenN s : Int)) = (gapN s : Int) := by rw [w64_id _ (by omega) (by omega)]; omega
 refine Ev.congr (fun k => by unfold sum_full.f; rfl) (Ev.bind (len_ev s (by omega)) ?_)
 rw [hw, w64_id (-(gapN s : Int)) (by omega) (by omega), w64_id (e - (gapN s : Int)) (by omega) (by omega)]
 refine Ev.bind (shift_ev s (by omega) (-(gapN s : Int)) (by omega) (by omega)) ?_
 dsimp only
 rw [up_shift _ _ (by omega)]
 exact Ev.now _
def castE (r : Bool × Int × Nat × Bool) : Bool × Int × Int × Bool := (r.1, r.2.1, (r.2.2.1 : Int), r.2.2.2)
theorem sub_w (A L : Nat) (h : L ≤ A) (hA : A < 18446744073709551616) : IntKind.u64.wrap ((A : Int) - (L : Int)) = ((A - L : Nat) : Int) := by rw [u64_wrap]; omega
theorem sub_one_w (A L : Nat) (h : L + 1 ≤ A) (hA : A < 18446744073709551616) : IntKind.u64.wrap (((A - L : Nat) : Int) - 1) = ((A - L - 1 : Nat) : Int) := by rw [u64_wrap]; omega
theorem meet_ev (na : Bool) (Ea : Int) (A : Nat) (nb : Bool) (Eb : Int) (B : Nat) (h : Eb ≤ Ea) (h0 : Ea = Eb → B ≤ A) (a1 : 2305843009213693952 ≤ A) (a2 : A < 4611686018427387904) (b2 : B < 4611686018427387904) (l1 : -200000 ≤ Eb) (l2 : Ea ≤ 200000) :
  Ev (fun k => sum_Exact.j1 k na Ea (A : Int) false nb Eb (B : Int) false) (castE (meetN na Ea A nb Eb B)) := by
 obtain ⟨d, hd⟩ : ∃ d : Nat, Ea - Eb = (d : Int) := ⟨(Ea - Eb).toNat, by omega⟩
 have hlow : B / 2 ^ d ≤ A ∧ (B % 2 ^ d ≠ 0 → B / 2 ^ d + 1 ≤ A) := by
  rcases Nat.eq_zero_or_pos d with c | c
  ·subst c
   have := h0 (by omega)
   rw [Nat.pow_zero, Nat.div_one, Nat.mod_one]; omega
  ·have h2 : 2 ^ 1 ≤ 2 ^ d := Nat.pow_le_pow_right (by decide) c
   have h3 : B / 2 ^ d ≤ B / 2 := Nat.div_le_div_left h2 (by decide)
   omega
 have hl62 : B / 2 ^ d < 4611686018427387904 := Nat.lt_of_le_of_lt (Nat.div_le_self _ _) b2
 refine Ev.step (fun k => by rw [sum_Exact.j1, w64_id (Ea - Eb) (by omega) (by omega), hd]) (Ev.bind (shift_ev B (by omega) (d : Int) (by omega) (by omega)) ?_)
 rw [shiftN_right]
 dsimp only
 unfold meetN castE
 rw [hd, Int.toNat_natCast]
 by_cases n : na = nb
 ·subst n
  rw [if_pos rfl]
  refine Ev.congr (fun k => ?_) (Ev.now _)
  rw [if_pos (beq_self_eq_true na), ← Int.natCast_add, u64_id _ (by omega)]
 ·rw [if_neg n]
  have hb : ¬ (na == nb) = true := by rw [beq_iff_eq]; exact n
  by_cases o : B % 2 ^ d ≠ 0
  ·have := hlow.2 o
   rw [if_pos o]
   refine Ev.congr (fun k => ?_) (show Ev (fun k => sum_Exact.j2 k na Ea ((A - B / 2 ^ d - 1 : Nat) : Int) (decide (B % 2 ^ d ≠ 0))) (na, Ea, ((A - B / 2 ^ d - 1 : Nat) : Int), decide (B % 2 ^ d ≠ 0)) from Ev.step (fun k => by rw [sum_Exact.j2]) (Ev.now _))
   rw [if_neg hb, if_pos (decide_eq_true o)]
   rw [sub_w A _ hlow.1 (by omega), sub_one_w A _ this (by omega)]
  ·rw [if_neg o, Nat.sub_zero]
   refine Ev.congr (fun k => ?_) (show Ev (fun k => sum_Exact.j2 k na Ea ((A - B / 2 ^ d : Nat) : Int) (decide (B % 2 ^ d ≠ 0))) (na, Ea, ((A - B / 2 ^ d : Nat) : Int), decide (B % 2 ^ d ≠ 0)) from Ev.step (fun k => by rw [sum_Exact.j2]) (Ev.now _))
   rw [if_neg hb, if_neg (show ¬ decide (B % 2 ^ d ≠ 0) = true by rw [decide_eq_true_iff]; exact o)]
   rw [sub_w A _ hlow.1 (by omega)]
theorem exact_ev (n1 : Bool) (e1 : Int) (s1 : Nat) (n2 : Bool) (e2 : Int) (s2 : Nat) (h1 : s1 < 4611686018427387904) (h2 : s2 < 4611686018427387904) (l1 : -100000 ≤ e1) (l1' : e1 ≤ 100000) (l2 : -100000 ≤ e2) (l2' : e2 ≤ 100000) :
  Ev (fun k => sum_Exact.f k n1 e1 (s1 : Int) false n2 e2 (s2 : Int) false) (castE (exactN n1 e1 s1 n2 e2 s2)) := by
 refine Ev.congr (fun k => by unfold sum_Exact.f; rfl) ?_
 unfold exactN
 by_cases z1 : s1 = 0
 ·rw [if_pos z1]
  exact Ev.congr (fun k => by rw [if_pos (by omega)]; rfl) (Ev.now _)
 ·rw [if_neg z1]
  by_cases z2 : s2 = 0
  ·rw [if_pos z2]
   exact Ev.congr (fun k => by rw [if_neg (by omega), if_pos (by omega)]; rfl) (Ev.now _)
  ·rw [if_neg z2]
   obtain ⟨a1, a2, a3, a4⟩ := gap_bounds s1 z1 h1
   obtain ⟨b1, b2, b3, b4⟩ := gap_bounds s2 z2 h2
   refine Ev.congr (fun k => by rw [if_neg (by omega), if_neg (by omega)]) (Ev.bind (full_ev n1 e1 s1 false z1 h1 l1 l1') (Ev.bind (full_ev n2 e2 s2 false z2 h2 l2 l2') ?_))
   dsimp only
   generalize hE1 : e1 - (gapN s1 : Int) = E1 at *
   generalize hE2 : e2 - (gapN s2 : Int) = E2 at *
   generalize s1 * 2 ^ gapN s1 = A at *
   generalize s2 * 2 ^ gapN s2 = B at *
   have swap : (E1 < E2 ∨ E1 = E2 ∧ A < B) → Ev (fun k => sum_Exact.j0 k true n1 E1 (A : Int) false n2 E2 (B : Int) false) (castE (if E1 < E2 ∨ E1 = E2 ∧ A < B then meetN n2 E2 B n1 E1 A else meetN n1 E1 A n2 E2 B)) := by
    intro c
    rw [if_pos c]
    exact Ev.step (fun k => by rw [sum_Exact.j0, if_pos rfl]) (meet_ev n2 E2 B n1 E1 A (by omega) (by omega) b3 b4 a4 (by omega) (by omega))
   have stay : ¬ (E1 < E2 ∨ E1 = E2 ∧ A < B) → Ev (fun k => sum_Exact.j0 k false n1 E1 (A : Int) false n2 E2 (B : Int) false) (castE (if E1 < E2 ∨ E1 = E2 ∧ A < B then meetN n2 E2 B n1 E1 A else meetN n1 E1 A n2 E2 B)) := by
    intro c
    rw [if_neg c]
    exact Ev.step (fun k => by rw [sum_Exact.j0, if_neg (by decide)]) (meet_ev n1 E1 A n2 E2 B (by omega) (by omega) a3 a4 b4 (by omega) (by omega))
   by_cases c1 : E1 < E2
   ·exact Ev.congr (fun k => by rw [if_pos c1]) (swap (.inl c1))
   ·by_cases c2 : E1 = E2
    ·by_cases c3 : A < B
     ·exact Ev.congr (fun k => by rw [if_neg c1, if_pos c2, decide_eq_true (show (A : Int) < (B : Int) by omega)]) (swap (.inr ⟨c2, c3⟩))
     ·exact Ev.congr (fun k => by rw [if_neg c1, if_pos c2, decide_eq_false (show ¬ (A : Int) < (B : Int) by omega)]) (stay (by omega))
    ·exact Ev.congr (fun k => by rw [if_neg c1, if_neg c2]) (stay (by omega))
theorem exact_bounds (n1 : Bool) (e1 : Int) (s1 : Nat) (n2 : Bool) (e2 : Int) (s2 : Nat) (h1 : s1 < 4611686018427387904) (h2 : s2 < 4611686018427387904) (l1 : -1000 ≤ e1) (l1' : e1 ≤ 1000) (l2 : -1000 ≤ e2) (l2' : e2 ≤ 1000) :
  -1100 ≤ (exactN n1 e1 s1 n2 e2 s2).2.1 ∧ (exactN n1 e1 s1 n2 e2 s2).2.1 ≤ 1000 ∧ (exactN n1 e1 s1 n2 e2 s2).2.2.1 < 9223372036854775808 := by
 have meet : ∀ (na : Bool) (Ea : Int) (A : Nat) (nb : Bool) (Eb : Int) (B : Nat), A < 4611686018427387904 → B < 4611686018427387904 → (meetN na Ea A nb Eb B).2.1 = Ea ∧ (meetN na Ea A nb Eb B).2.2.1 < 9223372036854775808 := by
  intro na Ea A nb Eb B ha hb
  have hl := Nat.div_le_self B (2 ^ (Ea - Eb).toNat)
  unfold meetN
  by_cases n : na = nb
  ·rw [if_pos n]; exact ⟨rfl, by show A + B / 2 ^ (Ea - Eb).toNat < _; omega⟩
  ·rw [if_neg n]; exact ⟨rfl, Nat.lt_of_le_of_lt (Nat.le_trans (Nat.sub_le _ _) (Nat.sub_le _ _)) (show A < 9223372036854775808 by omega)⟩
 unfold exactN
 by_cases z1 : s1 = 0
 ·rw [if_pos z1]; dsimp only; omega
 ·rw [if_neg z1]
  by_cases z2 : s2 = 0
  ·rw [if_pos z2]; dsimp only; omega
  ·rw [if_neg z2]
   obtain ⟨a1, a2, a3, a4⟩ := gap_bounds s1 z1 h1
   obtain ⟨b1, b2, b3, b4⟩ := gap_bounds s2 z2 h2
   split
   ·have := meet n2 (e2 - (gapN s2 : Int)) _ n1 (e1 - (gapN s1 : Int)) _ b4 a4; omega
   ·have := meet n1 (e1 - (gapN s1 : Int)) _ n2 (e2 - (gapN s2 : Int)) _ a4 b4; omega
end Go.Proofs.Ytejkemahdincjaa.Round
